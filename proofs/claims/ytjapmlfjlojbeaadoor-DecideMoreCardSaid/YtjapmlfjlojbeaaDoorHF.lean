/- acl.Match and the reference's Match in the form that the printed callers want. Conditions: those of the contracts' statements. -/
import Derived.Test.YtjapmlfjlojbeaaDoorHR
namespace Go.Proofs.YtjapmlfjlojbeaaDoor.PA
open Go.RowKit Go.Proofs.YtjapmlfjlojbeaaDoorW.PrintWords Go.Proofs.YtjapmlfjlojbeaaDoorW.PrintLast Go.Proofs.YtjapmlfjlojbeaaDoorW.PrintMore
set_option linter.unusedVariables false
set_option linter.unusedSimpArgs false

set_option maxHeartbeats 4000000 in
theorem match_any (A : Option Addr) (c : Nat) (l : List S30) (b : Nat) (ok : Nat → Prop) (A1 : Option Addr) (c1 : Nat) (path : List ByteArray) (w : World) (hl : Kd.V k30 30 w b ok (.slice A l.length c) l) (hok : ∀ k, ok k → k < w.heap.size)
    (hr : Kd.C Kd.string w A1 path.length path) (hc : path.length ≤ c1) :
    Calls Tryd.prog 16 #[.slice A l.length c, .slice A1 path.length c1] w fun e w' =>
      ∃ v0 v1, e = .returned (.agg #[v0, v1, .bool (mval l path).f2, .string (mval l path).f3]) ∧ RV w' ok v0 v1 (mval l path) ∧ Below w.heap.size w w' := by
  have hu := Tryd.underlying30
  have HL := Aside0.mk hl
  have HR := Aside0.mk hr
  have HK := Aside0.mk hok
  clear hl hr hok
  have HB := Aside0.mk (below_alloc (below_alloc (Below.refl w.heap.size w) (.cells #[.slice A1 path.length c1] 23)) (.cells #[.slice none 0 0, .slice none 0 0, .bool false, .string ⟨#[]⟩] 30))
  have hg : ((w.alloc (.cells #[.slice A1 path.length c1] 23)).alloc (.cells #[.slice none 0 0, .slice none 0 0, .bool false, .string ⟨#[]⟩] 30)).cell? ⟨w.heap.size, 0, none⟩ = some (.slice A1 path.length c1) :=
    (blk_cell (blk_alloc (blk_new w (.cells #[.slice A1 path.length c1] 23)) _) 0).trans rfl
  have NB := Aside0.mk (blk_new (w.alloc (.cells #[.slice A1 path.length c1] 23)) (.cells #[.slice none 0 0, .slice none 0 0, .bool false, .string ⟨#[]⟩] 30))
  have HG := Aside0.mk hg
  clear hg
  go_enter Tryd.func16, Tryd.ntmps16
  go_wp2_with (fail)
  refine (best_any A c l b w.heap.size ok A1 c1 path _ (Kd.V_below HL.out HB.out) (fun k hk => by have := HK.out k hk; simp; omega) HG.out (Kd.C_below HR.out HB.out) hc).mono ?_
  rintro e w5 ⟨v0, v1, rfl, hrv, hb5⟩
  have B5 : w5.heap[w.heap.size + 1]? = some (.cells #[.slice none 0 0, .slice none 0 0, .bool false, .string ⟨#[]⟩] 30 (0, 0)) := by
    have h := blk_below NB.out hb5
    simpa using h
  have BX := Aside0.mk B5
  have HB5 := Aside0.mk (below_step HB.out hb5)
  have RX := Aside0.mk hrv
  obtain ⟨X0, C0, X1, C1, rfl, rfl, _, _, _, _⟩ := hrv.slices
  have p0 : w5.cell? ⟨w.heap.size + 1, 0, none⟩ = some (.slice none 0 0) := (blk_cell B5 0).trans rfl
  have p1 : w5.cell? ⟨w.heap.size + 1, 1, none⟩ = some (.slice none 0 0) := (blk_cell B5 1).trans rfl
  have p2 : w5.cell? ⟨w.heap.size + 1, 2, none⟩ = some (.bool false) := (blk_cell B5 2).trans rfl
  have p3 : w5.cell? ⟨w.heap.size + 1, 3, none⟩ = some (.string ⟨#[]⟩) := (blk_cell B5 3).trans rfl
  have f0 := blk_frozen B5 0
  have f1 := blk_frozen B5 1
  have f2 := blk_frozen B5 2
  have f3 := blk_frozen B5 3
  obtain ⟨y, hy⟩ : ∃ y, bestGo path l (-1) z30 = y := ⟨_, rfl⟩
  have HY : Aside0 (mval l path = y) := ⟨hy⟩
  rw [hy] at RX ⊢
  clear hb5 hrv B5 hy
  go_wp2
  refine bodyPost_ret (results_cell_row rfl _ _ (w.heap.size + 1) 30 #[.slice X0 y.f0.length C0, .slice X1 y.f1.length C1, .bool y.f2, .string y.f3] (0, 0) _ rfl (st4_blk BX.out _ _ _ _) Tryd.underlying30 rfl (by kernel_rfl)) rfl ?_
  rw [HY.out]
  exact ⟨_, _, rfl, st4_rv RX.out (fun k hk => by have := HK.out k hk; omega) _ _ _ _, st4_below HB5.out (by omega) _ _ _ _⟩

def doorkeeperref22_Match.f (k : Nat) (l0 : List (S30)) (l1 : List ByteArray) : Option (List ByteArray × (List (S39)) × Bool × ByteArray) := some ((mval l0 l1).f0, (mval l0 l1).f1, (mval l0 l1).f2, (mval l0 l1).f3)
theorem doorkeeperref22_Match.mono : ∀ a0 a1 k, LeO (doorkeeperref22_Match.f k a0 a1) (doorkeeperref22_Match.f (k + 1) a0 a1) := fun _ _ _ => LeO.refl _
theorem doorkeeperref22_Match.calls (k : Nat) (P0_ : Nat → Prop) (A0 : Option Addr) (c0 : Nat) (l0 : List (S30)) (A1 : Option Addr) (c1 : Nat) (l1 : List ByteArray) (r1 : List ByteArray) (r2 : List (S39)) (r3 : Bool) (r4 : ByteArray) (w : World) (hs0 : Kd.V k30 30 w w.heap.size (fun k_ => P0_ k_) (.slice A0 l0.length c0) l0) (hr1 : Kd.C Kd.string w A1 l1.length l1) (hc1 : l1.length ≤ c1) (h : doorkeeperref22_Match.f k l0 l1 = some (r1, r2, r3, r4)) :
    Calls Tryd.prog 17 #[.slice A0 l0.length c0, .slice A1 l1.length c1] w fun e w' => ∃ v0_ v1_ : Value, e = .returned (.agg #[v0_, v1_, .bool r3, .string r4]) ∧ Kd.V Kd.string 9 w' w.heap.size (fun k_ => (P0_ k_ ∨ w.heap.size ≤ k_)) v0_ r1 ∧ Kd.V k39 39 w' w.heap.size (fun k_ => (P0_ k_ ∨ w.heap.size ≤ k_)) v1_ r2 ∧ Below w.heap.size w w' := by
  unfold doorkeeperref22_Match.f at h
  simp only [Option.some.injEq, Prod.mk.injEq] at h
  obtain ⟨rfl, rfl, rfl, rfl⟩ := h
  refine (refMatch_any A0 c0 l0 w.heap.size (fun k_ => P0_ k_ ∧ k_ < w.heap.size) A1 c1 l1 w (Kd.V_bound hs0) (fun _ h => h.2) hr1 hc1).mono ?_
  rintro e w' ⟨v0, v1, rfl, hrv, hb⟩
  exact ⟨v0, v1, rfl, Kd.V_mono hrv.f0 (fun _ h => .inl h.1), Kd.V_mono hrv.f1 (fun _ h => .inl h.1), hb⟩
def acl_Match.f (k : Nat) (l0 : List (S30)) (l1 : List ByteArray) : Option (List ByteArray × (List (S39)) × Bool × ByteArray) := some ((mval l0 l1).f0, (mval l0 l1).f1, (mval l0 l1).f2, (mval l0 l1).f3)
theorem acl_Match.mono : ∀ a0 a1 k, LeO (acl_Match.f k a0 a1) (acl_Match.f (k + 1) a0 a1) := fun _ _ _ => LeO.refl _
theorem acl_Match.calls (k : Nat) (P0_ : Nat → Prop) (A0 : Option Addr) (c0 : Nat) (l0 : List (S30)) (A1 : Option Addr) (c1 : Nat) (l1 : List ByteArray) (r1 : List ByteArray) (r2 : List (S39)) (r3 : Bool) (r4 : ByteArray) (w : World) (hs0 : Kd.V k30 30 w w.heap.size (fun k_ => P0_ k_) (.slice A0 l0.length c0) l0) (hr1 : Kd.C Kd.string w A1 l1.length l1) (hc1 : l1.length ≤ c1) (h : acl_Match.f k l0 l1 = some (r1, r2, r3, r4)) :
    Calls Tryd.prog 16 #[.slice A0 l0.length c0, .slice A1 l1.length c1] w fun e w' => ∃ v0_ v1_ : Value, e = .returned (.agg #[v0_, v1_, .bool r3, .string r4]) ∧ Kd.V Kd.string 9 w' w.heap.size (fun k_ => (P0_ k_ ∨ w.heap.size ≤ k_)) v0_ r1 ∧ Kd.V k39 39 w' w.heap.size (fun k_ => (P0_ k_ ∨ w.heap.size ≤ k_)) v1_ r2 ∧ Below w.heap.size w w' := by
  unfold acl_Match.f at h
  simp only [Option.some.injEq, Prod.mk.injEq] at h
  obtain ⟨rfl, rfl, rfl, rfl⟩ := h
  refine (match_any A0 c0 l0 w.heap.size (fun k_ => P0_ k_ ∧ k_ < w.heap.size) A1 c1 l1 w (Kd.V_bound hs0) (fun _ h => h.2) hr1 hc1).mono ?_
  rintro e w' ⟨v0, v1, rfl, hrv, hb⟩
  exact ⟨v0, v1, rfl, Kd.V_mono hrv.f0 (fun _ h => .inl h.1), Kd.V_mono hrv.f1 (fun _ h => .inl h.1), hb⟩
end Go.Proofs.YtjapmlfjlojbeaaDoor.PA
