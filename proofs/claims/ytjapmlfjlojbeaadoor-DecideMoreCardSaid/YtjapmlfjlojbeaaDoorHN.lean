/- decide.Name, walked: the names of the reference. Conditions: the table of names is laid. -/
import Derived.Test.YtjapmlfjlojbeaaDoorRL
import Derived.Test.YtjapmlfjlojbeaaDoorPBk
namespace Go.Proofs.YtjapmlfjlojbeaaDoor.PA
open Go.RowKit Go.Proofs.YtjapmlfjlojbeaaDoorW.PrintWords Go.Proofs.YtjapmlfjlojbeaaDoorW.PrintLast Go.Proofs.YtjapmlfjlojbeaaDoorW.PrintMore
set_option linter.unusedVariables false
set_option linter.unusedSimpArgs false

def decide_Name.f (a0 : Int) : Option ByteArray := doorkeeperref23_Name.f a0
set_option maxHeartbeats 4000000 in
theorem decide_Name.calls (a0 : Int) (r : ByteArray) (w : World) (h : decide_Name.f a0 = some r) (hL : LaidN w) :
    Calls Tryd.prog 30 #[.int .i64 a0] w fun e w' => e = .returned (.string r) ∧ Drawn0 w w' := by
  obtain ⟨t, fr, hg⟩ := hL
  have HR := Aside0.mk h
  clear h
  by_cases h0 : a0 < 0
  · have E : Aside0 (r = ⟨#[]⟩) := ⟨by
      have := HR.out
      unfold decide_Name.f doorkeeperref23_Name.f at this
      rw [if_neg (by omega), if_neg (by omega), if_neg (by omega), if_neg (by omega)] at this
      exact (Option.some.inj this).symm⟩
    have b0 : decide (a0 < 0) = true := by simpa using h0
    clear hg
    go_enter Tryd.func30, Tryd.ntmps30
    go_wp2
    go_ret
    exact ⟨by rw [E.out]; rfl, .refl _⟩
  · by_cases h5 : 5 ≤ a0
    · have E : Aside0 (r = ⟨#[]⟩) := ⟨by
        have := HR.out
        unfold decide_Name.f doorkeeperref23_Name.f at this
        rw [if_neg (by omega), if_neg (by omega), if_neg (by omega), if_neg (by omega)] at this
        exact (Option.some.inj this).symm⟩
      have b0 : decide (a0 < 0) = false := by simpa using h0
      have b1 : decide (5 ≤ a0) = true := by simpa using h5
      clear hg
      go_enter Tryd.func30, Tryd.ntmps30
      go_wp2
      go_ret
      exact ⟨by rw [E.out]; rfl, .refl _⟩
    · have p0 : w.cell? ⟨0, 0, none⟩ = some (.string ⟨#[]⟩) := (cell_of_row w 0 0 _ t fr hg).trans rfl
      have p1 : w.cell? ⟨0, 1, none⟩ = some (.string ⟨#[97, 108, 108, 111, 119]⟩) := (cell_of_row w 0 1 _ t fr hg).trans rfl
      have p2 : w.cell? ⟨0, 2, none⟩ = some (.string ⟨#[99, 104, 97, 108, 108, 101, 110, 103, 101]⟩) := (cell_of_row w 0 2 _ t fr hg).trans rfl
      have p3 : w.cell? ⟨0, 3, none⟩ = some (.string ⟨#[104, 105, 100, 101]⟩) := (cell_of_row w 0 3 _ t fr hg).trans rfl
      have p4 : w.cell? ⟨0, 4, none⟩ = some (.string ⟨#[109, 101, 116, 104, 111, 100]⟩) := (cell_of_row w 0 4 _ t fr hg).trans rfl
      clear hg
      have hc : a0 = 0 ∨ a0 = 1 ∨ a0 = 2 ∨ a0 = 3 ∨ a0 = 4 := by omega
      clear h0 h5
      rcases hc with rfl | rfl | rfl | rfl | rfl
      all_goals obtain rfl := Option.some.inj HR.out
      all_goals go_enter Tryd.func30, Tryd.ntmps30
      all_goals go_wp2
      all_goals go_ret
      all_goals exact ⟨rfl, .refl _⟩
end Go.Proofs.YtjapmlfjlojbeaaDoor.PA
