/- The laws' awake of layer 9 returns true. No conditions. -/
import Derived.Test.YtieamfgiagnafaaSp
namespace Go.Proofs.Ytieamfgiagnafaa.Rd
open Go.RowKit Go.Proofs.YtieamfgiagnafaaW.PrintWords Go.Proofs.YtieamfgiagnafaaW.PrintLast Go.Proofs.YtieamfgiagnafaaW.PrintMore
set_option linter.unusedVariables false
set_option linter.unusedSimpArgs false

theorem split_ab_eq : splitP ⟨#[97, 13, 10, 98]⟩ 10 = ([⟨#[97]⟩], 4, 0) := by kernel_rfl
theorem split_lf_eq : splitP ⟨#[10]⟩ 10 = ([], 1, 2) := by kernel_rfl
theorem put_x_eq : (St.new 1).put 120 = ⟨1, [120], ⟨#[]⟩, false, true, 0⟩ := by kernel_rfl
theorem put_y_eq : St.put ⟨1, [120], ⟨#[]⟩, false, true, 0⟩ 121 = ⟨1, [120], ⟨#[]⟩, false, true, 3⟩ := by kernel_rfl

theorem split_ab (w : World) : Calls Try.prog 9 #[.string ⟨#[97, 13, 10, 98]⟩, .int .i64 10] w fun e w' =>
    ∃ (ad : Addr) (c : Nat), e = .returned (.tuple #[.slice (some ad) 1 c, .int .i64 4, .int .i64 0]) ∧ w'.cell? ad = some (.string ⟨#[97]⟩) ∧ Below w.heap.size w w' := by
  refine (split_any _ _ w (by decide)).mono ?_
  rintro e w' ⟨v, rfl, hR, hB⟩
  rw [split_ab_eq] at hR ⊢
  obtain ⟨A, c, rfl, hc, hC⟩ := Kd.R_reads hR
  obtain ⟨ad, rfl, h⟩ := hC.2.2 (by simp)
  obtain ⟨cs, _, hk, hcell⟩ := h 0 ⟨#[97]⟩ rfl
  refine ⟨ad, c, rfl, ?_, hB⟩
  have hk' : cs = [.string ⟨#[97]⟩] := hk
  subst hk'
  simpa [Addr.add] using hcell 0 _ rfl
theorem split_lf (w : World) : Calls Try.prog 9 #[.string ⟨#[10]⟩, .int .i64 10] w fun e w' =>
    ∃ (v : Value), e = .returned (.tuple #[v, .int .i64 1, .int .i64 2]) ∧ Below w.heap.size w w' := by
  refine (split_any _ _ w (by decide)).mono ?_
  rintro e w' ⟨v, rfl, hR, hB⟩
  rw [split_lf_eq]
  exact ⟨v, rfl, hB⟩

set_option maxHeartbeats 1000000 in
theorem awake_any (w : World) : Calls Try.prog 7 #[] w fun e w' => e = .returned (.bool true) ∧ Below w.heap.size w w' := by
  go_enter Try.func7, Try.ntmps7
  go_wp2_with (fail)
  refine (split_ab _).mono ?_
  rintro e w1 ⟨ad, c, rfl, hcell, hb1⟩
  go_wp2_with (fail)
  refine (split_lf _).mono ?_
  rintro e w2 ⟨v, rfl, hb2⟩
  have hc2 := pw_cell_below hb2 hcell
  have HB := Aside0.mk (below_then hb1 hb1.size hb2)
  clear hb1 hb2 hcell
  go_wp2_with (fail)
  refine (new_any 1 _).mono ?_
  rintro e w3 ⟨rfl, rfl⟩
  have HR := Aside0.mk (new_isR (w := w2) (B := w.heap.size) 1 HB.out.size)
  have hlt := World.block_lt_of_cell? w2 ad hc2
  go_wp2_with (fail)
  refine (put_any w.heap.size w2.heap.size none (St.new 1) 120 _ HR.out (by have := HB.out.size; simp; omega) (by simp [St.new])).mono ?_
  rw [put_x_eq]
  rintro e w4 ⟨rfl, o1, hr4, hn4, hk4⟩
  have H4 := Aside0.mk hr4
  have N4 := Aside0.mk hn4
  have K4 := Aside0.mk hk4
  clear hr4 hn4 hk4
  go_wp2_with (fail)
  refine (put_any w.heap.size w2.heap.size o1 _ 121 _ H4.out (by have := HB.out.size; have h4 := K4.out.size; simp at h4; omega) (by simp)).mono ?_
  rw [put_y_eq]
  rintro e w5 ⟨rfl, o2, hr5, hn5, hk5⟩
  have hk := K4.out.trans hk5 N4.out
  have hblk : ∀ i, i < w2.heap.size → w5.heap[i]? = w2.heap[i]? := fun i hi => (hk.block i (by simp; omega) (by omega) (by simp)).trans (Below.heap_alloc _ _ _ hi)
  have hc5 : w5.cell? ad = some (.string ⟨#[97]⟩) := by rw [World.cell?_of_block (hblk _ hlt)]; exact hc2
  have HB5 : Aside0 (Below w.heap.size w w5) := ⟨⟨hk.os.trans HB.out.os, hk.tape.trans HB.out.tape, hk.output.trans HB.out.output, by have := hk.size; have := HB.out.size; simp at *; omega, fun i hi => (hblk i (by have := HB.out.size; omega)).trans (HB.out.block i hi)⟩⟩
  clear hk hblk hk5 hn5 hr5 hc2 hlt HR H4 N4 K4 HB
  go_wp2_with (first
    | (go_at_call 12; refine (put_nil _ _).mono ?_; rintro e w' ⟨rfl, rfl⟩)
    | (go_at_call 13; refine (line_nil _).mono ?_; rintro e w' ⟨rfl, rfl⟩)
    | (go_at_call 14; refine (open_nil _).mono ?_; rintro e w' ⟨rfl, rfl⟩))
  go_ret
  exact ⟨rfl, HB5.out⟩
end Go.Proofs.Ytieamfgiagnafaa.Rd
