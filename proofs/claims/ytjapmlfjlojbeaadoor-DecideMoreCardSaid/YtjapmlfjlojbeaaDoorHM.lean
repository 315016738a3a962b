/- acl.Match, walked: it returns the rule that the reference returns. Conditions: those of the contract's statement. -/
import Derived.Test.YtjapmlfjlojbeaaDoorHE
namespace Go.Proofs.YtjapmlfjlojbeaaDoor.PA
open Go.RowKit Go.Proofs.YtjapmlfjlojbeaaDoorW.PrintWords Go.Proofs.YtjapmlfjlojbeaaDoorW.PrintLast Go.Proofs.YtjapmlfjlojbeaaDoorW.PrintMore
set_option linter.unusedVariables false
set_option linter.unusedSimpArgs false

def bestGo (path : List ByteArray) : List S30 → Int → S30 → S30
  | [], _, out => out
  | x :: l, most, out => if most < score x path then bestGo path l (score x path) x else bestGo path l most out


def z4 : Array Value := #[.slice none 0 0, .slice none 0 0, .bool false, .string ⟨#[]⟩]
structure BInv (w : World) (ok : Nat → Prop) (path : List ByteArray) (l : List S30) (wr : World) (k : Nat) (most : Int) (out : S30) (v0 v1 : Value) : Prop where
  b4 : wr.heap[w.heap.size]? = some (.cells #[.slice none 0 0, .slice none 0 0, .bool false, .string ⟨#[]⟩] 30 (0, 0))
  b5 : wr.heap[w.heap.size + 1]? = some (.cells #[v0, v1, .bool out.f2, .string out.f3] 30 (0, 0))
  rv : RV wr ok v0 v1 out
  go : bestGo path (l.drop k) most out = bestGo path l (-1) z30
  below : Below w.heap.size w wr

set_option maxHeartbeats 4000000 in
theorem best_any (A : Option Addr) (c : Nat) (l : List S30) (b gp : Nat) (ok : Nat → Prop) (A1 : Option Addr) (c1 : Nat) (path : List ByteArray) (w : World) (hl : Kd.V k30 30 w b ok (.slice A l.length c) l) (hok : ∀ k, ok k → k < w.heap.size)
    (hp : w.cell? ⟨gp, 0, none⟩ = some (.slice A1 path.length c1)) (hr : Kd.C Kd.string w A1 path.length path) (hc : path.length ≤ c1) :
    Calls Tryd.prog 35 #[.slice A l.length c, .func (Fn.func 36) #[] #[.pointer (some ⟨gp, 0, none⟩)]] w fun e w' =>
      ∃ v0 v1, e = .returned (.agg #[v0, v1, .bool (bestGo path l (-1) z30).f2, .string (bestGo path l (-1) z30).f3]) ∧ RV w' ok v0 v1 (bestGo path l (-1) z30) ∧ Below w.heap.size w w' := by
  have hn := (Kd.V_reads' hl).2.2.2.1
  have hu := Tryd.underlying30
  have HL := Aside0.mk hl
  have HP := Aside0.mk hp
  have HR := Aside0.mk hr
  have HK := Aside0.mk hok
  clear hl hp hr hok
  go_enter Tryd.func35, Tryd.ntmps35
  go_wp2
  go_loopw [6, 12] (fun m i wr => ∃ (k : Nat) (most : Int) (out : S30) (v0 v1 : Value), k ≤ l.length ∧ i = .int .i64 k ∧ m = .int .i64 most ∧ Aside0 (BInv w ok path l wr k most out v0 v1)) (fun _ i _ => l.length - (intOf i).toNat)
  case atStart =>
    refine ⟨0, -1, z30, .slice none 0 0, .slice none 0 0, Nat.zero_le _, rfl, rfl, ⟨⟨?_, ?_, RV.nil _ _, rfl, ?_⟩⟩⟩
    · exact blk_alloc (by simpa using heap_alloc_new w _) _
    · simpa [z30] using heap_alloc_new (w.alloc (.cells #[.slice none 0 0, .slice none 0 0, .bool false, .string ⟨#[]⟩] 30)) (.cells #[.slice none 0 0, .slice none 0 0, .bool false, .string ⟨#[]⟩] 30)
    · exact below_alloc (below_alloc (Below.refl _ _) _) _
  case round =>
    obtain ⟨k, most, out, v0, v1, hk, rfl, rfl, HI⟩ := hrel
    by_cases hlt : k < l.length
    · have HLr := Kd.V_below HL.out HI.out.below
      obtain ⟨ad, x0, x1, rfl, e0, e1, e2, e3, hx⟩ := list_elem HLr k hlt
      have HG : Aside0 (bestGo path (l.drop k) most out = if most < score l[k] path then bestGo path (l.drop (k + 1)) (score l[k] path) l[k] else bestGo path (l.drop (k + 1)) most out) := ⟨by rw [List.drop_eq_getElem_cons hlt]; rfl⟩
      generalize l[k] = x at *
      obtain ⟨X0, C0, X1, C1, rfl, rfl, _, _, _, _⟩ := hx.slices
      have HX := Aside0.mk hx
      clear hx HLr
      have HBa := Aside0.mk (below_alloc HI.out.below (.cells #[.slice X0 x.f0.length C0, .slice X1 x.f1.length C1, .bool x.f2, .string x.f3] 30))
      have HBn := Aside0.mk (below_alloc (Below.refl wr.heap.size wr) (.cells #[.slice X0 x.f0.length C0, .slice X1 x.f1.length C1, .bool x.f2, .string x.f3] 30))
      have NB := Aside0.mk (blk_new wr (.cells #[.slice X0 x.f0.length C0, .slice X1 x.f1.length C1, .bool x.f2, .string x.f3] 30))
      go_wp2_with (fail)
      refine (score_any A1 c1 path gp ok _ _ x _ (pw_cell_below HBa.out HP.out) (Kd.C_below HR.out HBa.out) hc (HX.out.below HBn.out)).mono ?_
      rintro e w6 ⟨rfl, hb6⟩
      have HB6 := Aside0.mk (below_step HBa.out hb6)
      have HX6 := Aside0.mk ((HX.out.below HBn.out).below hb6)
      have RV6 := Aside0.mk ((HI.out.rv.below HBn.out).below hb6)
      have B4 := Aside0.mk (blk_below (blk_below HI.out.b4 HBn.out) hb6)
      have B5 := Aside0.mk (blk_below (blk_below HI.out.b5 HBn.out) hb6)
      have B8 := blk_below NB.out hb6
      have n0 : w6.cell? ⟨wr.heap.size, 0, none⟩ = some (.slice X0 x.f0.length C0) := (blk_cell B8 0).trans rfl
      have n1 : w6.cell? ⟨wr.heap.size, 1, none⟩ = some (.slice X1 x.f1.length C1) := (blk_cell B8 1).trans rfl
      have n2 : w6.cell? ⟨wr.heap.size, 2, none⟩ = some (.bool x.f2) := (blk_cell B8 2).trans rfl
      have n3 : w6.cell? ⟨wr.heap.size, 3, none⟩ = some (.string x.f3) := (blk_cell B8 3).trans rfl
      have m0 : w6.cell? ⟨w.heap.size + 1, 0, none⟩ = some v0 := (blk_cell B5.out 0).trans rfl
      have m1 : w6.cell? ⟨w.heap.size + 1, 1, none⟩ = some v1 := (blk_cell B5.out 1).trans rfl
      have m2 : w6.cell? ⟨w.heap.size + 1, 2, none⟩ = some (.bool out.f2) := (blk_cell B5.out 2).trans rfl
      have m3 : w6.cell? ⟨w.heap.size + 1, 3, none⟩ = some (.string out.f3) := (blk_cell B5.out 3).trans rfl
      have f0 := blk_frozen B5.out 0
      have f1 := blk_frozen B5.out 1
      have f2 := blk_frozen B5.out 2
      have f3 := blk_frozen B5.out 3
      clear hb6 B8 e0 e1 e2 e3
      obtain ⟨sc, hsc⟩ : ∃ sc, score x path = sc := ⟨_, rfl⟩
      rw [hsc] at HG ⊢
      clear hsc
      by_cases hms : most < sc
      · have HG1 : Aside0 (bestGo path (l.drop k) most out = bestGo path (l.drop (k + 1)) sc x) := ⟨by rw [HG.out, if_pos hms]⟩
        go_wp2
        refine ⟨⟨k + 1, sc, x, .slice X0 x.f0.length C0, .slice X1 x.f1.length C1, by omega, by go_num, rfl, ⟨⟨?_, ?_, ?_, HG1.out.symm.trans HI.out.go, ?_⟩⟩⟩, by simp [intOf]; omega⟩
        · exact blk_far (blk_far (blk_far (blk_far B4.out (by simp) _) (by simp) _) (by simp) _) (by simp) _
        · simpa using blk_set (blk_set (blk_set (blk_set B5.out 0 (.slice X0 x.f0.length C0)) 1 (.slice X1 x.f1.length C1)) 2 (.bool x.f2)) 3 (.string x.f3)
        · refine HX6.out.map (fun q hq _ => ?_) (fun _ h => h)
          have := HK.out q hq
          rw [Below.heap_setCell _ _ _ _ (by simp; omega), Below.heap_setCell _ _ _ _ (by simp; omega), Below.heap_setCell _ _ _ _ (by simp; omega), Below.heap_setCell _ _ _ _ (by simp; omega)]
        · exact below_set (below_set (below_set (below_set HB6.out (by omega)) (by omega)) (by omega)) (by omega)
      · have HG1 : Aside0 (bestGo path (l.drop k) most out = bestGo path (l.drop (k + 1)) most out) := ⟨by rw [HG.out, if_neg hms]⟩
        go_wp2
        exact ⟨⟨k + 1, most, out, v0, v1, by omega, by go_num, rfl, ⟨⟨B4.out, B5.out, RV6.out, HG1.out.symm.trans HI.out.go, HB6.out⟩⟩⟩, by simp [intOf]; omega⟩
    · have hge : l.drop k = [] := List.drop_of_length_le (by omega)
      have HE : Aside0 (bestGo path l (-1) z30 = out) := ⟨by rw [← HI.out.go, hge]; rfl⟩
      have m0 : wr.cell? ⟨w.heap.size + 1, 0, none⟩ = some v0 := (blk_cell HI.out.b5 0).trans rfl
      have m1 : wr.cell? ⟨w.heap.size + 1, 1, none⟩ = some v1 := (blk_cell HI.out.b5 1).trans rfl
      have m2 : wr.cell? ⟨w.heap.size + 1, 2, none⟩ = some (.bool out.f2) := (blk_cell HI.out.b5 2).trans rfl
      have m3 : wr.cell? ⟨w.heap.size + 1, 3, none⟩ = some (.string out.f3) := (blk_cell HI.out.b5 3).trans rfl
      have p0 : wr.cell? ⟨w.heap.size, 0, none⟩ = some (.slice none 0 0) := (blk_cell HI.out.b4 0).trans rfl
      have p1 : wr.cell? ⟨w.heap.size, 1, none⟩ = some (.slice none 0 0) := (blk_cell HI.out.b4 1).trans rfl
      have p2 : wr.cell? ⟨w.heap.size, 2, none⟩ = some (.bool false) := (blk_cell HI.out.b4 2).trans rfl
      have p3 : wr.cell? ⟨w.heap.size, 3, none⟩ = some (.string ⟨#[]⟩) := (blk_cell HI.out.b4 3).trans rfl
      have f0 := blk_frozen HI.out.b4 0
      have f1 := blk_frozen HI.out.b4 1
      have f2 := blk_frozen HI.out.b4 2
      have f3 := blk_frozen HI.out.b4 3
      obtain ⟨X0, C0, X1, C1, rfl, rfl, _, _, _, _⟩ := HI.out.rv.slices
      have B4s : Aside0 (((((wr.setCell ⟨w.heap.size, 0, none⟩ (.slice X0 out.f0.length C0)).setCell ⟨w.heap.size, 1, none⟩ (.slice X1 out.f1.length C1)).setCell ⟨w.heap.size, 2, none⟩ (.bool out.f2)).setCell ⟨w.heap.size, 3, none⟩ (.string out.f3)).heap[w.heap.size]? = some (.cells #[.slice X0 out.f0.length C0, .slice X1 out.f1.length C1, .bool out.f2, .string out.f3] 30 (0, 0))) :=
        ⟨by simpa using blk_set (blk_set (blk_set (blk_set HI.out.b4 0 (.slice X0 out.f0.length C0)) 1 (.slice X1 out.f1.length C1)) 2 (.bool out.f2)) 3 (.string out.f3)⟩
      go_wp2
      refine bodyPost_ret (results_cell_row rfl _ _ w.heap.size 30 #[.slice X0 out.f0.length C0, .slice X1 out.f1.length C1, .bool out.f2, .string out.f3] (0, 0) _ rfl B4s.out Tryd.underlying30 rfl (by kernel_rfl)) rfl ?_
      refine ⟨_, _, by rw [HE.out], ?_, ?_⟩
      · rw [HE.out]
        refine HI.out.rv.map (fun q hq _ => ?_) (fun _ h => h)
        have := HK.out q hq
        rw [Below.heap_setCell _ _ _ _ (by simp; omega), Below.heap_setCell _ _ _ _ (by simp; omega), Below.heap_setCell _ _ _ _ (by simp; omega), Below.heap_setCell _ _ _ _ (by simp; omega)]
      · exact below_set (below_set (below_set (below_set HI.out.below (by omega)) (by omega)) (by omega)) (by omega)
end Go.Proofs.YtjapmlfjlojbeaaDoor.PA
