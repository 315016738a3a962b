/- The reference's Texts and Match, walked: Match returns the first rule with the greatest score. Conditions: those of the contracts' statements. -/
import Derived.Test.YtjapmlfjlojbeaaDoorHM
namespace Go.Proofs.YtjapmlfjlojbeaaDoor.PA
open Go.RowKit Go.Proofs.YtjapmlfjlojbeaaDoorW.PrintWords Go.Proofs.YtjapmlfjlojbeaaDoorW.PrintLast Go.Proofs.YtjapmlfjlojbeaaDoorW.PrintMore
set_option linter.unusedVariables false
set_option linter.unusedSimpArgs false

/-! ### Texts -/
theorem texts_l0 (x y : List ByteArray) (hl : x.length = y.length) (hx : x.length ≤ 9223372036854775807) : ∀ d i : Nat, x.length - i = d → i ≤ x.length → x.take i = y.take i →
    Ev (fun k => doorkeeperref09_Texts.l0 k x y i) (decide (x = y)) := by
  intro d
  induction d with
  | zero =>
    intro i hd hi h
    have e : i = x.length := by omega
    subst e
    refine Ev.step (f := fun _ => some true) (fun k => ?_) ?_
    · simp only [doorkeeperref09_Texts.l0]
      rw [if_neg (by omega)]
    · rw [List.take_length, hl, List.take_length] at h
      subst h
      simpa using Ev.now true
  | succ d ih =>
    intro i hd hi h
    have hi1 : i < x.length := by omega
    have hi2 : i < y.length := by omega
    by_cases he : x[i].toList = y[i].toList
    · have he' : x[i] = y[i] := by
        rw [ByteArray.toList_eq, ByteArray.toList_eq] at he
        exact ByteArray.ext (Array.toList_inj.mp he)
      refine Ev.step (f := fun k => doorkeeperref09_Texts.l0 k x y ((i + 1 : Nat) : Int)) (fun k => ?_) (ih (i + 1) (by omega) (by omega) ?_)
      · simp only [doorkeeperref09_Texts.l0]
        rw [if_pos (by omega), if_pos (by omega), if_pos (by omega), rd_at _ _ hi1, rd_at _ _ hi2, if_pos he, w64 (by omega) (by omega)]
        rfl
      · rw [List.take_succ_eq_append_getElem hi1, List.take_succ_eq_append_getElem hi2, h, he']
    · refine Ev.step (f := fun k => some false) (fun k => ?_) ?_
      · simp only [doorkeeperref09_Texts.l0]
        rw [if_pos (by omega), if_pos (by omega), if_pos (by omega), rd_at _ _ hi1, rd_at _ _ hi2, if_neg he]
      · have hne : x ≠ y := fun e => he (by subst e; rfl)
        simpa [hne] using Ev.now false
theorem texts_eq (x y : List ByteArray) (hx : x.length ≤ 9223372036854775807) : Ev (fun k => doorkeeperref09_Texts.f k x y) (decide (x = y)) := by
  by_cases hl : x.length = y.length
  · refine Ev.congr (fun k => ?_) (texts_l0 x y hl hx x.length 0 (by omega) (by omega) (by simp))
    unfold doorkeeperref09_Texts.f
    rw [if_pos (by omega)]
    rfl
  · refine Ev.congr (g := fun k => doorkeeperref09_Texts.f k x y) (f := fun _ => some (decide (x = y))) (fun k => ?_) (Ev.now _)
    unfold doorkeeperref09_Texts.f
    rw [if_neg (by omega)]
    have hne : x ≠ y := fun e => hl (by rw [e])
    simp [hne]
theorem texts_n (A0 : Option Addr) (c0 n0 : Nat) (l0 : List ByteArray) (A1 : Option Addr) (c1 n1 : Nat) (l1 : List ByteArray) (w : World) (hr0 : Kd.C Kd.string w A0 n0 l0) (hc0 : n0 ≤ c0) (hr1 : Kd.C Kd.string w A1 n1 l1) (hc1 : n1 ≤ c1) :
    Calls Tryd.prog 22 #[.slice A0 n0 c0, .slice A1 n1 c1] w fun e w' => e = .returned (.bool (decide (l0 = l1))) ∧ ∃ n, w.drewN n = w' := by
  have hn := hr0.2.1
  have e0 := hr0.1
  have e1 := hr1.1
  subst e0
  subst e1
  obtain ⟨k, hk⟩ := (texts_eq l0 l1 hn).rounds
  refine (doorkeeperref09_Texts.calls k A0 c0 l0 A1 c1 l1 _ w hr0 hc0 hr1 hc1 hk).mono ?_
  rintro e w' ⟨rfl, ⟨n, rfl⟩⟩
  exact ⟨rfl, n, rfl⟩

/-! ### the best rule, plain -/
theorem score_le (x : S30) (path : List ByteArray) : score x path ≤ path.length := by unfold score; split <;> omega
theorem score_iff (x : S30) (path : List ByteArray) (n : Nat) (hn : n ≤ path.length) : score x path = n ↔ x.f0 = path.take n := by
  unfold score
  constructor
  · intro h
    split at h
    · rename_i h1
      have : x.f0.length = n := by omega
      rw [← this]
      exact h1.2
    · omega
  · intro h
    have hl : x.f0.length = n := by rw [h, List.length_take]; omega
    rw [if_pos ⟨by omega, by rw [hl]; exact h⟩, hl]
theorem bestGo_none (path : List ByteArray) (l : List S30) (m : Int) (out : S30) (h : ∀ x ∈ l, score x path ≤ m) : bestGo path l m out = out := by
  induction l with
  | nil => rfl
  | cons x l ih =>
    have h1 := h x (by simp)
    simp only [bestGo]
    rw [if_neg (by omega)]
    exact ih (fun y hy => h y (by simp [hy]))
theorem bestGo_first (path : List ByteArray) (l : List S30) (n : Int) (i : Nat) (hi : i < l.length) (hall : ∀ x ∈ l, score x path ≤ n) (hb : ∀ x ∈ l.take i, score x path ≠ n) (hn : score l[i] path = n) : ∀ (m : Int) (out : S30), m < n → bestGo path l m out = l[i] := by
  induction l generalizing i with
  | nil => simp at hi
  | cons x l ih =>
    intro m out hm
    match i, hi, hb, hn with
    | 0, hi, hb, hn =>
      simp only [List.getElem_cons_zero] at hn
      simp only [bestGo, List.getElem_cons_zero]
      rw [if_pos (by omega)]
      exact bestGo_none path l _ x (fun y hy => by have := hall y (by simp [hy]); omega)
    | i + 1, hi, hb, hn =>
      simp only [List.getElem_cons_succ] at hn ⊢
      have hx : score x path ≠ n := hb x (by simp)
      have hx' := hall x (by simp)
      simp only [bestGo]
      have ih' := ih i (by simpa using hi) (fun y hy => hall y (by simp [hy])) (fun y hy => hb y (by simp [hy])) hn
      split
      · exact ih' _ _ (by omega)
      · exact ih' _ _ hm
/-- The rule of a path. -/
def mval (l : List S30) (path : List ByteArray) : S30 := bestGo path l (-1) z30
theorem mval_none (l : List S30) (path : List ByteArray) (h : ∀ x ∈ l, score x path ≤ -1) : mval l path = z30 := bestGo_none path l _ _ h
theorem mval_first (l : List S30) (path : List ByteArray) (n i : Nat) (hi : i < l.length) (hn : n ≤ path.length) (hall : ∀ x ∈ l, score x path ≤ n) (hb : ∀ x ∈ l.take i, score x path ≠ n) (he : l[i].f0 = path.take n) : mval l path = l[i] :=
  bestGo_first path l n i hi hall hb ((score_iff _ _ n hn).2 he) _ _ (by omega)

/-! ### the walk of the reference's Match -/
structure MInv (w : World) (ok : Nat → Prop) (path : List ByteArray) (l : List S30) (wr : World) (n : Int) (i : Nat) : Prop where
  hall : ∀ x ∈ l, score x path ≤ n
  hb : ∀ x ∈ l.take i, score x path ≠ n
  dr : ∃ q, wr = (w.alloc (.cells #[.slice none 0 0, .slice none 0 0, .bool false, .string ⟨#[]⟩] 30)).drewN q

theorem MInv.below {w : World} {ok : Nat → Prop} {path : List ByteArray} {l : List S30} {wr : World} {n : Int} {i : Nat} (h : MInv w ok path l wr n i) : Below w.heap.size w wr := by
  obtain ⟨q, rfl⟩ := h.dr
  exact pw_below_drewN (below_alloc (Below.refl w.heap.size w) _) q
theorem MInv.blk {w : World} {ok : Nat → Prop} {path : List ByteArray} {l : List S30} {wr : World} {n : Int} {i : Nat} (h : MInv w ok path l wr n i) : wr.heap[w.heap.size]? = some (.cells #[.slice none 0 0, .slice none 0 0, .bool false, .string ⟨#[]⟩] 30 (0, 0)) := by
  obtain ⟨q, rfl⟩ := h.dr
  exact heap_alloc_new w _
theorem MInv.dr' {w : World} {ok : Nat → Prop} {path : List ByteArray} {l : List S30} {wr : World} {n : Int} {i : Nat} (h : MInv w ok path l wr n i) (m : Nat) : ∃ q, wr.drewN m = (w.alloc (.cells #[.slice none 0 0, .slice none 0 0, .bool false, .string ⟨#[]⟩] 30)).drewN q := by
  obtain ⟨q, rfl⟩ := h.dr
  exact ⟨q + m, World.drewN_drewN ..⟩

def st4 (W : World) (g : Nat) (v0 v1 v2 v3 : Value) : World := (((W.setCell ⟨g, 0, none⟩ v0).setCell ⟨g, 1, none⟩ v1).setCell ⟨g, 2, none⟩ v2).setCell ⟨g, 3, none⟩ v3
theorem st4_blk {W : World} {g : Nat} {o0 o1 o2 o3 : Value} (h : W.heap[g]? = some (.cells #[o0, o1, o2, o3] 30 (0, 0))) (v0 v1 v2 v3 : Value) : (st4 W g v0 v1 v2 v3).heap[g]? = some (.cells #[v0, v1, v2, v3] 30 (0, 0)) := by
  simpa [st4] using blk_set (blk_set (blk_set (blk_set h 0 v0) 1 v1) 2 v2) 3 v3
theorem st4_far {W : World} {g : Nat} (v0 v1 v2 v3 : Value) (k : Nat) (hk : k ≠ g) : (st4 W g v0 v1 v2 v3).heap[k]? = W.heap[k]? := by
  unfold st4
  rw [Below.heap_setCell _ _ _ _ hk, Below.heap_setCell _ _ _ _ hk, Below.heap_setCell _ _ _ _ hk, Below.heap_setCell _ _ _ _ hk]
theorem st4_below {w W : World} {g : Nat} (h : Below w.heap.size w W) (hg : w.heap.size ≤ g) (v0 v1 v2 v3 : Value) : Below w.heap.size w (st4 W g v0 v1 v2 v3) :=
  below_set (below_set (below_set (below_set h hg) hg) hg) hg
theorem st4_rv {W : World} {g : Nat} {ok : Nat → Prop} {u0 u1 : Value} {x : S30} (h : RV W ok u0 u1 x) (hg : ∀ k, ok k → k ≠ g) (v0 v1 v2 v3 : Value) : RV (st4 W g v0 v1 v2 v3) ok u0 u1 x :=
  h.map (fun k hk _ => st4_far v0 v1 v2 v3 k (hg k hk)) (fun _ h => h)
set_option maxHeartbeats 4000000 in
theorem refMatch_any (A : Option Addr) (c : Nat) (l : List S30) (b : Nat) (ok : Nat → Prop) (A1 : Option Addr) (c1 : Nat) (path : List ByteArray) (w : World) (hl : Kd.V k30 30 w b ok (.slice A l.length c) l) (hok : ∀ k, ok k → k < w.heap.size)
    (hr : Kd.C Kd.string w A1 path.length path) (hc : path.length ≤ c1) :
    Calls Tryd.prog 17 #[.slice A l.length c, .slice A1 path.length c1] w fun e w' =>
      ∃ v0 v1, e = .returned (.agg #[v0, v1, .bool (mval l path).f2, .string (mval l path).f3]) ∧ RV w' ok v0 v1 (mval l path) ∧ Below w.heap.size w w' := by
  have hn := (Kd.V_reads' hl).2.2.2.1
  have hnp := hr.2.1
  have hu := Tryd.underlying30
  have HL := Aside0.mk hl
  have HR := Aside0.mk hr
  have HK := Aside0.mk hok
  clear hl hr hok
  go_enter Tryd.func17, Tryd.ntmps17
  go_wp2
  go_loopw [5, 6] (fun nv _ wr => ∃ (n : Int), -1 ≤ n ∧ n ≤ path.length ∧ nv = .int .i64 n ∧ Aside0 (MInv w ok path l wr n 0)) (fun nv _ _ => (intOf nv + 1).toNat)
  case atStart => exact ⟨(path.length : Int), by omega, by omega, rfl, ⟨⟨fun x _ => score_le x path, by simp, 0, rfl⟩⟩⟩
  case round =>
    obtain ⟨n, hn0, hn1, rfl, HI⟩ := hrel
    by_cases hge : 0 ≤ n
    · obtain ⟨m, rfl⟩ := Int.eq_ofNat_of_zero_le hge
      have hm : m ≤ path.length := by omega
      have z1 : (m : Int) ≤ (c1 : Int) := by omega
      have z2 : (0 : Int) ≤ (m : Int) := by omega
      have z3 : m ≤ c1 := by omega
      have HT : Aside0 (Kd.C Kd.string w A1 m (path.take m)) := ⟨by
        have h := Kd.C_take HR.out (m := m) hm
        rwa [List.length_take, Nat.min_eq_left hm] at h⟩
      have HA := Aside0.mk (HI.out.hall)
      go_wp2
      go_loopw [6] (fun iv wr => ∃ (i : Nat), i ≤ l.length ∧ iv = .int .i64 i ∧ Aside0 (MInv w ok path l wr m i)) (fun iv _ => l.length - (intOf iv).toNat)
      case atStart => exact ⟨0, Nat.zero_le _, rfl, ⟨⟨HA.out, by simp, HI.out.dr⟩⟩⟩
      case round =>
        obtain ⟨i, hi, rfl, HI2⟩ := hrel
        by_cases hlt : i < l.length
        · have HBq := HI2.out.below
          have HB := Aside0.mk HBq
          have HLr := Kd.V_below HL.out HBq
          obtain ⟨ad, x0, x1, rfl, e0, e1, e2, e3, hx⟩ := list_elem HLr i hlt
          have HS := Aside0.mk (List.take_succ_eq_append_getElem hlt)
          have HM := Aside0.mk (mval_first l path m i hlt hm HI2.out.hall HI2.out.hb)
          generalize l[i] = x at *
          obtain ⟨X0, C0, X1, C1, rfl, rfl, g0, g1, _, _⟩ := hx.slices
          have HX := Aside0.mk hx
          have G1 := Aside0.mk g1
          have p0 : wr.cell? ⟨w.heap.size, 0, none⟩ = some (.slice none 0 0) := (blk_cell HI2.out.blk 0).trans rfl
          have p1 : wr.cell? ⟨w.heap.size, 1, none⟩ = some (.slice none 0 0) := (blk_cell HI2.out.blk 1).trans rfl
          have p2 : wr.cell? ⟨w.heap.size, 2, none⟩ = some (.bool false) := (blk_cell HI2.out.blk 2).trans rfl
          have p3 : wr.cell? ⟨w.heap.size, 3, none⟩ = some (.string ⟨#[]⟩) := (blk_cell HI2.out.blk 3).trans rfl
          have f0 := blk_frozen HI2.out.blk 0
          have f1 := blk_frozen HI2.out.blk 1
          have f2 := blk_frozen HI2.out.blk 2
          have f3 := blk_frozen HI2.out.blk 3
          clear hx HLr HBq g1
          by_cases he : x.f0 = path.take m
          · have HM1 := Aside0.mk (HM.out he)
            have HD := Aside0.mk (decide_eq_true he)
            clear he
            go_wp2
            go_quiet ((go_at_call 22; refine (texts_n _ _ _ x.f0 _ _ _ (path.take m) _ (by first | exact G1.out | exact Kd.C_below G1.out (pw_below_drewN (Below.refl _ _) _)) g0 (by first | exact Kd.C_below HT.out HB.out | exact Kd.C_below (Kd.C_below HT.out HB.out) (pw_below_drewN (Below.refl _ _) _)) (by omega)).mono ?_; rw [HD.out]; rintro e w' ⟨rfl, nd, rfl⟩; first | exact ⟨rfl, _, World.drewN_drewN _ _ _⟩ | exact ⟨rfl, _, Eq.trans (World.drewN_drewN _ _ _) (congrArg (World.drewN _) (Nat.add_assoc _ _ _))⟩))
            go_wp2
            refine bodyPost_ret (results_cell_row rfl _ _ w.heap.size 30 #[.slice X0 x.f0.length C0, .slice X1 x.f1.length C1, .bool x.f2, .string x.f3] (0, 0) _ rfl (by first | exact st4_blk (blk_drewN HI2.out.blk _) _ _ _ _ | exact blk_drewN (st4_blk HI2.out.blk _ _ _ _) _ | exact st4_blk HI2.out.blk _ _ _ _) Tryd.underlying30 rfl (by kernel_rfl)) rfl ?_
            have HKg : ∀ k, ok k → k ≠ w.heap.size := fun k hk => by have := HK.out k hk; omega
            refine ⟨_, _, by rw [HM1.out], ?_, ?_⟩
            · rw [HM1.out]
              first
                | exact st4_rv (HX.out.below (pw_below_drewN (Below.refl _ _) _)) HKg _ _ _ _
                | exact (st4_rv HX.out HKg _ _ _ _).below (pw_below_drewN (Below.refl _ _) _)
            · first
                | exact st4_below (pw_below_drewN HB.out _) (Nat.le_refl _) _ _ _ _
                | exact pw_below_drewN (st4_below HB.out (Nat.le_refl _) _ _ _ _) _
          · have HD := Aside0.mk (decide_eq_false he)
            have HN := Aside0.mk he
            clear he
            go_wp2
            go_quiet ((go_at_call 22; refine (texts_n _ _ _ x.f0 _ _ _ (path.take m) _ (by first | exact G1.out | exact Kd.C_below G1.out (pw_below_drewN (Below.refl _ _) _)) g0 (by first | exact Kd.C_below HT.out HB.out | exact Kd.C_below (Kd.C_below HT.out HB.out) (pw_below_drewN (Below.refl _ _) _)) (by omega)).mono ?_; rw [HD.out]; rintro e w' ⟨rfl, nd, rfl⟩; first | exact ⟨rfl, _, World.drewN_drewN _ _ _⟩ | exact ⟨rfl, _, Eq.trans (World.drewN_drewN _ _ _) (congrArg (World.drewN _) (Nat.add_assoc _ _ _))⟩))
            go_wp2
            refine ⟨⟨i + 1, by omega, by go_num, ⟨⟨HI2.out.hall, ?_, HI2.out.dr' _⟩⟩⟩, by simp [intOf]; omega⟩
            rw [HS.out]
            intro y hy
            rcases List.mem_append.1 hy with h | h
            · exact HI2.out.hb y h
            · rw [List.mem_singleton.1 h]
              exact fun e => HN.out ((score_iff _ _ m hm).1 e)
        · have HA2 : Aside0 (∀ x ∈ l, score x path ≤ (m : Int) - 1) := ⟨fun x hx => by
            have h1 := HI2.out.hall x hx
            have h2 := HI2.out.hb x (by rw [List.take_of_length_le (by omega)]; exact hx)
            omega⟩
          go_wp2
          exact ⟨⟨(m : Int) - 1, by omega, by omega, rfl, ⟨⟨HA2.out, by simp, HI2.out.dr⟩⟩⟩, by simp [intOf]⟩
    · have HN : Aside0 (mval l path = z30) := ⟨mval_none l path (fun x hx => by have := HI.out.hall x hx; omega)⟩
      have p0 : wr.cell? ⟨w.heap.size, 0, none⟩ = some (.slice none 0 0) := (blk_cell HI.out.blk 0).trans rfl
      have p1 : wr.cell? ⟨w.heap.size, 1, none⟩ = some (.slice none 0 0) := (blk_cell HI.out.blk 1).trans rfl
      have p2 : wr.cell? ⟨w.heap.size, 2, none⟩ = some (.bool false) := (blk_cell HI.out.blk 2).trans rfl
      have p3 : wr.cell? ⟨w.heap.size, 3, none⟩ = some (.string ⟨#[]⟩) := (blk_cell HI.out.blk 3).trans rfl
      have f0 := blk_frozen HI.out.blk 0
      have f1 := blk_frozen HI.out.blk 1
      have f2 := blk_frozen HI.out.blk 2
      have f3 := blk_frozen HI.out.blk 3
      go_wp2
      refine bodyPost_ret (results_cell_row rfl _ _ w.heap.size 30 #[.slice none 0 0, .slice none 0 0, .bool false, .string ⟨#[]⟩] (0, 0) _ rfl (by first | exact st4_blk (blk_drewN HI.out.blk _) _ _ _ _ | exact blk_drewN (st4_blk HI.out.blk _ _ _ _) _ | exact st4_blk HI.out.blk _ _ _ _) Tryd.underlying30 rfl (by kernel_rfl)) rfl ?_
      have HKg : ∀ k, ok k → k ≠ w.heap.size := fun k hk => by have := HK.out k hk; omega
      refine ⟨_, _, by rw [HN.out]; rfl, ?_, ?_⟩
      · rw [HN.out]
        exact RV.nil _ _
      · exact st4_below HI.out.below (Nat.le_refl _) _ _ _ _
end Go.Proofs.YtjapmlfjlojbeaaDoor.PA
