/- acl.Granted, walked with its closures. Conditions: those of the contracts' statements. -/
import Derived.Test.YtjapmlfjlojbeaaDoorHK
import Derived.Test.YtjapmlfjlojbeaaDoorPBg
namespace Go.Proofs.YtjapmlfjlojbeaaDoor.PA
open Go.RowKit Go.Proofs.YtjapmlfjlojbeaaDoorW.PrintWords Go.Proofs.YtjapmlfjlojbeaaDoorW.PrintLast Go.Proofs.YtjapmlfjlojbeaaDoorW.PrintMore
set_option linter.unusedVariables false
set_option linter.unusedSimpArgs false

def appl (x : S39) (s : ByteArray) : Bool := if x.f0.toList = ([] : List UInt8) then true else if x.f0.toList = ([42] : List UInt8) then (s.toList != ([] : List UInt8)) else (x.f0.toList == s.toList)
theorem appl_f (x : S39) (s : ByteArray) : acl_Applies.f x.f0 x.f1 x.f2 s = some (appl x s) := by
  unfold acl_Applies.f appl
  repeat' split
  all_goals rfl

-- GENERATED

theorem hold42 (x : S39) (w : World) : Calls Tryd.prog 42 #[.agg #[.string x.f0, .bool x.f1, .bool x.f2]] w fun e w' => e = .returned (.bool x.f1) ∧ Below w.heap.size w w' := by
  have hu := Tryd.underlying39
  go_enter Tryd.func42, Tryd.ntmps42
  go_wp2
  go_ret
  exact ⟨rfl, below_alloc (Below.refl _ _) _⟩

theorem both42 (gp hp : Nat) (s : ByteArray) (x : S39) (w : World) (h1 : w.cell? ⟨gp, 0, none⟩ = some (.string s)) (h2 : w.cell? ⟨hp, 0, none⟩ = some (.func (Fn.func 42) #[] #[])) :
    Calls Tryd.prog 40 #[.agg #[.string x.f0, .bool x.f1, .bool x.f2], .pointer (some ⟨gp, 0, none⟩), .pointer (some ⟨hp, 0, none⟩)] w fun e w' => e = .returned (.bool (appl x s && x.f1)) ∧ Below w.heap.size w w' := by
  have hu := Tryd.underlying39
  have hb0 := below_alloc (Below.refl w.heap.size w) (.cells #[.string x.f0, .bool x.f1, .bool x.f2] 39)
  have C1 : (w.alloc (.cells #[.string x.f0, .bool x.f1, .bool x.f2] 39)).cell? ⟨gp, 0, none⟩ = some (.string s) := (hb0.cell (World.block_lt_of_cell? w _ h1)).trans h1
  have C2 := Aside0.mk ((hb0.cell (World.block_lt_of_cell? w _ h2)).trans h2)
  have NB := Aside0.mk (blk_new w (.cells #[.string x.f0, .bool x.f1, .bool x.f2] 39))
  have L2 := Aside0.mk (World.block_lt_of_cell? _ _ C2.out)
  have HB := Aside0.mk hb0
  clear h1 h2 hb0
  go_enter Tryd.func40, Tryd.ntmps40
  go_wp2_with (fail)
  refine (acl_Applies.calls x.f0 x.f1 x.f2 s _ _ (appl_f x s)).mono ?_
  rintro e w1 ⟨rfl, hb1⟩
  have B1 := Aside0.mk (below_step HB.out hb1)
  have C2' : w1.cell? ⟨hp, 0, none⟩ = some (.func (Fn.func 42) #[] #[]) := (hb1.cell L2.out).trans C2.out
  have N1 := blk_below NB.out hb1
  have q0 : w1.cell? ⟨w.heap.size, 0, none⟩ = some (.string x.f0) := (blk_cell N1 0).trans rfl
  have q1 : w1.cell? ⟨w.heap.size, 1, none⟩ = some (.bool x.f1) := (blk_cell N1 1).trans rfl
  have q2 : w1.cell? ⟨w.heap.size, 2, none⟩ = some (.bool x.f2) := (blk_cell N1 2).trans rfl
  clear hb1 N1 C1
  generalize hap : appl x s = ap
  have HA := Aside0.mk hap
  clear hap
  cases ap
  · go_wp2
    go_ret
    exact ⟨by simp [HA.out], B1.out⟩
  · go_wp2_with (fail)
    refine (hold42 x _).mono ?_
    rintro e w2 ⟨rfl, hb2⟩
    have B2 := Aside0.mk (below_step B1.out hb2)
    clear hb2 C2' q0 q1 q2
    go_wp2
    go_ret
    exact ⟨by simp [HA.out], B2.out⟩

set_option maxHeartbeats 4000000 in
theorem index42 (gp hp : Nat) (s : ByteArray) (A : Option Addr) (c : Nat) (l : List S39) (w : World) (h1 : w.cell? ⟨gp, 0, none⟩ = some (.string s)) (h2 : w.cell? ⟨hp, 0, none⟩ = some (.func (Fn.func 42) #[] #[])) (hl : Kd.C k39 w A l.length l) :
    Calls Tryd.prog 45 #[.slice A l.length c, .func (Fn.func 40) #[] #[.pointer (some ⟨gp, 0, none⟩), .pointer (some ⟨hp, 0, none⟩)]] w fun e w' => ∃ n : Int, e = .returned (.int .i64 n) ∧ (0 ≤ n ↔ (l.any fun x => appl x s && x.f1) = true) ∧ Below w.heap.size w w' := by
  have hu := Tryd.underlying39
  have hn := hl.2.1
  have H1 := Aside0.mk h1
  have H2 := Aside0.mk h2
  have L1 := Aside0.mk (World.block_lt_of_cell? _ _ h1)
  have L2 := Aside0.mk (World.block_lt_of_cell? _ _ h2)
  have HL := Aside0.mk hl
  clear h1 h2 hl
  go_enter Tryd.func45, Tryd.ntmps45
  go_wp2
  go_loopw [8] (fun i wr => ∃ k : Nat, k ≤ l.length ∧ i = .int .i64 k ∧ Aside0 (((l.take k).any fun x => appl x s && x.f1) = false) ∧ Aside0 (Below w.heap.size w wr)) (fun i _ => l.length - (intOf i).toNat)
  case atStart => exact ⟨0, Nat.zero_le _, rfl, ⟨rfl⟩, ⟨Below.refl _ _⟩⟩
  case round =>
    obtain ⟨k, hk, rfl, HT, B⟩ := hrel
    by_cases hlt : k < l.length
    · obtain ⟨ad, rfl, p0, p1, p2⟩ := at_T39 (Kd.C_below HL.out B.out) (k : Int) (by omega) (by omega)
      have hx : rd_T39 l (k : Int) = l[k] := by simp [rd_T39, List.getD_eq_getElem?_getD, List.getElem?_eq_getElem hlt]
      rw [hx] at p0 p1 p2
      simp only [Int.toNat_natCast] at p0 p1 p2
      have T := Aside0.mk (List.take_succ_eq_append_getElem hlt)
      have G := Aside0.mk (show (appl l[k] s && l[k].f1) = true → (l.any fun x => appl x s && x.f1) = true from fun h => List.any_eq_true.mpr ⟨l[k], List.getElem_mem hlt, h⟩)
      generalize l[k] = x at *
      clear hx
      go_wp2_with (fail)
      refine (both42 gp hp s x _ ((B.out.cell L1.out).trans H1.out) ((B.out.cell L2.out).trans H2.out)).mono ?_
      rintro e w1 ⟨rfl, hb1⟩
      have B1 := Aside0.mk (below_step B.out hb1)
      clear hb1 p0 p1 p2
      have E := Aside0.mk (Eq.refl (appl x s && x.f1))
      generalize hq : (appl x s && x.f1) = q at G E ⊢
      have HQ := Aside0.mk hq
      clear hq
      cases q
      · have HT1 : Aside0 (((l.take (k + 1)).any fun x => appl x s && x.f1) = false) := ⟨by rw [T.out, List.any_append, HT.out]; simpa using HQ.out⟩
        go_wp2
        exact ⟨⟨k + 1, by omega, by go_num, HT1, B1⟩, by simp [intOf]; omega⟩
      · have GG := Aside0.mk (G.out rfl)
        go_wp2
        go_ret
        exact ⟨_, rfl, ⟨fun _ => GG.out, fun _ => by omega⟩, B1.out⟩
    · have HE : Aside0 ((l.any fun x => appl x s && x.f1) = false) := ⟨by
        have h := HT.out
        rwa [List.take_of_length_le (by omega)] at h⟩
      go_wp2
      go_ret
      exact ⟨_, rfl, ⟨fun h => absurd h (by decide), fun h => by rw [HE.out] at h; cases h⟩, B.out⟩

theorem contains42 (gp hp : Nat) (s : ByteArray) (A : Option Addr) (c : Nat) (l : List S39) (w : World) (h1 : w.cell? ⟨gp, 0, none⟩ = some (.string s)) (h2 : w.cell? ⟨hp, 0, none⟩ = some (.func (Fn.func 42) #[] #[])) (hl : Kd.C k39 w A l.length l) :
    Calls Tryd.prog 39 #[.slice A l.length c, .func (Fn.func 40) #[] #[.pointer (some ⟨gp, 0, none⟩), .pointer (some ⟨hp, 0, none⟩)]] w fun e w' => e = .returned (.bool (l.any fun x => appl x s && x.f1)) ∧ Below w.heap.size w w' := by
  have H1 := Aside0.mk h1
  have H2 := Aside0.mk h2
  have HL := Aside0.mk hl
  clear h1 h2 hl
  go_enter Tryd.func39, Tryd.ntmps39
  go_wp2_with (fail)
  refine (index42 gp hp s A c l w H1.out H2.out HL.out).mono ?_
  rintro e w1 ⟨n, rfl, hn, hb1⟩
  have B1 := Aside0.mk hb1
  have HN : Aside0 ((0 ≤ n ↔ (l.any fun x => appl x s && x.f1) = true)) := ⟨hn⟩
  clear hn hb1
  go_wp2
  go_ret
  refine ⟨?_, B1.out⟩
  have h := HN.out
  by_cases h0 : 0 ≤ n
  · simp [h.mp h0, h0]
  · have h1 : (l.any fun x => appl x s && x.f1) = false := by
      cases hh : (l.any fun x => appl x s && x.f1)
      · rfl
      · exact absurd (h.mpr hh) h0
    rw [h1]
    simp [h0]

theorem has42 (rp gp : Nat) (s : ByteArray) (v0 v2 v3 : Value) (A : Option Addr) (c : Nat) (l : List S39) (w : World) (h0 : w.cell? ⟨rp, 1, none⟩ = some (.slice A l.length c)) (h1 : w.cell? ⟨gp, 0, none⟩ = some (.string s)) (hl : Kd.C k39 w A l.length l) :
    Calls Tryd.prog 38 #[.func (Fn.func 42) #[] #[], .pointer (some ⟨rp, 0, none⟩), .pointer (some ⟨gp, 0, none⟩)] w fun e w' => e = .returned (.bool (l.any fun x => appl x s && x.f1)) ∧ Below w.heap.size w w' := by
  have hu := Tryd.underlying30
  have hb0 := below_alloc (Below.refl w.heap.size w) (.cells #[.func (Fn.func 42) #[] #[]] 59)
  have H0 : (w.alloc (.cells #[.func (Fn.func 42) #[] #[]] 59)).cell? ⟨rp, 1, none⟩ = some (.slice A l.length c) := (hb0.cell (World.block_lt_of_cell? w _ h0)).trans h0
  have H1 := Aside0.mk ((hb0.cell (World.block_lt_of_cell? w _ h1)).trans h1)
  have H2 : Aside0 ((w.alloc (.cells #[.func (Fn.func 42) #[] #[]] 59)).cell? ⟨w.heap.size, 0, none⟩ = some (.func (Fn.func 42) #[] #[])) := ⟨(blk_cell (blk_new w (.cells #[.func (Fn.func 42) #[] #[]] 59)) 0).trans rfl⟩
  have HL := Aside0.mk (Kd.C_below hl hb0)
  have HB := Aside0.mk hb0
  clear h0 h1 hl hb0
  go_enter Tryd.func38, Tryd.ntmps38
  go_wp2_with (fail)
  refine (contains42 gp w.heap.size s A c l _ H1.out H2.out HL.out).mono ?_
  rintro e w1 ⟨rfl, hb1⟩
  have B1 := Aside0.mk (below_step HB.out hb1)
  clear hb1 H0
  go_wp2
  go_ret
  exact ⟨rfl, B1.out⟩

theorem hold43 (x : S39) (w : World) : Calls Tryd.prog 43 #[.agg #[.string x.f0, .bool x.f1, .bool x.f2]] w fun e w' => e = .returned (.bool x.f2) ∧ Below w.heap.size w w' := by
  have hu := Tryd.underlying39
  go_enter Tryd.func43, Tryd.ntmps43
  go_wp2
  go_ret
  exact ⟨rfl, below_alloc (Below.refl _ _) _⟩

theorem both43 (gp hp : Nat) (s : ByteArray) (x : S39) (w : World) (h1 : w.cell? ⟨gp, 0, none⟩ = some (.string s)) (h2 : w.cell? ⟨hp, 0, none⟩ = some (.func (Fn.func 43) #[] #[])) :
    Calls Tryd.prog 40 #[.agg #[.string x.f0, .bool x.f1, .bool x.f2], .pointer (some ⟨gp, 0, none⟩), .pointer (some ⟨hp, 0, none⟩)] w fun e w' => e = .returned (.bool (appl x s && x.f2)) ∧ Below w.heap.size w w' := by
  have hu := Tryd.underlying39
  have hb0 := below_alloc (Below.refl w.heap.size w) (.cells #[.string x.f0, .bool x.f1, .bool x.f2] 39)
  have C1 : (w.alloc (.cells #[.string x.f0, .bool x.f1, .bool x.f2] 39)).cell? ⟨gp, 0, none⟩ = some (.string s) := (hb0.cell (World.block_lt_of_cell? w _ h1)).trans h1
  have C2 := Aside0.mk ((hb0.cell (World.block_lt_of_cell? w _ h2)).trans h2)
  have NB := Aside0.mk (blk_new w (.cells #[.string x.f0, .bool x.f1, .bool x.f2] 39))
  have L2 := Aside0.mk (World.block_lt_of_cell? _ _ C2.out)
  have HB := Aside0.mk hb0
  clear h1 h2 hb0
  go_enter Tryd.func40, Tryd.ntmps40
  go_wp2_with (fail)
  refine (acl_Applies.calls x.f0 x.f1 x.f2 s _ _ (appl_f x s)).mono ?_
  rintro e w1 ⟨rfl, hb1⟩
  have B1 := Aside0.mk (below_step HB.out hb1)
  have C2' : w1.cell? ⟨hp, 0, none⟩ = some (.func (Fn.func 43) #[] #[]) := (hb1.cell L2.out).trans C2.out
  have N1 := blk_below NB.out hb1
  have q0 : w1.cell? ⟨w.heap.size, 0, none⟩ = some (.string x.f0) := (blk_cell N1 0).trans rfl
  have q1 : w1.cell? ⟨w.heap.size, 1, none⟩ = some (.bool x.f1) := (blk_cell N1 1).trans rfl
  have q2 : w1.cell? ⟨w.heap.size, 2, none⟩ = some (.bool x.f2) := (blk_cell N1 2).trans rfl
  clear hb1 N1 C1
  generalize hap : appl x s = ap
  have HA := Aside0.mk hap
  clear hap
  cases ap
  · go_wp2
    go_ret
    exact ⟨by simp [HA.out], B1.out⟩
  · go_wp2_with (fail)
    refine (hold43 x _).mono ?_
    rintro e w2 ⟨rfl, hb2⟩
    have B2 := Aside0.mk (below_step B1.out hb2)
    clear hb2 C2' q0 q1 q2
    go_wp2
    go_ret
    exact ⟨by simp [HA.out], B2.out⟩

set_option maxHeartbeats 4000000 in
theorem index43 (gp hp : Nat) (s : ByteArray) (A : Option Addr) (c : Nat) (l : List S39) (w : World) (h1 : w.cell? ⟨gp, 0, none⟩ = some (.string s)) (h2 : w.cell? ⟨hp, 0, none⟩ = some (.func (Fn.func 43) #[] #[])) (hl : Kd.C k39 w A l.length l) :
    Calls Tryd.prog 45 #[.slice A l.length c, .func (Fn.func 40) #[] #[.pointer (some ⟨gp, 0, none⟩), .pointer (some ⟨hp, 0, none⟩)]] w fun e w' => ∃ n : Int, e = .returned (.int .i64 n) ∧ (0 ≤ n ↔ (l.any fun x => appl x s && x.f2) = true) ∧ Below w.heap.size w w' := by
  have hu := Tryd.underlying39
  have hn := hl.2.1
  have H1 := Aside0.mk h1
  have H2 := Aside0.mk h2
  have L1 := Aside0.mk (World.block_lt_of_cell? _ _ h1)
  have L2 := Aside0.mk (World.block_lt_of_cell? _ _ h2)
  have HL := Aside0.mk hl
  clear h1 h2 hl
  go_enter Tryd.func45, Tryd.ntmps45
  go_wp2
  go_loopw [8] (fun i wr => ∃ k : Nat, k ≤ l.length ∧ i = .int .i64 k ∧ Aside0 (((l.take k).any fun x => appl x s && x.f2) = false) ∧ Aside0 (Below w.heap.size w wr)) (fun i _ => l.length - (intOf i).toNat)
  case atStart => exact ⟨0, Nat.zero_le _, rfl, ⟨rfl⟩, ⟨Below.refl _ _⟩⟩
  case round =>
    obtain ⟨k, hk, rfl, HT, B⟩ := hrel
    by_cases hlt : k < l.length
    · obtain ⟨ad, rfl, p0, p1, p2⟩ := at_T39 (Kd.C_below HL.out B.out) (k : Int) (by omega) (by omega)
      have hx : rd_T39 l (k : Int) = l[k] := by simp [rd_T39, List.getD_eq_getElem?_getD, List.getElem?_eq_getElem hlt]
      rw [hx] at p0 p1 p2
      simp only [Int.toNat_natCast] at p0 p1 p2
      have T := Aside0.mk (List.take_succ_eq_append_getElem hlt)
      have G := Aside0.mk (show (appl l[k] s && l[k].f2) = true → (l.any fun x => appl x s && x.f2) = true from fun h => List.any_eq_true.mpr ⟨l[k], List.getElem_mem hlt, h⟩)
      generalize l[k] = x at *
      clear hx
      go_wp2_with (fail)
      refine (both43 gp hp s x _ ((B.out.cell L1.out).trans H1.out) ((B.out.cell L2.out).trans H2.out)).mono ?_
      rintro e w1 ⟨rfl, hb1⟩
      have B1 := Aside0.mk (below_step B.out hb1)
      clear hb1 p0 p1 p2
      have E := Aside0.mk (Eq.refl (appl x s && x.f2))
      generalize hq : (appl x s && x.f2) = q at G E ⊢
      have HQ := Aside0.mk hq
      clear hq
      cases q
      · have HT1 : Aside0 (((l.take (k + 1)).any fun x => appl x s && x.f2) = false) := ⟨by rw [T.out, List.any_append, HT.out]; simpa using HQ.out⟩
        go_wp2
        exact ⟨⟨k + 1, by omega, by go_num, HT1, B1⟩, by simp [intOf]; omega⟩
      · have GG := Aside0.mk (G.out rfl)
        go_wp2
        go_ret
        exact ⟨_, rfl, ⟨fun _ => GG.out, fun _ => by omega⟩, B1.out⟩
    · have HE : Aside0 ((l.any fun x => appl x s && x.f2) = false) := ⟨by
        have h := HT.out
        rwa [List.take_of_length_le (by omega)] at h⟩
      go_wp2
      go_ret
      exact ⟨_, rfl, ⟨fun h => absurd h (by decide), fun h => by rw [HE.out] at h; cases h⟩, B.out⟩

theorem contains43 (gp hp : Nat) (s : ByteArray) (A : Option Addr) (c : Nat) (l : List S39) (w : World) (h1 : w.cell? ⟨gp, 0, none⟩ = some (.string s)) (h2 : w.cell? ⟨hp, 0, none⟩ = some (.func (Fn.func 43) #[] #[])) (hl : Kd.C k39 w A l.length l) :
    Calls Tryd.prog 39 #[.slice A l.length c, .func (Fn.func 40) #[] #[.pointer (some ⟨gp, 0, none⟩), .pointer (some ⟨hp, 0, none⟩)]] w fun e w' => e = .returned (.bool (l.any fun x => appl x s && x.f2)) ∧ Below w.heap.size w w' := by
  have H1 := Aside0.mk h1
  have H2 := Aside0.mk h2
  have HL := Aside0.mk hl
  clear h1 h2 hl
  go_enter Tryd.func39, Tryd.ntmps39
  go_wp2_with (fail)
  refine (index43 gp hp s A c l w H1.out H2.out HL.out).mono ?_
  rintro e w1 ⟨n, rfl, hn, hb1⟩
  have B1 := Aside0.mk hb1
  have HN : Aside0 ((0 ≤ n ↔ (l.any fun x => appl x s && x.f2) = true)) := ⟨hn⟩
  clear hn hb1
  go_wp2
  go_ret
  refine ⟨?_, B1.out⟩
  have h := HN.out
  by_cases h0 : 0 ≤ n
  · simp [h.mp h0, h0]
  · have h1 : (l.any fun x => appl x s && x.f2) = false := by
      cases hh : (l.any fun x => appl x s && x.f2)
      · rfl
      · exact absurd (h.mpr hh) h0
    rw [h1]
    simp [h0]

theorem has43 (rp gp : Nat) (s : ByteArray) (v0 v2 v3 : Value) (A : Option Addr) (c : Nat) (l : List S39) (w : World) (h0 : w.cell? ⟨rp, 1, none⟩ = some (.slice A l.length c)) (h1 : w.cell? ⟨gp, 0, none⟩ = some (.string s)) (hl : Kd.C k39 w A l.length l) :
    Calls Tryd.prog 38 #[.func (Fn.func 43) #[] #[], .pointer (some ⟨rp, 0, none⟩), .pointer (some ⟨gp, 0, none⟩)] w fun e w' => e = .returned (.bool (l.any fun x => appl x s && x.f2)) ∧ Below w.heap.size w w' := by
  have hu := Tryd.underlying30
  have hb0 := below_alloc (Below.refl w.heap.size w) (.cells #[.func (Fn.func 43) #[] #[]] 59)
  have H0 : (w.alloc (.cells #[.func (Fn.func 43) #[] #[]] 59)).cell? ⟨rp, 1, none⟩ = some (.slice A l.length c) := (hb0.cell (World.block_lt_of_cell? w _ h0)).trans h0
  have H1 := Aside0.mk ((hb0.cell (World.block_lt_of_cell? w _ h1)).trans h1)
  have H2 : Aside0 ((w.alloc (.cells #[.func (Fn.func 43) #[] #[]] 59)).cell? ⟨w.heap.size, 0, none⟩ = some (.func (Fn.func 43) #[] #[])) := ⟨(blk_cell (blk_new w (.cells #[.func (Fn.func 43) #[] #[]] 59)) 0).trans rfl⟩
  have HL := Aside0.mk (Kd.C_below hl hb0)
  have HB := Aside0.mk hb0
  clear h0 h1 hl hb0
  go_enter Tryd.func38, Tryd.ntmps38
  go_wp2_with (fail)
  refine (contains43 gp w.heap.size s A c l _ H1.out H2.out HL.out).mono ?_
  rintro e w1 ⟨rfl, hb1⟩
  have B1 := Aside0.mk (below_step HB.out hb1)
  clear hb1 H0
  go_wp2
  go_ret
  exact ⟨rfl, B1.out⟩

theorem hold44 (x : S39) (w : World) : Calls Tryd.prog 44 #[.agg #[.string x.f0, .bool x.f1, .bool x.f2]] w fun e w' => e = .returned (.bool (x.f1 || x.f2)) ∧ Below w.heap.size w w' := by
  have hu := Tryd.underlying39
  go_enter Tryd.func44, Tryd.ntmps44
  cases h : x.f1
  all_goals go_wp2
  all_goals go_ret
  all_goals exact ⟨rfl, below_alloc (Below.refl _ _) _⟩

theorem both44 (gp hp : Nat) (s : ByteArray) (x : S39) (w : World) (h1 : w.cell? ⟨gp, 0, none⟩ = some (.string s)) (h2 : w.cell? ⟨hp, 0, none⟩ = some (.func (Fn.func 44) #[] #[])) :
    Calls Tryd.prog 40 #[.agg #[.string x.f0, .bool x.f1, .bool x.f2], .pointer (some ⟨gp, 0, none⟩), .pointer (some ⟨hp, 0, none⟩)] w fun e w' => e = .returned (.bool (appl x s && (x.f1 || x.f2))) ∧ Below w.heap.size w w' := by
  have hu := Tryd.underlying39
  have hb0 := below_alloc (Below.refl w.heap.size w) (.cells #[.string x.f0, .bool x.f1, .bool x.f2] 39)
  have C1 : (w.alloc (.cells #[.string x.f0, .bool x.f1, .bool x.f2] 39)).cell? ⟨gp, 0, none⟩ = some (.string s) := (hb0.cell (World.block_lt_of_cell? w _ h1)).trans h1
  have C2 := Aside0.mk ((hb0.cell (World.block_lt_of_cell? w _ h2)).trans h2)
  have NB := Aside0.mk (blk_new w (.cells #[.string x.f0, .bool x.f1, .bool x.f2] 39))
  have L2 := Aside0.mk (World.block_lt_of_cell? _ _ C2.out)
  have HB := Aside0.mk hb0
  clear h1 h2 hb0
  go_enter Tryd.func40, Tryd.ntmps40
  go_wp2_with (fail)
  refine (acl_Applies.calls x.f0 x.f1 x.f2 s _ _ (appl_f x s)).mono ?_
  rintro e w1 ⟨rfl, hb1⟩
  have B1 := Aside0.mk (below_step HB.out hb1)
  have C2' : w1.cell? ⟨hp, 0, none⟩ = some (.func (Fn.func 44) #[] #[]) := (hb1.cell L2.out).trans C2.out
  have N1 := blk_below NB.out hb1
  have q0 : w1.cell? ⟨w.heap.size, 0, none⟩ = some (.string x.f0) := (blk_cell N1 0).trans rfl
  have q1 : w1.cell? ⟨w.heap.size, 1, none⟩ = some (.bool x.f1) := (blk_cell N1 1).trans rfl
  have q2 : w1.cell? ⟨w.heap.size, 2, none⟩ = some (.bool x.f2) := (blk_cell N1 2).trans rfl
  clear hb1 N1 C1
  generalize hap : appl x s = ap
  have HA := Aside0.mk hap
  clear hap
  cases ap
  · go_wp2
    go_ret
    exact ⟨by simp [HA.out], B1.out⟩
  · go_wp2_with (fail)
    refine (hold44 x _).mono ?_
    rintro e w2 ⟨rfl, hb2⟩
    have B2 := Aside0.mk (below_step B1.out hb2)
    clear hb2 C2' q0 q1 q2
    go_wp2
    go_ret
    exact ⟨by simp [HA.out], B2.out⟩

set_option maxHeartbeats 4000000 in
theorem index44 (gp hp : Nat) (s : ByteArray) (A : Option Addr) (c : Nat) (l : List S39) (w : World) (h1 : w.cell? ⟨gp, 0, none⟩ = some (.string s)) (h2 : w.cell? ⟨hp, 0, none⟩ = some (.func (Fn.func 44) #[] #[])) (hl : Kd.C k39 w A l.length l) :
    Calls Tryd.prog 45 #[.slice A l.length c, .func (Fn.func 40) #[] #[.pointer (some ⟨gp, 0, none⟩), .pointer (some ⟨hp, 0, none⟩)]] w fun e w' => ∃ n : Int, e = .returned (.int .i64 n) ∧ (0 ≤ n ↔ (l.any fun x => appl x s && (x.f1 || x.f2)) = true) ∧ Below w.heap.size w w' := by
  have hu := Tryd.underlying39
  have hn := hl.2.1
  have H1 := Aside0.mk h1
  have H2 := Aside0.mk h2
  have L1 := Aside0.mk (World.block_lt_of_cell? _ _ h1)
  have L2 := Aside0.mk (World.block_lt_of_cell? _ _ h2)
  have HL := Aside0.mk hl
  clear h1 h2 hl
  go_enter Tryd.func45, Tryd.ntmps45
  go_wp2
  go_loopw [8] (fun i wr => ∃ k : Nat, k ≤ l.length ∧ i = .int .i64 k ∧ Aside0 (((l.take k).any fun x => appl x s && (x.f1 || x.f2)) = false) ∧ Aside0 (Below w.heap.size w wr)) (fun i _ => l.length - (intOf i).toNat)
  case atStart => exact ⟨0, Nat.zero_le _, rfl, ⟨rfl⟩, ⟨Below.refl _ _⟩⟩
  case round =>
    obtain ⟨k, hk, rfl, HT, B⟩ := hrel
    by_cases hlt : k < l.length
    · obtain ⟨ad, rfl, p0, p1, p2⟩ := at_T39 (Kd.C_below HL.out B.out) (k : Int) (by omega) (by omega)
      have hx : rd_T39 l (k : Int) = l[k] := by simp [rd_T39, List.getD_eq_getElem?_getD, List.getElem?_eq_getElem hlt]
      rw [hx] at p0 p1 p2
      simp only [Int.toNat_natCast] at p0 p1 p2
      have T := Aside0.mk (List.take_succ_eq_append_getElem hlt)
      have G := Aside0.mk (show (appl l[k] s && (l[k].f1 || l[k].f2)) = true → (l.any fun x => appl x s && (x.f1 || x.f2)) = true from fun h => List.any_eq_true.mpr ⟨l[k], List.getElem_mem hlt, h⟩)
      generalize l[k] = x at *
      clear hx
      go_wp2_with (fail)
      refine (both44 gp hp s x _ ((B.out.cell L1.out).trans H1.out) ((B.out.cell L2.out).trans H2.out)).mono ?_
      rintro e w1 ⟨rfl, hb1⟩
      have B1 := Aside0.mk (below_step B.out hb1)
      clear hb1 p0 p1 p2
      have E := Aside0.mk (Eq.refl (appl x s && (x.f1 || x.f2)))
      generalize hq : (appl x s && (x.f1 || x.f2)) = q at G E ⊢
      have HQ := Aside0.mk hq
      clear hq
      cases q
      · have HT1 : Aside0 (((l.take (k + 1)).any fun x => appl x s && (x.f1 || x.f2)) = false) := ⟨by rw [T.out, List.any_append, HT.out]; simpa using HQ.out⟩
        go_wp2
        exact ⟨⟨k + 1, by omega, by go_num, HT1, B1⟩, by simp [intOf]; omega⟩
      · have GG := Aside0.mk (G.out rfl)
        go_wp2
        go_ret
        exact ⟨_, rfl, ⟨fun _ => GG.out, fun _ => by omega⟩, B1.out⟩
    · have HE : Aside0 ((l.any fun x => appl x s && (x.f1 || x.f2)) = false) := ⟨by
        have h := HT.out
        rwa [List.take_of_length_le (by omega)] at h⟩
      go_wp2
      go_ret
      exact ⟨_, rfl, ⟨fun h => absurd h (by decide), fun h => by rw [HE.out] at h; cases h⟩, B.out⟩

theorem contains44 (gp hp : Nat) (s : ByteArray) (A : Option Addr) (c : Nat) (l : List S39) (w : World) (h1 : w.cell? ⟨gp, 0, none⟩ = some (.string s)) (h2 : w.cell? ⟨hp, 0, none⟩ = some (.func (Fn.func 44) #[] #[])) (hl : Kd.C k39 w A l.length l) :
    Calls Tryd.prog 39 #[.slice A l.length c, .func (Fn.func 40) #[] #[.pointer (some ⟨gp, 0, none⟩), .pointer (some ⟨hp, 0, none⟩)]] w fun e w' => e = .returned (.bool (l.any fun x => appl x s && (x.f1 || x.f2))) ∧ Below w.heap.size w w' := by
  have H1 := Aside0.mk h1
  have H2 := Aside0.mk h2
  have HL := Aside0.mk hl
  clear h1 h2 hl
  go_enter Tryd.func39, Tryd.ntmps39
  go_wp2_with (fail)
  refine (index44 gp hp s A c l w H1.out H2.out HL.out).mono ?_
  rintro e w1 ⟨n, rfl, hn, hb1⟩
  have B1 := Aside0.mk hb1
  have HN : Aside0 ((0 ≤ n ↔ (l.any fun x => appl x s && (x.f1 || x.f2)) = true)) := ⟨hn⟩
  clear hn hb1
  go_wp2
  go_ret
  refine ⟨?_, B1.out⟩
  have h := HN.out
  by_cases h0 : 0 ≤ n
  · simp [h.mp h0, h0]
  · have h1 : (l.any fun x => appl x s && (x.f1 || x.f2)) = false := by
      cases hh : (l.any fun x => appl x s && (x.f1 || x.f2))
      · rfl
      · exact absurd (h.mpr hh) h0
    rw [h1]
    simp [h0]

theorem has44 (rp gp : Nat) (s : ByteArray) (v0 v2 v3 : Value) (A : Option Addr) (c : Nat) (l : List S39) (w : World) (h0 : w.cell? ⟨rp, 1, none⟩ = some (.slice A l.length c)) (h1 : w.cell? ⟨gp, 0, none⟩ = some (.string s)) (hl : Kd.C k39 w A l.length l) :
    Calls Tryd.prog 38 #[.func (Fn.func 44) #[] #[], .pointer (some ⟨rp, 0, none⟩), .pointer (some ⟨gp, 0, none⟩)] w fun e w' => e = .returned (.bool (l.any fun x => appl x s && (x.f1 || x.f2))) ∧ Below w.heap.size w w' := by
  have hu := Tryd.underlying30
  have hb0 := below_alloc (Below.refl w.heap.size w) (.cells #[.func (Fn.func 44) #[] #[]] 59)
  have H0 : (w.alloc (.cells #[.func (Fn.func 44) #[] #[]] 59)).cell? ⟨rp, 1, none⟩ = some (.slice A l.length c) := (hb0.cell (World.block_lt_of_cell? w _ h0)).trans h0
  have H1 := Aside0.mk ((hb0.cell (World.block_lt_of_cell? w _ h1)).trans h1)
  have H2 : Aside0 ((w.alloc (.cells #[.func (Fn.func 44) #[] #[]] 59)).cell? ⟨w.heap.size, 0, none⟩ = some (.func (Fn.func 44) #[] #[])) := ⟨(blk_cell (blk_new w (.cells #[.func (Fn.func 44) #[] #[]] 59)) 0).trans rfl⟩
  have HL := Aside0.mk (Kd.C_below hl hb0)
  have HB := Aside0.mk hb0
  clear h0 h1 hl hb0
  go_enter Tryd.func38, Tryd.ntmps38
  go_wp2_with (fail)
  refine (contains44 gp w.heap.size s A c l _ H1.out H2.out HL.out).mono ?_
  rintro e w1 ⟨rfl, hb1⟩
  have B1 := Aside0.mk (below_step HB.out hb1)
  clear hb1 H0
  go_wp2
  go_ret
  exact ⟨rfl, B1.out⟩

-- END GENERATED

/-- What acl.Granted says of a rule's grants. -/
def granted (l : List S39) (s m : ByteArray) : Bool :=
  if kindOf m = 1 then l.any fun x => appl x s && x.f1 else if kindOf m = 2 then l.any fun x => appl x s && x.f2 else if kindOf m = 3 then l.any fun x => appl x s && (x.f1 || x.f2) else false

set_option maxHeartbeats 4000000 in
theorem granted_any (A0 : Option Addr) (c0 : Nat) (l0 : List ByteArray) (A1 : Option Addr) (c1 : Nat) (l : List S39) (b : Bool) (rl s m : ByteArray) (w : World) (hl : Kd.C k39 w A1 l.length l) (hL : Laid w) :
    Calls Tryd.prog 20 #[.agg #[.slice A0 l0.length c0, .slice A1 l.length c1, .bool b, .string rl], .string s, .string m] w fun e w' => e = .returned (.bool (granted l s m)) ∧ Below w.heap.size w w' := by
  have hu := Tryd.underlying30
  have hb0 := below_alloc (below_alloc (Below.refl w.heap.size w) (.cells #[.slice A0 l0.length c0, .slice A1 l.length c1, .bool b, .string rl] 30)) (.cells #[.string s] 9)
  have NB0 := Aside0.mk (blk_alloc (blk_new w (.cells #[.slice A0 l0.length c0, .slice A1 l.length c1, .bool b, .string rl] 30)) (.cells #[.string s] 9))
  have NB1 := Aside0.mk (blk_new (w.alloc (.cells #[.slice A0 l0.length c0, .slice A1 l.length c1, .bool b, .string rl] 30)) (.cells #[.string s] 9))
  have HL := Aside0.mk hl
  have LD := Aside0.mk (hL.below hb0)
  have HB := Aside0.mk hb0
  clear hl hL hb0
  go_enter Tryd.func20, Tryd.ntmps20
  go_wp2_with (fail)
  refine (kind_any m _ LD.out).mono ?_
  rintro e w1 ⟨rfl, hb1⟩
  have B1 := Aside0.mk (below_step HB.out hb1)
  have n0 := blk_below NB0.out hb1
  have n1 := blk_below NB1.out hb1
  have q0 : w1.cell? ⟨w.heap.size, 1, none⟩ = some (.slice A1 l.length c1) := (blk_cell n0 1).trans rfl
  have q1 : w1.cell? ⟨w.heap.size + 1, 0, none⟩ = some (.string s) := by
    have h := (blk_cell n1 0).trans (rfl : _ = some (Value.string s))
    simpa using h
  have Q0 := Aside0.mk q0
  have Q1 := Aside0.mk q1
  have HC := Aside0.mk (Kd.C_below HL.out B1.out)
  clear hb1 n0 n1 q0 q1
  have G : Aside0 (granted l s m = (if kindOf m = 1 then l.any fun x => appl x s && x.f1 else if kindOf m = 2 then l.any fun x => appl x s && x.f2 else if kindOf m = 3 then l.any fun x => appl x s && (x.f1 || x.f2) else false)) := ⟨rfl⟩
  generalize kindOf m = n at G ⊢
  by_cases e1 : n = 1
  · subst e1
    have GG := Aside0.mk (G.out.trans (if_pos rfl))
    go_wp2_with (fail)
    refine (has42 w.heap.size (w.heap.size + 1) s (.bool b) (.bool b) (.bool b) A1 c1 l _ Q0.out Q1.out HC.out).mono ?_
    rintro e w2 ⟨rfl, hb2⟩
    have B2 := Aside0.mk (below_step B1.out hb2)
    clear hb2
    go_wp2
    go_ret
    exact ⟨by simp [GG.out], B2.out⟩
  · by_cases e2 : n = 2
    · subst e2
      have GG := Aside0.mk (G.out.trans ((if_neg (by decide)).trans (if_pos rfl)))
      go_wp2_with (fail)
      refine (has43 w.heap.size (w.heap.size + 1) s (.bool b) (.bool b) (.bool b) A1 c1 l _ Q0.out Q1.out HC.out).mono ?_
      rintro e w2 ⟨rfl, hb2⟩
      have B2 := Aside0.mk (below_step B1.out hb2)
      clear hb2
      go_wp2
      go_ret
      exact ⟨by simp [GG.out], B2.out⟩
    · by_cases e3 : n = 3
      · subst e3
        have GG := Aside0.mk (G.out.trans ((if_neg (by decide)).trans ((if_neg (by decide)).trans (if_pos rfl))))
        go_wp2_with (fail)
        refine (has44 w.heap.size (w.heap.size + 1) s (.bool b) (.bool b) (.bool b) A1 c1 l _ Q0.out Q1.out HC.out).mono ?_
        rintro e w2 ⟨rfl, hb2⟩
        have B2 := Aside0.mk (below_step B1.out hb2)
        clear hb2
        go_wp2
        go_ret
        exact ⟨by simp [GG.out], B2.out⟩
      · have GG := Aside0.mk (G.out.trans ((if_neg e1).trans ((if_neg e2).trans (if_neg e3))))
        have b1 : (n == 1) = false := by simpa using e1
        have b2 : (n == 2) = false := by simpa using e2
        have b3 : (n == 3) = false := by simpa using e3
        clear e1 e2 e3
        go_wp2
        go_ret
        exact ⟨by simp [GG.out], B1.out⟩

end Go.Proofs.YtjapmlfjlojbeaaDoor.PA
