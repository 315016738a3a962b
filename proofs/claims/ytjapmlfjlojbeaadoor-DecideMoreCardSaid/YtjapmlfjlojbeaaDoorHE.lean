/- slices.Equal at strings and the closure of acl.Match, walked. Conditions: the slices are read as lists of strings. -/
import Derived.Test.YtjapmlfjlojbeaaDoorRows
import Derived.Test.YtjapmlfjlojbeaaDoorPBa
import Derived.WalkSpells
import Derived.StillTactics
namespace Go.Proofs.YtjapmlfjlojbeaaDoor.PA
open Go.RowKit Go.Proofs.YtjapmlfjlojbeaaDoorW.PrintWords Go.Proofs.YtjapmlfjlojbeaaDoorW.PrintLast Go.Proofs.YtjapmlfjlojbeaaDoorW.PrintMore
set_option linter.unusedVariables false
set_option linter.unusedSimpArgs false

theorem w64 {x : Int} (h0 : 0 ≤ x) (h1 : x ≤ 9223372036854775807) : wrap64 x = x := by unfold wrap64; omega
theorem bytes_ne {x y : ByteArray} (h : x ≠ y) : (x.toList == y.toList) = false := by
  rw [beq_eq_false_iff_ne]
  intro e
  rw [ByteArray.toList_eq, ByteArray.toList_eq] at e
  exact h (ByteArray.ext (Array.toList_inj.mp e))
theorem bytes_bne {x y : ByteArray} (h : x ≠ y) : (x.toList != y.toList) = true := by
  rw [bne, bytes_ne h]
  rfl
theorem rd_at (l : List ByteArray) (k : Nat) (h : k < l.length) : rdOf ByteArray.empty l (k : Int) = l[k] := by simp [rdOf, List.getD_eq_getElem?_getD, List.getElem?_eq_getElem h]

/-- slices.Equal at []string. -/
theorem equal_any (A0 : Option Addr) (c0 : Nat) (l0 : List ByteArray) (A1 : Option Addr) (c1 : Nat) (l1 : List ByteArray) (w : World) (hr0 : Kd.C Kd.string w A0 l0.length l0) (hc0 : l0.length ≤ c0) (hr1 : Kd.C Kd.string w A1 l1.length l1) (hc1 : l1.length ≤ c1) :
    Calls Tryd.prog 37 #[.slice A0 l0.length c0, .slice A1 l1.length c1] w fun e w' => e = .returned (.bool (decide (l0 = l1))) ∧ ∃ n, w.drewN n = w' := by
  have hm := hr0.2.1
  by_cases hl : l0.length = l1.length
  · have HR0 := Aside0.mk hr0
    have HR1 := Aside0.mk hr1
    have b0 : ((l0.length : Int) != (l1.length : Int)) = false := by rw [hl]; simp
    have b1 : (l0.length != l1.length) = false := by rw [hl]; simp
    have hle : l1.length ≤ l0.length := by omega
    have hge : l0.length ≤ l1.length := by omega
    have HL := Aside0.mk hl
    clear hr0 hr1 hl
    go_enter Tryd.func37, Tryd.ntmps37
    go_wp2
    go_loopw [13] (fun i wr => ∃ k : Nat, k ≤ l0.length ∧ i = .int .i64 k ∧ Aside0 (l0.take k = l1.take k) ∧ ∃ n, wr = w.drewN n) (fun i _ => l0.length - (intOf i).toNat)
    case atStart => exact ⟨0, Nat.zero_le _, rfl, ⟨rfl⟩, 0, rfl⟩
    case round =>
      obtain ⟨k, hk, rfl, HT, n, rfl⟩ := hrel
      by_cases hlt : k < l0.length
      · have hlt1 : k < l1.length := by omega
        obtain ⟨ad0, rfl, hcell0⟩ := Kd.at_string HR0.out (k : Int) (by omega) (by omega)
        obtain ⟨ad1, rfl, hcell1⟩ := Kd.at_string HR1.out (k : Int) (by omega) (by omega)
        rw [rd_at _ _ hlt] at hcell0
        rw [rd_at _ _ hlt1] at hcell1
        simp only [Int.toNat_natCast] at hcell0 hcell1
        have T0 := Aside0.mk (List.take_succ_eq_append_getElem hlt)
        have T1 := Aside0.mk (List.take_succ_eq_append_getElem hlt1)
        have G := Aside0.mk (show l0[k] ≠ l1[k] → l0 ≠ l1 from fun h e => h (by subst e; rfl))
        generalize l0[k] = x at *
        generalize l1[k] = y at *
        by_cases he : x = y
        · subst he
          have HT1 : Aside0 (l0.take (k + 1) = l1.take (k + 1)) := ⟨by rw [T0.out, T1.out, HT.out]⟩
          clear b0 b1
          go_wp2
          go_quiet (fail)
          go_wp2
          exact ⟨⟨k + 1, by omega, by go_num, HT1, _, rfl⟩, by simp [intOf]; omega⟩
        · have hb := bytes_bne he
          have hb' := bytes_ne he
          have G' := Aside0.mk (G.out he)
          clear b0 b1 he
          go_wp2
          go_quiet (fail)
          go_wp2
          go_ret
          exact ⟨by simp [G'.out], _, by first | rfl | exact (World.drewN_drewN ..).symm⟩
      · have HE : Aside0 (l0 = l1) := ⟨by
          have h := HT.out
          rwa [List.take_of_length_le (by omega), List.take_of_length_le (by omega)] at h⟩
        clear b0 b1
        go_wp2
        go_ret
        exact ⟨by simp [HE.out], _, rfl⟩
  · have b0 : ((l0.length : Int) != (l1.length : Int)) = true := by simp; omega
    have b1 : (l0.length != l1.length) = true := by simpa using hl
    have HE : Aside0 (l0 ≠ l1) := ⟨fun e => hl (by rw [e])⟩
    clear hr0 hr1 hl
    go_enter Tryd.func37, Tryd.ntmps37
    go_wp2
    go_ret
    exact ⟨by simp [HE.out], 0, rfl⟩

theorem equal_n (A0 : Option Addr) (c0 n0 : Nat) (l0 : List ByteArray) (A1 : Option Addr) (c1 n1 : Nat) (l1 : List ByteArray) (w : World) (hr0 : Kd.C Kd.string w A0 n0 l0) (hc0 : n0 ≤ c0) (hr1 : Kd.C Kd.string w A1 n1 l1) (hc1 : n1 ≤ c1) :
    Calls Tryd.prog 37 #[.slice A0 n0 c0, .slice A1 n1 c1] w fun e w' => e = .returned (.bool (decide (l0 = l1))) ∧ ∃ n, w.drewN n = w' := by
  have e0 := hr0.1
  have e1 := hr1.1
  subst e0
  subst e1
  exact equal_any A0 c0 l0 A1 c1 l1 w hr0 hc0 hr1 hc1

/-! ### elements of a list of rules, and what their slices lead to -/
structure RV (W : World) (ok : Nat → Prop) (v0 v1 : Value) (x : S30) : Prop where
  f0 : Kd.V Kd.string 9 W 0 ok v0 x.f0
  f1 : Kd.V k39 39 W 0 ok v1 x.f1
theorem RV.map {W W1 : World} {ok ok' : Nat → Prop} {v0 v1 : Value} {x : S30} (h : RV W ok v0 v1 x) (hm : ∀ k, ok k → k < W.heap.size → W1.heap[k]? = W.heap[k]?) (hok : ∀ k, ok k → ok' k) : RV W1 ok' v0 v1 x :=
  ⟨Kd.V_mono (Kd.V_step h.f0 hm) hok, Kd.V_mono (Kd.V_step h.f1 hm) hok⟩
theorem RV.below {W W1 : World} {ok : Nat → Prop} {v0 v1 : Value} {x : S30} (h : RV W ok v0 v1 x) (hb : Below W.heap.size W W1) : RV W1 ok v0 v1 x :=
  h.map (fun k _ hk => hb.block k hk) (fun _ h => h)
theorem RV.nil (W : World) (ok : Nat → Prop) : RV W ok (.slice none 0 0) (.slice none 0 0) z30 := ⟨Kd.V_nil _ _ _ _ _, Kd.V_nil _ _ _ _ _⟩
theorem RV.slices {W : World} {ok : Nat → Prop} {v0 v1 : Value} {x : S30} (h : RV W ok v0 v1 x) : ∃ A0 c0 A1 c1, v0 = .slice A0 x.f0.length c0 ∧ v1 = .slice A1 x.f1.length c1 ∧ x.f0.length ≤ c0 ∧ Kd.C Kd.string W A0 x.f0.length x.f0 ∧ x.f1.length ≤ c1 ∧ Kd.C k39 W A1 x.f1.length x.f1 := by
  obtain ⟨A0, c0, rfl⟩ := Kd.V_slice h.f0
  obtain ⟨A1, c1, rfl⟩ := Kd.V_slice h.f1
  obtain ⟨_, h0, h1⟩ := Kd.V_reads' h.f0
  obtain ⟨_, h2, h3⟩ := Kd.V_reads' h.f1
  exact ⟨A0, c0, A1, c1, rfl, rfl, h0, h1, h2, h3⟩
theorem list_elem {W : World} {b : Nat} {ok : Nat → Prop} {A : Option Addr} {c : Nat} {l : List S30} (h : Kd.V k30 30 W b ok (.slice A l.length c) l) (i : Nat) (hi : i < l.length) :
    ∃ ad v0 v1, A = some ad ∧ W.cell? (ad.add (i * 4)) = some v0 ∧ W.cell? ⟨(ad.add (i * 4)).block, (ad.add (i * 4)).off + 1, none⟩ = some v1 ∧ W.cell? ⟨(ad.add (i * 4)).block, (ad.add (i * 4)).off + 2, none⟩ = some (.bool l[i].f2) ∧
      W.cell? ⟨(ad.add (i * 4)).block, (ad.add (i * 4)).off + 3, none⟩ = some (.string l[i].f3) ∧ RV W ok v0 v1 l[i] := by
  obtain ⟨ad, cs, e, hlen, hK, hc, _⟩ := Kd.F_get (Kd.V_F h) z30 (i : Int) (by omega) (by omega)
  have hx : l.getD (i : Int).toNat z30 = l[i] := by simp [List.getD_eq_getElem?_getD, List.getElem?_eq_getElem hi]
  rw [hx] at hK
  obtain ⟨A0, c0, A1, c1, rfl, h0, g0, h1, g1⟩ := k30_openF hK
  have hc' : ∀ j u, ([Value.slice A0 l[i].f0.length c0, .slice A1 l[i].f1.length c1, .bool l[i].f2, .string l[i].f3] : List Value)[j]? = some u → W.cell? (ad.add (i * 4 + j)) = some u := fun j u hu => by
    have h4 := hc j u hu
    rwa [show (i : Int).toNat * k30.sz + j = i * 4 + j from by rw [Int.toNat_natCast]; rfl] at h4
  exact ⟨ad, _, _, e, hc' 0 _ rfl, by rw [← add_field _ _ 1 (by omega)]; exact hc' 1 _ rfl, by rw [← add_field _ _ 2 (by omega)]; exact hc' 2 _ rfl, by rw [← add_field _ _ 3 (by omega)]; exact hc' 3 _ rfl, Kd.V_mk h0 g0, Kd.V_mk h1 g1⟩

/-- The score that acl.Match gives a rule. -/
def score (x : S30) (path : List ByteArray) : Int := if x.f0.length ≤ path.length ∧ x.f0 = path.take x.f0.length then (x.f0.length : Int) else -1

set_option maxHeartbeats 1000000 in
theorem score_any (A : Option Addr) (c : Nat) (path : List ByteArray) (gp : Nat) (ok : Nat → Prop) (v0 v1 : Value) (x : S30) (w : World) (hp : w.cell? ⟨gp, 0, none⟩ = some (.slice A path.length c)) (hr : Kd.C Kd.string w A path.length path) (hc : path.length ≤ c) (hx : RV w ok v0 v1 x) :
    Calls Tryd.prog 36 #[.agg #[v0, v1, .bool x.f2, .string x.f3], .pointer (some ⟨gp, 0, none⟩)] w fun e w' => e = .returned (.int .i64 (score x path)) ∧ Below w.heap.size w w' := by
  obtain ⟨A0, c0, A1, c1, rfl, rfl, h0, r0, h1, r1⟩ := hx.slices
  have hgp := World.block_lt_of_cell? w _ hp
  have hgp' : gp < w.heap.size := hgp
  have hn0 := r0.2.1
  have hn1 := hr.2.1
  have HR := Aside0.mk hr
  have R0 := Aside0.mk r0
  have hu := Tryd.underlying30
  clear hx r1 hr r0 hgp
  by_cases hl : path.length < x.f0.length
  · have hs : score x path = -1 := by unfold score; rw [if_neg (by omega)]
    rw [hs]
    have b : decide ((path.length : Int) < (x.f0.length : Int)) = true := by simp; omega
    go_enter Tryd.func36, Tryd.ntmps36
    go_wp2
    go_quiet (fail)
    go_wp2
    go_ret
    exact ⟨rfl, pw_below_drewN (below_alloc (Below.refl _ _) _) _⟩
  · have b : decide ((path.length : Int) < (x.f0.length : Int)) = false := by simp; omega
    have hle : x.f0.length ≤ path.length := by omega
    have RT : Aside0 (Kd.C Kd.string w A x.f0.length (path.take x.f0.length)) := ⟨by
      have h := Kd.C_take HR.out (m := x.f0.length) hle
      rwa [List.length_take, Nat.min_eq_left hle] at h⟩
    have z1 : (x.f0.length : Int) ≤ (c : Int) := by omega
    have z2 : (0 : Int) ≤ (x.f0.length : Int) := by omega
    have z3 : x.f0.length ≤ c := by omega
    have R0a := Aside0.mk (Kd.C_below R0.out (below_alloc (Below.refl w.heap.size w) (.cells #[.slice A0 x.f0.length c0, .slice A1 x.f1.length c1, .bool x.f2, .string x.f3] 30)))
    have RTa := Aside0.mk (Kd.C_below RT.out (below_alloc (Below.refl w.heap.size w) (.cells #[.slice A0 x.f0.length c0, .slice A1 x.f1.length c1, .bool x.f2, .string x.f3] 30)))
    by_cases he : x.f0 = path.take x.f0.length
    · have hs : score x path = (x.f0.length : Int) := by unfold score; rw [if_pos ⟨hle, he⟩]
      rw [hs]
      have HD := Aside0.mk (decide_eq_true he)
      clear he hl hs
      go_enter Tryd.func36, Tryd.ntmps36
      go_wp2
      go_quiet ((go_at_call 37; refine (equal_n _ _ _ x.f0 _ _ _ (path.take x.f0.length) _ (by first | exact R0a.out | exact Kd.C_below R0a.out (pw_below_drewN (Below.refl _ _) _)) h0 (by first | exact RTa.out | exact Kd.C_below RTa.out (pw_below_drewN (Below.refl _ _) _)) (by omega)).mono ?_; rw [HD.out]; rintro e w' ⟨rfl, nd, rfl⟩; first | exact ⟨rfl, _, World.drewN_drewN _ _ _⟩ | exact ⟨rfl, _, Eq.trans (World.drewN_drewN _ _ _) (congrArg (World.drewN _) (Nat.add_assoc _ _ _))⟩))
      go_wp2
      go_ret
      exact ⟨rfl, pw_below_drewN (below_alloc (Below.refl _ _) _) _⟩
    · have hs : score x path = -1 := by unfold score; rw [if_neg (fun h => he h.2)]
      rw [hs]
      have HD := Aside0.mk (decide_eq_false he)
      clear he hl hs
      go_enter Tryd.func36, Tryd.ntmps36
      go_wp2
      go_quiet ((go_at_call 37; refine (equal_n _ _ _ x.f0 _ _ _ (path.take x.f0.length) _ (by first | exact R0a.out | exact Kd.C_below R0a.out (pw_below_drewN (Below.refl _ _) _)) h0 (by first | exact RTa.out | exact Kd.C_below RTa.out (pw_below_drewN (Below.refl _ _) _)) (by omega)).mono ?_; rw [HD.out]; rintro e w' ⟨rfl, nd, rfl⟩; first | exact ⟨rfl, _, World.drewN_drewN _ _ _⟩ | exact ⟨rfl, _, Eq.trans (World.drewN_drewN _ _ _) (congrArg (World.drewN _) (Nat.add_assoc _ _ _))⟩))
      go_wp2
      go_ret
      exact ⟨rfl, pw_below_drewN (below_alloc (Below.refl _ _) _) _⟩
end Go.Proofs.YtjapmlfjlojbeaaDoor.PA
