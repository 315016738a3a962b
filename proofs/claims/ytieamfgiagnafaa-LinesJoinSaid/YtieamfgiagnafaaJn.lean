/- The law LinesJoin, walked: it returns true. Conditions: the list is read as a slice of strings; the limit is a byte. -/
import Derived.Test.YtieamfgiagnafaaPj
namespace Go.Proofs.Ytieamfgiagnafaa.Rd
open Go.RowKit Go.Proofs.YtieamfgiagnafaaW.PrintWords Go.Proofs.YtieamfgiagnafaaW.PrintLast Go.Proofs.YtieamfgiagnafaaW.PrintMore
set_option linter.unusedVariables false
set_option linter.unusedSimpArgs false

theorem join_long (A : Option Addr) (c : Nat) (l : List ByteArray) (most : Int) (w : World) (hr : Kd.C Kd.string w A l.length l) (hl : 30 < l.length) : Calls Try.prog 4 #[.slice A l.length c, .int .u8 most] w fun e w' => e = .returned (.bool true) ∧ Below w.heap.size w w' := by
  have hn := hr.2.1
  clear hr
  go_enter Try.func4, Try.ntmps4
  go_wp2_with (fail)
  refine (awake_any _).mono ?_
  rintro e w1 ⟨rfl, hb1⟩
  have HB := Aside0.mk hb1
  clear hb1
  go_wp2_with (fail)
  refine (awake_any _).mono ?_
  rintro e w2 ⟨rfl, hb2⟩
  have HB2 := Aside0.mk (below_then HB.out HB.out.size hb2)
  clear hb2
  go_wp2
  go_ret
  exact ⟨rfl, HB2.out⟩

theorem texts_n (A0 : Option Addr) (c0 n : Nat) (xs : List ByteArray) (A1 : Option Addr) (c1 : Nat) (w : World) (h0 : Kd.C Kd.string w A0 n xs) (hc0 : n ≤ c0) (h1 : Kd.C Kd.string w A1 n xs) (hc1 : n ≤ c1) (hn : n ≤ 1000000) :
    Calls Try.prog 10 #[.slice A0 n c0, .slice A1 n c1] w fun e w' => e = .returned (.bool true) ∧ ∃ m, w.drewN m = w' := by
  have h := h0.1
  subst h
  exact texts_same A0 c0 xs A1 c1 w h0 hc0 h1 hc1 hn
theorem join_n (A : Option Addr) (c n : Nat) (xs : List ByteArray) (w : World) (h0 : Kd.C Kd.string w A n xs) (hc : n ≤ c) (hn : n ≤ 30) (h : ∀ x ∈ xs, x.size ≤ 100) :
    Calls Try.prog 15 #[.slice A n c] w fun e w' => e = .returned (.string (joinB xs)) ∧ w = w' := by
  have e := h0.1
  subst e
  exact join_any A c xs w h0 hc hn h
theorem split_n (a : ByteArray) (most : Int) (xs : List ByteArray) (n : Nat) (x y : Int) (hp : splitP a most = (xs, x, y)) (hn : xs.length = n) (w : World) (hs : a.size ≤ 1000000) : Calls Try.prog 9 #[.string a, .int .i64 most] w fun e w' =>
    ∃ (A : Option Addr) (c : Nat), e = .returned (.tuple #[.slice A n c, .int .i64 x, .int .i64 y]) ∧ n ≤ c ∧ Kd.C Kd.string w' A n xs ∧ Below w.heap.size w w' := by
  have h := split_any' a most w hs
  rw [hp] at h
  subst hn
  exact h

/-- A line that may be joined. -/
def Fit (x : ByteArray) : Prop := x.size ≤ 100 ∧ Plain x
theorem fit_of (x : ByteArray) (h : x.size ≤ 100) (hp : ∀ j : Nat, j < x.size → bt x (j : Int) ≠ 10 ∧ bt x (j : Int) ≠ 13) : Fit x := by
  refine ⟨h, fun c hc => ?_⟩
  obtain ⟨j, hj, rfl⟩ := List.getElem_of_mem hc
  have hj' : j < x.size := by rw [bytesOf_length] at hj; exact hj
  have e : (bytesOf x)[j] = bt x (j : Int) := by
    have h1 := bytesOf_drop x j hj'
    rw [List.drop_eq_getElem_cons hj] at h1
    injection h1
  rw [e]
  exact hp j hj'

set_option maxHeartbeats 8000000 in
theorem join_short (A : Option Addr) (c : Nat) (l : List ByteArray) (most : Int) (w : World) (hr : Kd.C Kd.string w A l.length l) (hc : l.length ≤ c) (hl : l.length ≤ 30) (hm0 : 0 ≤ most) (hm1 : most ≤ 255) (hsz : ∀ x ∈ l, x.size ≤ 9223372036854775807) :
    Calls Try.prog 4 #[.slice A l.length c, .int .u8 most] w fun e w' => e = .returned (.bool true) ∧ Below w.heap.size w w' := by
  have HZ := Aside0.mk hsz
  have HR0 := Aside0.mk hr
  clear hr hsz
  go_enter Try.func4, Try.ntmps4
  go_wp2_with (fail)
  refine (awake_any _).mono ?_
  rintro e w1 ⟨rfl, hb1⟩
  have HB1 := Aside0.mk hb1
  have HR := Aside0.mk (Kd.C_below HR0.out hb1)
  clear hb1 HR0
  go_wp2_with (fail)
  go_loop [5, 6] (fun i _ => ∃ (k : Nat), k ≤ l.length ∧ i = .int .i64 k ∧ Aside0 (∀ x ∈ l.take k, Fit x)) (fun i _ => l.length - (intOf i).toNat)
  case atStart => exact ⟨0, Nat.zero_le _, rfl, ⟨by simp⟩⟩
  case round =>
    obtain ⟨k, hk, rfl, HF⟩ := hrel
    by_cases hlt : k < l.length
    · obtain ⟨ad, rfl, hcell⟩ := Kd.at_string HR.out (k : Int) (by omega) (by omega)
      have hrd : rdOf ByteArray.empty l (k : Int) = l[k] := by simp [rdOf, List.getD_eq_getElem?_getD, List.getElem?_eq_getElem hlt]
      rw [hrd] at hcell
      simp only [Int.toNat_natCast] at hcell
      have hmax : l[k].size ≤ 9223372036854775807 := HZ.out _ (List.getElem_mem hlt)
      have HT := Aside0.mk (List.take_succ_eq_append_getElem hlt)
      clear hrd
      obtain ⟨x, hx⟩ : ∃ x, l[k] = x := ⟨_, rfl⟩
      rw [hx] at hcell hmax HT
      clear hx
      by_cases hbig : 100 < x.size
      · go_wp2
        go_ret
        exact ⟨rfl, HB1.out⟩
      · go_wp2
        go_loop [6] (fun i => ∃ (j : Nat), j ≤ x.size ∧ i = .int .i64 j ∧ Aside0 (∀ n : Nat, n < j → bt x (n : Int) ≠ 10 ∧ bt x (n : Int) ≠ 13)) (fun i => x.size - (intOf i).toNat)
        case atStart => exact ⟨0, Nat.zero_le _, rfl, ⟨fun n hn => absurd hn (by omega)⟩⟩
        case round =>
          obtain ⟨j, hj, rfl, HJ⟩ := hrel
          by_cases hjl : j < x.size
          · have hbt : ((x[j]'hjl).toNat : Int) = bt x (j : Int) := by have := bt_at x (j : Int) (by simpa using hjl); simpa using this
            by_cases e10 : ((x[j]'hjl).toNat : Int) = 10
            · have b10 : (((x[j]'hjl).toNat : Int) == 10) = true := by simpa using e10
              clear hbt e10
              go_wp2
              go_ret
              exact ⟨rfl, HB1.out⟩
            · have b10 : (((x[j]'hjl).toNat : Int) == 10) = false := by simpa using e10
              by_cases e13 : ((x[j]'hjl).toNat : Int) = 13
              · have b13 : (((x[j]'hjl).toNat : Int) == 13) = true := by simpa using e13
                clear hbt e10 e13
                go_wp2
                go_ret
                exact ⟨rfl, HB1.out⟩
              · have b13 : (((x[j]'hjl).toNat : Int) == 13) = false := by simpa using e13
                have HJ1 : Aside0 (∀ n : Nat, n < j + 1 → bt x (n : Int) ≠ 10 ∧ bt x (n : Int) ≠ 13) := ⟨by
                  intro n hn
                  rcases Nat.lt_or_ge n j with h | h
                  · exact HJ.out n h
                  · obtain rfl : n = j := by omega
                    rw [← hbt]
                    exact ⟨e10, e13⟩⟩
                clear hbt e10 e13
                go_wp2
                exact ⟨⟨j + 1, by omega, by go_num, HJ1⟩, by simp [intOf]; omega⟩
          · have HF1 : Aside0 (∀ y ∈ l.take (k + 1), Fit y) := ⟨by
              rw [HT.out]
              intro y hy
              rcases List.mem_append.1 hy with h | h
              · exact HF.out y h
              · rw [List.mem_singleton.1 h]
                exact fit_of x (by omega) (fun n hn => HJ.out n (by omega))⟩
            go_wp2
            exact ⟨⟨k + 1, by omega, by go_num, HF1⟩, by simp [intOf]; omega⟩
    · have HF1 : Aside0 (∀ x ∈ l, Fit x) := ⟨by
        have h := HF.out
        rw [List.take_of_length_le (by omega)] at h
        exact h⟩
      clear HF
      have H100 : Aside0 (∀ x ∈ l, x.size ≤ 100) := ⟨fun x hx => (HF1.out x hx).1⟩
      go_wp2_with (fail)
      refine (join_any A c l w1 HR.out hc hl H100.out).mono ?_
      obtain ⟨s, hs⟩ : ∃ s, joinB l = s := ⟨_, rfl⟩
      rw [hs]
      rintro e w2 ⟨rfl, rfl⟩
      have hsz : s.size ≤ 3060 := by
        rw [← hs]
        have := joinB_size l H100.out
        omega
      have hp1 := splitP_join l 100 (by decide) (fun x hx => ⟨(HF1.out x hx).2, by have := H100.out x hx; omega⟩)
      have hp2 := fun (k : Nat) (hk : k < l.length) (hsm : ∀ x ∈ l.take k, (x.size : Int) ≤ most) (hb : most < (l[k].size : Int)) => splitP_long l most hm0 k hk (fun x hx => ⟨(HF1.out x (List.mem_of_mem_take hx)).2, hsm x hx⟩) (HF1.out _ (List.getElem_mem hk)).2 hb
      rw [hs] at hp1 hp2
      have HP1 := Aside0.mk hp1
      have HP2 := Aside0.mk hp2
      clear hp1 hp2 hs
      go_wp2_with (fail)
      refine (split_n s 100 l l.length _ _ HP1.out rfl _ (by omega)).mono ?_
      rintro e w3 ⟨A3, c3, rfl, hc3, hC3, hb3⟩
      have HC3 := Aside0.mk hC3
      have HR3 := Aside0.mk (Kd.C_below HR.out hb3)
      have HB3 := Aside0.mk (below_then HB1.out HB1.out.size hb3)
      clear hC3 hb3
      go_wp2_with (fail)
      refine (texts_n _ _ _ _ _ _ _ HC3.out hc3 HR3.out hc (by omega)).mono ?_
      rintro e w4 ⟨rfl, q, rfl⟩
      have HR4 := Aside0.mk (Kd.C_below (w1 := w3.drewN q) HR3.out (pw_below_drewN (Below.refl _ _) _))
      have HB4 := Aside0.mk (pw_below_drewN HB3.out q)
      clear HR3 HC3 HB3
      go_wp2_with (fail)
      go_loop [11] (fun i => ∃ (k : Nat), k ≤ l.length ∧ i = .int .i64 k ∧ Aside0 (∀ x ∈ l.take k, (x.size : Int) ≤ most)) (fun i => l.length - (intOf i).toNat)
      case atStart => exact ⟨0, Nat.zero_le _, rfl, ⟨by simp⟩⟩
      case round =>
        obtain ⟨k, hk, rfl, HS⟩ := hrel
        by_cases hlt : k < l.length
        · obtain ⟨ad, rfl, hcell⟩ := Kd.at_string HR4.out (k : Int) (by omega) (by omega)
          have hrd : rdOf ByteArray.empty l (k : Int) = l[k] := by simp [rdOf, List.getD_eq_getElem?_getD, List.getElem?_eq_getElem hlt]
          rw [hrd] at hcell
          simp only [Int.toNat_natCast] at hcell
          have hmax : l[k].size ≤ 100 := H100.out _ (List.getElem_mem hlt)
          have HT := Aside0.mk (List.take_succ_eq_append_getElem hlt)
          have HPk := Aside0.mk (HP2.out k hlt HS.out)
          have HCk : Aside0 (Kd.C Kd.string (w3.drewN q) (some ad) k (l.take k)) := ⟨by
            have h := Kd.C_take HR4.out (m := k) (by omega)
            rwa [List.length_take, Nat.min_eq_left (by omega)] at h⟩
          have hjk : (joinB (l.take k)).size ≤ 3060 := by
            have := joinB_size (l.take k) (fun x hx => H100.out x (List.mem_of_mem_take hx))
            rw [List.length_take] at this
            omega
          have HJk := Aside0.mk (fun (W : World) (h : Kd.C Kd.string W (some ad) k (l.take k)) => join_n (some ad) c k (l.take k) W h (by omega) (by omega) (fun x hx => H100.out x (List.mem_of_mem_take hx)))
          clear hrd
          obtain ⟨x, hx⟩ : ∃ x, l[k] = x := ⟨_, rfl⟩
          rw [hx] at hcell hmax HT HPk
          obtain ⟨y, hy⟩ : ∃ y, joinB (l.take k) = y := ⟨_, rfl⟩
          rw [hy] at HPk hjk HJk
          clear hx hy
          by_cases hbig : most < (x.size : Int)
          · have HPx := Aside0.mk (HPk.out hbig)
            have hlk : (l.take k).length = k := by rw [List.length_take]; omega
            have HLk := Aside0.mk hlk
            clear hlk
            go_wp2_with (fail)
            refine (split_n s most (l.take k) k _ _ HPx.out HLk.out _ (by omega)).mono ?_
            rintro e w5 ⟨A5, c5, rfl, hc5, hC5, hb5⟩
            have HC5 := Aside0.mk hC5
            have HD5 := Aside0.mk (Kd.C_below HCk.out hb5)
            have HB5 := Aside0.mk (below_then HB4.out HB4.out.size hb5)
            clear hC5 hb5
            go_wp2_with (fail)
            refine (texts_n _ _ _ _ _ _ _ HC5.out hc5 HD5.out (by omega) (by omega)).mono ?_
            rintro e w6 ⟨rfl, q6, rfl⟩
            have HD6 := Aside0.mk (Kd.C_below (w1 := w5.drewN q6) HD5.out (pw_below_drewN (Below.refl _ _) _))
            have HB6 := Aside0.mk (pw_below_drewN HB5.out q6)
            go_wp2_with (fail)
            refine (HJk.out _ HD6.out).mono ?_
            rintro e w7 ⟨rfl, rfl⟩
            go_wp2
            go_ret
            exact ⟨rfl, HB6.out⟩
          · have HS1 : Aside0 (∀ z ∈ l.take (k + 1), (z.size : Int) ≤ most) := ⟨by
              rw [HT.out]
              intro z hz
              rcases List.mem_append.1 hz with h | h
              · exact HS.out z h
              · rw [List.mem_singleton.1 h]
                omega⟩
            go_wp2
            exact ⟨⟨k + 1, by omega, by go_num, HS1⟩, by simp [intOf]; omega⟩
        · go_wp2
          go_ret
          exact ⟨rfl, HB4.out⟩

theorem join_walk (A : Option Addr) (c : Nat) (l : List ByteArray) (most : Int) (w : World) (hr : Kd.C Kd.string w A l.length l) (hc : l.length ≤ c) (hm0 : 0 ≤ most) (hm1 : most ≤ 255) (hsz : ∀ x ∈ l, x.size ≤ 9223372036854775807) :
    Calls Try.prog 4 #[.slice A l.length c, .int .u8 most] w fun e w' => e = .returned (.bool true) ∧ Below w.heap.size w w' := by
  rcases Nat.lt_or_ge 30 l.length with h | h
  · exact join_long A c l most w hr h
  · exact join_short A c l most w hr hc h hm0 hm1 hsz
end Go.Proofs.Ytieamfgiagnafaa.Rd
