/- The reference's Split gives what the fold of Put gives, and Texts compares lists: plain Lean over the printed functions. Condition: the string has at most 1000000 bytes. -/
import Derived.Test.YtieamfgiagnafaaSp
namespace Go.Proofs.Ytieamfgiagnafaa.Rd
open Go.RowKit Go.Proofs.YtieamfgiagnafaaW.PrintWords Go.Proofs.YtieamfgiagnafaaW.PrintLast Go.Proofs.YtieamfgiagnafaaW.PrintMore Go.Proofs.Ytieamfgiagnafaa.PLinesTake
set_option linter.unusedVariables false
set_option linter.unusedSimpArgs false

theorem w64 {x : Int} (h0 : 0 ≤ x) (h1 : x ≤ 2000000) : wrap64 x = x := by unfold wrap64; omega

theorem str_extract (a : ByteArray) (i j : Nat) (hij : i ≤ j) (hj : j ≤ a.size) : strOfNums (((bytesOf a).drop i).take (j - i)) = a.extract i j := by
  have h : (a.extract i j).data.toList = (a.data.toList.drop i).take (j - i) := by
    simp [ByteArray.data_extract, List.extract_eq_take_drop]
  have h2 : (strOfNums (((bytesOf a).drop i).take (j - i))).data.toList = (a.data.toList.drop i).take (j - i) := by
    simp [strOfNums, bytesOf, ← List.map_drop, ← List.map_take, Function.comp_def]
  have h3 : (strOfNums (((bytesOf a).drop i).take (j - i))).data = (a.extract i j).data := by
    apply Array.ext'
    rw [h, h2]
  cases h4 : strOfNums (((bytesOf a).drop i).take (j - i)) with
  | mk d =>
    rw [h4] at h3
    cases h5 : a.extract i j with
    | mk d' =>
      rw [h5] at h3
      simp only at h3
      rw [h3]


theorem take_snoc_ {α : Type} (l : List α) (n : Nat) (x : α) (t : List α) (h : l.drop n = x :: t) : l.take (n + 1) = l.take n ++ [x] := by
  have hl : n < l.length := by
    rcases Nat.lt_or_ge n l.length with h1 | h1
    · exact h1
    · rw [List.drop_of_length_le h1] at h
      cases h
  rw [List.drop_eq_getElem_cons hl] at h
  injection h with h1 _
  rw [List.take_succ_eq_append_getElem hl, h1]

/-- The reader inside a line that begins at 'at', its bytes up to i taken. -/
def mid (a : ByteArray) (m : Int) (line : ByteArray) (op : Bool) (st : Int) (at_ i : Nat) : St := ⟨m, ((bytesOf a).drop at_).take (i - at_), line, false, op, st⟩

theorem mid_len (a : ByteArray) (at_ i : Nat) (h1 : at_ ≤ i) (h2 : i ≤ a.size) : (((bytesOf a).drop at_).take (i - at_)).length = i - at_ := by
  rw [List.length_take, List.length_drop, bytesOf_length]
  omega

theorem mid_put (a : ByteArray) (m : Int) (line : ByteArray) (op : Bool) (st : Int) (at_ i : Nat) (h1 : at_ ≤ i) (h2 : i < a.size) (hst : st ≠ 2 ∧ st ≠ 3) (hm : ((i - at_ : Nat) : Int) ≠ m) (hc : bt a i ≠ 10) (hd : bt a i ≠ 13) :
    (mid a m line op st at_ i).put (bt a i) = mid a m line true 0 at_ (i + 1) := by
  have hl := mid_len a at_ i h1 (by omega)
  have hm' : ¬ ((((bytesOf a).drop at_).take (i - at_)).length : Int) = m := by rw [hl]; exact hm
  have hs : (((bytesOf a).drop at_).take (i + 1 - at_)) = ((bytesOf a).drop at_).take (i - at_) ++ [bt a i] := by
    rw [show i + 1 - at_ = (i - at_) + 1 from by omega]
    refine take_snoc_ _ _ _ ((bytesOf a).drop (i + 1)) ?_
    rw [List.drop_drop, show at_ + (i - at_) = i from by omega]
    exact bytesOf_drop a i h2
  simp only [mid, St.put, St.next, hst.1, hst.2, or_self, if_false, Bool.false_eq_true, hc, hd, hm', hs]


section
variable (a : ByteArray) (m : Int) (out : List ByteArray) (at_ i : Int) (k : Nat)
theorem l1_out (h : i = (a.size : Int)) : doorkeeperref09_Split.l1 (k + 1) a m out at_ i = doorkeeperref09_Split.j3 k a m out at_ i := by
  have h1 : ¬ i < (a.size : Int) := by omega
  simp only [doorkeeperref09_Split.l1, h1, if_false]
theorem l1_cr (h : i < (a.size : Int)) (h0 : 0 ≤ i) (hc : bt a i = 13) : doorkeeperref09_Split.l1 (k + 1) a m out at_ i = doorkeeperref09_Split.j3 k a m out at_ i := by
  simp only [doorkeeperref09_Split.l1, h, h0, hc, if_true]
theorem l1_lf (h : i < (a.size : Int)) (h0 : 0 ≤ i) (hc : bt a i ≠ 13) (hd : bt a i = 10) : doorkeeperref09_Split.l1 (k + 1) a m out at_ i = doorkeeperref09_Split.j3 k a m out at_ i := by
  simp only [doorkeeperref09_Split.l1, h, h0, hd, if_true]
  simp
theorem l1_on (h : i < (a.size : Int)) (h0 : 0 ≤ i) (hc : bt a i ≠ 13) (hd : bt a i ≠ 10) (hm : wrap64 (i - at_) < m) : doorkeeperref09_Split.l1 (k + 1) a m out at_ i = doorkeeperref09_Split.l1 k a m out at_ (wrap64 (i + 1)) := by
  simp only [doorkeeperref09_Split.l1, h, h0, hc, hd, hm, if_true, if_false]
theorem l1_long (h : i < (a.size : Int)) (h0 : 0 ≤ i) (hc : bt a i ≠ 13) (hd : bt a i ≠ 10) (hm : ¬ wrap64 (i - at_) < m) : doorkeeperref09_Split.l1 (k + 1) a m out at_ i = doorkeeperref09_Split.j3 k a m out at_ i := by
  simp only [doorkeeperref09_Split.l1, h, h0, hc, hd, hm, if_true, if_false]
theorem j3_end (h : i = (a.size : Int)) : doorkeeperref09_Split.j3 (k + 1) a m out at_ i = some (out, i, 0) := by
  simp only [doorkeeperref09_Split.j3, h, if_true]
theorem j3_lf (h : i < (a.size : Int)) (h0 : 0 ≤ i) (hd : bt a i = 10) : doorkeeperref09_Split.j3 (k + 1) a m out at_ i = some (out, wrap64 (i + 1), 2) := by
  have h1 : ¬ i = (a.size : Int) := by omega
  simp only [doorkeeperref09_Split.j3, h1, h, h0, hd, if_true, if_false]
theorem j3_long (h : i < (a.size : Int)) (h0 : 0 ≤ i) (hc : bt a i ≠ 13) (hd : bt a i ≠ 10) : doorkeeperref09_Split.j3 (k + 1) a m out at_ i = some (out, wrap64 (i + 1), 3) := by
  have h1 : ¬ i = (a.size : Int) := by omega
  simp only [doorkeeperref09_Split.j3, h1, h, h0, hc, hd, if_true, if_false]
theorem j3_crend (h : i < (a.size : Int)) (h0 : 0 ≤ i) (hc : bt a i = 13) (h2 : wrap64 (i + 1) = (a.size : Int)) : doorkeeperref09_Split.j3 (k + 1) a m out at_ i = some (out, wrap64 (i + 1), 0) := by
  have h1 : ¬ i = (a.size : Int) := by omega
  have hd : ¬ (13 : Int) = 10 := by decide
  simp only [doorkeeperref09_Split.j3, h1, h, h0, hc, hd, h2, if_true, if_false]
theorem j3_crbad (h : i < (a.size : Int)) (h0 : 0 ≤ i) (hc : bt a i = 13) (h2 : wrap64 (i + 1) < (a.size : Int)) (h3 : 0 ≤ wrap64 (i + 1)) (h4 : bt a (wrap64 (i + 1)) ≠ 10) : doorkeeperref09_Split.j3 (k + 1) a m out at_ i = some (out, wrap64 (i + 2), 2) := by
  have h1 : ¬ i = (a.size : Int) := by omega
  have h5 : ¬ wrap64 (i + 1) = (a.size : Int) := by omega
  have hd : ¬ (13 : Int) = 10 := by decide
  simp only [doorkeeperref09_Split.j3, h1, h, h0, hc, hd, h2, h3, h4, h5, if_true, if_false]
theorem j3_line (h : i < (a.size : Int)) (h0 : 0 ≤ i) (hc : bt a i = 13) (h2 : wrap64 (i + 1) < (a.size : Int)) (h3 : 0 ≤ wrap64 (i + 1)) (h4 : bt a (wrap64 (i + 1)) = 10) (h6 : 0 ≤ at_) (h7 : at_ ≤ i) (h8 : out.length < 8796093022208) :
    doorkeeperref09_Split.j3 (k + 1) a m out at_ i = doorkeeperref09_Split.l0 k a m (out ++ [a.extract at_.toNat i.toNat]) (wrap64 (i + 2)) := by
  have h1 : ¬ i = (a.size : Int) := by omega
  have h5 : ¬ wrap64 (i + 1) = (a.size : Int) := by omega
  have h9 : i ≤ (a.size : Int) := by omega
  have hd : ¬ (13 : Int) = 10 := by decide
  simp only [doorkeeperref09_Split.j3, h1, h, h0, hc, hd, h2, h3, h4, h5, h6, h7, h8, h9, if_true, if_false]
end


theorem wn1 (i : Nat) (h : i < 1000000) : wrap64 ((i : Int) + 1) = ((i + 1 : Nat) : Int) := (w64 (by omega) (by omega)).trans (by omega)
theorem wn2 (i : Nat) (h : i < 1000000) : wrap64 ((i : Int) + 2) = ((i + 2 : Nat) : Int) := (w64 (by omega) (by omega)).trans (by omega)
theorem wns (at_ i : Nat) (h : i < 1000000) (h1 : at_ ≤ i) : wrap64 ((i : Int) - at_) = ((i - at_ : Nat) : Int) := (w64 (by omega) (by omega)).trans (by omega)
theorem n_cr (a : ByteArray) (ha : a.size ≤ 1000000) (m : Int) (out : List ByteArray) (at_ i : Nat) (k : Nat) (h : i < a.size) (hc : bt a i = 13) : doorkeeperref09_Split.l1 (k + 1) a m out at_ i = doorkeeperref09_Split.j3 k a m out at_ i :=
  l1_cr a m out at_ i k (by omega) (by omega) hc
theorem n_lf (a : ByteArray) (ha : a.size ≤ 1000000) (m : Int) (out : List ByteArray) (at_ i : Nat) (k : Nat) (h : i < a.size) (hc : bt a i ≠ 13) (hd : bt a i = 10) : doorkeeperref09_Split.l1 (k + 1) a m out at_ i = doorkeeperref09_Split.j3 k a m out at_ i :=
  l1_lf a m out at_ i k (by omega) (by omega) hc hd
theorem n_on (a : ByteArray) (ha : a.size ≤ 1000000) (m : Int) (out : List ByteArray) (at_ i : Nat) (k : Nat) (h : i < a.size) (h1 : at_ ≤ i) (hc : bt a i ≠ 13) (hd : bt a i ≠ 10) (hm : ((i - at_ : Nat) : Int) < m) : doorkeeperref09_Split.l1 (k + 1) a m out at_ i = doorkeeperref09_Split.l1 k a m out at_ ((i + 1 : Nat) : Int) := by
  have hi : i < 1000000 := by omega
  rw [l1_on a m out at_ i k (by omega) (by omega) hc hd (by rw [wns _ _ hi h1]; exact hm), wn1 _ hi]
theorem n_long (a : ByteArray) (ha : a.size ≤ 1000000) (m : Int) (out : List ByteArray) (at_ i : Nat) (k : Nat) (h : i < a.size) (h1 : at_ ≤ i) (hc : bt a i ≠ 13) (hd : bt a i ≠ 10) (hm : ¬ ((i - at_ : Nat) : Int) < m) : doorkeeperref09_Split.l1 (k + 1) a m out at_ i = doorkeeperref09_Split.j3 k a m out at_ i := by
  have hi : i < 1000000 := by omega
  exact l1_long a m out at_ i k (by omega) (by omega) hc hd (by rw [wns _ _ hi h1]; exact hm)
theorem n3_lf (a : ByteArray) (ha : a.size ≤ 1000000) (m : Int) (out : List ByteArray) (at_ i : Nat) (k : Nat) (h : i < a.size) (hd : bt a i = 10) : doorkeeperref09_Split.j3 (k + 1) a m out at_ i = some (out, ((i + 1 : Nat) : Int), 2) := by
  rw [j3_lf a m out at_ i k (by omega) (by omega) hd, wn1 _ (by omega)]
theorem n3_long (a : ByteArray) (ha : a.size ≤ 1000000) (m : Int) (out : List ByteArray) (at_ i : Nat) (k : Nat) (h : i < a.size) (hc : bt a i ≠ 13) (hd : bt a i ≠ 10) : doorkeeperref09_Split.j3 (k + 1) a m out at_ i = some (out, ((i + 1 : Nat) : Int), 3) := by
  rw [j3_long a m out at_ i k (by omega) (by omega) hc hd, wn1 _ (by omega)]
theorem n3_crend (a : ByteArray) (ha : a.size ≤ 1000000) (m : Int) (out : List ByteArray) (at_ i : Nat) (k : Nat) (h : i < a.size) (hc : bt a i = 13) (h2 : i + 1 = a.size) : doorkeeperref09_Split.j3 (k + 1) a m out at_ i = some (out, (a.size : Int), 0) := by
  have hi : i < 1000000 := by omega
  have e : ((i + 1 : Nat) : Int) = a.size := by omega
  rw [j3_crend a m out at_ i k (by omega) (by omega) hc (by rw [wn1 _ hi]; exact e), wn1 _ hi, e]
theorem n3_crbad (a : ByteArray) (ha : a.size ≤ 1000000) (m : Int) (out : List ByteArray) (at_ i : Nat) (k : Nat) (h : i + 1 < a.size) (hc : bt a i = 13) (h4 : bt a ((i + 1 : Nat) : Int) ≠ 10) : doorkeeperref09_Split.j3 (k + 1) a m out at_ i = some (out, ((i + 2 : Nat) : Int), 2) := by
  have hi : i < 1000000 := by omega
  have e1 : ((i + 1 : Nat) : Int) < a.size := by omega
  have e2 : (0 : Int) ≤ ((i + 1 : Nat) : Int) := by omega
  rw [j3_crbad a m out at_ i k (by omega) (by omega) hc (by rw [wn1 _ hi]; exact e1) (by rw [wn1 _ hi]; exact e2) (by rw [wn1 _ hi]; exact h4), wn2 _ hi]
theorem n3_line (a : ByteArray) (ha : a.size ≤ 1000000) (m : Int) (out : List ByteArray) (at_ i : Nat) (k : Nat) (h : i + 1 < a.size) (h1 : at_ ≤ i) (hc : bt a i = 13) (h4 : bt a ((i + 1 : Nat) : Int) = 10) (ho : out.length ≤ i) : doorkeeperref09_Split.j3 (k + 1) a m out at_ i = doorkeeperref09_Split.l0 k a m (out ++ [a.extract at_ i]) ((i + 2 : Nat) : Int) := by
  have hi : i < 1000000 := by omega
  have e1 : ((i + 1 : Nat) : Int) < a.size := by omega
  have e2 : (0 : Int) ≤ ((i + 1 : Nat) : Int) := by omega
  rw [j3_line a m out at_ i k (by omega) (by omega) hc (by rw [wn1 _ hi]; exact e1) (by rw [wn1 _ hi]; exact e2) (by rw [wn1 _ hi]; exact h4) (by omega) (by omega) (by omega), wn2 _ hi, Int.toNat_natCast, Int.toNat_natCast]

theorem put_cr10 (m : Int) (buf : List Int) (line : ByteArray) : St.put ⟨m, buf, line, true, true, 0⟩ 10 = ⟨m, [], strOfNums buf, false, false, 1⟩ := by simp [St.put, St.next]
theorem put_crbad (m : Int) (buf : List Int) (line : ByteArray) (c : Int) (h : c ≠ 10) : St.put ⟨m, buf, line, true, true, 0⟩ c = ⟨m, buf, line, true, true, 2⟩ := by simp [St.put, St.next, h]

set_option maxHeartbeats 1000000 in
theorem ref_ev (a : ByteArray) (ha : a.size ≤ 1000000) (m : Int) (hm0 : 0 ≤ m) : ∀ d : Nat,
    (∀ (i at_ : Nat) (line : ByteArray) (op : Bool) (st : Int) (out : List ByteArray), a.size - i ≤ d → at_ ≤ i → i ≤ a.size → ((i - at_ : Nat) : Int) ≤ m → (op = true ∨ i < a.size) → (st ≠ 2 ∧ st ≠ 3) → out.length ≤ i →
      Ev (fun k => doorkeeperref09_Split.l1 k a m out at_ i) (splitGo (mid a m line op st at_ i) ((bytesOf a).drop i) i out)) ∧
    (∀ (at_ : Nat) (line : ByteArray) (st : Int) (out : List ByteArray), a.size - at_ + 1 ≤ d → at_ ≤ a.size → (st ≠ 2 ∧ st ≠ 3) → out.length ≤ at_ →
      Ev (fun k => doorkeeperref09_Split.l0 k a m out at_) (splitGo ⟨m, [], line, false, false, st⟩ ((bytesOf a).drop at_) at_ out)) := by
  intro d
  induction d with
  | zero =>
    refine ⟨fun i at_ line op st out hd h1 h2 h3 hop hst hol => ?_, fun at_ line st out hd => absurd hd (by omega)⟩
    have hi : i = a.size := by omega
    subst hi
    have hop' : op = true := by
      rcases hop with h | h
      · exact h
      · omega
    subst hop'
    refine Ev.step (f := fun k => doorkeeperref09_Split.j3 k a m out at_ a.size) (fun k => ?_) (Ev.step (f := fun _ => some (out, (a.size : Int), 0)) (fun k => ?_) ?_)
    · exact l1_out a m out at_ _ k rfl
    · exact j3_end a m out at_ _ k rfl
    · rw [List.drop_of_length_le (by rw [bytesOf_length]; omega)]
      simp only [splitGo, mid]
      exact Ev.now _
  | succ d ih =>
    obtain ⟨ihA, ihB⟩ := ih
    have hA : ∀ (i at_ : Nat) (line : ByteArray) (op : Bool) (st : Int) (out : List ByteArray), a.size - i ≤ d + 1 → at_ ≤ i → i ≤ a.size → ((i - at_ : Nat) : Int) ≤ m → (op = true ∨ i < a.size) → (st ≠ 2 ∧ st ≠ 3) → out.length ≤ i →
      Ev (fun k => doorkeeperref09_Split.l1 k a m out at_ i) (splitGo (mid a m line op st at_ i) ((bytesOf a).drop i) i out) := by
      intro i at_ line op st out hd h1 h2 h3 hop hst hol
      rcases Nat.lt_or_ge i a.size with hlt | hge
      · have hl := mid_len a at_ i h1 h2
        rw [bytesOf_drop a i hlt]
        by_cases hc : bt a i = 13
        · refine Ev.step (f := fun k => doorkeeperref09_Split.j3 k a m out at_ i) (fun k => ?_) ?_
          · exact n_cr a ha m out at_ i k hlt hc
          have hput : (mid a m line op st at_ i).put (bt a i) = ⟨m, ((bytesOf a).drop at_).take (i - at_), line, true, true, 0⟩ := by
            simp [mid, St.put, St.next, hst.1, hst.2, hc]
          simp only [splitGo, hput]
          rw [if_neg (by decide), if_neg (by decide)]
          rcases Nat.lt_or_ge (i + 1) a.size with hlt1 | hge1
          · rw [bytesOf_drop a (i + 1) hlt1]
            by_cases hc1 : bt a ((i + 1 : Nat) : Int) = 10
            · refine Ev.step (f := fun k => doorkeeperref09_Split.l0 k a m (out ++ [a.extract at_ i]) ((i + 2 : Nat) : Int)) (fun k => ?_) ?_
              · exact n3_line a ha m out at_ i k hlt1 h1 hc hc1 hol
              · have hput1 : St.put ⟨m, ((bytesOf a).drop at_).take (i - at_), line, true, true, 0⟩ (bt a ((i + 1 : Nat) : Int)) = ⟨m, [], a.extract at_ i, false, false, 1⟩ := by
                  rw [hc1, put_cr10, str_extract a at_ i h1 h2]
                simp only [splitGo, hput1, if_true]
                have h := ihB (i + 2) (a.extract at_ i) 1 (out ++ [a.extract at_ i]) (by omega) (by omega) ⟨by decide, by decide⟩ (by simp; omega)
                have e : ((i : Int) + 1 + 1) = ((i + 2 : Nat) : Int) := by omega
                rw [e]
                exact h
            · refine Ev.step (f := fun k => some (out, ((i + 2 : Nat) : Int), 2)) (fun k => ?_) ?_
              · exact n3_crbad a ha m out at_ i k hlt1 hc hc1
              · have hput1 : St.put ⟨m, ((bytesOf a).drop at_).take (i - at_), line, true, true, 0⟩ (bt a ((i + 1 : Nat) : Int)) = ⟨m, ((bytesOf a).drop at_).take (i - at_), line, true, true, 2⟩ := put_crbad _ _ _ _ hc1
                simp only [splitGo, hput1]
                rw [if_neg (by decide), if_pos (by decide)]
                have e : ((i : Int) + 1 + 1) = ((i + 2 : Nat) : Int) := by omega
                rw [e]
                exact Ev.now _
          · have hi' : ((i : Int) + 1) = a.size := by omega
            refine Ev.step (f := fun k => some (out, (a.size : Int), 0)) (fun k => ?_) ?_
            · exact n3_crend a ha m out at_ i k hlt hc (by omega)
            · have hdr : (bytesOf a).drop (i + 1) = [] := List.drop_of_length_le (by rw [bytesOf_length]; omega)
              rw [hdr]
              simp only [splitGo, if_true]
              rw [hi']
              exact Ev.now _
        · by_cases hd10 : bt a i = 10
          · refine Ev.step (f := fun k => doorkeeperref09_Split.j3 k a m out at_ i) (fun k => ?_) (Ev.step (f := fun k => some (out, ((i + 1 : Nat) : Int), 2)) (fun k => ?_) ?_)
            · exact n_lf a ha m out at_ i k hlt hc hd10
            · exact n3_lf a ha m out at_ i k hlt hd10
            · have hput1 : (mid a m line op st at_ i).put (bt a i) = ⟨m, ((bytesOf a).drop at_).take (i - at_), line, false, true, 2⟩ := by
                simp [mid, St.put, St.next, hst.1, hst.2, hd10]
              simp only [splitGo, hput1]
              rw [if_neg (by decide), if_pos (by decide)]
              exact Ev.now _
          · by_cases hlm : ((i - at_ : Nat) : Int) < m
            · refine Ev.step (f := fun k => doorkeeperref09_Split.l1 k a m out at_ ((i + 1 : Nat) : Int)) (fun k => ?_) ?_
              · exact n_on a ha m out at_ i k hlt h1 hc hd10 hlm
              · have hput1 := mid_put a m line op st at_ i h1 hlt hst (by omega) hd10 hc
                simp only [splitGo, hput1]
                rw [if_neg (by simp [mid]), if_neg (by simp [mid])]
                exact ihA (i + 1) at_ line true 0 out (by omega) (by omega) (by omega) (by omega) (.inl rfl) ⟨by decide, by decide⟩ (by omega)
            · refine Ev.step (f := fun k => doorkeeperref09_Split.j3 k a m out at_ i) (fun k => ?_) (Ev.step (f := fun k => some (out, ((i + 1 : Nat) : Int), 3)) (fun k => ?_) ?_)
              · exact n_long a ha m out at_ i k hlt h1 hc hd10 hlm
              · exact n3_long a ha m out at_ i k hlt hc hd10
              · have hmm : m = ((i - at_ : Nat) : Int) := by omega
                have hput1 : (mid a m line op st at_ i).put (bt a i) = ⟨m, ((bytesOf a).drop at_).take (i - at_), line, false, true, 3⟩ := by
                  have hl' : ((((bytesOf a).drop at_).take (i - at_)).length : Int) = m := by rw [hl]; exact hmm.symm
                  simp only [mid, St.put, St.next, hst.1, hst.2, or_self, if_false, Bool.false_eq_true, hd10, hc, hl', if_true]
                simp only [splitGo, hput1]
                rw [if_neg (by decide), if_pos (by decide)]
                exact Ev.now _
      · have hi : i = a.size := by omega
        subst hi
        have hop' : op = true := by
          rcases hop with h | h
          · exact h
          · omega
        subst hop'
        refine Ev.step (f := fun k => doorkeeperref09_Split.j3 k a m out at_ a.size) (fun k => ?_) (Ev.step (f := fun _ => some (out, (a.size : Int), 0)) (fun k => ?_) ?_)
        · exact l1_out a m out at_ _ k rfl
        · exact j3_end a m out at_ _ k rfl
        · rw [List.drop_of_length_le (by rw [bytesOf_length]; omega)]
          simp only [splitGo, mid]
          exact Ev.now _
    refine ⟨hA, fun at_ line st out hd h1 hst hol => ?_⟩
    rcases Nat.lt_or_ge at_ a.size with hlt | hge
    · refine Ev.step (f := fun k => doorkeeperref09_Split.l1 k a m out at_ at_) (fun k => ?_) ?_
      · simp only [doorkeeperref09_Split.l0]
        rw [if_pos (by omega)]
      · have h := hA at_ at_ line false st out (by omega) (Nat.le_refl _) h1 (by simpa using hm0) (.inr hlt) hst hol
        simpa [mid] using h
    · have hi : at_ = a.size := by omega
      subst hi
      refine Ev.step (f := fun k => some (out, (a.size : Int), 1)) (fun k => ?_) ?_
      · simp only [doorkeeperref09_Split.l0]
        rw [if_neg (by omega)]
      · rw [List.drop_of_length_le (by rw [bytesOf_length]; omega)]
        simp only [splitGo]
        exact Ev.now _

/-- The reference's Split is the fold of Put. -/
theorem refSplit_eq (a : ByteArray) (ha : a.size ≤ 1000000) (m : Int) : ∃ k, doorkeeperref09_Split.f k a m = some (splitP a m) := by
  have h : Ev (fun k => doorkeeperref09_Split.j0 k a (mx m 0) []) (splitP a m) := by
    refine Ev.step (f := fun k => doorkeeperref09_Split.l0 k a (mx m 0) [] 0) (fun k => by simp only [doorkeeperref09_Split.j0]) ?_
    have h := (ref_ev a ha (mx m 0) (by unfold mx; split <;> omega) (a.size + 1)).2 0 ⟨#[]⟩ 0 [] (by omega) (by omega) ⟨by decide, by decide⟩ (by simp)
    simpa [splitP, St.new] using h
  obtain ⟨k, hk⟩ := h.rounds
  refine ⟨k, ?_⟩
  unfold doorkeeperref09_Split.f
  simp only [mx] at hk
  by_cases hm : m < 0
  · rw [if_pos hm] at hk ⊢
    exact hk
  · rw [if_neg hm] at hk ⊢
    exact hk

/-- Texts compares lists. -/
theorem texts_l0 (x y : List ByteArray) (hl : x.length = y.length) (hx : x.length ≤ 1000000) : ∀ d i : Nat, x.length - i = d → i ≤ x.length → x.take i = y.take i →
    Ev (fun k => doorkeeperref09_Texts.l0 k x y i) (decide (x = y)) := by
  intro d
  induction d with
  | zero =>
    intro i hd hi h
    have e : i = x.length := by omega
    subst e
    refine Ev.step (f := fun _ => some true) (fun k => ?_) ?_
    · simp only [doorkeeperref09_Texts.l0]
      rw [if_neg (by omega)]
    · rw [List.take_length, hl, List.take_length] at h
      subst h
      simpa using Ev.now true
  | succ d ih =>
    intro i hd hi h
    have hi1 : i < x.length := by omega
    have hi2 : i < y.length := by omega
    have hx' : rdOf ByteArray.empty x (i : Int) = x[i] := by simp [rdOf, List.getD_eq_getElem?_getD, List.getElem?_eq_getElem hi1]
    have hy' : rdOf ByteArray.empty y (i : Int) = y[i] := by simp [rdOf, List.getD_eq_getElem?_getD, List.getElem?_eq_getElem hi2]
    by_cases he : x[i].toList = y[i].toList
    · have he' : x[i] = y[i] := by
        rw [ByteArray.toList_eq, ByteArray.toList_eq] at he
        exact ByteArray.ext (Array.toList_inj.mp he)
      refine Ev.step (f := fun k => doorkeeperref09_Texts.l0 k x y ((i + 1 : Nat) : Int)) (fun k => ?_) (ih (i + 1) (by omega) (by omega) ?_)
      · simp only [doorkeeperref09_Texts.l0]
        rw [if_pos (by omega), if_pos (by omega), if_pos (by omega), hx', hy', if_pos he, w64 (by omega) (by omega)]
        rfl
      · rw [List.take_succ_eq_append_getElem hi1, List.take_succ_eq_append_getElem hi2, h, he']
    · refine Ev.step (f := fun k => some false) (fun k => ?_) ?_
      · simp only [doorkeeperref09_Texts.l0]
        rw [if_pos (by omega), if_pos (by omega), if_pos (by omega), hx', hy', if_neg he]
      · have hne : x ≠ y := fun e => he (by subst e; rfl)
        simpa [hne] using Ev.now false
theorem texts_eq (x y : List ByteArray) (hx : x.length ≤ 1000000) : ∃ k, doorkeeperref09_Texts.f k x y = some (decide (x = y)) := by
  unfold doorkeeperref09_Texts.f
  by_cases hl : x.length = y.length
  · obtain ⟨k, hk⟩ := (texts_l0 x y hl hx x.length 0 (by omega) (by omega) (by simp)).rounds
    exact ⟨k, by rw [if_pos (by omega)]; exact hk⟩
  · refine ⟨0, ?_⟩
    rw [if_neg (by omega)]
    have hne : x ≠ y := fun e => hl (by rw [e])
    simp [hne]
end Go.Proofs.Ytieamfgiagnafaa.Rd
