/- The law LinesTake, walked: it returns true. Condition: the string has at most 2^47 bytes. -/
import Derived.Test.YtieamfgiagnafaaAw
import Derived.Test.YtieamfgiagnafaaPu
namespace Go.Proofs.Ytieamfgiagnafaa.Rd
open Go.RowKit Go.Proofs.YtieamfgiagnafaaW.PrintWords Go.Proofs.YtieamfgiagnafaaW.PrintLast Go.Proofs.YtieamfgiagnafaaW.PrintMore
set_option linter.unusedVariables false
set_option linter.unusedSimpArgs false

theorem ref_any (a : ByteArray) (most : Int) (w : World) (hs : a.size ≤ 1000000) : Calls Try.prog 8 #[.string a, .int .i64 most] w fun e w' =>
    ∃ (A : Option Addr) (c : Nat), e = .returned (.tuple #[.slice A (splitP a most).1.length c, .int .i64 (splitP a most).2.1, .int .i64 (splitP a most).2.2]) ∧ (splitP a most).1.length ≤ c ∧ Kd.C Kd.string w' A (splitP a most).1.length (splitP a most).1 ∧ Below w.heap.size w w' := by
  obtain ⟨k, hk⟩ := refSplit_eq a hs most
  refine (PLinesTake.doorkeeperref09_Split.calls k a most _ _ _ w hk).mono ?_
  rintro e w' ⟨v, rfl, hR, hB⟩
  obtain ⟨A, c, rfl, hc, hC⟩ := Kd.R_reads hR
  exact ⟨A, c, rfl, hc, hC, hB⟩
theorem split_any' (a : ByteArray) (most : Int) (w : World) (hs : a.size ≤ 1000000) : Calls Try.prog 9 #[.string a, .int .i64 most] w fun e w' =>
    ∃ (A : Option Addr) (c : Nat), e = .returned (.tuple #[.slice A (splitP a most).1.length c, .int .i64 (splitP a most).2.1, .int .i64 (splitP a most).2.2]) ∧ (splitP a most).1.length ≤ c ∧ Kd.C Kd.string w' A (splitP a most).1.length (splitP a most).1 ∧ Below w.heap.size w w' := by
  refine (split_any a most w hs).mono ?_
  rintro e w' ⟨v, rfl, hR, hB⟩
  obtain ⟨A, c, rfl, hc, hC⟩ := Kd.R_reads hR
  exact ⟨A, c, rfl, hc, hC, hB⟩
theorem texts_any (A0 : Option Addr) (c0 : Nat) (l0 : List ByteArray) (A1 : Option Addr) (c1 : Nat) (l1 : List ByteArray) (w : World) (hr0 : Kd.C Kd.string w A0 l0.length l0) (hc0 : l0.length ≤ c0) (hr1 : Kd.C Kd.string w A1 l1.length l1) (hc1 : l1.length ≤ c1) (hl : l0.length ≤ 1000000) :
    Calls Try.prog 10 #[.slice A0 l0.length c0, .slice A1 l1.length c1] w fun e w' => e = .returned (.bool (decide (l0 = l1))) ∧ ∃ n, w.drewN n = w' := by
  obtain ⟨k, hk⟩ := texts_eq l0 l1 hl
  refine (PLinesTake.doorkeeperref09_Texts.calls k A0 c0 l0 A1 c1 l1 _ w hr0 hc0 hr1 hc1 hk).mono ?_
  rintro e w' ⟨rfl, ⟨n, rfl⟩⟩
  exact ⟨rfl, n, rfl⟩
theorem texts_same (A0 : Option Addr) (c0 : Nat) (l0 : List ByteArray) (A1 : Option Addr) (c1 : Nat) (w : World) (hr0 : Kd.C Kd.string w A0 l0.length l0) (hc0 : l0.length ≤ c0) (hr1 : Kd.C Kd.string w A1 l0.length l0) (hc1 : l0.length ≤ c1) (hl : l0.length ≤ 1000000) :
    Calls Try.prog 10 #[.slice A0 l0.length c0, .slice A1 l0.length c1] w fun e w' => e = .returned (.bool true) ∧ ∃ n, w.drewN n = w' := by
  have h := texts_any A0 c0 l0 A1 c1 l0 w hr0 hc0 hr1 hc1 hl
  simpa using h

theorem splitGo_len (s : St) (cs : List Int) (i : Int) (acc : List ByteArray) : (splitGo s cs i acc).1.length ≤ acc.length + cs.length := by
  induction cs generalizing s i acc with
  | nil => unfold splitGo; split <;> simp
  | cons c cs ih =>
    unfold splitGo
    split
    · refine Nat.le_trans (ih _ _ _) ?_
      simp
      omega
    · split
      · simp
      · refine Nat.le_trans (ih _ _ _) ?_
        simp <;> omega
theorem splitP_len (a : ByteArray) (most : Int) : (splitP a most).1.length ≤ a.size := by
  have h := splitGo_len (St.new most) (bytesOf a) 0 []
  rw [bytesOf_length] at h
  simpa [splitP] using h

theorem next_k (s : St) (c : Int) : (s.next c).2 = 0 ∨ (s.next c).2 = 1 ∨ (s.next c).2 = 2 ∨ (s.next c).2 = 3 := by
  unfold St.next
  split
  · split <;> simp
  · split
    · simp
    · split
      · simp
      · split <;> simp
theorem next_op (s : St) (c : Int) (h : (s.next c).2 = 2 ∨ (s.next c).2 = 3) : (s.next c).1.op = s.op := by
  unfold St.next at h ⊢
  split at h
  · rename_i h1
    rw [if_pos h1]
    split at h
    · simp at h
    · rename_i h2
      rw [if_neg h2]
  · rename_i h1
    rw [if_neg h1]
    split at h
    · rename_i h2
      rw [if_pos h2]
    · rename_i h2
      rw [if_neg h2]
      split at h
      · simp at h
      · rename_i h3
        rw [if_neg h3]
        split at h
        · rename_i h4
          rw [if_pos h4]
        · simp at h

structure TInv (a : ByteArray) (most : Int) (w : World) (g : Nat) (wr : World) (v : Value) (k : Nat) (σ : St) (acc : List ByteArray) (o : Option Nat) (last : Int) (want : List ByteArray) (n st : Int) : Prop where
  ph : (splitGo σ ((bytesOf a).drop k) k acc = (want, n, st) ∧ last ≤ 1 ∧ σ.st ≠ 2 ∧ σ.st ≠ 3) ∨ (acc = want ∧ n ≤ k ∧ σ.st = st ∧ last = st ∧ (st = 2 ∨ st = 3) ∧ σ.op = true)
  bl : σ.buf.length ≤ k
  al : acc.length ≤ k
  rd : IsR wr w.heap.size g o σ
  row : Kd.R Kd.string 9 wr w.heap.size (fun _ => True) v acc
  below : Below w.heap.size w wr

theorem TInv.step {a : ByteArray} {most : Int} {w wr : World} {g k : Nat} {v : Value} {σ : St} {acc want : List ByteArray} {o : Option Nat} {last n st : Int} (h : TInv a most w g wr v k σ acc o last want n st) (hlt : k < a.size) :
    ((σ.put (bt a k)).st = 1 ∧ splitGo (σ.put (bt a k)) ((bytesOf a).drop (k + 1)) ((k + 1 : Nat) : Int) (acc ++ [(σ.put (bt a k)).line]) = (want, n, st)) ∨
    (((σ.put (bt a k)).st = 2 ∨ (σ.put (bt a k)).st = 3) ∧ n ≤ ((k + 1 : Nat) : Int) ∧ acc = want ∧ (σ.put (bt a k)).st = st ∧ (σ.put (bt a k)).op = true) ∨
    ((σ.put (bt a k)).st = 0 ∧ splitGo (σ.put (bt a k)) ((bytesOf a).drop (k + 1)) ((k + 1 : Nat) : Int) acc = (want, n, st)) := by
  rcases h.ph with ⟨hgo, hla, h2, h3⟩ | ⟨ha, hn, hs, hl, hst, hop⟩
  · rw [bytesOf_drop a k hlt] at hgo
    simp only [splitGo] at hgo
    have hp : σ.put (bt a k) = { (({ σ with op := true } : St).next (bt a k)).1 with st := (({ σ with op := true } : St).next (bt a k)).2 } := by simp [St.put, h2, h3]
    have hk := next_k { σ with op := true } (bt a k)
    have ho := next_op { σ with op := true } (bt a k)
    generalize (({ σ with op := true } : St).next (bt a k)) = q at hp hk ho
    obtain ⟨q1, q2⟩ := q
    rw [hp] at hgo ⊢
    simp only at hgo hk ho ⊢
    rcases hk with rfl | rfl | rfl | rfl
    · rw [if_neg (by decide), if_neg (by decide)] at hgo
      exact .inr (.inr ⟨rfl, hgo⟩)
    · rw [if_pos rfl] at hgo
      exact .inl ⟨rfl, hgo⟩
    · rw [if_neg (by decide), if_pos (by decide)] at hgo
      injection hgo with h1 h2
      injection h2 with h2 h3
      exact .inr (.inl ⟨.inl rfl, by omega, h1, h3, ho (.inl rfl)⟩)
    · rw [if_neg (by decide), if_pos (by decide)] at hgo
      injection hgo with h1 h2
      injection h2 with h2 h3
      exact .inr (.inl ⟨.inr rfl, by omega, h1, h3, ho (.inr rfl)⟩)
  · have hp : σ.put (bt a k) = σ := by
      unfold St.put
      rw [if_pos (by rw [hs]; exact hst)]
    rw [hp]
    exact .inr (.inl ⟨by rw [hs]; exact hst, by omega, ha, hs, hop⟩)
theorem TInv.last_ {a : ByteArray} {most : Int} {w wr : World} {g k : Nat} {v : Value} {σ : St} {acc want : List ByteArray} {o : Option Nat} {last n st : Int} (h : TInv a most w g wr v k σ acc o last want n st) (hge : k = a.size) :
    acc = want ∧ ((σ.op = true ∧ st = 0 ∧ last ≤ 1) ∨ (σ.op = false ∧ st = 1 ∧ last ≤ 1) ∨ (σ.op = true ∧ st = 2 ∧ last = 2) ∨ (σ.op = true ∧ st = 3 ∧ last = 3)) := by
  rcases h.ph with ⟨hgo, hla, h2, h3⟩ | ⟨ha, hn, hs, hl, hst, hop⟩
  · have hdr : (bytesOf a).drop k = [] := List.drop_of_length_le (by rw [bytesOf_length]; omega)
    rw [hdr] at hgo
    simp only [splitGo] at hgo
    by_cases hop : σ.op = true
    · rw [if_pos hop] at hgo
      injection hgo with h1 h2
      injection h2 with h2 h3
      exact ⟨h1, .inl ⟨hop, h3.symm, hla⟩⟩
    · rw [if_neg hop] at hgo
      injection hgo with h1 h2
      injection h2 with h2 h3
      exact ⟨h1, .inr (.inl ⟨by simpa using hop, h3.symm, hla⟩)⟩
  · rcases hst with rfl | rfl
    · exact ⟨ha, .inr (.inr (.inl ⟨hop, rfl, hl⟩))⟩
    · exact ⟨ha, .inr (.inr (.inr ⟨hop, rfl, hl⟩))⟩

theorem take_long (a : ByteArray) (most : Int) (w : World) (hs : a.size ≤ 140737488351232) (hl : 2000 < a.size) : Calls Try.prog 3 #[.string a, .int .i64 most] w fun e w' => e = .returned (.bool true) ∧ Below w.heap.size w w' := by
  go_enter Try.func3, Try.ntmps3
  go_wp2_with (fail)
  refine (awake_any _).mono ?_
  rintro e w1 ⟨rfl, hb1⟩
  have HB := Aside0.mk hb1
  clear hb1
  go_wp2_with (fail)
  refine (awake_any _).mono ?_
  rintro e w2 ⟨rfl, hb2⟩
  have HB2 := Aside0.mk (below_then HB.out HB.out.size hb2)
  clear hb2
  go_wp2
  go_ret
  exact ⟨rfl, HB2.out⟩

set_option maxHeartbeats 4000000 in
theorem take_short (a : ByteArray) (most : Int) (w : World) (hl : a.size ≤ 2000) : Calls Try.prog 3 #[.string a, .int .i64 most] w fun e w' => e = .returned (.bool true) ∧ Below w.heap.size w w' := by
  obtain ⟨want, n, st, hP⟩ : ∃ want n st, splitP a most = (want, n, st) := ⟨_, _, _, rfl⟩
  have hwl : want.length ≤ a.size := by have := splitP_len a most; rw [hP] at this; exact this
  have hR := fun W => ref_any a most W (by omega)
  have hS := fun W => split_any' a most W (by omega)
  rw [hP] at hR hS
  simp only at hR hS
  have HR := Aside0.mk hR
  have HS := Aside0.mk hS
  have HP := Aside0.mk hP
  clear hR hS hP
  go_enter Try.func3, Try.ntmps3
  go_wp2_with (fail)
  refine (awake_any _).mono ?_
  rintro e w1 ⟨rfl, hb1⟩
  have HB1 := Aside0.mk hb1
  clear hb1
  go_wp2_with (fail)
  refine (HR.out _).mono ?_
  rintro e w2 ⟨A2, c2, rfl, hc2, hC2, hb2⟩
  have HC2 := Aside0.mk hC2
  have HB2 := Aside0.mk (below_then HB1.out HB1.out.size hb2)
  clear hb2 hC2 HB1
  go_wp2_with (fail)
  refine (HS.out _).mono ?_
  rintro e w3 ⟨A3, c3, rfl, hc3, hC3, hb3⟩
  have HC3 := Aside0.mk hC3
  have HB3 := Aside0.mk (below_then HB2.out HB2.out.size hb3)
  have HD2 := Aside0.mk (Kd.C_below HC2.out hb3)
  clear hb3 hC3 HB2 HC2
  go_wp2_with (fail)
  refine (texts_same _ _ _ _ _ _ HC3.out hc3 HD2.out hc2 (by omega)).mono ?_
  rintro e w4 ⟨rfl, q, rfl⟩
  go_wp2_with (fail)
  refine (new_any most _).mono ?_
  rintro e w5 ⟨rfl, rfl⟩
  go_wp2_with (fail)
  have HW := Aside0.mk (Kd.C_below (w1 := w3.drewN q) HD2.out (pw_below_drewN (Below.refl _ _) _))
  have HBq := Aside0.mk (pw_below_drewN HB3.out q)
  clear HD2 HC3 HB3 HR HS
  go_loopw [12, 13, 14] (fun v l i wr => ∃ (k : Nat) (σ : St) (acc : List ByteArray) (o : Option Nat) (last : Int), k ≤ a.size ∧ i = .int .i64 k ∧ l = .int .i64 last ∧ Aside0 (TInv a most (w3.drewN q) w3.heap.size wr v k σ acc o last want n st)) (fun _ _ i _ => a.size - (intOf i).toNat)
  case atStart =>
    refine ⟨0, St.new most, [], none, 1, Nat.zero_le _, rfl, rfl, ⟨⟨.inl ⟨?_, by omega, by simp [St.new], by simp [St.new]⟩, by simp [St.new], by simp, new_isR (w := w3.drewN q) most (Nat.le_refl _), Kd.R_nil _ _ _ _ _, (Below.refl _ _).alloc (Nat.le_refl _) _⟩⟩⟩
    simpa [splitP] using HP.out
  case round =>
    obtain ⟨k, σ, acc, o, last, hk, rfl, rfl, HI⟩ := hrel
    have hbl := HI.out.bl
    by_cases hlt : k < a.size
    · have hbt : ((a[k]'hlt).toNat : Int) = bt a (k : Int) := by have := bt_at a (k : Int) (by simpa using hlt); simpa using this
      have hst := HI.out.step hlt
      rw [← hbt] at hst
      obtain ⟨τ, hτ⟩ : ∃ τ, σ.put ((a[k]'hlt).toNat : Int) = τ := ⟨_, rfl⟩
      rw [hτ] at hst
      have Hτ := Aside0.mk hτ
      have hbl1 : τ.buf.length ≤ k + 1 := by rw [← hτ]; exact Nat.le_trans (put_buf_le _ _) (by omega)
      clear hτ hbt
      rcases hst with ⟨h1, hgo⟩ | ⟨h1, hn, ha, hs, hop⟩ | ⟨h1, hgo⟩
      · have b1 : (τ.st == 1) = true := by simpa using h1
        have b2 : decide (2 ≤ τ.st) = false := by simp [h1]
        have H1 := Aside0.mk h1
        have Hgo := Aside0.mk hgo
        clear h1 hgo
        go_wp2_with (first
          | (go_at_call 12; refine (put_any w3.heap.size w3.heap.size o σ _ _ HI.out.rd HI.out.below.size (by omega)).mono ?_; rw [Hτ.out]; rintro e w6 ⟨rfl, o1, hr, hn, hk1⟩; have HR6 := Aside0.mk hr; have HB6 := Aside0.mk (below_kpt HI.out.below (Nat.le_refl _) HI.out.rd hk1); have HO6 := Aside0.mk (R_kpt HI.out.row HI.out.rd hk1 (by intro q hq; simp [Kd.string, Kd.scalar] at hq; subst hq; decide)); clear hr hn hk1)
          | (go_at_call 13; refine (line_any _ _ _ _ _ HR6.out).mono ?_; rintro e w7 ⟨rfl, rfl⟩)
          | (at_builtin; refine Kd.R_append Kd.string (w0 := w3.drewN q) w3.heap.size rfl (.tmp 68) (.tmp 71) 23 9 (.string ⟨#[]⟩) 16 rfl Try.underlying23 Go.Proofs.Ytieamfgiagnafaa.PLinesTake.info9 rfl (by decide) (by omega) u12 acc τ.line [.string τ.line] (fun _ => True) (fun _ => False) rfl rfl ?aP (fun _ hk => hk.elim) ?aF ?aO ?aB ?aS ?aL ?_; (case aP => exact rfl); (case aB => exact HB6.out); (case aF => exact (fun _ _ => trivial)); (case aO => exact HO6.out); (case aS => exact HB6.out.size); (case aL => have := HI.out.al; omega); intro v1 w7 ho hb hg hat; have HO2 := Aside0.mk ho; have HB2 := Aside0.mk hb; have HR2 := Aside0.mk (isR_grown HR6.out hg (R_row9 HO6.out)); clear ho hb hg hat))
        refine ⟨⟨k + 1, τ, acc ++ [τ.line], o1, τ.st, by omega, by go_num, rfl, ⟨⟨.inl ⟨Hgo.out, by rw [H1.out]; decide, by rw [H1.out]; decide, by rw [H1.out]; decide⟩, hbl1, ?_, HR2.out, HO2.out, HB2.out⟩⟩⟩, by simp [intOf]; omega⟩
        have := HI.out.al
        simp
        omega
      · have b1 : (τ.st == 1) = false := by rcases h1 with h | h <;> rw [h] <;> rfl
        have b2 : 2 ≤ τ.st := by rcases h1 with h | h <;> rw [h] <;> decide
        have H1 := Aside0.mk h1
        have Ha := Aside0.mk ha
        have Hs := Aside0.mk hs
        have Hop := Aside0.mk hop
        clear h1 ha hs hop
        by_cases hnk : ((k : Int) + 1) = n
        · have b3 : (((k : Int) + 1) != n) = false := by rw [hnk]; simp
          clear hnk
          go_wp2_with (go_at_call 12; refine (put_any w3.heap.size w3.heap.size o σ _ _ HI.out.rd HI.out.below.size (by omega)).mono ?_; rw [Hτ.out]; rintro e w6 ⟨rfl, o1, hr, hn, hk1⟩; have HR6 := Aside0.mk hr; have HB6 := Aside0.mk (below_kpt HI.out.below (Nat.le_refl _) HI.out.rd hk1); have HO6 := Aside0.mk (R_kpt HI.out.row HI.out.rd hk1 (by intro q hq; simp [Kd.string, Kd.scalar] at hq; subst hq; decide)); clear hr hn hk1)
          refine ⟨⟨k + 1, τ, acc, o1, τ.st, by omega, by go_num, rfl, ⟨⟨.inr ⟨Ha.out, hn, Hs.out, Hs.out, by rw [← Hs.out]; exact H1.out, Hop.out⟩, hbl1, ?_, HR6.out, HO6.out, HB6.out⟩⟩⟩, by simp [intOf]; omega⟩
          have := HI.out.al
          omega
        · have b3 : (((k : Int) + 1) != n) = true := by simpa using hnk
          have b4 : n < (k : Int) + 1 := by omega
          clear hnk
          go_wp2_with (go_at_call 12; refine (put_any w3.heap.size w3.heap.size o σ _ _ HI.out.rd HI.out.below.size (by omega)).mono ?_; rw [Hτ.out]; rintro e w6 ⟨rfl, o1, hr, hn, hk1⟩; have HR6 := Aside0.mk hr; have HB6 := Aside0.mk (below_kpt HI.out.below (Nat.le_refl _) HI.out.rd hk1); have HO6 := Aside0.mk (R_kpt HI.out.row HI.out.rd hk1 (by intro q hq; simp [Kd.string, Kd.scalar] at hq; subst hq; decide)); clear hr hn hk1)
          refine ⟨⟨k + 1, τ, acc, o1, τ.st, by omega, by go_num, rfl, ⟨⟨.inr ⟨Ha.out, hn, Hs.out, Hs.out, by rw [← Hs.out]; exact H1.out, Hop.out⟩, hbl1, ?_, HR6.out, HO6.out, HB6.out⟩⟩⟩, by simp [intOf]; omega⟩
          have := HI.out.al
          omega
      · have b1 : (τ.st == 1) = false := by rw [h1]; rfl
        have b2 : decide (2 ≤ τ.st) = false := by simp [h1]
        have H1 := Aside0.mk h1
        have Hgo := Aside0.mk hgo
        clear h1 hgo
        go_wp2_with (go_at_call 12; refine (put_any w3.heap.size w3.heap.size o σ _ _ HI.out.rd HI.out.below.size (by omega)).mono ?_; rw [Hτ.out]; rintro e w6 ⟨rfl, o1, hr, hn, hk1⟩; have HR6 := Aside0.mk hr; have HB6 := Aside0.mk (below_kpt HI.out.below (Nat.le_refl _) HI.out.rd hk1); have HO6 := Aside0.mk (R_kpt HI.out.row HI.out.rd hk1 (by intro q hq; simp [Kd.string, Kd.scalar] at hq; subst hq; decide)); clear hr hn hk1)
        refine ⟨⟨k + 1, τ, acc, o1, τ.st, by omega, by go_num, rfl, ⟨⟨.inl ⟨Hgo.out, by rw [H1.out]; decide, by rw [H1.out]; decide, by rw [H1.out]; decide⟩, hbl1, ?_, HR6.out, HO6.out, HB6.out⟩⟩⟩, by simp [intOf]; omega⟩
        have := HI.out.al
        omega
    · obtain ⟨ha, hl⟩ := HI.out.last_ (by omega)
      subst ha
      obtain ⟨A7, c7, hu, hc7, hC7⟩ := Kd.R_reads HI.out.row
      subst hu
      have HC7 := Aside0.mk hC7
      have HW7 := Aside0.mk (Kd.C_below HW.out HI.out.below)
      have HBe := Aside0.mk (below_then HBq.out HBq.out.size HI.out.below)
      clear hC7
      have EX : ∀ (e : Ending) (w' : World), (e = .returned (.bool true) ∧ ∃ m, wr.drewN m = w') → (e = .returned (.bool true) ∧ Below w.heap.size w w') := by
        rintro e w' ⟨rfl, m, rfl⟩
        exact ⟨rfl, pw_below_drewN HBe.out m⟩
      rcases hl with ⟨hop, rfl, hla⟩ | ⟨hop, rfl, hla⟩ | ⟨hop, rfl, rfl⟩ | ⟨hop, rfl, rfl⟩
      · by_cases hz : last = 0
        · subst hz
          go_wp2_with (first
            | (go_at_call 10; refine (texts_same _ _ _ _ _ _ HC7.out hc7 HW7.out hc2 (by omega)).mono ?_; rintro e w8 ⟨rfl, q8, rfl⟩)
            | (go_at_call 14; refine (open_any _ _ _ _ _ (HI.out.rd.drewN q8)).mono ?_; rintro e w9 ⟨rfl, rfl⟩))
          go_ret
          exact EX _ _ ⟨rfl, _, rfl⟩
        · have hz' : (last == 0) = false := by simpa using hz
          clear hz
          go_wp2_with (first
            | (go_at_call 10; refine (texts_same _ _ _ _ _ _ HC7.out hc7 HW7.out hc2 (by omega)).mono ?_; rintro e w8 ⟨rfl, q8, rfl⟩)
            | (go_at_call 14; refine (open_any _ _ _ _ _ (HI.out.rd.drewN q8)).mono ?_; rintro e w9 ⟨rfl, rfl⟩))
          go_ret
          exact EX _ _ ⟨rfl, _, rfl⟩
      · by_cases hz : last = 1
        · subst hz
          go_wp2_with (first
            | (go_at_call 10; refine (texts_same _ _ _ _ _ _ HC7.out hc7 HW7.out hc2 (by omega)).mono ?_; rintro e w8 ⟨rfl, q8, rfl⟩)
            | (go_at_call 14; refine (open_any _ _ _ _ _ (HI.out.rd.drewN q8)).mono ?_; rintro e w9 ⟨rfl, rfl⟩))
          go_ret
          exact EX _ _ ⟨rfl, _, rfl⟩
        · have hz' : (last == 1) = false := by simpa using hz
          clear hz
          go_wp2_with (first
            | (go_at_call 10; refine (texts_same _ _ _ _ _ _ HC7.out hc7 HW7.out hc2 (by omega)).mono ?_; rintro e w8 ⟨rfl, q8, rfl⟩)
            | (go_at_call 14; refine (open_any _ _ _ _ _ (HI.out.rd.drewN q8)).mono ?_; rintro e w9 ⟨rfl, rfl⟩))
          go_ret
          exact EX _ _ ⟨rfl, _, rfl⟩
      · go_wp2_with (first
          | (go_at_call 10; refine (texts_same _ _ _ _ _ _ HC7.out hc7 HW7.out hc2 (by omega)).mono ?_; rintro e w8 ⟨rfl, q8, rfl⟩)
          | (go_at_call 14; refine (open_any _ _ _ _ _ (HI.out.rd.drewN q8)).mono ?_; rintro e w9 ⟨rfl, rfl⟩))
        go_ret
        exact EX _ _ ⟨rfl, _, rfl⟩
      · go_wp2_with (first
          | (go_at_call 10; refine (texts_same _ _ _ _ _ _ HC7.out hc7 HW7.out hc2 (by omega)).mono ?_; rintro e w8 ⟨rfl, q8, rfl⟩)
          | (go_at_call 14; refine (open_any _ _ _ _ _ (HI.out.rd.drewN q8)).mono ?_; rintro e w9 ⟨rfl, rfl⟩))
        go_ret
        exact EX _ _ ⟨rfl, _, rfl⟩

theorem take_walk (a : ByteArray) (most : Int) (w : World) (hs : a.size ≤ 140737488351232) : Calls Try.prog 3 #[.string a, .int .i64 most] w fun e w' => e = .returned (.bool true) ∧ Below w.heap.size w w' := by
  rcases Nat.lt_or_ge 2000 a.size with h | h
  · exact take_long a most w hs h
  · exact take_short a most w h
end Go.Proofs.Ytieamfgiagnafaa.Rd
