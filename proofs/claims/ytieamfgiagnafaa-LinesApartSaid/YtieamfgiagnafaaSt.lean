/- The law LinesStay, walked: it returns true. Condition: each string has at most 2^47 bytes. -/
import Derived.Test.YtieamfgiagnafaaTk
namespace Go.Proofs.Ytieamfgiagnafaa.Rd
open Go.RowKit Go.Proofs.YtieamfgiagnafaaW.PrintWords Go.Proofs.YtieamfgiagnafaaW.PrintLast Go.Proofs.YtieamfgiagnafaaW.PrintMore
set_option linter.unusedVariables false
set_option linter.unusedSimpArgs false

theorem put_ways (s : St) (c : Int) (h2 : s.st ≠ 2) (h3 : s.st ≠ 3) : ((s.put c).st ≤ 1 ∧ (s.put c).st ≠ 2 ∧ (s.put c).st ≠ 3) ∨ (((s.put c).st = 2 ∨ (s.put c).st = 3) ∧ (s.put c).op = true) := by
  have hp : s.put c = { (({ s with op := true } : St).next c).1 with st := (({ s with op := true } : St).next c).2 } := by simp [St.put, h2, h3]
  have hk := next_k { s with op := true } c
  have ho := next_op { s with op := true } c
  generalize (({ s with op := true } : St).next c) = q at hp hk ho
  obtain ⟨q1, q2⟩ := q
  rw [hp]
  simp only at hk ho ⊢
  rcases hk with rfl | rfl | rfl | rfl
  · exact .inl ⟨by decide, by decide, by decide⟩
  · exact .inl ⟨by decide, by decide, by decide⟩
  · exact .inr ⟨.inl rfl, ho (.inl rfl)⟩
  · exact .inr ⟨.inr rfl, ho (.inr rfl)⟩

structure SInv (w : World) (g : Nat) (wr : World) (k : Nat) (σ : St) (o : Option Nat) (last : Int) : Prop where
  ph : (last ≤ 1 ∧ σ.st ≠ 2 ∧ σ.st ≠ 3) ∨ ((last = 2 ∨ last = 3) ∧ σ.st = last ∧ σ.op = true)
  bl : σ.buf.length ≤ k
  rd : IsR wr w.heap.size g o σ
  below : Below w.heap.size w wr
theorem SInv.step {w wr : World} {g k : Nat} {σ : St} {o : Option Nat} {last : Int} (h : SInv w g wr k σ o last) (c : Int) :
    ((σ.put c).st ≤ 1 ∧ (σ.put c).st ≠ 2 ∧ (σ.put c).st ≠ 3) ∨ (((σ.put c).st = 2 ∨ (σ.put c).st = 3) ∧ (σ.put c).st = (σ.put c).st ∧ (σ.put c).op = true) := by
  rcases h.ph with ⟨_, h2, h3⟩ | ⟨h1, h2, h3⟩
  · rcases put_ways σ c h2 h3 with h | ⟨h, h'⟩
    · exact .inl h
    · exact .inr ⟨h, rfl, h'⟩
  · have hp : σ.put c = σ := by
      unfold St.put
      rw [if_pos (by rw [h2]; exact h1)]
    rw [hp]
    exact .inr ⟨by rw [h2]; exact h1, rfl, h3⟩

theorem stay_long (a b : ByteArray) (most : Int) (w : World) (hs : a.size ≤ 140737488351232) (hs' : b.size ≤ 140737488351232) (hl : 500 < a.size ∨ (a.size ≤ 500 ∧ 500 < b.size)) : Calls Try.prog 5 #[.string a, .string b, .int .i64 most] w fun e w' => e = .returned (.bool true) ∧ Below w.heap.size w w' := by
  rcases hl with hl | ⟨hl, hl'⟩
  all_goals
    go_enter Try.func5, Try.ntmps5
    go_wp2_with (fail)
    refine (awake_any _).mono ?_
    rintro e w1 ⟨rfl, hb1⟩
    have HB := Aside0.mk hb1
    clear hb1
    go_wp2_with (fail)
    refine (awake_any _).mono ?_
    rintro e w2 ⟨rfl, hb2⟩
    have HB2 := Aside0.mk (below_then HB.out HB.out.size hb2)
    clear hb2
    go_wp2
    go_ret
    exact ⟨rfl, HB2.out⟩

set_option maxHeartbeats 4000000 in
theorem stay_short (a b : ByteArray) (most : Int) (w : World) (hl : a.size ≤ 500) (hl' : b.size ≤ 500) : Calls Try.prog 5 #[.string a, .string b, .int .i64 most] w fun e w' => e = .returned (.bool true) ∧ Below w.heap.size w w' := by
  go_enter Try.func5, Try.ntmps5
  go_wp2_with (fail)
  refine (awake_any _).mono ?_
  rintro e w1 ⟨rfl, hb1⟩
  have HB1 := Aside0.mk hb1
  clear hb1
  go_wp2_with (fail)
  refine (new_any most _).mono ?_
  rintro e w5 ⟨rfl, rfl⟩
  go_wp2_with (fail)
  go_loopw [8, 9] (fun l i wr => ∃ (k : Nat) (σ : St) (o : Option Nat) (last : Int), k ≤ a.size ∧ i = .int .i64 k ∧ l = .int .i64 last ∧ Aside0 (SInv w1 w1.heap.size wr k σ o last)) (fun _ i _ => a.size - (intOf i).toNat)
  case atStart =>
    exact ⟨0, St.new most, none, 1, Nat.zero_le _, rfl, rfl, ⟨⟨.inl ⟨by omega, by simp [St.new], by simp [St.new]⟩, by simp [St.new], new_isR (w := w1) most (Nat.le_refl _), (Below.refl _ _).alloc (Nat.le_refl _) _⟩⟩⟩
  case round =>
    obtain ⟨k, σ, o, last, hk, rfl, rfl, HI⟩ := hrel
    have hbl := HI.out.bl
    by_cases hlt : k < a.size
    · have hst := HI.out.step ((a[k]'hlt).toNat : Int)
      have hbl1 : (σ.put ((a[k]'hlt).toNat : Int)).buf.length ≤ k + 1 := Nat.le_trans (put_buf_le _ _) (by omega)
      obtain ⟨τ, hτ⟩ : ∃ τ, σ.put ((a[k]'hlt).toNat : Int) = τ := ⟨_, rfl⟩
      rw [hτ] at hst hbl1
      have Hτ := Aside0.mk hτ
      have HST := Aside0.mk hst
      clear hτ hst
      go_wp2_with (go_at_call 12; refine (put_any w1.heap.size w1.heap.size o σ _ _ HI.out.rd HI.out.below.size (by omega)).mono ?_; rw [Hτ.out]; rintro e w6 ⟨rfl, o1, hr, hn, hk1⟩; have HR6 := Aside0.mk hr; have HB6 := Aside0.mk (below_kpt HI.out.below (Nat.le_refl _) HI.out.rd hk1); clear hr hn hk1)
      exact ⟨⟨k + 1, τ, o1, τ.st, by omega, by go_num, rfl, ⟨⟨by simpa using HST.out, hbl1, HR6.out, HB6.out⟩⟩⟩, by simp [intOf]; omega⟩
    · rcases HI.out.ph with ⟨hla, h2, h3⟩ | ⟨h1, h2, h3⟩
      · clear h2 h3
        have HB7 := Aside0.mk (below_then HB1.out HB1.out.size HI.out.below)
        go_wp2
        go_ret
        exact ⟨rfl, HB7.out⟩
      · have hge : 2 ≤ last := by omega
        have hs : σ.st = 2 ∨ σ.st = 3 := by rw [h2]; exact h1
        have HS := Aside0.mk hs
        have HE := Aside0.mk h2
        have HO := Aside0.mk h3
        have HB7 := Aside0.mk (below_then HB1.out HB1.out.size HI.out.below)
        clear h1 h2 hs h3
        go_wp2_with (go_at_call 13; refine (line_any _ _ _ _ _ HI.out.rd).mono ?_; rintro e w7 ⟨rfl, rfl⟩)
        go_loop [11] (fun i => ∃ (j : Nat), j ≤ b.size ∧ i = .int .i64 j) (fun i => b.size - (intOf i).toNat)
        case atStart => exact ⟨0, Nat.zero_le _, rfl⟩
        case round =>
          obtain ⟨j, hj, rfl⟩ := hrel
          by_cases hjl : j < b.size
          · go_wp2_with (go_at_call 12; refine (put_shut w1.heap.size w1.heap.size o σ _ _ HI.out.rd HS.out).mono ?_; rw [HE.out]; rintro e w6 ⟨rfl, rfl⟩)
            exact ⟨⟨j + 1, by omega, by go_num⟩, by simp [intOf]; omega⟩
          · go_wp2_with (first
              | (go_at_call 13; refine (line_any _ _ _ _ _ HI.out.rd).mono ?_; rintro e w7 ⟨rfl, rfl⟩)
              | (go_at_call 14; refine (open_any _ _ _ _ _ HI.out.rd).mono ?_; rw [HO.out]; rintro e w9 ⟨rfl, rfl⟩))
            go_ret
            exact ⟨rfl, HB7.out⟩

theorem stay_walk (a b : ByteArray) (most : Int) (w : World) (hs : a.size ≤ 140737488351232) (hs' : b.size ≤ 140737488351232) : Calls Try.prog 5 #[.string a, .string b, .int .i64 most] w fun e w' => e = .returned (.bool true) ∧ Below w.heap.size w w' := by
  rcases Nat.lt_or_ge 500 a.size with h | h
  · exact stay_long a b most w hs hs' (.inl h)
  · rcases Nat.lt_or_ge 500 b.size with h' | h'
    · exact stay_long a b most w hs hs' (.inr ⟨h, h'⟩)
    · exact stay_short a b most w h h'
end Go.Proofs.Ytieamfgiagnafaa.Rd
