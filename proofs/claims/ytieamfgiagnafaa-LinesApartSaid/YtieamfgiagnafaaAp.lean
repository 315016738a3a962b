/- The law LinesApart, walked: it returns true. Condition: each string has at most 2^47 bytes. -/
import Derived.Test.YtieamfgiagnafaaSt
namespace Go.Proofs.Ytieamfgiagnafaa.Rd
open Go.RowKit Go.Proofs.YtieamfgiagnafaaW.PrintWords Go.Proofs.YtieamfgiagnafaaW.PrintLast Go.Proofs.YtieamfgiagnafaaW.PrintMore
set_option linter.unusedVariables false
set_option linter.unusedSimpArgs false

/-! ### plain -/
structure Ph (a : ByteArray) (k : Nat) (σ : St) (acc : List ByteArray) : Prop where
  ph : ((splitGo σ ((bytesOf a).drop (min k a.size)) ((min k a.size : Nat) : Int) acc).1 = (splitP a 1000).1 ∧ σ.st ≠ 2 ∧ σ.st ≠ 3) ∨ (acc = (splitP a 1000).1 ∧ (σ.st = 2 ∨ σ.st = 3))
  bl : σ.buf.length ≤ k
  al : acc.length ≤ k
theorem Ph.start (a : ByteArray) : Ph a 0 (St.new 1000) [] := ⟨.inl ⟨by simp [splitP], by simp [St.new], by simp [St.new]⟩, by simp [St.new], by simp⟩
theorem Ph.stay {a : ByteArray} {k : Nat} {σ : St} {acc : List ByteArray} (h : Ph a k σ acc) (hk : a.size ≤ k) : Ph a (k + 1) σ acc := by
  obtain ⟨h1, h2, h3⟩ := h
  refine ⟨?_, by omega, by omega⟩
  rw [show min (k + 1) a.size = a.size from by omega]
  rw [show min k a.size = a.size from by omega] at h1
  exact h1
theorem Ph.step {a : ByteArray} {k : Nat} {σ : St} {acc : List ByteArray} (h : Ph a k σ acc) (hk : k < a.size) :
    ((σ.put (bt a k)).st = 1 ∧ Ph a (k + 1) (σ.put (bt a k)) (acc ++ [(σ.put (bt a k)).line])) ∨ ((σ.put (bt a k)).st ≠ 1 ∧ Ph a (k + 1) (σ.put (bt a k)) acc) := by
  obtain ⟨h1, h2, h3⟩ := h
  have hb : (σ.put (bt a k)).buf.length ≤ k + 1 := Nat.le_trans (put_buf_le _ _) (by omega)
  rw [show min k a.size = k from by omega] at h1
  have hm : min (k + 1) a.size = k + 1 := by omega
  rcases h1 with ⟨hgo, s2, s3⟩ | ⟨ha, hs⟩
  · rw [bytesOf_drop a k hk] at hgo
    simp only [splitGo] at hgo
    by_cases e1 : (σ.put (bt a k)).st = 1
    · rw [if_pos e1] at hgo
      refine .inl ⟨e1, ⟨.inl ⟨?_, by rw [e1]; decide, by rw [e1]; decide⟩, hb, by simp; omega⟩⟩
      rw [hm]
      exact hgo
    · rw [if_neg e1] at hgo
      refine .inr ⟨e1, ⟨?_, hb, by omega⟩⟩
      by_cases e2 : (σ.put (bt a k)).st = 2 ∨ (σ.put (bt a k)).st = 3
      · rw [if_pos e2] at hgo
        exact .inr ⟨hgo, e2⟩
      · rw [if_neg e2] at hgo
        refine .inl ⟨?_, fun e => e2 (.inl e), fun e => e2 (.inr e)⟩
        rw [hm]
        exact hgo
  · have hp : σ.put (bt a k) = σ := by
      unfold St.put
      rw [if_pos hs]
    rw [hp]
    refine .inr ⟨by rcases hs with h | h <;> rw [h] <;> decide, ⟨.inr ⟨ha, hs⟩, by omega, by omega⟩⟩
theorem Ph.last {a : ByteArray} {k : Nat} {σ : St} {acc : List ByteArray} (h : Ph a k σ acc) (hk : a.size ≤ k) : acc = (splitP a 1000).1 := by
  obtain ⟨h1, h2, h3⟩ := h
  rw [show min k a.size = a.size from by omega] at h1
  rcases h1 with ⟨hgo, s2, s3⟩ | ⟨ha, hs⟩
  · have hdr : (bytesOf a).drop a.size = [] := List.drop_of_length_le (by rw [bytesOf_length]; omega)
    rw [hdr] at hgo
    simp only [splitGo] at hgo
    rw [← hgo]
    split <;> rfl
  · exact ha

/-! ### two readers and two rows in memory -/
structure M2 (w wr : World) (vp vq : Value) (σ ρ : St) (p q : List ByteArray) (o r : Option Nat) : Prop where
  rx : IsR wr w.heap.size w.heap.size o σ
  ry : IsR wr w.heap.size (w.heap.size + 1) r ρ
  ap : ∀ k, o = some k → r ≠ some k
  rp : Kd.R Kd.string 9 wr w.heap.size (fun _ => True) vp p
  rq : Kd.R Kd.string 9 wr w.heap.size (fun _ => True) vq q
  apq : ∀ k, vp.ownBlock = some k → vq.ownBlock ≠ some k
  below : Below w.heap.size w wr

theorem isR_kpt {wr w1 : World} {B g g' : Nat} {o o' : Option Nat} {s s' : St} (h : IsR wr B g o s) (h' : IsR wr B g' o' s') (hk : Kpt wr w1 g' o') (hg : g ≠ g') (ho : ∀ k, o = some k → o' ≠ some k) : IsR w1 B g o s := by
  obtain ⟨v, hb, hr, hv⟩ := h
  obtain ⟨v', hb', hr', hv'⟩ := h'
  refine ⟨v, (hk.block g (blk_lt hb) hg ?_).trans hb, own_move hr (fun k hk' => hk.block k (own_lt hr k hk') ?_ ?_), hv⟩
  · rw [← hv']
    exact putNums_ne hr' hb
  · rintro rfl
    exact putNums_ne hr hb' hk'.symm
  · intro e
    exact ho k (hv.symm.trans hk') e.symm
theorem str5 : ∀ q, q ∈ 9 :: Kd.string.E → q ≠ 38 ∧ q ≠ 5 := by
  intro q hq
  simp [Kd.string, Kd.scalar] at hq
  subst hq
  decide
theorem below_kpt2 {w wr w1 : World} {g B : Nat} {o : Option Nat} {s : St} (h : Below w.heap.size w wr) (hg : w.heap.size ≤ g) (hr : IsR wr w.heap.size g o s) (hk : Kpt wr w1 g o) : Below w.heap.size w w1 := below_kpt h hg hr hk

theorem put_x {w wr : World} {vp vq : Value} {σ ρ : St} {p q : List ByteArray} {o r : Option Nat} (h : M2 w wr vp vq σ ρ p q o r) (c : Int) (hl : σ.buf.length + 1 ≤ 140737488355328) :
    Calls Try.prog 12 #[.pointer (some ⟨w.heap.size, 0, none⟩), .int .u8 c] wr fun e w' => e = .returned (.int .i64 (σ.put c).st) ∧ ∃ o', M2 w w' vp vq (σ.put c) ρ p q o' r := by
  refine (put_any w.heap.size w.heap.size o σ c wr h.rx h.below.size hl).mono ?_
  rintro e w' ⟨rfl, o', hr, hn, hk⟩
  refine ⟨rfl, o', hr, isR_kpt h.ry h.rx hk (by omega) (fun k hk1 hk2 => h.ap k hk2 hk1), ?_, R_kpt h.rp h.rx hk str5, R_kpt h.rq h.rx hk str5, h.apq, below_kpt h.below (Nat.le_refl _) h.rx hk⟩
  intro k hk1 hk2
  rcases hn with rfl | rfl | ⟨b, rfl, hb⟩
  · exact h.ap k hk1 hk2
  · cases hk1
  · injection hk1 with hk1
    have := (h.ry.row_lt hk2).2
    omega
theorem put_y {w wr : World} {vp vq : Value} {σ ρ : St} {p q : List ByteArray} {o r : Option Nat} (h : M2 w wr vp vq σ ρ p q o r) (c : Int) (hl : ρ.buf.length + 1 ≤ 140737488355328) :
    Calls Try.prog 12 #[.pointer (some ⟨w.heap.size + 1, 0, none⟩), .int .u8 c] wr fun e w' => e = .returned (.int .i64 (ρ.put c).st) ∧ ∃ r', M2 w w' vp vq σ (ρ.put c) p q o r' := by
  refine (put_any w.heap.size (w.heap.size + 1) r ρ c wr h.ry h.below.size hl).mono ?_
  rintro e w' ⟨rfl, r', hr, hn, hk⟩
  refine ⟨rfl, r', isR_kpt h.rx h.ry hk (by omega) h.ap, hr, ?_, R_kpt h.rp h.ry hk str5, R_kpt h.rq h.ry hk str5, h.apq, below_kpt h.below (by omega) h.ry hk⟩
  intro k hk1 hk2
  rcases hn with rfl | rfl | ⟨b, rfl, hb⟩
  · exact h.ap k hk1 hk2
  · cases hk2
  · injection hk2 with hk2
    have := (h.rx.row_lt hk1).2
    omega
theorem str_grown {w w1 : World} {base : Nat} {ok : Nat → Prop} {v : Value} {xs : List ByteArray} {row : Option Nat} (h : Kd.R Kd.string 9 w base ok v xs) (hg : w.grownBy w1 row) (hne : ∀ k, row = some k → v.ownBlock ≠ some k) : Kd.R Kd.string 9 w1 base ok v xs := by
  obtain ⟨h0, inner, ho, hr⟩ := h
  refine ⟨h0, inner, own_move ho (fun k hk => hg.block k (own_lt ho k hk) (fun e => hne k e.symm hk)), hr⟩
theorem str_lt {w : World} {base : Nat} {ok : Nat → Prop} {v : Value} {xs : List ByteArray} (h : Kd.R Kd.string 9 w base ok v xs) (k : Nat) (hk : v.ownBlock = some k) : k < w.heap.size := by
  obtain ⟨inner, ho⟩ := Kd.R_own h
  exact own_lt ho k hk
/-- Behind an append to p. -/
theorem app_p {w wr w2 : World} {vp vq v1 : Value} {σ ρ : St} {p p1 q : List ByteArray} {o r : Option Nat} (h : M2 w wr vp vq σ ρ p q o r) (ho : Kd.R Kd.string 9 w2 w.heap.size (fun _ => True) v1 p1) (hb : Below w.heap.size w w2) (hg : wr.grownBy w2 vp.ownBlock) (hat : v1.ownBlock = vp.ownBlock ∨ ∃ b, v1.ownBlock = some b ∧ wr.heap.size ≤ b) : M2 w w2 v1 vq σ ρ p1 q o r := by
  refine ⟨isR_grown h.rx hg (R_row9 h.rp), isR_grown h.ry hg (R_row9 h.rp), h.ap, ho, str_grown h.rq hg h.apq, ?_, hb⟩
  intro k hk1 hk2
  rcases hat with e | ⟨b, e, hle⟩
  · exact h.apq k (e.symm.trans hk1) hk2
  · have := str_lt h.rq k hk2
    rw [e] at hk1
    injection hk1 with hk1
    omega
theorem app_q {w wr w2 : World} {vp vq v1 : Value} {σ ρ : St} {p q q1 : List ByteArray} {o r : Option Nat} (h : M2 w wr vp vq σ ρ p q o r) (ho : Kd.R Kd.string 9 w2 w.heap.size (fun _ => True) v1 q1) (hb : Below w.heap.size w w2) (hg : wr.grownBy w2 vq.ownBlock) (hat : v1.ownBlock = vq.ownBlock ∨ ∃ b, v1.ownBlock = some b ∧ wr.heap.size ≤ b) : M2 w w2 vp v1 σ ρ p q1 o r := by
  refine ⟨isR_grown h.rx hg (R_row9 h.rq), isR_grown h.ry hg (R_row9 h.rq), h.ap, str_grown h.rp hg (fun k hk1 hk2 => h.apq k hk2 hk1), ho, ?_, hb⟩
  intro k hk1 hk2
  rcases hat with e | ⟨b, e, hle⟩
  · exact h.apq k hk1 (e.symm.trans hk2)
  · have := str_lt h.rp k hk1
    rw [e] at hk2
    injection hk2 with hk2
    omega

theorem apart_long (a b : ByteArray) (w : World) (hs : a.size ≤ 140737488351232) (hs' : b.size ≤ 140737488351232) (hl : 500 < a.size ∨ (a.size ≤ 500 ∧ 500 < b.size)) : Calls Try.prog 6 #[.string a, .string b] w fun e w' => e = .returned (.bool true) ∧ Below w.heap.size w w' := by
  rcases hl with hl | ⟨hl, hl'⟩
  all_goals
    go_enter Try.func6, Try.ntmps6
    go_wp2_with (fail)
    refine (awake_any _).mono ?_
    rintro e w1 ⟨rfl, hb1⟩
    have HB := Aside0.mk hb1
    clear hb1
    go_wp2_with (fail)
    refine (awake_any _).mono ?_
    rintro e w2 ⟨rfl, hb2⟩
    have HB2 := Aside0.mk (below_then HB.out HB.out.size hb2)
    clear hb2
    go_wp2
    go_ret
    exact ⟨rfl, HB2.out⟩

theorem two_new (w1 : World) : M2 w1 ((w1.alloc (.cells #[.int .i64 (mx 1000 0), .slice none 0 0, .string ⟨#[]⟩, .bool false, .bool false, .int .i64 0] 38)).alloc (.cells #[.int .i64 (mx 1000 0), .slice none 0 0, .string ⟨#[]⟩, .bool false, .bool false, .int .i64 0] 38)) (.slice none 0 0) (.slice none 0 0) (St.new 1000) (St.new 1000) [] [] none none := by
  refine ⟨?_, ?_, by simp, Kd.R_nil _ _ _ _ _, Kd.R_nil _ _ _ _ _, by simp [Value.ownBlock], ((Below.refl _ _).alloc (Nat.le_refl _) _).alloc (by simp) _⟩
  · obtain ⟨v, hb, ho, hv⟩ := new_isR (w := w1) (B := w1.heap.size) 1000 (Nat.le_refl _)
    exact ⟨v, blk_alloc hb _, ho.alloc _, hv⟩
  · have h := new_isR (w := w1.alloc (.cells #[.int .i64 (mx 1000 0), .slice none 0 0, .string ⟨#[]⟩, .bool false, .bool false, .int .i64 0] 38)) (B := w1.heap.size) 1000 (by simp)
    simpa using h

set_option maxHeartbeats 8000000 in
theorem apart_short (a b : ByteArray) (w : World) (hl : a.size ≤ 500) (hl' : b.size ≤ 500) : Calls Try.prog 6 #[.string a, .string b] w fun e w' => e = .returned (.bool true) ∧ Below w.heap.size w w' := by
  go_enter Try.func6, Try.ntmps6
  go_wp2_with (fail)
  refine (awake_any _).mono ?_
  rintro e w1 ⟨rfl, hb1⟩
  have HB1 := Aside0.mk hb1
  clear hb1
  go_wp2_with (fail)
  refine (new_any 1000 _).mono ?_
  rintro e w5 ⟨rfl, rfl⟩
  go_wp2_with (fail)
  refine (new_any 1000 _).mono ?_
  rintro e w5 ⟨rfl, rfl⟩
  go_wp2_with (fail)
  go_loopw [7, 8, 9] (fun v7 v8 i wr => ∃ (k : Nat) (σ ρ : St) (p q : List ByteArray) (o r : Option Nat), k ≤ a.size + b.size ∧ i = .int .i64 k ∧ Aside0 (M2 w1 wr v7 v8 σ ρ p q o r) ∧ Aside0 (Ph a k σ p) ∧ Aside0 (Ph b k ρ q)) (fun _ _ i _ => a.size + b.size - (intOf i).toNat)
  case atStart =>
    exact ⟨0, St.new 1000, St.new 1000, [], [], none, none, Nat.zero_le _, rfl, ⟨two_new w1⟩, ⟨Ph.start a⟩, ⟨Ph.start b⟩⟩
  case round =>
    obtain ⟨k, σ, ρ, p, q, o, r, hk, rfl, HM, HP, HQ⟩ := hrel
    have hbx1 := HP.out.bl
    have hby1 := HQ.out.bl
    have hax1 := HP.out.al
    have hay1 := HQ.out.al
    by_cases hax : k < a.size
    · have hbta : ((a[k]'hax).toNat : Int) = bt a (k : Int) := by have := bt_at a (k : Int) (by simpa using hax); simpa using this
      have hsta := HP.out.step hax
      rw [← hbta] at hsta
      obtain ⟨τ, hτ⟩ : ∃ z, σ.put ((a[k]'hax).toNat : Int) = z := ⟨_, rfl⟩
      rw [hτ] at hsta
      have HX := Aside0.mk hτ
      clear hτ hbta
      rcases hsta with ⟨h1a, hpa⟩ | ⟨h1a, hpa⟩
      · have PX := Aside0.mk hpa
        have bx : (τ.st == 1) = true := by simpa using h1a
        clear hpa h1a
        by_cases hbx : k < b.size
        · have hbtb : ((b[k]'hbx).toNat : Int) = bt b (k : Int) := by have := bt_at b (k : Int) (by simpa using hbx); simpa using this
          have hstb := HQ.out.step hbx
          rw [← hbtb] at hstb
          obtain ⟨υ, hυ⟩ : ∃ z, ρ.put ((b[k]'hbx).toNat : Int) = z := ⟨_, rfl⟩
          rw [hυ] at hstb
          have HY := Aside0.mk hυ
          clear hυ hbtb
          rcases hstb with ⟨h1b, hpb⟩ | ⟨h1b, hpb⟩
          · have PY := Aside0.mk hpb
            have by1 : (υ.st == 1) = true := by simpa using h1b
            clear hpb h1b
            go_wp2_with (fail)
            refine (put_x HM.out _ (by omega)).mono ?_; rw [HX.out]; rintro e w6 ⟨rfl, o1, hm6⟩; have HM6 := Aside0.mk hm6; clear hm6
            go_wp2_with (first | (go_at_call 13; refine (line_any _ _ _ _ _ HM6.out.rx).mono ?_; rintro e w7 ⟨rfl, rfl⟩) | (at_builtin; refine Kd.R_append Kd.string (w0 := w1) w1.heap.size rfl (.tmp 61) (.tmp 64) 23 9 (.string ⟨#[]⟩) 16 rfl Try.underlying23 Go.Proofs.Ytieamfgiagnafaa.PLinesTake.info9 rfl (by decide) (by omega) u7 p τ.line [.string τ.line] (fun _ => True) (fun _ => False) rfl rfl ?aP (fun _ hk => hk.elim) ?aF ?aO ?aB ?aS ?aL ?_; (case aP => exact rfl); (case aB => exact HM6.out.below); (case aF => exact (fun _ _ => trivial)); (case aO => exact HM6.out.rp); (case aS => exact HM6.out.below.size); (case aL => omega); intro v7 w7 ho hb hg hat; have HM7 := Aside0.mk (app_p HM6.out ho hb hg hat); clear ho hb hg hat))
            refine (put_y HM7.out _ (by omega)).mono ?_; rw [HY.out]; rintro e w8 ⟨rfl, r1, hm8⟩; have HM8 := Aside0.mk hm8; clear hm8
            go_wp2_with (first | (go_at_call 13; refine (line_any _ _ _ _ _ HM8.out.ry).mono ?_; rintro e w9 ⟨rfl, rfl⟩) | (at_builtin; refine Kd.R_append Kd.string (w0 := w1) w1.heap.size rfl (.tmp 78) (.tmp 81) 23 9 (.string ⟨#[]⟩) 16 rfl Try.underlying23 Go.Proofs.Ytieamfgiagnafaa.PLinesTake.info9 rfl (by decide) (by omega) u8 q υ.line [.string υ.line] (fun _ => True) (fun _ => False) rfl rfl ?aP (fun _ hk => hk.elim) ?aF ?aO ?aB ?aS ?aL ?_; (case aP => exact rfl); (case aB => exact HM8.out.below); (case aF => exact (fun _ _ => trivial)); (case aO => exact HM8.out.rq); (case aS => exact HM8.out.below.size); (case aL => omega); intro v8 w9 ho hb hg hat; have HM9 := Aside0.mk (app_q HM8.out ho hb hg hat); clear ho hb hg hat))
            exact ⟨⟨k + 1, τ, υ, (p ++ [τ.line]), (q ++ [υ.line]), o1, r1, by omega, by go_num, HM9, PX, PY⟩, by simp [intOf]; omega⟩
          · have PY := Aside0.mk hpb
            have by1 : (υ.st == 1) = false := by simpa using h1b
            clear hpb h1b
            go_wp2_with (fail)
            refine (put_x HM.out _ (by omega)).mono ?_; rw [HX.out]; rintro e w6 ⟨rfl, o1, hm6⟩; have HM6 := Aside0.mk hm6; clear hm6
            go_wp2_with (first | (go_at_call 13; refine (line_any _ _ _ _ _ HM6.out.rx).mono ?_; rintro e w7 ⟨rfl, rfl⟩) | (at_builtin; refine Kd.R_append Kd.string (w0 := w1) w1.heap.size rfl (.tmp 61) (.tmp 64) 23 9 (.string ⟨#[]⟩) 16 rfl Try.underlying23 Go.Proofs.Ytieamfgiagnafaa.PLinesTake.info9 rfl (by decide) (by omega) u7 p τ.line [.string τ.line] (fun _ => True) (fun _ => False) rfl rfl ?aP (fun _ hk => hk.elim) ?aF ?aO ?aB ?aS ?aL ?_; (case aP => exact rfl); (case aB => exact HM6.out.below); (case aF => exact (fun _ _ => trivial)); (case aO => exact HM6.out.rp); (case aS => exact HM6.out.below.size); (case aL => omega); intro v7 w7 ho hb hg hat; have HM7 := Aside0.mk (app_p HM6.out ho hb hg hat); clear ho hb hg hat))
            refine (put_y HM7.out _ (by omega)).mono ?_; rw [HY.out]; rintro e w8 ⟨rfl, r1, hm8⟩; have HM8 := Aside0.mk hm8; clear hm8
            go_wp2_with (fail)
            exact ⟨⟨k + 1, τ, υ, (p ++ [τ.line]), q, o1, r1, by omega, by go_num, HM8, PX, PY⟩, by simp [intOf]; omega⟩
        · have PY := Aside0.mk (HQ.out.stay (by omega))
          go_wp2_with (fail)
          refine (put_x HM.out _ (by omega)).mono ?_; rw [HX.out]; rintro e w6 ⟨rfl, o1, hm6⟩; have HM6 := Aside0.mk hm6; clear hm6
          go_wp2_with (first | (go_at_call 13; refine (line_any _ _ _ _ _ HM6.out.rx).mono ?_; rintro e w7 ⟨rfl, rfl⟩) | (at_builtin; refine Kd.R_append Kd.string (w0 := w1) w1.heap.size rfl (.tmp 61) (.tmp 64) 23 9 (.string ⟨#[]⟩) 16 rfl Try.underlying23 Go.Proofs.Ytieamfgiagnafaa.PLinesTake.info9 rfl (by decide) (by omega) u7 p τ.line [.string τ.line] (fun _ => True) (fun _ => False) rfl rfl ?aP (fun _ hk => hk.elim) ?aF ?aO ?aB ?aS ?aL ?_; (case aP => exact rfl); (case aB => exact HM6.out.below); (case aF => exact (fun _ _ => trivial)); (case aO => exact HM6.out.rp); (case aS => exact HM6.out.below.size); (case aL => omega); intro v7 w7 ho hb hg hat; have HM7 := Aside0.mk (app_p HM6.out ho hb hg hat); clear ho hb hg hat))
          exact ⟨⟨k + 1, τ, ρ, (p ++ [τ.line]), q, o1, r, by omega, by go_num, HM7, PX, PY⟩, by simp [intOf]; omega⟩
      · have PX := Aside0.mk hpa
        have bx : (τ.st == 1) = false := by simpa using h1a
        clear hpa h1a
        by_cases hbx : k < b.size
        · have hbtb : ((b[k]'hbx).toNat : Int) = bt b (k : Int) := by have := bt_at b (k : Int) (by simpa using hbx); simpa using this
          have hstb := HQ.out.step hbx
          rw [← hbtb] at hstb
          obtain ⟨υ, hυ⟩ : ∃ z, ρ.put ((b[k]'hbx).toNat : Int) = z := ⟨_, rfl⟩
          rw [hυ] at hstb
          have HY := Aside0.mk hυ
          clear hυ hbtb
          rcases hstb with ⟨h1b, hpb⟩ | ⟨h1b, hpb⟩
          · have PY := Aside0.mk hpb
            have by1 : (υ.st == 1) = true := by simpa using h1b
            clear hpb h1b
            go_wp2_with (fail)
            refine (put_x HM.out _ (by omega)).mono ?_; rw [HX.out]; rintro e w6 ⟨rfl, o1, hm6⟩; have HM6 := Aside0.mk hm6; clear hm6
            go_wp2_with (fail)
            refine (put_y HM6.out _ (by omega)).mono ?_; rw [HY.out]; rintro e w8 ⟨rfl, r1, hm8⟩; have HM8 := Aside0.mk hm8; clear hm8
            go_wp2_with (first | (go_at_call 13; refine (line_any _ _ _ _ _ HM8.out.ry).mono ?_; rintro e w9 ⟨rfl, rfl⟩) | (at_builtin; refine Kd.R_append Kd.string (w0 := w1) w1.heap.size rfl (.tmp 78) (.tmp 81) 23 9 (.string ⟨#[]⟩) 16 rfl Try.underlying23 Go.Proofs.Ytieamfgiagnafaa.PLinesTake.info9 rfl (by decide) (by omega) u8 q υ.line [.string υ.line] (fun _ => True) (fun _ => False) rfl rfl ?aP (fun _ hk => hk.elim) ?aF ?aO ?aB ?aS ?aL ?_; (case aP => exact rfl); (case aB => exact HM8.out.below); (case aF => exact (fun _ _ => trivial)); (case aO => exact HM8.out.rq); (case aS => exact HM8.out.below.size); (case aL => omega); intro v8 w9 ho hb hg hat; have HM9 := Aside0.mk (app_q HM8.out ho hb hg hat); clear ho hb hg hat))
            exact ⟨⟨k + 1, τ, υ, p, (q ++ [υ.line]), o1, r1, by omega, by go_num, HM9, PX, PY⟩, by simp [intOf]; omega⟩
          · have PY := Aside0.mk hpb
            have by1 : (υ.st == 1) = false := by simpa using h1b
            clear hpb h1b
            go_wp2_with (fail)
            refine (put_x HM.out _ (by omega)).mono ?_; rw [HX.out]; rintro e w6 ⟨rfl, o1, hm6⟩; have HM6 := Aside0.mk hm6; clear hm6
            go_wp2_with (fail)
            refine (put_y HM6.out _ (by omega)).mono ?_; rw [HY.out]; rintro e w8 ⟨rfl, r1, hm8⟩; have HM8 := Aside0.mk hm8; clear hm8
            go_wp2_with (fail)
            exact ⟨⟨k + 1, τ, υ, p, q, o1, r1, by omega, by go_num, HM8, PX, PY⟩, by simp [intOf]; omega⟩
        · have PY := Aside0.mk (HQ.out.stay (by omega))
          go_wp2_with (fail)
          refine (put_x HM.out _ (by omega)).mono ?_; rw [HX.out]; rintro e w6 ⟨rfl, o1, hm6⟩; have HM6 := Aside0.mk hm6; clear hm6
          go_wp2_with (fail)
          exact ⟨⟨k + 1, τ, ρ, p, q, o1, r, by omega, by go_num, HM6, PX, PY⟩, by simp [intOf]; omega⟩
    · have PX := Aside0.mk (HP.out.stay (by omega))
      by_cases hbx : k < b.size
      · have hbtb : ((b[k]'hbx).toNat : Int) = bt b (k : Int) := by have := bt_at b (k : Int) (by simpa using hbx); simpa using this
        have hstb := HQ.out.step hbx
        rw [← hbtb] at hstb
        obtain ⟨υ, hυ⟩ : ∃ z, ρ.put ((b[k]'hbx).toNat : Int) = z := ⟨_, rfl⟩
        rw [hυ] at hstb
        have HY := Aside0.mk hυ
        clear hυ hbtb
        rcases hstb with ⟨h1b, hpb⟩ | ⟨h1b, hpb⟩
        · have PY := Aside0.mk hpb
          have by1 : (υ.st == 1) = true := by simpa using h1b
          clear hpb h1b
          go_wp2_with (fail)
          refine (put_y HM.out _ (by omega)).mono ?_; rw [HY.out]; rintro e w8 ⟨rfl, r1, hm8⟩; have HM8 := Aside0.mk hm8; clear hm8
          go_wp2_with (first | (go_at_call 13; refine (line_any _ _ _ _ _ HM8.out.ry).mono ?_; rintro e w9 ⟨rfl, rfl⟩) | (at_builtin; refine Kd.R_append Kd.string (w0 := w1) w1.heap.size rfl (.tmp 78) (.tmp 81) 23 9 (.string ⟨#[]⟩) 16 rfl Try.underlying23 Go.Proofs.Ytieamfgiagnafaa.PLinesTake.info9 rfl (by decide) (by omega) u8 q υ.line [.string υ.line] (fun _ => True) (fun _ => False) rfl rfl ?aP (fun _ hk => hk.elim) ?aF ?aO ?aB ?aS ?aL ?_; (case aP => exact rfl); (case aB => exact HM8.out.below); (case aF => exact (fun _ _ => trivial)); (case aO => exact HM8.out.rq); (case aS => exact HM8.out.below.size); (case aL => omega); intro v8 w9 ho hb hg hat; have HM9 := Aside0.mk (app_q HM8.out ho hb hg hat); clear ho hb hg hat))
          exact ⟨⟨k + 1, σ, υ, p, (q ++ [υ.line]), o, r1, by omega, by go_num, HM9, PX, PY⟩, by simp [intOf]; omega⟩
        · have PY := Aside0.mk hpb
          have by1 : (υ.st == 1) = false := by simpa using h1b
          clear hpb h1b
          go_wp2_with (fail)
          refine (put_y HM.out _ (by omega)).mono ?_; rw [HY.out]; rintro e w8 ⟨rfl, r1, hm8⟩; have HM8 := Aside0.mk hm8; clear hm8
          go_wp2_with (fail)
          exact ⟨⟨k + 1, σ, υ, p, q, o, r1, by omega, by go_num, HM8, PX, PY⟩, by simp [intOf]; omega⟩
      · have hp := HP.out.last (by omega)
        have hq := HQ.out.last (by omega)
        subst hp
        subst hq
        clear PX
        obtain ⟨A7, c7, hu7, hc7, hC7⟩ := Kd.R_reads HM.out.rp
        obtain ⟨A8, c8, hu8, hc8, hC8⟩ := Kd.R_reads HM.out.rq
        subst hu7
        subst hu8
        have HC7 := Aside0.mk hC7
        have HC8 := Aside0.mk hC8
        have hla := splitP_len a 1000
        have hlb := splitP_len b 1000
        have HBw := Aside0.mk (below_then HB1.out HB1.out.size HM.out.below)
        clear hC7 hC8
        go_wp2_with (fail)
        refine (ref_any a 1000 _ (by omega)).mono ?_
        rintro e w10 ⟨A10, c10, rfl, hc10, hC10, hb10⟩
        have HC10 := Aside0.mk hC10
        have HC7a := Aside0.mk (Kd.C_below HC7.out hb10)
        have HC8a := Aside0.mk (Kd.C_below HC8.out hb10)
        have HBa := Aside0.mk (below_then HBw.out HBw.out.size hb10)
        clear hC10 hb10 HC7 HC8 HBw
        go_wp2_with (fail)
        refine (ref_any b 1000 _ (by omega)).mono ?_
        rintro e w11 ⟨A11, c11, rfl, hc11, hC11, hb11⟩
        have HC11 := Aside0.mk hC11
        have HC7b := Aside0.mk (Kd.C_below HC7a.out hb11)
        have HC8b := Aside0.mk (Kd.C_below HC8a.out hb11)
        have HC10b := Aside0.mk (Kd.C_below HC10.out hb11)
        have HBb := Aside0.mk (below_then HBa.out HBa.out.size hb11)
        clear hC11 hb11 HC7a HC8a HBa HC10
        go_wp2_with (fail)
        refine (texts_same _ _ _ _ _ _ HC7b.out hc7 HC10b.out hc10 (by omega)).mono ?_
        rintro e w12 ⟨rfl, q12, rfl⟩
        have HC8c := Aside0.mk (Kd.C_below (w1 := w11.drewN q12) HC8b.out (pw_below_drewN (Below.refl _ _) _))
        have HC11c := Aside0.mk (Kd.C_below (w1 := w11.drewN q12) HC11.out (pw_below_drewN (Below.refl _ _) _))
        go_wp2_with (fail)
        refine (texts_same _ _ _ _ _ _ HC8c.out hc8 HC11c.out hc11 (by omega)).mono ?_
        rintro e w13 ⟨rfl, q13, rfl⟩
        have HBz := Aside0.mk (pw_below_drewN (pw_below_drewN HBb.out q12) q13)
        go_wp2
        go_ret
        exact ⟨rfl, by simpa using HBz.out⟩

theorem apart_walk (a b : ByteArray) (w : World) (hs : a.size ≤ 140737488351232) (hs' : b.size ≤ 140737488351232) : Calls Try.prog 6 #[.string a, .string b] w fun e w' => e = .returned (.bool true) ∧ Below w.heap.size w w' := by
  rcases Nat.lt_or_ge 500 a.size with h | h
  · exact apart_long a b w hs hs' (.inl h)
  · rcases Nat.lt_or_ge 500 b.size with h' | h'
    · exact apart_long a b w hs hs' (.inr ⟨h, h'⟩)
    · exact apart_short a b w h h'
end Go.Proofs.Ytieamfgiagnafaa.Rd
