/- New and Split of the line reader, walked: Split returns the lines and the state that a fold of Put over the bytes gives. Condition: the string has at most 1000000 bytes. -/
import Derived.Test.YtieamfgiagnafaaRd
namespace Go.Proofs.Ytieamfgiagnafaa.Rd
open Go.RowKit Go.Proofs.YtieamfgiagnafaaW.PrintWords Go.Proofs.YtieamfgiagnafaaW.PrintLast Go.Proofs.YtieamfgiagnafaaW.PrintMore
attribute [local go_sem] max2_int
set_option linter.unusedVariables false
set_option linter.unusedSimpArgs false

def St.new (most : Int) : St := ⟨mx most 0, [], ⟨#[]⟩, false, false, 0⟩

theorem new_any (most : Int) (w : World) : Calls Try.prog 11 #[.int .i64 most] w fun e w' => e = .returned (.pointer (some ⟨w.heap.size, 0, none⟩)) ∧
    w.alloc (.cells #[.int .i64 (mx most 0), .slice none 0 0, .string ⟨#[]⟩, .bool false, .bool false, .int .i64 0] 38) = w' := by
  obtain ⟨j, hj⟩ : ∃ j : Int, (if most < 0 then 0 else most) = j := ⟨_, rfl⟩
  rw [show mx most 0 = j from hj]
  go_enter Try.func11, Try.ntmps11
  go_wp2
  go_ret
  exact ⟨rfl, rfl⟩
theorem new_isR {w : World} {B : Nat} (most : Int) (hB : B ≤ w.heap.size) : IsR (w.alloc (.cells #[.int .i64 (mx most 0), .slice none 0 0, .string ⟨#[]⟩, .bool false, .bool false, .int .i64 0] 38)) B w.heap.size none (St.new most) :=
  ⟨.slice none 0 0, by simpa [St.new] using heap_alloc_new w _, by simpa [St.new, nums] using own_nil _ _ _ _, rfl⟩


/-- Split, as a fold of Put. -/
def splitGo : St → List Int → Int → List ByteArray → List ByteArray × Int × Int
  | s, [], i, acc => if s.op = true then (acc, i, 0) else (acc, i, 1)
  | s, c :: cs, i, acc => if (s.put c).st = 1 then splitGo (s.put c) cs (i + 1) (acc ++ [(s.put c).line])
    else if (s.put c).st = 2 ∨ (s.put c).st = 3 then (acc, i + 1, (s.put c).st) else splitGo (s.put c) cs (i + 1) acc
def splitP (a : ByteArray) (most : Int) : List ByteArray × Int × Int := splitGo (St.new most) (bytesOf a) 0 []

theorem next_buf_le (s : St) (c : Int) : (s.next c).1.buf.length ≤ s.buf.length + 1 := by
  unfold St.next
  split
  · split <;> simp
  · split
    · simp
    · split
      · simp
      · split <;> simp
theorem put_buf_le (s : St) (c : Int) : (s.put c).buf.length ≤ s.buf.length + 1 := by
  unfold St.put
  split
  · omega
  · have h := next_buf_le { s with op := true } c
    simpa using h

theorem bytesOf_drop (a : ByteArray) (k : Nat) (h : k < a.size) : (bytesOf a).drop k = bt a k :: (bytesOf a).drop (k + 1) := by
  have hl : k < (bytesOf a).length := by rw [bytesOf_length]; exact h
  rw [List.drop_eq_getElem_cons hl]
  congr 1
  have h' : (k : Int).toNat < a.size := by simpa using h
  simp [bytesOf, bt, h]
  rfl


/-! ### what a call on a reader leaves alone -/
theorem R_kpt {α : Type} {d : Kd α} {e : Nat} {wr w1 : World} {base B g : Nat} {o : Option Nat} {s : St} {v : Value} {xs : List α} (h : Kd.R d e wr base (fun _ => True) v xs) (hr : IsR wr B g o s) (hk : Kpt wr w1 g o)
    (ht : ∀ q, q ∈ e :: d.E → q ≠ 38 ∧ q ≠ 5) : Kd.R d e w1 base (fun _ => True) v xs := by
  obtain ⟨u, hb, ho, hu⟩ := hr
  refine Kd.R_mono (Kd.R_move (Kd.R_bound h) ?_) (fun _ _ => trivial)
  rintro k ⟨_, _, hlt, q, hq, cells, hc⟩
  refine hk.block k hlt ?_ ?_
  · rintro rfl
    rw [hc] at hb
    injection hb with hb
    injection hb with _ hb
    exact (ht q hq).1 hb
  · intro he
    obtain ⟨cells', hc'⟩ := own_typed ho k (hu.trans he.symm)
    rw [hc] at hc'
    injection hc' with hc'
    injection hc' with _ hc'
    exact (ht q hq).2 hc'
theorem below_kpt {w wr w1 : World} {g : Nat} {o : Option Nat} {s : St} (h : Below w.heap.size w wr) (hg : w.heap.size ≤ g) (hr : IsR wr w.heap.size g o s) (hk : Kpt wr w1 g o) : Below w.heap.size w w1 :=
  ⟨hk.os.trans h.os, hk.tape.trans h.tape, hk.output.trans h.output, Nat.le_trans h.size hk.size, fun i hi => by
    refine (hk.block i (Nat.lt_of_lt_of_le hi h.size) (by omega) ?_).trans (h.block i hi)
    intro e
    have := (hr.row_lt e.symm).1
    omega⟩
theorem isR_grown {w1 w2 : World} {B g : Nat} {o row : Option Nat} {s : St} (h : IsR w1 B g o s) (hg : w1.grownBy w2 row) (hrow : ∀ k, row = some k → ∃ cells, w1.heap[k]? = some (.cells cells 9 (0, 0))) : IsR w2 B g o s := by
  obtain ⟨u, hb, ho, hu⟩ := h
  refine ⟨u, blk_grown hb hg ?_, own_move ho ?_, hu⟩
  · intro e
    obtain ⟨cells, hc⟩ := hrow _ e.symm
    rw [hc] at hb
    injection hb with hb
    injection hb with _ hb
    exact absurd hb (by decide)
  · intro k hk
    refine hg.block k (own_lt ho k hk) ?_
    intro e
    obtain ⟨cells, hc⟩ := hrow _ e.symm
    obtain ⟨cells', hc'⟩ := own_typed ho k hk
    rw [hc] at hc'
    injection hc' with hc'
    injection hc' with _ hc'
    exact absurd hc' (by decide)
theorem R_row9 {w1 : World} {base : Nat} {ok : Nat → Prop} {v : Value} {xs : List ByteArray} (h : Kd.R Kd.string 9 w1 base ok v xs) (k : Nat) (hk : v.ownBlock = some k) : ∃ cells, w1.heap[k]? = some (.cells cells 9 (0, 0)) := by
  obtain ⟨inner, ho⟩ := Kd.R_own h
  exact own_typed ho k hk

structure Inv (a : ByteArray) (most : Int) (w : World) (g : Nat) (wr : World) (v : Value) (k : Nat) (σ : St) (acc : List ByteArray) (o : Option Nat) : Prop where
  go : splitGo σ ((bytesOf a).drop k) k acc = splitP a most
  bl : σ.buf.length ≤ k
  al : acc.length ≤ k
  rd : IsR wr w.heap.size g o σ
  row : Kd.R Kd.string 9 wr w.heap.size (fun _ => True) v acc
  below : Below w.heap.size w wr


theorem Inv.step {a : ByteArray} {most : Int} {w wr : World} {g k : Nat} {v : Value} {σ : St} {acc : List ByteArray} {o : Option Nat} (h : Inv a most w g wr v k σ acc o) (hlt : k < a.size) :
    (if (σ.put (bt a k)).st = 1 then splitGo (σ.put (bt a k)) ((bytesOf a).drop (k + 1)) ((k + 1 : Nat) : Int) (acc ++ [(σ.put (bt a k)).line])
    else if (σ.put (bt a k)).st = 2 ∨ (σ.put (bt a k)).st = 3 then (acc, ((k + 1 : Nat) : Int), (σ.put (bt a k)).st) else splitGo (σ.put (bt a k)) ((bytesOf a).drop (k + 1)) ((k + 1 : Nat) : Int) acc) = splitP a most := by
  have h0 := h.go
  rw [bytesOf_drop a k hlt] at h0
  simpa [splitGo] using h0
theorem Inv.last {a : ByteArray} {most : Int} {w wr : World} {g k : Nat} {v : Value} {σ : St} {acc : List ByteArray} {o : Option Nat} (h : Inv a most w g wr v k σ acc o) (hge : k = a.size) :
    splitP a most = if σ.op = true then (acc, (a.size : Int), 0) else (acc, (a.size : Int), 1) := by
  have h0 := h.go
  subst hge
  rw [List.drop_of_length_le (by rw [bytesOf_length]; omega)] at h0
  rw [← h0]
  simp [splitGo]

set_option maxHeartbeats 4000000 in
theorem split_any (a : ByteArray) (most : Int) (w : World) (hs : a.size ≤ 1000000) : Calls Try.prog 9 #[.string a, .int .i64 most] w fun e w' =>
    ∃ v0 : Value, e = .returned (.tuple #[v0, .int .i64 (splitP a most).2.1, .int .i64 (splitP a most).2.2]) ∧ Kd.R Kd.string 9 w' w.heap.size (fun _ => True) v0 (splitP a most).1 ∧ Below w.heap.size w w' := by
  go_enter Try.func9, Try.ntmps9
  go_wp2_with (go_at_call 11; refine (new_any most _).mono ?_; rintro e w1 ⟨rfl, rfl⟩)
  go_loopw [4, 14] (fun v i wr => ∃ (k : Nat) (σ : St) (acc : List ByteArray) (o : Option Nat), k ≤ a.size ∧ i = .int .i64 k ∧ Aside0 (Inv a most w w.heap.size wr v k σ acc o)) (fun _ i _ => a.size - (intOf i).toNat)
  case atStart => exact ⟨0, St.new most, [], none, Nat.zero_le _, rfl, ⟨⟨by simp [splitP], by simp [St.new], by simp, new_isR most (Nat.le_refl _), Kd.R_nil _ _ _ _ _, (Below.refl _ _).alloc (Nat.le_refl _) _⟩⟩⟩
  case round =>
    obtain ⟨k, σ, acc, o, hk, rfl, HI⟩ := hrel
    by_cases hlt : k < a.size
    · have hbt : ((a[k]'hlt).toNat : Int) = bt a (k : Int) := by have := bt_at a (k : Int) (by simpa using hlt); simpa using this
      have hst := HI.out.step hlt
      rw [← hbt] at hst
      obtain ⟨τ, hτ⟩ : ∃ τ, σ.put ((a[k]'hlt).toNat : Int) = τ := ⟨_, rfl⟩
      rw [hτ] at hst
      have Hτ := Aside0.mk hτ
      have Hst := Aside0.mk hst
      have hbl := HI.out.bl
      have hbl1 : τ.buf.length ≤ k + 1 := by rw [← hτ]; exact Nat.le_trans (put_buf_le _ _) (by omega)
      clear hτ hst hbt
      by_cases h1 : τ.st = 1
      · have b1 : (τ.st == 1) = true := by simpa using h1
        have H1 := Aside0.mk h1
        clear h1
        go_wp2_with (first
          | (go_at_call 12; refine (put_any w.heap.size w.heap.size o σ _ _ HI.out.rd HI.out.below.size (by omega)).mono ?_; rw [Hτ.out]; rintro e w1 ⟨rfl, o1, hr, hn, hk1⟩; have HR := Aside0.mk hr; have HB := Aside0.mk (below_kpt HI.out.below (Nat.le_refl _) HI.out.rd hk1); have HO := Aside0.mk (R_kpt HI.out.row HI.out.rd hk1 (by intro q hq; simp [Kd.string, Kd.scalar] at hq; subst hq; decide)); clear hr hn hk1)
          | (go_at_call 13; refine (line_any _ _ _ _ _ HR.out).mono ?_; rintro e w2 ⟨rfl, rfl⟩)
          | (at_builtin; refine Kd.R_append Kd.string (w0 := w) w.heap.size rfl (.tmp 25) (.tmp 28) 23 9 (.string ⟨#[]⟩) 16 rfl Try.underlying23 Go.Proofs.Ytieamfgiagnafaa.PLinesTake.info9 rfl (by decide) (by omega) u4 acc τ.line [.string τ.line] (fun _ => True) (fun _ => False) rfl rfl ?aP (fun _ hk => hk.elim) ?aF ?aO ?aB ?aS ?aL ?_; (case aP => exact rfl); (case aB => exact HB.out); (case aF => exact (fun _ _ => trivial)); (case aO => exact HO.out); (case aS => exact HB.out.size); (case aL => have := HI.out.al; omega); intro v1 w2 ho hb hg hat; have HO2 := Aside0.mk ho; have HB2 := Aside0.mk hb; have HR2 := Aside0.mk (isR_grown HR.out hg (R_row9 HO.out)); clear ho hb hg hat))
        refine ⟨⟨k + 1, τ, acc ++ [τ.line], o1, by omega, by go_num, ⟨⟨?_, hbl1, ?_, HR2.out, HO2.out, HB2.out⟩⟩⟩, by simp [intOf]; omega⟩
        · have h := Hst.out
          rw [if_pos H1.out] at h
          exact h
        · have := HI.out.al
          simp
          omega
      · have b1 : (τ.st == 1) = false := by simpa using h1
        have H1 := Aside0.mk h1
        clear h1
        by_cases h2 : τ.st = 2 ∨ τ.st = 3
        · have H2 := Aside0.mk h2
          have hfin : splitP a most = (acc, ((k + 1 : Nat) : Int), τ.st) := by
            have h := Hst.out
            rw [if_neg H1.out, if_pos h2] at h
            exact h.symm
          have HF := Aside0.mk hfin
          clear hfin
          rcases h2 with h2 | h2
          · have b2 : (τ.st == 2) = true := by simpa using h2
            clear h2
            go_wp2_with (go_at_call 12; refine (put_any w.heap.size w.heap.size o σ _ _ HI.out.rd HI.out.below.size (by omega)).mono ?_; rw [Hτ.out]; rintro e w1 ⟨rfl, o1, hr, hn, hk1⟩; have HR := Aside0.mk hr; have HB := Aside0.mk (below_kpt HI.out.below (Nat.le_refl _) HI.out.rd hk1); have HO := Aside0.mk (R_kpt HI.out.row HI.out.rd hk1 (by intro q hq; simp [Kd.string, Kd.scalar] at hq; subst hq; decide)); clear hr hn hk1)
            go_ret3
            rw [HF.out]
            exact ⟨_, by go_num, HO.out, HB.out⟩
          · have b2 : (τ.st == 2) = false := by rw [h2]; rfl
            have b3 : (τ.st == 3) = true := by simpa using h2
            clear h2
            go_wp2_with (go_at_call 12; refine (put_any w.heap.size w.heap.size o σ _ _ HI.out.rd HI.out.below.size (by omega)).mono ?_; rw [Hτ.out]; rintro e w1 ⟨rfl, o1, hr, hn, hk1⟩; have HR := Aside0.mk hr; have HB := Aside0.mk (below_kpt HI.out.below (Nat.le_refl _) HI.out.rd hk1); have HO := Aside0.mk (R_kpt HI.out.row HI.out.rd hk1 (by intro q hq; simp [Kd.string, Kd.scalar] at hq; subst hq; decide)); clear hr hn hk1)
            go_ret3
            rw [HF.out]
            exact ⟨_, by go_num, HO.out, HB.out⟩
        · have H2 := Aside0.mk h2
          have b2 : (τ.st == 2) = false := by
            have : τ.st ≠ 2 := fun e => h2 (.inl e)
            simpa using this
          have b3 : (τ.st == 3) = false := by
            have : τ.st ≠ 3 := fun e => h2 (.inr e)
            simpa using this
          clear h2
          go_wp2_with (go_at_call 12; refine (put_any w.heap.size w.heap.size o σ _ _ HI.out.rd HI.out.below.size (by omega)).mono ?_; rw [Hτ.out]; rintro e w1 ⟨rfl, o1, hr, hn, hk1⟩; have HR := Aside0.mk hr; have HB := Aside0.mk (below_kpt HI.out.below (Nat.le_refl _) HI.out.rd hk1); have HO := Aside0.mk (R_kpt HI.out.row HI.out.rd hk1 (by intro q hq; simp [Kd.string, Kd.scalar] at hq; subst hq; decide)); clear hr hn hk1)
          refine ⟨⟨k + 1, τ, acc, o1, by omega, by go_num, ⟨⟨?_, hbl1, ?_, HR.out, HO.out, HB.out⟩⟩⟩, by simp [intOf]; omega⟩
          · have h := Hst.out
            rw [if_neg H1.out, if_neg H2.out] at h
            exact h
          · have := HI.out.al
            omega
    · have hge : k = a.size := by omega
      have HF := Aside0.mk (HI.out.last hge)
      clear hge
      by_cases hop : σ.op = true
      · go_wp2_with (go_at_call 14; refine (open_any _ _ _ _ _ HI.out.rd).mono ?_; rintro e w2 ⟨rfl, rfl⟩)
        go_ret3
        rw [HF.out, if_pos hop]
        exact ⟨_, rfl, HI.out.row, HI.out.below⟩
      · have hop' : σ.op = false := by simpa using hop
        go_wp2_with (go_at_call 14; refine (open_any _ _ _ _ _ HI.out.rd).mono ?_; rintro e w2 ⟨rfl, rfl⟩)
        go_ret3
        rw [HF.out, if_neg hop]
        exact ⟨_, rfl, HI.out.row, HI.out.below⟩
end Go.Proofs.Ytieamfgiagnafaa.Rd
