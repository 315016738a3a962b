/- The line reader's methods, each walked once: what next, Put, Line and Open do to a reader in memory. Conditions: the reader lies in a block of its own, its buffer in a row of its own. -/
import Derived.Test.YtieamfgiagnafaaRows
import Derived.Test.YtieamfgiagnafaaPLinesTakex1
import Derived.WalkSpells
import Derived.StillTactics
namespace Go.Proofs.Ytieamfgiagnafaa.Rd
open Go.RowKit Go.Proofs.YtieamfgiagnafaaW.PrintWords Go.Proofs.YtieamfgiagnafaaW.PrintLast Go.Proofs.YtieamfgiagnafaaW.PrintMore

/-- What a reader holds. -/
structure St where
  most : Int
  buf : List Int
  line : ByteArray
  cr : Bool
  op : Bool
  st : Int

/-- The state behind 'next', and what it answers. -/
def St.next (s : St) (c : Int) : St × Int :=
  if s.cr = true then (if c = 10 then ({ s with line := strOfNums s.buf, buf := [], cr := false, op := false }, 1) else (s, 2))
  else if c = 10 then (s, 2)
  else if c = 13 then ({ s with cr := true }, 0)
  else if (s.buf.length : Int) = s.most then (s, 3)
  else ({ s with buf := s.buf ++ [c] }, 0)
/-- The state behind 'Put'. -/
def St.put (s : St) (c : Int) : St :=
  if s.st = 2 ∨ s.st = 3 then s
  else let r := ({ s with op := true } : St).next c; { r.1 with st := r.2 }

/-- Only block g and the row o have turned. -/
structure Kpt (w w' : World) (g : Nat) (o : Option Nat) : Prop where
  os : w'.os = w.os
  tape : w'.tape = w.tape
  output : w'.output = w.output
  size : w.heap.size ≤ w'.heap.size
  block : ∀ i, i < w.heap.size → i ≠ g → some i ≠ o → w'.heap[i]? = w.heap[i]?


theorem Kpt.refl (w : World) (g : Nat) (o : Option Nat) : Kpt w w g o := ⟨rfl, rfl, rfl, Nat.le_refl _, fun _ _ _ _ => rfl⟩

/-- The cells of a reader. -/
def cellsOf (s : St) (v : Value) : Array Value := #[.int .i64 s.most, v, .string s.line, .bool s.cr, .bool s.op, .int .i64 s.st]

section
variable (g : Nat) (most : Int) (v : Value) (line : ByteArray) (cr op : Bool) (st : Int) (c : Int) (w : World)

theorem next_bad1 (hb : w.heap[g]? = some (.cells #[.int .i64 most, v, .string line, .bool true, .bool op, .int .i64 st] 38 (0, 0))) (hc : c ≠ 10) :
    Calls Try.prog 16 #[.pointer (some ⟨g, 0, none⟩), .int .u8 c] w fun e w' => e = .returned (.int .i64 2) ∧ w = w' := by
  have c3 : w.cell? ⟨g, 3, none⟩ = some (.bool true) := (blk_cell hb 3).trans rfl
  have hc' : (c == 10) = false := by simpa using hc
  clear hb hc
  go_enter Try.func16, Try.ntmps16
  go_wp2
  go_ret
  exact ⟨rfl, rfl⟩

theorem next_bad2 (hb : w.heap[g]? = some (.cells #[.int .i64 most, v, .string line, .bool false, .bool op, .int .i64 st] 38 (0, 0))) :
    Calls Try.prog 16 #[.pointer (some ⟨g, 0, none⟩), .int .u8 10] w fun e w' => e = .returned (.int .i64 2) ∧ w = w' := by
  have c3 : w.cell? ⟨g, 3, none⟩ = some (.bool false) := (blk_cell hb 3).trans rfl
  clear hb
  go_enter Try.func16, Try.ntmps16
  go_wp2
  go_ret
  exact ⟨rfl, rfl⟩

theorem next_cr (hb : w.heap[g]? = some (.cells #[.int .i64 most, v, .string line, .bool false, .bool op, .int .i64 st] 38 (0, 0))) :
    Calls Try.prog 16 #[.pointer (some ⟨g, 0, none⟩), .int .u8 13] w fun e w' => e = .returned (.int .i64 0) ∧ w.setCell ⟨g, 3, none⟩ (.bool true) = w' := by
  have c3 : w.cell? ⟨g, 3, none⟩ = some (.bool false) := (blk_cell hb 3).trans rfl
  have f3 := blk_frozen hb 3
  clear hb
  go_enter Try.func16, Try.ntmps16
  go_wp2
  go_ret
  exact ⟨rfl, rfl⟩

theorem next_done {B n : Nat} {xs : List Int} (hb : w.heap[g]? = some (.cells #[.int .i64 most, v, .string line, .bool true, .bool op, .int .i64 st] 38 (0, 0))) (ho : w.ownsRow B 5 1 v n (nums .u8 xs)) :
    Calls Try.prog 16 #[.pointer (some ⟨g, 0, none⟩), .int .u8 10] w fun e w' => e = .returned (.int .i64 1) ∧
      (((w.setCell ⟨g, 2, none⟩ (.string (strOfNums xs))).setCell ⟨g, 1, none⟩ (.slice none 0 0)).setCell ⟨g, 3, none⟩ (.bool false)).setCell ⟨g, 4, none⟩ (.bool false) = w' := by
  have hconv := own_string Try.underlying36 Try.underlying5 Try.underlying9 ho
  obtain ⟨A, cc, rfl⟩ := own_slice ho
  have c1 : w.cell? ⟨g, 1, none⟩ = some (.slice A n cc) := (blk_cell hb 1).trans rfl
  have c2 : w.cell? ⟨g, 2, none⟩ = some (.string line) := (blk_cell hb 2).trans rfl
  have c3 : w.cell? ⟨g, 3, none⟩ = some (.bool true) := (blk_cell hb 3).trans rfl
  have c4 : w.cell? ⟨g, 4, none⟩ = some (.bool op) := (blk_cell hb 4).trans rfl
  have f1 := blk_frozen hb 1
  have f2 := blk_frozen hb 2
  have f3 := blk_frozen hb 3
  have f4 := blk_frozen hb 4
  clear hb ho
  go_enter Try.func16, Try.ntmps16
  go_wp2
  go_ret
  exact ⟨rfl, rfl⟩

theorem next_long {n cc : Nat} {A : Option Addr} (hb : w.heap[g]? = some (.cells #[.int .i64 (n : Int), .slice A n cc, .string line, .bool false, .bool op, .int .i64 st] 38 (0, 0))) (hc : c ≠ 10) (hd : c ≠ 13) :
    Calls Try.prog 16 #[.pointer (some ⟨g, 0, none⟩), .int .u8 c] w fun e w' => e = .returned (.int .i64 3) ∧ ∃ m, w.drewN m = w' := by
  have c0 : w.cell? ⟨g, 0, none⟩ = some (.int .i64 (n : Int)) := (blk_cell hb 0).trans rfl
  have c1 : w.cell? ⟨g, 1, none⟩ = some (.slice A n cc) := (blk_cell hb 1).trans rfl
  have c3 : w.cell? ⟨g, 3, none⟩ = some (.bool false) := (blk_cell hb 3).trans rfl
  have hc' : (c == 10) = false := by simpa using hc
  have hd' : (c == 13) = false := by simpa using hd
  clear hb hc hd
  go_enter Try.func16, Try.ntmps16
  go_wp2
  go_quiet (fail)
  go_wp2
  go_ret
  exact ⟨rfl, _, rfl⟩

theorem info5 : (Try.prog.info? 5).map (fun i => (i.zero, i.size, i.bytes)) = some (some (.int .u8 0), 1, 1) := by kernel_rfl

set_option maxHeartbeats 1000000 in
theorem next_more {B cc : Nat} {A : Option Addr} {buf : List Int} (hb : w.heap[g]? = some (.cells #[.int .i64 most, .slice A buf.length cc, .string line, .bool false, .bool op, .int .i64 st] 38 (0, 0)))
    (ho : w.ownsRow B 5 1 (.slice A buf.length cc) buf.length (nums .u8 buf)) (hB : B ≤ w.heap.size) (hc : c ≠ 10) (hd : c ≠ 13) (hne : (buf.length : Int) ≠ most) (hl : buf.length + 1 ≤ 140737488355328) :
    Calls Try.prog 16 #[.pointer (some ⟨g, 0, none⟩), .int .u8 c] w fun e w' => e = .returned (.int .i64 0) ∧
      ∃ (v1 : Value) (w1 : World), w' = w1.setCell ⟨g, 1, none⟩ v1 ∧ w1.ownsRow B 5 1 v1 (buf ++ [c]).length (nums .u8 (buf ++ [c])) ∧ w.grownBy w1 (Value.slice A buf.length cc).ownBlock ∧
        (v1.ownBlock = (Value.slice A buf.length cc).ownBlock ∨ ∃ b, v1.ownBlock = some b ∧ w.heap.size ≤ b) := by
  have c0 : w.cell? ⟨g, 0, none⟩ = some (.int .i64 most) := (blk_cell hb 0).trans rfl
  have c1 : w.cell? ⟨g, 1, none⟩ = some (.slice A buf.length cc) := (blk_cell hb 1).trans rfl
  have c3 : w.cell? ⟨g, 3, none⟩ = some (.bool false) := (blk_cell hb 3).trans rfl
  have hc' : (c == 10) = false := by simpa using hc
  have hd' : (c == 13) = false := by simpa using hd
  have hn' : ((buf.length : Int) == most) = false := by simpa using hne
  have HB := Aside0.mk hb
  have HO := Aside0.mk ho
  have hgl := blk_lt hb
  clear hb ho hc hd hne
  go_enter Try.func16, Try.ntmps16
  go_wp2
  go_quiet (fail)
  go_wp2_with (at_builtin; refine print_append_num (w0 := w) B rfl (.tmp 60) (.tmp 62) 36 5 .u8 1 rfl Try.underlying36 info5 (by omega) (.slice A buf.length cc) buf c rfl rfl ?aO ?aB ?aS ?aL ?_; (case aO => exact HO.out); (case aB => exact (pw_below_drewN (Below.refl _ _) _)); (case aS => exact hB); (case aL => omega); intro v1 w1 hown hbel hgrow hat; obtain ⟨A1, cc1, rfl⟩ := own_slice hown; have hb1 := blk_grown (blk_drewN HB.out _) hgrow (own_ne HO.out HB.out (by decide)); have k1 : w1.cell? ⟨g, 1, none⟩ = some (.slice A buf.length cc) := (blk_cell hb1 1).trans rfl; have fr1 := blk_frozen hb1 1; have HX := Aside0.mk hown; have HG := Aside0.mk hgrow; have HA := Aside0.mk hat; clear hb1 hown hgrow hat hbel)
  go_ret
  have hx := HX.out
  have ha := HA.out
  rw [List.length_append, List.length_singleton] at hx ha
  refine ⟨rfl, _, _, rfl, ?_, ⟨HG.out.os, HG.out.tape, HG.out.output, HG.out.size, HG.out.block⟩, ha⟩
  rw [List.length_append, List.length_singleton]
  exact hx

end

/-- A reader of state s lies at block g; its buffer's row is o (none: no row). -/
def IsR (W : World) (B g : Nat) (o : Option Nat) (s : St) : Prop :=
  ∃ v, W.heap[g]? = some (.cells #[.int .i64 s.most, v, .string s.line, .bool s.cr, .bool s.op, .int .i64 s.st] 38 (0, 0)) ∧ W.ownsRow B 5 1 v s.buf.length (nums .u8 s.buf) ∧ v.ownBlock = o

/-- Where the buffer's row lies behind a call. -/
def Onw (w : World) (o o' : Option Nat) : Prop := o' = o ∨ o' = none ∨ ∃ k, o' = some k ∧ w.heap.size ≤ k

theorem Onw.trans {w w1 : World} {o o1 o2 : Option Nat} (h : Onw w o o1) (hs : w.heap.size ≤ w1.heap.size) (k : Onw w1 o1 o2) : Onw w o o2 := by
  rcases k with rfl | rfl | ⟨k, rfl, hk⟩
  · exact h
  · exact .inr (.inl rfl)
  · exact .inr (.inr ⟨k, rfl, Nat.le_trans hs hk⟩)
theorem Kpt.trans {w w1 w2 : World} {g : Nat} {o o1 : Option Nat} (h : Kpt w w1 g o) (k : Kpt w1 w2 g o1) (ho : Onw w o o1) : Kpt w w2 g o :=
  ⟨k.os.trans h.os, k.tape.trans h.tape, k.output.trans h.output, Nat.le_trans h.size k.size, fun i hi hg hn => by
    refine (k.block i (Nat.lt_of_lt_of_le hi h.size) hg ?_).trans (h.block i hi hg hn)
    rcases ho with rfl | rfl | ⟨b, rfl, hb⟩
    · exact hn
    · simp
    · intro e
      injection e with e
      omega⟩
theorem Kpt.drewN {w w1 : World} {g : Nat} {o : Option Nat} (h : Kpt w w1 g o) (n : Nat) : Kpt w (w1.drewN n) g o := ⟨h.os, h.tape, h.output, h.size, h.block⟩
theorem Kpt.set_ {w w1 : World} {g : Nat} {o : Option Nat} (h : Kpt w w1 g o) (j : Nat) (u : Value) : Kpt w (w1.setCell ⟨g, j, none⟩ u) g o :=
  ⟨h.os, h.tape, h.output, by simpa [World.setCell] using h.size, fun i hi hg hr => (Below.heap_setCell w1 ⟨g, j, none⟩ u i hg).trans (h.block i hi hg hr)⟩
theorem Kpt.of_grown {w w1 : World} {o : Option Nat} (h : w.grownBy w1 o) (g : Nat) : Kpt w w1 g o := ⟨h.os, h.tape, h.output, h.size, fun i hi _ hr => h.block i hi hr⟩
theorem IsR.lt {W : World} {B g : Nat} {o : Option Nat} {s : St} (h : IsR W B g o s) : g < W.heap.size := by
  obtain ⟨v, hb, _⟩ := h
  exact blk_lt hb
theorem IsR.row_lt {W : World} {B g k : Nat} {o : Option Nat} {s : St} (h : IsR W B g o s) (hk : o = some k) : B ≤ k ∧ k < W.heap.size := by
  obtain ⟨v, _, ho, he⟩ := h
  exact ⟨own_base ho k (he.trans hk), own_lt ho k (he.trans hk)⟩
theorem IsR.drewN {W : World} {B g : Nat} {o : Option Nat} {s : St} (h : IsR W B g o s) (n : Nat) : IsR (W.drewN n) B g o s := h

theorem putNums_ne {W : World} {B g n : Nat} {v : Value} {xs : List Value} {cs : Array Value} (ho : W.ownsRow B 5 1 v n xs) (hb : W.heap[g]? = some (.cells cs 38 (0, 0))) : some g ≠ v.ownBlock := own_ne ho hb (by decide)

theorem next_any (B g : Nat) (o : Option Nat) (s : St) (c : Int) (w : World) (h : IsR w B g o s) (hB : B ≤ w.heap.size) (hl : s.buf.length + 1 ≤ 140737488355328) :
    Calls Try.prog 16 #[.pointer (some ⟨g, 0, none⟩), .int .u8 c] w fun e w' => e = .returned (.int .i64 (s.next c).2) ∧ ∃ o', IsR w' B g o' (s.next c).1 ∧ Onw w o o' ∧ Kpt w w' g o := by
  obtain ⟨most, buf, line, cr, op, st⟩ := s
  obtain ⟨v, hb, ho, hv⟩ := h
  simp only at hb ho hl
  by_cases hcr : cr = true
  · subst hcr
    by_cases hc : c = 10
    · subst hc
      refine (next_done g most v line op st w hb ho).mono ?_
      rintro e w' ⟨rfl, rfl⟩
      refine ⟨by simp [St.next], none, ⟨.slice none 0 0, ?_, by simpa [St.next, nums] using own_nil _ _ _ _, rfl⟩, .inr (.inl rfl), ?_⟩
      · simpa [St.next] using blk_set (blk_set (blk_set (blk_set hb 2 (.string (strOfNums buf))) 1 (.slice none 0 0)) 3 (.bool false)) 4 (.bool false)
      · exact ((((Kpt.refl _ _ _).set_ _ _).set_ _ _).set_ _ _).set_ _ _
    · refine (next_bad1 g most v line op st c w hb hc).mono ?_
      rintro e w' ⟨rfl, rfl⟩
      exact ⟨by simp [St.next, hc], o, ⟨v, by simpa [St.next, hc] using hb, by simpa [St.next, hc] using ho, hv⟩, .inl rfl, Kpt.refl _ _ _⟩
  · obtain rfl : cr = false := by simpa using hcr
    by_cases hc : c = 10
    · subst hc
      refine (next_bad2 g most v line op st w hb).mono ?_
      rintro e w' ⟨rfl, rfl⟩
      exact ⟨by simp [St.next], o, ⟨v, by simpa [St.next] using hb, by simpa [St.next] using ho, hv⟩, .inl rfl, Kpt.refl _ _ _⟩
    by_cases hd : c = 13
    · subst hd
      refine (next_cr g most v line op st w hb).mono ?_
      rintro e w' ⟨rfl, rfl⟩
      refine ⟨by simp [St.next], o, ⟨v, by simpa [St.next] using blk_set hb 3 (.bool true), ?_, hv⟩, .inl rfl, (Kpt.refl _ _ _).set_ _ _⟩
      simpa [St.next] using own_setCell ho (p := ⟨g, 3, none⟩) (putNums_ne ho hb) (.bool true)
    obtain ⟨A, cc, rfl⟩ := own_slice ho
    by_cases hm : (buf.length : Int) = most
    · subst hm
      refine (next_long g line op st c w hb hc hd).mono ?_
      rintro e w' ⟨rfl, m, rfl⟩
      exact ⟨by simp [St.next, hc, hd], o, ⟨_, by simpa [St.next, hc, hd] using hb, by simp only [St.next, hc, hd, if_false, if_true]; exact ho, hv⟩, .inl rfl, (Kpt.refl _ _ _).drewN _⟩
    · refine (next_more g most line op st c w hb ho hB hc hd hm hl).mono ?_
      rintro e w' ⟨rfl, v1, w1, rfl, hown, hg, hat⟩
      have hb1 := blk_grown hb hg (putNums_ne ho hb)
      refine ⟨by simp [St.next, hc, hd, hm], v1.ownBlock, ⟨v1, by simpa [St.next, hc, hd, hm] using blk_set hb1 1 v1, ?_, rfl⟩, ?_, ?_⟩
      · simpa [St.next, hc, hd, hm] using own_setCell hown (p := ⟨g, 1, none⟩) (putNums_ne hown hb1) v1
      · rcases hat with hat | ⟨b, hb', hle⟩
        · exact .inl (hat.trans hv)
        · exact .inr (.inr ⟨b, hb', hle⟩)
      · rw [hv] at hg
        exact (Kpt.of_grown hg g).set_ _ _

theorem put_nil (c : Int) (w : World) : Calls Try.prog 12 #[.pointer none, .int .u8 c] w fun e w' => e = .returned (.int .i64 2) ∧ w = w' := by
  go_enter Try.func12, Try.ntmps12
  go_wp2
  go_ret
  exact ⟨rfl, rfl⟩
theorem line_nil (w : World) : Calls Try.prog 13 #[.pointer none] w fun e w' => e = .returned (.string ⟨#[]⟩) ∧ w = w' := by
  go_enter Try.func13, Try.ntmps13
  go_wp2
  go_ret
  exact ⟨rfl, rfl⟩
theorem open_nil (w : World) : Calls Try.prog 14 #[.pointer none] w fun e w' => e = .returned (.bool false) ∧ w = w' := by
  go_enter Try.func14, Try.ntmps14
  go_wp2
  go_ret
  exact ⟨rfl, rfl⟩
theorem line_any (B g : Nat) (o : Option Nat) (s : St) (w : World) (h : IsR w B g o s) : Calls Try.prog 13 #[.pointer (some ⟨g, 0, none⟩)] w fun e w' => e = .returned (.string s.line) ∧ w = w' := by
  obtain ⟨v, hb, ho, hv⟩ := h
  have c2 : w.cell? ⟨g, 2, none⟩ = some (.string s.line) := (blk_cell hb 2).trans rfl
  clear hb ho hv
  go_enter Try.func13, Try.ntmps13
  go_wp2
  go_ret
  exact ⟨rfl, rfl⟩
theorem open_any (B g : Nat) (o : Option Nat) (s : St) (w : World) (h : IsR w B g o s) : Calls Try.prog 14 #[.pointer (some ⟨g, 0, none⟩)] w fun e w' => e = .returned (.bool s.op) ∧ w = w' := by
  obtain ⟨v, hb, ho, hv⟩ := h
  have c2 : w.cell? ⟨g, 4, none⟩ = some (.bool s.op) := (blk_cell hb 4).trans rfl
  clear hb ho hv
  go_enter Try.func14, Try.ntmps14
  go_wp2
  go_ret
  exact ⟨rfl, rfl⟩
theorem put_shut (B g : Nat) (o : Option Nat) (s : St) (c : Int) (w : World) (h : IsR w B g o s) (hs : s.st = 2 ∨ s.st = 3) :
    Calls Try.prog 12 #[.pointer (some ⟨g, 0, none⟩), .int .u8 c] w fun e w' => e = .returned (.int .i64 s.st) ∧ w = w' := by
  obtain ⟨most, buf, line, cr, op, st⟩ := s
  obtain ⟨v, hb, ho, hv⟩ := h
  have c5 : w.cell? ⟨g, 5, none⟩ = some (.int .i64 st) := (blk_cell hb 5).trans rfl
  clear hb ho hv
  rcases hs with h | h
  all_goals
    simp only at h
    subst h
    go_enter Try.func12, Try.ntmps12
    go_wp2
    go_ret
    exact ⟨rfl, rfl⟩
theorem put_open (B g : Nat) (o : Option Nat) (s : St) (c : Int) (w : World) (h : IsR w B g o s) (hB : B ≤ w.heap.size) (hl : s.buf.length + 1 ≤ 140737488355328) (h2 : s.st ≠ 2) (h3 : s.st ≠ 3) :
    Calls Try.prog 12 #[.pointer (some ⟨g, 0, none⟩), .int .u8 c] w fun e w' => e = .returned (.int .i64 (s.put c).st) ∧ ∃ o', IsR w' B g o' (s.put c) ∧ Onw w o o' ∧ Kpt w w' g o := by
  have hput : s.put c = { (({ s with op := true } : St).next c).1 with st := (({ s with op := true } : St).next c).2 } := by simp [St.put, h2, h3]
  rw [hput]
  clear hput
  obtain ⟨most, buf, line, cr, op, st⟩ := s
  simp only at hl h2 h3
  have HH := Aside0.mk h
  obtain ⟨v, hb, ho, hv⟩ := h
  simp only at hb ho
  have c5 : w.cell? ⟨g, 5, none⟩ = some (.int .i64 st) := (blk_cell hb 5).trans rfl
  have c4 : w.cell? ⟨g, 4, none⟩ = some (.bool op) := (blk_cell hb 4).trans rfl
  have f4 := blk_frozen hb 4
  have h2' : (st == 2) = false := by simpa using h2
  have h3' : (st == 3) = false := by simpa using h3
  have HR : Aside0 (IsR (w.setCell ⟨g, 4, none⟩ (.bool true)) B g o ⟨most, buf, line, cr, true, st⟩) := ⟨v, by simpa using blk_set hb 4 (.bool true), own_setCell ho (p := ⟨g, 4, none⟩) (putNums_ne ho hb) _, hv⟩
  have HS : (w.setCell ⟨g, 4, none⟩ (.bool true)).heap.size = w.heap.size := by simp [World.setCell]
  have HB : Aside0 (B ≤ (w.setCell ⟨g, 4, none⟩ (.bool true)).heap.size) := ⟨by rw [HS]; exact hB⟩
  clear hb ho h2 h3 HS
  go_enter Try.func12, Try.ntmps12
  go_wp2_with (go_at_call 16; refine (next_any B g o ⟨most, buf, line, cr, true, st⟩ c _ HR.out HB.out hl).mono ?_; rintro e w1 ⟨rfl, o1, hr, hn, hk⟩; obtain ⟨v1, hb1, ho1, hv1⟩ := hr; have k5 := (blk_cell hb1 5).trans rfl; have g5 := blk_frozen hb1 5)
  go_ret
  refine ⟨rfl, o1, ⟨v1, by simpa using blk_set hb1 5 (.int .i64 (St.next ⟨most, buf, line, cr, true, st⟩ c).2), own_setCell ho1 (p := ⟨g, 5, none⟩) (putNums_ne ho1 hb1) _, hv1⟩, ?_, ?_⟩
  · simpa [Onw, World.setCell] using hn
  · exact (((Kpt.refl _ _ _).set_ 4 (.bool true)).trans hk (.inl rfl)).set_ _ _

/-- Put, whatever the state. -/
theorem put_any (B g : Nat) (o : Option Nat) (s : St) (c : Int) (w : World) (h : IsR w B g o s) (hB : B ≤ w.heap.size) (hl : s.buf.length + 1 ≤ 140737488355328) :
    Calls Try.prog 12 #[.pointer (some ⟨g, 0, none⟩), .int .u8 c] w fun e w' => e = .returned (.int .i64 (s.put c).st) ∧ ∃ o', IsR w' B g o' (s.put c) ∧ Onw w o o' ∧ Kpt w w' g o := by
  by_cases hs : s.st = 2 ∨ s.st = 3
  · refine (put_shut B g o s c w h hs).mono ?_
    rintro e w' ⟨rfl, rfl⟩
    have hp : s.put c = s := by simp [St.put, hs]
    rw [hp]
    exact ⟨rfl, o, h, .inl rfl, Kpt.refl _ _ _⟩
  · exact put_open B g o s c w h hB hl (fun e => hs (.inl e)) (fun e => hs (.inr e))
end Go.Proofs.Ytieamfgiagnafaa.Rd
