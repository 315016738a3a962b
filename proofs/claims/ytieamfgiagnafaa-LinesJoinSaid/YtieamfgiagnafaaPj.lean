/- Joined lines are split into the same lines: plain Lean. Conditions: at most 30 lines of at most 100 bytes, without carriage returns and line feeds. -/
import Derived.Test.YtieamfgiagnafaaTk
namespace Go.Proofs.Ytieamfgiagnafaa.Rd
open Go.RowKit Go.Proofs.YtieamfgiagnafaaW.PrintWords Go.Proofs.YtieamfgiagnafaaW.PrintLast Go.Proofs.YtieamfgiagnafaaW.PrintMore
set_option linter.unusedVariables false
set_option linter.unusedSimpArgs false

theorem bytesOf_append (a b : ByteArray) : bytesOf (a ++ b) = bytesOf a ++ bytesOf b := by
  simp [bytesOf]
def joinG (s : ByteArray) (l : List ByteArray) : ByteArray := l.foldl (fun s x => (s ++ x) ++ (⟨#[13, 10]⟩ : ByteArray)) s
def joinB (l : List ByteArray) : ByteArray := joinG ⟨#[]⟩ l
def flat (l : List ByteArray) : List Int := l.flatMap fun x => bytesOf x ++ [13, 10]
theorem joinG_bytes (s : ByteArray) (l : List ByteArray) : bytesOf (joinG s l) = bytesOf s ++ flat l := by
  induction l generalizing s with
  | nil => simp [joinG, flat]
  | cons x l ih =>
    have h := ih ((s ++ x) ++ (⟨#[13, 10]⟩ : ByteArray))
    simp only [joinG, List.foldl_cons] at h ⊢
    rw [h, bytesOf_append, bytesOf_append]
    simp [flat, bytesOf]
theorem joinB_bytes (l : List ByteArray) : bytesOf (joinB l) = flat l := by
  rw [joinB, joinG_bytes]
  simp [bytesOf]
theorem flat_len (l : List ByteArray) (h : ∀ x ∈ l, x.size ≤ 100) : (flat l).length ≤ 102 * l.length := by
  induction l with
  | nil => simp [flat]
  | cons x l ih =>
    have h1 := h x (by simp)
    have h2 := ih (fun y hy => h y (by simp [hy]))
    have e : flat (x :: l) = (bytesOf x ++ [13, 10]) ++ flat l := by simp [flat]
    rw [e, List.length_append, List.length_append, bytesOf_length, List.length_cons]
    simp
    omega
theorem joinB_size (l : List ByteArray) (h : ∀ x ∈ l, x.size ≤ 100) : (joinB l).size ≤ 102 * l.length := by
  rw [← bytesOf_length, joinB_bytes]
  exact flat_len l h

theorem joinG_snoc (s : ByteArray) (l : List ByteArray) (x : ByteArray) : joinG s (l ++ [x]) = (joinG s l ++ x) ++ (⟨#[13, 10]⟩ : ByteArray) := by simp [joinG]

set_option maxHeartbeats 1000000 in
theorem join_any (A : Option Addr) (c : Nat) (l : List ByteArray) (w : World) (hr : Kd.C Kd.string w A l.length l) (hc : l.length ≤ c) (hl : l.length ≤ 30) (h : ∀ x ∈ l, x.size ≤ 100) :
    Calls Try.prog 15 #[.slice A l.length c] w fun e w' => e = .returned (.string (joinB l)) ∧ w = w' := by
  have HR := Aside0.mk hr
  have Hx := Aside0.mk h
  clear hr h
  go_enter Try.func15, Try.ntmps15
  go_wp2
  go_loop [3, 4] (fun s i => ∃ k : Nat, k ≤ l.length ∧ i = .int .i64 k ∧ s = .string (joinB (l.take k))) (fun _ i => l.length - (intOf i).toNat)
  case atStart => exact ⟨0, Nat.zero_le _, rfl, rfl⟩
  case round =>
    obtain ⟨k, hk, rfl, rfl⟩ := hrel
    by_cases hlt : k < l.length
    · obtain ⟨ad, rfl, hcell⟩ := Kd.at_string HR.out (k : Int) (by omega) (by omega)
      have hrd : rdOf ByteArray.empty l (k : Int) = l[k] := by simp [rdOf, List.getD_eq_getElem?_getD, List.getElem?_eq_getElem hlt]
      rw [hrd] at hcell
      simp only [Int.toNat_natCast] at hcell
      have hs0 : (joinB (l.take k)).size ≤ 102 * 30 := Nat.le_trans (joinB_size _ (fun x hx => Hx.out x (List.mem_of_mem_take hx))) (by rw [List.length_take]; omega)
      have hs1 : l[k].size ≤ 100 := Hx.out _ (List.getElem_mem hlt)
      have HJ : Aside0 (joinB (l.take (k + 1)) = (joinB (l.take k) ++ l[k]) ++ (⟨#[13, 10]⟩ : ByteArray)) := ⟨by rw [List.take_succ_eq_append_getElem hlt]; exact joinG_snoc _ _ _⟩
      generalize l[k] = x at *
      generalize joinB (l.take k) = s at *
      have h1 : s.size + x.size ≤ 9223372036854775807 := by omega
      have h2 : (s ++ x).size + 2 ≤ 9223372036854775807 := by rw [ByteArray.size_append]; omega
      have h3 : s.size + x.size + 2 ≤ 9223372036854775807 := by omega
      clear hrd
      go_wp2
      exact ⟨⟨k + 1, by omega, by go_num, by rw [HJ.out]⟩, by simp [intOf]; omega⟩
    · go_wp2
      go_ret
      exact ⟨by rw [List.take_of_length_le (by omega)]; rfl, rfl⟩

/-! ### the fold of Put over joined lines -/
def Plain (x : ByteArray) : Prop := ∀ c ∈ bytesOf x, c ≠ 10 ∧ c ≠ 13
theorem put_plain (m : Int) (buf : List Int) (line : ByteArray) (op : Bool) (st c : Int) (hs : st ≠ 2 ∧ st ≠ 3) (h : c ≠ 10 ∧ c ≠ 13) (hm : (buf.length : Int) ≠ m) : St.put ⟨m, buf, line, false, op, st⟩ c = ⟨m, buf ++ [c], line, false, true, 0⟩ := by
  simp [St.put, St.next, hs.1, hs.2, h.1, h.2, hm]
theorem put_long (m : Int) (buf : List Int) (line : ByteArray) (op : Bool) (st c : Int) (hs : st ≠ 2 ∧ st ≠ 3) (h : c ≠ 10 ∧ c ≠ 13) (hm : (buf.length : Int) = m) : St.put ⟨m, buf, line, false, op, st⟩ c = ⟨m, buf, line, false, true, 3⟩ := by
  simp [St.put, St.next, hs.1, hs.2, h.1, h.2, hm]
theorem put_13 (m : Int) (buf : List Int) (line : ByteArray) (op : Bool) (st : Int) (hs : st ≠ 2 ∧ st ≠ 3) : St.put ⟨m, buf, line, false, op, st⟩ 13 = ⟨m, buf, line, true, true, 0⟩ := by
  simp [St.put, St.next, hs.1, hs.2]

theorem go_plain (m : Int) (line : ByteArray) (bs : List Int) : ∀ (buf : List Int) (op : Bool) (st : Int) (rest : List Int) (i : Int) (acc : List ByteArray), (∀ c ∈ bs, c ≠ 10 ∧ c ≠ 13) → (buf.length + bs.length : Nat) ≤ m → st ≠ 2 ∧ st ≠ 3 →
    ∃ op' st', (st' ≠ 2 ∧ st' ≠ 3) ∧ splitGo ⟨m, buf, line, false, op, st⟩ (bs ++ rest) i acc = splitGo ⟨m, buf ++ bs, line, false, op', st'⟩ rest (i + bs.length) acc := by
  induction bs with
  | nil => intro buf op st rest i acc _ _ hs; exact ⟨op, st, hs, by simp⟩
  | cons c bs ih =>
    intro buf op st rest i acc hp hl hs
    have hm : (buf.length : Int) ≠ m := by simp at hl; omega
    have hc := hp c (by simp)
    obtain ⟨op', st', hs', h⟩ := ih (buf ++ [c]) true 0 rest (i + 1) acc (fun d hd => hp d (by simp [hd])) (by simp at hl ⊢; omega) ⟨by decide, by decide⟩
    refine ⟨op', st', hs', ?_⟩
    rw [List.cons_append]
    simp only [splitGo, put_plain m buf line op st c hs hc hm]
    rw [if_neg (by decide), if_neg (by decide), h]
    simp
    rw [show i + 1 + (bs.length : Int) = i + ((bs.length : Int) + 1) from by omega]

theorem strOf_bytesOf (x : ByteArray) : strOfNums (bytesOf x) = x := by
  have h := str_extract x 0 x.size (Nat.zero_le _) (Nat.le_refl _)
  have e : ((bytesOf x).drop 0).take (x.size - 0) = bytesOf x := by
    rw [List.drop_zero, List.take_of_length_le (by rw [bytesOf_length]; omega)]
  rw [e] at h
  rw [h, ByteArray.extract_zero_size]

theorem go_line (m : Int) (line : ByteArray) (x : ByteArray) (st : Int) (rest : List Int) (i : Int) (acc : List ByteArray) (hx : Plain x) (hl : (x.size : Int) ≤ m) (hs : st ≠ 2 ∧ st ≠ 3) :
    splitGo ⟨m, [], line, false, false, st⟩ (bytesOf x ++ [13, 10] ++ rest) i acc = splitGo ⟨m, [], x, false, false, 1⟩ rest (i + x.size + 2) (acc ++ [x]) := by
  obtain ⟨op', st', hs', h⟩ := go_plain m line (bytesOf x) [] false st ([13, 10] ++ rest) i acc hx (by rw [bytesOf_length]; simpa using hl) hs
  rw [List.append_assoc, h]
  simp only [List.nil_append, List.cons_append, splitGo, put_13 m (bytesOf x) line op' st' hs']
  rw [if_neg (by decide), if_neg (by decide), put_cr10, if_pos rfl, strOf_bytesOf, bytesOf_length]
  rw [show i + (x.size : Int) + 1 + 1 = i + (x.size : Int) + 2 from by omega]

theorem go_lines (m : Int) (l : List ByteArray) : ∀ (line : ByteArray) (st : Int) (rest : List Int) (i : Int) (acc : List ByteArray), (∀ x ∈ l, Plain x ∧ (x.size : Int) ≤ m) → st ≠ 2 ∧ st ≠ 3 →
    ∃ line' st', (st' ≠ 2 ∧ st' ≠ 3) ∧ splitGo ⟨m, [], line, false, false, st⟩ (flat l ++ rest) i acc = splitGo ⟨m, [], line', false, false, st'⟩ rest (i + (flat l).length) (acc ++ l) := by
  induction l with
  | nil => intro line st rest i acc _ hs; exact ⟨line, st, hs, by simp [flat]⟩
  | cons x l ih =>
    intro line st rest i acc h hs
    obtain ⟨hx, hl⟩ := h x (by simp)
    obtain ⟨line', st', hs', h'⟩ := ih x 1 rest (i + x.size + 2) (acc ++ [x]) (fun y hy => h y (by simp [hy])) ⟨by decide, by decide⟩
    refine ⟨line', st', hs', ?_⟩
    have e : flat (x :: l) = (bytesOf x ++ [13, 10]) ++ flat l := by simp [flat]
    rw [e, List.append_assoc (bytesOf x ++ [13, 10]), go_line m line x st (flat l ++ rest) i acc hx hl hs, h']
    simp [bytesOf_length]
    rw [show i + (x.size : Int) + 2 + ((flat l).length : Int) = i + ((x.size : Int) + (((flat l).length : Int) + 1 + 1)) from by omega]

/-- All lines are short enough. -/
theorem splitP_join (l : List ByteArray) (m : Int) (hm : 0 ≤ m) (h : ∀ x ∈ l, Plain x ∧ (x.size : Int) ≤ m) : splitP (joinB l) m = (l, ((joinB l).size : Int), 1) := by
  obtain ⟨line', st', hs', h'⟩ := go_lines m l ⟨#[]⟩ 0 [] 0 [] h ⟨by decide, by decide⟩
  have hmx : mx m 0 = m := by unfold mx; rw [if_neg (by omega)]
  rw [splitP, St.new, hmx, joinB_bytes]
  rw [List.append_nil] at h'
  rw [h', ← joinB_bytes, bytesOf_length]
  simp [splitGo]
theorem flat_mid (u v : List ByteArray) (y : ByteArray) : flat (u ++ y :: v) = flat u ++ (bytesOf y ++ [13, 10] ++ flat v) := by simp [flat]
theorem mid_assoc (u v w : List Int) (y : Int) : (u ++ y :: v) ++ w = u ++ (y :: (v ++ w)) := by simp
/-- The first line that is longer. -/
theorem splitP_long (l : List ByteArray) (m : Int) (hm : 0 ≤ m) (i : Nat) (hi : i < l.length) (h : ∀ x ∈ l.take i, Plain x ∧ (x.size : Int) ≤ m) (hp : Plain l[i]) (hl : m < (l[i].size : Int)) :
    splitP (joinB l) m = (l.take i, ((joinB (l.take i)).size : Int) + m + 1, 3) := by
  obtain ⟨n, rfl⟩ := Int.eq_ofNat_of_zero_le hm
  have hn : n < (bytesOf l[i]).length := by rw [bytesOf_length]; omega
  have e : flat l = flat (l.take i) ++ ((bytesOf l[i]).take n ++ ((bytesOf l[i])[n] :: ((bytesOf l[i]).drop (n + 1) ++ ([13, 10] ++ flat (l.drop (i + 1)))))) := by
    have e1 : l = l.take i ++ l[i] :: l.drop (i + 1) := by rw [← List.drop_eq_getElem_cons hi, List.take_append_drop]
    have e2 : bytesOf l[i] = (bytesOf l[i]).take n ++ (bytesOf l[i])[n] :: (bytesOf l[i]).drop (n + 1) := by rw [← List.drop_eq_getElem_cons hn, List.take_append_drop]
    have e3 : flat l = flat (l.take i) ++ (bytesOf l[i] ++ [13, 10] ++ flat (l.drop (i + 1))) := by
      exact (congrArg flat e1).trans (flat_mid _ _ _)
    rw [e3]
    congr 1
    rw [List.append_assoc]
    exact (congrArg (fun z => z ++ ([13, 10] ++ flat (l.drop (i + 1)))) e2).trans (mid_assoc _ _ _ _)
  obtain ⟨line', st', hs', h'⟩ := go_lines n (l.take i) ⟨#[]⟩ 0 ((bytesOf l[i]).take n ++ ((bytesOf l[i])[n] :: ((bytesOf l[i]).drop (n + 1) ++ ([13, 10] ++ flat (l.drop (i + 1)))))) 0 [] h ⟨by decide, by decide⟩
  have hmx : mx (n : Int) 0 = n := by unfold mx; rw [if_neg (by omega)]
  rw [splitP, St.new, hmx, joinB_bytes, e, h']
  have hpt : ∀ c ∈ (bytesOf l[i]).take n, c ≠ 10 ∧ c ≠ 13 := fun c hc => hp c (List.mem_of_mem_take hc)
  have htl : ((bytesOf l[i]).take n).length = n := by rw [List.length_take]; omega
  obtain ⟨op'', st'', hs'', h''⟩ := go_plain n line' ((bytesOf l[i]).take n) [] false st' ((bytesOf l[i])[n] :: ((bytesOf l[i]).drop (n + 1) ++ ([13, 10] ++ flat (l.drop (i + 1))))) (0 + ((flat (l.take i)).length : Int)) ([] ++ l.take i) hpt (by rw [htl]; simp) hs'
  rw [h'', htl]
  have hcn := hp _ (List.getElem_mem hn)
  simp only [List.nil_append, splitGo, put_long n ((bytesOf l[i]).take n) line' op'' st'' _ hs'' hcn (by rw [htl])]
  rw [if_neg (by decide), if_pos (by decide), ← joinB_bytes, bytesOf_length]
  simp
end Go.Proofs.Ytieamfgiagnafaa.Rd
