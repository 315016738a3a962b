/- The laid table of methods; reqline.Kind, walked over the map that kinds makes. Conditions: those of the contracts' statements. -/
import Derived.Test.YtjapmlfjlojbeaaDoorHF
import Derived.Maps.OwnOps
import Derived.Maps.Views
import Derived.Carry
namespace Go.Proofs.YtjapmlfjlojbeaaDoor.PA
open Go.RowKit Go.Maps Go.Proofs.YtjapmlfjlojbeaaDoorW.PrintWords Go.Proofs.YtjapmlfjlojbeaaDoorW.PrintLast Go.Proofs.YtjapmlfjlojbeaaDoorW.PrintMore
set_option linter.unusedVariables false
set_option linter.unusedSimpArgs false

def others : Array Value := #[.string ⟨#[80, 79, 83, 84]⟩, .string ⟨#[80, 85, 84]⟩, .string ⟨#[68, 69, 76, 69, 84, 69]⟩, .string ⟨#[80, 65, 84, 67, 72]⟩, .string ⟨#[84, 82, 65, 67, 69]⟩, .string ⟨#[67, 79, 78, 78, 69, 67, 84]⟩]
/-- The program's variable of the other methods is laid. -/
def Laid (w : World) : Prop := ∃ t fr, w.heap[1]? = some (.cells others t fr)
theorem Laid.below {w w' : World} (h : Laid w) (hb : Below w.heap.size w w') : Laid w' := by
  obtain ⟨t, fr, h⟩ := h
  exact ⟨t, fr, blk_below h hb⟩

theorem wpList_insert_own {H : Type} {P : Program} (w : World) {ops : Array Oper} {rest : List Oper} {o : Oper} {a : Act} {Q : Exit → Act → World → Prop}
    (hg : o.guard = none) (m x v : Operand) (t : TypeId) (hop : o.op = Op.insert t m x v)
    (k e : TypeId) (K : Keyed P k) (ht : P.underlying t = some (.map k e)) (R : Value → Option (DataW H × List MemPlace)) (b n : Nat) (D : DataW H)
    (hm : a.eval m = .map (some b)) (hown : w.ownsMap P k R b n D) (hn : n < maxLen) (key val : Value) (kl : Lit) (hx : a.eval x = key) (hv : a.eval v = val) (hkey : keyOf P k key = some kl)
    (d : DataW H) (ps : List MemPlace) (hval : R val = some (d, ps))
    (hK : ∀ w', w'.ownsMap P k R b (n + 1) (D.put kl d) → w.grownBy w' (some b) → wpList P ops Q rest (a.put o.dst undef) w') :
    wpList P ops Q (o :: rest) a w := by
  refine wpList_plain hg fun K' hK' => ?_
  obtain ⟨w', hrun, r1, r2⟩ := hown.update K ht hn hkey hval
  unfold Oper.wp
  simp [execOp, hop, hm, hx, hv, hrun, Result.andThen]
  exact hK' _ _ (hK w' r1 r2)

theorem klaw : Keyed Tryd.prog 9 := string_keyed Tryd.underlying9
theorem zero3 (w : World) : (zeroValue 3).run Tryd.prog w = .ok (.int .i64 0) w := by kernel_rfl
theorem kkey {s : ByteArray} (h : s.size ≤ maxLen) : keyOf Tryd.prog 9 (.string s) = some (.string s.data.toList) := WideMaps.keyOf_string_mk Tryd.underlying9 h

theorem ix0 (w : World) : (Instr.index 67 (.agg #[.string { data := #[80, 79, 83, 84] }, .string { data := #[80, 85, 84] }, .string { data := #[68, 69, 76, 69, 84, 69] }, .string { data := #[80, 65, 84, 67, 72] }, .string { data := #[84, 82, 65, 67, 69] }, .string { data := #[67, 79, 78, 78, 69, 67, 84] }]) (.int .i64 0)).run Tryd.prog w = .ok (.string { data := #[80, 79, 83, 84] }) w := by kernel_rfl
theorem ix1 (w : World) : (Instr.index 67 (.agg #[.string { data := #[80, 79, 83, 84] }, .string { data := #[80, 85, 84] }, .string { data := #[68, 69, 76, 69, 84, 69] }, .string { data := #[80, 65, 84, 67, 72] }, .string { data := #[84, 82, 65, 67, 69] }, .string { data := #[67, 79, 78, 78, 69, 67, 84] }]) (.int .i64 1)).run Tryd.prog w = .ok (.string { data := #[80, 85, 84] }) w := by kernel_rfl
theorem ix2 (w : World) : (Instr.index 67 (.agg #[.string { data := #[80, 79, 83, 84] }, .string { data := #[80, 85, 84] }, .string { data := #[68, 69, 76, 69, 84, 69] }, .string { data := #[80, 65, 84, 67, 72] }, .string { data := #[84, 82, 65, 67, 69] }, .string { data := #[67, 79, 78, 78, 69, 67, 84] }]) (.int .i64 2)).run Tryd.prog w = .ok (.string { data := #[68, 69, 76, 69, 84, 69] }) w := by kernel_rfl
theorem ix3 (w : World) : (Instr.index 67 (.agg #[.string { data := #[80, 79, 83, 84] }, .string { data := #[80, 85, 84] }, .string { data := #[68, 69, 76, 69, 84, 69] }, .string { data := #[80, 65, 84, 67, 72] }, .string { data := #[84, 82, 65, 67, 69] }, .string { data := #[67, 79, 78, 78, 69, 67, 84] }]) (.int .i64 3)).run Tryd.prog w = .ok (.string { data := #[80, 65, 84, 67, 72] }) w := by kernel_rfl
theorem ix4 (w : World) : (Instr.index 67 (.agg #[.string { data := #[80, 79, 83, 84] }, .string { data := #[80, 85, 84] }, .string { data := #[68, 69, 76, 69, 84, 69] }, .string { data := #[80, 65, 84, 67, 72] }, .string { data := #[84, 82, 65, 67, 69] }, .string { data := #[67, 79, 78, 78, 69, 67, 84] }]) (.int .i64 4)).run Tryd.prog w = .ok (.string { data := #[84, 82, 65, 67, 69] }) w := by kernel_rfl
theorem ix5 (w : World) : (Instr.index 67 (.agg #[.string { data := #[80, 79, 83, 84] }, .string { data := #[80, 85, 84] }, .string { data := #[68, 69, 76, 69, 84, 69] }, .string { data := #[80, 65, 84, 67, 72] }, .string { data := #[84, 82, 65, 67, 69] }, .string { data := #[67, 79, 78, 78, 69, 67, 84] }]) (.int .i64 5)).run Tryd.prog w = .ok (.string { data := #[67, 79, 78, 78, 69, 67, 84] }) w := by kernel_rfl

def pn (D : (DataW Nat)) (s : ByteArray) (n : Int) : (DataW Nat) := D.put (.string s.data.toList) (.lit (.int .i64 n))
def others' : List ByteArray := [⟨#[80, 79, 83, 84]⟩, ⟨#[80, 85, 84]⟩, ⟨#[68, 69, 76, 69, 84, 69]⟩, ⟨#[80, 65, 84, 67, 72]⟩, ⟨#[84, 82, 65, 67, 69]⟩, ⟨#[67, 79, 78, 78, 69, 67, 84]⟩]
def m3 : (DataW Nat) := pn (pn (pn (.map []) ⟨#[71, 69, 84]⟩ 1) ⟨#[72, 69, 65, 68]⟩ 2) ⟨#[79, 80, 84, 73, 79, 78, 83]⟩ 3
def mk (k : Nat) : (DataW Nat) := (others'.take k).foldl (fun D s => pn D s 4) m3

set_option maxRecDepth 100000 in
set_option maxHeartbeats 8000000 in
theorem kinds_any (w : World) (hL : Laid w) : Calls Tryd.prog 46 #[] w fun e w' => e = .returned (.map (some w.heap.size)) ∧ w'.ownsMap Tryd.prog 9 (plainElem (H := Nat) Tryd.prog 3) w.heap.size 9 (mk 6) ∧ Below w.heap.size w w' := by
  have hmm := @run_makeMap Tryd.prog
  have HL := Aside0.mk hL
  clear hL
  go_enter Tryd.func46, Tryd.ntmps46
  have own0 := World.ownsMap_made w Tryd.prog 9 (plainElem (H := Nat) Tryd.prog 3)
  go_wp2_with (first
    | (refine wpList_insert_own _ rfl _ _ _ 65 rfl 9 3 klaw Tryd.underlying65 (plainElem (H := Nat) Tryd.prog 3) w.heap.size 0 _ rfl own0 (by decide) _ _ _ rfl rfl (kkey (by decide)) _ [] (plainElem_int Tryd.underlying3 (by decide)) ?_)
    | go_in)
  intro w1 own1 g1
  have B1 := Aside0.mk ((below_alloc (Below.refl w.heap.size w) (.map #[] 0)).grown g1 (by simp) (fun j hj => by cases hj; exact Nat.le_refl _))
  clear own0 g1
  go_wp2_with (first
    | (refine wpList_insert_own _ rfl _ _ _ 65 rfl 9 3 klaw Tryd.underlying65 (plainElem (H := Nat) Tryd.prog 3) w.heap.size 1 _ rfl own1 (by decide) _ _ _ rfl rfl (kkey (by decide)) _ [] (plainElem_int Tryd.underlying3 (by decide)) ?_)
    | go_in)
  intro w2 own2 g2
  have B2 := Aside0.mk (B1.out.grown g2 (B1.out.size) (fun j hj => by cases hj; exact Nat.le_refl _))
  clear own1 g2 B1
  go_wp2_with (first
    | (refine wpList_insert_own _ rfl _ _ _ 65 rfl 9 3 klaw Tryd.underlying65 (plainElem (H := Nat) Tryd.prog 3) w.heap.size 2 _ rfl own2 (by decide) _ _ _ rfl rfl (kkey (by decide)) _ [] (plainElem_int Tryd.underlying3 (by decide)) ?_)
    | go_in)
  intro w3 own3 g3
  have B3 := Aside0.mk (B2.out.grown g3 (B2.out.size) (fun j hj => by cases hj; exact Nat.le_refl _))
  clear own2 g3 B2
  have O3 : Aside0 (w3.ownsMap Tryd.prog 9 (plainElem (H := Nat) Tryd.prog 3) w.heap.size 3 (mk 0)) := ⟨own3⟩
  clear own3
  obtain ⟨t, fr, hg⟩ := HL.out.below B3.out
  have p0 : w3.cell? ⟨1, 0, none⟩ = others[0]? := cell_of_row w3 1 0 others t fr hg
  have p1 : w3.cell? ⟨1, 1, none⟩ = others[1]? := cell_of_row w3 1 1 others t fr hg
  have p2 : w3.cell? ⟨1, 2, none⟩ = others[2]? := cell_of_row w3 1 2 others t fr hg
  have p3 : w3.cell? ⟨1, 3, none⟩ = others[3]? := cell_of_row w3 1 3 others t fr hg
  have p4 : w3.cell? ⟨1, 4, none⟩ = others[4]? := cell_of_row w3 1 4 others t fr hg
  have p5 : w3.cell? ⟨1, 5, none⟩ = others[5]? := cell_of_row w3 1 5 others t fr hg
  simp [others] at p0 p1 p2 p3 p4 p5
  clear hg hmm
  go_wp2
  clear p0 p1 p2 p3 p4 p5
  go_loopw [7] (fun i wr => ∃ k : Nat, k ≤ 6 ∧ i = .int .i64 k ∧ Aside0 (wr.ownsMap Tryd.prog 9 (plainElem (H := Nat) Tryd.prog 3) w.heap.size (3 + k) (mk k)) ∧ Aside0 (Below w.heap.size w wr)) (fun i _ => 6 - (intOf i).toNat)
  case atStart => exact ⟨0, by omega, rfl, O3, B3⟩
  case round =>
    obtain ⟨k, hk, rfl, O, B⟩ := hrel
    have h7 : k = 0 ∨ k = 1 ∨ k = 2 ∨ k = 3 ∨ k = 4 ∨ k = 5 ∨ k = 6 := by omega
    clear hk
    have own := O.out
    have i0 := ix0 wr
    have i1 := ix1 wr
    have i2 := ix2 wr
    have i3 := ix3 wr
    have i4 := ix4 wr
    have i5 := ix5 wr
    rcases h7 with rfl | rfl | rfl | rfl | rfl | rfl | rfl
    · go_wp2_with (first
        | (at_mapUpdate; refine wpList_mapUpdate_own _ rfl _ _ _ 65 rfl 9 3 klaw Tryd.underlying65 _ w.heap.size _ _ rfl own (by decide) _ _ _ rfl rfl (kkey (by decide)) _ [] (plainElem_int Tryd.underlying3 (by decide)) ?_)
        | go_in)
      intro w4 own4 g4
      clear i0 i1 i2 i3 i4 i5 own
      have B4 := Aside0.mk (B.out.grown g4 B.out.size (fun j hj => by cases hj; exact Nat.le_refl _))
      have O4 : Aside0 (w4.ownsMap Tryd.prog 9 (plainElem (H := Nat) Tryd.prog 3) w.heap.size (3 + 1) (mk 1)) := ⟨own4⟩
      clear own4 g4
      go_wp2
      exact ⟨⟨1, by omega, by go_num, O4, B4⟩, by simp [intOf]⟩
    · go_wp2_with (first
        | (at_mapUpdate; refine wpList_mapUpdate_own _ rfl _ _ _ 65 rfl 9 3 klaw Tryd.underlying65 _ w.heap.size _ _ rfl own (by decide) _ _ _ rfl rfl (kkey (by decide)) _ [] (plainElem_int Tryd.underlying3 (by decide)) ?_)
        | go_in)
      intro w4 own4 g4
      clear i0 i1 i2 i3 i4 i5 own
      have B4 := Aside0.mk (B.out.grown g4 B.out.size (fun j hj => by cases hj; exact Nat.le_refl _))
      have O4 : Aside0 (w4.ownsMap Tryd.prog 9 (plainElem (H := Nat) Tryd.prog 3) w.heap.size (3 + 2) (mk 2)) := ⟨own4⟩
      clear own4 g4
      go_wp2
      exact ⟨⟨2, by omega, by go_num, O4, B4⟩, by simp [intOf]⟩
    · go_wp2_with (first
        | (at_mapUpdate; refine wpList_mapUpdate_own _ rfl _ _ _ 65 rfl 9 3 klaw Tryd.underlying65 _ w.heap.size _ _ rfl own (by decide) _ _ _ rfl rfl (kkey (by decide)) _ [] (plainElem_int Tryd.underlying3 (by decide)) ?_)
        | go_in)
      intro w4 own4 g4
      clear i0 i1 i2 i3 i4 i5 own
      have B4 := Aside0.mk (B.out.grown g4 B.out.size (fun j hj => by cases hj; exact Nat.le_refl _))
      have O4 : Aside0 (w4.ownsMap Tryd.prog 9 (plainElem (H := Nat) Tryd.prog 3) w.heap.size (3 + 3) (mk 3)) := ⟨own4⟩
      clear own4 g4
      go_wp2
      exact ⟨⟨3, by omega, by go_num, O4, B4⟩, by simp [intOf]⟩
    · go_wp2_with (first
        | (at_mapUpdate; refine wpList_mapUpdate_own _ rfl _ _ _ 65 rfl 9 3 klaw Tryd.underlying65 _ w.heap.size _ _ rfl own (by decide) _ _ _ rfl rfl (kkey (by decide)) _ [] (plainElem_int Tryd.underlying3 (by decide)) ?_)
        | go_in)
      intro w4 own4 g4
      clear i0 i1 i2 i3 i4 i5 own
      have B4 := Aside0.mk (B.out.grown g4 B.out.size (fun j hj => by cases hj; exact Nat.le_refl _))
      have O4 : Aside0 (w4.ownsMap Tryd.prog 9 (plainElem (H := Nat) Tryd.prog 3) w.heap.size (3 + 4) (mk 4)) := ⟨own4⟩
      clear own4 g4
      go_wp2
      exact ⟨⟨4, by omega, by go_num, O4, B4⟩, by simp [intOf]⟩
    · go_wp2_with (first
        | (at_mapUpdate; refine wpList_mapUpdate_own _ rfl _ _ _ 65 rfl 9 3 klaw Tryd.underlying65 _ w.heap.size _ _ rfl own (by decide) _ _ _ rfl rfl (kkey (by decide)) _ [] (plainElem_int Tryd.underlying3 (by decide)) ?_)
        | go_in)
      intro w4 own4 g4
      clear i0 i1 i2 i3 i4 i5 own
      have B4 := Aside0.mk (B.out.grown g4 B.out.size (fun j hj => by cases hj; exact Nat.le_refl _))
      have O4 : Aside0 (w4.ownsMap Tryd.prog 9 (plainElem (H := Nat) Tryd.prog 3) w.heap.size (3 + 5) (mk 5)) := ⟨own4⟩
      clear own4 g4
      go_wp2
      exact ⟨⟨5, by omega, by go_num, O4, B4⟩, by simp [intOf]⟩
    · go_wp2_with (first
        | (at_mapUpdate; refine wpList_mapUpdate_own _ rfl _ _ _ 65 rfl 9 3 klaw Tryd.underlying65 _ w.heap.size _ _ rfl own (by decide) _ _ _ rfl rfl (kkey (by decide)) _ [] (plainElem_int Tryd.underlying3 (by decide)) ?_)
        | go_in)
      intro w4 own4 g4
      clear i0 i1 i2 i3 i4 i5 own
      have B4 := Aside0.mk (B.out.grown g4 B.out.size (fun j hj => by cases hj; exact Nat.le_refl _))
      have O4 : Aside0 (w4.ownsMap Tryd.prog 9 (plainElem (H := Nat) Tryd.prog 3) w.heap.size (3 + 6) (mk 6)) := ⟨own4⟩
      clear own4 g4
      go_wp2
      exact ⟨⟨6, by omega, by go_num, O4, B4⟩, by simp [intOf]⟩
    · clear i0 i1 i2 i3 i4 i5 own
      go_wp2
      go_ret
      exact ⟨rfl, O.out, B.out⟩

theorem pn_map {D : (DataW Nat)} (h : IsMap D) (k : ByteArray) (n : Int) : IsMap (pn D k n) := by
  obtain ⟨es, rfl⟩ := h
  exact ⟨_, rfl⟩
theorem at_pn {D : (DataW Nat)} (hD : IsMap D) (k s : ByteArray) (n : Int) (z : (DataW Nat)) : (pn D k n).atKey (.string s.data.toList) z = if s = k then .lit (.int .i64 n) else D.atKey (.string s.data.toList) z := by
  by_cases h : s = k
  · subst h
    rw [if_pos rfl]
    exact atKey_put_same (k := .string s.data.toList) hD trivial _ _
  · rw [if_neg h]
    refine atKey_put_other (fun e => h ?_) _ _
    injection e with e
    exact ByteArray.ext (Array.toList_inj.mp e)

def GET : ByteArray := ⟨#[71, 69, 84]⟩
def HEAD : ByteArray := ⟨#[72, 69, 65, 68]⟩
def OPTIONS : ByteArray := ⟨#[79, 80, 84, 73, 79, 78, 83]⟩
def kindOf (s : ByteArray) : Int := if s = ⟨#[67, 79, 78, 78, 69, 67, 84]⟩ then 4 else if s = ⟨#[84, 82, 65, 67, 69]⟩ then 4 else if s = ⟨#[80, 65, 84, 67, 72]⟩ then 4 else if s = ⟨#[68, 69, 76, 69, 84, 69]⟩ then 4 else if s = ⟨#[80, 85, 84]⟩ then 4 else if s = ⟨#[80, 79, 83, 84]⟩ then 4 else if s = OPTIONS then 3 else if s = HEAD then 2 else if s = GET then 1 else 0

theorem at_mk6 (s : ByteArray) : (mk 6).atKey (.string s.data.toList) (.lit (.int .i64 0)) = .lit (.int .i64 (kindOf s)) := by
  have h0 : IsMap (.map [] : (DataW Nat)) := ⟨_, rfl⟩
  have e : mk 6 = pn (pn (pn (pn (pn (pn m3 ⟨#[80, 79, 83, 84]⟩ 4) ⟨#[80, 85, 84]⟩ 4) ⟨#[68, 69, 76, 69, 84, 69]⟩ 4) ⟨#[80, 65, 84, 67, 72]⟩ 4) ⟨#[84, 82, 65, 67, 69]⟩ 4) ⟨#[67, 79, 78, 78, 69, 67, 84]⟩ 4 := rfl
  have m : IsMap m3 := pn_map (pn_map (pn_map h0 _ _) _ _) _ _
  rw [e, at_pn (pn_map (pn_map (pn_map (pn_map (pn_map m _ _) _ _) _ _) _ _) _ _), at_pn (pn_map (pn_map (pn_map (pn_map m _ _) _ _) _ _) _ _), at_pn (pn_map (pn_map (pn_map m _ _) _ _) _ _), at_pn (pn_map (pn_map m _ _) _ _), at_pn (pn_map m _ _), at_pn m]
  unfold m3
  rw [at_pn (pn_map (pn_map h0 _ _) _ _), at_pn (pn_map h0 _ _), at_pn h0]
  unfold kindOf GET HEAD OPTIONS
  repeat' split
  all_goals rfl

set_option maxHeartbeats 4000000 in
theorem kind_small (s : ByteArray) (w : World) (hL : Laid w) (hs : s.size ≤ maxLen) : Calls Tryd.prog 41 #[.string s] w fun e w' => e = .returned (.int .i64 (kindOf s)) ∧ Below w.heap.size w w' := by
  have HL := Aside0.mk hL
  have HS := Aside0.mk hs
  clear hL hs
  go_enter Tryd.func41, Tryd.ntmps41
  go_wp2_with (fail)
  refine (kinds_any _ HL.out).mono ?_
  rintro e w1 ⟨rfl, own, B⟩
  go_wp2_with (first
    | (at_lookup; refine wpList_lookup_own_int _ rfl _ _ 65 rfl 9 3 .i64 klaw Tryd.underlying65 Tryd.underlying3 (zero3 _) w.heap.size 9 (mk 6) rfl own _ _ rfl (kkey HS.out) ?_)
    | go_in)
  intro c hat hwc
  have hc : c = kindOf s := by
    rw [at_mk6] at hat
    injection hat with h
    injection h with h1 h2
    exact h2.symm
  clear hat hwc own
  subst hc
  go_wp2
  go_ret
  exact ⟨rfl, B⟩

theorem kindOf_big (s : ByteArray) (h : ¬ s.size ≤ maxLen) : kindOf s = 0 := by
  unfold kindOf
  repeat' split
  all_goals first | rfl | (rename_i e; subst e; exact absurd (by decide) h)

theorem lookup_big {w : World} {b n : Nat} {D : (DataW Nat)} (hown : w.ownsMap Tryd.prog 9 (plainElem (H := Nat) Tryd.prog 3) b n D) (s : ByteArray) (h : ¬ s.size ≤ maxLen) :
    (Instr.lookup 65 (.map (some b)) (.string s) false).run Tryd.prog w = .ok (.int .i64 0) w := by
  obtain ⟨es, clock, hb, F, _, _⟩ := hown
  have hks : ∀ x ∈ es.toList, MapKept.IsKey .string x.key := fun x hxm => by
    obtain ⟨l, hl⟩ := F.keys x hxm
    obtain ⟨s', e, _, _⟩ := WideMaps.string_of_keyOf Tryd.underlying9 hl
    rw [e]
    trivial
  rcases MapKept.findNow_spec (d := .string) (k := .string s) trivial es.toList 0 hks with ⟨h1, h2⟩ | ⟨j, e0, h1, h2, h3⟩
  · have hf := MapKept.run_findKey (w := w) Tryd.underlying9 h1
    have hc := MapKept.run_checkKey (w := w) (k := .string s) Tryd.underlying9 trivial es.isEmpty 9999
    simp [Instr.lookup, run_underlying Tryd.underlying65, MapKept.run_getObj_map hb, hc, hf, zero3, Result.andThen]
  · exfalso
    obtain ⟨l, hl⟩ := F.keys e0 (List.mem_of_getElem? h2)
    obtain ⟨s', e, _, h4⟩ := WideMaps.string_of_keyOf Tryd.underlying9 hl
    rw [h3] at e
    injection e with e
    subst e
    exact h h4

set_option maxHeartbeats 4000000 in
theorem kind_any (s : ByteArray) (w : World) (hL : Laid w) : Calls Tryd.prog 41 #[.string s] w fun e w' => e = .returned (.int .i64 (kindOf s)) ∧ Below w.heap.size w w' := by
  by_cases hs : s.size ≤ maxLen
  · exact kind_small s w hL hs
  · have HZ := Aside0.mk (kindOf_big s hs)
    have HL := Aside0.mk hL
    have HS := Aside0.mk hs
    clear hL hs
    go_enter Tryd.func41, Tryd.ntmps41
    go_wp2_with (fail)
    refine (kinds_any _ HL.out).mono ?_
    rintro e w1 ⟨rfl, own, B⟩
    have hrun := lookup_big own s HS.out
    clear own
    go_wp2
    go_ret
    exact ⟨by simp [HZ.out], B⟩

end Go.Proofs.YtjapmlfjlojbeaaDoor.PA
