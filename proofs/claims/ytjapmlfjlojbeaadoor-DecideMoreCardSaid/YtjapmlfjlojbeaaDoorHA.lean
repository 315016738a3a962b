/- The awake of layer 22, walked: it returns true. Conditions: those of the contract's statement. -/
import Derived.Test.YtjapmlfjlojbeaaDoorPCa
import Derived.Test.YtjapmlfjlojbeaaDoorHQ
import Derived.Test.YtjapmlfjlojbeaaDoorPBa
namespace Go.Proofs.YtjapmlfjlojbeaaDoor.PA
open Go.RowKit Go.Proofs.YtjapmlfjlojbeaaDoorW.PrintWords Go.Proofs.YtjapmlfjlojbeaaDoorW.PrintLast Go.Proofs.YtjapmlfjlojbeaaDoorW.PrintMore
set_option linter.unusedVariables false
set_option linter.unusedSimpArgs false

theorem C_blk {α : Type} {d : Kd α} {w : World} {b : Nat} {cs : Array Value} {t : TypeId} {fr : Nat × Nat} (hb : w.heap[b]? = some (.cells cs t fr)) (xs : List α) (hl : xs.length ≤ 9223372036854775807)
    (h : ∀ (j : Nat) (p : α), xs[j]? = some p → ∃ c : List Value, c.length = d.sz ∧ d.K w p c ∧ ∀ (i : Nat) (u : Value), c[i]? = some u → cs[j * d.sz + i]? = some u) : Kd.C d w (some ⟨b, 0, none⟩) xs.length xs := by
  refine ⟨rfl, hl, fun _ => ⟨_, rfl, fun j p hj => ?_⟩⟩
  obtain ⟨c, h1, h2, h3⟩ := h j p hj
  refine ⟨c, h1, h2, fun i u hu => ?_⟩
  have e : (Addr.mk b 0 none).add (j * d.sz + i) = ⟨b, j * d.sz + i, none⟩ := by simp [Addr.add]; omega
  rw [e, cell_of_row w b _ cs t fr hb]
  exact h3 i u hu

def bA : ByteArray := ⟨#[97]⟩
def bB : ByteArray := ⟨#[98]⟩
def gStar : S39 := ⟨⟨#[42]⟩, true, false⟩
def r0 : S30 := ⟨[], [], false, ⟨#[48]⟩⟩
def r1 : S30 := ⟨[bA], [], false, ⟨#[49]⟩⟩
def r2 : S30 := ⟨[bA, bB], [gStar], false, ⟨#[50]⟩⟩

theorem C_str1 {w : World} {b : Nat} {t : TypeId} {fr : Nat × Nat} {x : ByteArray} (hb : w.heap[b]? = some (.cells #[.string x] t fr)) : Kd.C Kd.string w (some ⟨b, 0, none⟩) [x].length [x] :=
  C_blk hb [x] (by simp) (fun j p hj => by
    rcases j with _ | j
    · simp at hj; subst hj; exact ⟨[.string x], rfl, rfl, fun i u hu => by rcases i with _ | i <;> first | exact hu | (simp at hu)⟩
    · simp at hj)
theorem C_str2 {w : World} {b : Nat} {t : TypeId} {fr : Nat × Nat} {x y : ByteArray} (hb : w.heap[b]? = some (.cells #[.string x, .string y] t fr)) : Kd.C Kd.string w (some ⟨b, 0, none⟩) [x, y].length [x, y] :=
  C_blk hb [x, y] (by simp) (fun j p hj => by
    rcases j with _ | _ | j
    · simp at hj; subst hj; exact ⟨[.string x], rfl, rfl, fun i u hu => by rcases i with _ | i <;> first | exact hu | (simp at hu)⟩
    · simp at hj; subst hj; exact ⟨[.string y], rfl, rfl, fun i u hu => by rcases i with _ | i <;> first | exact hu | (simp at hu)⟩
    · simp at hj)
theorem C_str3 {w : World} {b : Nat} {t : TypeId} {fr : Nat × Nat} {x y z : ByteArray} (hb : w.heap[b]? = some (.cells #[.string x, .string y, .string z] t fr)) : Kd.C Kd.string w (some ⟨b, 0, none⟩) [x, y, z].length [x, y, z] :=
  C_blk hb [x, y, z] (by simp) (fun j p hj => by
    rcases j with _ | _ | _ | j
    · simp at hj; subst hj; exact ⟨[.string x], rfl, rfl, fun i u hu => by rcases i with _ | i <;> first | exact hu | (simp at hu)⟩
    · simp at hj; subst hj; exact ⟨[.string y], rfl, rfl, fun i u hu => by rcases i with _ | i <;> first | exact hu | (simp at hu)⟩
    · simp at hj; subst hj; exact ⟨[.string z], rfl, rfl, fun i u hu => by rcases i with _ | i <;> first | exact hu | (simp at hu)⟩
    · simp at hj)
theorem C_grant1 {w : World} {b : Nat} {t : TypeId} {fr : Nat × Nat} {x : S39} (hb : w.heap[b]? = some (.cells #[.string x.f0, .bool x.f1, .bool x.f2] t fr)) : Kd.C k39 w (some ⟨b, 0, none⟩) [x].length [x] :=
  C_blk hb [x] (by simp) (fun j p hj => by
    rcases j with _ | j
    · simp at hj; subst hj; exact ⟨_, rfl, k39_mk w x, fun i u hu => by rcases i with _ | _ | _ | i <;> first | exact hu | (simp at hu)⟩
    · simp at hj)

/-- The rules that awake makes. -/
theorem C_rules {w : World} {b0 b1 b2 b3 : Nat} {t0 t1 t2 t3 : TypeId} {f0 f1 f2 f3 : Nat × Nat} (h0 : w.heap[b0]? = some (.cells #[.string bA] t0 f0)) (h1 : w.heap[b1]? = some (.cells #[.string bA, .string bB] t1 f1)) (h2 : w.heap[b2]? = some (.cells #[.string ⟨#[42]⟩, .bool true, .bool false] t2 f2))
    (h3 : w.heap[b3]? = some (.cells #[.slice none 0 0, .slice none 0 0, .bool false, .string ⟨#[48]⟩, .slice (some ⟨b0, 0, none⟩) 1 1, .slice none 0 0, .bool false, .string ⟨#[49]⟩, .slice (some ⟨b1, 0, none⟩) 2 2, .slice (some ⟨b2, 0, none⟩) 1 1, .bool false, .string ⟨#[50]⟩] t3 f3)) :
    Kd.C k30 w (some ⟨b3, 0, none⟩) [r0, r1, r2].length [r0, r1, r2] :=
  C_blk h3 [r0, r1, r2] (by simp) (fun j p hj => by
    rcases j with _ | _ | _ | j
    · simp at hj; subst hj
      exact ⟨_, rfl, k30_mk w r0 (c0 := 0) (Nat.le_refl _) (Kd.C_nil _ _) (c1 := 0) (Nat.le_refl _) (Kd.C_nil _ _), fun i u hu => by rcases i with _ | _ | _ | _ | i <;> first | exact hu | (simp at hu)⟩
    · simp at hj; subst hj
      exact ⟨_, rfl, k30_mk w r1 (c0 := 1) (Nat.le_refl _) (C_str1 h0) (c1 := 0) (Nat.le_refl _) (Kd.C_nil _ _), fun i u hu => by rcases i with _ | _ | _ | _ | i <;> first | exact hu | (simp at hu)⟩
    · simp at hj; subst hj
      exact ⟨_, rfl, k30_mk w r2 (c0 := 2) (Nat.le_refl _) (C_str2 h1) (c1 := 1) (Nat.le_refl _) (C_grant1 (x := gStar) h2), fun i u hu => by rcases i with _ | _ | _ | _ | i <;> first | exact hu | (simp at hu)⟩
    · simp at hj)

theorem b5 (w : World) (o0 o1 o2 o3 o4 : Obj) : Below w.heap.size w (((((w.alloc o0).alloc o1).alloc o2).alloc o3).alloc o4) ∧ (((((w.alloc o0).alloc o1).alloc o2).alloc o3).alloc o4).heap[w.heap.size]? = some o0 ∧ (((((w.alloc o0).alloc o1).alloc o2).alloc o3).alloc o4).heap[w.heap.size + 1]? = some o1 ∧
    (((((w.alloc o0).alloc o1).alloc o2).alloc o3).alloc o4).heap[w.heap.size + 1 + 1]? = some o2 ∧ (((((w.alloc o0).alloc o1).alloc o2).alloc o3).alloc o4).heap[w.heap.size + 1 + 1 + 1]? = some o3 ∧ (((((w.alloc o0).alloc o1).alloc o2).alloc o3).alloc o4).heap[w.heap.size + 1 + 1 + 1 + 1]? = some o4 := by
  refine ⟨below_alloc (below_alloc (below_alloc (below_alloc (below_alloc (Below.refl _ _) _) _) _) _) _, blk_alloc (blk_alloc (blk_alloc (blk_alloc (blk_new _ _) _) _) _) _, ?_, ?_, ?_, ?_⟩
  · have h := blk_alloc (blk_alloc (blk_alloc (blk_new (w.alloc o0) o1) o2) o3) o4
    rwa [World.size_alloc] at h
  · have h := blk_alloc (blk_alloc (blk_new ((w.alloc o0).alloc o1) o2) o3) o4
    rwa [World.size_alloc, World.size_alloc] at h
  · have h := blk_alloc (blk_new (((w.alloc o0).alloc o1).alloc o2) o3) o4
    rwa [World.size_alloc, World.size_alloc, World.size_alloc] at h
  · have h := blk_new ((((w.alloc o0).alloc o1).alloc o2).alloc o3) o4
    rwa [World.size_alloc, World.size_alloc, World.size_alloc, World.size_alloc] at h

theorem m_abc : mval [r0, r1, r2] [bA, bB, ⟨#[99]⟩] = r2 := rfl
theorem m_a : mval [r0, r1, r2] [bA] = r1 := rfl
theorem m_ab2 : mval [r0, r1, r2] [bA, bB] = r2 := rfl
def bX : ByteArray := ⟨#[120]⟩
theorem ap1 : acl_Applies.f ⟨#[42]⟩ false false bX = some true := by
  rw [appl_f ⟨⟨#[42]⟩, false, false⟩, appl_star, bX, bl]
  rfl
theorem ap2 : acl_Applies.f ⟨#[42]⟩ false false ⟨#[]⟩ = some false := by
  rw [appl_f ⟨⟨#[42]⟩, false, false⟩, appl_star, bl]
  rfl
theorem star_x : appl gStar bX = true := by
  rw [gStar, appl_star, bX, bl]
  rfl
theorem star_e : appl gStar ⟨#[]⟩ = false := by
  rw [gStar, appl_star, bl]
  rfl
theorem g_x : granted [gStar] bX GET = true := by rw [granted_get]; simp [star_x]; rfl
theorem g_e : granted [gStar] ⟨#[]⟩ GET = false := by rw [granted_get]; simp [star_e]
theorem g_xo : granted [gStar] bX OPTIONS = true := by rw [granted_options]; simp [star_x]; exact .inl rfl
theorem g_xh : granted [gStar] bX HEAD = false := by rw [granted_head]; simp [star_x]; rfl
theorem ms_x : meths [gStar] bX = [GET, OPTIONS] := by simp [meths, g_x, g_xo, g_xh]
theorem m_ab : mval [r0, r1, r2] [⟨#[97, 98]⟩] = r0 := rfl

theorem field3 (v0 v1 v2 v3 : Value) (w : World) : (Instr.field 30 (.agg #[v0, v1, v2, v3]) 3).run Tryd.prog w = .ok v3 w := by kernel_rfl

def doorkeeperlaw22_awake.f : Option Bool := some true

set_option maxHeartbeats 8000000 in
theorem doorkeeperlaw22_awake.calls (r : Bool) (w : World) (h : doorkeeperlaw22_awake.f = some r) (hL : Laid w) :
    Calls Tryd.prog 12 #[] w fun e w' => e = .returned (.bool r) ∧ Below w.heap.size w w' := by
  obtain rfl := Option.some.inj h
  clear h
  have hu := Tryd.underlying30
  have hu39 := Tryd.underlying39
  have HL := Aside0.mk hL
  clear hL
  go_enter Tryd.func12, Tryd.ntmps12
  go_wp2_with (fail)
  obtain ⟨hb, n0, n1, n2, n3, n4⟩ := b5 w (.cells #[.string bA] 9) (.cells #[.string bA, .string bB] 9) (.cells #[.string ⟨#[42]⟩, .bool true, .bool false] 39)
    (.cells #[.slice none 0 0, .slice none 0 0, .bool false, .string ⟨#[48]⟩, .slice (some ⟨w.heap.size, 0, none⟩) 1 1, .slice none 0 0, .bool false, .string ⟨#[49]⟩, .slice (some ⟨w.heap.size + 1, 0, none⟩) 2 2, .slice (some ⟨w.heap.size + 1 + 1, 0, none⟩) 1 1, .bool false, .string ⟨#[50]⟩] 30)
    (.cells #[.string bA, .string bB, .string ⟨#[99]⟩] 9)
  have CR := Aside0.mk (C_rules n0 n1 n2 n3)
  have CP := Aside0.mk (C_str3 n4)
  have HB := Aside0.mk hb
  clear hb n0 n1 n2 n3 n4
  have KB := Aside0.mk (Kd.C_F k30_heap CR.out)
  refine (match_any _ 3 [r0, r1, r2] w.heap.size _ _ 3 [bA, bB, ⟨#[99]⟩] _ (Kd.V_mk (by decide) KB.out) (fun _ h => h) CP.out (by decide)).mono ?_
  rw [m_abc, show r2.f3 = ⟨#[50]⟩ from rfl, show r2.f2 = false from rfl]
  rintro e W ⟨v0, v1, rfl, hrv, hbW⟩
  obtain ⟨X0, C0, X1, C1, rfl, rfl, hX0, kX0, hX1, kX1⟩ := hrv.slices
  have HW := Aside0.mk (below_step HB.out hbW)
  have CRW := Aside0.mk (Kd.C_below CR.out hbW)
  have KX0 := Aside0.mk kX0
  have KX1 := Aside0.mk kX1
  clear CR CP HB KB hbW hrv kX0 kX1
  have z1 : ((⟨#[50]⟩ : ByteArray).toList == [50]) = true := by rw [bl]; rfl
  go_wp2_with (fail)
  have h1 := below_alloc (Below.refl W.heap.size W) (.cells #[.slice X0 r2.f0.length C0, .slice X1 r2.f1.length C1, .bool false, .string ⟨#[50]⟩] 30)
  have h2 := below_alloc h1 (.cells #[.string ⟨#[97, 98]⟩] 9)
  have BR := Aside0.mk (blk_alloc (blk_new W (.cells #[.slice X0 r2.f0.length C0, .slice X1 r2.f1.length C1, .bool false, .string ⟨#[50]⟩] 30)) (.cells #[.string ⟨#[97, 98]⟩] 9))
  have n5 := blk_new (W.alloc (.cells #[.slice X0 r2.f0.length C0, .slice X1 r2.f1.length C1, .bool false, .string ⟨#[50]⟩] 30)) (.cells #[.string ⟨#[97, 98]⟩] 9)
  rw [World.size_alloc] at n5
  have CR := Aside0.mk (Kd.C_below CRW.out h2)
  have CP := Aside0.mk (C_str1 n5)
  have KX0a := Aside0.mk (Kd.C_below KX0.out h2)
  have KX1a := Aside0.mk (Kd.C_below KX1.out h2)
  have HB := Aside0.mk (below_step HW.out h2)
  have KB := Aside0.mk (Kd.C_F k30_heap CR.out)
  clear h1 h2 n5 HW CRW KX0 KX1
  refine (match_any _ 3 [r0, r1, r2] w.heap.size _ _ 1 [⟨#[97, 98]⟩] _ (Kd.V_mk (by decide) KB.out) (fun _ h => h) CP.out (by decide)).mono ?_
  rw [m_ab, show r0.f3 = ⟨#[48]⟩ from rfl, show r0.f2 = false from rfl]
  rintro e W2 ⟨v0, v1, rfl, hrv, hbW⟩
  obtain ⟨Y0, D0, Y1, D1, rfl, rfl, _, _, _, _⟩ := hrv.slices
  have BR2 := Aside0.mk (blk_below BR.out hbW)
  have CR2 := Aside0.mk (Kd.C_below CR.out hbW)
  have KX02 := Aside0.mk (Kd.C_below KX0a.out hbW)
  have KX12 := Aside0.mk (Kd.C_below KX1a.out hbW)
  have HB2 := Aside0.mk (below_step HB.out hbW)
  clear hbW hrv BR CR CP KX0a KX1a HB KB z1
  have z2 : ((⟨#[48]⟩ : ByteArray).toList == [48]) = true := by rw [bl]; rfl
  have fl := field3 (.slice Y0 r0.f0.length D0) (.slice Y1 r0.f1.length D1) (.bool false) (.string ⟨#[48]⟩) W2
  go_wp2_with (fail)
  clear fl
  refine (acl_Applies.calls ⟨#[42]⟩ false false bX true _ ap1).mono ?_
  rintro e W3 ⟨rfl, hbW⟩
  have BR3 := Aside0.mk (blk_below BR2.out hbW)
  have CR3 := Aside0.mk (Kd.C_below CR2.out hbW)
  have KX03 := Aside0.mk (Kd.C_below KX02.out hbW)
  have KX13 := Aside0.mk (Kd.C_below KX12.out hbW)
  have HB3 := Aside0.mk (below_step HB2.out hbW)
  clear hbW BR2 CR2 KX02 KX12 HB2
  clear z2
  go_wp2_with (fail)
  refine (acl_Applies.calls ⟨#[42]⟩ false false ⟨#[]⟩ false _ ap2).mono ?_
  rintro e W4 ⟨rfl, hbW⟩
  have BR4 := Aside0.mk (blk_below BR3.out hbW)
  have CR4 := Aside0.mk (Kd.C_below CR3.out hbW)
  have KX04 := Aside0.mk (Kd.C_below KX03.out hbW)
  have KX14 := Aside0.mk (Kd.C_below KX13.out hbW)
  have HB4 := Aside0.mk (below_step HB3.out hbW)
  clear hbW BR3 CR3 KX03 KX13 HB3
  have q0 : W4.cell? ⟨W.heap.size, 0, none⟩ = some (.slice X0 r2.f0.length C0) := (blk_cell BR4.out 0).trans rfl
  have q1 : W4.cell? ⟨W.heap.size, 1, none⟩ = some (.slice X1 r2.f1.length C1) := (blk_cell BR4.out 1).trans rfl
  have q2 : W4.cell? ⟨W.heap.size, 2, none⟩ = some (.bool false) := (blk_cell BR4.out 2).trans rfl
  have q3 : W4.cell? ⟨W.heap.size, 3, none⟩ = some (.string ⟨#[50]⟩) := (blk_cell BR4.out 3).trans rfl
  go_wp2_with (fail)
  refine (granted_any X0 C0 r2.f0 X1 C1 r2.f1 false ⟨#[50]⟩ bX GET _ KX14.out (HL.out.below HB4.out)).mono ?_
  rw [show granted r2.f1 bX GET = true from g_x]
  rintro e W5 ⟨rfl, hbW⟩
  clear q0 q1 q2 q3
  have BR5 := Aside0.mk (blk_below BR4.out hbW)
  have CR5 := Aside0.mk (Kd.C_below CR4.out hbW)
  have KX05 := Aside0.mk (Kd.C_below KX04.out hbW)
  have KX15 := Aside0.mk (Kd.C_below KX14.out hbW)
  have HB5 := Aside0.mk (below_step HB4.out hbW)
  clear hbW BR4 CR4 KX04 KX14 HB4
  have q0 : W5.cell? ⟨W.heap.size, 0, none⟩ = some (.slice X0 r2.f0.length C0) := (blk_cell BR5.out 0).trans rfl
  have q1 : W5.cell? ⟨W.heap.size, 1, none⟩ = some (.slice X1 r2.f1.length C1) := (blk_cell BR5.out 1).trans rfl
  have q2 : W5.cell? ⟨W.heap.size, 2, none⟩ = some (.bool false) := (blk_cell BR5.out 2).trans rfl
  have q3 : W5.cell? ⟨W.heap.size, 3, none⟩ = some (.string ⟨#[50]⟩) := (blk_cell BR5.out 3).trans rfl
  go_wp2_with (fail)
  refine (granted_any X0 C0 r2.f0 X1 C1 r2.f1 false ⟨#[50]⟩ ⟨#[]⟩ GET _ KX15.out (HL.out.below HB5.out)).mono ?_
  rw [show granted r2.f1 ⟨#[]⟩ GET = false from g_e]
  rintro e W6 ⟨rfl, hbW⟩
  clear q0 q1 q2 q3
  have BR6 := Aside0.mk (blk_below BR5.out hbW)
  have CR6 := Aside0.mk (Kd.C_below CR5.out hbW)
  have KX06 := Aside0.mk (Kd.C_below KX05.out hbW)
  have KX16 := Aside0.mk (Kd.C_below KX15.out hbW)
  have HB6 := Aside0.mk (below_step HB5.out hbW)
  clear hbW BR5 CR5 KX05 KX15 HB5
  have q0 : W6.cell? ⟨W.heap.size, 0, none⟩ = some (.slice X0 r2.f0.length C0) := (blk_cell BR6.out 0).trans rfl
  have q1 : W6.cell? ⟨W.heap.size, 1, none⟩ = some (.slice X1 r2.f1.length C1) := (blk_cell BR6.out 1).trans rfl
  have q2 : W6.cell? ⟨W.heap.size, 2, none⟩ = some (.bool false) := (blk_cell BR6.out 2).trans rfl
  have q3 : W6.cell? ⟨W.heap.size, 3, none⟩ = some (.string ⟨#[50]⟩) := (blk_cell BR6.out 3).trans rfl
  go_wp2_with (fail)
  refine (acl_Methods.calls 4 X0 C0 r2.f0 X1 C1 r2.f1 false ⟨#[50]⟩ bX _ _ KX06.out hX0 KX16.out hX1 (aMeths 0 _ _ _ _ _) (HL.out.below HB6.out)).mono ?_
  rw [show meths r2.f1 bX = [GET, OPTIONS] from ms_x]
  rintro e W7 ⟨v0, rfl, hr7, hbW⟩
  clear q0 q1 q2 q3
  obtain ⟨Z0, E0, rfl⟩ := Kd.R_slice hr7
  have hr7' := Kd.R_reads' hr7
  have BR7 := Aside0.mk (blk_below BR6.out hbW)
  have CR7 := Aside0.mk (Kd.C_below CR6.out hbW)
  have KX07 := Aside0.mk (Kd.C_below KX06.out hbW)
  have KX17 := Aside0.mk (Kd.C_below KX16.out hbW)
  have HB7 := Aside0.mk (below_step HB6.out hbW)
  clear hbW BR6 CR6 KX06 KX16 HB6
  go_wp2_with (fail)
  have n7 := blk_new W7 (.cells #[.string GET, .string OPTIONS] 9)
  have hb7 := below_alloc (Below.refl W7.heap.size W7) (.cells #[.string GET, .string OPTIONS] 9)
  refine (texts_n Z0 E0 2 [GET, OPTIONS] _ 2 2 [GET, OPTIONS] _ (Kd.C_below hr7'.2.2 hb7) hr7'.2.1 (C_str2 n7) (by decide)).mono ?_
  rw [decide_eq_true rfl]
  rintro e W8 ⟨rfl, nd, hW8⟩
  have hbW : Below W7.heap.size W7 W8 := by rw [← hW8]; exact pw_below_drewN hb7 nd
  clear hW8 n7 hb7 hr7 hr7'
  have CR8 := Aside0.mk (Kd.C_below CR7.out hbW)
  have HB8 := Aside0.mk (below_step HB7.out hbW)
  clear hbW BR7 CR7 KX07 KX17 HB7
  go_wp2_with (fail)
  have n8 := blk_new W8 (.cells #[.string bA, .string bB] 9)
  have hb8 := below_alloc (Below.refl W8.heap.size W8) (.cells #[.string bA, .string bB] 9)
  refine (acl_Readable.calls 0 _ 3 [r0, r1, r2] _ 2 [bA, bB] bX true _ (Kd.C_below CR8.out hb8) (by decide) (C_str2 n8) (by decide) ((aRead _ _ _ _).trans (by rw [m_ab2]; exact congrArg some g_xo)) (HL.out.below (below_step HB8.out hb8))).mono ?_
  rintro e W9 ⟨rfl, hbW⟩
  have hb9 := below_step hb8 hbW
  have CR9 := Aside0.mk (Kd.C_below CR8.out hb9)
  have HB9 := Aside0.mk (below_step HB8.out hb9)
  clear hbW hb9 hb8 n8 CR8 HB8
  go_wp2_with (fail)
  have n9 := blk_new W9 (.cells #[.string bA] 9)
  have hb9 := below_alloc (Below.refl W9.heap.size W9) (.cells #[.string bA] 9)
  refine (acl_Readable.calls 0 _ 3 [r0, r1, r2] _ 1 [bA] bX false _ (Kd.C_below CR9.out hb9) (by decide) (C_str1 n9) (by decide) ((aRead _ _ _ _).trans (by rw [m_a]; rfl)) (HL.out.below (below_step HB9.out hb9))).mono ?_
  rintro e W10 ⟨rfl, hbW⟩
  have HB10 := Aside0.mk (below_step (below_step HB9.out hb9) hbW)
  clear hbW hb9 n9 CR9 HB9
  go_wp2
  go_ret
  exact ⟨rfl, HB10.out⟩
end Go.Proofs.YtjapmlfjlojbeaaDoor.PA
