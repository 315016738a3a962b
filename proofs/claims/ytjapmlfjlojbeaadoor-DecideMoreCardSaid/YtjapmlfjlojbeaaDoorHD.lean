/- The awake of layer 23, walked: it returns true. Conditions: those of the contract's statement. -/
import Derived.Test.YtjapmlfjlojbeaaDoorHA
import Derived.Test.YtjapmlfjlojbeaaDoorHB
import Derived.Test.YtjapmlfjlojbeaaDoorHN
namespace Go.Proofs.YtjapmlfjlojbeaaDoor.PA
open Go.RowKit Go.Proofs.YtjapmlfjlojbeaaDoorW.PrintWords Go.Proofs.YtjapmlfjlojbeaaDoorW.PrintLast Go.Proofs.YtjapmlfjlojbeaaDoorW.PrintMore
set_option linter.unusedVariables false
set_option linter.unusedSimpArgs false

def ann : ByteArray := ⟨#[97, 110, 110]⟩
def POST : ByteArray := ⟨#[80, 79, 83, 84]⟩
def rx : S30 := ⟨[], [gStar], false, bX⟩
theorem C_rule1 {w : World} {b : Nat} {t : TypeId} {fr : Nat × Nat} {c0 c1 : Nat} {A0 A1 : Option Addr} {x : S30} (hb : w.heap[b]? = some (.cells #[.slice A0 x.f0.length c0, .slice A1 x.f1.length c1, .bool x.f2, .string x.f3] t fr)) (h0 : x.f0.length ≤ c0) (r0 : Kd.C Kd.string w A0 x.f0.length x.f0) (h1 : x.f1.length ≤ c1) (r1 : Kd.C k39 w A1 x.f1.length x.f1) : Kd.C k30 w (some ⟨b, 0, none⟩) [x].length [x] :=
  C_blk hb [x] (by simp) (fun j p hj => by
    rcases j with _ | j
    · simp at hj; subst hj; exact ⟨_, rfl, k30_mk w x h0 r0 h1 r1, fun i u hu => by rcases i with _ | _ | _ | _ | i <;> first | exact hu | (simp at hu)⟩
    · simp at hj)
theorem star_ann : appl gStar ann = true := by
  rw [gStar, appl_star, ann, bl]
  rfl
theorem g_ann : granted [gStar] ann GET = true := by rw [granted_get]; simp [star_ann]; rfl
theorem g_anno : granted [gStar] ann OPTIONS = true := by rw [granted_options]; simp [star_ann]; exact .inl rfl
theorem g_annh : granted [gStar] ann HEAD = false := by rw [granted_head]; simp [star_ann]; rfl
theorem ms_ann : meths [gStar] ann = [GET, OPTIONS] := by simp [meths, g_ann, g_anno, g_annh]
theorem g_eo : granted [gStar] ⟨#[]⟩ OPTIONS = false := by rw [granted_options]; simp [star_e]
theorem g_eh : granted [gStar] ⟨#[]⟩ HEAD = false := by rw [granted_head]; simp [star_e]
theorem ms_e : meths [gStar] ⟨#[]⟩ = [] := by simp [meths, g_e, g_eo, g_eh]
theorem g_post (l : List S39) (s : ByteArray) : granted l s POST = false := rfl
theorem by1 : byv [gStar] false bX ann POST = (4, [GET, OPTIONS], ⟨#[]⟩) := by
  unfold byv
  rw [g_post, ms_ann]
  rfl
theorem by2 : byv [gStar] false bX ⟨#[]⟩ POST = (2, [], bX) := by
  unfold byv
  rw [g_post, ms_e, bl]
  rfl
theorem m_x : mval [rx] [] = rx := rfl
theorem for1 : byv [gStar] false bX ann GET = (1, [GET, OPTIONS], ⟨#[]⟩) := by
  unfold byv
  rw [g_ann, ms_ann]
  rfl

theorem for1' : byv (mval [rx] []).f1 (mval [rx] []).f2 (mval [rx] []).f3 ann GET = (1, [GET, OPTIONS], ⟨#[]⟩) := by
  rw [m_x]
  exact for1
theorem sees1 : granted (mval [rx] []).f1 ann OPTIONS = true := by
  rw [m_x]
  exact g_anno
theorem sees2 : granted (mval [rx] []).f1 ⟨#[]⟩ OPTIONS = false := by
  rw [m_x]
  exact g_eo
theorem name3 : decide_Name.f 3 = some ⟨#[104, 105, 100, 101]⟩ := rfl
theorem name9 : decide_Name.f 9 = some ⟨#[]⟩ := rfl

theorem fd44_0 (v0 v1 v2 : Value) (w : World) : (Instr.field 44 (.agg #[v0, v1, v2]) 0).run Tryd.prog w = .ok v0 w := by kernel_rfl

def doorkeeperlaw23_awake.f : Option Bool := some true

set_option maxHeartbeats 8000000 in
theorem doorkeeperlaw23_awake.calls (r : Bool) (w : World) (h : doorkeeperlaw23_awake.f = some r) (hL : LaidD w) :
    Calls Tryd.prog 26 #[] w fun e w' => e = .returned (.bool r) ∧ Below w.heap.size w w' := by
  obtain rfl := Option.some.inj h
  clear h
  have hu := Tryd.underlying30
  have hu39 := Tryd.underlying39
  have hu44 := Tryd.underlying44
  have hu50 := Tryd.underlying50
  have HL := Aside0.mk hL
  clear hL
  have hb0 := below_alloc (below_alloc (Below.refl w.heap.size w) (.cells #[.string ⟨#[42]⟩, .bool true, .bool false] 39)) (.cells #[.slice none 0 0, .slice (some ⟨w.heap.size, 0, none⟩) 1 1, .bool false, .string bX] 30)
  have n0 := blk_alloc (blk_new w (.cells #[.string ⟨#[42]⟩, .bool true, .bool false] 39)) (.cells #[.slice none 0 0, .slice (some ⟨w.heap.size, 0, none⟩) 1 1, .bool false, .string bX] 30)
  have n1 := blk_new (w.alloc (.cells #[.string ⟨#[42]⟩, .bool true, .bool false] 39)) (.cells #[.slice none 0 0, .slice (some ⟨w.heap.size, 0, none⟩) 1 1, .bool false, .string bX] 30)
  rw [World.size_alloc] at n1
  have KG0 := Aside0.mk (C_grant1 (x := gStar) n0)
  have BR0 := Aside0.mk n1
  have HB0 := Aside0.mk hb0
  clear hb0 n0 n1
  go_enter Tryd.func26, Tryd.ntmps26
  go_wp2_with (fail)
  refine (decide_By.calls 4 none 0 [] (some ⟨w.heap.size, 0, none⟩) 1 [gStar] false bX ann POST 4 [GET, OPTIONS] ⟨#[]⟩ _ (Kd.C_nil _ _) (Nat.le_refl _) KG0.out (by decide) ((aBy 0 _ _ _ _ _ _).trans (congrArg some by1)) (HL.out.1.below HB0.out)).mono ?_
  rintro e W1 ⟨v1, rfl, hr1, hb⟩
  obtain ⟨Z0, E0, rfl⟩ := Kd.R_slice hr1
  obtain ⟨_, hz, cz⟩ := Kd.R_reads' hr1
  have BR1 := Aside0.mk (blk_below BR0.out hb)
  have KG1 := Aside0.mk (Kd.C_below KG0.out hb)
  have HB1 := Aside0.mk (below_step HB0.out hb)
  have CZ1 := Aside0.mk cz
  clear hb hr1 cz BR0 KG0 HB0
  have ha := below_alloc (Below.refl W1.heap.size W1) (.cells #[.int .i64 4, .slice Z0 2 E0, .string ⟨#[]⟩] 44)
  have BA2 := Aside0.mk (blk_new W1 (.cells #[.int .i64 4, .slice Z0 2 E0, .string ⟨#[]⟩] 44))
  have BR2 := Aside0.mk (blk_below BR1.out ha)
  have KG2 := Aside0.mk (Kd.C_below KG1.out ha)
  have CZ2 := Aside0.mk (Kd.C_below CZ1.out ha)
  have HB2 := Aside0.mk (below_step HB1.out ha)
  have q0 : (W1.alloc (.cells #[.int .i64 4, .slice Z0 2 E0, .string ⟨#[]⟩] 44)).cell? ⟨w.heap.size + 1, 0, none⟩ = some (.slice none 0 0) := (blk_cell BR2.out 0).trans rfl
  have q1 : (W1.alloc (.cells #[.int .i64 4, .slice Z0 2 E0, .string ⟨#[]⟩] 44)).cell? ⟨w.heap.size + 1, 1, none⟩ = some (.slice (some ⟨w.heap.size, 0, none⟩) 1 1) := (blk_cell BR2.out 1).trans rfl
  have q2 : (W1.alloc (.cells #[.int .i64 4, .slice Z0 2 E0, .string ⟨#[]⟩] 44)).cell? ⟨w.heap.size + 1, 2, none⟩ = some (.bool false) := (blk_cell BR2.out 2).trans rfl
  have q3 : (W1.alloc (.cells #[.int .i64 4, .slice Z0 2 E0, .string ⟨#[]⟩] 44)).cell? ⟨w.heap.size + 1, 3, none⟩ = some (.string bX) := (blk_cell BR2.out 3).trans rfl
  clear ha BR1 KG1 CZ1 HB1
  go_wp2_with (fail)
  clear q0 q1 q2 q3
  refine (decide_By.calls 4 none 0 [] (some ⟨w.heap.size, 0, none⟩) 1 [gStar] false bX ⟨#[]⟩ POST 2 [] bX _ (Kd.C_nil _ _) (Nat.le_refl _) KG2.out (by decide) ((aBy 0 _ _ _ _ _ _).trans (congrArg some by2)) (HL.out.1.below HB2.out)).mono ?_
  rintro e W3 ⟨v3, rfl, hr3, hb⟩
  obtain ⟨Y0, D0, rfl⟩ := Kd.R_slice hr3
  have BA3 := Aside0.mk (blk_below BA2.out hb)
  have BR3 := Aside0.mk (blk_below BR2.out hb)
  have KG3 := Aside0.mk (Kd.C_below KG2.out hb)
  have CZ3 := Aside0.mk (Kd.C_below CZ2.out hb)
  have HB3 := Aside0.mk (below_step HB2.out hb)
  clear hb hr3 BA2 BR2 KG2 CZ2 HB2
  have hb3 := below_alloc (Below.refl W3.heap.size W3) (.cells #[.int .i64 2, .slice Y0 0 D0, .string bX] 44)
  have BB4 := Aside0.mk (blk_new W3 (.cells #[.int .i64 2, .slice Y0 0 D0, .string bX] 44))
  have BA4 := Aside0.mk (blk_below BA3.out hb3)
  have BR4 := Aside0.mk (blk_below BR3.out hb3)
  have KG4 := Aside0.mk (Kd.C_below KG3.out hb3)
  have CZ4 := Aside0.mk (Kd.C_below CZ3.out hb3)
  have HB4 := Aside0.mk (below_step HB3.out hb3)
  clear hb3 BA3 BR3 KG3 CZ3 HB3
  have q0 : (W3.alloc (.cells #[.int .i64 2, .slice Y0 0 D0, .string bX] 44)).cell? ⟨w.heap.size + 1, 0, none⟩ = some (.slice none 0 0) := (blk_cell BR4.out 0).trans rfl
  have q1 : (W3.alloc (.cells #[.int .i64 2, .slice Y0 0 D0, .string bX] 44)).cell? ⟨w.heap.size + 1, 1, none⟩ = some (.slice (some ⟨w.heap.size, 0, none⟩) 1 1) := (blk_cell BR4.out 1).trans rfl
  have q2 : (W3.alloc (.cells #[.int .i64 2, .slice Y0 0 D0, .string bX] 44)).cell? ⟨w.heap.size + 1, 2, none⟩ = some (.bool false) := (blk_cell BR4.out 2).trans rfl
  have q3 : (W3.alloc (.cells #[.int .i64 2, .slice Y0 0 D0, .string bX] 44)).cell? ⟨w.heap.size + 1, 3, none⟩ = some (.string bX) := (blk_cell BR4.out 3).trans rfl
  have r5 := blk_new ((W3.alloc (.cells #[.int .i64 2, .slice Y0 0 D0, .string bX] 44))) (.cells #[.slice none 0 0, .slice (some ⟨w.heap.size, 0, none⟩) 1 1, .bool false, .string bX] 30)
  have h5 := blk_new (((W3.alloc (.cells #[.int .i64 2, .slice Y0 0 D0, .string bX] 44))).alloc (.cells #[.slice none 0 0, .slice (some ⟨w.heap.size, 0, none⟩) 1 1, .bool false, .string bX] 30)) (.cells #[.slice none 0 0, .slice none 0 0, .slice (some ⟨W3.heap.size + 1, 0, none⟩) 1 1] 50)
  have k5 := below_alloc (below_alloc (Below.refl ((W3.alloc (.cells #[.int .i64 2, .slice Y0 0 D0, .string bX] 44))).heap.size ((W3.alloc (.cells #[.int .i64 2, .slice Y0 0 D0, .string bX] 44)))) (.cells #[.slice none 0 0, .slice (some ⟨w.heap.size, 0, none⟩) 1 1, .bool false, .string bX] 30)) (.cells #[.slice none 0 0, .slice none 0 0, .slice (some ⟨W3.heap.size + 1, 0, none⟩) 1 1] 50)
  have r5' := blk_alloc r5 (.cells #[.slice none 0 0, .slice none 0 0, .slice (some ⟨W3.heap.size + 1, 0, none⟩) 1 1] 50)
  rw [World.size_alloc] at r5'
  rw [World.size_alloc, World.size_alloc] at h5
  have BA5 := Aside0.mk (blk_below BA4.out k5)
  have BB5 := Aside0.mk (blk_below BB4.out k5)
  have KG5 := Aside0.mk (Kd.C_below KG4.out k5)
  have CZ5 := Aside0.mk (Kd.C_below CZ4.out k5)
  have HB5 := Aside0.mk (below_step HB4.out k5)
  have KR5 := Aside0.mk (C_rule1 (x := rx) r5' (Nat.le_refl _) (Kd.C_nil _ _) (by decide) KG5.out)
  have BH5 := Aside0.mk h5
  clear r5 h5 k5 r5' BA4 BB4 BR4 KG4 CZ4 HB4
  have a0 : (((W3.alloc (.cells #[.int .i64 2, .slice Y0 0 D0, .string bX] 44)).alloc (.cells #[.slice none 0 0, .slice (some ⟨w.heap.size, 0, none⟩) 1 1, .bool false, .string bX] 30)).alloc (.cells #[.slice none 0 0, .slice none 0 0, .slice (some ⟨W3.heap.size + 1, 0, none⟩) 1 1] 50)).cell? ⟨W1.heap.size, 0, none⟩ = some (.int .i64 4) := (blk_cell BA5.out 0).trans rfl
  have a1 : (((W3.alloc (.cells #[.int .i64 2, .slice Y0 0 D0, .string bX] 44)).alloc (.cells #[.slice none 0 0, .slice (some ⟨w.heap.size, 0, none⟩) 1 1, .bool false, .string bX] 30)).alloc (.cells #[.slice none 0 0, .slice none 0 0, .slice (some ⟨W3.heap.size + 1, 0, none⟩) 1 1] 50)).cell? ⟨W1.heap.size, 1, none⟩ = some (.slice Z0 2 E0) := (blk_cell BA5.out 1).trans rfl
  go_wp2_with (fail)
  clear a0 a1 q0 q1 q2 q3
  have n6 := blk_new ((((W3.alloc (.cells #[.int .i64 2, .slice Y0 0 D0, .string bX] 44)).alloc (.cells #[.slice none 0 0, .slice (some ⟨w.heap.size, 0, none⟩) 1 1, .bool false, .string bX] 30)).alloc (.cells #[.slice none 0 0, .slice none 0 0, .slice (some ⟨W3.heap.size + 1, 0, none⟩) 1 1] 50))) (.cells #[.string GET, .string OPTIONS] 9)
  rw [World.size_alloc, World.size_alloc, World.size_alloc] at n6
  have hb6 := below_alloc (Below.refl ((((W3.alloc (.cells #[.int .i64 2, .slice Y0 0 D0, .string bX] 44)).alloc (.cells #[.slice none 0 0, .slice (some ⟨w.heap.size, 0, none⟩) 1 1, .bool false, .string bX] 30)).alloc (.cells #[.slice none 0 0, .slice none 0 0, .slice (some ⟨W3.heap.size + 1, 0, none⟩) 1 1] 50))).heap.size ((((W3.alloc (.cells #[.int .i64 2, .slice Y0 0 D0, .string bX] 44)).alloc (.cells #[.slice none 0 0, .slice (some ⟨w.heap.size, 0, none⟩) 1 1, .bool false, .string bX] 30)).alloc (.cells #[.slice none 0 0, .slice none 0 0, .slice (some ⟨W3.heap.size + 1, 0, none⟩) 1 1] 50)))) (.cells #[.string GET, .string OPTIONS] 9)
  refine (texts_n Z0 E0 2 [GET, OPTIONS] _ 2 2 [GET, OPTIONS] _ (Kd.C_below CZ5.out hb6) hz (C_str2 n6) (by decide)).mono ?_
  rw [decide_eq_true rfl]
  rintro e W7 ⟨rfl, nd, hW7⟩
  have hbW : Below ((((W3.alloc (.cells #[.int .i64 2, .slice Y0 0 D0, .string bX] 44)).alloc (.cells #[.slice none 0 0, .slice (some ⟨w.heap.size, 0, none⟩) 1 1, .bool false, .string bX] 30)).alloc (.cells #[.slice none 0 0, .slice none 0 0, .slice (some ⟨W3.heap.size + 1, 0, none⟩) 1 1] 50))).heap.size ((((W3.alloc (.cells #[.int .i64 2, .slice Y0 0 D0, .string bX] 44)).alloc (.cells #[.slice none 0 0, .slice (some ⟨w.heap.size, 0, none⟩) 1 1, .bool false, .string bX] 30)).alloc (.cells #[.slice none 0 0, .slice none 0 0, .slice (some ⟨W3.heap.size + 1, 0, none⟩) 1 1] 50))) W7 := by rw [← hW7]; exact pw_below_drewN hb6 nd
  have BB7 := Aside0.mk (blk_below BB5.out hbW)
  have BH7 := Aside0.mk (blk_below BH5.out hbW)
  have KR7 := Aside0.mk (Kd.C_below KR5.out hbW)
  have HB7 := Aside0.mk (below_step HB5.out hbW)
  clear hW7 hbW hb6 n6 BA5 BB5 KG5 CZ5 HB5 KR5 BH5
  have b0 : W7.cell? ⟨W3.heap.size, 0, none⟩ = some (.int .i64 2) := (blk_cell BB7.out 0).trans rfl
  have b2 : W7.cell? ⟨W3.heap.size, 2, none⟩ = some (.string bX) := (blk_cell BB7.out 2).trans rfl
  have h0 : W7.cell? ⟨W3.heap.size + 1 + 1, 0, none⟩ = some (.slice none 0 0) := (blk_cell BH7.out 0).trans rfl
  have h1 : W7.cell? ⟨W3.heap.size + 1 + 1, 1, none⟩ = some (.slice none 0 0) := (blk_cell BH7.out 1).trans rfl
  have h2 : W7.cell? ⟨W3.heap.size + 1 + 1, 2, none⟩ = some (.slice (some ⟨W3.heap.size + 1, 0, none⟩) 1 1) := (blk_cell BH7.out 2).trans rfl
  have zx : (bX.toList == [120]) = true := by rw [bX, bl]; rfl
  go_wp2_with (fail)
  clear b0 b2 h0 h1 h2 zx
  refine (decide_For.calls 4 none 0 [] none 0 [] (some ⟨W3.heap.size + 1, 0, none⟩) 1 [rx] none 0 [] ann GET 1 [GET, OPTIONS] ⟨#[]⟩ _ (Kd.C_nil _ _) (Nat.le_refl _) (Kd.C_nil _ _) (Nat.le_refl _) KR7.out (by decide) (Kd.C_nil _ _) (Nat.le_refl _) ((aFor 0 _ _ _ _ _ _).trans (congrArg some for1')) (HL.out.1.below HB7.out)).mono ?_
  rintro e W8 ⟨v8, rfl, hr8, hb⟩
  obtain ⟨Q0, F0, rfl⟩ := Kd.R_slice hr8
  have BH8 := Aside0.mk (blk_below BH7.out hb)
  have KR8 := Aside0.mk (Kd.C_below KR7.out hb)
  have HB8 := Aside0.mk (below_step HB7.out hb)
  clear hb hr8 BB7 BH7 KR7 HB7
  have h0 : W8.cell? ⟨W3.heap.size + 1 + 1, 0, none⟩ = some (.slice none 0 0) := (blk_cell BH8.out 0).trans rfl
  have h1 : W8.cell? ⟨W3.heap.size + 1 + 1, 1, none⟩ = some (.slice none 0 0) := (blk_cell BH8.out 1).trans rfl
  have h2 : W8.cell? ⟨W3.heap.size + 1 + 1, 2, none⟩ = some (.slice (some ⟨W3.heap.size + 1, 0, none⟩) 1 1) := (blk_cell BH8.out 2).trans rfl
  have fl := fd44_0 (.int .i64 1) (.slice Q0 2 F0) (.string ⟨#[]⟩) W8
  go_wp2_with (fail)
  clear h0 h1 h2 fl
  refine (decide_Sees.calls 0 none 0 [] none 0 [] (some ⟨W3.heap.size + 1, 0, none⟩) 1 [rx] none 0 [] ann true _ (Kd.C_nil _ _) (Nat.le_refl _) (Kd.C_nil _ _) (Nat.le_refl _) KR8.out (by decide) (Kd.C_nil _ _) (Nat.le_refl _) ((aSees _ _ _ _ _ _).trans (congrArg some sees1)) (HL.out.1.below HB8.out)).mono ?_
  rintro e W9 ⟨rfl, hb⟩
  have BH9 := Aside0.mk (blk_below BH8.out hb)
  have KR9 := Aside0.mk (Kd.C_below KR8.out hb)
  have HB9 := Aside0.mk (below_step HB8.out hb)
  clear hb BH8 KR8 HB8
  have h0 : W9.cell? ⟨W3.heap.size + 1 + 1, 0, none⟩ = some (.slice none 0 0) := (blk_cell BH9.out 0).trans rfl
  have h1 : W9.cell? ⟨W3.heap.size + 1 + 1, 1, none⟩ = some (.slice none 0 0) := (blk_cell BH9.out 1).trans rfl
  have h2 : W9.cell? ⟨W3.heap.size + 1 + 1, 2, none⟩ = some (.slice (some ⟨W3.heap.size + 1, 0, none⟩) 1 1) := (blk_cell BH9.out 2).trans rfl
  go_wp2_with (fail)
  clear h0 h1 h2
  refine (decide_Sees.calls 0 none 0 [] none 0 [] (some ⟨W3.heap.size + 1, 0, none⟩) 1 [rx] none 0 [] ⟨#[]⟩ false _ (Kd.C_nil _ _) (Nat.le_refl _) (Kd.C_nil _ _) (Nat.le_refl _) KR9.out (by decide) (Kd.C_nil _ _) (Nat.le_refl _) ((aSees _ _ _ _ _ _).trans (congrArg some sees2)) (HL.out.1.below HB9.out)).mono ?_
  rintro e W10 ⟨rfl, hb⟩
  have HB10 := Aside0.mk (below_step HB9.out hb)
  clear hb BH9 KR9 HB9
  go_wp2_with (fail)
  refine (decide_Name.calls 3 ⟨#[104, 105, 100, 101]⟩ _ name3 (HL.out.2.below HB10.out)).mono ?_
  rintro e W11 ⟨rfl, hd⟩
  have HB11 := Aside0.mk (below_step HB10.out hd.below)
  clear hd HB10
  have z3 : ((⟨#[104, 105, 100, 101]⟩ : ByteArray).toList == [104, 105, 100, 101]) = true := by rw [bl]; rfl
  go_wp2_with (fail)
  clear z3
  refine (decide_Name.calls 9 ⟨#[]⟩ _ name9 (HL.out.2.below HB11.out)).mono ?_
  rintro e W12 ⟨rfl, hd⟩
  have HB12 := Aside0.mk (below_step HB11.out hd.below)
  clear hd HB11
  have z4 : ((⟨#[]⟩ : ByteArray).toList == []) = true := by rw [bl]; rfl
  go_wp2
  go_ret
  exact ⟨by simp [bl], HB12.out⟩
end Go.Proofs.YtjapmlfjlojbeaaDoor.PA
