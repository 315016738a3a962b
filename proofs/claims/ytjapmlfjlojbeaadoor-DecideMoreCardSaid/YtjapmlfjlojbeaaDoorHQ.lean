/- What both Methods return, in plain words; facts about the constants that awake hands over. No conditions. -/
import Derived.Test.YtjapmlfjlojbeaaDoorPCa
import Derived.Test.YtjapmlfjlojbeaaDoorPCb
import Derived.Test.YtjapmlfjlojbeaaDoorPBf
import Derived.Test.YtjapmlfjlojbeaaDoorPBe
namespace Go.Proofs.YtjapmlfjlojbeaaDoor.PA
open Go.RowKit Go.Proofs.YtjapmlfjlojbeaaDoorW.PrintWords Go.Proofs.YtjapmlfjlojbeaaDoorW.PrintLast Go.Proofs.YtjapmlfjlojbeaaDoorW.PrintMore
set_option linter.unusedVariables false
set_option linter.unusedSimpArgs false

def meths (l : List S39) (s : ByteArray) : List ByteArray := [GET, HEAD, OPTIONS].filter (granted l s)

theorem aMeths (k : Nat) (l0 : List ByteArray) (l1 : List S39) (b : Bool) (rl s : ByteArray) : acl_Methods.f (k + 4) l0 l1 b rl s = some (meths l1 s) := by
  unfold acl_Methods.f meths
  simp only [Option.bind_some]
  have e0 : rdOf ByteArray.empty [(⟨#[71, 69, 84]⟩ : ByteArray), (⟨#[72, 69, 65, 68]⟩ : ByteArray), (⟨#[79, 80, 84, 73, 79, 78, 83]⟩ : ByteArray)] 0 = GET := rfl
  have e1 : rdOf ByteArray.empty [(⟨#[71, 69, 84]⟩ : ByteArray), (⟨#[72, 69, 65, 68]⟩ : ByteArray), (⟨#[79, 80, 84, 73, 79, 78, 83]⟩ : ByteArray)] 1 = HEAD := rfl
  have e2 : rdOf ByteArray.empty [(⟨#[71, 69, 84]⟩ : ByteArray), (⟨#[72, 69, 65, 68]⟩ : ByteArray), (⟨#[79, 80, 84, 73, 79, 78, 83]⟩ : ByteArray)] 2 = OPTIONS := rfl
  have w0 : wrap64 1 = 1 := w64 (by decide) (by decide)
  have w1 : wrap64 2 = 2 := w64 (by decide) (by decide)
  have w2 : wrap64 3 = 3 := w64 (by decide) (by decide)
  simp only [List.filter]
  cases h0 : granted l1 s GET <;> cases h1 : granted l1 s HEAD <;> cases h2 : granted l1 s OPTIONS <;> simp [acl_Methods.l0, acl_Granted.f, w0, w1, w2, e0, e1, e2, h0, h1, h2]

theorem rMeths (k : Nat) (l0 : List ByteArray) (l1 : List S39) (b : Bool) (rl s : ByteArray) : doorkeeperref22_Methods.f (k + 4) l0 l1 b rl s = some (meths l1 s) := by
  unfold doorkeeperref22_Methods.f meths
  have e0 : rdOf ByteArray.empty [(⟨#[71, 69, 84]⟩ : ByteArray), (⟨#[72, 69, 65, 68]⟩ : ByteArray), (⟨#[79, 80, 84, 73, 79, 78, 83]⟩ : ByteArray)] 0 = GET := rfl
  have e1 : rdOf ByteArray.empty [(⟨#[71, 69, 84]⟩ : ByteArray), (⟨#[72, 69, 65, 68]⟩ : ByteArray), (⟨#[79, 80, 84, 73, 79, 78, 83]⟩ : ByteArray)] 1 = HEAD := rfl
  have e2 : rdOf ByteArray.empty [(⟨#[71, 69, 84]⟩ : ByteArray), (⟨#[72, 69, 65, 68]⟩ : ByteArray), (⟨#[79, 80, 84, 73, 79, 78, 83]⟩ : ByteArray)] 2 = OPTIONS := rfl
  have w0 : wrap64 1 = 1 := w64 (by decide) (by decide)
  have w1 : wrap64 2 = 2 := w64 (by decide) (by decide)
  have w2 : wrap64 3 = 3 := w64 (by decide) (by decide)
  simp only [List.filter]
  cases h0 : granted l1 s GET <;> cases h1 : granted l1 s HEAD <;> cases h2 : granted l1 s OPTIONS <;> simp [doorkeeperref22_Methods.l0, doorkeeperref22_Granted.f, w0, w1, w2, e0, e1, e2, h0, h1, h2]

theorem aRead (k : Nat) (l : List S30) (p : List ByteArray) (s : ByteArray) : acl_Readable.f k l p s = some (granted (mval l p).f1 s OPTIONS) := rfl

theorem granted_get (l : List S39) (s : ByteArray) : granted l s GET = l.any fun x => appl x s && x.f1 := rfl
theorem granted_head (l : List S39) (s : ByteArray) : granted l s HEAD = l.any fun x => appl x s && x.f2 := rfl
theorem granted_options (l : List S39) (s : ByteArray) : granted l s OPTIONS = l.any fun x => appl x s && (x.f1 || x.f2) := rfl
theorem granted_or (l : List S39) (s : ByteArray) : granted l s OPTIONS = (granted l s GET || granted l s HEAD) := by
  rw [granted_get, granted_head, granted_options]
  induction l with
  | nil => rfl
  | cons x l ih =>
    simp only [List.any_cons, ih]
    cases appl x s <;> cases x.f1 <;> cases x.f2 <;> simp

theorem rRead (k : Nat) (l : List S30) (p : List ByteArray) (s : ByteArray) : doorkeeperref22_Readable.f k l p s = some (granted (mval l p).f1 s OPTIONS) := by
  rw [granted_or]
  unfold doorkeeperref22_Readable.f
  simp only [doorkeeperref22_Match.f, doorkeeperref22_Granted.f, Option.bind_some]
  show (if granted (mval l p).f1 s GET = true then some true else some (granted (mval l p).f1 s HEAD)) = _
  cases granted (mval l p).f1 s GET <;> rfl

theorem bl (a : Array UInt8) : (⟨a⟩ : ByteArray).toList = a.toList := ByteArray.toList_eq _
theorem appl_star (g h : Bool) (s : ByteArray) : appl ⟨⟨#[42]⟩, g, h⟩ s = (s.toList != []) := by
  unfold appl
  simp only [bl]
  rw [if_neg (by decide), if_pos trivial]
end Go.Proofs.YtjapmlfjlojbeaaDoor.PA
