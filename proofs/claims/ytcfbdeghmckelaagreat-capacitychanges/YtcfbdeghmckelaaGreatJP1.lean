/- Contracts of functions that the proof uses, shared by the claims of this seat; no statement of its own. Part 33. No conditions. -/
import Derived.Test.YtcfbdeghmckelaaGreatJW5
set_option linter.all false
namespace Go.Proofs.YtcfbdeghmckelaaGreat
open Go.RowKit
set_option maxRecDepth 100000
set_option linter.unusedVariables false
set_option linter.unusedSimpArgs false
set_option maxHeartbeats 2000000
def insAt (bef : Mov → Mov → Bool) (x : Mov) (out : List Mov) : Nat → Nat
  | 0 => 0
  | n + 1 => match out[n]? with
    | some y => if bef x y then insAt bef x out n else n + 1
    | none => n + 1
def insM (bef : Mov → Mov → Bool) (out : List Mov) (x : Mov) : List Mov := out.take (insAt bef x out out.length) ++ x :: out.drop (insAt bef x out out.length)
def mergeM (bef : Mov → Mov → Bool) (a b : List Mov) : List Mov := (a ++ b).foldl (insM bef) []
theorem insM_perm (bef : Mov → Mov → Bool) (out : List Mov) (x : Mov) : (insM bef out x).Perm (x :: out) := by
  unfold insM
  refine List.perm_middle.trans ?_
  rw [List.take_append_drop]
theorem foldl_perm (bef : Mov → Mov → Bool) : ∀ (l out : List Mov), (l.foldl (insM bef) out).Perm (out ++ l)
  | [], out => by simp
  | x :: l, out => by
    refine (foldl_perm bef l (insM bef out x)).trans ?_
    refine ((insM_perm bef out x).append_right l).trans ?_
    simpa using (List.perm_middle (a := x) (l₁ := out) (l₂ := l)).symm
theorem merge_perm (bef : Mov → Mov → Bool) (a b : List Mov) : (mergeM bef a b).Perm (a ++ b) := by
  simpa [mergeM] using foldl_perm bef (a ++ b) []
theorem firstE_all {l : List Int} (h : ∀ x ∈ l, x = 0) : firstE l = 0 := by
  induction l with
  | nil => rfl
  | cons x r ih => exact firstE_cons.2 ⟨h x (by simp), ih fun y hy => h y (by simp [hy])⟩
end Go.Proofs.YtcfbdeghmckelaaGreat
