/- Contracts of functions that the proof uses, shared by the claims of this seat; no statement of its own. Part 34. No conditions. -/
import Derived.Test.YtcfbdeghmckelaaGreatJR3
import Derived.Test.YtcfbdeghmckelaaGreatJW21
set_option linter.all false
namespace Go.Proofs.YtcfbdeghmckelaaGreat
open Go.RowKit
set_option maxRecDepth 100000
set_option linter.unusedVariables false
set_option linter.unusedSimpArgs false
set_option maxHeartbeats 4000000
theorem flat_const {α β : Type} {f : α → List β} {c : Nat} : ∀ {l : List α}, (∀ x ∈ l, (f x).length = c) → (l.flatMap f).length = l.length * c
  | [], _ => by simp
  | x :: r, h => by
    have h1 := h x (by simp)
    have h2 := flat_const (l := r) fun y hy => h y (by simp [hy])
    simp only [List.flatMap_cons, List.length_append, List.length_cons, Nat.succ_mul]; omega
theorem windows_card {l : Lim} (h : chkLim l = 0) : ((windowsL l).length : Int) = limN l := by
  rw [windows_eq h, limN, if_pos h, flat_const (c := begN l) (fun d _ => by simp [begK])]
  rw [Int.natCast_mul, Int.mul_comm]
theorem exc_short {ls : List Lim} {m : List Mov} {n : Int} (hc : chkLims ls = 0) (hs : shLims ls n = true) : (excW ls m).length ≤ 400 := by
  have hl := chkLims_0 hc
  have hk : ∀ k, k ≤ ls.length → ((excK ls m k).length : Int) ≤ sumK ls k := by
    intro k
    induction k with
    | zero => intro _; simp [excK, sumK]
    | succ k ih =>
      intro hk
      have hx := List.getElem?_eq_getElem (l := ls) (i := k) (by omega)
      have h1 := hl.2 _ (List.mem_of_getElem? hx)
      rw [sumK_next hx, excK, range_next, List.length_append, ← excK, excI, hx]
      have h2 : (excL m k ls[k]).length ≤ (windowsL ls[k]).length * 1 := flat_le fun b _ => by unfold excB; split <;> simp
      have h3 := windows_card h1
      have h4 := ih (by omega)
      simp only
      omega
  have := hk ls.length (Nat.le_refl _)
  unfold shLims at hs
  simp only [Bool.and_eq_true, decide_eq_true_eq] at hs
  unfold excW
  omega
end Go.Proofs.YtcfbdeghmckelaaGreat
