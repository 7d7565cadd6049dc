/- Contracts of functions that the proof uses, shared by the claims of this seat; no statement of its own. Part 30. No conditions. -/
import Derived.Test.YtcfbdeghmckelaaGreatJW20
import Derived.Test.YtcfbdeghmckelaaGreatJW21
set_option linter.all false
namespace Go.Proofs.YtcfbdeghmckelaaGreat
open Go.RowKit
set_option maxRecDepth 100000
set_option linter.unusedVariables false
set_option linter.unusedSimpArgs false
set_option maxHeartbeats 2000000
def flatI {α : Type} (f : Int → List α) (a : Int) (n : Nat) : List α := (List.range n).flatMap fun (k : Nat) => f (a + k)
theorem flatI_add {α : Type} (f : Int → List α) (a : Int) (n k : Nat) : flatI f a (n + k) = flatI f a n ++ flatI f (a + n) k := by
  unfold flatI
  rw [List.range_add, List.flatMap_append, List.flatMap_map]
  congr 1
  exact flat_congr fun i _ => by rw [show a + ((n + i : Nat) : Int) = a + n + i by omega]
def fitsB (ls : List Lim) (m : List Mov) (r : Req) : Bool := (movsL r).all fun o => !decide (roomL ls m o < 1)
theorem chkReq_at {r : Req} (h : chkReq r = 0) {n : Int} (h0 : 0 ≤ n) (h1 : n ≤ 1439) : chkReq (r.at n) = 0 := by
  have hm := (chkReq_0 h).2
  have e : rng n 0 1439 = rng r.minute 0 1439 := by rw [rng_0.2 ⟨h0, h1⟩, rng_0.2 hm]
  unfold chkReq at h ⊢
  simp only [Req.at, e]; exact h
def freS (p : Int → Bool) (a : Int) (k : Nat) : List Int := (List.range k).flatMap fun (j : Nat) => if p (a + j) then [a + j] else []
theorem freS_next (p : Int → Bool) (a : Int) (k : Nat) : freS p a (k + 1) = freS p a k ++ if p (a + k) then [a + k] else [] := by rw [freS, range_next, ← freS]
theorem freS_len (p : Int → Bool) (a : Int) (k : Nat) : (freS p a k).length ≤ k := by
  induction k with
  | zero => simp [freS]
  | succ k ih => rw [freS_next, List.length_append]; split <;> simp <;> omega
def freL (ls : List Lim) (m : List Mov) (r : Req) (a b : Int) : List Int := freS (fun n => fitsB ls m (r.at n)) a (b - a + 1).toNat
def nearStep (x : Int) (a : Int × Int) (f : Int) : Int × Int := (if f ≤ x then f else a.1, if x ≤ f ∧ a.2 < 0 then f else a.2)
def nearF (L : List Int) (x : Int) : Int × Int := L.foldl (nearStep x) (-1, -1)
abbrev pair (a : Int × Int) : PV := .agg [.i .i64 a.1, .i .i64 a.2]
end Go.Proofs.YtcfbdeghmckelaaGreat
