/- Contracts of functions that the proof uses, shared by the claims of this seat; no statement of its own. Part 42. No conditions. -/
import Derived.Test.YtcfbdeghmckelaaGreatJW21
import Derived.Test.YtcfbdeghmckelaaGreatJP1
import Derived.Test.YtcfbdeghmckelaaGreatJP5
set_option linter.all false
namespace Go.Proofs.YtcfbdeghmckelaaGreat
open Go.RowKit
set_option maxRecDepth 100000
set_option linter.unusedVariables false
set_option linter.unusedSimpArgs false
set_option maxHeartbeats 2000000
theorem atL_mem (n : ByteArray) : ∀ l : List ByteArray, 0 ≤ atL n l ↔ n ∈ l
  | [] => by simp [atL]
  | x :: r => by
    have ih := atL_mem n r
    have := atL_ge n r
    simp only [atL, List.mem_cons]
    by_cases h : x = n
    · rw [if_pos h]; exact ⟨fun _ => .inl h.symm, fun _ => by omega⟩
    · rw [if_neg h]
      by_cases h2 : atL n r < 0
      · rw [if_pos h2]; exact ⟨fun h3 => by omega, fun h3 => h3.elim (fun e => absurd e.symm h) fun e => by have := ih.2 e; omega⟩
      · rw [if_neg h2]; exact ⟨fun _ => .inr (ih.1 (by omega)), fun _ => by omega⟩
abbrev names (l : List Lim) : List ByteArray := l.map Lim.name
theorem chkLims_iff {l : List Lim} : chkLims l = 0 ↔ l.length ≤ 32 ∧ (∀ x ∈ l, chkLim x = 0) ∧ (names l).Nodup := by
  have key : ∀ (i : Nat) (x : Lim), limErr l i x = 0 ↔ chkLim x = 0 ∧ x.name ∉ names (l.take i) := fun i x => by
    unfold limErr
    rw [firstE_cons, firstE_cons, ite_eq0 (show (9 : Int) ≠ 0 by decide), atL_mem]
    exact ⟨fun h => ⟨h.1, h.2.1⟩, fun h => ⟨h.1, h.2, rfl⟩⟩
  constructor
  · intro h
    have h0 := chkLims_0 h
    rw [chkLims, if_neg (by omega)] at h
    refine ⟨h0.1, h0.2, ?_⟩
    unfold List.Nodup names
    rw [List.pairwise_map, List.pairwise_iff_getElem]
    intro i j hi hj hij e
    have := firstE_mem h (limErr l j l[j]) (List.mem_of_getElem? (i := j) (by simp [limErrs, List.getElem?_mapIdx, hj]))
    refine ((key j l[j]).1 this).2 ?_
    rw [← e]
    exact List.mem_map_of_mem (List.mem_of_getElem? (i := i) (by rw [List.getElem?_take, if_pos hij, List.getElem?_eq_getElem hi]))
  · intro ⟨h1, h2, h3⟩
    rw [chkLims, if_neg (by omega)]
    refine firstE_all fun e he => ?_
    obtain ⟨j, hj⟩ := List.getElem?_of_mem he
    simp only [limErrs, List.getElem?_mapIdx, Option.map_eq_some_iff] at hj
    obtain ⟨x, hx, rfl⟩ := hj
    refine (key j x).2 ⟨h2 x (List.mem_of_getElem? hx), fun hm => ?_⟩
    obtain ⟨y, hy, e⟩ := List.mem_map.1 hm
    obtain ⟨i, hi⟩ := List.getElem?_of_mem hy
    rw [List.getElem?_take] at hi
    split at hi
    · rename_i hij
      unfold List.Nodup names at h3
      rw [List.pairwise_map, List.pairwise_iff_getElem] at h3
      obtain ⟨a1, a2⟩ := List.getElem?_eq_some_iff.1 hi
      obtain ⟨b1, b2⟩ := List.getElem?_eq_some_iff.1 hx
      exact h3 i j a1 b1 hij (by rw [a2, b2]; exact e)
    · cases hi
end Go.Proofs.YtcfbdeghmckelaaGreat
