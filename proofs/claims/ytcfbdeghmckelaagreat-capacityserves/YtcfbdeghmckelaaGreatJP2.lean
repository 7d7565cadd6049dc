/- Contracts of functions that the proof uses, shared by the claims of this seat; no statement of its own. Part 36. No conditions. -/
import Derived.Test.YtcfbdeghmckelaaGreatJW20
set_option linter.all false
namespace Go.Proofs.YtcfbdeghmckelaaGreat
open Go.RowKit
set_option maxRecDepth 100000
set_option linter.unusedVariables false
set_option linter.unusedSimpArgs false
set_option maxHeartbeats 2000000
def Win.add (k : Int) (w : Win) : Win := ⟨w.lim, w.beg, w.cnt + k⟩
theorem roomK_char (ls : List Lim) : ∀ (W : List Win) (a : Int), (W.foldl (roomStep ls) a ≤ a ∧ ∀ w ∈ W, W.foldl (roomStep ls) a ≤ max 0 (mostAt ls w.lim - w.cnt)) ∧ (W.foldl (roomStep ls) a = a ∨ ∃ w ∈ W, W.foldl (roomStep ls) a = max 0 (mostAt ls w.lim - w.cnt))
  | [], a => ⟨⟨Int.le_refl _, fun w hw => by cases hw⟩, .inl rfl⟩
  | x :: r, a => by
    obtain ⟨⟨h1, h2⟩, h3⟩ := roomK_char ls r (roomStep ls a x)
    rw [List.foldl_cons]
    have e : roomStep ls a x = min a (max 0 (mostAt ls x.lim - x.cnt)) := rfl
    refine ⟨⟨by omega, fun w hw => ?_⟩, ?_⟩
    · rcases List.mem_cons.1 hw with rfl | hw
      · omega
      · exact h2 w hw
    · rcases h3 with h3 | ⟨w, hw, h3⟩
      · by_cases c : a ≤ max 0 (mostAt ls x.lim - x.cnt)
        · exact .inl (by omega)
        · exact .inr ⟨x, by simp, by omega⟩
      · exact .inr ⟨w, by simp [hw], h3⟩
end Go.Proofs.YtcfbdeghmckelaaGreat
