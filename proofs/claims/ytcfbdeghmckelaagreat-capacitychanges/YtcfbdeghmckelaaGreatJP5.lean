/- Contracts of functions that the proof uses, shared by the claims of this seat; no statement of its own. Part 41. No conditions. -/
import Derived.Test.YtcfbdeghmckelaaGreatJW1
set_option linter.all false
namespace Go.Proofs.YtcfbdeghmckelaaGreat
open Go.RowKit
set_option maxRecDepth 100000
set_option linter.unusedVariables false
set_option linter.unusedSimpArgs false
set_option maxHeartbeats 2000000
theorem firstE_mem : ∀ {l : List Int}, firstE l = 0 → ∀ x ∈ l, x = 0
  | [], _, x, hx => by cases hx
  | a :: r, h, x, hx => by
    obtain ⟨h1, h2⟩ := firstE_cons.1 h
    rcases List.mem_cons.1 hx with rfl | hx
    · exact h1
    · exact firstE_mem h2 x hx
end Go.Proofs.YtcfbdeghmckelaaGreat
