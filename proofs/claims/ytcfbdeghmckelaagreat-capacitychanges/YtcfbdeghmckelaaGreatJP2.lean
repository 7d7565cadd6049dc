/- Contracts of functions that the proof uses, shared by the claims of this seat; no statement of its own. Part 34. No conditions. -/
import Derived.Test.YtcfbdeghmckelaaGreatJW5
set_option linter.all false
namespace Go.Proofs.YtcfbdeghmckelaaGreat
open Go.RowKit
set_option maxRecDepth 100000
set_option linter.unusedVariables false
set_option linter.unusedSimpArgs false
set_option maxHeartbeats 2000000
def Win.add (k : Int) (w : Win) : Win := ⟨w.lim, w.beg, w.cnt + k⟩
end Go.Proofs.YtcfbdeghmckelaaGreat
