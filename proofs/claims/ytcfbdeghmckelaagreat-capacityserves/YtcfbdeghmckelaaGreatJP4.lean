/- Contracts of functions that the proof uses, shared by the claims of this seat; no statement of its own. Part 39. No conditions. -/
import Derived.Test.YtcfbdeghmckelaaGreatJW26
set_option linter.all false
namespace Go.Proofs.YtcfbdeghmckelaaGreat
open Go.RowKit
set_option maxRecDepth 100000
set_option linter.unusedVariables false
set_option linter.unusedSimpArgs false
set_option maxHeartbeats 2000000
theorem bef1 {a b : Mov} (h : befM a b = true) : a.moment ≤ b.moment := by
  unfold befM at h; split at h
  · omega
  · simp only [decide_eq_true_eq] at h; omega
theorem bef0 {a b : Mov} (h : befM a b = false) : b.moment ≤ a.moment := by
  unfold befM at h; split at h
  · omega
  · simp only [decide_eq_false_iff_not] at h; omega
theorem merge_ok {a b : List Mov} (ha : ∀ x ∈ a, chkMov x = 0) (hb : ∀ x ∈ b, chkMov x = 0) (hn : a.length + b.length ≤ 30000) : chkMovs (mergeM befM a b) = 0 ∧ (mergeM befM a b).length = a.length + b.length := by
  have hp := merge_perm befM a b
  have hlen : (mergeM befM a b).length = a.length + b.length := by rw [hp.length_eq, List.length_append]
  refine ⟨chkMovs_of (by omega) (fun x hx => ?_) (merge_sorted (fun _ _ h => bef1 h) (fun _ _ h => bef0 h) a b), hlen⟩
  rcases List.mem_append.1 (hp.mem_iff.1 hx) with h | h
  · exact ha x h
  · exact hb x h
end Go.Proofs.YtcfbdeghmckelaaGreat
