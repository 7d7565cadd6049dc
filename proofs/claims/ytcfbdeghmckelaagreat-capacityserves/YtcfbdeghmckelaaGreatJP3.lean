/- Contracts of functions that the proof uses, shared by the claims of this seat; no statement of its own. Part 37. No conditions. -/
import Derived.Test.YtcfbdeghmckelaaGreatJR3
import Derived.Test.YtcfbdeghmckelaaGreatJW19
import Derived.Test.YtcfbdeghmckelaaGreatJW21
set_option linter.all false
namespace Go.Proofs.YtcfbdeghmckelaaGreat
open Go.RowKit
set_option maxRecDepth 100000
set_option linter.unusedVariables false
set_option linter.unusedSimpArgs false
set_option maxHeartbeats 2000000
theorem win_at {l : Lim} (h : chkLim l = 0) {b : Int} (hb : b ∈ windowsL l) : b ∈ beginsL l (b / 1440) := by
  rw [windows_eq h, List.mem_flatMap] at hb
  obtain ⟨d, hd, hb⟩ := hb
  have hb2 : b ∈ beginsL l d := by rw [beginsL_day h, if_pos hd]; exact hb
  have := beginsL_mem h hb2
  rw [show b / 1440 = d by omega]; exact hb2
theorem ar_mem {ls : List Lim} {m : List Mov} {o : Mov} {i : Nat} {l : Lim} {b : Int} (hi : ls[i]? = some l) (h : chkLim l = 0) (hb : b ∈ windowsL l) (hw : inW l b o = true) : (⟨i, b, cntAll l m b⟩ : Win) ∈ arW ls m o := by
  have hl := chkLim_0 h
  have hlt := (List.getElem?_eq_some_iff.1 hi).1
  simp only [inW, Bool.and_eq_true, decide_eq_true_eq] at hw
  have hd := win_at h hb
  unfold arW arK
  refine List.mem_flatMap.2 ⟨i, List.mem_range.2 hlt, ?_⟩
  unfold arI
  rw [hi]
  simp only
  unfold arL
  rw [if_pos hw.1]
  refine List.mem_flatMap.2 ⟨(b / 1440 - o.moment / 1440 + 1).toNat, List.mem_range.2 (by omega), ?_⟩
  unfold arX arD
  refine List.mem_flatMap.2 ⟨b, ?_, ?_⟩
  · rw [show o.moment / 1440 - 1 + ((b / 1440 - o.moment / 1440 + 1).toNat : Int) = b / 1440 by omega]; exact hd
  · unfold arB; rw [if_pos hw.2]; simp
end Go.Proofs.YtcfbdeghmckelaaGreat
