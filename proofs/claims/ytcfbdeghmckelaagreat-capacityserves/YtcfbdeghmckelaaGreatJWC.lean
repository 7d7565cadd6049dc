/- Contracts of functions that the proof uses, shared by the claims of this seat; no statement of its own. Part 49. No conditions. -/
import Derived.Test.YtcfbdeghmckelaaGreatJW1
set_option linter.all false
namespace Go.Proofs.YtcfbdeghmckelaaGreat
open Go.RowKit
theorem run_monoS {G : Cfg} {c : AC} {s : St} {Q Q' : APost} (hm : ∀ e s1, Q e s1 → Q' e s1) (h : Run G c s Q) : Run G c s Q' := fun hG code hc C a w hr =>
  wpIn_mono (h hG code hc C a w hr) fun e a1 w1 hq => by
    obtain ⟨s1, C1, h1, h2⟩ := hq
    exact ⟨s1, C1, h1, by cases e <;> first | exact hm _ _ h2 | exact h2⟩
def cutS (s' : St) : APost
  | .normal, s => Cov s s'
  | _, _ => False
theorem cutSN (s s' : St) : cutS s' .normal s = Cov s s' := rfl
theorem run_cutS {G : Cfg} {x y : AC} {s : St} {Q : APost} (s' : St) (h1 : Run G x s (cutS s')) (h2 : Run G y s' Q) : Run G x s (seqK G y Q) :=
  run_monoS (fun e s1 h => by
    cases e with
    | normal => exact run_keep s' h h2
    | exit i => exact h.elim
    | ret => exact h.elim) h1
end Go.Proofs.YtcfbdeghmckelaaGreat
