/- Contracts of functions that the proof uses, shared by the claims of this seat; no statement of its own. Part 44. No conditions. -/
import Derived.Test.YtcfbdeghmckelaaGreatJR3
import Derived.Test.YtcfbdeghmckelaaGreatJW21
set_option linter.all false
namespace Go.Proofs.YtcfbdeghmckelaaGreat
open Go.RowKit
set_option maxRecDepth 100000
set_option linter.unusedVariables false
set_option linter.unusedSimpArgs false
set_option maxHeartbeats 4000000
def smallB (l : List Lim) (m : List Mov) : Bool := ((((decide ((l.length : Int) ≤ 3) && decide ((m.length : Int) ≤ 10)) && shLims l 3) && shMovs m 10) && decide (chkLims l = 0)) && decide (chkMovs m = 0)
def ac60 : AC := .seq (.ops false [⟨some 4,.mv,[.c (.b false)],none,[]⟩]) (.seq (.ops false [⟨some 5,.mv,[.t 0],none,[]⟩,⟨some 6,.len false,[.t 5],none,[0]⟩,⟨some 7,.bin .leq,[.t 6,.c (.i .i64 3)],none,[1]⟩,⟨some 8,.mv,[.t 7],none,[2]⟩,⟨some 9,.mv,[.t 1],some (8,true),[3]⟩,⟨some 10,.len false,[.t 9],some (8,true),[4,3]⟩,⟨some 11,.bin .leq,[.t 10,.c (.i .i64 10)],some (8,true),[5,3]⟩,⟨some 12,.pick,[.t 8,.t 11,.c (.b false)],none,[3,6]⟩,⟨some 13,.mv,[.t 12],none,[7,3]⟩,⟨some 14,.mv,[.t 0],some (13,true),[8]⟩,⟨some 15,.call 15,[.t 14,.c (.i .i64 3)],some (13,true),[9,8,8]⟩,⟨some 16,.pick,[.t 13,.t 15,.c (.b false)],none,[8,10]⟩,⟨some 17,.mv,[.t 16],none,[11,10]⟩,⟨some 18,.mv,[.t 1],some (17,true),[12]⟩,⟨some 19,.call 16,[.t 18,.c (.i .i64 10)],some (17,true),[13,12,12]⟩,⟨some 20,.pick,[.t 17,.t 19,.c (.b false)],none,[12,14]⟩,⟨some 21,.mv,[.t 20],none,[15,14]⟩,⟨some 22,.mv,[.t 0],some (21,true),[16]⟩,⟨some 23,.call 23,[.t 22],some (21,true),[17,16,16]⟩,⟨some 24,.bin .eql,[.t 23,.c (.i .i64 0)],some (21,true),[18,16]⟩,⟨some 25,.pick,[.t 21,.t 24,.c (.b false)],none,[16,19]⟩,⟨some 26,.mv,[.t 25],none,[20,18]⟩,⟨some 27,.mv,[.t 1],some (26,true),[21]⟩,⟨some 28,.call 25,[.t 27],some (26,true),[22,21,21]⟩,⟨some 29,.bin .eql,[.t 28,.c (.i .i64 0)],some (26,true),[23,21]⟩,⟨some 30,.pick,[.t 26,.t 29,.c (.b false)],none,[21,24]⟩,⟨some 4,.mv,[.t 30],none,[25,23,0,1,2,3,4,5,6,7,8,9,10,11,12,13,14,15,16,17,18,19,20,21,22,23,24,25]⟩]) .ret)
def rs60 : List RV := [.tmp 4]
theorem fact60 : compF Tryz.prog 60 = some (ac60,rs60,31) := by kernel_rfl
theorem pure60 (l : List Lim) (m : List Mov) : Pure Tryz.prog 60 [.sl 11 (l.map Lim.pv), .sl 7 (m.map Mov.pv)] (.b (smallB l m)) := by
  refine pure_by fact60 (by simp) fun hw X hX => ?_
  unfold ac60 rs60
  have qe := @qR; repeat' first | (show Run _ (.cond _ _ _) _ _; refine run_condX (fun hc => ?_) (fun hc => ?_) <;> (try simp only [qH, rng_0] at hc) <;> try contradiction) | (show RunOps _ _ _ _ (⟨_, .call 15, _, _, _⟩ :: _) _ _; refine run_callGX (hf := fun hc => (by first | exact pure15 l 3 | (simp only [qH, rng_0] at hc; exact pure15 l 3))) (hn := ?_)) | (show RunOps _ _ _ _ (⟨_, .call 16, _, _, _⟩ :: _) _ _; refine run_callGX (hf := fun hc => (by first | exact pure16 m 10 | (simp only [qH, rng_0] at hc; exact pure16 m 10))) (hn := ?_)) | (show RunOps _ _ _ _ (⟨_, .call 23, _, _, _⟩ :: _) _ _; refine run_callGX (hf := fun hc => (by first | exact pure23 l | (simp only [qH, rng_0] at hc; exact pure23 l))) (hn := ?_)) | (show RunOps _ _ _ _ (⟨_, .call 25, _, _, _⟩ :: _) _ _; refine run_callGX (hf := fun hc => (by first | exact pure25 m | (simp only [qH, rng_0] at hc; exact pure25 m))) (hn := ?_)) | (first | refine Stp.h ?_ | (show ∀ K : St → List Ft → Prop, _; intro K hK) | (show runS _ _ _ _ _; first | refine qY (hq := ?_) | refine qZ (hq := ?_)) | (refine hK _ _ ?_; clear hK K) | (refine hK _ _ rfl ?_; clear hK K) | (refine qZ (hq := ?_); try exact trivial) | omega)
  exact .refl _
theorem small_0 {l : List Lim} {m : List Mov} (h : smallB l m = true) : l.length ≤ 3 ∧ m.length ≤ 10 ∧ shLims l 3 = true ∧ shMovs m 10 = true ∧ chkLims l = 0 ∧ chkMovs m = 0 := by
  simp only [smallB, Bool.and_eq_true, decide_eq_true_eq] at h
  obtain ⟨⟨⟨⟨⟨h1, h2⟩, h3⟩, h4⟩, h5⟩, h6⟩ := h
  exact ⟨by omega, by omega, h3, h4, h5, h6⟩
end Go.Proofs.YtcfbdeghmckelaaGreat
