/- Contracts of functions that the proof uses, shared by the claims of this seat; no statement of its own. Part 12. No conditions. -/
import Derived.Test.YtcfbdeghmckelaaGreatJW6
set_option linter.all false
namespace Go.Proofs.YtcfbdeghmckelaaGreat
open Go.RowKit
set_option maxRecDepth 100000
set_option linter.unusedVariables false
set_option linter.unusedSimpArgs false
set_option maxHeartbeats 2000000
def ac135 : AC := .seq (.ops false [⟨some 3,.box,[.t 0],none,[]⟩,⟨some 6,.mv,[.c (.b false)],none,[]⟩]) (.seq (.ops true [⟨some 7,.call 129,[],none,[]⟩,⟨some 8,.fadr 1,[.t 3],none,[]⟩,⟨some 9,.load 1 false,[.t 8],none,[1]⟩,⟨some 10,.lkup [2] false (.agg [.nilf]) false,[.t 7,.t 9],none,[0,2]⟩,⟨some 11,.fld 0 1 false,[.t 10],none,[3]⟩,⟨some 12,.mv,[.t 1],none,[]⟩,⟨some 13,.callv,[.t 11,.t 12],none,[4,5,0]⟩,⟨some 14,.mv,[.t 13],none,[6,6]⟩,⟨some 15,.fadr 2,[.t 3],some (14,true),[7]⟩,⟨some 16,.load 1 false,[.t 15],some (14,true),[8,7]⟩,⟨some 17,.bin .eql,[.t 16,.c (.s (bs []))],some (14,true),[9,7]⟩,⟨some 18,.mv,[.t 17],some (14,true),[10,7,7]⟩,⟨some 19,.fadr 2,[.t 3],some (18,false),[11]⟩,⟨some 20,.load 1 false,[.t 19],some (18,false),[12,11]⟩,⟨some 21,.mv,[.t 2],some (18,false),[11]⟩,⟨some 22,.bin .eql,[.t 20,.t 21],some (18,false),[13,14,11]⟩,⟨some 23,.pick,[.t 18,.c (.b true),.t 22],some (14,true),[11,15,7]⟩,⟨some 24,.pick,[.t 14,.t 23,.c (.b false)],none,[7,16]⟩,⟨some 6,.mv,[.t 24],none,[17,11,0,1,2,3,4,5,6,7,8,9,10,11,12,13,14,15,16,17]⟩]) .ret)
def rs135 : List RV := [.tmp 6]
theorem fact135 : compF Tryz.prog 135 = some (ac135,rs135,25) := by kernel_rfl
def countsL (l : Lim) (k t : ByteArray) : Bool := (decide (l.kind = sT) || decide (l.kind = k)) && (decide (l.term = s0) || decide (l.term = t))
theorem kind_0 {l : Lim} (h : chkLim l = 0) : l.kind = sA ∨ l.kind = sD ∨ l.kind = sT := by
  unfold chkLim at h
  simp only [firstE_cons] at h
  have := h.2.1
  unfold kindE at this
  by_cases hA : l.kind = sA
  · exact .inl hA
  by_cases hD : l.kind = sD
  · exact .inr (.inl hD)
  by_cases hT : l.kind = sT
  · exact .inr (.inr hT)
  rw [if_pos ⟨hA, hD, hT⟩] at this; exact absurd this (by decide)
theorem pure135 (l : Lim) (k t : ByteArray) (h : chkLim l = 0) : Pure Tryz.prog 135 [l.pv, .s k, .s t] (.b (countsL l k t)) := by
  refine pure_by fact135 (by simp) fun hw X hX => ?_
  unfold ac135 rs135
  rcases kind_0 h with hk | hk | hk
  · have hA' : (l.kind = sA) = True := eq_true hk
    have qe := And.intro qR @hA'; repeat' first | (show Run _ (.cond _ _ _) _ _; refine run_condX (fun hc => ?_) (fun hc => ?_) <;> (try simp only [qH, rng_0] at hc) <;> try contradiction) | (show RunOps _ _ _ _ (⟨_, .call 129, _, _, _⟩ :: _) _ _; refine run_callX (hf := pure129) (hn := ?_)) | (show RunOps _ _ _ _ (⟨_, .callv, _, _, _⟩ :: _) _ _; refine run_callVX (hf := pure154 k sA) (hn := ?_)) | (first | refine Stp.h ?_ | (show ∀ K : St → List Ft → Prop, _; intro K hK) | (show runS _ _ _ _ _; first | refine qY (hq := ?_) | refine qZ (hq := ?_)) | (refine hK _ _ ?_; clear hK K) | (refine hK _ _ rfl ?_; clear hK K) | (refine qZ (hq := ?_); try exact trivial) | omega)
    rw [countsL, hk, show (decide (sA = sT) || decide (sA = k)) = decide (k = sA) by rw [show decide (sA = sT) = false by decide, Bool.false_or]; exact decide_eq_decide.2 eq_comm]; exact .refl _
  · have hA' : (l.kind = sA) = False := eq_false (by rw [hk]; decide)
    have hD' : (l.kind = sD) = True := eq_true hk
    have qe := And.intro qR (And.intro @hA' @hD'); repeat' first | (show Run _ (.cond _ _ _) _ _; refine run_condX (fun hc => ?_) (fun hc => ?_) <;> (try simp only [qH, rng_0] at hc) <;> try contradiction) | (show RunOps _ _ _ _ (⟨_, .call 129, _, _, _⟩ :: _) _ _; refine run_callX (hf := pure129) (hn := ?_)) | (show RunOps _ _ _ _ (⟨_, .callv, _, _, _⟩ :: _) _ _; refine run_callVX (hf := pure154 k sD) (hn := ?_)) | (first | refine Stp.h ?_ | (show ∀ K : St → List Ft → Prop, _; intro K hK) | (show runS _ _ _ _ _; first | refine qY (hq := ?_) | refine qZ (hq := ?_)) | (refine hK _ _ ?_; clear hK K) | (refine hK _ _ rfl ?_; clear hK K) | (refine qZ (hq := ?_); try exact trivial) | omega)
    rw [countsL, hk, show (decide (sD = sT) || decide (sD = k)) = decide (k = sD) by rw [show decide (sD = sT) = false by decide, Bool.false_or]; exact decide_eq_decide.2 eq_comm]; exact .refl _
  · have hA' : (l.kind = sA) = False := eq_false (by rw [hk]; decide)
    have hD' : (l.kind = sD) = False := eq_false (by rw [hk]; decide)
    have hT' : (l.kind = sT) = True := eq_true hk
    have qe := And.intro qR (And.intro @hA' (And.intro @hD' @hT')); repeat' first | (show Run _ (.cond _ _ _) _ _; refine run_condX (fun hc => ?_) (fun hc => ?_) <;> (try simp only [qH, rng_0] at hc) <;> try contradiction) | (show RunOps _ _ _ _ (⟨_, .call 129, _, _, _⟩ :: _) _ _; refine run_callX (hf := pure129) (hn := ?_)) | (show RunOps _ _ _ _ (⟨_, .callv, _, _, _⟩ :: _) _ _; refine run_callVX (hf := pure155 k) (hn := ?_)) | (first | refine Stp.h ?_ | (show ∀ K : St → List Ft → Prop, _; intro K hK) | (show runS _ _ _ _ _; first | refine qY (hq := ?_) | refine qZ (hq := ?_)) | (refine hK _ _ ?_; clear hK K) | (refine hK _ _ rfl ?_; clear hK K) | (refine qZ (hq := ?_); try exact trivial) | omega)
    rw [countsL, hk, show (decide (sT = sT) || decide (sT = k)) = true by rw [decide_eq_true rfl, Bool.true_or], Bool.true_and]; exact .refl _
end Go.Proofs.YtcfbdeghmckelaaGreat
