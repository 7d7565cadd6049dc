/- Contracts of functions that the proof uses, shared by the claims of this seat; no statement of its own. Part 48. No conditions. -/
import Derived.Test.YtcfbdeghmckelaaGreatJW31
set_option linter.all false
namespace Go.Proofs.YtcfbdeghmckelaaGreat
open Go.RowKit
set_option maxRecDepth 100000
set_option linter.unusedVariables false
set_option linter.unusedSimpArgs false
set_option maxHeartbeats 4000000
theorem pure120 (m : Mov) (n : ByteArray) : Pure Tryz.prog 120 [m.pv, .ip (.s n) 0] (.b (!decide (m.name = n))) := by
  refine pure_by fact120 (by simp) fun hw X hX => ?_
  unfold ac120 rs120
  repeat' first | (show Run _ (.cond _ _ _) _ _; refine run_condX (fun hc => ?_) (fun hc => ?_) <;> (try simp only [qH, rng_0] at hc) <;> try contradiction) | (first | refine Stp.h ?_ | (show ∀ K : St → List Ft → Prop, _; intro K hK) | (show runS _ _ _ _ _; first | refine qY (hq := ?_) | refine qZ (hq := ?_)) | (refine hK _ _ ?_; clear hK K) | (refine hK _ _ rfl ?_; clear hK K) | (refine qZ (hq := ?_); try exact trivial) | omega)
  exact .refl _
theorem pure119 {f : Nat} {caps : List PV} {L : List Mov} {p : Mov → Bool} (hf : ∀ w ∈ L, Pure Tryz.prog f (w.pv :: caps) (.b (p w))) (hn : L.length ≤ 1000000) : Pure Tryz.prog 119 [.sl 7 (L.map Mov.pv), .fn (.func f) [] caps] (.sl 7 ((L.filter p).map Mov.pv)) := by
  refine pure_by fact119 (by simp) fun hw X hX => ?_
  unfold ac119 rs119
  repeat' first | (show Run _ (.cond _ _ _) _ _; refine run_condX (fun hc => ?_) (fun hc => ?_) <;> (try simp only [qH, rng_0] at hc) <;> try contradiction) | (first | refine Stp.h ?_ | (show ∀ K : St → List Ft → Prop, _; intro K hK) | (show runS _ _ _ _ _; first | refine qY (hq := ?_) | refine qZ (hq := ?_)) | (refine hK _ _ ?_; clear hK K) | (refine hK _ _ rfl ?_; clear hK K) | (refine qZ (hq := ?_); try exact trivial) | omega)
  refine run_own 100 74 7 [(1, .p (.fn (.func f) [] caps)), (5, .row 100 0), (8, .p (.sl 7 (L.map Mov.pv))), (9, .p (.i .i64 L.length)), (10, .p (.i .i64 0))] [] ?_ ?_
  · simp only [Own, ownEnv, ownObj, nilTo, nilTos, qS, Nat.reduceAdd, Nat.reduceMul, Nat.reduceEqDiff, Nat.reduceLeDiff, reduceIte, reduceCtorEq, Nat.reduceBEq, Nat.reduceLT]
  refine run_loop (κ := Nat) (fun k => ⟨[(1, .p (.fn (.func f) [] caps)), (5, .row 100 ((L.take k).filter p).length), (8, .p (.sl 7 (L.map Mov.pv))), (9, .p (.i .i64 L.length)), (10, .p (.i .i64 k))], [(100, .row 74 7 (((L.take k).filter p).map Mov.pv) false)], [], false⟩) (fun k => k ≤ L.length) (fun k => L.length - k) 0 ?_ ?_ ?_
  · simp only [qS, Nat.reduceAdd, Nat.reduceMul, Nat.reduceEqDiff, Nat.reduceLeDiff, reduceIte, reduceCtorEq, Nat.reduceBEq, Nat.reduceLT] <;> simp
  · simp
  · intro k hk
    repeat (first | refine Stp.h ?_ | (show ∀ K : St → List Ft → Prop, _; intro K hK) | (show runS _ _ _ _ _; first | refine qY (hq := ?_) | refine qZ (hq := ?_)) | (refine hK _ _ ?_; clear hK K) | (refine hK _ _ rfl ?_; clear hK K) | (refine qZ (hq := ?_); try exact trivial) | omega)
    (show Run _ (.cond _ _ _) _ _; refine run_condX (fun hc => ?_) (fun hc => ?_) <;> (try simp only [qH, rng_0] at hc) <;> try contradiction)
    · obtain ⟨w, hx⟩ := some_at (i := k) (l := L) (by omega)
      have hnx := filter_take (p := p) hx
      have hfl := filter_tlen (p := p) (l := L) (k := k)
      have qe := And.intro qR @hx; repeat' first | (show Run _ (.cond _ _ _) _ _; refine run_condX (fun hc => ?_) (fun hc => ?_) <;> (try simp only [qH, rng_0] at hc) <;> try contradiction) | (show RunOps _ _ _ _ (⟨_, .callv, _, _, _⟩ :: _) _ _; refine run_callVX (hf := hf w (List.mem_of_getElem? hx)) (hn := ?_)) | (first | refine Stp.h ?_ | (show ∀ K : St → List Ft → Prop, _; intro K hK) | (show runS _ _ _ _ _; first | refine qY (hq := ?_) | refine qZ (hq := ?_)) | (refine hK _ _ ?_; clear hK K) | (refine hK _ _ rfl ?_; clear hK K) | (refine qZ (hq := ?_); try exact trivial) | omega)
      · rw [hc, if_pos rfl] at hnx
        exact ⟨k + 1, by omega, by omega, ⟨by rw [hnx]; simp, by simp⟩, by rw [hnx]; simp⟩
      · rw [hc] at hnx
        exact ⟨k + 1, by omega, by omega, ⟨by rw [hnx]; simp, by simp⟩, by rw [hnx]; simp⟩
    · repeat' first | (show Run _ (.cond _ _ _) _ _; refine run_condX (fun hc => ?_) (fun hc => ?_) <;> (try simp only [qH, rng_0] at hc) <;> try contradiction) | (first | refine Stp.h ?_ | (show ∀ K : St → List Ft → Prop, _; intro K hK) | (show runS _ _ _ _ _; first | refine qY (hq := ?_) | refine qZ (hq := ?_)) | (refine hK _ _ ?_; clear hK K) | (refine hK _ _ rfl ?_; clear hK K) | (refine qZ (hq := ?_); try exact trivial) | omega)
      have e : k = L.length := by omega
      subst e; rw [List.take_length]; exact .refl _
def drE (m : List Mov) (n : ByteArray) : Int := firstE [chkMovs m, nameE n]
def drR (m : List Mov) (n : ByteArray) : List Mov := if drE m n = 0 then m.filter (fun x => !decide (x.name = n)) else []
theorem pure68 (m : List Mov) (n : ByteArray) : Pure Tryz.prog 68 [.sl 7 (m.map Mov.pv), .s n] (.tup [.sl 7 ((drR m n).map Mov.pv), .i .i64 (drE m n)]) := by
  have he : (if (!isName n) = true then (8 : Int) else 0) = nameE n := by simp [nameE]
  refine pure_by fact68 (by simp) fun hw X hX => ?_
  unfold ac68 rs68
  have e : firstE [chkMovs m, if isName n = false then 8 else 0] = drE m n := rfl
  by_cases h0 : chkMovs m = 0
  · have hn := (chkMovs_0 h0).1
    have qe := And.intro qR @he; repeat' first | (show Run _ (.cond _ _ _) _ _; refine run_condX (fun hc => ?_) (fun hc => ?_) <;> (try simp only [qH, rng_0] at hc) <;> try contradiction) | (show RunOps _ _ _ _ (⟨_, .call 24, _, _, _⟩ :: _) _ _; refine run_callX (hf := pure24 m) (hn := ?_)) | (show RunOps _ _ _ _ (⟨_, .call 109, _, _, _⟩ :: _) _ _; refine run_callX (hf := pure109 n) (hn := ?_)) | (show RunOps _ _ _ _ (⟨_, .call 85, _, _, _⟩ :: _) _ _; refine run_callX (hf := pure85 _ _) (hn := ?_)) | (show RunOps _ _ _ _ (⟨_, .call 83, _, _, _⟩ :: _) _ _; refine run_callX (hf := pure83 [_, _]) (hn := ?_)) | (show RunOps _ _ _ _ (⟨_, .call 119, _, _, _⟩ :: _) _ _; refine run_callBX (hf := pure119 (fun w _ => pure120 w n) (by omega)) (hn := ?_)) | (first | refine Stp.h ?_ | (show ∀ K : St → List Ft → Prop, _; intro K hK) | (show runS _ _ _ _ _; first | refine qY (hq := ?_) | refine qZ (hq := ?_)) | (refine hK _ _ ?_; clear hK K) | (refine hK _ _ rfl ?_; clear hK K) | (refine qZ (hq := ?_); try exact trivial) | omega)
    · rw [e] at hc ⊢
      rw [drR, if_neg hc]; exact weak2 (.nilsl _) (.refl _)
    · rw [e] at hc
      rw [drR, if_pos hc, hc]; exact .refl _
  · have qe := And.intro qR @he; repeat' first | (show Run _ (.cond _ _ _) _ _; refine run_condX (fun hc => ?_) (fun hc => ?_) <;> (try simp only [qH, rng_0] at hc) <;> try contradiction) | (show RunOps _ _ _ _ (⟨_, .call 24, _, _, _⟩ :: _) _ _; refine run_callX (hf := pure24 m) (hn := ?_)) | (show RunOps _ _ _ _ (⟨_, .call 109, _, _, _⟩ :: _) _ _; refine run_callX (hf := pure109 n) (hn := ?_)) | (show RunOps _ _ _ _ (⟨_, .call 85, _, _, _⟩ :: _) _ _; refine run_callX (hf := pure85 _ _) (hn := ?_)) | (show RunOps _ _ _ _ (⟨_, .call 83, _, _, _⟩ :: _) _ _; refine run_callX (hf := pure83 [_, _]) (hn := ?_)) | (first | refine Stp.h ?_ | (show ∀ K : St → List Ft → Prop, _; intro K hK) | (show runS _ _ _ _ _; first | refine qY (hq := ?_) | refine qZ (hq := ?_)) | (refine hK _ _ ?_; clear hK K) | (refine hK _ _ rfl ?_; clear hK K) | (refine qZ (hq := ?_); try exact trivial) | omega)
    · rw [e] at hc ⊢
      rw [drR, if_neg hc]; exact weak2 (.nilsl _) (.refl _)
    · exact absurd (firstE_cons.1 hc).1 h0
end Go.Proofs.YtcfbdeghmckelaaGreat
