/- Contracts of functions that the proof uses, shared by the claims of this seat; no statement of its own. Part 17. No conditions. -/
import Derived.Test.YtcfbdeghmckelaaGreatJW13
set_option linter.all false
namespace Go.Proofs.YtcfbdeghmckelaaGreat
open Go.RowKit
set_option maxRecDepth 100000
set_option linter.unusedVariables false
set_option linter.unusedSimpArgs false
set_option maxHeartbeats 2000000
abbrev cntC (l : Lim) (m : List Mov) (b : Int) : Int := firstE [chkLim l, chkMovs m, rng b 0 143999999]
def cntE (l : Lim) (m : List Mov) (b : Int) : Int := if cntC l m b = 0 then (if b ∈ beginsL l (b / 1440) then 0 else 7) else cntC l m b
def cntR (l : Lim) (m : List Mov) (b : Int) : Int := if cntE l m b = 0 then cntAll l m b else 0
theorem pure29 (l : Lim) (m : List Mov) (b : Int) : Pure Tryz.prog 29 [l.pv, .sl 7 (m.map Mov.pv), .i .i64 b] (.tup [.i .i64 (cntR l m b), .i .i64 (cntE l m b)]) := by
  refine pure_by fact29 (by simp) fun hw X hX => ?_
  unfold ac29 rs29
  have qe := @qR; repeat' first | (show Run _ (.cond _ _ _) _ _; refine run_condX (fun hc => ?_) (fun hc => ?_) <;> (try simp only [qH, rng_0] at hc) <;> try contradiction) | (show RunOps _ _ _ _ (⟨_, .call 84, _, _, _⟩ :: _) _ _; refine run_callX (hf := pure84 l) (hn := ?_)) | (show RunOps _ _ _ _ (⟨_, .call 24, _, _, _⟩ :: _) _ _; refine run_callX (hf := pure24 m) (hn := ?_)) | (show RunOps _ _ _ _ (⟨_, .call 88, _, _, _⟩ :: _) _ _; refine run_callX (hf := pure88 _ _ _) (hn := ?_)) | (show RunOps _ _ _ _ (⟨_, .call 83, _, _, _⟩ :: _) _ _; refine run_callX (hf := pure83 [_, _, _]) (hn := ?_)) | (first | refine Stp.h ?_ | (show ∀ K : St → List Ft → Prop, _; intro K hK) | (show runS _ _ _ _ _; first | refine qY (hq := ?_) | refine qZ (hq := ?_)) | (refine hK _ _ ?_; clear hK K) | (refine hK _ _ rfl ?_; clear hK K) | (refine qZ (hq := ?_); try exact trivial) | omega)
  · have he : cntE l m b = cntC l m b := by rw [cntE, if_neg hc]
    rw [cntR, he, if_neg hc]; exact .refl _
  · have h0 := hc
    have h1 := hc
    simp only [firstE_cons, rng_0] at h1
    have hl := chkLim_0 h1.1
    have hm := chkMovs_0 h1.2.1
    have hq : b.tdiv 1440 = b / 1440 := Int.tdiv_eq_ediv_of_nonneg (by omega)
    have qe := And.intro qR @hq; repeat' first | (show Run _ (.cond _ _ _) _ _; refine run_condX (fun hc => ?_) (fun hc => ?_) <;> (try simp only [qH, rng_0] at hc) <;> try contradiction) | (show RunOps _ _ _ _ (⟨_, .call 91, _, _, _⟩ :: _) _ _; refine run_callX (hf := pure91 l _) (hn := ?_)) | (first | refine Stp.h ?_ | (show ∀ K : St → List Ft → Prop, _; intro K hK) | (show runS _ _ _ _ _; first | refine qY (hq := ?_) | refine qZ (hq := ?_)) | (refine hK _ _ ?_; clear hK K) | (refine hK _ _ rfl ?_; clear hK K) | (refine qZ (hq := ?_); try exact trivial) | omega)
    refine run_rfuncI rfl (iter134 l (b / 1440) h1.1) ?_ ?_ [(3, .lp 3 0), (4, .lp 4 0), (5, .lp 5 0), (6, .lp 6 0), (7, .lp 7 0)] (fun k => [(3, .box (l.cells.map .p) false), (4, .box [.p (.sl 7 (m.map Mov.pv))] false), (5, .box [.p (.i .i64 b)] false), (6, .box [.p (.i .i64 0)] false), (7, .box [.p (.i .i64 0)] false)]) (fun _ => []) (fun k => b ∉ (beginsL l (b / 1440)).take k) ?_ ?_ ?_ ?_
    · simp
    · simp [hX]
    · simp only [qS, Nat.reduceAdd, Nat.reduceMul, Nat.reduceEqDiff, Nat.reduceLeDiff, reduceIte, reduceCtorEq, Nat.reduceBEq, Nat.reduceLT]
    · simp
    · intro k t ht hok X' ro' hX'
      simp only [List.getElem?_map, Option.map_eq_some_iff] at ht
      obtain ⟨y, hy, rfl⟩ := ht
      simp only [qS, Nat.reduceAdd, Nat.reduceMul, Nat.reduceEqDiff, Nat.reduceLeDiff, reduceIte, reduceCtorEq, Nat.reduceBEq, Nat.reduceLT]
      repeat' first | (show Run _ (.cond _ _ _) _ _; refine run_condX (fun hc => ?_) (fun hc => ?_) <;> (try simp only [qH, rng_0] at hc) <;> try contradiction) | (first | refine Stp.h ?_ | (show ∀ K : St → List Ft → Prop, _; intro K hK) | (show runS _ _ _ _ _; first | refine qY (hq := ?_) | refine qZ (hq := ?_)) | (refine hK _ _ ?_; clear hK K) | (refine hK _ _ rfl ?_; clear hK K) | (refine qZ (hq := ?_); try exact trivial) | omega)
      intro X1 hX1
      have qe := @qR; repeat' first | (show Run _ (.cond _ _ _) _ _; refine run_condX (fun hc => ?_) (fun hc => ?_) <;> (try simp only [qH, rng_0] at hc) <;> try contradiction) | (show RunOps _ _ _ _ (⟨_, .call 92, _, _, _⟩ :: _) _ _; refine run_callX (hf := pure92 l m h1.1 (by omega)) (hn := ?_)) | (show RunOps _ _ _ _ (⟨_, .call _, _, _, _⟩ :: _) _ _; refine run_callX (hf := pureCnt h1.1 h1.2.1 b (by omega) (by omega)) (hn := ?_)) | (first | refine Stp.h ?_ | (show ∀ K : St → List Ft → Prop, _; intro K hK) | (show runS _ _ _ _ _; first | refine qY (hq := ?_) | refine qZ (hq := ?_)) | (refine hK _ _ ?_; clear hK K) | (refine hK _ _ rfl ?_; clear hK K) | (refine qZ (hq := ?_); try exact trivial) | omega)
      · subst hc
        have he : cntE l m y = 0 := by rw [cntE, if_pos h0, if_pos (List.mem_of_getElem? hy)]
        rw [cntR, he, if_pos rfl]; exact .refl _
      · rw [List.take_add_one, hy]
        simp only [Option.toList_some, List.mem_append, List.mem_singleton, not_or]
        exact ⟨hok, fun e => hc e.symm⟩
    · intro hok
      simp only [List.length_map, List.take_length] at hok
      repeat' first | (show Run _ (.cond _ _ _) _ _; refine run_condX (fun hc => ?_) (fun hc => ?_) <;> (try simp only [qH, rng_0] at hc) <;> try contradiction) | (first | refine Stp.h ?_ | (show ∀ K : St → List Ft → Prop, _; intro K hK) | (show runS _ _ _ _ _; first | refine qY (hq := ?_) | refine qZ (hq := ?_)) | (refine hK _ _ ?_; clear hK K) | (refine hK _ _ rfl ?_; clear hK K) | (refine qZ (hq := ?_); try exact trivial) | omega)
      have he : cntE l m b = 7 := by rw [cntE, if_pos h0, if_neg hok]
      rw [cntR, he, if_neg (by decide)]; exact .refl _
end Go.Proofs.YtcfbdeghmckelaaGreat
