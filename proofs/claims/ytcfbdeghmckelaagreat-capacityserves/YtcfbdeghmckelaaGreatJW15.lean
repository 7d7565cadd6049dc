/- Contracts of functions that the proof uses, shared by the claims of this seat; no statement of its own. Part 18. No conditions. -/
import Derived.Test.YtcfbdeghmckelaaGreatJW13
set_option linter.all false
namespace Go.Proofs.YtcfbdeghmckelaaGreat
open Go.RowKit
set_option maxRecDepth 100000
set_option linter.unusedVariables false
set_option linter.unusedSimpArgs false
set_option maxHeartbeats 2000000
def pkStep (l : Lim) (m : List Mov) (a : Bool × Int × Int) (b : Int) : Bool × Int × Int := if a.1 = false ∨ a.2.2 < cntAll l m b then (true, b, cntAll l m b) else a
def pkF (l : Lim) (m : List Mov) (L : List Int) : Bool × Int × Int := L.foldl (pkStep l m) (false, 0, 0)
theorem pkF_next {l : Lim} {m : List Mov} {L : List Int} {k : Nat} {b : Int} (h : L[k]? = some b) : pkF l m (L.take (k + 1)) = pkStep l m (pkF l m (L.take k)) b := by
  rw [pkF, List.take_add_one, h, List.foldl_append]; rfl
abbrev peakC (l : Lim) (m : List Mov) : Int := firstE [chkLim l, chkMovs m]
def peakE (l : Lim) (m : List Mov) : Int := if peakC l m = 0 then (if (pkF l m (windowsL l)).1 = false then 7 else 0) else peakC l m
def peakR (l : Lim) (m : List Mov) : Win := if peakC l m = 0 then ⟨0, (pkF l m (windowsL l)).2.1, (pkF l m (windowsL l)).2.2⟩ else ⟨0, 0, 0⟩
theorem windowsL_mem {l : Lim} (h : chkLim l = 0) {b : Int} (hb : b ∈ windowsL l) : 0 ≤ b ∧ b ≤ 143999999 := by
  have hp := chkPer_0 (chkLim_0 h).2.2.2.2.2.2.2.1
  obtain ⟨n, hn, hb⟩ := List.mem_flatMap.1 hb
  have := beginsL_mem h hb
  omega
theorem pure30 (l : Lim) (m : List Mov) : Pure Tryz.prog 30 [l.pv, .sl 7 (m.map Mov.pv)] (.tup [(peakR l m).pv, .i .i64 (peakE l m)]) := by
  refine pure_by fact30 (by simp) fun hw X hX => ?_
  unfold ac30 rs30
  have qe := @qR; repeat' first | (show Run _ (.cond _ _ _) _ _; refine run_condX (fun hc => ?_) (fun hc => ?_) <;> (try simp only [qH, rng_0] at hc) <;> try contradiction) | (show RunOps _ _ _ _ (⟨_, .call 84, _, _, _⟩ :: _) _ _; refine run_callX (hf := pure84 l) (hn := ?_)) | (show RunOps _ _ _ _ (⟨_, .call 24, _, _, _⟩ :: _) _ _; refine run_callX (hf := pure24 m) (hn := ?_)) | (show RunOps _ _ _ _ (⟨_, .call 83, _, _, _⟩ :: _) _ _; refine run_callX (hf := pure83 [_, _]) (hn := ?_)) | (first | refine Stp.h ?_ | (show ∀ K : St → List Ft → Prop, _; intro K hK) | (show runS _ _ _ _ _; first | refine qY (hq := ?_) | refine qZ (hq := ?_)) | (refine hK _ _ ?_; clear hK K) | (refine hK _ _ rfl ?_; clear hK K) | (refine qZ (hq := ?_); try exact trivial) | omega)
  · rw [peakE, if_neg hc, peakR, if_neg hc]; exact .refl _
  · have h0 := hc
    have h1 := hc
    simp only [firstE_cons] at h1
    have hl := chkLim_0 h1.1
    have hm := chkMovs_0 h1.2.1
    have qe := @qR; repeat' first | (show Run _ (.cond _ _ _) _ _; refine run_condX (fun hc => ?_) (fun hc => ?_) <;> (try simp only [qH, rng_0] at hc) <;> try contradiction) | (show RunOps _ _ _ _ (⟨_, .call 92, _, _, _⟩ :: _) _ _; refine run_callX (hf := pure92 l m h1.1 (by omega)) (hn := ?_)) | (show RunOps _ _ _ _ (⟨_, .call 94, _, _, _⟩ :: _) _ _; refine run_callX (hf := pure94 l) (hn := ?_)) | (first | refine Stp.h ?_ | (show ∀ K : St → List Ft → Prop, _; intro K hK) | (show runS _ _ _ _ _; first | refine qY (hq := ?_) | refine qZ (hq := ?_)) | (refine hK _ _ ?_; clear hK K) | (refine hK _ _ rfl ?_; clear hK K) | (refine qZ (hq := ?_); try exact trivial) | omega)
    refine run_rfunc rfl (iter137 l h1.1) ?_ ?_ [(2, .lp 2 0), (4, .lp 4 0), (7, .lp 7 0), (8, .lp 8 0), (9, .lp 9 0)] (fun k => [(2, .box (l.cells.map .p) false), (4, .box [.p (.i .i64 0), .p (.i .i64 0), .p (.i .i64 0)] false), (7, .box [.p (.sl 1 ((ofL l m).map (.i .i64)))] false), (8, .box [.p (.i .i64 0), .p (.i .i64 (pkF l m ((windowsL l).take k)).2.1), .p (.i .i64 (pkF l m ((windowsL l).take k)).2.2)] false), (9, .box [.p (.b (pkF l m ((windowsL l).take k)).1)] false)]) (fun _ => []) ?_ ?_ ?_
    · simp
    · simp [hX]
    · simp only [qS, Nat.reduceAdd, Nat.reduceMul, Nat.reduceEqDiff, Nat.reduceLeDiff, reduceIte, reduceCtorEq, Nat.reduceBEq, Nat.reduceLT] <;> exact ⟨rfl, rfl⟩
    · intro k t ht X' ro' hX'
      simp only [List.getElem?_map, Option.map_eq_some_iff] at ht
      obtain ⟨y, hy, rfl⟩ := ht
      have hym := windowsL_mem h1.1 (List.mem_of_getElem? hy)
      have hnx := pkF_next (l := l) (m := m) hy
      simp only [qS, Nat.reduceAdd, Nat.reduceMul, Nat.reduceEqDiff, Nat.reduceLeDiff, reduceIte, reduceCtorEq, Nat.reduceBEq, Nat.reduceLT]
      repeat' first | (show Run _ (.cond _ _ _) _ _; refine run_condX (fun hc => ?_) (fun hc => ?_) <;> (try simp only [qH, rng_0] at hc) <;> try contradiction) | (first | refine Stp.h ?_ | (show ∀ K : St → List Ft → Prop, _; intro K hK) | (show runS _ _ _ _ _; first | refine qY (hq := ?_) | refine qZ (hq := ?_)) | (refine hK _ _ ?_; clear hK K) | (refine hK _ _ rfl ?_; clear hK K) | (refine qZ (hq := ?_); try exact trivial) | omega)
      intro X1 hX1
      have qe := @qR; repeat' first | (show Run _ (.cond _ _ _) _ _; refine run_condX (fun hc => ?_) (fun hc => ?_) <;> (try simp only [qH, rng_0] at hc) <;> try contradiction) | (show RunOps _ _ _ _ (⟨_, .call _, _, _, _⟩ :: _) _ _; refine run_callX (hf := pureCnt h1.1 h1.2.1 y (by omega) (by omega)) (hn := ?_)) | (first | refine Stp.h ?_ | (show ∀ K : St → List Ft → Prop, _; intro K hK) | (show runS _ _ _ _ _; first | refine qY (hq := ?_) | refine qZ (hq := ?_)) | (refine hK _ _ ?_; clear hK K) | (refine hK _ _ rfl ?_; clear hK K) | (refine qZ (hq := ?_); try exact trivial) | omega)
      · rw [pkStep, if_pos hc] at hnx
        rw [hnx]; exact ⟨rfl, rfl⟩
      · rw [pkStep, if_neg (fun e => e.elim hc.1 fun e => by omega)] at hnx
        rw [hnx]; exact ⟨rfl, rfl⟩
    · simp only [List.length_map, List.take_length]
      have qe := @qR; repeat' first | (show Run _ (.cond _ _ _) _ _; refine run_condX (fun hc => ?_) (fun hc => ?_) <;> (try simp only [qH, rng_0] at hc) <;> try contradiction) | (show RunOps _ _ _ _ (⟨_, .call 85, _, _, _⟩ :: _) _ _; refine run_callX (hf := pure85 _ _) (hn := ?_)) | (first | refine Stp.h ?_ | (show ∀ K : St → List Ft → Prop, _; intro K hK) | (show runS _ _ _ _ _; first | refine qY (hq := ?_) | refine qZ (hq := ?_)) | (refine hK _ _ ?_; clear hK K) | (refine hK _ _ rfl ?_; clear hK K) | (refine qZ (hq := ?_); try exact trivial) | omega)
      rw [peakE, if_pos h0, peakR, if_pos h0]
      exact .refl _
end Go.Proofs.YtcfbdeghmckelaaGreat
