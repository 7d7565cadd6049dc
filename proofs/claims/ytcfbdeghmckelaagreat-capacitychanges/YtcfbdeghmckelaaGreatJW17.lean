/- Contracts of functions that the proof uses, shared by the claims of this seat; no statement of its own. Part 20. No conditions. -/
import Derived.Test.YtcfbdeghmckelaaGreatJW16
set_option linter.all false
namespace Go.Proofs.YtcfbdeghmckelaaGreat
open Go.RowKit
set_option maxRecDepth 100000
set_option linter.unusedVariables false
set_option linter.unusedSimpArgs false
set_option maxHeartbeats 2000000
def ac57 : AC := .seq (.ops false [⟨some 4,.alloc [(.i .i64 0),(.i .i64 0),(.i .i64 0)],[],none,[]⟩,⟨some 5,.alloc [(.i .i64 0)],[],none,[]⟩]) (.seq (.seq (.ops false [⟨some 8,.mv,[.t 0],none,[]⟩,⟨some 9,.mv,[.t 1],none,[]⟩,⟨some 10,.call 97,[.t 8,.t 9],none,[0,1]⟩,⟨some 6,.mv,[.t 10],none,[2,2,0,1,2]⟩]) (.seq (.ops false [⟨some 11,.mv,[.t 6],none,[]⟩,⟨some 12,.bin .neq,[.t 11,.c (.i .i64 0)],none,[0]⟩]) (.cond (.t 12) (.seq (.ops false [⟨some 13,.build [(.i .i64 0),(.i .i64 0),(.i .i64 0)] [],[],none,[]⟩,⟨some 14,.mv,[.t 6],none,[]⟩,⟨none,.store 3,[.t 4,.t 13],none,[0,0]⟩,⟨none,.store 1,[.t 5,.t 14],none,[1,2,0,1,2]⟩]) .ret) .skip))) (.seq (.seq (.ops false [⟨some 15,.mv,[.t 0],none,[]⟩,⟨some 16,.mv,[.t 1],none,[]⟩,⟨some 17,.call 108,[.t 15,.t 16],none,[0,1]⟩]) (.block 0 (.rfunc (.t 17) [18] (.ops false [⟨some 7,.alloc [(.i .i64 0),(.i .i64 0),(.i .i64 0)],[],none,[]⟩,⟨none,.store 3,[.t 7,.t 18],none,[0,0]⟩]) (.block 1 (.seq (.ops false [⟨some 19,.load 3 true,[.t 7],none,[]⟩,⟨none,.store 3,[.t 4,.t 19],none,[0,0]⟩,⟨none,.store 1,[.t 5,.c (.i .i64 0)],none,[1,0,1]⟩]) .ret))))) (.seq (.ops false [⟨some 20,.build [(.i .i64 0),(.i .i64 0),(.i .i64 0)] [],[],none,[]⟩,⟨none,.store 3,[.t 4,.t 20],none,[0,0]⟩,⟨none,.store 1,[.t 5,.c (.i .i64 7)],none,[1,0,1]⟩]) .ret)))
def rs57 : List RV := [.cell 4 3 true,.cell 5 1 false]
theorem fact57 : compF Tryz.prog 57 = some (ac57,rs57,21) := by kernel_rfl
abbrev bothC (ls : List Lim) (m : List Mov) : Int := firstE [chkLims ls, chkMovs m]
def firE (ls : List Lim) (m : List Mov) : Int := if bothC ls m = 0 then (match excW ls m with | [] => 7 | _ :: _ => 0) else bothC ls m
def firR (ls : List Lim) (m : List Mov) : Win := if bothC ls m = 0 then (match excW ls m with | [] => ⟨0, 0, 0⟩ | w :: _ => w) else ⟨0, 0, 0⟩
theorem chkLims_0 {ls : List Lim} (h : chkLims ls = 0) : ls.length ≤ 32 ∧ ∀ l ∈ ls, chkLim l = 0 := by
  unfold chkLims at h
  split at h
  · cases h
  · refine ⟨by omega, fun l hl => ?_⟩
    obtain ⟨i, hi⟩ := List.getElem?_of_mem hl
    exact (firstE_cons.1 (firstE_0 h (List.mem_of_getElem? (mapIdx_at (f := limErr ls) hi)))).1
theorem pure57 (ls : List Lim) (m : List Mov) : Pure Tryz.prog 57 [.sl 11 (ls.map Lim.pv), .sl 7 (m.map Mov.pv)] (.tup [(firR ls m).pv, .i .i64 (firE ls m)]) := by
  refine pure_by fact57 (by simp) fun hw X hX => ?_
  unfold ac57 rs57
  have qe := @qR; repeat' first | (show Run _ (.cond _ _ _) _ _; refine run_condX (fun hc => ?_) (fun hc => ?_) <;> (try simp only [qH, rng_0] at hc) <;> try contradiction) | (show RunOps _ _ _ _ (⟨_, .call 97, _, _, _⟩ :: _) _ _; refine run_callX (hf := pure97 ls m) (hn := ?_)) | (first | refine Stp.h ?_ | (show ∀ K : St → List Ft → Prop, _; intro K hK) | (show runS _ _ _ _ _; first | refine qY (hq := ?_) | refine qZ (hq := ?_)) | (refine hK _ _ ?_; clear hK K) | (refine hK _ _ rfl ?_; clear hK K) | (refine qZ (hq := ?_); try exact trivial) | omega)
  · rw [firE, if_neg hc, firR, if_neg hc]; exact .refl _
  · have h0 := hc
    have h1 := hc
    simp only [firstE_cons] at h1
    have hl := chkLims_0 h1.1
    have qe := @qR; repeat' first | (show Run _ (.cond _ _ _) _ _; refine run_condX (fun hc => ?_) (fun hc => ?_) <;> (try simp only [qH, rng_0] at hc) <;> try contradiction) | (show RunOps _ _ _ _ (⟨_, .call 108, _, _, _⟩ :: _) _ _; refine run_callX (hf := pure108 ls m) (hn := ?_)) | (first | refine Stp.h ?_ | (show ∀ K : St → List Ft → Prop, _; intro K hK) | (show runS _ _ _ _ _; first | refine qY (hq := ?_) | refine qZ (hq := ?_)) | (refine hK _ _ ?_; clear hK K) | (refine hK _ _ rfl ?_; clear hK K) | (refine qZ (hq := ?_); try exact trivial) | omega)
    refine run_rfuncI rfl (iter140 ls m (by omega) hl.2 h1.2.1) ?_ ?_ [(4, .lp 4 0), (5, .lp 5 0)] (fun k => [(4, .box [.p (.i .i64 0), .p (.i .i64 0), .p (.i .i64 0)] false), (5, .box [.p (.i .i64 0)] false)]) (fun _ => []) (fun k => k = 0) ?_ ?_ ?_ ?_
    · simp
    · simp [hX]
    · simp only [qS, Nat.reduceAdd, Nat.reduceMul, Nat.reduceEqDiff, Nat.reduceLeDiff, reduceIte, reduceCtorEq, Nat.reduceBEq, Nat.reduceLT]
    · rfl
    · intro k t ht hok X' ro' hX'
      subst hok
      simp only [List.getElem?_map, Option.map_eq_some_iff] at ht
      obtain ⟨w, hy, rfl⟩ := ht
      simp only [qS, Nat.reduceAdd, Nat.reduceMul, Nat.reduceEqDiff, Nat.reduceLeDiff, reduceIte, reduceCtorEq, Nat.reduceBEq, Nat.reduceLT]
      have qe := @qR; repeat' first | (show Run _ (.cond _ _ _) _ _; refine run_condX (fun hc => ?_) (fun hc => ?_) <;> (try simp only [qH, rng_0] at hc) <;> try contradiction) | (first | refine Stp.h ?_ | (show ∀ K : St → List Ft → Prop, _; intro K hK) | (show runS _ _ _ _ _; first | refine qY (hq := ?_) | refine qZ (hq := ?_)) | (refine hK _ _ ?_; clear hK K) | (refine hK _ _ rfl ?_; clear hK K) | (refine qZ (hq := ?_); try exact trivial) | omega)
      intro X1 hX1
      have qe := @qR; repeat' first | (show Run _ (.cond _ _ _) _ _; refine run_condX (fun hc => ?_) (fun hc => ?_) <;> (try simp only [qH, rng_0] at hc) <;> try contradiction) | (first | refine Stp.h ?_ | (show ∀ K : St → List Ft → Prop, _; intro K hK) | (show runS _ _ _ _ _; first | refine qY (hq := ?_) | refine qZ (hq := ?_)) | (refine hK _ _ ?_; clear hK K) | (refine hK _ _ rfl ?_; clear hK K) | (refine qZ (hq := ?_); try exact trivial) | omega)
      cases he : excW ls m with
      | nil => rw [he] at hy; cases hy
      | cons a r =>
        rw [he] at hy
        injection hy with hy
        subst hy
        rw [firE, if_pos h0, firR, if_pos h0, he]; exact .refl _
    · intro hok
      have he : excW ls m = [] := List.eq_nil_of_length_eq_zero (by simpa using hok)
      have qe := @qR; repeat' first | (show Run _ (.cond _ _ _) _ _; refine run_condX (fun hc => ?_) (fun hc => ?_) <;> (try simp only [qH, rng_0] at hc) <;> try contradiction) | (first | refine Stp.h ?_ | (show ∀ K : St → List Ft → Prop, _; intro K hK) | (show runS _ _ _ _ _; first | refine qY (hq := ?_) | refine qZ (hq := ?_)) | (refine hK _ _ ?_; clear hK K) | (refine hK _ _ rfl ?_; clear hK K) | (refine qZ (hq := ?_); try exact trivial) | omega)
      rw [firE, if_pos h0, firR, if_pos h0, he]; exact .refl _
end Go.Proofs.YtcfbdeghmckelaaGreat
