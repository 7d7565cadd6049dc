/- Contracts of functions that the proof uses, shared by the claims of this seat; no statement of its own. Part 20. No conditions. -/
import Derived.Test.YtcfbdeghmckelaaGreatJW16
set_option linter.all false
namespace Go.Proofs.YtcfbdeghmckelaaGreat
open Go.RowKit
set_option maxRecDepth 100000
set_option linter.unusedVariables false
set_option linter.unusedSimpArgs false
set_option maxHeartbeats 2000000
def ac57 : AC := .seq (.ops false [⟨some 4,.alloc [(.i .i64 0),(.i .i64 0),(.i .i64 0)],[],none,[]⟩,⟨some 5,.alloc [(.i .i64 0)],[],none,[]⟩]) (.seq (.seq (.ops false [⟨some 8,.mv,[.t 0],none,[]⟩,⟨some 9,.mv,[.t 1],none,[]⟩,⟨some 10,.call 97,[.t 8,.t 9],none,[0,1]⟩,⟨some 6,.mv,[.t 10],none,[2,2,0,1,2]⟩]) (.seq (.ops false [⟨some 11,.mv,[.t 6],none,[]⟩,⟨some 12,.bin .neq,[.t 11,.c (.i .i64 0)],none,[0]⟩]) (.cond (.t 12) (.seq (.ops false [⟨some 13,.build [(.i .i64 0),(.i .i64 0),(.i .i64 0)] [],[],none,[]⟩,⟨some 14,.mv,[.t 6],none,[]⟩,⟨none,.store 3,[.t 4,.t 13],none,[0,0]⟩,⟨none,.store 1,[.t 5,.t 14],none,[1,2,0,1,2]⟩]) .ret) .skip))) (.seq (.seq (.ops false [⟨some 15,.mv,[.t 0],none,[]⟩,⟨some 16,.mv,[.t 1],none,[]⟩,⟨some 17,.call 108,[.t 15,.t 16],none,[0,1]⟩]) (.block 0 (.rfunc (.t 17) [18] (.ops false [⟨some 7,.alloc [(.i .i64 0),(.i .i64 0),(.i .i64 0)],[],none,[]⟩,⟨none,.store 3,[.t 7,.t 18],none,[0,0]⟩]) (.block 1 (.seq (.ops false [⟨some 19,.load 3 true,[.t 7],none,[]⟩,⟨none,.store 3,[.t 4,.t 19],none,[0,0]⟩,⟨none,.store 1,[.t 5,.c (.i .i64 0)],none,[1,0,1]⟩]) .ret))))) (.seq (.ops false [⟨some 20,.build [(.i .i64 0),(.i .i64 0),(.i .i64 0)] [],[],none,[]⟩,⟨none,.store 3,[.t 4,.t 20],none,[0,0]⟩,⟨none,.store 1,[.t 5,.c (.i .i64 7)],none,[1,0,1]⟩]) .ret)))
def rs57 : List RV := [.cell 4 3 true,.cell 5 1 false]
theorem fact57 : compF Tryz.prog 57 = some (ac57,rs57,21) := by kernel_rfl
def ac58 : AC := .seq (.ops false [⟨some 4,.alloc [.nilsl],[],none,[]⟩,⟨some 5,.alloc [(.i .i64 0)],[],none,[]⟩]) (.seq (.seq (.ops false [⟨some 9,.mv,[.t 0],none,[]⟩,⟨some 10,.mv,[.t 1],none,[]⟩,⟨some 11,.call 97,[.t 9,.t 10],none,[0,1]⟩,⟨some 6,.mv,[.t 11],none,[2,2,0,1,2]⟩]) (.seq (.ops false [⟨some 12,.mv,[.t 6],none,[]⟩,⟨some 13,.bin .neq,[.t 12,.c (.i .i64 0)],none,[0]⟩]) (.cond (.t 13) (.seq (.ops false [⟨some 14,.mv,[.t 6],none,[]⟩,⟨none,.store 1,[.t 4,.c .nilsl],none,[]⟩,⟨none,.store 1,[.t 5,.t 14],none,[0,1,0,1]⟩]) .ret) .skip))) (.seq (.ops false [⟨some 7,.alloc [.nilsl],[],none,[]⟩]) (.seq (.seq (.ops false [⟨some 15,.mv,[.t 0],none,[]⟩,⟨some 16,.mv,[.t 1],none,[]⟩,⟨some 17,.call 108,[.t 15,.t 16],none,[0,1]⟩]) (.block 0 (.rfunc (.t 17) [18] (.ops false [⟨some 8,.alloc [(.i .i64 0),(.i .i64 0),(.i .i64 0)],[],none,[]⟩,⟨none,.store 3,[.t 8,.t 18],none,[0,0]⟩]) (.block 1 (.seq (.seq (.ops false [⟨some 19,.load 1 false,[.t 7],none,[]⟩,⟨some 20,.len false,[.t 19],none,[0]⟩,⟨some 21,.bin .eql,[.t 20,.c (.i .i64 1000)],none,[1]⟩]) (.cond (.t 21) (.seq (.ops false [⟨none,.store 1,[.t 4,.c .nilsl],none,[]⟩,⟨none,.store 1,[.t 5,.c (.i .i64 5)],none,[0,0]⟩]) .ret) .skip)) (.ops false [⟨some 22,.load 1 false,[.t 7],none,[]⟩,⟨some 23,.load 3 true,[.t 8],none,[]⟩,⟨some 24,.bslice 56 3 (.agg [(.i .i64 0),(.i .i64 0),(.i .i64 0)]) 1 [0],[.t 23],none,[1]⟩,⟨some 25,.app 56 3 24,[.t 22,.t 24],none,[0,2]⟩,⟨none,.store 1,[.t 7,.t 25],none,[3,3,0,1,2,3]⟩])))))) (.seq (.ops false [⟨some 26,.load 1 false,[.t 7],none,[]⟩,⟨none,.store 1,[.t 4,.t 26],none,[0,0]⟩,⟨none,.store 1,[.t 5,.c (.i .i64 0)],none,[1,0,1]⟩]) .ret))))
def rs58 : List RV := [.cell 4 1 false,.cell 5 1 false]
theorem fact58 : compF Tryz.prog 58 = some (ac58,rs58,27) := by kernel_rfl
abbrev bothC (ls : List Lim) (m : List Mov) : Int := firstE [chkLims ls, chkMovs m]
def firE (ls : List Lim) (m : List Mov) : Int := if bothC ls m = 0 then (match excW ls m with | [] => 7 | _ :: _ => 0) else bothC ls m
def firR (ls : List Lim) (m : List Mov) : Win := if bothC ls m = 0 then (match excW ls m with | [] => ⟨0, 0, 0⟩ | w :: _ => w) else ⟨0, 0, 0⟩
theorem chkLims_0 {ls : List Lim} (h : chkLims ls = 0) : ls.length ≤ 32 ∧ ∀ l ∈ ls, chkLim l = 0 := by
  unfold chkLims at h
  split at h
  · cases h
  · refine ⟨by omega, fun l hl => ?_⟩
    obtain ⟨i, hi⟩ := List.getElem?_of_mem hl
    exact (firstE_cons.1 (firstE_0 h (List.mem_of_getElem? (mapIdx_at (f := limErr ls) hi)))).1
theorem pure57 (ls : List Lim) (m : List Mov) : Pure Tryz.prog 57 [.sl 11 (ls.map Lim.pv), .sl 7 (m.map Mov.pv)] (.tup [(firR ls m).pv, .i .i64 (firE ls m)]) := by
  refine pure_by fact57 (by simp) fun hw X hX => ?_
  unfold ac57 rs57
  have qe := @qR; repeat' first | (show Run _ (.cond _ _ _) _ _; refine run_condX (fun hc => ?_) (fun hc => ?_) <;> (try simp only [qH, rng_0] at hc) <;> try contradiction) | (show RunOps _ _ _ _ (⟨_, .call 97, _, _, _⟩ :: _) _ _; refine run_callX (hf := pure97 ls m) (hn := ?_)) | (first | refine Stp.h ?_ | (show ∀ K : St → List Ft → Prop, _; intro K hK) | (show runS _ _ _ _ _; first | refine qY (hq := ?_) | refine qZ (hq := ?_)) | (refine hK _ _ ?_; clear hK K) | (refine hK _ _ rfl ?_; clear hK K) | (refine qZ (hq := ?_); try exact trivial) | omega)
  · rw [firE, if_neg hc, firR, if_neg hc]; exact .refl _
  · have h0 := hc
    have h1 := hc
    simp only [firstE_cons] at h1
    have hl := chkLims_0 h1.1
    have qe := @qR; repeat' first | (show Run _ (.cond _ _ _) _ _; refine run_condX (fun hc => ?_) (fun hc => ?_) <;> (try simp only [qH, rng_0] at hc) <;> try contradiction) | (show RunOps _ _ _ _ (⟨_, .call 108, _, _, _⟩ :: _) _ _; refine run_callX (hf := pure108 ls m) (hn := ?_)) | (first | refine Stp.h ?_ | (show ∀ K : St → List Ft → Prop, _; intro K hK) | (show runS _ _ _ _ _; first | refine qY (hq := ?_) | refine qZ (hq := ?_)) | (refine hK _ _ ?_; clear hK K) | (refine hK _ _ rfl ?_; clear hK K) | (refine qZ (hq := ?_); try exact trivial) | omega)
    refine run_rfuncI rfl (iter140 ls m (by omega) hl.2 h1.2.1) ?_ ?_ [(4, .lp 4 0), (5, .lp 5 0)] (fun k => [(4, .box [.p (.i .i64 0), .p (.i .i64 0), .p (.i .i64 0)] false), (5, .box [.p (.i .i64 0)] false)]) (fun _ => []) (fun k => k = 0) ?_ ?_ ?_ ?_
    · simp
    · simp [hX]
    · simp only [qS, Nat.reduceAdd, Nat.reduceMul, Nat.reduceEqDiff, Nat.reduceLeDiff, reduceIte, reduceCtorEq, Nat.reduceBEq, Nat.reduceLT]
    · rfl
    · intro k t ht hok X' ro' hX'
      subst hok
      simp only [List.getElem?_map, Option.map_eq_some_iff] at ht
      obtain ⟨w, hy, rfl⟩ := ht
      simp only [qS, Nat.reduceAdd, Nat.reduceMul, Nat.reduceEqDiff, Nat.reduceLeDiff, reduceIte, reduceCtorEq, Nat.reduceBEq, Nat.reduceLT]
      have qe := @qR; repeat' first | (show Run _ (.cond _ _ _) _ _; refine run_condX (fun hc => ?_) (fun hc => ?_) <;> (try simp only [qH, rng_0] at hc) <;> try contradiction) | (first | refine Stp.h ?_ | (show ∀ K : St → List Ft → Prop, _; intro K hK) | (show runS _ _ _ _ _; first | refine qY (hq := ?_) | refine qZ (hq := ?_)) | (refine hK _ _ ?_; clear hK K) | (refine hK _ _ rfl ?_; clear hK K) | (refine qZ (hq := ?_); try exact trivial) | omega)
      intro X1 hX1
      have qe := @qR; repeat' first | (show Run _ (.cond _ _ _) _ _; refine run_condX (fun hc => ?_) (fun hc => ?_) <;> (try simp only [qH, rng_0] at hc) <;> try contradiction) | (first | refine Stp.h ?_ | (show ∀ K : St → List Ft → Prop, _; intro K hK) | (show runS _ _ _ _ _; first | refine qY (hq := ?_) | refine qZ (hq := ?_)) | (refine hK _ _ ?_; clear hK K) | (refine hK _ _ rfl ?_; clear hK K) | (refine qZ (hq := ?_); try exact trivial) | omega)
      cases he : excW ls m with
      | nil => rw [he] at hy; cases hy
      | cons a r =>
        rw [he] at hy
        injection hy with hy
        subst hy
        rw [firE, if_pos h0, firR, if_pos h0, he]; exact .refl _
    · intro hok
      have he : excW ls m = [] := List.eq_nil_of_length_eq_zero (by simpa using hok)
      have qe := @qR; repeat' first | (show Run _ (.cond _ _ _) _ _; refine run_condX (fun hc => ?_) (fun hc => ?_) <;> (try simp only [qH, rng_0] at hc) <;> try contradiction) | (first | refine Stp.h ?_ | (show ∀ K : St → List Ft → Prop, _; intro K hK) | (show runS _ _ _ _ _; first | refine qY (hq := ?_) | refine qZ (hq := ?_)) | (refine hK _ _ ?_; clear hK K) | (refine hK _ _ rfl ?_; clear hK K) | (refine qZ (hq := ?_); try exact trivial) | omega)
      rw [firE, if_pos h0, firR, if_pos h0, he]; exact .refl _
def exE (ls : List Lim) (m : List Mov) : Int := if bothC ls m = 0 then (if 1000 < (excW ls m).length then 5 else 0) else bothC ls m
def exR (ls : List Lim) (m : List Mov) : List Win := if exE ls m = 0 then excW ls m else []
theorem pure58 (ls : List Lim) (m : List Mov) : Pure Tryz.prog 58 [.sl 11 (ls.map Lim.pv), .sl 7 (m.map Mov.pv)] (.tup [.sl 3 ((exR ls m).map Win.pv), .i .i64 (exE ls m)]) := by
  refine pure_by fact58 (by simp) fun hw X hX => ?_
  unfold ac58 rs58
  have qe := @qR; repeat' first | (show Run _ (.cond _ _ _) _ _; refine run_condX (fun hc => ?_) (fun hc => ?_) <;> (try simp only [qH, rng_0] at hc) <;> try contradiction) | (show RunOps _ _ _ _ (⟨_, .call 97, _, _, _⟩ :: _) _ _; refine run_callX (hf := pure97 ls m) (hn := ?_)) | (first | refine Stp.h ?_ | (show ∀ K : St → List Ft → Prop, _; intro K hK) | (show runS _ _ _ _ _; first | refine qY (hq := ?_) | refine qZ (hq := ?_)) | (refine hK _ _ ?_; clear hK K) | (refine hK _ _ rfl ?_; clear hK K) | (refine qZ (hq := ?_); try exact trivial) | omega)
  · have he : exE ls m = bothC ls m := by rw [exE, if_neg hc]
    rw [exR, he, if_neg hc]; exact weak2 (.nilsl _) (.refl _)
  · have h0 := hc
    have h1 := hc
    simp only [firstE_cons] at h1
    have hl := chkLims_0 h1.1
    have qe := @qR; repeat' first | (show Run _ (.cond _ _ _) _ _; refine run_condX (fun hc => ?_) (fun hc => ?_) <;> (try simp only [qH, rng_0] at hc) <;> try contradiction) | (show RunOps _ _ _ _ (⟨_, .call 108, _, _, _⟩ :: _) _ _; refine run_callX (hf := pure108 ls m) (hn := ?_)) | (first | refine Stp.h ?_ | (show ∀ K : St → List Ft → Prop, _; intro K hK) | (show runS _ _ _ _ _; first | refine qY (hq := ?_) | refine qZ (hq := ?_)) | (refine hK _ _ ?_; clear hK K) | (refine hK _ _ rfl ?_; clear hK K) | (refine qZ (hq := ?_); try exact trivial) | omega)
    refine run_own 100 56 3 [(4, .lp 4 0), (5, .lp 5 0), (7, .lp 7 0), (17, .p (.fn (.func 140) [] [.ip (.sl 11 (ls.map Lim.pv)) 0, .ip (.sl 7 (m.map Mov.pv)) 0]))] [(4, .box [.p .nilsl] false), (5, .box [.p (.i .i64 0)] false), (7, .box [.row 100 0] false)] ?_ ?_
    · simp only [Own, ownEnv, ownObj, nilTo, nilTos, qS, Nat.reduceAdd, Nat.reduceMul, Nat.reduceEqDiff, Nat.reduceLeDiff, reduceIte, reduceCtorEq, Nat.reduceBEq, Nat.reduceLT]
    refine run_rfuncI rfl (iter140 ls m (by omega) hl.2 h1.2.1) ?_ ?_ [(4, .lp 4 0), (5, .lp 5 0), (7, .lp 7 0)] (fun k => [(4, .box [.p .nilsl] false), (5, .box [.p (.i .i64 0)] false), (7, .box [.row 100 k] false), (100, .row 56 3 (((excW ls m).take k).map Win.pv) false)]) (fun _ => []) (fun k => k ≤ 1000) ?_ ?_ ?_ ?_
    · simp
    · simp [hX]
    · simp only [qS, Nat.reduceAdd, Nat.reduceMul, Nat.reduceEqDiff, Nat.reduceLeDiff, reduceIte, reduceCtorEq, Nat.reduceBEq, Nat.reduceLT]
    · omega
    · intro k t ht hok X' ro' hX'
      simp only [List.getElem?_map, Option.map_eq_some_iff] at ht
      obtain ⟨w, hy, rfl⟩ := ht
      have hlt := take_len hy
      have hk := (List.getElem?_eq_some_iff.1 hy).1
      simp only [qS, Nat.reduceAdd, Nat.reduceMul, Nat.reduceEqDiff, Nat.reduceLeDiff, reduceIte, reduceCtorEq, Nat.reduceBEq, Nat.reduceLT]
      have qe := @qR; repeat' first | (show Run _ (.cond _ _ _) _ _; refine run_condX (fun hc => ?_) (fun hc => ?_) <;> (try simp only [qH, rng_0] at hc) <;> try contradiction) | (first | refine Stp.h ?_ | (show ∀ K : St → List Ft → Prop, _; intro K hK) | (show runS _ _ _ _ _; first | refine qY (hq := ?_) | refine qZ (hq := ?_)) | (refine hK _ _ ?_; clear hK K) | (refine hK _ _ rfl ?_; clear hK K) | (refine qZ (hq := ?_); try exact trivial) | omega)
      intro X1 hX1
      have qe := And.intro qR (And.intro @hlt (take_snoc Win.pv hy)); repeat' first | (show Run _ (.cond _ _ _) _ _; refine run_condX (fun hc => ?_) (fun hc => ?_) <;> (try simp only [qH, rng_0] at hc) <;> try contradiction) | (first | refine Stp.h ?_ | (show ∀ K : St → List Ft → Prop, _; intro K hK) | (show runS _ _ _ _ _; first | refine qY (hq := ?_) | refine qZ (hq := ?_)) | (refine hK _ _ ?_; clear hK K) | (refine hK _ _ rfl ?_; clear hK K) | (refine qZ (hq := ?_); try exact trivial) | omega)
      · have he : exE ls m = 5 := by rw [exE, if_pos h0, if_pos (by omega)]
        rw [exR, he, if_neg (by decide)]; exact weak2 (.nilsl _) (.refl _)
    · intro hok
      simp only [List.length_map] at hok
      have qe := And.intro qR (And.intro @List.length_map.{0, 0} @List.take_length.{0}); repeat' first | (show Run _ (.cond _ _ _) _ _; refine run_condX (fun hc => ?_) (fun hc => ?_) <;> (try simp only [qH, rng_0] at hc) <;> try contradiction) | (first | refine Stp.h ?_ | (show ∀ K : St → List Ft → Prop, _; intro K hK) | (show runS _ _ _ _ _; first | refine qY (hq := ?_) | refine qZ (hq := ?_)) | (refine hK _ _ ?_; clear hK K) | (refine hK _ _ rfl ?_; clear hK K) | (refine qZ (hq := ?_); try exact trivial) | omega)
      have he : exE ls m = 0 := by rw [exE, if_pos h0, if_neg (by omega)]
      rw [exR, he, if_pos rfl]; exact .refl _
end Go.Proofs.YtcfbdeghmckelaaGreat
