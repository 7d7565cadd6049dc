/- Contracts of functions that the proof uses, shared by the claims of this seat; no statement of its own. Part 24. No conditions. -/
import Derived.Test.YtcfbdeghmckelaaGreatJW16
set_option linter.all false
namespace Go.Proofs.YtcfbdeghmckelaaGreat
open Go.RowKit
set_option maxRecDepth 100000
set_option linter.unusedVariables false
set_option linter.unusedSimpArgs false
set_option maxHeartbeats 2000000
def ac138 : AC := .seq (.ops false [⟨some 2,.box,[.t 0],none,[]⟩,⟨some 4,.mv,[.c .nilsl],none,[]⟩]) (.seq (.seq (.ops false [⟨some 6,.mv,[.t 1],none,[]⟩]) (.block 0 (.rfunc (.t 6) [7] (.ops false [⟨some 5,.alloc [(.i .i64 0),(.i .i64 0),(.i .i64 0)],[],none,[]⟩,⟨none,.store 3,[.t 5,.t 7],none,[0,0]⟩]) (.block 1 (.ops false [⟨some 8,.load 1 false,[.t 2],none,[]⟩,⟨some 9,.load 3 true,[.t 5],none,[]⟩,⟨some 10,.bslice 56 3 (.agg [(.i .i64 0),(.i .i64 0),(.i .i64 0)]) 1 [0],[.t 9],none,[1]⟩,⟨some 11,.app 56 3 24,[.t 8,.t 10],none,[0,2]⟩,⟨none,.store 1,[.t 2,.t 11],none,[3,3,0,1,2,3]⟩]))))) (.seq (.ops false [⟨some 12,.load 1 false,[.t 2],none,[]⟩,⟨some 4,.mv,[.t 12],none,[0,0]⟩]) .ret))
def rs138 : List RV := [.tmp 4]
theorem fact138 : compF Tryz.prog 138 = some (ac138,rs138,13) := by kernel_rfl
def ac101 : AC := .seq (.ops false [⟨some 2,.mv,[.c .nilsl],none,[]⟩]) (.seq (.ops false [⟨some 3,.mv,[.t 0],none,[]⟩,⟨some 4,.call 138,[.c .nilsl,.t 3],none,[0]⟩,⟨some 2,.mv,[.t 4],none,[1,1,0,1]⟩]) .ret)
def rs101 : List RV := [.tmp 2]
theorem fact101 : compF Tryz.prog 101 = some (ac101,rs101,5) := by kernel_rfl
def ac102 : AC := .seq (.ops false [⟨some 3,.box,[.t 0],none,[]⟩,⟨some 4,.box,[.t 1],none,[]⟩,⟨some 5,.box,[.t 2],none,[]⟩,⟨some 6,.mv,[.c .nilf],none,[]⟩]) (.seq (.ops false [⟨some 7,.mkfn (.func 139) 0,[.t 3,.t 5,.t 4],none,[]⟩,⟨some 6,.mv,[.t 7],none,[0,0]⟩]) .ret)
def rs102 : List RV := [.tmp 6]
theorem fact102 : compF Tryz.prog 102 = some (ac102,rs102,8) := by kernel_rfl
theorem pure138 {f : Nat} {caps : List PV} {L : List Win} (hit : Iter Tryz.prog f caps (L.map tupW)) (hn : L.length ≤ 1000000) : Pure Tryz.prog 138 [.nilsl, .fn (.func f) [] caps] (.sl 3 (L.map Win.pv)) := by
  refine pure_by fact138 (by simp) fun hw X hX => ?_
  unfold ac138 rs138
  repeat' first | (show Run _ (.cond _ _ _) _ _; refine run_condX (fun hc => ?_) (fun hc => ?_) <;> (try simp only [qH, rng_0] at hc) <;> try contradiction) | (first | refine Stp.h ?_ | (show ∀ K : St → List Ft → Prop, _; intro K hK) | (show runS _ _ _ _ _; first | refine qY (hq := ?_) | refine qZ (hq := ?_)) | (refine hK _ _ ?_; clear hK K) | (refine hK _ _ rfl ?_; clear hK K) | (refine qZ (hq := ?_); try exact trivial) | omega)
  refine run_own 100 56 3 [(2, .lp 2 0), (6, .p (.fn (.func f) [] caps))] [(2, .box [.row 100 0] false)] ?_ ?_
  · simp only [Own, ownEnv, ownObj, nilTo, nilTos, qS, Nat.reduceAdd, Nat.reduceMul, Nat.reduceEqDiff, Nat.reduceLeDiff, reduceIte, reduceCtorEq, Nat.reduceBEq, Nat.reduceLT]
  refine run_rfunc rfl hit ?_ ?_ [(2, .lp 2 0), (6, .p (.fn (.func f) [] caps))] (fun k => [(2, .box [.row 100 k] false), (100, .row 56 3 ((L.take k).map Win.pv) false)]) (fun _ => []) ?_ ?_ ?_
  · simp
  · simp [hX]
  · simp only [qS, Nat.reduceAdd, Nat.reduceMul, Nat.reduceEqDiff, Nat.reduceLeDiff, reduceIte, reduceCtorEq, Nat.reduceBEq, Nat.reduceLT]
  · intro k t ht X' ro' hX'
    simp only [List.getElem?_map, Option.map_eq_some_iff] at ht
    obtain ⟨w, hy, rfl⟩ := ht
    have hlt := take_len hy
    have hk := (List.getElem?_eq_some_iff.1 hy).1
    simp only [qS, Nat.reduceAdd, Nat.reduceMul, Nat.reduceEqDiff, Nat.reduceLeDiff, reduceIte, reduceCtorEq, Nat.reduceBEq, Nat.reduceLT]
    have qe := @qR; repeat' first | (show Run _ (.cond _ _ _) _ _; refine run_condX (fun hc => ?_) (fun hc => ?_) <;> (try simp only [qH, rng_0] at hc) <;> try contradiction) | (first | refine Stp.h ?_ | (show ∀ K : St → List Ft → Prop, _; intro K hK) | (show runS _ _ _ _ _; first | refine qY (hq := ?_) | refine qZ (hq := ?_)) | (refine hK _ _ ?_; clear hK K) | (refine hK _ _ rfl ?_; clear hK K) | (refine qZ (hq := ?_); try exact trivial) | omega)
    intro X1 hX1
    have qe := And.intro qR (And.intro @hlt (take_snoc Win.pv hy)); repeat' first | (show Run _ (.cond _ _ _) _ _; refine run_condX (fun hc => ?_) (fun hc => ?_) <;> (try simp only [qH, rng_0] at hc) <;> try contradiction) | (first | refine Stp.h ?_ | (show ∀ K : St → List Ft → Prop, _; intro K hK) | (show runS _ _ _ _ _; first | refine qY (hq := ?_) | refine qZ (hq := ?_)) | (refine hK _ _ ?_; clear hK K) | (refine hK _ _ rfl ?_; clear hK K) | (refine qZ (hq := ?_); try exact trivial) | omega)
  · simp only [List.length_map]
    have qe := @List.take_length.{0}; repeat' first | (show Run _ (.cond _ _ _) _ _; refine run_condX (fun hc => ?_) (fun hc => ?_) <;> (try simp only [qH, rng_0] at hc) <;> try contradiction) | (first | refine Stp.h ?_ | (show ∀ K : St → List Ft → Prop, _; intro K hK) | (show runS _ _ _ _ _; first | refine qY (hq := ?_) | refine qZ (hq := ?_)) | (refine hK _ _ ?_; clear hK K) | (refine hK _ _ rfl ?_; clear hK K) | (refine qZ (hq := ?_); try exact trivial) | omega)
    exact .refl _
theorem pure101 {f : Nat} {caps : List PV} {L : List Win} (hit : Iter Tryz.prog f caps (L.map tupW)) (hn : L.length ≤ 1000000) : Pure Tryz.prog 101 [.fn (.func f) [] caps] (.sl 3 (L.map Win.pv)) := by
  refine pure_by fact101 (by simp) fun hw X hX => ?_
  unfold ac101 rs101
  repeat' first | (show Run _ (.cond _ _ _) _ _; refine run_condX (fun hc => ?_) (fun hc => ?_) <;> (try simp only [qH, rng_0] at hc) <;> try contradiction) | (show RunOps _ _ _ _ (⟨_, .call 138, _, _, _⟩ :: _) _ _; refine run_callX (hf := pure138 hit hn) (hn := ?_)) | (first | refine Stp.h ?_ | (show ∀ K : St → List Ft → Prop, _; intro K hK) | (show runS _ _ _ _ _; first | refine qY (hq := ?_) | refine qZ (hq := ?_)) | (refine hK _ _ ?_; clear hK K) | (refine hK _ _ rfl ?_; clear hK K) | (refine qZ (hq := ?_); try exact trivial) | omega)
  exact .refl _
theorem pure102 (ls : List Lim) (m : List Mov) (o : Mov) : Pure Tryz.prog 102 [.sl 11 (ls.map Lim.pv), .sl 7 (m.map Mov.pv), o.pv] (.fn (.func 139) [] [.ip (.sl 11 (ls.map Lim.pv)) 0, .ip o.pv 0, .ip (.sl 7 (m.map Mov.pv)) 0]) := by
  refine pure_by fact102 (by simp) fun hw X hX => ?_
  unfold ac102 rs102
  repeat' first | (show Run _ (.cond _ _ _) _ _; refine run_condX (fun hc => ?_) (fun hc => ?_) <;> (try simp only [qH, rng_0] at hc) <;> try contradiction) | (first | refine Stp.h ?_ | (show ∀ K : St → List Ft → Prop, _; intro K hK) | (show runS _ _ _ _ _; first | refine qY (hq := ?_) | refine qZ (hq := ?_)) | (refine hK _ _ ?_; clear hK K) | (refine hK _ _ rfl ?_; clear hK K) | (refine qZ (hq := ?_); try exact trivial) | omega)
  exact .refl _
end Go.Proofs.YtcfbdeghmckelaaGreat
