/- Contracts of functions that the proof uses, shared by the claims of this seat; no statement of its own. Part 6. No conditions. -/
import Derived.Test.YtcfbdeghmckelaaGreatJW1
set_option linter.all false
namespace Go.Proofs.YtcfbdeghmckelaaGreat
open Go.RowKit
set_option maxRecDepth 100000
set_option linter.unusedVariables false
set_option linter.unusedSimpArgs false
def dayT (p : Per) (k : Nat) : List (List PV) := if inM p.days ((p.fro + k + 5) % 7) then [[.i .i64 (p.fro + k)]] else []
def daysT (p : Per) (n : Nat) : List (List PV) := (List.range n).flatMap (dayT p)
theorem daysT_eq (p : Per) : daysT p (p.to - p.fro + 1).toNat = (daysL p).map fun d => [.i .i64 d] := by
  simp only [daysT, dayT, daysL, List.map_flatMap]
  congr 1; funext k; simp only [dayT]; split <;> rfl
def ac160 : AC := .seq (.ops false [⟨some 4,.fadr 0,[.t 1],none,[]⟩,⟨some 5,.load 1 false,[.t 4],none,[0]⟩,⟨some 3,.mv,[.t 5],none,[1,0,1]⟩]) (.block 0 (.loop (.seq (.seq (.ops false [⟨some 6,.mv,[.t 3],none,[]⟩,⟨some 7,.fadr 1,[.t 1],none,[]⟩,⟨some 8,.load 1 false,[.t 7],none,[1]⟩,⟨some 9,.bin .leq,[.t 6,.t 8],none,[0,2]⟩]) (.cond (.t 9) .skip (.exit 0))) (.seq (.block 1 (.seq (.ops true [⟨some 12,.fadr 2,[.t 1],none,[]⟩,⟨some 13,.load 1 false,[.t 12],none,[0]⟩,⟨some 14,.mv,[.t 3],none,[]⟩,⟨some 15,.call 162,[.t 14],none,[2]⟩,⟨some 16,.call 161,[.t 13,.t 15],none,[1,3,3]⟩,⟨some 17,.mv,[.t 16],none,[4,4]⟩,⟨some 18,.mv,[.t 0],some (17,true),[5]⟩,⟨some 19,.mv,[.t 3],some (17,true),[5]⟩,⟨some 20,.callv,[.t 18,.t 19],some (17,true),[6,7,5,5]⟩,⟨some 21,.not,[.t 20],some (17,true),[8,5]⟩,⟨some 22,.pick,[.t 17,.t 21,.c (.b false)],none,[5,9]⟩]) (.cond (.t 22) .ret .skip))) (.ops false [⟨some 10,.mv,[.t 3],none,[]⟩,⟨some 11,.bin .add,[.t 10,.c (.i .i64 1)],none,[0]⟩,⟨some 3,.mv,[.t 11],none,[1,0,1]⟩])))))
def rs160 : List RV := []
theorem fact160 : compF Tryz.prog 160 = some (ac160,rs160,23) := by kernel_rfl
def ac150 : AC := .seq (.ops false [⟨some 3,.box,[.t 1],none,[]⟩,⟨some 4,.mv,[.c .nilsl],none,[]⟩]) (.seq (.ops false [⟨some 5,.alloc [.nilsl],[],none,[]⟩]) (.seq (.seq (.ops false [⟨some 7,.mv,[.t 0],none,[]⟩]) (.block 0 (.rfunc (.t 7) [8] (.ops false [⟨some 6,.mv,[.t 8],none,[]⟩]) (.block 1 (.seq (.ops false [⟨some 9,.load 1 false,[.t 3],none,[]⟩,⟨some 10,.mv,[.t 6],none,[]⟩,⟨some 11,.callv,[.t 9,.t 10],none,[0,1]⟩]) (.cond (.t 11) (.ops false [⟨some 12,.load 1 false,[.t 5],none,[]⟩,⟨some 13,.mv,[.t 6],none,[]⟩,⟨some 14,.bslice 3 1 (.i .i64 0) 1 [0],[.t 13],none,[1]⟩,⟨some 15,.app 3 1 8,[.t 12,.t 14],none,[0,2]⟩,⟨none,.store 1,[.t 5,.t 15],none,[3,3,0,1,2,3]⟩]) .skip)))))) (.seq (.ops false [⟨some 16,.load 1 false,[.t 5],none,[]⟩,⟨some 4,.mv,[.t 16],none,[0,0]⟩]) .ret)))
def rs150 : List RV := [.tmp 4]
theorem fact150 : compF Tryz.prog 150 = some (ac150,rs150,17) := by kernel_rfl
def ac151 : AC := .seq (.ops false [⟨some 1,.box,[.t 0],none,[]⟩,⟨some 2,.mv,[.c .nilf],none,[]⟩]) (.seq (.ops false [⟨some 3,.mkfn (.func 160) 0,[.t 1],none,[]⟩,⟨some 2,.mv,[.t 3],none,[0,0]⟩]) .ret)
def rs151 : List RV := [.tmp 2]
theorem fact151 : compF Tryz.prog 151 = some (ac151,rs151,4) := by kernel_rfl
def ac152 : AC := .seq (.ops false [⟨some 2,.mv,[.c (.b false)],none,[]⟩]) (.seq (.ops false [⟨some 2,.mv,[.c (.b true)],none,[]⟩]) .ret)
def rs152 : List RV := [.tmp 2]
theorem fact152 : compF Tryz.prog 152 = some (ac152,rs152,3) := by kernel_rfl
def ac126 : AC := .seq (.ops false [⟨some 1,.box,[.t 0],none,[]⟩,⟨some 2,.mv,[.c .nilsl],none,[]⟩,⟨some 3,.mv,[.c (.i .i64 0)],none,[1]⟩]) (.seq (.seq (.ops false [⟨some 5,.load 3 true,[.t 1],none,[]⟩,⟨some 6,.call 124,[.t 5],none,[0]⟩,⟨some 4,.mv,[.t 6],none,[1,1,0,1]⟩]) (.seq (.ops false [⟨some 7,.mv,[.t 4],none,[]⟩,⟨some 8,.bin .neq,[.t 7,.c (.i .i64 0)],none,[0]⟩]) (.cond (.t 8) (.seq (.ops false [⟨some 9,.mv,[.t 4],none,[]⟩,⟨some 2,.mv,[.c .nilsl],none,[]⟩,⟨some 3,.mv,[.t 9],none,[0,1,0,1]⟩]) .ret) .skip))) (.seq (.ops false [⟨some 10,.load 3 true,[.t 1],none,[]⟩,⟨some 11,.call 151,[.t 10],none,[0]⟩,⟨some 12,.call 150,[.t 11,.c (.fn (.func 152) [] [])],none,[1,1]⟩,⟨some 2,.mv,[.t 12],none,[2,2,0,1,2]⟩,⟨some 3,.mv,[.c (.i .i64 0)],none,[3,0,1,2,3]⟩]) .ret))
def rs126 : List RV := [.tmp 2,.tmp 3]
theorem fact126 : compF Tryz.prog 126 = some (ac126,rs126,13) := by kernel_rfl
def ac132 : AC := .seq (.ops false [⟨some 2,.box,[.t 0],none,[]⟩,⟨some 4,.mv,[.c (.b false)],none,[]⟩,⟨some 5,.mv,[.c (.i .i64 0)],none,[1]⟩]) (.seq (.seq (.ops false [⟨some 7,.load 3 true,[.t 2],none,[]⟩,⟨some 8,.call 124,[.t 7],none,[0]⟩,⟨some 9,.mv,[.t 1],none,[]⟩,⟨some 10,.call 147,[.t 9],none,[2,1]⟩,⟨some 11,.bslice 34 1 (.i .i64 0) 2 [0,1],[.t 8,.t 10],none,[1,3]⟩,⟨some 12,.call 146,[.t 11],none,[4,3]⟩,⟨some 6,.mv,[.t 12],none,[5,5,0,1,2,3,4,5]⟩]) (.seq (.ops false [⟨some 13,.mv,[.t 6],none,[]⟩,⟨some 14,.bin .neq,[.t 13,.c (.i .i64 0)],none,[0]⟩]) (.cond (.t 14) (.seq (.ops false [⟨some 15,.mv,[.t 6],none,[]⟩,⟨some 4,.mv,[.c (.b false)],none,[]⟩,⟨some 5,.mv,[.t 15],none,[0,1,0,1]⟩]) .ret) .skip))) (.seq (.ops false [⟨some 16,.load 3 true,[.t 2],none,[]⟩,⟨some 17,.mv,[.t 1],none,[]⟩,⟨some 18,.call 156,[.t 16,.t 17],none,[0,1]⟩,⟨some 4,.mv,[.t 18],none,[2,2,0,1,2]⟩,⟨some 5,.mv,[.c (.i .i64 0)],none,[3,0,1,2,3]⟩]) .ret))
def rs132 : List RV := [.tmp 4,.tmp 5]
theorem fact132 : compF Tryz.prog 132 = some (ac132,rs132,19) := by kernel_rfl
theorem iter160 (p : Per) (h : chkPer p = 0) : Iter Tryz.prog 160 [.ip p.pv 0] ((daysL p).map fun d => [.i .i64 d]) := by
  have hp := chkPer_0 h
  rw [← daysT_eq]
  refine iter_by fact160 (by simp) fun hw X hX => ?_
  unfold ac160
  simp only [iterSt]
  repeat' first | (show Run _ (.cond _ _ _) _ _; refine run_condX (fun hc => ?_) (fun hc => ?_) <;> (try simp only [qH, rng_0] at hc) <;> try contradiction) | (first | refine Stp.h ?_ | (show ∀ K : St → List Ft → Prop, _; intro K hK) | (show runS _ _ _ _ _; first | refine qY (hq := ?_) | refine qZ (hq := ?_)) | (refine hK _ _ ?_; clear hK K) | (refine hK _ _ rfl ?_; clear hK K) | (refine qZ (hq := ?_); try exact trivial) | omega)
  refine run_loop (κ := Nat) (fun k => ⟨[(0, .yield), (1, .p (.ip p.pv 0)), (3, .p (.i .i64 (p.fro + k)))], [], daysT p k, false⟩) (fun k => k ≤ (p.to - p.fro + 1).toNat) (fun k => (p.to - p.fro + 1).toNat - k) 0 ?_ ?_ ?_
  · simp only [qS, Nat.reduceAdd, Nat.reduceMul, Nat.reduceEqDiff, Nat.reduceLeDiff, reduceIte, reduceCtorEq, Nat.reduceBEq, Nat.reduceLT] <;> simp [daysT]
  · simp
  · intro k hk
    repeat' first | (show Run _ (.cond _ _ _) _ _; refine run_condX (fun hc => ?_) (fun hc => ?_) <;> (try simp only [qH, rng_0] at hc) <;> try contradiction) | (first | refine Stp.h ?_ | (show ∀ K : St → List Ft → Prop, _; intro K hK) | (show runS _ _ _ _ _; first | refine qY (hq := ?_) | refine qZ (hq := ?_)) | (refine hK _ _ ?_; clear hK K) | (refine hK _ _ rfl ?_; clear hK K) | (refine qZ (hq := ?_); try exact trivial) | omega)
    · have hc' : k < (p.to - p.fro + 1).toNat := by omega
      have hs := range_split (dayT p) hc'
      by_cases hm : inM p.days ((p.fro + k + 5) % 7) = true
      · simp only [dayT, hm, if_true, List.singleton_append] at hs
        have qe := @hm; repeat' first | (show Run _ (.cond _ _ _) _ _; refine run_condX (fun hc => ?_) (fun hc => ?_) <;> (try simp only [qH, rng_0] at hc) <;> try contradiction) | (show RunOps _ _ _ _ (⟨_, .call 162, _, _, _⟩ :: _) _ _; refine run_callX (hf := pure162 _ (by omega) (by omega)) (hn := ?_)) | (show RunOps _ _ _ _ (⟨_, .call 161, _, _, _⟩ :: _) _ _; refine run_callX (hf := pure161 _ _ (by omega) (by omega) (by omega) (by omega)) (hn := ?_)) | (first | refine Stp.h ?_ | (show ∀ K : St → List Ft → Prop, _; intro K hK) | (show runS _ _ _ _ _; first | refine qY (hq := ?_) | refine qZ (hq := ?_)) | (refine hK _ _ ?_; clear hK K) | (refine hK _ _ rfl ?_; clear hK K) | (refine qZ (hq := ?_); try exact trivial) | omega)
        have qe := @hm; (show RunOps _ _ _ _ (⟨_, .callv, _, _, _⟩ :: _) _ _; refine run_yld (by first | rfl | (simp (disch := omega) only [qG, qe, Nat.reduceAdd, Nat.reduceMul, Nat.reduceEqDiff, Nat.reduceLeDiff, reduceIte, reduceCtorEq, Nat.reduceBEq, Nat.reduceLT] <;> rfl)) (by simp (disch := omega) only [qS, qe, Nat.reduceAdd, Nat.reduceMul, Nat.reduceEqDiff, Nat.reduceLeDiff, reduceIte, reduceCtorEq, Nat.reduceBEq, Nat.reduceLT]) (by simp (disch := omega) only [qS, qe, Nat.reduceAdd, Nat.reduceMul, Nat.reduceEqDiff, Nat.reduceLeDiff, reduceIte, reduceCtorEq, Nat.reduceBEq, Nat.reduceLT] <;> rfl) (by simp (disch := omega) only [qS, qe, Nat.reduceAdd, Nat.reduceMul, Nat.reduceEqDiff, Nat.reduceLeDiff, reduceIte, reduceCtorEq, Nat.reduceBEq, Nat.reduceLT]; try trivial) rfl _ (hs) ?_; intro b; (refine run_ops ?_))
        have qe := @hm; repeat' first | (show Run _ (.cond _ _ _) _ _; refine run_condX (fun hc => ?_) (fun hc => ?_) <;> (try simp only [qH, rng_0] at hc) <;> try contradiction) | (first | refine Stp.h ?_ | (show ∀ K : St → List Ft → Prop, _; intro K hK) | (show runS _ _ _ _ _; first | refine qY (hq := ?_) | refine qZ (hq := ?_)) | (refine hK _ _ ?_; clear hK K) | (refine hK _ _ rfl ?_; clear hK K) | (refine qZ (hq := ?_); try exact trivial) | omega)
        · subst hc; exact .inl rfl
        · subst hc; refine ⟨k + 1, by omega, by omega, by simp; omega, ?_, rfl⟩
          simp only [daysT, range_next, dayT, hm]; simp
      · simp only [Bool.not_eq_true] at hm
        have qe := @hm; repeat' first | (show Run _ (.cond _ _ _) _ _; refine run_condX (fun hc => ?_) (fun hc => ?_) <;> (try simp only [qH, rng_0] at hc) <;> try contradiction) | (show RunOps _ _ _ _ (⟨_, .call 162, _, _, _⟩ :: _) _ _; refine run_callX (hf := pure162 _ (by omega) (by omega)) (hn := ?_)) | (show RunOps _ _ _ _ (⟨_, .call 161, _, _, _⟩ :: _) _ _; refine run_callX (hf := pure161 _ _ (by omega) (by omega) (by omega) (by omega)) (hn := ?_)) | (show RunOps _ _ _ _ (⟨_, .callv, _, _, _⟩ :: _) _ _; refine run_callN (q := (.b false)) (by first | rfl | (simp (disch := omega) only [qG, qe, Nat.reduceAdd, Nat.reduceMul, Nat.reduceEqDiff, Nat.reduceLeDiff, reduceIte, reduceCtorEq, Nat.reduceBEq, Nat.reduceLT] <;> rfl)) ?_; (try (refine run_ops ?_))) | (first | refine Stp.h ?_ | (show ∀ K : St → List Ft → Prop, _; intro K hK) | (show runS _ _ _ _ _; first | refine qY (hq := ?_) | refine qZ (hq := ?_)) | (refine hK _ _ ?_; clear hK K) | (refine hK _ _ rfl ?_; clear hK K) | (refine qZ (hq := ?_); try exact trivial) | omega)
        refine ⟨k + 1, by omega, by omega, by simp; omega, ?_⟩
        simp only [daysT, range_next, dayT, hm]; simp
    · repeat' first | (show Run _ (.cond _ _ _) _ _; refine run_condX (fun hc => ?_) (fun hc => ?_) <;> (try simp only [qH, rng_0] at hc) <;> try contradiction) | (first | refine Stp.h ?_ | (show ∀ K : St → List Ft → Prop, _; intro K hK) | (show runS _ _ _ _ _; first | refine qY (hq := ?_) | refine qZ (hq := ?_)) | (refine hK _ _ ?_; clear hK K) | (refine hK _ _ rfl ?_; clear hK K) | (refine qZ (hq := ?_); try exact trivial) | omega)
      have e : k = (p.to - p.fro + 1).toNat := by omega
      subst e; exact .inr rfl
theorem pure152 (d : Int) : Pure Tryz.prog 152 [.i .i64 d] (.b true) := by
  refine pure_by fact152 (by simp) fun hw X hX => ?_
  unfold ac152 rs152
  repeat' first | (show Run _ (.cond _ _ _) _ _; refine run_condX (fun hc => ?_) (fun hc => ?_) <;> (try simp only [qH, rng_0] at hc) <;> try contradiction) | (first | refine Stp.h ?_ | (show ∀ K : St → List Ft → Prop, _; intro K hK) | (show runS _ _ _ _ _; first | refine qY (hq := ?_) | refine qZ (hq := ?_)) | (refine hK _ _ ?_; clear hK K) | (refine hK _ _ rfl ?_; clear hK K) | (refine qZ (hq := ?_); try exact trivial) | omega)
  exact .refl _
theorem pure151 (p : Per) : Pure Tryz.prog 151 [p.pv] (.fn (.func 160) [] [.ip p.pv 0]) := by
  refine pure_by fact151 (by simp) fun hw X hX => ?_
  unfold ac151 rs151
  repeat' first | (show Run _ (.cond _ _ _) _ _; refine run_condX (fun hc => ?_) (fun hc => ?_) <;> (try simp only [qH, rng_0] at hc) <;> try contradiction) | (first | refine Stp.h ?_ | (show ∀ K : St → List Ft → Prop, _; intro K hK) | (show runS _ _ _ _ _; first | refine qY (hq := ?_) | refine qZ (hq := ?_)) | (refine hK _ _ ?_; clear hK K) | (refine hK _ _ rfl ?_; clear hK K) | (refine qZ (hq := ?_); try exact trivial) | omega)
  exact .refl _
theorem pure150 (p : Per) (h : chkPer p = 0) : Pure Tryz.prog 150 [.fn (.func 160) [] [.ip p.pv 0], .fn (.func 152) [] []] (.sl 1 ((daysL p).map (.i .i64))) := by
  refine pure_by fact150 (by simp) fun hw X hX => ?_
  unfold ac150 rs150
  repeat' first | (show Run _ (.cond _ _ _) _ _; refine run_condX (fun hc => ?_) (fun hc => ?_) <;> (try simp only [qH, rng_0] at hc) <;> try contradiction) | (first | refine Stp.h ?_ | (show ∀ K : St → List Ft → Prop, _; intro K hK) | (show runS _ _ _ _ _; first | refine qY (hq := ?_) | refine qZ (hq := ?_)) | (refine hK _ _ ?_; clear hK K) | (refine hK _ _ rfl ?_; clear hK K) | (refine qZ (hq := ?_); try exact trivial) | omega)
  have hp := chkPer_0 h
  have hn := daysL_len p
  refine run_own 100 3 1 [(3, .lp 3 0), (5, .lp 5 0), (7, .p (.fn (.func 160) [] [.ip p.pv 0]))] [(3, .box [.p (.fn (.func 152) [] [])] false), (5, .box [.row 100 0] false)] ?_ ?_
  · simp only [Own, ownEnv, ownObj, nilTo, nilTos, qS, Nat.reduceAdd, Nat.reduceMul, Nat.reduceEqDiff, Nat.reduceLeDiff, reduceIte, reduceCtorEq, Nat.reduceBEq, Nat.reduceLT]
  refine run_rfunc rfl (iter160 p h) ?_ ?_ [(3, .lp 3 0), (5, .lp 5 0), (7, .p (.fn (.func 160) [] [.ip p.pv 0]))] (fun k => [(3, .box [.p (.fn (.func 152) [] [])] false), (5, .box [.row 100 k] false), (100, .row 3 1 (((daysL p).take k).map (.i .i64)) false)]) (fun _ => []) ?_ ?_ ?_
  · simp
  · simp [hX]
  · simp only [qS, Nat.reduceAdd, Nat.reduceMul, Nat.reduceEqDiff, Nat.reduceLeDiff, reduceIte, reduceCtorEq, Nat.reduceBEq, Nat.reduceLT]
  · intro k t ht X' ro' hX'
    simp only [List.getElem?_map, Option.map_eq_some_iff] at ht
    obtain ⟨d, hd, rfl⟩ := ht
    have hl := take_len hd
    have hk := (List.getElem?_eq_some_iff.1 hd).1
    simp only [qS, Nat.reduceAdd, Nat.reduceMul, Nat.reduceEqDiff, Nat.reduceLeDiff, reduceIte, reduceCtorEq, Nat.reduceBEq, Nat.reduceLT]
    repeat' first | (show Run _ (.cond _ _ _) _ _; refine run_condX (fun hc => ?_) (fun hc => ?_) <;> (try simp only [qH, rng_0] at hc) <;> try contradiction) | (first | refine Stp.h ?_ | (show ∀ K : St → List Ft → Prop, _; intro K hK) | (show runS _ _ _ _ _; first | refine qY (hq := ?_) | refine qZ (hq := ?_)) | (refine hK _ _ ?_; clear hK K) | (refine hK _ _ rfl ?_; clear hK K) | (refine qZ (hq := ?_); try exact trivial) | omega)
    intro X1 hX1
    have qe := And.intro qR (And.intro @hl (take_snoc (PV.i .i64) hd)); repeat' first | (show Run _ (.cond _ _ _) _ _; refine run_condX (fun hc => ?_) (fun hc => ?_) <;> (try simp only [qH, rng_0] at hc) <;> try contradiction) | (show RunOps _ _ _ _ (⟨_, .callv, _, _, _⟩ :: _) _ _; refine run_callVX (hf := pure152 _) (hn := ?_)) | (first | refine Stp.h ?_ | (show ∀ K : St → List Ft → Prop, _; intro K hK) | (show runS _ _ _ _ _; first | refine qY (hq := ?_) | refine qZ (hq := ?_)) | (refine hK _ _ ?_; clear hK K) | (refine hK _ _ rfl ?_; clear hK K) | (refine qZ (hq := ?_); try exact trivial) | omega)
  · simp only [List.length_map]
    have qe := @List.take_length.{0}; repeat' first | (show Run _ (.cond _ _ _) _ _; refine run_condX (fun hc => ?_) (fun hc => ?_) <;> (try simp only [qH, rng_0] at hc) <;> try contradiction) | (first | refine Stp.h ?_ | (show ∀ K : St → List Ft → Prop, _; intro K hK) | (show runS _ _ _ _ _; first | refine qY (hq := ?_) | refine qZ (hq := ?_)) | (refine hK _ _ ?_; clear hK K) | (refine hK _ _ rfl ?_; clear hK K) | (refine qZ (hq := ?_); try exact trivial) | omega)
    exact .refl _
theorem weak2 {a b c d : PV} (h1 : Weak a b) (h2 : Weak c d) : Weak (.tup [a, c]) (.tup [b, d]) := by
  refine .tup rfl fun j x y hx hy => ?_
  match j with
  | 0 => simp at hx hy; subst hx; subst hy; exact h1
  | 1 => simp at hx hy; subst hx; subst hy; exact h2
  | j + 2 => simp at hx
def daysR (p : Per) : List Int := if chkPer p = 0 then daysL p else []
theorem pure126 (p : Per) : Pure Tryz.prog 126 [p.pv] (.tup [.sl 1 ((daysR p).map (.i .i64)), .i .i64 (chkPer p)]) := by
  refine pure_by fact126 (by simp) fun hw X hX => ?_
  unfold ac126 rs126
  repeat' first | (show Run _ (.cond _ _ _) _ _; refine run_condX (fun hc => ?_) (fun hc => ?_) <;> (try simp only [qH, rng_0] at hc) <;> try contradiction) | (show RunOps _ _ _ _ (⟨_, .call 124, _, _, _⟩ :: _) _ _; refine run_callX (hf := pure124 _) (hn := ?_)) | (show RunOps _ _ _ _ (⟨_, .call 151, _, _, _⟩ :: _) _ _; refine run_callX (hf := pure151 _) (hn := ?_)) | (show RunOps _ _ _ _ (⟨_, .call 150, _, _, _⟩ :: _) _ _; refine run_callX (hf := pure150 p hc) (hn := ?_)) | (first | refine Stp.h ?_ | (show ∀ K : St → List Ft → Prop, _; intro K hK) | (show runS _ _ _ _ _; first | refine qY (hq := ?_) | refine qZ (hq := ?_)) | (refine hK _ _ ?_; clear hK K) | (refine hK _ _ rfl ?_; clear hK K) | (refine qZ (hq := ?_); try exact trivial) | omega)
  · rw [daysR, if_neg hc]; exact weak2 (.nilsl _) (.refl _)
  · rw [daysR, if_pos hc, hc]; exact .refl _
def hasE (p : Per) (d : Int) : Int := firstE [chkPer p, rng d 0 99999]
def hasB (p : Per) (d : Int) : Bool := decide (hasE p d = 0) && hasD p d
theorem pure132 (p : Per) (d : Int) : Pure Tryz.prog 132 [p.pv, .i .i64 d] (.tup [.b (hasB p d), .i .i64 (hasE p d)]) := by
  refine pure_by fact132 (by simp) fun hw X hX => ?_
  unfold ac132 rs132
  have qe := @qR; repeat' first | (show Run _ (.cond _ _ _) _ _; refine run_condX (fun hc => ?_) (fun hc => ?_) <;> (try simp only [qH, rng_0] at hc) <;> try contradiction) | (show RunOps _ _ _ _ (⟨_, .call 124, _, _, _⟩ :: _) _ _; refine run_callX (hf := pure124 _) (hn := ?_)) | (show RunOps _ _ _ _ (⟨_, .call 147, _, _, _⟩ :: _) _ _; refine run_callX (hf := pure147 _) (hn := ?_)) | (show RunOps _ _ _ _ (⟨_, .call 146, _, _, _⟩ :: _) _ _; refine run_callX (hf := pure146 [_, _]) (hn := ?_)) | (first | refine Stp.h ?_ | (show ∀ K : St → List Ft → Prop, _; intro K hK) | (show runS _ _ _ _ _; first | refine qY (hq := ?_) | refine qZ (hq := ?_)) | (refine hK _ _ ?_; clear hK K) | (refine hK _ _ rfl ?_; clear hK K) | (refine qZ (hq := ?_); try exact trivial) | omega)
  · have : hasE p d ≠ 0 := hc
    simp only [hasB, this, decide_false, Bool.false_and]; exact .refl _
  · have h0 : hasE p d = 0 := hc
    have h1 := h0
    simp only [hasE, firstE_cons, rng_0] at h1
    have hp := chkPer_0 h1.1
    repeat' first | (show Run _ (.cond _ _ _) _ _; refine run_condX (fun hc => ?_) (fun hc => ?_) <;> (try simp only [qH, rng_0] at hc) <;> try contradiction) | (show RunOps _ _ _ _ (⟨_, .call 156, _, _, _⟩ :: _) _ _; refine run_callX (hf := pure156 p d (by omega) (by omega) (by omega) (by omega)) (hn := ?_)) | (first | refine Stp.h ?_ | (show ∀ K : St → List Ft → Prop, _; intro K hK) | (show runS _ _ _ _ _; first | refine qY (hq := ?_) | refine qZ (hq := ?_)) | (refine hK _ _ ?_; clear hK K) | (refine hK _ _ rfl ?_; clear hK K) | (refine qZ (hq := ?_); try exact trivial) | omega)
    simp only [hasB, h0, decide_true, Bool.true_and]; exact .refl _
end Go.Proofs.YtcfbdeghmckelaaGreat
