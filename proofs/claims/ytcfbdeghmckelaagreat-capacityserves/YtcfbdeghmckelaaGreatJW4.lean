/- Contracts of functions that the proof uses, shared by the claims of this seat; no statement of its own. Part 7. No conditions. -/
import Derived.Test.YtcfbdeghmckelaaGreatJW1
set_option linter.all false
namespace Go.Proofs.YtcfbdeghmckelaaGreat
open Go.RowKit
set_option maxRecDepth 100000
set_option linter.unusedVariables false
set_option linter.unusedSimpArgs false
def ac82 : AC := .seq (.ops false [⟨some 1,.box,[.t 0],none,[]⟩,⟨some 2,.mv,[.c (.i .i64 0)],none,[]⟩]) (.seq (.seq (.ops false [⟨some 3,.fadr 0,[.t 1],none,[]⟩,⟨some 4,.load 1 false,[.t 3],none,[0]⟩,⟨some 5,.call 127,[.t 4],none,[1]⟩,⟨some 6,.bin .neq,[.t 5,.c (.i .i64 0)],none,[2]⟩,⟨some 7,.mv,[.t 6],none,[3,2]⟩,⟨some 8,.fadr 1,[.t 1],some (7,false),[4]⟩,⟨some 9,.load 1 false,[.t 8],some (7,false),[5,4]⟩,⟨some 10,.call 127,[.t 9],some (7,false),[6,4,4]⟩,⟨some 11,.bin .neq,[.t 10,.c (.i .i64 0)],some (7,false),[7,4]⟩,⟨some 12,.pick,[.t 7,.c (.b true),.t 11],none,[4,8]⟩]) (.cond (.t 12) (.seq (.ops false [⟨some 2,.mv,[.c (.i .i64 3)],none,[]⟩]) .ret) .skip)) (.seq (.seq (.ops false [⟨some 13,.fadr 1,[.t 1],none,[]⟩,⟨some 14,.load 1 false,[.t 13],none,[0]⟩,⟨some 15,.fadr 0,[.t 1],none,[]⟩,⟨some 16,.load 1 false,[.t 15],none,[2]⟩,⟨some 17,.bin .lss,[.t 14,.t 16],none,[1,3]⟩]) (.cond (.t 17) (.seq (.ops false [⟨some 2,.mv,[.c (.i .i64 11)],none,[]⟩]) .ret) .skip)) (.seq (.seq (.ops false [⟨some 18,.fadr 1,[.t 1],none,[]⟩,⟨some 19,.load 1 false,[.t 18],none,[0]⟩,⟨some 20,.fadr 0,[.t 1],none,[]⟩,⟨some 21,.load 1 false,[.t 20],none,[2]⟩,⟨some 22,.bin .sub,[.t 19,.t 21],none,[1,3]⟩,⟨some 23,.bin .gtr,[.t 22,.c (.i .i64 400)],none,[4]⟩]) (.cond (.t 23) (.seq (.ops false [⟨some 2,.mv,[.c (.i .i64 4)],none,[]⟩]) .ret) .skip)) (.seq (.ops false [⟨some 24,.fadr 2,[.t 1],none,[]⟩,⟨some 25,.load 1 false,[.t 24],none,[0]⟩,⟨some 26,.call 128,[.t 25,.c (.i .i64 1),.c (.i .i64 127)],none,[1]⟩,⟨some 2,.mv,[.t 26],none,[2,2,0,1,2]⟩]) .ret))))
def rs82 : List RV := [.tmp 2]
theorem fact82 : compF Tryz.prog 82 = some (ac82,rs82,27) := by kernel_rfl
def ac118 : AC := .seq (.ops false [⟨some 2,.box,[.t 0],none,[]⟩,⟨some 4,.mv,[.c (.b false)],none,[]⟩]) (.seq (.ops true [⟨some 5,.mv,[.t 1],none,[]⟩,⟨some 6,.fadr 0,[.t 2],none,[]⟩,⟨some 7,.load 1 false,[.t 6],none,[1]⟩,⟨some 8,.bin .geq,[.t 5,.t 7],none,[0,2]⟩,⟨some 9,.mv,[.t 8],none,[3]⟩,⟨some 10,.mv,[.t 1],some (9,true),[4]⟩,⟨some 11,.fadr 1,[.t 2],some (9,true),[4]⟩,⟨some 12,.load 1 false,[.t 11],some (9,true),[6,4]⟩,⟨some 13,.bin .leq,[.t 10,.t 12],some (9,true),[5,7,4]⟩,⟨some 14,.pick,[.t 9,.t 13,.c (.b false)],none,[4,8]⟩,⟨some 15,.mv,[.t 14],none,[9,4]⟩,⟨some 16,.fadr 2,[.t 2],some (15,true),[10]⟩,⟨some 17,.load 1 false,[.t 16],some (15,true),[11,10]⟩,⟨some 18,.mv,[.t 1],some (15,true),[10]⟩,⟨some 19,.call 145,[.t 18],some (15,true),[13,10,10]⟩,⟨some 20,.call 144,[.t 17,.t 19],some (15,true),[12,14,14,10]⟩,⟨some 21,.pick,[.t 15,.t 20,.c (.b false)],none,[10,15]⟩,⟨some 4,.mv,[.t 21],none,[16,15,0,1,2,3,4,5,6,7,8,9,10,11,12,13,14,15,16]⟩]) .ret)
def rs118 : List RV := [.tmp 4]
theorem fact118 : compF Tryz.prog 118 = some (ac118,rs118,22) := by kernel_rfl
def ac144 : AC := .seq (.ops false [⟨some 4,.mv,[.c (.b false)],none,[]⟩]) (.seq (.seq (.ops false [⟨some 5,.mv,[.c (.i .i64 0)],none,[]⟩]) (.block 0 (.loop (.seq (.seq (.ops false [⟨some 6,.mv,[.t 5],none,[]⟩,⟨some 7,.mv,[.t 1],none,[]⟩,⟨some 8,.bin .lss,[.t 6,.t 7],none,[0,1]⟩]) (.cond (.t 8) .skip (.exit 0))) (.seq (.block 1 (.ops false [⟨some 11,.mv,[.t 0],none,[]⟩,⟨some 12,.bin .quo,[.t 11,.c (.i .i64 2)],none,[0]⟩,⟨some 0,.mv,[.t 12],none,[1,0,1]⟩])) (.ops false [⟨some 9,.mv,[.t 5],none,[]⟩,⟨some 10,.bin .add,[.t 9,.c (.i .i64 1)],none,[0]⟩,⟨some 5,.mv,[.t 10],none,[1,0,1]⟩])))))) (.seq (.ops false [⟨some 13,.mv,[.t 0],none,[]⟩,⟨some 14,.bin .rem,[.t 13,.c (.i .i64 2)],none,[0]⟩,⟨some 15,.bin .eql,[.t 14,.c (.i .i64 1)],none,[1]⟩,⟨some 4,.mv,[.t 15],none,[2,0,1,2]⟩]) .ret))
def rs144 : List RV := [.tmp 4]
theorem fact144 : compF Tryz.prog 144 = some (ac144,rs144,16) := by kernel_rfl
def ac145 : AC := .seq (.ops false [⟨some 2,.mv,[.c (.i .i64 0)],none,[]⟩]) (.seq (.ops false [⟨some 3,.mv,[.t 0],none,[]⟩,⟨some 4,.bin .add,[.t 3,.c (.i .i64 5)],none,[0]⟩,⟨some 5,.bin .rem,[.t 4,.c (.i .i64 7)],none,[1]⟩,⟨some 2,.mv,[.t 5],none,[2,0,1,2]⟩]) .ret)
def rs145 : List RV := [.tmp 2]
theorem fact145 : compF Tryz.prog 145 = some (ac145,rs145,6) := by kernel_rfl
def ac127 : AC := .seq (.ops false [⟨some 2,.mv,[.c (.i .i64 0)],none,[]⟩]) (.seq (.ops false [⟨some 3,.mv,[.t 0],none,[]⟩,⟨some 4,.call 128,[.t 3,.c (.i .i64 0),.c (.i .i64 99999)],none,[0]⟩,⟨some 2,.mv,[.t 4],none,[1,1,0,1]⟩]) .ret)
def rs127 : List RV := [.tmp 2]
theorem fact127 : compF Tryz.prog 127 = some (ac127,rs127,5) := by kernel_rfl
def ac128 : AC := .seq (.ops false [⟨some 6,.mv,[.c (.i .i64 0)],none,[]⟩]) (.seq (.seq (.ops false [⟨some 7,.mv,[.t 0],none,[]⟩,⟨some 8,.mv,[.t 1],none,[]⟩,⟨some 9,.bin .lss,[.t 7,.t 8],none,[0,1]⟩,⟨some 10,.mv,[.t 9],none,[2]⟩,⟨some 11,.mv,[.t 0],some (10,false),[3]⟩,⟨some 12,.mv,[.t 2],some (10,false),[3]⟩,⟨some 13,.bin .gtr,[.t 11,.t 12],some (10,false),[4,5,3]⟩,⟨some 14,.pick,[.t 10,.c (.b true),.t 13],none,[3,6]⟩]) (.cond (.t 14) (.seq (.ops false [⟨some 6,.mv,[.c (.i .i64 3)],none,[]⟩]) .ret) .skip)) (.seq (.ops false [⟨some 6,.mv,[.c (.i .i64 0)],none,[]⟩]) .ret))
def rs128 : List RV := [.tmp 6]
theorem fact128 : compF Tryz.prog 128 = some (ac128,rs128,15) := by kernel_rfl
def ac67 : AC := .seq (.ops false [⟨some 1,.box,[.t 0],none,[]⟩,⟨some 2,.mv,[.c .nilsl],none,[]⟩]) (.seq (.ops false [⟨some 3,.mv,[.c .nilsl],none,[]⟩]) (.seq (.seq (.ops false [⟨some 5,.fadr 0,[.t 1],none,[]⟩,⟨some 6,.load 1 false,[.t 5],none,[0]⟩,⟨some 4,.mv,[.t 6],none,[1,0,1]⟩]) (.block 0 (.loop (.seq (.seq (.ops false [⟨some 7,.mv,[.t 4],none,[]⟩,⟨some 8,.fadr 1,[.t 1],none,[]⟩,⟨some 9,.load 1 false,[.t 8],none,[1]⟩,⟨some 10,.bin .leq,[.t 7,.t 9],none,[0,2]⟩]) (.cond (.t 10) .skip (.exit 0))) (.seq (.block 1 (.seq (.ops false [⟨some 13,.load 3 true,[.t 1],none,[]⟩,⟨some 14,.mv,[.t 4],none,[]⟩,⟨some 15,.call 118,[.t 13,.t 14],none,[0,1]⟩]) (.cond (.t 15) (.ops false [⟨some 16,.mv,[.t 3],none,[]⟩,⟨some 17,.mv,[.t 4],none,[]⟩,⟨some 18,.bslice 3 1 (.i .i64 0) 1 [0],[.t 17],none,[1]⟩,⟨some 19,.app 3 1 8,[.t 16,.t 18],none,[0,2]⟩,⟨some 3,.mv,[.t 19],none,[3,3,0,1,2,3]⟩]) .skip))) (.ops false [⟨some 11,.mv,[.t 4],none,[]⟩,⟨some 12,.bin .add,[.t 11,.c (.i .i64 1)],none,[0]⟩,⟨some 4,.mv,[.t 12],none,[1,0,1]⟩])))))) (.seq (.ops false [⟨some 20,.mv,[.t 3],none,[]⟩,⟨some 2,.mv,[.t 20],none,[0,0]⟩]) .ret)))
def rs67 : List RV := [.tmp 2]
theorem fact67 : compF Tryz.prog 67 = some (ac67,rs67,21) := by kernel_rfl
def ac41 : AC := .seq (.ops false [⟨some 4,.mv,[.c (.b false)],none,[]⟩]) (.seq (.seq (.ops false [⟨some 6,.mv,[.t 0],none,[]⟩,⟨some 7,.len false,[.t 6],none,[0]⟩,⟨some 8,.mv,[.t 1],none,[]⟩,⟨some 9,.len false,[.t 8],none,[2]⟩,⟨some 10,.bin .neq,[.t 7,.t 9],none,[1,3]⟩]) (.cond (.t 10) (.seq (.ops false [⟨some 4,.mv,[.c (.b false)],none,[]⟩]) .ret) .skip)) (.seq (.seq (.ops false [⟨some 5,.mv,[.c (.i .i64 0)],none,[]⟩]) (.block 0 (.loop (.seq (.seq (.ops false [⟨some 11,.mv,[.t 5],none,[]⟩,⟨some 12,.mv,[.t 0],none,[]⟩,⟨some 13,.len false,[.t 12],none,[1]⟩,⟨some 14,.bin .lss,[.t 11,.t 13],none,[0,2]⟩]) (.cond (.t 14) .skip (.exit 0))) (.seq (.block 1 (.seq (.ops true [⟨some 17,.mv,[.t 0],none,[]⟩,⟨some 18,.mv,[.t 5],none,[]⟩,⟨some 19,.iadrS 1,[.t 17,.t 18],none,[0,1]⟩,⟨some 20,.load 1 false,[.t 19],none,[2]⟩,⟨some 21,.mv,[.t 1],none,[]⟩,⟨some 22,.mv,[.t 5],none,[]⟩,⟨some 23,.iadrS 1,[.t 21,.t 22],none,[4,5]⟩,⟨some 24,.load 1 false,[.t 23],none,[6]⟩,⟨some 25,.bin .neq,[.t 20,.t 24],none,[3,7]⟩]) (.cond (.t 25) (.seq (.ops false [⟨some 4,.mv,[.c (.b false)],none,[]⟩]) .ret) .skip))) (.ops false [⟨some 15,.mv,[.t 5],none,[]⟩,⟨some 16,.bin .add,[.t 15,.c (.i .i64 1)],none,[0]⟩,⟨some 5,.mv,[.t 16],none,[1,0,1]⟩])))))) (.seq (.ops false [⟨some 4,.mv,[.c (.b true)],none,[]⟩]) .ret)))
def rs41 : List RV := [.tmp 4]
theorem fact41 : compF Tryz.prog 41 = some (ac41,rs41,26) := by kernel_rfl
theorem pure128 (n a b : Int) : Pure Tryz.prog 128 [.i .i64 n, .i .i64 a, .i .i64 b] (.i .i64 (rng n a b)) := by
  refine pure_by fact128 (by simp) fun hw X hX => ?_
  unfold ac128 rs128
  repeat' first | (show Run _ (.cond _ _ _) _ _; refine run_condX (fun hc => ?_) (fun hc => ?_) <;> (try simp only [qH, rng_0] at hc) <;> try contradiction) | (first | refine Stp.h ?_ | (show ∀ K : St → List Ft → Prop, _; intro K hK) | (show runS _ _ _ _ _; first | refine qY (hq := ?_) | refine qZ (hq := ?_)) | (refine hK _ _ ?_; clear hK K) | (refine hK _ _ rfl ?_; clear hK K) | (refine qZ (hq := ?_); try exact trivial) | omega)
  · rw [rng, if_pos hc]; exact .refl _
  · rw [rng_0.2 hc]; exact .refl _
theorem pure127 (n : Int) : Pure Tryz.prog 127 [.i .i64 n] (.i .i64 (rng n 0 99999)) := by
  refine pure_by fact127 (by simp) fun hw X hX => ?_
  unfold ac127 rs127
  repeat' first | (show Run _ (.cond _ _ _) _ _; refine run_condX (fun hc => ?_) (fun hc => ?_) <;> (try simp only [qH, rng_0] at hc) <;> try contradiction) | (show RunOps _ _ _ _ (⟨_, .call 128, _, _, _⟩ :: _) _ _; refine run_callX (hf := pure128 _ _ _) (hn := ?_)) | (first | refine Stp.h ?_ | (show ∀ K : St → List Ft → Prop, _; intro K hK) | (show runS _ _ _ _ _; first | refine qY (hq := ?_) | refine qZ (hq := ?_)) | (refine hK _ _ ?_; clear hK K) | (refine hK _ _ rfl ?_; clear hK K) | (refine qZ (hq := ?_); try exact trivial) | omega)
  exact .refl _
theorem pure82 (p : Per) : Pure Tryz.prog 82 [p.pv] (.i .i64 (chkPer p)) := by
  refine pure_by fact82 (by simp) fun hw X hX => ?_
  unfold ac82 rs82
  repeat' first | (show Run _ (.cond _ _ _) _ _; refine run_condX (fun hc => ?_) (fun hc => ?_) <;> (try simp only [qH, rng_0] at hc) <;> try contradiction) | (show RunOps _ _ _ _ (⟨_, .call 127, _, _, _⟩ :: _) _ _; refine run_callGX (hf := fun hc => (by first | exact pure127 _ | (simp only [qH, rng_0] at hc; exact pure127 _))) (hn := ?_)) | (show RunOps _ _ _ _ (⟨_, .call 127, _, _, _⟩ :: _) _ _; refine run_callX (hf := pure127 _) (hn := ?_)) | (show RunOps _ _ _ _ (⟨_, .call 128, _, _, _⟩ :: _) _ _; refine run_callX (hf := pure128 _ _ _) (hn := ?_)) | (first | refine Stp.h ?_ | (show ∀ K : St → List Ft → Prop, _; intro K hK) | (show runS _ _ _ _ _; first | refine qY (hq := ?_) | refine qZ (hq := ?_)) | (refine hK _ _ ?_; clear hK K) | (refine hK _ _ rfl ?_; clear hK K) | (refine qZ (hq := ?_); try exact trivial) | omega)
  · rw [show chkPer p = 3 by simp only [chkPer, firstE, rng]; (repeat' split) <;> omega]; exact .refl _
  · rw [show chkPer p = 11 by simp only [chkPer, firstE, rng]; (repeat' split) <;> omega]; exact .refl _
  · rw [show chkPer p = 4 by simp only [chkPer, firstE, rng]; (repeat' split) <;> omega]; exact .refl _
  · rw [show chkPer p = rng p.days 1 127 by simp only [chkPer, firstE, rng]; (repeat' split) <;> omega]; exact .refl _
theorem pure145 (d : Int) (h0 : 0 ≤ d) (h1 : d ≤ 99999) : Pure Tryz.prog 145 [.i .i64 d] (.i .i64 ((d + 5) % 7)) := by
  refine pure_by fact145 (by simp) fun hw X hX => ?_
  unfold ac145 rs145
  repeat' first | (show Run _ (.cond _ _ _) _ _; refine run_condX (fun hc => ?_) (fun hc => ?_) <;> (try simp only [qH, rng_0] at hc) <;> try contradiction) | (first | refine Stp.h ?_ | (show ∀ K : St → List Ft → Prop, _; intro K hK) | (show runS _ _ _ _ _; first | refine qY (hq := ?_) | refine qZ (hq := ?_)) | (refine hK _ _ ?_; clear hK K) | (refine hK _ _ rfl ?_; clear hK K) | (refine qZ (hq := ?_); try exact trivial) | omega)
  rw [Int.tmod_eq_emod_of_nonneg (by omega)]
  exact .refl _
theorem pure144 (m w : Int) (h0 : 0 ≤ m) (h1 : m < 128) (h2 : 0 ≤ w) (h3 : w < 7) : Pure Tryz.prog 144 [.i .i64 m, .i .i64 w] (.b (inM m w)) := by
  refine pure_by fact144 (by simp) fun hw X hX => ?_
  unfold ac144 rs144
  repeat' first | (show Run _ (.cond _ _ _) _ _; refine run_condX (fun hc => ?_) (fun hc => ?_) <;> (try simp only [qH, rng_0] at hc) <;> try contradiction) | (first | refine Stp.h ?_ | (show ∀ K : St → List Ft → Prop, _; intro K hK) | (show runS _ _ _ _ _; first | refine qY (hq := ?_) | refine qZ (hq := ?_)) | (refine hK _ _ ?_; clear hK K) | (refine hK _ _ rfl ?_; clear hK K) | (refine qZ (hq := ?_); try exact trivial) | omega)
  refine run_loop (κ := Nat) (fun i => ⟨[(0, .p (.i .i64 (m / 2 ^ i))), (1, .p (.i .i64 w)), (5, .p (.i .i64 i))], [], [], false⟩) (fun i => i ≤ w.toNat) (fun i => w.toNat - i) 0 ?_ ?_ ?_
  · simp only [qS, Nat.reduceAdd, Nat.reduceMul, Nat.reduceEqDiff, Nat.reduceLeDiff, reduceIte, reduceCtorEq, Nat.reduceBEq, Nat.reduceLT] <;> simp
  · simp
  · intro i hi
    have hq : 0 ≤ m / 2 ^ i := Int.ediv_nonneg h0 (Int.le_of_lt (Int.pow_pos (by decide)))
    have hq2 : m / 2 ^ i ≤ m := Int.ediv_le_self _ h0
    have hq3 : ∀ b, (m / 2 ^ i).tdiv b = (m / 2 ^ i) / b := fun b => Int.tdiv_eq_ediv_of_nonneg hq
    have hq4 : ∀ b, (m / 2 ^ i).tmod b = (m / 2 ^ i) % b := fun b => Int.tmod_eq_emod_of_nonneg hq
    have qe := And.intro @hq3 @hq4; repeat' first | (show Run _ (.cond _ _ _) _ _; refine run_condX (fun hc => ?_) (fun hc => ?_) <;> (try simp only [qH, rng_0] at hc) <;> try contradiction) | (first | refine Stp.h ?_ | (show ∀ K : St → List Ft → Prop, _; intro K hK) | (show runS _ _ _ _ _; first | refine qY (hq := ?_) | refine qZ (hq := ?_)) | (refine hK _ _ ?_; clear hK K) | (refine hK _ _ rfl ?_; clear hK K) | (refine qZ (hq := ?_); try exact trivial) | omega)
    · refine ⟨i + 1, by omega, by omega, ?_, by simp⟩
      rw [Int.pow_succ, Int.ediv_ediv_of_nonneg (Int.le_of_lt (Int.pow_pos (by decide)))]
    · have e : i = w.toNat := by omega
      subst e; exact .refl _
theorem pure118 (p : Per) (d : Int) (h0 : 0 ≤ d) (h1 : d ≤ 99999) (h2 : 0 ≤ p.days) (h3 : p.days < 128) : Pure Tryz.prog 118 [p.pv, .i .i64 d] (.b (hasD p d)) := by
  refine pure_by fact118 (by simp) fun hw X hX => ?_
  unfold ac118 rs118
  have qe := @qR; repeat' first | (show Run _ (.cond _ _ _) _ _; refine run_condX (fun hc => ?_) (fun hc => ?_) <;> (try simp only [qH, rng_0] at hc) <;> try contradiction) | (show RunOps _ _ _ _ (⟨_, .call 145, _, _, _⟩ :: _) _ _; refine run_callGX (hf := fun hc => (by first | exact pure145 _ h0 h1 | (simp only [qH, rng_0] at hc; exact pure145 _ h0 h1))) (hn := ?_)) | (show RunOps _ _ _ _ (⟨_, .call 144, _, _, _⟩ :: _) _ _; refine run_callGX (hf := fun hc => (by first | exact pure144 p.days ((d + 5) % 7) h2 h3 (by omega) (by omega) | (simp only [qH, rng_0] at hc; exact pure144 p.days ((d + 5) % 7) h2 h3 (by omega) (by omega)))) (hn := ?_)) | (first | refine Stp.h ?_ | (show ∀ K : St → List Ft → Prop, _; intro K hK) | (show runS _ _ _ _ _; first | refine qY (hq := ?_) | refine qZ (hq := ?_)) | (refine hK _ _ ?_; clear hK K) | (refine hK _ _ rfl ?_; clear hK K) | (refine qZ (hq := ?_); try exact trivial) | omega)
  all_goals exact .refl _
theorem hasD_in {p : Per} (k : Nat) (h : k < (p.to - p.fro + 1).toNat) : hasD p (p.fro + k) = inM p.days ((p.fro + k + 5) % 7) := by
  simp only [hasD, show p.fro ≤ p.fro + (k : Int) by omega, show p.fro + (k : Int) ≤ p.to by omega, decide_true, Bool.true_and]
def daysK (p : Per) (k : Nat) : List Int := (List.range k).flatMap fun (k : Nat) => if inM p.days ((p.fro + k + 5) % 7) then [p.fro + k] else []
theorem daysK_len (p : Per) (n : Nat) : (daysK p n).length ≤ n := by
  unfold daysK
  induction n with
  | zero => simp
  | succ n ih => rw [range_next, List.length_append]; split <;> simp only [List.length_cons, List.length_nil] <;> omega
theorem pure67 (p : Per) (h : chkPer p = 0) : Pure Tryz.prog 67 [p.pv] (.sl 1 ((daysL p).map (.i .i64))) := by
  have hp := chkPer_0 h
  refine pure_by fact67 (by simp) fun hw X hX => ?_
  unfold ac67 rs67
  repeat' first | (show Run _ (.cond _ _ _) _ _; refine run_condX (fun hc => ?_) (fun hc => ?_) <;> (try simp only [qH, rng_0] at hc) <;> try contradiction) | (first | refine Stp.h ?_ | (show ∀ K : St → List Ft → Prop, _; intro K hK) | (show runS _ _ _ _ _; first | refine qY (hq := ?_) | refine qZ (hq := ?_)) | (refine hK _ _ ?_; clear hK K) | (refine hK _ _ rfl ?_; clear hK K) | (refine qZ (hq := ?_); try exact trivial) | omega)
  refine run_own 100 3 1 [(1, .lp 1 0), (3, .row 100 0), (4, .p (.i .i64 p.fro))] [(1, .box [.p (.i .i64 p.fro), .p (.i .i64 p.to), .p (.i .i64 p.days)] false)] ?_ ?_
  · simp only [Own, ownEnv, ownObj, nilTo, nilTos, qS, Nat.reduceAdd, Nat.reduceMul, Nat.reduceEqDiff, Nat.reduceLeDiff, reduceIte, reduceCtorEq, Nat.reduceBEq, Nat.reduceLT]
  refine run_loop (κ := Nat) (fun k => ⟨[(1, .lp 1 0), (3, .row 100 (daysK p k).length), (4, .p (.i .i64 (p.fro + k)))], [(1, .box [.p (.i .i64 p.fro), .p (.i .i64 p.to), .p (.i .i64 p.days)] false), (100, .row 3 1 ((daysK p k).map (.i .i64)) false)], [], false⟩) (fun k => k ≤ (p.to - p.fro + 1).toNat) (fun k => (p.to - p.fro + 1).toNat - k) 0 ?_ ?_ ?_
  · simp only [qS, Nat.reduceAdd, Nat.reduceMul, Nat.reduceEqDiff, Nat.reduceLeDiff, reduceIte, reduceCtorEq, Nat.reduceBEq, Nat.reduceLT] <;> simp [daysK]
  · simp
  · intro k hk
    have hl := daysK_len p k
    have qe := @qR; repeat' first | (show Run _ (.cond _ _ _) _ _; refine run_condX (fun hc => ?_) (fun hc => ?_) <;> (try simp only [qH, rng_0] at hc) <;> try contradiction) | (show RunOps _ _ _ _ (⟨_, .call 118, _, _, _⟩ :: _) _ _; refine run_callX (hf := pure118 p (p.fro + k) (by omega) (by omega) (by omega) (by omega)) (hn := ?_)) | (first | refine Stp.h ?_ | (show ∀ K : St → List Ft → Prop, _; intro K hK) | (show runS _ _ _ _ _; first | refine qY (hq := ?_) | refine qZ (hq := ?_)) | (refine hK _ _ ?_; clear hK K) | (refine hK _ _ rfl ?_; clear hK K) | (refine qZ (hq := ?_); try exact trivial) | omega)
    · have e : daysK p (k + 1) = daysK p k ++ [p.fro + (k : Int)] := by
        rw [hasD_in k (by omega)] at hc; simp only [daysK, range_next, hc, if_true]
      refine ⟨k + 1, by omega, by omega, ⟨by rw [e]; simp, by simp; omega⟩, by rw [e]; simp⟩
    · have e : daysK p (k + 1) = daysK p k := by
        rw [hasD_in k (by omega)] at hc; simp only [daysK, range_next, hc]; simp
      refine ⟨k + 1, by omega, by omega, ⟨by rw [e], by simp; omega⟩, by rw [e]⟩
    · have e : k = (p.to - p.fro + 1).toNat := by omega
      subst e; exact .refl _
end Go.Proofs.YtcfbdeghmckelaaGreat
