/- Contracts of functions that the proof uses, shared by the claims of this seat; no statement of its own. Part 10. No conditions. -/
import Derived.Test.YtcfbdeghmckelaaGreatJW6
set_option linter.all false
namespace Go.Proofs.YtcfbdeghmckelaaGreat
open Go.RowKit
set_option maxRecDepth 100000
set_option linter.unusedVariables false
set_option linter.unusedSimpArgs false
set_option maxHeartbeats 2000000
def ac22 : AC := .seq (.ops false [⟨some 2,.mv,[.c (.i .i64 0)],none,[]⟩]) (.seq (.seq (.ops false [⟨some 6,.mv,[.t 0],none,[]⟩,⟨some 7,.len false,[.t 6],none,[0]⟩,⟨some 8,.bin .gtr,[.t 7,.c (.i .i64 32)],none,[1]⟩]) (.cond (.t 8) (.seq (.ops false [⟨some 2,.mv,[.c (.i .i64 5)],none,[]⟩]) .ret) .skip)) (.seq (.seq (.ops false [⟨some 9,.mv,[.t 0],none,[]⟩,⟨some 10,.len false,[.t 9],none,[0]⟩,⟨some 11,.mv,[.c (.i .i64 0)],none,[]⟩]) (.block 0 (.loop (.seq (.ops false [⟨some 12,.bin .lss,[.t 11,.t 10],none,[]⟩]) (.seq (.cond (.t 12) .skip (.exit 0)) (.seq (.block 1 (.seq (.ops false [⟨some 13,.mv,[.t 11],none,[]⟩,⟨some 14,.iadrS 11,[.t 9,.t 11],none,[]⟩,⟨some 15,.load 11 true,[.t 14],none,[1]⟩,⟨some 4,.alloc [(.s (bs [])),(.s (bs [])),(.s (bs [])),(.i .i64 0),(.i .i64 0),(.i .i64 0),(.i .i64 0),(.i .i64 0),(.i .i64 0),(.i .i64 0),(.i .i64 0)],[],none,[]⟩,⟨some 3,.mv,[.t 13],none,[0,0,1,2,3]⟩,⟨none,.store 11,[.t 4,.t 15],none,[3,2,4,0,1,2,3,4]⟩]) (.seq (.ops true [⟨some 16,.load 11 true,[.t 4],none,[]⟩,⟨some 17,.call 84,[.t 16],none,[0]⟩,⟨some 18,.mv,[.t 0],none,[]⟩,⟨some 19,.mv,[.t 3],none,[]⟩,⟨some 20,.sliceL 11 false true,[.t 18,.t 19],none,[2,3]⟩,⟨some 21,.fadr 0,[.t 4],none,[]⟩,⟨some 22,.load 1 false,[.t 21],none,[5]⟩,⟨some 23,.call 86,[.t 20,.t 22],none,[4,6,1]⟩,⟨some 24,.bin .geq,[.t 23,.c (.i .i64 0)],none,[7]⟩,⟨some 25,.call 85,[.t 24,.c (.i .i64 9)],none,[8,7]⟩,⟨some 26,.bslice 34 1 (.i .i64 0) 2 [0,1],[.t 17,.t 25],none,[1,9]⟩,⟨some 27,.call 83,[.t 26],none,[10,9]⟩,⟨some 5,.mv,[.t 27],none,[11,11,0,1,2,3,4,5,6,7,8,9,10,11]⟩]) (.seq (.ops false [⟨some 28,.mv,[.t 5],none,[]⟩,⟨some 29,.bin .neq,[.t 28,.c (.i .i64 0)],none,[0]⟩]) (.cond (.t 29) (.seq (.ops false [⟨some 30,.mv,[.t 5],none,[]⟩,⟨some 2,.mv,[.t 30],none,[0,0]⟩]) .ret) .skip))))) (.ops false [⟨some 31,.bin .add,[.t 11,.c (.i .i64 1)],none,[]⟩,⟨some 11,.mv,[.t 31],none,[0]⟩]))))))) (.seq (.ops false [⟨some 2,.mv,[.c (.i .i64 0)],none,[]⟩]) .ret)))
def rs22 : List RV := [.tmp 2]
theorem fact22 : compF Tryz.prog 22 = some (ac22,rs22,32) := by kernel_rfl
def ac24 : AC := .seq (.ops false [⟨some 2,.mv,[.c (.i .i64 0)],none,[]⟩]) (.seq (.seq (.ops false [⟨some 6,.mv,[.t 0],none,[]⟩,⟨some 7,.len false,[.t 6],none,[0]⟩,⟨some 8,.bin .gtr,[.t 7,.c (.i .i64 30000)],none,[1]⟩]) (.cond (.t 8) (.seq (.ops false [⟨some 2,.mv,[.c (.i .i64 5)],none,[]⟩]) .ret) .skip)) (.seq (.seq (.ops false [⟨some 9,.mv,[.t 0],none,[]⟩,⟨some 10,.len false,[.t 9],none,[0]⟩,⟨some 11,.mv,[.c (.i .i64 0)],none,[]⟩]) (.block 0 (.loop (.seq (.ops false [⟨some 12,.bin .lss,[.t 11,.t 10],none,[]⟩]) (.seq (.cond (.t 12) .skip (.exit 0)) (.seq (.block 1 (.seq (.ops false [⟨some 13,.mv,[.t 11],none,[]⟩,⟨some 14,.iadrS 7,[.t 9,.t 11],none,[]⟩,⟨some 15,.load 7 true,[.t 14],none,[1]⟩,⟨some 4,.alloc [(.i .i64 0),(.s (bs [])),(.s (bs [])),(.i .i64 0),(.i .i64 0),(.i .i64 0),(.s (bs []))],[],none,[]⟩,⟨some 3,.mv,[.t 13],none,[0,0,1,2,3]⟩,⟨none,.store 7,[.t 4,.t 15],none,[3,2,4,0,1,2,3,4]⟩]) (.seq (.ops true [⟨some 16,.load 7 true,[.t 4],none,[]⟩,⟨some 17,.call 87,[.t 16],none,[0]⟩,⟨some 18,.mv,[.t 3],none,[]⟩,⟨some 19,.bin .gtr,[.t 18,.c (.i .i64 0)],none,[2]⟩,⟨some 20,.mv,[.t 19],none,[3,1]⟩,⟨some 21,.fadr 0,[.t 4],some (20,true),[4]⟩,⟨some 22,.load 1 false,[.t 21],some (20,true),[5,4]⟩,⟨some 23,.mv,[.t 0],some (20,true),[4]⟩,⟨some 24,.mv,[.t 3],some (20,true),[4]⟩,⟨some 25,.bin .sub,[.t 24,.c (.i .i64 1)],some (20,true),[8,4]⟩,⟨some 26,.mx,[.c (.i .i64 0),.t 25],some (20,true),[9,4]⟩,⟨some 27,.iadrS 7,[.t 23,.t 26],some (20,true),[7,10,4]⟩,⟨some 28,.fadr 0,[.t 27],some (20,true),[11,4]⟩,⟨some 29,.load 1 false,[.t 28],some (20,true),[12,4]⟩,⟨some 30,.bin .lss,[.t 22,.t 29],some (20,true),[6,13,4]⟩,⟨some 31,.pick,[.t 20,.t 30,.c (.b false)],none,[4,14]⟩,⟨some 32,.call 85,[.t 31,.c (.i .i64 11)],none,[15,4]⟩,⟨some 33,.bslice 34 1 (.i .i64 0) 2 [0,1],[.t 17,.t 32],none,[1,16]⟩,⟨some 34,.call 83,[.t 33],none,[17,16]⟩,⟨some 5,.mv,[.t 34],none,[18,18,0,1,2,3,4,5,6,7,8,9,10,11,12,13,14,15,16,17,18]⟩]) (.seq (.ops false [⟨some 35,.mv,[.t 5],none,[]⟩,⟨some 36,.bin .neq,[.t 35,.c (.i .i64 0)],none,[0]⟩]) (.cond (.t 36) (.seq (.ops false [⟨some 37,.mv,[.t 5],none,[]⟩,⟨some 2,.mv,[.t 37],none,[0,0]⟩]) .ret) .skip))))) (.ops false [⟨some 38,.bin .add,[.t 11,.c (.i .i64 1)],none,[]⟩,⟨some 11,.mv,[.t 38],none,[0]⟩]))))))) (.seq (.ops false [⟨some 2,.mv,[.c (.i .i64 0)],none,[]⟩]) .ret)))
def rs24 : List RV := [.tmp 2]
theorem fact24 : compF Tryz.prog 24 = some (ac24,rs24,39) := by kernel_rfl
def ac97 : AC := .seq (.ops false [⟨some 4,.mv,[.c (.i .i64 0)],none,[]⟩]) (.seq (.ops false [⟨some 5,.mv,[.t 0],none,[]⟩,⟨some 6,.call 22,[.t 5],none,[0]⟩,⟨some 7,.mv,[.t 1],none,[]⟩,⟨some 8,.call 24,[.t 7],none,[2,1]⟩,⟨some 9,.bslice 34 1 (.i .i64 0) 2 [0,1],[.t 6,.t 8],none,[1,3]⟩,⟨some 10,.call 83,[.t 9],none,[4,3]⟩,⟨some 4,.mv,[.t 10],none,[5,5,0,1,2,3,4,5]⟩]) .ret)
def rs97 : List RV := [.tmp 4]
theorem fact97 : compF Tryz.prog 97 = some (ac97,rs97,11) := by kernel_rfl
def limErr (l : List Lim) (i : Nat) (x : Lim) : Int := firstE [chkLim x, if 0 ≤ atL x.name ((l.take i).map Lim.name) then 9 else 0]
def limErrs (l : List Lim) : List Int := l.mapIdx (limErr l)
def chkLims (l : List Lim) : Int := if 32 < l.length then 5 else firstE (limErrs l)
def movErr (l : List Mov) (i : Nat) (x : Mov) : Int := firstE [chkMov x, if 0 < (i : Int) ∧ x.moment < ((l[i - 1]?).getD x).moment then 11 else 0]
def movErrs (l : List Mov) : List Int := l.mapIdx (movErr l)
def chkMovs (l : List Mov) : Int := if 30000 < l.length then 5 else firstE (movErrs l)
theorem mapIdx_at {α β : Type} {f : Nat → α → β} {l : List α} {i : Nat} {x : α} (h : l[i]? = some x) : (l.mapIdx f)[i]? = some (f i x) := by simp [List.getElem?_mapIdx, h]
theorem take_map {α β : Type} (f : α → β) (l : List α) (i : Nat) : (l.map f).take i = (l.take i).map f := by rw [List.map_take]
theorem pure22 (l : List Lim) : Pure Tryz.prog 22 [.sl 11 (l.map Lim.pv)] (.i .i64 (chkLims l)) := by
  refine pure_by fact22 (by simp) fun hw X hX => ?_
  unfold ac22 rs22
  simp only [wfs, PV.wf, List.length_map, maxLen] at hw
  repeat' first | (show Run _ (.cond _ _ _) _ _; refine run_condX (fun hc => ?_) (fun hc => ?_) <;> (try simp only [qH, rng_0] at hc) <;> try contradiction) | (first | refine Stp.h ?_ | (show ∀ K : St → List Ft → Prop, _; intro K hK) | (show runS _ _ _ _ _; first | refine qY (hq := ?_) | refine qZ (hq := ?_)) | (refine hK _ _ ?_; clear hK K) | (refine hK _ _ rfl ?_; clear hK K) | (refine qZ (hq := ?_); try exact trivial) | omega)
  · rw [chkLims, if_pos (by omega)]; exact .refl _
  refine run_loop (κ := Nat) (fun i => ⟨[(0, .p (.sl 11 (l.map Lim.pv))), (9, .p (.sl 11 (l.map Lim.pv))), (10, .p (.i .i64 l.length)), (11, .p (.i .i64 i))], [], [], false⟩) (fun i => i ≤ l.length ∧ ∀ x ∈ (limErrs l).take i, x = 0) (fun i => l.length - i) 0 ?_ ?_ ?_
  · simp only [qS, Nat.reduceAdd, Nat.reduceMul, Nat.reduceEqDiff, Nat.reduceLeDiff, reduceIte, reduceCtorEq, Nat.reduceBEq, Nat.reduceLT] <;> rfl
  · simp
  · intro i hi
    repeat (first | refine Stp.h ?_ | (show ∀ K : St → List Ft → Prop, _; intro K hK) | (show runS _ _ _ _ _; first | refine qY (hq := ?_) | refine qZ (hq := ?_)) | (refine hK _ _ ?_; clear hK K) | (refine hK _ _ rfl ?_; clear hK K) | (refine qZ (hq := ?_); try exact trivial) | omega)
    (show Run _ (.cond _ _ _) _ _; refine run_condX (fun hc => ?_) (fun hc => ?_) <;> (try simp only [qH, rng_0] at hc) <;> try contradiction)
    · obtain ⟨x, hx⟩ := some_at (i := i) (l := l) (by omega)
      have qe := And.intro qR (And.intro @hx @take_map); repeat' first | (show Run _ (.cond _ _ _) _ _; refine run_condX (fun hc => ?_) (fun hc => ?_) <;> (try simp only [qH, rng_0] at hc) <;> try contradiction) | (show RunOps _ _ _ _ (⟨_, .call 84, _, _, _⟩ :: _) _ _; refine run_callX (hf := pure84 x) (hn := ?_)) | (show RunOps _ _ _ _ (⟨_, .call 86, _, _, _⟩ :: _) _ _; refine run_callX (hf := pure86 (l.take i) x.name) (hn := ?_)) | (show RunOps _ _ _ _ (⟨_, .call 85, _, _, _⟩ :: _) _ _; refine run_callX (hf := pure85 _ _) (hn := ?_)) | (show RunOps _ _ _ _ (⟨_, .call 83, _, _, _⟩ :: _) _ _; refine run_callX (hf := pure83 [_, _]) (hn := ?_)) | (first | refine Stp.h ?_ | (show ∀ K : St → List Ft → Prop, _; intro K hK) | (show runS _ _ _ _ _; first | refine qY (hq := ?_) | refine qZ (hq := ?_)) | (refine hK _ _ ?_; clear hK K) | (refine hK _ _ rfl ?_; clear hK K) | (refine qZ (hq := ?_); try exact trivial) | omega)
      · have he : chkLims l = limErr l i x := by unfold chkLims; rw [if_neg (by omega)]; exact firstE_at hi.2 (mapIdx_at hx) hc
        rw [he]; exact .refl _
      · exact ⟨i + 1, ⟨by omega, take_all hi.2 (mapIdx_at hx) hc⟩, by omega, by simp⟩
    · repeat' first | (show Run _ (.cond _ _ _) _ _; refine run_condX (fun hc => ?_) (fun hc => ?_) <;> (try simp only [qH, rng_0] at hc) <;> try contradiction) | (first | refine Stp.h ?_ | (show ∀ K : St → List Ft → Prop, _; intro K hK) | (show runS _ _ _ _ _; first | refine qY (hq := ?_) | refine qZ (hq := ?_)) | (refine hK _ _ ?_; clear hK K) | (refine hK _ _ rfl ?_; clear hK K) | (refine qZ (hq := ?_); try exact trivial) | omega)
      have e : i = (limErrs l).length := by simp [limErrs]; omega
      subst e
      rw [chkLims, if_neg (by omega), firstE_end hi.2]; exact .refl _
theorem pure24 (l : List Mov) : Pure Tryz.prog 24 [.sl 7 (l.map Mov.pv)] (.i .i64 (chkMovs l)) := by
  refine pure_by fact24 (by simp) fun hw X hX => ?_
  unfold ac24 rs24
  simp only [wfs, PV.wf, List.length_map, maxLen] at hw
  repeat' first | (show Run _ (.cond _ _ _) _ _; refine run_condX (fun hc => ?_) (fun hc => ?_) <;> (try simp only [qH, rng_0] at hc) <;> try contradiction) | (first | refine Stp.h ?_ | (show ∀ K : St → List Ft → Prop, _; intro K hK) | (show runS _ _ _ _ _; first | refine qY (hq := ?_) | refine qZ (hq := ?_)) | (refine hK _ _ ?_; clear hK K) | (refine hK _ _ rfl ?_; clear hK K) | (refine qZ (hq := ?_); try exact trivial) | omega)
  · rw [chkMovs, if_pos (by omega)]; exact .refl _
  refine run_loop (κ := Nat) (fun i => ⟨[(0, .p (.sl 7 (l.map Mov.pv))), (9, .p (.sl 7 (l.map Mov.pv))), (10, .p (.i .i64 l.length)), (11, .p (.i .i64 i))], [], [], false⟩) (fun i => i ≤ l.length ∧ ∀ x ∈ (movErrs l).take i, x = 0) (fun i => l.length - i) 0 ?_ ?_ ?_
  · simp only [qS, Nat.reduceAdd, Nat.reduceMul, Nat.reduceEqDiff, Nat.reduceLeDiff, reduceIte, reduceCtorEq, Nat.reduceBEq, Nat.reduceLT] <;> rfl
  · simp
  · intro i hi
    repeat (first | refine Stp.h ?_ | (show ∀ K : St → List Ft → Prop, _; intro K hK) | (show runS _ _ _ _ _; first | refine qY (hq := ?_) | refine qZ (hq := ?_)) | (refine hK _ _ ?_; clear hK K) | (refine hK _ _ rfl ?_; clear hK K) | (refine qZ (hq := ?_); try exact trivial) | omega)
    (show Run _ (.cond _ _ _) _ _; refine run_condX (fun hc => ?_) (fun hc => ?_) <;> (try simp only [qH, rng_0] at hc) <;> try contradiction)
    · obtain ⟨x, hx⟩ := some_at (i := i) (l := l) (by omega)
      obtain ⟨y, hy⟩ := some_at (i := i - 1) (l := l) (by omega)
      have e : (max 0 ((i : Int) - 1)).toNat = i - 1 := by omega
      have he : movErr l i x = firstE [chkMov x, if 0 < (i : Int) ∧ x.moment < y.moment then 11 else 0] := by rw [movErr, hy]; rfl
      have qe := And.intro qR (And.intro @hx (And.intro @hy @e)); repeat' first | (show Run _ (.cond _ _ _) _ _; refine run_condX (fun hc => ?_) (fun hc => ?_) <;> (try simp only [qH, rng_0] at hc) <;> try contradiction) | (show RunOps _ _ _ _ (⟨_, .call 87, _, _, _⟩ :: _) _ _; refine run_callX (hf := pure87 x) (hn := ?_)) | (show RunOps _ _ _ _ (⟨_, .call 85, _, _, _⟩ :: _) _ _; refine run_callX (hf := pure85 _ _) (hn := ?_)) | (show RunOps _ _ _ _ (⟨_, .call 83, _, _, _⟩ :: _) _ _; refine run_callX (hf := pure83 [_, _]) (hn := ?_)) | (first | refine Stp.h ?_ | (show ∀ K : St → List Ft → Prop, _; intro K hK) | (show runS _ _ _ _ _; first | refine qY (hq := ?_) | refine qZ (hq := ?_)) | (refine hK _ _ ?_; clear hK K) | (refine hK _ _ rfl ?_; clear hK K) | (refine qZ (hq := ?_); try exact trivial) | omega)
      · rw [← he] at hc
        have hf : chkMovs l = movErr l i x := by unfold chkMovs; rw [if_neg (by omega)]; exact firstE_at hi.2 (mapIdx_at hx) hc
        rw [hf, he]; simp only [Bool.and_eq_true, decide_eq_true_eq]; exact .refl _
      · rw [← he] at hc
        exact ⟨i + 1, ⟨by omega, take_all hi.2 (mapIdx_at hx) hc⟩, by omega, by simp⟩
    · repeat' first | (show Run _ (.cond _ _ _) _ _; refine run_condX (fun hc => ?_) (fun hc => ?_) <;> (try simp only [qH, rng_0] at hc) <;> try contradiction) | (first | refine Stp.h ?_ | (show ∀ K : St → List Ft → Prop, _; intro K hK) | (show runS _ _ _ _ _; first | refine qY (hq := ?_) | refine qZ (hq := ?_)) | (refine hK _ _ ?_; clear hK K) | (refine hK _ _ rfl ?_; clear hK K) | (refine qZ (hq := ?_); try exact trivial) | omega)
      have e : i = (movErrs l).length := by simp [movErrs]; omega
      subst e
      rw [chkMovs, if_neg (by omega), firstE_end hi.2]; exact .refl _
theorem pure97 (l : List Lim) (m : List Mov) : Pure Tryz.prog 97 [.sl 11 (l.map Lim.pv), .sl 7 (m.map Mov.pv)] (.i .i64 (firstE [chkLims l, chkMovs m])) := by
  refine pure_by fact97 (by simp) fun hw X hX => ?_
  unfold ac97 rs97
  have qe := @qR; repeat' first | (show Run _ (.cond _ _ _) _ _; refine run_condX (fun hc => ?_) (fun hc => ?_) <;> (try simp only [qH, rng_0] at hc) <;> try contradiction) | (show RunOps _ _ _ _ (⟨_, .call 22, _, _, _⟩ :: _) _ _; refine run_callX (hf := pure22 l) (hn := ?_)) | (show RunOps _ _ _ _ (⟨_, .call 24, _, _, _⟩ :: _) _ _; refine run_callX (hf := pure24 m) (hn := ?_)) | (show RunOps _ _ _ _ (⟨_, .call 83, _, _, _⟩ :: _) _ _; refine run_callX (hf := pure83 [_, _]) (hn := ?_)) | (first | refine Stp.h ?_ | (show ∀ K : St → List Ft → Prop, _; intro K hK) | (show runS _ _ _ _ _; first | refine qY (hq := ?_) | refine qZ (hq := ?_)) | (refine hK _ _ ?_; clear hK K) | (refine hK _ _ rfl ?_; clear hK K) | (refine qZ (hq := ?_); try exact trivial) | omega)
  exact .refl _
end Go.Proofs.YtcfbdeghmckelaaGreat
