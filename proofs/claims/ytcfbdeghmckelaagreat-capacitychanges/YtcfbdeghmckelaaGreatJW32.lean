/- Contracts of functions that the proof uses, shared by the claims of this seat; no statement of its own. Part 40. No conditions. -/
import Derived.Test.YtcfbdeghmckelaaGreatJR1
import Derived.Test.YtcfbdeghmckelaaGreatJW31
import Derived.Test.YtcfbdeghmckelaaGreatJW28
set_option linter.all false
namespace Go.Proofs.YtcfbdeghmckelaaGreat
open Go.RowKit
set_option maxRecDepth 100000
set_option linter.unusedVariables false
set_option linter.unusedSimpArgs false
set_option maxHeartbeats 4000000
def ac71 : AC := .seq (.ops false [⟨some 3,.box,[.t 1],none,[]⟩,⟨some 4,.mv,[.c .nilsl],none,[]⟩]) (.seq (.ops false [⟨some 7,.bslice 48 11 (.agg [(.s (bs [])),(.s (bs [])),(.s (bs [])),(.i .i64 0),(.i .i64 0),(.i .i64 0),(.i .i64 0),(.i .i64 0),(.i .i64 0),(.i .i64 0),(.i .i64 0)]) 0 [],[],none,[]⟩,⟨some 8,.mv,[.t 0],none,[]⟩,⟨some 9,.app 48 11 112,[.t 7,.t 8],none,[0,1]⟩,⟨some 5,.mv,[.t 9],none,[2,2,0,1,2]⟩]) (.seq (.seq (.ops false [⟨some 10,.mv,[.t 0],none,[]⟩,⟨some 11,.fadr 0,[.t 3],none,[]⟩,⟨some 12,.load 1 false,[.t 11],none,[1]⟩,⟨some 13,.call 72,[.t 10,.t 12],none,[0,2]⟩,⟨some 6,.mv,[.t 13],none,[3,3,0,1,2,3]⟩]) (.seq (.ops false [⟨some 14,.mv,[.t 6],none,[]⟩,⟨some 15,.bin .geq,[.t 14,.c (.i .i64 0)],none,[0]⟩]) (.cond (.t 15) (.seq (.ops false [⟨some 16,.mv,[.t 5],none,[]⟩,⟨some 17,.mv,[.t 6],none,[]⟩,⟨some 18,.load 11 true,[.t 3],none,[]⟩,⟨some 19,.iadrS 11,[.t 16,.t 17],none,[0,1,0,1,2]⟩,⟨none,.store 11,[.t 19,.t 18],none,[3,2,0,1,2]⟩]) (.seq (.ops false [⟨some 20,.mv,[.t 5],none,[]⟩,⟨some 4,.mv,[.t 20],none,[0,0]⟩]) .ret)) .skip))) (.seq (.ops false [⟨some 21,.mv,[.t 5],none,[]⟩,⟨some 22,.load 11 true,[.t 3],none,[]⟩,⟨some 23,.bslice 48 11 (.agg [(.s (bs [])),(.s (bs [])),(.s (bs [])),(.i .i64 0),(.i .i64 0),(.i .i64 0),(.i .i64 0),(.i .i64 0),(.i .i64 0),(.i .i64 0),(.i .i64 0)]) 1 [0],[.t 22],none,[1]⟩,⟨some 24,.app 48 11 112,[.t 21,.t 23],none,[0,2]⟩,⟨some 4,.mv,[.t 24],none,[3,3,0,1,2,3]⟩]) .ret)))
def rs71 : List RV := [.tmp 4]
theorem fact71 : compF Tryz.prog 71 = some (ac71,rs71,25) := by kernel_rfl
def ac73 : AC := .seq (.ops false [⟨some 4,.mv,[.c .nilsl],none,[]⟩]) (.seq (.ops true [⟨some 5,.bslice 48 11 (.agg [(.s (bs [])),(.s (bs [])),(.s (bs [])),(.i .i64 0),(.i .i64 0),(.i .i64 0),(.i .i64 0),(.i .i64 0),(.i .i64 0),(.i .i64 0),(.i .i64 0)]) 0 [],[],none,[]⟩,⟨some 6,.mv,[.t 0],none,[]⟩,⟨some 7,.mv,[.t 1],none,[]⟩,⟨some 8,.sliceL 11 false true,[.t 6,.t 7],none,[1,2]⟩,⟨some 9,.app 48 11 112,[.t 5,.t 8],none,[0,3]⟩,⟨some 10,.mv,[.t 0],none,[]⟩,⟨some 11,.mv,[.t 1],none,[]⟩,⟨some 12,.bin .add,[.t 11,.c (.i .i64 1)],none,[6]⟩,⟨some 13,.sliceL 11 true false,[.t 10,.t 12],none,[5,7]⟩,⟨some 14,.app 48 11 112,[.t 9,.t 13],none,[4,8,4]⟩,⟨some 4,.mv,[.t 14],none,[9,9,0,1,2,3,4,5,6,7,8,9]⟩]) .ret)
def rs73 : List RV := [.tmp 4]
theorem fact73 : compF Tryz.prog 73 = some (ac73,rs73,15) := by kernel_rfl
theorem pure120 (m : Mov) (n : ByteArray) : Pure Tryz.prog 120 [m.pv, .ip (.s n) 0] (.b (!decide (m.name = n))) := by
  refine pure_by fact120 (by simp) fun hw X hX => ?_
  unfold ac120 rs120
  repeat' first | (show Run _ (.cond _ _ _) _ _; refine run_condX (fun hc => ?_) (fun hc => ?_) <;> (try simp only [qH, rng_0] at hc) <;> try contradiction) | (first | refine Stp.h ?_ | (show ∀ K : St → List Ft → Prop, _; intro K hK) | (show runS _ _ _ _ _; first | refine qY (hq := ?_) | refine qZ (hq := ?_)) | (refine hK _ _ ?_; clear hK K) | (refine hK _ _ rfl ?_; clear hK K) | (refine qZ (hq := ?_); try exact trivial) | omega)
  exact .refl _
theorem pure119 {f : Nat} {caps : List PV} {L : List Mov} {p : Mov → Bool} (hf : ∀ w ∈ L, Pure Tryz.prog f (w.pv :: caps) (.b (p w))) (hn : L.length ≤ 1000000) : Pure Tryz.prog 119 [.sl 7 (L.map Mov.pv), .fn (.func f) [] caps] (.sl 7 ((L.filter p).map Mov.pv)) := by
  refine pure_by fact119 (by simp) fun hw X hX => ?_
  unfold ac119 rs119
  repeat' first | (show Run _ (.cond _ _ _) _ _; refine run_condX (fun hc => ?_) (fun hc => ?_) <;> (try simp only [qH, rng_0] at hc) <;> try contradiction) | (first | refine Stp.h ?_ | (show ∀ K : St → List Ft → Prop, _; intro K hK) | (show runS _ _ _ _ _; first | refine qY (hq := ?_) | refine qZ (hq := ?_)) | (refine hK _ _ ?_; clear hK K) | (refine hK _ _ rfl ?_; clear hK K) | (refine qZ (hq := ?_); try exact trivial) | omega)
  refine run_own 100 74 7 [(1, .p (.fn (.func f) [] caps)), (5, .row 100 0), (8, .p (.sl 7 (L.map Mov.pv))), (9, .p (.i .i64 L.length)), (10, .p (.i .i64 0))] [] ?_ ?_
  · simp only [Own, ownEnv, ownObj, nilTo, nilTos, qS, Nat.reduceAdd, Nat.reduceMul, Nat.reduceEqDiff, Nat.reduceLeDiff, reduceIte, reduceCtorEq, Nat.reduceBEq, Nat.reduceLT]
  refine run_loop (κ := Nat) (fun k => ⟨[(1, .p (.fn (.func f) [] caps)), (5, .row 100 ((L.take k).filter p).length), (8, .p (.sl 7 (L.map Mov.pv))), (9, .p (.i .i64 L.length)), (10, .p (.i .i64 k))], [(100, .row 74 7 (((L.take k).filter p).map Mov.pv) false)], [], false⟩) (fun k => k ≤ L.length) (fun k => L.length - k) 0 ?_ ?_ ?_
  · simp only [qS, Nat.reduceAdd, Nat.reduceMul, Nat.reduceEqDiff, Nat.reduceLeDiff, reduceIte, reduceCtorEq, Nat.reduceBEq, Nat.reduceLT] <;> simp
  · simp
  · intro k hk
    repeat (first | refine Stp.h ?_ | (show ∀ K : St → List Ft → Prop, _; intro K hK) | (show runS _ _ _ _ _; first | refine qY (hq := ?_) | refine qZ (hq := ?_)) | (refine hK _ _ ?_; clear hK K) | (refine hK _ _ rfl ?_; clear hK K) | (refine qZ (hq := ?_); try exact trivial) | omega)
    (show Run _ (.cond _ _ _) _ _; refine run_condX (fun hc => ?_) (fun hc => ?_) <;> (try simp only [qH, rng_0] at hc) <;> try contradiction)
    · obtain ⟨w, hx⟩ := some_at (i := k) (l := L) (by omega)
      have hnx := filter_take (p := p) hx
      have hfl := filter_tlen (p := p) (l := L) (k := k)
      have qe := And.intro qR @hx; repeat' first | (show Run _ (.cond _ _ _) _ _; refine run_condX (fun hc => ?_) (fun hc => ?_) <;> (try simp only [qH, rng_0] at hc) <;> try contradiction) | (show RunOps _ _ _ _ (⟨_, .callv, _, _, _⟩ :: _) _ _; refine run_callVX (hf := hf w (List.mem_of_getElem? hx)) (hn := ?_)) | (first | refine Stp.h ?_ | (show ∀ K : St → List Ft → Prop, _; intro K hK) | (show runS _ _ _ _ _; first | refine qY (hq := ?_) | refine qZ (hq := ?_)) | (refine hK _ _ ?_; clear hK K) | (refine hK _ _ rfl ?_; clear hK K) | (refine qZ (hq := ?_); try exact trivial) | omega)
      · rw [hc, if_pos rfl] at hnx
        exact ⟨k + 1, by omega, by omega, ⟨by rw [hnx]; simp, by simp⟩, by rw [hnx]; simp⟩
      · rw [hc] at hnx
        exact ⟨k + 1, by omega, by omega, ⟨by rw [hnx]; simp, by simp⟩, by rw [hnx]; simp⟩
    · repeat' first | (show Run _ (.cond _ _ _) _ _; refine run_condX (fun hc => ?_) (fun hc => ?_) <;> (try simp only [qH, rng_0] at hc) <;> try contradiction) | (first | refine Stp.h ?_ | (show ∀ K : St → List Ft → Prop, _; intro K hK) | (show runS _ _ _ _ _; first | refine qY (hq := ?_) | refine qZ (hq := ?_)) | (refine hK _ _ ?_; clear hK K) | (refine hK _ _ rfl ?_; clear hK K) | (refine qZ (hq := ?_); try exact trivial) | omega)
      have e : k = L.length := by omega
      subst e; rw [List.take_length]; exact .refl _
def drE (m : List Mov) (n : ByteArray) : Int := firstE [chkMovs m, nameE n]
def drR (m : List Mov) (n : ByteArray) : List Mov := if drE m n = 0 then m.filter (fun x => !decide (x.name = n)) else []
theorem pure68 (m : List Mov) (n : ByteArray) : Pure Tryz.prog 68 [.sl 7 (m.map Mov.pv), .s n] (.tup [.sl 7 ((drR m n).map Mov.pv), .i .i64 (drE m n)]) := by
  have he : (if (!isName n) = true then (8 : Int) else 0) = nameE n := by simp [nameE]
  refine pure_by fact68 (by simp) fun hw X hX => ?_
  unfold ac68 rs68
  have e : firstE [chkMovs m, if isName n = false then 8 else 0] = drE m n := rfl
  by_cases h0 : chkMovs m = 0
  · have hn := (chkMovs_0 h0).1
    have qe := And.intro qR @he; repeat' first | (show Run _ (.cond _ _ _) _ _; refine run_condX (fun hc => ?_) (fun hc => ?_) <;> (try simp only [qH, rng_0] at hc) <;> try contradiction) | (show RunOps _ _ _ _ (⟨_, .call 24, _, _, _⟩ :: _) _ _; refine run_callX (hf := pure24 m) (hn := ?_)) | (show RunOps _ _ _ _ (⟨_, .call 109, _, _, _⟩ :: _) _ _; refine run_callX (hf := pure109 n) (hn := ?_)) | (show RunOps _ _ _ _ (⟨_, .call 85, _, _, _⟩ :: _) _ _; refine run_callX (hf := pure85 _ _) (hn := ?_)) | (show RunOps _ _ _ _ (⟨_, .call 83, _, _, _⟩ :: _) _ _; refine run_callX (hf := pure83 [_, _]) (hn := ?_)) | (show RunOps _ _ _ _ (⟨_, .call 119, _, _, _⟩ :: _) _ _; refine run_callBX (hf := pure119 (fun w _ => pure120 w n) (by omega)) (hn := ?_)) | (first | refine Stp.h ?_ | (show ∀ K : St → List Ft → Prop, _; intro K hK) | (show runS _ _ _ _ _; first | refine qY (hq := ?_) | refine qZ (hq := ?_)) | (refine hK _ _ ?_; clear hK K) | (refine hK _ _ rfl ?_; clear hK K) | (refine qZ (hq := ?_); try exact trivial) | omega)
    · rw [e] at hc ⊢
      rw [drR, if_neg hc]; exact weak2 (.nilsl _) (.refl _)
    · rw [e] at hc
      rw [drR, if_pos hc, hc]; exact .refl _
  · have qe := And.intro qR @he; repeat' first | (show Run _ (.cond _ _ _) _ _; refine run_condX (fun hc => ?_) (fun hc => ?_) <;> (try simp only [qH, rng_0] at hc) <;> try contradiction) | (show RunOps _ _ _ _ (⟨_, .call 24, _, _, _⟩ :: _) _ _; refine run_callX (hf := pure24 m) (hn := ?_)) | (show RunOps _ _ _ _ (⟨_, .call 109, _, _, _⟩ :: _) _ _; refine run_callX (hf := pure109 n) (hn := ?_)) | (show RunOps _ _ _ _ (⟨_, .call 85, _, _, _⟩ :: _) _ _; refine run_callX (hf := pure85 _ _) (hn := ?_)) | (show RunOps _ _ _ _ (⟨_, .call 83, _, _, _⟩ :: _) _ _; refine run_callX (hf := pure83 [_, _]) (hn := ?_)) | (first | refine Stp.h ?_ | (show ∀ K : St → List Ft → Prop, _; intro K hK) | (show runS _ _ _ _ _; first | refine qY (hq := ?_) | refine qZ (hq := ?_)) | (refine hK _ _ ?_; clear hK K) | (refine hK _ _ rfl ?_; clear hK K) | (refine qZ (hq := ?_); try exact trivial) | omega)
    · rw [e] at hc ⊢
      rw [drR, if_neg hc]; exact weak2 (.nilsl _) (.refl _)
    · exact absurd (firstE_cons.1 hc).1 h0
theorem pure74 (L : List Mov) (n : ByteArray) (hn : L.length ≤ 1000000) : Pure Tryz.prog 74 [.sl 7 (L.map Mov.pv), .s n] (.sl 7 ((L.filter (fun x => !decide (x.name = n))).map Mov.pv)) := by
  obtain ⟨p, hp⟩ : ∃ p : Mov → Bool, p = fun x => !decide (x.name = n) := ⟨_, rfl⟩
  rw [← hp]
  refine pure_by fact74 (by simp) fun hw X hX => ?_
  unfold ac74 rs74
  repeat' first | (show Run _ (.cond _ _ _) _ _; refine run_condX (fun hc => ?_) (fun hc => ?_) <;> (try simp only [qH, rng_0] at hc) <;> try contradiction) | (first | refine Stp.h ?_ | (show ∀ K : St → List Ft → Prop, _; intro K hK) | (show runS _ _ _ _ _; first | refine qY (hq := ?_) | refine qZ (hq := ?_)) | (refine hK _ _ ?_; clear hK K) | (refine hK _ _ rfl ?_; clear hK K) | (refine qZ (hq := ?_); try exact trivial) | omega)
  refine run_own 100 74 7 [(0, .p (.sl 7 (L.map Mov.pv))), (1, .p (.s n)), (5, .row 100 0), (6, .p (.i .i64 0))] [] ?_ ?_
  · simp only [Own, ownEnv, ownObj, nilTo, nilTos, qS, Nat.reduceAdd, Nat.reduceMul, Nat.reduceEqDiff, Nat.reduceLeDiff, reduceIte, reduceCtorEq, Nat.reduceBEq, Nat.reduceLT]
  refine run_loop (κ := Nat) (fun k => ⟨[(0, .p (.sl 7 (L.map Mov.pv))), (1, .p (.s n)), (5, .row 100 ((L.take k).filter p).length), (6, .p (.i .i64 k))], [(100, .row 74 7 (((L.take k).filter p).map Mov.pv) false)], [], false⟩) (fun k => k ≤ L.length) (fun k => L.length - k) 0 ?_ ?_ ?_
  · simp only [qS, Nat.reduceAdd, Nat.reduceMul, Nat.reduceEqDiff, Nat.reduceLeDiff, reduceIte, reduceCtorEq, Nat.reduceBEq, Nat.reduceLT] <;> simp
  · simp
  · intro k hk
    repeat (first | refine Stp.h ?_ | (show ∀ K : St → List Ft → Prop, _; intro K hK) | (show runS _ _ _ _ _; first | refine qY (hq := ?_) | refine qZ (hq := ?_)) | (refine hK _ _ ?_; clear hK K) | (refine hK _ _ rfl ?_; clear hK K) | (refine qZ (hq := ?_); try exact trivial) | omega)
    (show Run _ (.cond _ _ _) _ _; refine run_condX (fun hc => ?_) (fun hc => ?_) <;> (try simp only [qH, rng_0] at hc) <;> try contradiction)
    · obtain ⟨w, hx⟩ := some_at (i := k) (l := L) (by omega)
      have hnx := filter_take (p := p) hx
      have hfl := filter_tlen (p := p) (l := L) (k := k)
      have hpw : p w = !decide (w.name = n) := by rw [hp]
      have qe := And.intro qR @hx; repeat' first | (show Run _ (.cond _ _ _) _ _; refine run_condX (fun hc => ?_) (fun hc => ?_) <;> (try simp only [qH, rng_0] at hc) <;> try contradiction) | (first | refine Stp.h ?_ | (show ∀ K : St → List Ft → Prop, _; intro K hK) | (show runS _ _ _ _ _; first | refine qY (hq := ?_) | refine qZ (hq := ?_)) | (refine hK _ _ ?_; clear hK K) | (refine hK _ _ rfl ?_; clear hK K) | (refine qZ (hq := ?_); try exact trivial) | omega)
      · rw [hpw] at hnx
        first
        | (rw [decide_eq_false hc] at hnx; exact ⟨k + 1, by omega, by omega, ⟨by rw [hnx]; simp, by simp⟩, by rw [hnx]; simp⟩)
        | (rw [decide_eq_true hc] at hnx; exact ⟨k + 1, by omega, by omega, ⟨by rw [hnx]; simp, by simp⟩, by rw [hnx]; simp⟩)
      · rw [hpw] at hnx
        first
        | (rw [decide_eq_false hc] at hnx; exact ⟨k + 1, by omega, by omega, ⟨by rw [hnx]; simp, by simp⟩, by rw [hnx]; simp⟩)
        | (rw [decide_eq_true hc] at hnx; exact ⟨k + 1, by omega, by omega, ⟨by rw [hnx]; simp, by simp⟩, by rw [hnx]; simp⟩)
    · repeat' first | (show Run _ (.cond _ _ _) _ _; refine run_condX (fun hc => ?_) (fun hc => ?_) <;> (try simp only [qH, rng_0] at hc) <;> try contradiction) | (first | refine Stp.h ?_ | (show ∀ K : St → List Ft → Prop, _; intro K hK) | (show runS _ _ _ _ _; first | refine qY (hq := ?_) | refine qZ (hq := ?_)) | (refine hK _ _ ?_; clear hK K) | (refine hK _ _ rfl ?_; clear hK K) | (refine qZ (hq := ?_); try exact trivial) | omega)
      have e : k = L.length := by omega
      subst e; rw [List.take_length]; exact .refl _
theorem pure73 (l : List Lim) (k : Nat) (hk : k < l.length) (hn : l.length ≤ 1000000) : Pure Tryz.prog 73 [.sl 11 (l.map Lim.pv), .i .i64 k] (.sl 11 ((l.take k ++ l.drop (k + 1)).map Lim.pv)) := by
  refine pure_by fact73 (by simp) fun hw X hX => ?_
  unfold ac73 rs73
  have hA := fun l => eq_true (allLm l)
  have e1 : List.take k (l.map Lim.pv) = (l.take k).map Lim.pv := by rw [List.map_take]
  have e2 : List.drop ((k : Int) + 1).toNat (l.map Lim.pv) = (l.drop (k + 1)).map Lim.pv := by rw [List.map_drop]; rfl
  have e3 : (l.take k).length = k := by rw [List.length_take]; omega
  have e4 : (l.drop (k + 1)).length = l.length - (k + 1) := List.length_drop
  have qe := And.intro qR (And.intro @hA (And.intro @e1 (And.intro @e2 (And.intro @e3 @e4)))); repeat' first | (show Run _ (.cond _ _ _) _ _; refine run_condX (fun hc => ?_) (fun hc => ?_) <;> (try simp only [qH, rng_0] at hc) <;> try contradiction) | (first | refine Stp.h ?_ | (show ∀ K : St → List Ft → Prop, _; intro K hK) | (show runS _ _ _ _ _; first | refine qY (hq := ?_) | refine qZ (hq := ?_)) | (refine hK _ _ ?_; clear hK K) | (refine hK _ _ rfl ?_; clear hK K) | (refine qZ (hq := ?_); try exact trivial) | omega)
  all_goals first | (rw [List.map_append]; exact .refl _)
theorem pure71 (l : List Lim) (x : Lim) (hn : l.length ≤ 1000000) : Pure Tryz.prog 71 [.sl 11 (l.map Lim.pv), x.pv] (.sl 11 ((putL l x).map Lim.pv)) := by
  refine pure_by fact71 (by simp) fun hw X hX => ?_
  unfold ac71 rs71
  have hat := atL_lt x.name (l.map Lim.name)
  rw [List.length_map] at hat
  have hA := fun l => eq_true (allLm l)
  by_cases h1 : 0 ≤ atL x.name (l.map Lim.name)
  · have h1' := eq_true h1
    obtain ⟨y, hy⟩ := some_at (i := (atL x.name (l.map Lim.name)).toNat) (l := l) (by omega)
    have qe := And.intro qR (And.intro @hA (And.intro @h1' @hy)); repeat' first | (show Run _ (.cond _ _ _) _ _; refine run_condX (fun hc => ?_) (fun hc => ?_) <;> (try simp only [qH, rng_0] at hc) <;> try contradiction) | (show RunOps _ _ _ _ (⟨_, .call 72, _, _, _⟩ :: _) _ _; refine run_callX (hf := pure72 l x.name) (hn := ?_)) | (first | refine Stp.h ?_ | (show ∀ K : St → List Ft → Prop, _; intro K hK) | (show runS _ _ _ _ _; first | refine qY (hq := ?_) | refine qZ (hq := ?_)) | (refine hK _ _ ?_; clear hK K) | (refine hK _ _ rfl ?_; clear hK K) | (refine qZ (hq := ?_); try exact trivial) | omega)
    rw [putL, if_pos h1, List.map_set]; exact .refl _
  · have h1' := eq_false h1
    have qe := And.intro qR (And.intro @hA @h1'); repeat' first | (show Run _ (.cond _ _ _) _ _; refine run_condX (fun hc => ?_) (fun hc => ?_) <;> (try simp only [qH, rng_0] at hc) <;> try contradiction) | (show RunOps _ _ _ _ (⟨_, .call 72, _, _, _⟩ :: _) _ _; refine run_callX (hf := pure72 l x.name) (hn := ?_)) | (first | refine Stp.h ?_ | (show ∀ K : St → List Ft → Prop, _; intro K hK) | (show runS _ _ _ _ _; first | refine qY (hq := ?_) | refine qZ (hq := ?_)) | (refine hK _ _ ?_; clear hK K) | (refine hK _ _ rfl ?_; clear hK K) | (refine qZ (hq := ?_); try exact trivial) | omega)
    rw [putL, if_neg h1, List.map_append]; exact .refl _
end Go.Proofs.YtcfbdeghmckelaaGreat
