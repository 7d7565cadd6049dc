/- Contracts of functions that the proof uses, shared by the claims of this seat; no statement of its own. Part 15. No conditions. -/
import Derived.Test.YtcfbdeghmckelaaGreatJW7
import Derived.Test.YtcfbdeghmckelaaGreatJW8
import Derived.Test.YtcfbdeghmckelaaGreatJW10
import Derived.Test.YtcfbdeghmckelaaGreatJW11
set_option linter.all false
namespace Go.Proofs.YtcfbdeghmckelaaGreat
open Go.RowKit
set_option maxRecDepth 100000
set_option linter.unusedVariables false
set_option linter.unusedSimpArgs false
set_option maxHeartbeats 2000000
theorem firstE_0 {l : List Int} (h : firstE l = 0) {x : Int} (hx : x ∈ l) : x = 0 := by
  induction l with
  | nil => cases hx
  | cons e r ih =>
    obtain ⟨h1, h2⟩ := firstE_cons.1 h
    rcases List.mem_cons.1 hx with h | h
    · rw [h]; exact h1
    · exact ih h2 h
theorem pairwise_sorted {l : List Int} (h : l.Pairwise (· ≤ ·)) : sortedI l := by
  intro i j x y hij hx hy
  obtain ⟨hi, rfl⟩ := List.getElem?_eq_some_iff.1 hx
  obtain ⟨hj, rfl⟩ := List.getElem?_eq_some_iff.1 hy
  rcases Nat.lt_or_eq_of_le hij with h1 | h1
  · exact List.pairwise_iff_getElem.1 h i j hi hj h1
  · subst h1; exact Int.le_refl _
theorem step_sorted {l : List Int} (h : ∀ (i : Nat) (x y : Int), l[i]? = some x → l[i + 1]? = some y → x ≤ y) : l.Pairwise (· ≤ ·) := by
  refine List.pairwise_iff_getElem.2 fun i j hi hj hij => ?_
  obtain ⟨k, rfl⟩ : ∃ k, j = i + 1 + k := ⟨j - i - 1, by omega⟩
  clear hij
  induction k with
  | zero => exact h i _ _ (List.getElem?_eq_getElem hi) (List.getElem?_eq_getElem hj)
  | succ k ih => exact Int.le_trans (ih (by omega)) (h (i + 1 + k) _ _ (List.getElem?_eq_getElem (by omega)) (List.getElem?_eq_getElem hj))
theorem chkMovs_0 {m : List Mov} (h : chkMovs m = 0) : m.length ≤ 30000 ∧ (∀ x ∈ m, chkMov x = 0) ∧ (m.map Mov.moment).Pairwise (· ≤ ·) := by
  unfold chkMovs at h
  split at h
  · cases h
  · have key : ∀ (i : Nat) (x : Mov), m[i]? = some x → movErr m i x = 0 := fun i x hx => firstE_0 h (List.mem_of_getElem? (mapIdx_at hx))
    refine ⟨by omega, fun x hx => ?_, step_sorted fun i x y hx hy => ?_⟩
    · obtain ⟨i, hi⟩ := List.getElem?_of_mem hx
      exact (firstE_cons.1 (key i x hi)).1
    · simp only [List.getElem?_map, Option.map_eq_some_iff] at hx hy
      obtain ⟨a, ha, rfl⟩ := hx
      obtain ⟨b, hb, rfl⟩ := hy
      have h1 := (firstE_cons.1 (firstE_cons.1 (key (i + 1) b hb)).2).1
      simp only [Nat.add_sub_cancel, ha, Option.getD_some] at h1
      rw [ite_eq0 (by decide)] at h1
      omega
theorem ofL_sorted {l : Lim} {m : List Mov} (h : chkMovs m = 0) : sortedI (ofL l m) := by
  refine pairwise_sorted ?_
  have := (chkMovs_0 h).2.2
  rw [List.pairwise_map] at this
  rw [ofL, List.pairwise_map]
  exact this.filter _
theorem ofL_len {l : Lim} {m : List Mov} : (ofL l m).length ≤ m.length := by
  simp only [ofL, List.length_map]; exact List.length_filter_le _ _
theorem beginsL_len {l : Lim} (h : chkLim l = 0) (d : Int) : (beginsL l d).length ≤ 1440 := by
  have hl := chkLim_0 h
  have h1 : 0 ≤ l.from_ := Int.ediv_nonneg (by omega) (by omega)
  have h2 : l.to / l.step ≤ l.to := Int.ediv_le_self _ (by omega)
  unfold beginsL begK begN
  split
  · simp; omega
  · simp
def ac133 : AC := .seq (.ops false [⟨some 2,.box,[.t 0],none,[]⟩,⟨some 4,.mv,[.c .nilsl],none,[]⟩]) (.seq (.seq (.ops false [⟨some 6,.mv,[.t 1],none,[]⟩]) (.block 0 (.rfunc (.t 6) [7] (.ops false [⟨some 5,.mv,[.t 7],none,[]⟩]) (.block 1 (.ops false [⟨some 8,.load 1 false,[.t 2],none,[]⟩,⟨some 9,.mv,[.t 5],none,[]⟩,⟨some 10,.bslice 3 1 (.i .i64 0) 1 [0],[.t 9],none,[1]⟩,⟨some 11,.app 3 1 8,[.t 8,.t 10],none,[0,2]⟩,⟨none,.store 1,[.t 2,.t 11],none,[3,3,0,1,2,3]⟩]))))) (.seq (.ops false [⟨some 12,.load 1 false,[.t 2],none,[]⟩,⟨some 4,.mv,[.t 12],none,[0,0]⟩]) .ret))
def rs133 : List RV := [.tmp 4]
theorem fact133 : compF Tryz.prog 133 = some (ac133,rs133,13) := by kernel_rfl
def ac90 : AC := .seq (.ops false [⟨some 2,.mv,[.c .nilsl],none,[]⟩]) (.seq (.ops false [⟨some 3,.mv,[.t 0],none,[]⟩,⟨some 4,.call 133,[.c .nilsl,.t 3],none,[0]⟩,⟨some 2,.mv,[.t 4],none,[1,1,0,1]⟩]) .ret)
def rs90 : List RV := [.tmp 2]
theorem fact90 : compF Tryz.prog 90 = some (ac90,rs90,5) := by kernel_rfl
def ac27 : AC := .seq (.ops false [⟨some 2,.box,[.t 0],none,[]⟩,⟨some 4,.mv,[.c .nilsl],none,[]⟩,⟨some 5,.mv,[.c (.i .i64 0)],none,[1]⟩]) (.seq (.seq (.ops false [⟨some 7,.load 11 true,[.t 2],none,[]⟩,⟨some 8,.call 84,[.t 7],none,[0]⟩,⟨some 9,.mv,[.t 1],none,[]⟩,⟨some 10,.call 88,[.t 9,.c (.i .i64 0),.c (.i .i64 99999)],none,[2,1]⟩,⟨some 11,.bslice 34 1 (.i .i64 0) 2 [0,1],[.t 8,.t 10],none,[1,3]⟩,⟨some 12,.call 83,[.t 11],none,[4,3]⟩,⟨some 6,.mv,[.t 12],none,[5,5,0,1,2,3,4,5]⟩]) (.seq (.ops false [⟨some 13,.mv,[.t 6],none,[]⟩,⟨some 14,.bin .neq,[.t 13,.c (.i .i64 0)],none,[0]⟩]) (.cond (.t 14) (.seq (.ops false [⟨some 15,.mv,[.t 6],none,[]⟩,⟨some 4,.mv,[.c .nilsl],none,[]⟩,⟨some 5,.mv,[.t 15],none,[0,1,0,1]⟩]) .ret) .skip))) (.seq (.seq (.ops false [⟨some 16,.load 11 true,[.t 2],none,[]⟩,⟨some 17,.mv,[.t 1],none,[]⟩,⟨some 18,.call 89,[.t 16,.t 17],none,[0,1]⟩,⟨some 19,.not,[.t 18],none,[2]⟩]) (.cond (.t 19) (.seq (.ops false [⟨some 4,.mv,[.c .nilsl],none,[]⟩,⟨some 5,.mv,[.c (.i .i64 30)],none,[0,0]⟩]) .ret) .skip)) (.seq (.ops false [⟨some 20,.load 11 true,[.t 2],none,[]⟩,⟨some 21,.mv,[.t 1],none,[]⟩,⟨some 22,.call 91,[.t 20,.t 21],none,[0,1]⟩,⟨some 23,.call 90,[.t 22],none,[2,2]⟩,⟨some 4,.mv,[.t 23],none,[3,3,0,1,2,3]⟩,⟨some 5,.mv,[.c (.i .i64 0)],none,[4,0,1,2,3,4]⟩]) .ret)))
def rs27 : List RV := [.tmp 4,.tmp 5]
theorem fact27 : compF Tryz.prog 27 = some (ac27,rs27,24) := by kernel_rfl
theorem pure133 {f : Nat} {caps : List PV} {L : List Int} (hit : Iter Tryz.prog f caps (L.map tup1)) (hn : L.length ≤ 1000000) : Pure Tryz.prog 133 [.nilsl, .fn (.func f) [] caps] (.sl 1 (L.map (.i .i64))) := by
  refine pure_by fact133 (by simp) fun hw X hX => ?_
  unfold ac133 rs133
  repeat' first | (show Run _ (.cond _ _ _) _ _; refine run_condX (fun hc => ?_) (fun hc => ?_) <;> (try simp only [qH, rng_0] at hc) <;> try contradiction) | (first | refine Stp.h ?_ | (show ∀ K : St → List Ft → Prop, _; intro K hK) | (show runS _ _ _ _ _; first | refine qY (hq := ?_) | refine qZ (hq := ?_)) | (refine hK _ _ ?_; clear hK K) | (refine hK _ _ rfl ?_; clear hK K) | (refine qZ (hq := ?_); try exact trivial) | omega)
  refine run_own 100 3 1 [(2, .lp 2 0), (6, .p (.fn (.func f) [] caps))] [(2, .box [.row 100 0] false)] ?_ ?_
  · simp only [Own, ownEnv, ownObj, nilTo, nilTos, qS, Nat.reduceAdd, Nat.reduceMul, Nat.reduceEqDiff, Nat.reduceLeDiff, reduceIte, reduceCtorEq, Nat.reduceBEq, Nat.reduceLT]
  refine run_rfunc rfl hit ?_ ?_ [(2, .lp 2 0), (6, .p (.fn (.func f) [] caps))] (fun k => [(2, .box [.row 100 k] false), (100, .row 3 1 ((L.take k).map (.i .i64)) false)]) (fun _ => []) ?_ ?_ ?_
  · simp
  · simp [hX]
  · simp only [qS, Nat.reduceAdd, Nat.reduceMul, Nat.reduceEqDiff, Nat.reduceLeDiff, reduceIte, reduceCtorEq, Nat.reduceBEq, Nat.reduceLT]
  · intro k t ht X' ro' hX'
    simp only [List.getElem?_map, Option.map_eq_some_iff] at ht
    obtain ⟨d, hd, rfl⟩ := ht
    have hl := take_len hd
    have hk := (List.getElem?_eq_some_iff.1 hd).1
    simp only [qS, Nat.reduceAdd, Nat.reduceMul, Nat.reduceEqDiff, Nat.reduceLeDiff, reduceIte, reduceCtorEq, Nat.reduceBEq, Nat.reduceLT]
    repeat' first | (show Run _ (.cond _ _ _) _ _; refine run_condX (fun hc => ?_) (fun hc => ?_) <;> (try simp only [qH, rng_0] at hc) <;> try contradiction) | (first | refine Stp.h ?_ | (show ∀ K : St → List Ft → Prop, _; intro K hK) | (show runS _ _ _ _ _; first | refine qY (hq := ?_) | refine qZ (hq := ?_)) | (refine hK _ _ ?_; clear hK K) | (refine hK _ _ rfl ?_; clear hK K) | (refine qZ (hq := ?_); try exact trivial) | omega)
    intro X1 hX1
    have qe := And.intro qR (And.intro @hl (take_snoc (PV.i .i64) hd)); repeat' first | (show Run _ (.cond _ _ _) _ _; refine run_condX (fun hc => ?_) (fun hc => ?_) <;> (try simp only [qH, rng_0] at hc) <;> try contradiction) | (first | refine Stp.h ?_ | (show ∀ K : St → List Ft → Prop, _; intro K hK) | (show runS _ _ _ _ _; first | refine qY (hq := ?_) | refine qZ (hq := ?_)) | (refine hK _ _ ?_; clear hK K) | (refine hK _ _ rfl ?_; clear hK K) | (refine qZ (hq := ?_); try exact trivial) | omega)
  · simp only [List.length_map]
    have qe := @List.take_length.{0}; repeat' first | (show Run _ (.cond _ _ _) _ _; refine run_condX (fun hc => ?_) (fun hc => ?_) <;> (try simp only [qH, rng_0] at hc) <;> try contradiction) | (first | refine Stp.h ?_ | (show ∀ K : St → List Ft → Prop, _; intro K hK) | (show runS _ _ _ _ _; first | refine qY (hq := ?_) | refine qZ (hq := ?_)) | (refine hK _ _ ?_; clear hK K) | (refine hK _ _ rfl ?_; clear hK K) | (refine qZ (hq := ?_); try exact trivial) | omega)
    exact .refl _
theorem pure90 {f : Nat} {caps : List PV} {L : List Int} (hit : Iter Tryz.prog f caps (L.map tup1)) (hn : L.length ≤ 1000000) : Pure Tryz.prog 90 [.fn (.func f) [] caps] (.sl 1 (L.map (.i .i64))) := by
  refine pure_by fact90 (by simp) fun hw X hX => ?_
  unfold ac90 rs90
  repeat' first | (show Run _ (.cond _ _ _) _ _; refine run_condX (fun hc => ?_) (fun hc => ?_) <;> (try simp only [qH, rng_0] at hc) <;> try contradiction) | (show RunOps _ _ _ _ (⟨_, .call 133, _, _, _⟩ :: _) _ _; refine run_callX (hf := pure133 hit hn) (hn := ?_)) | (first | refine Stp.h ?_ | (show ∀ K : St → List Ft → Prop, _; intro K hK) | (show runS _ _ _ _ _; first | refine qY (hq := ?_) | refine qZ (hq := ?_)) | (refine hK _ _ ?_; clear hK K) | (refine hK _ _ rfl ?_; clear hK K) | (refine qZ (hq := ?_); try exact trivial) | omega)
  exact .refl _
def begE (l : Lim) (d : Int) : Int := if firstE [chkLim l, rng d 0 99999] = 0 then (if hasB l.per d = true then 0 else 30) else firstE [chkLim l, rng d 0 99999]
def begR (l : Lim) (d : Int) : List Int := if begE l d = 0 then beginsL l d else []
theorem pure27 (l : Lim) (d : Int) : Pure Tryz.prog 27 [l.pv, .i .i64 d] (.tup [.sl 1 ((begR l d).map (.i .i64)), .i .i64 (begE l d)]) := by
  refine pure_by fact27 (by simp) fun hw X hX => ?_
  unfold ac27 rs27
  have qe := @qR; repeat' first | (show Run _ (.cond _ _ _) _ _; refine run_condX (fun hc => ?_) (fun hc => ?_) <;> (try simp only [qH, rng_0] at hc) <;> try contradiction) | (show RunOps _ _ _ _ (⟨_, .call 84, _, _, _⟩ :: _) _ _; refine run_callX (hf := pure84 l) (hn := ?_)) | (show RunOps _ _ _ _ (⟨_, .call 88, _, _, _⟩ :: _) _ _; refine run_callX (hf := pure88 _ _ _) (hn := ?_)) | (show RunOps _ _ _ _ (⟨_, .call 83, _, _, _⟩ :: _) _ _; refine run_callX (hf := pure83 [_, _]) (hn := ?_)) | (first | refine Stp.h ?_ | (show ∀ K : St → List Ft → Prop, _; intro K hK) | (show runS _ _ _ _ _; first | refine qY (hq := ?_) | refine qZ (hq := ?_)) | (refine hK _ _ ?_; clear hK K) | (refine hK _ _ rfl ?_; clear hK K) | (refine qZ (hq := ?_); try exact trivial) | omega)
  · have he : begE l d = firstE [chkLim l, rng d 0 99999] := by rw [begE, if_neg hc]
    rw [begR, he, if_neg hc]; exact weak2 (.nilsl _) (.refl _)
  · have h0 := hc
    have h1 := hc
    simp only [firstE_cons, rng_0] at h1
    repeat' first | (show Run _ (.cond _ _ _) _ _; refine run_condX (fun hc => ?_) (fun hc => ?_) <;> (try simp only [qH, rng_0] at hc) <;> try contradiction) | (show RunOps _ _ _ _ (⟨_, .call 89, _, _, _⟩ :: _) _ _; refine run_callX (hf := pure89 l d) (hn := ?_)) | (show RunOps _ _ _ _ (⟨_, .call 91, _, _, _⟩ :: _) _ _; refine run_callX (hf := pure91 l d) (hn := ?_)) | (show RunOps _ _ _ _ (⟨_, .call 90, _, _, _⟩ :: _) _ _; refine run_callX (hf := pure90 (iter134 l d h1.1) (Nat.le_trans (beginsL_len h1.1 d) (by decide))) (hn := ?_)) | (first | refine Stp.h ?_ | (show ∀ K : St → List Ft → Prop, _; intro K hK) | (show runS _ _ _ _ _; first | refine qY (hq := ?_) | refine qZ (hq := ?_)) | (refine hK _ _ ?_; clear hK K) | (refine hK _ _ rfl ?_; clear hK K) | (refine qZ (hq := ?_); try exact trivial) | omega)
    · have he : begE l d = 30 := by rw [begE, if_pos h0, if_neg (by rw [hc]; decide)]
      rw [begR, he, if_neg (by decide)]; exact weak2 (.nilsl _) (.refl _)
    · have he : begE l d = 0 := by rw [begE, if_pos h0, if_pos hc]
      rw [begR, he, if_pos rfl]; exact .refl _
end Go.Proofs.YtcfbdeghmckelaaGreat
