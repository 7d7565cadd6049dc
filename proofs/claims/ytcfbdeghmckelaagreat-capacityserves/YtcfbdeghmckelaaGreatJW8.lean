/- Contracts of functions that the proof uses, shared by the claims of this seat; no statement of its own. Part 11. No conditions. -/
import Derived.Test.YtcfbdeghmckelaaGreatJW3
import Derived.Test.YtcfbdeghmckelaaGreatJW5
set_option linter.all false
namespace Go.Proofs.YtcfbdeghmckelaaGreat
open Go.RowKit
set_option maxRecDepth 100000
set_option linter.unusedVariables false
set_option linter.unusedSimpArgs false
set_option maxHeartbeats 2000000
def ac89 : AC := .seq (.ops false [⟨some 2,.box,[.t 0],none,[]⟩,⟨some 4,.mv,[.c (.b false)],none,[]⟩]) (.seq (.ops false [⟨some 8,.fadr 7,[.t 2],none,[]⟩,⟨some 9,.load 3 true,[.t 8],none,[0]⟩,⟨some 10,.mv,[.t 1],none,[]⟩,⟨some 11,.call 132,[.t 9,.t 10],none,[1,2]⟩,⟨some 7,.mv,[.t 11],none,[3]⟩,⟨some 12,.ext 0,[.t 7],none,[4]⟩,⟨some 13,.ext 1,[.t 7],none,[4]⟩,⟨some 5,.mv,[.t 12],none,[5,3,0,1,2,3,4,5]⟩,⟨some 6,.mv,[.t 13],none,[6,7,0,1,2,3,4,5,6,7]⟩]) (.seq (.ops false [⟨some 14,.mv,[.t 6],none,[]⟩,⟨some 15,.bin .eql,[.t 14,.c (.i .i64 0)],none,[0]⟩,⟨some 16,.mv,[.t 15],none,[1]⟩,⟨some 17,.mv,[.t 5],some (16,true),[2]⟩,⟨some 18,.pick,[.t 16,.t 17,.c (.b false)],none,[2,3]⟩,⟨some 4,.mv,[.t 18],none,[4,2,0,1,2,3,4]⟩]) .ret))
def rs89 : List RV := [.tmp 4]
theorem fact89 : compF Tryz.prog 89 = some (ac89,rs89,19) := by kernel_rfl
def ac134 : AC := .seq (.seq (.ops false [⟨some 6,.load 1 false,[.t 1],none,[]⟩,⟨some 7,.fadr 7,[.t 2],none,[]⟩,⟨some 8,.fadr 0,[.t 7],none,[1]⟩,⟨some 9,.load 1 false,[.t 8],none,[2]⟩,⟨some 10,.bin .lss,[.t 6,.t 9],none,[0,3]⟩,⟨some 11,.mv,[.t 10],none,[4]⟩,⟨some 12,.load 1 false,[.t 1],some (11,false),[5]⟩,⟨some 13,.fadr 7,[.t 2],some (11,false),[5]⟩,⟨some 14,.fadr 1,[.t 13],some (11,false),[7,5]⟩,⟨some 15,.load 1 false,[.t 14],some (11,false),[8,5]⟩,⟨some 16,.bin .gtr,[.t 12,.t 15],some (11,false),[6,9,5]⟩,⟨some 17,.pick,[.t 11,.c (.b true),.t 16],none,[5,10]⟩,⟨some 18,.mv,[.t 17],none,[11,5]⟩,⟨some 19,.load 11 true,[.t 2],some (18,false),[12]⟩,⟨some 20,.load 1 false,[.t 1],some (18,false),[12]⟩,⟨some 21,.call 89,[.t 19,.t 20],some (18,false),[13,14,12,12]⟩,⟨some 22,.not,[.t 21],some (18,false),[15,12]⟩,⟨some 23,.pick,[.t 18,.c (.b true),.t 22],none,[12,16]⟩]) (.cond (.t 23) .ret .skip)) (.seq (.ops false [⟨some 24,.fadr 5,[.t 2],none,[]⟩,⟨some 25,.load 1 false,[.t 24],none,[0]⟩,⟨some 26,.fadr 4,[.t 2],none,[]⟩,⟨some 27,.load 1 false,[.t 26],none,[2]⟩,⟨some 28,.bin .add,[.t 25,.t 27],none,[1,3]⟩,⟨some 29,.bin .sub,[.t 28,.c (.i .i64 1)],none,[4]⟩,⟨some 30,.fadr 4,[.t 2],none,[]⟩,⟨some 31,.load 1 false,[.t 30],none,[6]⟩,⟨some 32,.bin .quo,[.t 29,.t 31],none,[5,7]⟩,⟨some 4,.mv,[.t 32],none,[8,0,1,2,3,4,5,6,7,8]⟩]) (.seq (.ops false [⟨some 33,.fadr 6,[.t 2],none,[]⟩,⟨some 34,.load 1 false,[.t 33],none,[0]⟩,⟨some 35,.fadr 4,[.t 2],none,[]⟩,⟨some 36,.load 1 false,[.t 35],none,[2]⟩,⟨some 37,.bin .quo,[.t 34,.t 36],none,[1,3]⟩,⟨some 38,.mv,[.t 4],none,[]⟩,⟨some 39,.bin .sub,[.t 37,.t 38],none,[4,5]⟩,⟨some 40,.bin .add,[.t 39,.c (.i .i64 1)],none,[6]⟩,⟨some 41,.mx,[.c (.i .i64 0),.t 40],none,[7]⟩,⟨some 42,.mv,[.c (.i .i64 0)],none,[]⟩]) (.block 0 (.loop (.seq (.ops false [⟨some 43,.bin .lss,[.t 42,.t 41],none,[]⟩]) (.seq (.cond (.t 43) .skip (.exit 0)) (.seq (.block 1 (.seq (.ops false [⟨some 44,.mv,[.t 42],none,[]⟩,⟨some 5,.mv,[.t 44],none,[0,0]⟩]) (.seq (.ops false [⟨some 45,.mv,[.t 0],none,[]⟩,⟨some 46,.load 1 false,[.t 1],none,[]⟩,⟨some 47,.bin .mul,[.c (.i .i64 1440),.t 46],none,[1]⟩,⟨some 48,.fadr 4,[.t 2],none,[]⟩,⟨some 49,.load 1 false,[.t 48],none,[3]⟩,⟨some 50,.mv,[.t 4],none,[]⟩,⟨some 51,.mv,[.t 5],none,[]⟩,⟨some 52,.bin .add,[.t 50,.t 51],none,[5,6]⟩,⟨some 53,.bin .mul,[.t 49,.t 52],none,[4,7]⟩,⟨some 54,.bin .add,[.t 47,.t 53],none,[2,8]⟩,⟨some 55,.callv,[.t 45,.t 54],none,[0,9]⟩,⟨some 56,.not,[.t 55],none,[10]⟩]) (.cond (.t 56) .ret .skip)))) (.ops false [⟨some 57,.bin .add,[.t 42,.c (.i .i64 1)],none,[]⟩,⟨some 42,.mv,[.t 57],none,[0]⟩]))))))))
def rs134 : List RV := []
theorem fact134 : compF Tryz.prog 134 = some (ac134,rs134,58) := by kernel_rfl
def ac91 : AC := .seq (.ops false [⟨some 2,.box,[.t 0],none,[]⟩,⟨some 3,.box,[.t 1],none,[]⟩,⟨some 4,.mv,[.c .nilf],none,[]⟩]) (.seq (.ops false [⟨some 5,.mkfn (.func 134) 0,[.t 3,.t 2],none,[]⟩,⟨some 4,.mv,[.t 5],none,[0,0]⟩]) .ret)
def rs91 : List RV := [.tmp 4]
theorem fact91 : compF Tryz.prog 91 = some (ac91,rs91,6) := by kernel_rfl
def ac137 : AC := .seq (.ops false [⟨some 2,.box,[.t 0],none,[]⟩]) (.seq (.ops false [⟨some 5,.fadr 7,[.t 1],none,[]⟩,⟨some 6,.fadr 0,[.t 5],none,[0]⟩,⟨some 7,.load 1 false,[.t 6],none,[1]⟩,⟨some 3,.mv,[.t 7],none,[2,0,1,2]⟩]) (.block 0 (.loop (.seq (.seq (.ops false [⟨some 8,.mv,[.t 3],none,[]⟩,⟨some 9,.fadr 7,[.t 1],none,[]⟩,⟨some 10,.fadr 1,[.t 9],none,[1]⟩,⟨some 11,.load 1 false,[.t 10],none,[2]⟩,⟨some 12,.bin .leq,[.t 8,.t 11],none,[0,3]⟩]) (.cond (.t 12) .skip (.exit 0))) (.seq (.block 1 (.seq (.ops false [⟨some 15,.load 11 true,[.t 1],none,[]⟩,⟨some 16,.mv,[.t 3],none,[]⟩,⟨some 17,.call 91,[.t 15,.t 16],none,[0,1]⟩]) (.block 2 (.rfunc (.t 17) [18] (.ops false [⟨some 4,.mv,[.t 18],none,[]⟩]) (.block 3 (.seq (.ops false [⟨some 19,.load 1 false,[.t 2],none,[]⟩,⟨some 20,.mv,[.t 4],none,[]⟩,⟨some 21,.callv,[.t 19,.t 20],none,[0,1]⟩,⟨some 22,.not,[.t 21],none,[2]⟩]) (.cond (.t 22) .ret .skip))))))) (.ops false [⟨some 13,.mv,[.t 3],none,[]⟩,⟨some 14,.bin .add,[.t 13,.c (.i .i64 1)],none,[0]⟩,⟨some 3,.mv,[.t 14],none,[1,0,1]⟩]))))))
def rs137 : List RV := []
theorem fact137 : compF Tryz.prog 137 = some (ac137,rs137,23) := by kernel_rfl
def ac94 : AC := .seq (.ops false [⟨some 1,.box,[.t 0],none,[]⟩,⟨some 2,.mv,[.c .nilf],none,[]⟩]) (.seq (.ops false [⟨some 3,.mkfn (.func 137) 0,[.t 1],none,[]⟩,⟨some 2,.mv,[.t 3],none,[0,0]⟩]) .ret)
def rs94 : List RV := [.tmp 2]
theorem fact94 : compF Tryz.prog 94 = some (ac94,rs94,4) := by kernel_rfl
theorem chkLim_0 {l : Lim} (h : chkLim l = 0) : 1 ≤ l.len ∧ l.len ≤ 1440 ∧ 1 ≤ l.step ∧ l.step ≤ 1440 ∧ 0 ≤ l.fro ∧ l.fro ≤ l.to ∧ l.to ≤ 1439 ∧ chkPer l.per = 0 ∧ 0 ≤ l.most ∧ l.most ≤ 999999999 := by
  unfold chkLim at h
  simp only [firstE_cons, rng_0, ite_eq0 (show (11 : Int) ≠ 0 by decide)] at h
  omega
theorem pure89 (l : Lim) (d : Int) : Pure Tryz.prog 89 [l.pv, .i .i64 d] (.b (hasB l.per d)) := by
  refine pure_by fact89 (by simp) fun hw X hX => ?_
  unfold ac89 rs89
  repeat' first | (show Run _ (.cond _ _ _) _ _; refine run_condX (fun hc => ?_) (fun hc => ?_) <;> (try simp only [qH, rng_0] at hc) <;> try contradiction) | (show RunOps _ _ _ _ (⟨_, .call 132, _, _, _⟩ :: _) _ _; refine run_callX (hf := pure132 l.per d) (hn := ?_)) | (first | refine Stp.h ?_ | (show ∀ K : St → List Ft → Prop, _; intro K hK) | (show runS _ _ _ _ _; first | refine qY (hq := ?_) | refine qZ (hq := ?_)) | (refine hK _ _ ?_; clear hK K) | (refine hK _ _ rfl ?_; clear hK K) | (refine qZ (hq := ?_); try exact trivial) | omega)
  have : (decide (hasE l.per d = 0) && hasB l.per d) = hasB l.per d := by simp only [hasB]; cases decide (hasE l.per d = 0) <;> rfl
  rw [this]; exact .refl _
def Lim.from_ (l : Lim) : Int := (l.fro + l.step - 1) / l.step
def begN (l : Lim) : Nat := (max 0 (l.to / l.step - l.from_ + 1)).toNat
def begOk (l : Lim) (d : Int) : Bool := !(decide (d < l.per.fro) || decide (l.per.to < d) || !hasB l.per d)
def begV (l : Lim) (d : Int) (n : Nat) : Int := 1440 * d + l.step * (l.from_ + n)
def begK (l : Lim) (d : Int) (k : Nat) : List Int := (List.range k).map (begV l d)
def beginsL (l : Lim) (d : Int) : List Int := if begOk l d then begK l d (begN l) else []
abbrev tup1 (d : Int) : List PV := [.i .i64 d]
theorem mrange_next {α : Type} (f : Nat → α) (k : Nat) : (List.range (k + 1)).map f = (List.range k).map f ++ [f k] := by
  rw [List.range_succ]; simp
theorem mrange_split {α : Type} (f : Nat → α) {k n : Nat} (h : k < n) : (List.range n).map f = (List.range k).map f ++ f k :: (List.range' (k + 1) (n - (k + 1))).map f := by
  have := range_split (fun k => [f k]) h
  simpa [List.flatMap_singleton', ← List.map_eq_flatMap] using this
theorem beg_bound {l : Lim} (h : chkLim l = 0) {n : Nat} (hn : n < begN l) : 0 ≤ l.from_ ∧ l.from_ ≤ 1440 ∧ 0 ≤ l.step * (l.from_ + n) ∧ l.step * (l.from_ + n) ≤ l.to ∧ l.fro ≤ l.step * (l.from_ + n) := by
  have hl := chkLim_0 h
  have h1 : 0 ≤ l.from_ := Int.ediv_nonneg (by omega) (by omega)
  have h2 : l.from_ ≤ l.fro + l.step - 1 := Int.ediv_le_self _ (by omega)
  have h3 : (l.from_ + n) ≤ l.to / l.step := by unfold begN at hn; omega
  have h4 : l.step * (l.from_ + n) ≤ l.step * (l.to / l.step) := Int.mul_le_mul_of_nonneg_left h3 (by omega)
  have h5 : l.step * (l.to / l.step) ≤ l.to := Int.mul_ediv_self_le (by omega)
  have h6 : l.fro + l.step - 1 < l.step * l.from_ + l.step := Int.lt_mul_ediv_self_add (by omega)
  have h7 : l.step * l.from_ ≤ l.step * (l.from_ + n) := Int.mul_le_mul_of_nonneg_left (by omega) (by omega)
  have h8 : 0 ≤ l.step * (l.from_ + n) := Int.mul_nonneg (by omega) (by omega)
  have h9 : l.from_ ≤ 1440 := by
    have : l.from_ ≤ l.to / l.step := by omega
    have : l.to / l.step ≤ l.to := Int.ediv_le_self _ (by omega)
    omega
  omega
theorem iter134 (l : Lim) (d : Int) (h : chkLim l = 0) : Iter Tryz.prog 134 [.ip (.i .i64 d) 0, .ip l.pv 0] ((beginsL l d).map tup1) := by
  have hl := chkLim_0 h
  have hp := chkPer_0 hl.2.2.2.2.2.2.2.1
  refine iter_by fact134 (by simp) fun hw X hX => ?_
  unfold ac134
  simp only [iterSt]
  repeat' first | (show Run _ (.cond _ _ _) _ _; refine run_condX (fun hc => ?_) (fun hc => ?_) <;> (try simp only [qH, rng_0] at hc) <;> try contradiction) | (show RunOps _ _ _ _ (⟨_, .call 89, _, _, _⟩ :: _) _ _; refine run_callGX (hf := fun hc => (by first | exact pure89 l d | (simp only [qH, rng_0] at hc; exact pure89 l d))) (hn := ?_)) | (first | refine Stp.h ?_ | (show ∀ K : St → List Ft → Prop, _; intro K hK) | (show runS _ _ _ _ _; first | refine qY (hq := ?_) | refine qZ (hq := ?_)) | (refine hK _ _ ?_; clear hK K) | (refine hK _ _ rfl ?_; clear hK K) | (refine qZ (hq := ?_); try exact trivial) | omega)
  · refine .inr ?_
    have : begOk l d = false := by simp only [begOk, Bool.not_eq_false', Bool.or_eq_true, decide_eq_true_eq, Bool.not_eq_true']; exact hc
    simp [beginsL, this]
  have hbo : begOk l d = true := by simp only [begOk, Bool.not_eq_true', Bool.or_eq_false_iff, decide_eq_false_iff_not, Bool.not_eq_false']; exact ⟨⟨by omega, by omega⟩, hc.2⟩
  have hq1 : (l.fro + l.step - 1).tdiv l.step = l.from_ := Int.tdiv_eq_ediv_of_nonneg (by omega)
  have hq2 : l.to.tdiv l.step = l.to / l.step := Int.tdiv_eq_ediv_of_nonneg (by omega)
  have hb1 : 0 ≤ l.from_ := Int.ediv_nonneg (by omega) (by omega)
  have hb2 : l.from_ ≤ l.fro + l.step - 1 := Int.ediv_le_self _ (by omega)
  have hb3 : 0 ≤ l.to / l.step := Int.ediv_nonneg (by omega) (by omega)
  have hb4 : l.to / l.step ≤ l.to := Int.ediv_le_self _ (by omega)
  have hN : max 0 (l.to / l.step - l.from_ + 1) = (begN l : Int) := by unfold begN; omega
  rw [beginsL, if_pos hbo]
  simp (disch := omega) only [hq1, hq2, hN, qS, Nat.reduceAdd, Nat.reduceMul, Nat.reduceEqDiff, Nat.reduceLeDiff, reduceIte, reduceCtorEq, Nat.reduceBEq, Nat.reduceLT]
  refine run_loop (κ := Nat) (fun k => ⟨[(0, .yield), (1, .p (.ip (.i .i64 d) 0)), (2, .p (.ip l.pv 0)), (4, .p (.i .i64 l.from_)), (41, .p (.i .i64 (begN l))), (42, .p (.i .i64 k))], [], (begK l d k).map tup1, false⟩) (fun k => k ≤ begN l) (fun k => begN l - k) 0 ?_ ?_ ?_
  · simp only [qS, Nat.reduceAdd, Nat.reduceMul, Nat.reduceEqDiff, Nat.reduceLeDiff, reduceIte, reduceCtorEq, Nat.reduceBEq, Nat.reduceLT] <;> simp [begK]
  · simp
  · intro k hk
    repeat' first | (show Run _ (.cond _ _ _) _ _; refine run_condX (fun hc => ?_) (fun hc => ?_) <;> (try simp only [qH, rng_0] at hc) <;> try contradiction) | (first | refine Stp.h ?_ | (show ∀ K : St → List Ft → Prop, _; intro K hK) | (show runS _ _ _ _ _; first | refine qY (hq := ?_) | refine qZ (hq := ?_)) | (refine hK _ _ ?_; clear hK K) | (refine hK _ _ rfl ?_; clear hK K) | (refine qZ (hq := ?_); try exact trivial) | omega)
    · have hb := beg_bound h (n := k) (by omega)
      have hs := mrange_split (begV l d) (show k < begN l by omega)
      have hs' : (begK l d (begN l)).map tup1 = (begK l d k).map tup1 ++ tup1 (begV l d k) :: ((List.range' (k + 1) (begN l - (k + 1))).map (begV l d)).map tup1 := by simp only [begK, hs, List.map_append, List.map_cons]
      repeat' first | (show Run _ (.cond _ _ _) _ _; refine run_condX (fun hc => ?_) (fun hc => ?_) <;> (try simp only [qH, rng_0] at hc) <;> try contradiction) | (show RunOps _ _ _ _ (⟨_, .callv, _, _, _⟩ :: _) _ _; refine run_yld (by first | rfl | (simp (disch := omega) only [qG, Nat.reduceAdd, Nat.reduceMul, Nat.reduceEqDiff, Nat.reduceLeDiff, reduceIte, reduceCtorEq, Nat.reduceBEq, Nat.reduceLT] <;> rfl)) (by simp (disch := omega) only [qS, Nat.reduceAdd, Nat.reduceMul, Nat.reduceEqDiff, Nat.reduceLeDiff, reduceIte, reduceCtorEq, Nat.reduceBEq, Nat.reduceLT]) (by simp (disch := omega) only [qS, Nat.reduceAdd, Nat.reduceMul, Nat.reduceEqDiff, Nat.reduceLeDiff, reduceIte, reduceCtorEq, Nat.reduceBEq, Nat.reduceLT] <;> rfl) (by simp (disch := omega) only [qS, Nat.reduceAdd, Nat.reduceMul, Nat.reduceEqDiff, Nat.reduceLeDiff, reduceIte, reduceCtorEq, Nat.reduceBEq, Nat.reduceLT]; try trivial) rfl _ (hs') ?_; intro b; (refine run_ops ?_)) | (first | refine Stp.h ?_ | (show ∀ K : St → List Ft → Prop, _; intro K hK) | (show runS _ _ _ _ _; first | refine qY (hq := ?_) | refine qZ (hq := ?_)) | (refine hK _ _ ?_; clear hK K) | (refine hK _ _ rfl ?_; clear hK K) | (refine qZ (hq := ?_); try exact trivial) | omega)
      · subst hc; exact .inl rfl
      · subst hc; exact ⟨k + 1, by omega, by omega, by simp, by simp [begK, mrange_next], rfl⟩
    · repeat' first | (show Run _ (.cond _ _ _) _ _; refine run_condX (fun hc => ?_) (fun hc => ?_) <;> (try simp only [qH, rng_0] at hc) <;> try contradiction) | (first | refine Stp.h ?_ | (show ∀ K : St → List Ft → Prop, _; intro K hK) | (show runS _ _ _ _ _; first | refine qY (hq := ?_) | refine qZ (hq := ?_)) | (refine hK _ _ ?_; clear hK K) | (refine hK _ _ rfl ?_; clear hK K) | (refine qZ (hq := ?_); try exact trivial) | omega)
      have e : k = begN l := by omega
      subst e; exact .inr rfl
theorem pure91 (l : Lim) (d : Int) : Pure Tryz.prog 91 [l.pv, .i .i64 d] (.fn (.func 134) [] [.ip (.i .i64 d) 0, .ip l.pv 0]) := by
  refine pure_by fact91 (by simp) fun hw X hX => ?_
  unfold ac91 rs91
  repeat' first | (show Run _ (.cond _ _ _) _ _; refine run_condX (fun hc => ?_) (fun hc => ?_) <;> (try simp only [qH, rng_0] at hc) <;> try contradiction) | (first | refine Stp.h ?_ | (show ∀ K : St → List Ft → Prop, _; intro K hK) | (show runS _ _ _ _ _; first | refine qY (hq := ?_) | refine qZ (hq := ?_)) | (refine hK _ _ ?_; clear hK K) | (refine hK _ _ rfl ?_; clear hK K) | (refine qZ (hq := ?_); try exact trivial) | omega)
  exact .refl _
theorem pure94 (l : Lim) : Pure Tryz.prog 94 [l.pv] (.fn (.func 137) [] [.ip l.pv 0]) := by
  refine pure_by fact94 (by simp) fun hw X hX => ?_
  unfold ac94 rs94
  repeat' first | (show Run _ (.cond _ _ _) _ _; refine run_condX (fun hc => ?_) (fun hc => ?_) <;> (try simp only [qH, rng_0] at hc) <;> try contradiction) | (first | refine Stp.h ?_ | (show ∀ K : St → List Ft → Prop, _; intro K hK) | (show runS _ _ _ _ _; first | refine qY (hq := ?_) | refine qZ (hq := ?_)) | (refine hK _ _ ?_; clear hK K) | (refine hK _ _ rfl ?_; clear hK K) | (refine qZ (hq := ?_); try exact trivial) | omega)
  exact .refl _
def winK (l : Lim) (k : Nat) : List Int := (List.range k).flatMap fun (n : Nat) => beginsL l (l.per.fro + n)
def winN (l : Lim) : Nat := (l.per.to - l.per.fro + 1).toNat
def windowsL (l : Lim) : List Int := winK l (winN l)
theorem take_split {α : Type} {l : List α} {j : Nat} {x : α} (h : l[j]? = some x) : l = l.take j ++ x :: l.drop (j + 1) := by
  obtain ⟨hj, rfl⟩ := List.getElem?_eq_some_iff.1 h
  rw [← List.drop_eq_getElem_cons hj, List.take_append_drop]
theorem iter137 (l : Lim) (h : chkLim l = 0) : Iter Tryz.prog 137 [.ip l.pv 0] ((windowsL l).map tup1) := by
  have hl := chkLim_0 h
  have hp := chkPer_0 hl.2.2.2.2.2.2.2.1
  refine iter_by fact137 (by simp) fun hw X hX => ?_
  unfold ac137
  simp only [iterSt]
  repeat' first | (show Run _ (.cond _ _ _) _ _; refine run_condX (fun hc => ?_) (fun hc => ?_) <;> (try simp only [qH, rng_0] at hc) <;> try contradiction) | (first | refine Stp.h ?_ | (show ∀ K : St → List Ft → Prop, _; intro K hK) | (show runS _ _ _ _ _; first | refine qY (hq := ?_) | refine qZ (hq := ?_)) | (refine hK _ _ ?_; clear hK K) | (refine hK _ _ rfl ?_; clear hK K) | (refine qZ (hq := ?_); try exact trivial) | omega)
  refine run_loop (κ := Nat) (fun k => ⟨[(0, .yield), (1, .p (.ip l.pv 0)), (2, .lp 2 0), (3, .p (.i .i64 (l.per.fro + k)))], [(2, .box [.yield] false)], (winK l k).map tup1, false⟩) (fun k => k ≤ winN l) (fun k => winN l - k) 0 ?_ ?_ ?_
  · simp only [qS, Nat.reduceAdd, Nat.reduceMul, Nat.reduceEqDiff, Nat.reduceLeDiff, reduceIte, reduceCtorEq, Nat.reduceBEq, Nat.reduceLT] <;> simp [winK]
  · simp
  · intro k hk
    unfold winN at hk
    repeat' first | (show Run _ (.cond _ _ _) _ _; refine run_condX (fun hc => ?_) (fun hc => ?_) <;> (try simp only [qH, rng_0] at hc) <;> try contradiction) | (show RunOps _ _ _ _ (⟨_, .call 91, _, _, _⟩ :: _) _ _; refine run_callX (hf := pure91 l (l.per.fro + k)) (hn := ?_)) | (first | refine Stp.h ?_ | (show ∀ K : St → List Ft → Prop, _; intro K hK) | (show runS _ _ _ _ _; first | refine qY (hq := ?_) | refine qZ (hq := ?_)) | (refine hK _ _ ?_; clear hK K) | (refine hK _ _ rfl ?_; clear hK K) | (refine qZ (hq := ?_); try exact trivial) | omega)
    · have hs := range_split (fun n : Nat => beginsL l (l.per.fro + n)) (show k < winN l by unfold winN; omega)
      refine run_rfunc rfl (iter134 l (l.per.fro + k) h) ?_ ?_ [(0, .yield), (1, .p (.ip l.pv 0)), (2, .lp 2 0), (3, .p (.i .i64 (l.per.fro + k)))] (fun _ => [(2, .box [.yield] false)]) (fun j => (winK l k).map tup1 ++ ((beginsL l (l.per.fro + k)).take j).map tup1) ?_ ?_ ?_
      · simp
      · simp [hX]
      · simp only [qS, Nat.reduceAdd, Nat.reduceMul, Nat.reduceEqDiff, Nat.reduceLeDiff, reduceIte, reduceCtorEq, Nat.reduceBEq, Nat.reduceLT] <;> simp
      · intro j t ht X' ro' hX'
        simp only [List.getElem?_map, Option.map_eq_some_iff] at ht
        obtain ⟨b, hb, rfl⟩ := ht
        have hs' : (windowsL l).map tup1 = ((winK l k).map tup1 ++ ((beginsL l (l.per.fro + k)).take j).map tup1) ++ tup1 b :: (((beginsL l (l.per.fro + k)).drop (j + 1)).map tup1 ++ ((List.range' (k + 1) (winN l - (k + 1))).flatMap fun n : Nat => beginsL l (l.per.fro + n)).map tup1) := by
          have e := take_split hb
          rw [windowsL, winK, hs, ← winK]
          conv => lhs; rw [e]
          simp
        simp only [qS, Nat.reduceAdd, Nat.reduceMul, Nat.reduceEqDiff, Nat.reduceLeDiff, reduceIte, reduceCtorEq, Nat.reduceBEq, Nat.reduceLT]
        repeat' first | (show Run _ (.cond _ _ _) _ _; refine run_condX (fun hc => ?_) (fun hc => ?_) <;> (try simp only [qH, rng_0] at hc) <;> try contradiction) | (first | refine Stp.h ?_ | (show ∀ K : St → List Ft → Prop, _; intro K hK) | (show runS _ _ _ _ _; first | refine qY (hq := ?_) | refine qZ (hq := ?_)) | (refine hK _ _ ?_; clear hK K) | (refine hK _ _ rfl ?_; clear hK K) | (refine qZ (hq := ?_); try exact trivial) | omega)
        intro X1 hX1
        have qe := (take_snoc tup1 hb); repeat' first | (show Run _ (.cond _ _ _) _ _; refine run_condX (fun hc => ?_) (fun hc => ?_) <;> (try simp only [qH, rng_0] at hc) <;> try contradiction) | (show RunOps _ _ _ _ (⟨_, .callv, _, _, _⟩ :: _) _ _; refine run_yld (by first | rfl | (simp (disch := omega) only [qG, qe, Nat.reduceAdd, Nat.reduceMul, Nat.reduceEqDiff, Nat.reduceLeDiff, reduceIte, reduceCtorEq, Nat.reduceBEq, Nat.reduceLT] <;> rfl)) (by simp (disch := omega) only [qS, qe, Nat.reduceAdd, Nat.reduceMul, Nat.reduceEqDiff, Nat.reduceLeDiff, reduceIte, reduceCtorEq, Nat.reduceBEq, Nat.reduceLT]) (by simp (disch := omega) only [qS, qe, Nat.reduceAdd, Nat.reduceMul, Nat.reduceEqDiff, Nat.reduceLeDiff, reduceIte, reduceCtorEq, Nat.reduceBEq, Nat.reduceLT] <;> rfl) (by simp (disch := omega) only [qS, qe, Nat.reduceAdd, Nat.reduceMul, Nat.reduceEqDiff, Nat.reduceLeDiff, reduceIte, reduceCtorEq, Nat.reduceBEq, Nat.reduceLT]; try trivial) rfl _ (hs') ?_; intro b; (refine run_ops ?_)) | (first | refine Stp.h ?_ | (show ∀ K : St → List Ft → Prop, _; intro K hK) | (show runS _ _ _ _ _; first | refine qY (hq := ?_) | refine qZ (hq := ?_)) | (refine hK _ _ ?_; clear hK K) | (refine hK _ _ rfl ?_; clear hK K) | (refine qZ (hq := ?_); try exact trivial) | omega)
        · subst hc; exact .inl rfl
        · subst hc; exact ⟨by rw [List.append_assoc], rfl⟩
      · have qe := @List.take_length.{0}; repeat' first | (show Run _ (.cond _ _ _) _ _; refine run_condX (fun hc => ?_) (fun hc => ?_) <;> (try simp only [qH, rng_0] at hc) <;> try contradiction) | (first | refine Stp.h ?_ | (show ∀ K : St → List Ft → Prop, _; intro K hK) | (show runS _ _ _ _ _; first | refine qY (hq := ?_) | refine qZ (hq := ?_)) | (refine hK _ _ ?_; clear hK K) | (refine hK _ _ rfl ?_; clear hK K) | (refine qZ (hq := ?_); try exact trivial) | omega)
        refine ⟨k + 1, by unfold winN; omega, by unfold winN; omega, by simp; omega, ?_⟩
        rw [winK, range_next, ← winK, List.map_append]
    · repeat' first | (show Run _ (.cond _ _ _) _ _; refine run_condX (fun hc => ?_) (fun hc => ?_) <;> (try simp only [qH, rng_0] at hc) <;> try contradiction) | (first | refine Stp.h ?_ | (show ∀ K : St → List Ft → Prop, _; intro K hK) | (show runS _ _ _ _ _; first | refine qY (hq := ?_) | refine qZ (hq := ?_)) | (refine hK _ _ ?_; clear hK K) | (refine hK _ _ rfl ?_; clear hK K) | (refine qZ (hq := ?_); try exact trivial) | omega)
      have e : k = winN l := by unfold winN; omega
      subst e; exact .inr rfl
end Go.Proofs.YtcfbdeghmckelaaGreat
