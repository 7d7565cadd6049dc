/- Contracts of functions that the proof uses, shared by the claims of this seat; no statement of its own. Part 23. No conditions. -/
import Derived.Test.YtcfbdeghmckelaaGreatJW13
import Derived.Test.YtcfbdeghmckelaaGreatJR1
set_option linter.all false
namespace Go.Proofs.YtcfbdeghmckelaaGreat
open Go.RowKit
set_option maxRecDepth 100000
set_option linter.unusedVariables false
set_option linter.unusedSimpArgs false
set_option maxHeartbeats 2000000
def ac15 : AC := .seq (.ops false [⟨some 4,.mv,[.c (.b false)],none,[]⟩]) (.seq (.seq (.ops false [⟨some 7,.mv,[.t 0],none,[]⟩,⟨some 8,.len false,[.t 7],none,[0]⟩,⟨some 9,.mv,[.t 1],none,[]⟩,⟨some 10,.bin .gtr,[.t 8,.t 9],none,[1,2]⟩,⟨some 11,.mv,[.t 10],none,[3]⟩,⟨some 12,.mv,[.t 0],some (11,true),[4]⟩,⟨some 13,.len false,[.t 12],some (11,true),[5,4]⟩,⟨some 14,.bin .leq,[.t 13,.c (.i .i64 32)],some (11,true),[6,4]⟩,⟨some 15,.pick,[.t 11,.t 14,.c (.b false)],none,[4,7]⟩,⟨some 16,.mv,[.t 15],none,[8,4]⟩,⟨some 17,.mv,[.t 0],some (16,false),[9]⟩,⟨some 18,.len false,[.t 17],some (16,false),[10,9]⟩,⟨some 19,.bin .gtr,[.t 18,.c (.i .i64 34)],some (16,false),[11,9]⟩,⟨some 20,.pick,[.t 16,.c (.b true),.t 19],none,[9,12]⟩]) (.cond (.t 20) (.seq (.ops false [⟨some 4,.mv,[.c (.b false)],none,[]⟩]) .ret) .skip)) (.seq (.ops false [⟨some 5,.mv,[.c (.i .i64 0)],none,[]⟩]) (.seq (.seq (.ops false [⟨some 6,.mv,[.c (.i .i64 0)],none,[]⟩]) (.block 0 (.loop (.seq (.seq (.ops false [⟨some 21,.mv,[.t 6],none,[]⟩,⟨some 22,.mv,[.t 0],none,[]⟩,⟨some 23,.len false,[.t 22],none,[1]⟩,⟨some 24,.bin .lss,[.t 21,.t 23],none,[0,2]⟩]) (.cond (.t 24) .skip (.exit 0))) (.seq (.block 1 (.seq (.seq (.ops false [⟨some 27,.mv,[.t 0],none,[]⟩,⟨some 28,.mv,[.t 6],none,[]⟩,⟨some 29,.iadrS 11,[.t 27,.t 28],none,[0,1]⟩,⟨some 30,.fadr 0,[.t 29],none,[2]⟩,⟨some 31,.load 1 false,[.t 30],none,[3]⟩,⟨some 32,.len true,[.t 31],none,[4]⟩,⟨some 33,.bin .gtr,[.t 32,.c (.i .i64 40)],none,[5]⟩,⟨some 34,.mv,[.t 33],none,[6]⟩,⟨some 35,.mv,[.t 0],some (34,false),[7]⟩,⟨some 36,.mv,[.t 6],some (34,false),[7]⟩,⟨some 37,.iadrS 11,[.t 35,.t 36],some (34,false),[8,9,7]⟩,⟨some 38,.fadr 1,[.t 37],some (34,false),[10,7]⟩,⟨some 39,.load 1 false,[.t 38],some (34,false),[11,7]⟩,⟨some 40,.len true,[.t 39],some (34,false),[12,7]⟩,⟨some 41,.bin .gtr,[.t 40,.c (.i .i64 40)],some (34,false),[13,7]⟩,⟨some 42,.pick,[.t 34,.c (.b true),.t 41],none,[7,14]⟩,⟨some 43,.mv,[.t 42],none,[15,7]⟩,⟨some 44,.mv,[.t 0],some (43,false),[16]⟩,⟨some 45,.mv,[.t 6],some (43,false),[16]⟩,⟨some 46,.iadrS 11,[.t 44,.t 45],some (43,false),[17,18,16]⟩,⟨some 47,.fadr 2,[.t 46],some (43,false),[19,16]⟩,⟨some 48,.load 1 false,[.t 47],some (43,false),[20,16]⟩,⟨some 49,.len true,[.t 48],some (43,false),[21,16]⟩,⟨some 50,.bin .gtr,[.t 49,.c (.i .i64 40)],some (43,false),[22,16]⟩,⟨some 51,.pick,[.t 43,.c (.b true),.t 50],none,[16,23]⟩,⟨some 52,.mv,[.t 51],none,[24,16]⟩,⟨some 53,.mv,[.t 0],some (52,false),[25]⟩,⟨some 54,.mv,[.t 6],some (52,false),[25]⟩,⟨some 55,.iadrS 11,[.t 53,.t 54],some (52,false),[26,27,25]⟩,⟨some 56,.fadr 7,[.t 55],some (52,false),[28,25]⟩,⟨some 57,.load 3 true,[.t 56],some (52,false),[29,25]⟩,⟨some 58,.call 75,[.t 57,.c (.i .i64 24)],some (52,false),[30,25,25]⟩,⟨some 59,.not,[.t 58],some (52,false),[31,25]⟩,⟨some 60,.pick,[.t 52,.c (.b true),.t 59],none,[25,32]⟩]) (.cond (.t 60) (.seq (.ops false [⟨some 4,.mv,[.c (.b false)],none,[]⟩]) .ret) .skip)) (.seq (.ops false [⟨some 61,.mv,[.t 0],none,[]⟩,⟨some 62,.mv,[.t 6],none,[]⟩,⟨some 63,.iadrS 11,[.t 61,.t 62],none,[0,1]⟩,⟨some 64,.load 11 true,[.t 63],none,[2]⟩,⟨some 65,.call 31,[.t 64],none,[3]⟩,⟨some 66,.bin .eql,[.t 65,.c (.i .i64 0)],none,[4]⟩]) (.cond (.t 66) (.ops true [⟨some 67,.mv,[.t 5],none,[]⟩,⟨some 68,.mv,[.t 0],none,[]⟩,⟨some 69,.mv,[.t 6],none,[]⟩,⟨some 70,.iadrS 11,[.t 68,.t 69],none,[1,2]⟩,⟨some 71,.load 11 true,[.t 70],none,[3]⟩,⟨some 72,.call 76,[.t 71],none,[4]⟩,⟨some 73,.mv,[.t 0],none,[]⟩,⟨some 74,.mv,[.t 6],none,[]⟩,⟨some 75,.iadrS 11,[.t 73,.t 74],none,[6,7]⟩,⟨some 76,.fadr 7,[.t 75],none,[8]⟩,⟨some 77,.load 3 true,[.t 76],none,[9]⟩,⟨some 78,.call 67,[.t 77],none,[10,5]⟩,⟨some 79,.len false,[.t 78],none,[11]⟩,⟨some 80,.bin .mul,[.t 72,.t 79],none,[5,12]⟩,⟨some 81,.bin .add,[.t 67,.t 80],none,[0,13]⟩,⟨some 5,.mv,[.t 81],none,[14,11,0,1,2,3,4,5,6,7,8,9,10,11,12,13,14]⟩]) .skip)))) (.ops false [⟨some 25,.mv,[.t 6],none,[]⟩,⟨some 26,.bin .add,[.t 25,.c (.i .i64 1)],none,[0]⟩,⟨some 6,.mv,[.t 26],none,[1,0,1]⟩])))))) (.seq (.ops false [⟨some 82,.mv,[.t 5],none,[]⟩,⟨some 83,.bin .leq,[.t 82,.c (.i .i64 400)],none,[0]⟩,⟨some 4,.mv,[.t 83],none,[1,0,1]⟩]) .ret))))
def rs15 : List RV := [.tmp 4]
theorem fact15 : compF Tryz.prog 15 = some (ac15,rs15,84) := by kernel_rfl
def ac14 : AC := .seq (.ops false [⟨some 2,.mv,[.c .nilsl],none,[]⟩]) (.seq (.ops false [⟨some 3,.mv,[.c .nilsl],none,[]⟩]) (.seq (.seq (.ops false [⟨some 6,.mv,[.t 0],none,[]⟩,⟨some 7,.len false,[.t 6],none,[0]⟩,⟨some 8,.mv,[.c (.i .i64 0)],none,[]⟩]) (.block 0 (.loop (.seq (.ops false [⟨some 9,.bin .lss,[.t 8,.t 7],none,[]⟩]) (.seq (.cond (.t 9) .skip (.exit 0)) (.seq (.block 1 (.seq (.ops false [⟨some 10,.iadrS 11,[.t 6,.t 8],none,[]⟩,⟨some 11,.load 11 true,[.t 10],none,[0]⟩,⟨some 5,.alloc [(.s (bs [])),(.s (bs [])),(.s (bs [])),(.i .i64 0),(.i .i64 0),(.i .i64 0),(.i .i64 0),(.i .i64 0),(.i .i64 0),(.i .i64 0),(.i .i64 0)],[],none,[]⟩,⟨none,.store 11,[.t 5,.t 11],none,[2,1,0,1,2]⟩]) (.ops false [⟨some 12,.mv,[.t 3],none,[]⟩,⟨some 13,.load 11 true,[.t 5],none,[]⟩,⟨some 14,.bslice 48 11 (.agg [(.s (bs [])),(.s (bs [])),(.s (bs [])),(.i .i64 0),(.i .i64 0),(.i .i64 0),(.i .i64 0),(.i .i64 0),(.i .i64 0),(.i .i64 0),(.i .i64 0)]) 1 [0],[.t 13],none,[1]⟩,⟨some 15,.app 48 11 112,[.t 12,.t 14],none,[0,2]⟩,⟨some 3,.mv,[.t 15],none,[3,3,0,1,2,3]⟩]))) (.ops false [⟨some 16,.bin .add,[.t 8,.c (.i .i64 1)],none,[]⟩,⟨some 8,.mv,[.t 16],none,[0]⟩]))))))) (.seq (.ops false [⟨some 17,.mv,[.t 3],none,[]⟩,⟨some 2,.mv,[.t 17],none,[0,0]⟩]) .ret)))
def rs14 : List RV := [.tmp 2]
theorem fact14 : compF Tryz.prog 14 = some (ac14,rs14,18) := by kernel_rfl
def inW (l : Lim) (b : Int) (x : Mov) : Bool := countsL l x.kind x.term && (decide (b ≤ x.moment) && decide (x.moment < b + l.len))
theorem cnt_filter {l : Lim} (h : 0 ≤ l.len) (b : Int) : ∀ m : List Mov, cntAll l m b = ((m.filter (inW l b)).length : Int)
  | [] => by simp [cntAll, cntW, ofL, ltN]
  | x :: r => by
    have ih := cnt_filter h b r
    simp only [cntAll, cntW, ofL, List.filter_cons, inW] at ih ⊢
    by_cases hc : countsL l x.kind x.term = true
    · simp only [hc, if_true, List.map_cons, ltN, List.filter_cons, Bool.true_and, decide_eq_true_eq, Bool.and_eq_true] at ih ⊢
      (repeat' split) <;> (try simp only [List.length_cons]) <;> omega
    · simp only [Bool.not_eq_true] at hc
      simp only [hc, Bool.false_eq_true, if_false, Bool.false_and]
      exact ih
theorem pure14 (L : List Lim) (hn : L.length * 112 ≤ 140737488355328) : Pure Tryz.prog 14 [.sl 11 (L.map Lim.pv)] (.sl 11 (L.map Lim.pv)) := by
  refine pure_by fact14 (by simp) fun hw X hX => ?_
  unfold ac14 rs14
  repeat' first | (show Run _ (.cond _ _ _) _ _; refine run_condX (fun hc => ?_) (fun hc => ?_) <;> (try simp only [qH, rng_0] at hc) <;> try contradiction) | (first | refine Stp.h ?_ | (show ∀ K : St → List Ft → Prop, _; intro K hK) | (show runS _ _ _ _ _; first | refine qY (hq := ?_) | refine qZ (hq := ?_)) | (refine hK _ _ ?_; clear hK K) | (refine hK _ _ rfl ?_; clear hK K) | (refine qZ (hq := ?_); try exact trivial) | omega)
  refine run_own 100 48 11 [(3, .row 100 0), (6, .p (.sl 11 (L.map Lim.pv))), (7, .p (.i .i64 L.length)), (8, .p (.i .i64 0))] [] ?_ ?_
  · simp only [Own, ownEnv, ownObj, nilTo, nilTos, qS, Nat.reduceAdd, Nat.reduceMul, Nat.reduceEqDiff, Nat.reduceLeDiff, reduceIte, reduceCtorEq, Nat.reduceBEq, Nat.reduceLT]
  refine run_loop (κ := Nat) (fun k => ⟨[(3, .row 100 (L.take k).length), (6, .p (.sl 11 (L.map Lim.pv))), (7, .p (.i .i64 L.length)), (8, .p (.i .i64 k))], [(100, .row 48 11 ((L.take k).map Lim.pv) false)], [], false⟩) (fun k => k ≤ L.length) (fun k => L.length - k) 0 ?_ ?_ ?_
  · simp only [qS, Nat.reduceAdd, Nat.reduceMul, Nat.reduceEqDiff, Nat.reduceLeDiff, reduceIte, reduceCtorEq, Nat.reduceBEq, Nat.reduceLT] <;> simp
  · simp
  · intro k hk
    repeat (first | refine Stp.h ?_ | (show ∀ K : St → List Ft → Prop, _; intro K hK) | (show runS _ _ _ _ _; first | refine qY (hq := ?_) | refine qZ (hq := ?_)) | (refine hK _ _ ?_; clear hK K) | (refine hK _ _ rfl ?_; clear hK K) | (refine qZ (hq := ?_); try exact trivial) | omega)
    (show Run _ (.cond _ _ _) _ _; refine run_condX (fun hc => ?_) (fun hc => ?_) <;> (try simp only [qH, rng_0] at hc) <;> try contradiction)
    · obtain ⟨w, hx⟩ := some_at (i := k) (l := L) (by omega)
      have hlt := take_len hx
      have qe := And.intro qR @hx; repeat' first | (show Run _ (.cond _ _ _) _ _; refine run_condX (fun hc => ?_) (fun hc => ?_) <;> (try simp only [qH, rng_0] at hc) <;> try contradiction) | (first | refine Stp.h ?_ | (show ∀ K : St → List Ft → Prop, _; intro K hK) | (show runS _ _ _ _ _; first | refine qY (hq := ?_) | refine qZ (hq := ?_)) | (refine hK _ _ ?_; clear hK K) | (refine hK _ _ rfl ?_; clear hK K) | (refine qZ (hq := ?_); try exact trivial) | omega)
      exact ⟨k + 1, by omega, by omega, ⟨by rw [List.take_add_one, hx, List.length_append]; rfl, by simp⟩, by rw [take_snoc Lim.pv hx]⟩
    · repeat' first | (show Run _ (.cond _ _ _) _ _; refine run_condX (fun hc => ?_) (fun hc => ?_) <;> (try simp only [qH, rng_0] at hc) <;> try contradiction) | (first | refine Stp.h ?_ | (show ∀ K : St → List Ft → Prop, _; intro K hK) | (show runS _ _ _ _ _; first | refine qY (hq := ?_) | refine qZ (hq := ?_)) | (refine hK _ _ ?_; clear hK K) | (refine hK _ _ rfl ?_; clear hK K) | (refine qZ (hq := ?_); try exact trivial) | omega)
      have e : k = L.length := by omega
      subst e; rw [List.take_length]; exact .refl _
def badLim (l : Lim) : Bool := ((decide ((40 : Int) < l.name.size) || decide ((40 : Int) < l.kind.size)) || decide ((40 : Int) < l.term.size)) || !fewB l.per 24
theorem badLim_t {x : Lim} (h : (((40 : Int) < x.name.size ∨ (40 : Int) < x.kind.size) ∨ (40 : Int) < x.term.size) ∨ fewB x.per 24 = false) : badLim x = true := by
  simp only [badLim, Bool.or_eq_true, decide_eq_true_eq, Bool.not_eq_true']; exact h
theorem badLim_f {x : Lim} (h : (((x.name.size : Int) ≤ 40 ∧ (x.kind.size : Int) ≤ 40) ∧ (x.term.size : Int) ≤ 40) ∧ fewB x.per 24 = true) : badLim x = false := by
  simp only [badLim, Bool.or_eq_false_iff, decide_eq_false_iff_not, Bool.not_eq_false', Int.not_lt]; exact h
def limN (x : Lim) : Int := if chkLim x = 0 then (begN x : Int) * (daysL x.per).length else 0
def sumK (l : List Lim) (k : Nat) : Int := (l.take k).foldl (fun a x => a + limN x) 0
def longL (l : List Lim) (n : Int) : Bool := (decide (n < l.length) && decide ((l.length : Int) ≤ 32)) || decide (34 < (l.length : Int))
def shLims (l : List Lim) (n : Int) : Bool := !longL l n && ((l.all fun x => !badLim x) && decide (sumK l l.length ≤ 400))
theorem sumK_next {l : List Lim} {k : Nat} {x : Lim} (h : l[k]? = some x) : sumK l (k + 1) = sumK l k + limN x := by
  rw [sumK, List.take_add_one, h, List.foldl_append]; rfl
theorem begN_le {l : Lim} (h : chkLim l = 0) : begN l ≤ 1440 := by
  have hl := chkLim_0 h
  have h1 : 0 ≤ l.from_ := Int.ediv_nonneg (by omega) (by omega)
  have h2 : l.to / l.step ≤ l.to := Int.ediv_le_self _ (by omega)
  unfold begN; omega
theorem limN_bd (x : Lim) : 0 ≤ limN x ∧ limN x ≤ 577440 := by
  unfold limN
  split
  · rename_i h
    have h1 := begN_le h
    have hp := chkPer_0 (chkLim_0 h).2.2.2.2.2.2.2.1
    have h2 := daysL_len x.per
    have h3 : (daysL x.per).length ≤ 401 := by omega
    have h4 : begN x * (daysL x.per).length ≤ 1440 * 401 := Nat.mul_le_mul h1 h3
    omega
  · omega
theorem sumK_bd (l : List Lim) (k : Nat) : 0 ≤ sumK l k ∧ sumK l k ≤ k * 577440 := by
  induction k with
  | zero => simp [sumK]
  | succ k ih =>
    by_cases hk : k < l.length
    · rw [sumK_next (List.getElem?_eq_getElem hk)]
      have := limN_bd l[k]
      omega
    · have : sumK l (k + 1) = sumK l k := by rw [sumK, sumK, List.take_of_length_le (by omega), List.take_of_length_le (by omega)]
      omega
theorem pure15 (l : List Lim) (n : Int) : Pure Tryz.prog 15 [.sl 11 (l.map Lim.pv), .i .i64 n] (.b (shLims l n)) := by
  refine pure_by fact15 (by simp) fun hw X hX => ?_
  unfold ac15 rs15
  simp only [wfs, PV.wf, List.length_map, maxLen] at hw
  repeat' first | (show Run _ (.cond _ _ _) _ _; refine run_condX (fun hc => ?_) (fun hc => ?_) <;> (try simp only [qH, rng_0] at hc) <;> try contradiction) | (first | refine Stp.h ?_ | (show ∀ K : St → List Ft → Prop, _; intro K hK) | (show runS _ _ _ _ _; first | refine qY (hq := ?_) | refine qZ (hq := ?_)) | (refine hK _ _ ?_; clear hK K) | (refine hK _ _ rfl ?_; clear hK K) | (refine qZ (hq := ?_); try exact trivial) | omega)
  · have : longL l n = true := by simpa [longL] using hc
    rw [shLims, this]; exact .refl _
  have hsh : longL l n = false := by simpa [longL] using hc
  have h34 : l.length ≤ 34 := by omega
  refine run_loop (κ := Nat) (fun i => ⟨[(0, .p (.sl 11 (l.map Lim.pv))), (5, .p (.i .i64 (sumK l i))), (6, .p (.i .i64 i))], [], [], false⟩) (fun i => i ≤ l.length ∧ ∀ x ∈ l.take i, (!badLim x) = true) (fun i => l.length - i) 0 ?_ ?_ ?_
  · simp only [qS, Nat.reduceAdd, Nat.reduceMul, Nat.reduceEqDiff, Nat.reduceLeDiff, reduceIte, reduceCtorEq, Nat.reduceBEq, Nat.reduceLT] <;> exact ⟨rfl, rfl⟩
  · simp
  · intro i hi
    have hsb := sumK_bd l i
    repeat (first | refine Stp.h ?_ | (show ∀ K : St → List Ft → Prop, _; intro K hK) | (show runS _ _ _ _ _; first | refine qY (hq := ?_) | refine qZ (hq := ?_)) | (refine hK _ _ ?_; clear hK K) | (refine hK _ _ rfl ?_; clear hK K) | (refine qZ (hq := ?_); try exact trivial) | omega)
    (show Run _ (.cond _ _ _) _ _; refine run_condX (fun hc => ?_) (fun hc => ?_) <;> (try simp only [qH, rng_0] at hc) <;> try contradiction)
    · obtain ⟨x, hx⟩ := some_at (i := i) (l := l) (by omega)
      have hsn := sumK_next hx
      have hlb := limN_bd x
      by_cases h0 : chkLim x = 0
      · have h0' := eq_true h0
        have hlx := chkLim_0 h0
        have hbn := begN_le h0
        have hdn := daysL_len x.per
        have hpp := chkPer_0 hlx.2.2.2.2.2.2.2.1
        rw [limN, if_pos h0] at hsn hlb
        have qe := And.intro qR (And.intro @hx @h0'); repeat' first | (show Run _ (.cond _ _ _) _ _; refine run_condX (fun hc => ?_) (fun hc => ?_) <;> (try simp only [qH, rng_0] at hc) <;> try contradiction) | (show RunOps _ _ _ _ (⟨_, .call 31, _, _, _⟩ :: _) _ _; refine run_callX (hf := pure31 x) (hn := ?_)) | (show RunOps _ _ _ _ (⟨_, .call 76, _, _, _⟩ :: _) _ _; refine run_callX (hf := pure76 x h0) (hn := ?_)) | (show RunOps _ _ _ _ (⟨_, .call 67, _, _, _⟩ :: _) _ _; refine run_callX (hf := pure67 x.per hlx.2.2.2.2.2.2.2.1) (hn := ?_)) | (show RunOps _ _ _ _ (⟨_, .call 75, _, _, _⟩ :: _) _ _; refine run_callGX (hf := fun hc => (by first | exact pure75 x.per 24 | (simp only [qH, rng_0] at hc; exact pure75 x.per 24))) (hn := ?_)) | (first | refine Stp.h ?_ | (show ∀ K : St → List Ft → Prop, _; intro K hK) | (show runS _ _ _ _ _; first | refine qY (hq := ?_) | refine qZ (hq := ?_)) | (refine hK _ _ ?_; clear hK K) | (refine hK _ _ rfl ?_; clear hK K) | (refine qZ (hq := ?_); try exact trivial) | omega)
        · rw [shLims, hsh, all_no hx (by rw [badLim_t hc]; rfl)]; exact .refl _
        · exact ⟨i + 1, ⟨by omega, fun y hy => by simpa using all_next (p := fun x => !badLim x) (fun y hy => by simpa using hi.2 y hy) hx (by rw [badLim_f (by assumption)]; rfl) y hy⟩, by omega, by rw [hsn], by simp⟩
      · have h0' := eq_false h0
        rw [limN, if_neg h0] at hsn hlb
        have qe := And.intro qR (And.intro @hx @h0'); repeat' first | (show Run _ (.cond _ _ _) _ _; refine run_condX (fun hc => ?_) (fun hc => ?_) <;> (try simp only [qH, rng_0] at hc) <;> try contradiction) | (show RunOps _ _ _ _ (⟨_, .call 31, _, _, _⟩ :: _) _ _; refine run_callX (hf := pure31 x) (hn := ?_)) | (show RunOps _ _ _ _ (⟨_, .call 75, _, _, _⟩ :: _) _ _; refine run_callGX (hf := fun hc => (by first | exact pure75 x.per 24 | (simp only [qH, rng_0] at hc; exact pure75 x.per 24))) (hn := ?_)) | (first | refine Stp.h ?_ | (show ∀ K : St → List Ft → Prop, _; intro K hK) | (show runS _ _ _ _ _; first | refine qY (hq := ?_) | refine qZ (hq := ?_)) | (refine hK _ _ ?_; clear hK K) | (refine hK _ _ rfl ?_; clear hK K) | (refine qZ (hq := ?_); try exact trivial) | omega)
        · rw [shLims, hsh, all_no hx (by rw [badLim_t hc]; rfl)]; exact .refl _
        · exact ⟨i + 1, ⟨by omega, fun y hy => by simpa using all_next (p := fun x => !badLim x) (fun y hy => by simpa using hi.2 y hy) hx (by rw [badLim_f (by assumption)]; rfl) y hy⟩, by omega, by rw [hsn, Int.add_zero], by simp⟩
    · repeat' first | (show Run _ (.cond _ _ _) _ _; refine run_condX (fun hc => ?_) (fun hc => ?_) <;> (try simp only [qH, rng_0] at hc) <;> try contradiction) | (first | refine Stp.h ?_ | (show ∀ K : St → List Ft → Prop, _; intro K hK) | (show runS _ _ _ _ _; first | refine qY (hq := ?_) | refine qZ (hq := ?_)) | (refine hK _ _ ?_; clear hK K) | (refine hK _ _ rfl ?_; clear hK K) | (refine qZ (hq := ?_); try exact trivial) | omega)
      have e : i = l.length := by omega
      subst e
      rw [shLims, hsh, all_end hi.2]; exact .refl _
end Go.Proofs.YtcfbdeghmckelaaGreat
