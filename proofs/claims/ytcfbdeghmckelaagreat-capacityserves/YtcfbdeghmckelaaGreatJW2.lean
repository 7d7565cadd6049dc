/- Contracts of functions that the proof uses, shared by the claims of this seat; no statement of its own. Part 5. No conditions. -/
import Derived.Test.YtcfbdeghmckelaaGreatJW1
import Derived.Laws.RangeAny
set_option linter.all false
namespace Go.Proofs.YtcfbdeghmckelaaGreat
open Go.RowKit
set_option maxRecDepth 100000
set_option linter.unusedVariables false
set_option linter.unusedSimpArgs false
abbrev chAt (s : ByteArray) (i : Nat) : Int := ((s[i]?.getD 0).toNat : Int)
def letCh (c : Int) : Bool := decide (65 ≤ c) && decide (c ≤ 90) || decide (97 ≤ c) && decide (c ≤ 122)
def nameCh (i : Nat) (c : Int) : Bool := letCh c || !(decide (i = 0)) && (decide (c = 95) || decide (48 ≤ c) && decide (c ≤ 57))
def isName (s : ByteArray) : Bool := !(decide (s.size = 0) || decide (24 < s.size)) && (List.range s.size).all fun i => nameCh i (chAt s i)
theorem isName_long {s : ByteArray} (h : (s.size : Int) = 0 ∨ 24 < (s.size : Int)) : isName s = false := by
  have : (decide (s.size = 0) || decide (24 < s.size)) = true := by simp only [Bool.or_eq_true, decide_eq_true_eq]; omega
  simp only [isName, this, Bool.not_true, Bool.false_and]
theorem isName_yes {s : ByteArray} {i : Nat} (h : ¬ (s.size : Int) = 0 ∧ (s.size : Int) ≤ 24) (hi : i ≤ s.size ∧ ∀ j < i, nameCh j (chAt s j) = true) (he : ¬ i < s.size) : isName s = true := by
  have : (decide (s.size = 0) || decide (24 < s.size)) = false := by simp only [Bool.or_eq_false_iff, decide_eq_false_iff_not]; omega
  simp only [isName, this, Bool.not_false, Bool.true_and, List.all_eq_true, List.mem_range]
  exact fun j hj => hi.2 j (by omega)
theorem isName_no {s : ByteArray} {i : Nat} (hi : i < s.size) (hn : nameCh i (chAt s i) = false) : isName s = false := by
  cases h : isName s
  · rfl
  · simp only [isName, Bool.and_eq_true, List.all_eq_true, List.mem_range] at h
    rw [h.2 i hi] at hn; exact hn
theorem dec_cases (s : ByteArray) (i : Nat) (h : i < s.size) : ((Utf8.decode s i).1 : Int) = chAt s i ∧ chAt s i < 128 ∧ (Utf8.decode s i).2 = 1 ∨ 128 ≤ ((Utf8.decode s i).1 : Int) ∧ 128 ≤ chAt s i ∧ 1 ≤ (Utf8.decode s i).2 := by
  have e : chAt s i = ((s[i]'h).toNat : Int) := by simp only [chAt, getElem?_pos s i h, Option.getD_some]
  by_cases ha : (s[i]'h).toNat < 128
  · have := decode_ascii s i h ha
    left; rw [this, e]; simp; omega
  · have := decode_high s i h (by omega)
    right; rw [e]; omega
def ac70 : AC := .seq (.ops false [⟨some 2,.mv,[.c (.b false)],none,[]⟩]) (.seq (.seq (.ops false [⟨some 6,.mv,[.t 0],none,[]⟩,⟨some 7,.len true,[.t 6],none,[0]⟩,⟨some 8,.bin .eql,[.t 7,.c (.i .i64 0)],none,[1]⟩,⟨some 9,.mv,[.t 8],none,[2]⟩,⟨some 10,.mv,[.t 0],some (9,false),[3]⟩,⟨some 11,.len true,[.t 10],some (9,false),[4,3]⟩,⟨some 12,.bin .gtr,[.t 11,.c (.i .i64 24)],some (9,false),[5,3]⟩,⟨some 13,.pick,[.t 9,.c (.b true),.t 12],none,[3,6]⟩]) (.cond (.t 13) (.seq (.ops false [⟨some 2,.mv,[.c (.b false)],none,[]⟩]) .ret) .skip)) (.seq (.seq (.ops false [⟨some 3,.mv,[.c (.i .i64 0)],none,[]⟩]) (.block 0 (.loop (.seq (.seq (.ops false [⟨some 14,.mv,[.t 3],none,[]⟩,⟨some 15,.mv,[.t 0],none,[]⟩,⟨some 16,.len true,[.t 15],none,[1]⟩,⟨some 17,.bin .lss,[.t 14,.t 16],none,[0,2]⟩]) (.cond (.t 17) .skip (.exit 0))) (.seq (.block 1 (.seq (.ops false [⟨some 20,.mv,[.t 0],none,[]⟩,⟨some 21,.mv,[.t 3],none,[]⟩,⟨some 22,.idxS,[.t 20,.t 21],none,[0,1]⟩,⟨some 4,.mv,[.t 22],none,[2,0,1,2]⟩]) (.seq (.ops false [⟨some 23,.mv,[.t 4],none,[]⟩,⟨some 24,.bin .geq,[.t 23,.c (.i .u8 97)],none,[0]⟩,⟨some 25,.mv,[.t 24],none,[1]⟩,⟨some 26,.mv,[.t 4],some (25,true),[2]⟩,⟨some 27,.bin .leq,[.t 26,.c (.i .u8 122)],some (25,true),[3,2]⟩,⟨some 28,.pick,[.t 25,.t 27,.c (.b false)],none,[2,4]⟩,⟨some 29,.mv,[.t 28],none,[5,2]⟩,⟨some 30,.mv,[.t 4],some (29,false),[6]⟩,⟨some 31,.bin .geq,[.t 30,.c (.i .u8 65)],some (29,false),[7,6]⟩,⟨some 32,.mv,[.t 31],some (29,false),[8,6,6]⟩,⟨some 33,.mv,[.t 4],some (32,true),[9]⟩,⟨some 34,.bin .leq,[.t 33,.c (.i .u8 90)],some (32,true),[10,9]⟩,⟨some 35,.pick,[.t 32,.t 34,.c (.b false)],some (29,false),[9,11,6]⟩,⟨some 36,.pick,[.t 29,.c (.b true),.t 35],none,[6,12]⟩,⟨some 5,.mv,[.t 36],none,[13,9,0,1,2,3,4,5,6,7,8,9,10,11,12,13]⟩]) (.seq (.ops false [⟨some 37,.mv,[.t 5],none,[]⟩,⟨some 38,.not,[.t 37],none,[0]⟩,⟨some 39,.mv,[.t 38],none,[1]⟩,⟨some 40,.mv,[.t 3],some (39,true),[2]⟩,⟨some 41,.bin .eql,[.t 40,.c (.i .i64 0)],some (39,true),[3,2]⟩,⟨some 42,.mv,[.t 41],some (39,true),[4,2,2]⟩,⟨some 43,.mv,[.t 4],some (42,false),[5]⟩,⟨some 44,.bin .neq,[.t 43,.c (.i .u8 95)],some (42,false),[6,5]⟩,⟨some 45,.mv,[.t 44],some (42,false),[7,5,5]⟩,⟨some 46,.mv,[.t 4],some (45,true),[8]⟩,⟨some 47,.bin .lss,[.t 46,.c (.i .u8 48)],some (45,true),[9,8]⟩,⟨some 48,.mv,[.t 47],some (45,true),[10,8,8]⟩,⟨some 49,.mv,[.t 4],some (48,false),[11]⟩,⟨some 50,.bin .gtr,[.t 49,.c (.i .u8 57)],some (48,false),[12,11]⟩,⟨some 51,.pick,[.t 48,.c (.b true),.t 50],some (45,true),[11,13,8]⟩,⟨some 52,.pick,[.t 45,.t 51,.c (.b false)],some (42,false),[8,14,5]⟩,⟨some 53,.pick,[.t 42,.c (.b true),.t 52],some (39,true),[5,15,2]⟩,⟨some 54,.pick,[.t 39,.t 53,.c (.b false)],none,[2,16]⟩]) (.cond (.t 54) (.seq (.ops false [⟨some 2,.mv,[.c (.b false)],none,[]⟩]) .ret) .skip))))) (.ops false [⟨some 18,.mv,[.t 3],none,[]⟩,⟨some 19,.bin .add,[.t 18,.c (.i .i64 1)],none,[0]⟩,⟨some 3,.mv,[.t 19],none,[1,0,1]⟩])))))) (.seq (.ops false [⟨some 2,.mv,[.c (.b true)],none,[]⟩]) .ret)))
def rs70 : List RV := [.tmp 2]
theorem fact70 : compF Tryz.prog 70 = some (ac70,rs70,55) := by kernel_rfl
def ac109 : AC := .seq (.ops false [⟨some 2,.mv,[.c (.b false)],none,[]⟩]) (.seq (.seq (.ops false [⟨some 6,.mv,[.t 0],none,[]⟩,⟨some 7,.len true,[.t 6],none,[0]⟩,⟨some 8,.bin .eql,[.t 7,.c (.i .i64 0)],none,[1]⟩,⟨some 9,.mv,[.t 8],none,[2]⟩,⟨some 10,.mv,[.t 0],some (9,false),[3]⟩,⟨some 11,.len true,[.t 10],some (9,false),[4,3]⟩,⟨some 12,.bin .gtr,[.t 11,.c (.i .i64 24)],some (9,false),[5,3]⟩,⟨some 13,.pick,[.t 9,.c (.b true),.t 12],none,[3,6]⟩]) (.cond (.t 13) (.seq (.ops false [⟨some 2,.mv,[.c (.b false)],none,[]⟩]) .ret) .skip)) (.seq (.seq (.ops false [⟨some 14,.mv,[.t 0],none,[]⟩,⟨some 15,.range,[.t 14],none,[0]⟩]) (.block 0 (.loop (.seq (.ops false [⟨some 16,.next,[.t 15],none,[]⟩,⟨some 17,.ext 0,[.t 16],none,[0]⟩]) (.seq (.cond (.t 17) .skip (.exit 0)) (.block 1 (.seq (.ops false [⟨some 18,.ext 1,[.t 16],none,[]⟩,⟨some 19,.ext 2,[.t 16],none,[]⟩,⟨some 3,.mv,[.t 18],none,[0,0]⟩,⟨some 4,.mv,[.t 19],none,[1,2,0,1,2]⟩]) (.seq (.ops false [⟨some 20,.mv,[.t 4],none,[]⟩,⟨some 21,.bin .geq,[.t 20,.c (.i .i32 65)],none,[0]⟩,⟨some 22,.mv,[.t 21],none,[1]⟩,⟨some 23,.mv,[.t 4],some (22,true),[2]⟩,⟨some 24,.bin .leq,[.t 23,.c (.i .i32 90)],some (22,true),[3,2]⟩,⟨some 25,.pick,[.t 22,.t 24,.c (.b false)],none,[2,4]⟩,⟨some 26,.mv,[.t 25],none,[5,2]⟩,⟨some 27,.mv,[.t 4],some (26,false),[6]⟩,⟨some 28,.bin .geq,[.t 27,.c (.i .i32 97)],some (26,false),[7,6]⟩,⟨some 29,.mv,[.t 28],some (26,false),[8,6,6]⟩,⟨some 30,.mv,[.t 4],some (29,true),[9]⟩,⟨some 31,.bin .leq,[.t 30,.c (.i .i32 122)],some (29,true),[10,9]⟩,⟨some 32,.pick,[.t 29,.t 31,.c (.b false)],some (26,false),[9,11,6]⟩,⟨some 33,.pick,[.t 26,.c (.b true),.t 32],none,[6,12]⟩,⟨some 5,.mv,[.t 33],none,[13,9,0,1,2,3,4,5,6,7,8,9,10,11,12,13]⟩]) (.seq (.ops false [⟨some 34,.mv,[.t 5],none,[]⟩,⟨some 35,.not,[.t 34],none,[0]⟩,⟨some 36,.mv,[.t 35],none,[1]⟩,⟨some 37,.mv,[.t 3],some (36,true),[2]⟩,⟨some 38,.bin .eql,[.t 37,.c (.i .i64 0)],some (36,true),[3,2]⟩,⟨some 39,.mv,[.t 38],some (36,true),[4,2,2]⟩,⟨some 40,.mv,[.t 4],some (39,false),[5]⟩,⟨some 41,.bin .neq,[.t 40,.c (.i .i32 95)],some (39,false),[6,5]⟩,⟨some 42,.mv,[.t 41],some (39,false),[7,5,5]⟩,⟨some 43,.mv,[.t 4],some (42,true),[8]⟩,⟨some 44,.bin .lss,[.t 43,.c (.i .i32 48)],some (42,true),[9,8]⟩,⟨some 45,.mv,[.t 44],some (42,true),[10,8,8]⟩,⟨some 46,.mv,[.t 4],some (45,false),[11]⟩,⟨some 47,.bin .gtr,[.t 46,.c (.i .i32 57)],some (45,false),[12,11]⟩,⟨some 48,.pick,[.t 45,.c (.b true),.t 47],some (42,true),[11,13,8]⟩,⟨some 49,.pick,[.t 42,.t 48,.c (.b false)],some (39,false),[8,14,5]⟩,⟨some 50,.pick,[.t 39,.c (.b true),.t 49],some (36,true),[5,15,2]⟩,⟨some 51,.pick,[.t 36,.t 50,.c (.b false)],none,[2,16]⟩]) (.cond (.t 51) (.seq (.ops false [⟨some 2,.mv,[.c (.b false)],none,[]⟩]) .ret) .skip)))))))))) (.seq (.ops false [⟨some 2,.mv,[.c (.b true)],none,[]⟩]) .ret)))
def rs109 : List RV := [.tmp 2]
theorem fact109 : compF Tryz.prog 109 = some (ac109,rs109,52) := by kernel_rfl
theorem pure70 (x : ByteArray) : Pure Tryz.prog 70 [.s x] (.b (isName x)) := by
  refine pure_by fact70 (by simp) fun hw X hX => ?_
  unfold ac70 rs70
  simp only [wfs, PV.wf, maxLen] at hw
  repeat' first | (show Run _ (.cond _ _ _) _ _; refine run_condX (fun hc => ?_) (fun hc => ?_) <;> (try simp only [qH, rng_0] at hc) <;> try contradiction) | (first | refine Stp.h ?_ | (show ∀ K : St → List Ft → Prop, _; intro K hK) | (show runS _ _ _ _ _; first | refine qY (hq := ?_) | refine qZ (hq := ?_)) | (refine hK _ _ ?_; clear hK K) | (refine hK _ _ rfl ?_; clear hK K) | (refine qZ (hq := ?_); try exact trivial) | omega)
  · rw [isName_long hc]; exact .refl _
  refine run_loop (κ := Nat) (fun i => ⟨[(0, .p (.s x)), (3, .p (.i .i64 i))], [], [], false⟩) (fun i => i ≤ x.size ∧ ∀ j < i, nameCh j (chAt x j) = true) (fun i => x.size - i) 0 ?_ ?_ ?_
  · simp only [qS, Nat.reduceAdd, Nat.reduceMul, Nat.reduceEqDiff, Nat.reduceLeDiff, reduceIte, reduceCtorEq, Nat.reduceBEq, Nat.reduceLT] <;> rfl
  · simp
  · intro i hi
    repeat' first | (show Run _ (.cond _ _ _) _ _; refine run_condX (fun hc => ?_) (fun hc => ?_) <;> (try simp only [qH, rng_0] at hc) <;> try contradiction) | (first | refine Stp.h ?_ | (show ∀ K : St → List Ft → Prop, _; intro K hK) | (show runS _ _ _ _ _; first | refine qY (hq := ?_) | refine qZ (hq := ?_)) | (refine hK _ _ ?_; clear hK K) | (refine hK _ _ rfl ?_; clear hK K) | (refine qZ (hq := ?_); try exact trivial) | omega)
    · rw [isName_no (i := i) (by omega)]; exact .refl _
      simp only [nameCh, letCh, chAt]; simp; omega
    · refine ⟨i + 1, ⟨by omega, fun j hj => ?_⟩, by omega, by simp⟩
      by_cases e : j = i
      · subst e; simp only [nameCh, letCh, chAt]; simp; omega
      · exact hi.2 j (by omega)
    · rw [isName_yes ‹_› hi (by omega)]; exact .refl _
theorem pure109 (x : ByteArray) : Pure Tryz.prog 109 [.s x] (.b (isName x)) := by
  refine pure_by fact109 (by simp) fun hw X hX => ?_
  unfold ac109 rs109
  simp only [wfs, PV.wf, maxLen] at hw
  repeat' first | (show Run _ (.cond _ _ _) _ _; refine run_condX (fun hc => ?_) (fun hc => ?_) <;> (try simp only [qH, rng_0] at hc) <;> try contradiction) | (first | refine Stp.h ?_ | (show ∀ K : St → List Ft → Prop, _; intro K hK) | (show runS _ _ _ _ _; first | refine qY (hq := ?_) | refine qZ (hq := ?_)) | (refine hK _ _ ?_; clear hK K) | (refine hK _ _ rfl ?_; clear hK K) | (refine qZ (hq := ?_); try exact trivial) | omega)
  · rw [isName_long hc]; exact .refl _
  refine run_loop (κ := Nat) (fun i => ⟨[(0, .p (.s x)), (15, .it 15)], [(15, .sit x i)], [], false⟩) (fun i => i ≤ x.size ∧ ∀ j < i, nameCh j (chAt x j) = true) (fun i => x.size - i) 0 ?_ ?_ ?_
  · simp only [qS, Nat.reduceAdd, Nat.reduceMul, Nat.reduceEqDiff, Nat.reduceLeDiff, reduceIte, reduceCtorEq, Nat.reduceBEq, Nat.reduceLT] <;> rfl
  · simp
  · intro i hi
    by_cases hlt : i < x.size
    · have qe := And.intro @nextV.eq_1 (And.intro @nextP.eq_1 (And.intro @hlt @maxLen.eq_1)); repeat' first | (show Run _ (.cond _ _ _) _ _; refine run_condX (fun hc => ?_) (fun hc => ?_) <;> (try simp only [qH, rng_0] at hc) <;> try contradiction) | (first | refine Stp.h ?_ | (show ∀ K : St → List Ft → Prop, _; intro K hK) | (show runS _ _ _ _ _; first | refine qY (hq := ?_) | refine qZ (hq := ?_)) | (refine hK _ _ ?_; clear hK K) | (refine hK _ _ rfl ?_; clear hK K) | (refine qZ (hq := ?_); try exact trivial) | omega)
      · rw [isName_no hlt]; exact .refl _
        have := dec_cases x i hlt
        simp only [nameCh, letCh, chAt] at this ⊢; simp; omega
      · have hd := dec_cases x i hlt
        have h1 : chAt x i < 128 ∧ (Utf8.decode x i).2 = 1 := by omega
        refine ⟨i + 1, ⟨by omega, fun j hj => ?_⟩, by omega, by rw [h1.2]⟩
        by_cases e : j = i
        · subst e; simp only [nameCh, letCh, chAt] at hd h1 ⊢; simp; omega
        · exact hi.2 j (by omega)
    · have qe := And.intro @nextV.eq_1 (And.intro @nextP.eq_1 (And.intro @hlt @maxLen.eq_1)); repeat' first | (show Run _ (.cond _ _ _) _ _; refine run_condX (fun hc => ?_) (fun hc => ?_) <;> (try simp only [qH, rng_0] at hc) <;> try contradiction) | (first | refine Stp.h ?_ | (show ∀ K : St → List Ft → Prop, _; intro K hK) | (show runS _ _ _ _ _; first | refine qY (hq := ?_) | refine qZ (hq := ?_)) | (refine hK _ _ ?_; clear hK K) | (refine hK _ _ rfl ?_; clear hK K) | (refine qZ (hq := ?_); try exact trivial) | omega)
      rw [isName_yes ‹_› hi (by omega)]; exact .refl _
end Go.Proofs.YtcfbdeghmckelaaGreat
