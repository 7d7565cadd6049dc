/- Contracts of functions that the proof uses, shared by the claims of this seat; no statement of its own. Part 8. No conditions. -/
import Derived.Test.YtcfbdeghmckelaaGreatJW2
set_option linter.all false
namespace Go.Proofs.YtcfbdeghmckelaaGreat
open Go.RowKit
set_option maxRecDepth 100000
set_option linter.unusedVariables false
set_option linter.unusedSimpArgs false
abbrev s0 : ByteArray := bs []
abbrev sA : ByteArray := bs [65]
abbrev sD : ByteArray := bs [68]
abbrev sT : ByteArray := bs [84]
structure Lim where
  name : ByteArray
  kind : ByteArray
  term : ByteArray
  len : Int
  step : Int
  fro : Int
  to : Int
  per : Per
  most : Int
abbrev Lim.cells (l : Lim) : List PV := [.s l.name, .s l.kind, .s l.term, .i .i64 l.len, .i .i64 l.step, .i .i64 l.fro, .i .i64 l.to, .i .i64 l.per.fro, .i .i64 l.per.to, .i .i64 l.per.days, .i .i64 l.most]
abbrev Lim.pv (l : Lim) : PV := .agg l.cells
structure Mov where
  moment : Int
  kind : ByteArray
  term : ByteArray
  seats : Int
  size : Int
  noise : Int
  name : ByteArray
abbrev Mov.pv (m : Mov) : PV := .agg [.i .i64 m.moment, .s m.kind, .s m.term, .i .i64 m.seats, .i .i64 m.size, .i .i64 m.noise, .s m.name]
structure Req where
  name : ByteArray
  carrier : ByteArray
  kind : ByteArray
  term : ByteArray
  partner : ByteArray
  link : ByteArray
  per : Per
  minute : Int
  seats : Int
  size : Int
  noise : Int
abbrev Req.pv (r : Req) : PV := .agg [.s r.name, .s r.carrier, .s r.kind, .s r.term, .s r.partner, .s r.link, .i .i64 r.per.fro, .i .i64 r.per.to, .i .i64 r.per.days, .i .i64 r.minute, .i .i64 r.seats, .i .i64 r.size, .i .i64 r.noise]
structure Win where
  lim : Int
  beg : Int
  cnt : Int
abbrev Win.pv (w : Win) : PV := .agg [.i .i64 w.lim, .i .i64 w.beg, .i .i64 w.cnt]
def flightE (k : ByteArray) : Int := if ¬k = sA ∧ ¬k = sD then 13 else 0
def optE (s : ByteArray) : Int := if ¬s = s0 ∧ isName s = false then 8 else 0
def nameE (s : ByteArray) : Int := if isName s = false then 8 else 0
def loadE (a b c : Int) : Int := firstE [rng a 0 999, rng b 0 9, rng c 0 99]
def chkMov (m : Mov) : Int := firstE [rng m.moment 0 143999999, flightE m.kind, optE m.term, loadE m.seats m.size m.noise, nameE m.name]
def chkReq (r : Req) : Int := firstE [nameE r.name, flightE r.kind, optE r.term, chkPer r.per, rng r.minute 0 1439, loadE r.seats r.size r.noise]
def kindE (k : ByteArray) : Int := if ¬k = sA ∧ ¬k = sD ∧ ¬k = sT then 13 else 0
def chkLim (l : Lim) : Int := firstE [nameE l.name, kindE l.kind, optE l.term, rng l.len 1 1440, rng l.step 1 1440, rng l.fro 0 1439, rng l.to 0 1439, if l.to < l.fro then 11 else 0, chkPer l.per, rng l.most 0 999999999]
def ac85 : AC := .seq (.ops false [⟨some 4,.mv,[.c (.i .i64 0)],none,[]⟩]) (.seq (.seq (.ops false [⟨some 5,.mv,[.t 0],none,[]⟩]) (.cond (.t 5) (.seq (.ops false [⟨some 6,.mv,[.t 1],none,[]⟩,⟨some 4,.mv,[.t 6],none,[0,0]⟩]) .ret) .skip)) (.seq (.ops false [⟨some 4,.mv,[.c (.i .i64 0)],none,[]⟩]) .ret))
def rs85 : List RV := [.tmp 4]
theorem fact85 : compF Tryz.prog 85 = some (ac85,rs85,7) := by kernel_rfl
def ac88 : AC := .seq (.ops false [⟨some 6,.mv,[.c (.i .i64 0)],none,[]⟩]) (.seq (.ops false [⟨some 7,.mv,[.t 0],none,[]⟩,⟨some 8,.mv,[.t 1],none,[]⟩,⟨some 9,.bin .lss,[.t 7,.t 8],none,[0,1]⟩,⟨some 10,.mv,[.t 9],none,[2]⟩,⟨some 11,.mv,[.t 0],some (10,false),[3]⟩,⟨some 12,.mv,[.t 2],some (10,false),[3]⟩,⟨some 13,.bin .gtr,[.t 11,.t 12],some (10,false),[4,5,3]⟩,⟨some 14,.pick,[.t 10,.c (.b true),.t 13],none,[3,6]⟩,⟨some 15,.call 85,[.t 14,.c (.i .i64 3)],none,[7,3]⟩,⟨some 6,.mv,[.t 15],none,[8,8,0,1,2,3,4,5,6,7,8]⟩]) .ret)
def rs88 : List RV := [.tmp 6]
theorem fact88 : compF Tryz.prog 88 = some (ac88,rs88,16) := by kernel_rfl
def ac83 : AC := .seq (.ops false [⟨some 2,.mv,[.c (.i .i64 0)],none,[]⟩]) (.seq (.seq (.ops false [⟨some 5,.mv,[.t 0],none,[]⟩,⟨some 6,.len false,[.t 5],none,[0]⟩,⟨some 7,.mv,[.c (.i .i64 0)],none,[]⟩]) (.block 0 (.loop (.seq (.ops false [⟨some 8,.bin .lss,[.t 7,.t 6],none,[]⟩]) (.seq (.cond (.t 8) .skip (.exit 0)) (.seq (.block 1 (.seq (.ops false [⟨some 9,.iadrS 1,[.t 5,.t 7],none,[]⟩,⟨some 10,.load 1 false,[.t 9],none,[0]⟩,⟨some 4,.mv,[.t 10],none,[1,0,1]⟩]) (.seq (.ops false [⟨some 11,.mv,[.t 4],none,[]⟩,⟨some 12,.bin .neq,[.t 11,.c (.i .i64 0)],none,[0]⟩]) (.cond (.t 12) (.seq (.ops false [⟨some 13,.mv,[.t 4],none,[]⟩,⟨some 2,.mv,[.t 13],none,[0,0]⟩]) .ret) .skip)))) (.ops false [⟨some 14,.bin .add,[.t 7,.c (.i .i64 1)],none,[]⟩,⟨some 7,.mv,[.t 14],none,[0]⟩]))))))) (.seq (.ops false [⟨some 2,.mv,[.c (.i .i64 0)],none,[]⟩]) .ret))
def rs83 : List RV := [.tmp 2]
theorem fact83 : compF Tryz.prog 83 = some (ac83,rs83,15) := by kernel_rfl
def ac123 : AC := .seq (.ops false [⟨some 2,.mv,[.c (.i .i64 0)],none,[]⟩]) (.seq (.ops false [⟨some 3,.mv,[.t 0],none,[]⟩,⟨some 4,.bin .neq,[.t 3,.c (.s (bs []))],none,[0]⟩,⟨some 5,.mv,[.t 4],none,[1]⟩,⟨some 6,.mv,[.t 0],some (5,true),[2]⟩,⟨some 7,.call 109,[.t 6],some (5,true),[3,2,2]⟩,⟨some 8,.not,[.t 7],some (5,true),[4,2]⟩,⟨some 9,.pick,[.t 5,.t 8,.c (.b false)],none,[2,5]⟩,⟨some 10,.call 85,[.t 9,.c (.i .i64 8)],none,[6,4]⟩,⟨some 2,.mv,[.t 10],none,[7,7,0,1,2,3,4,5,6,7]⟩]) .ret)
def rs123 : List RV := [.tmp 2]
theorem fact123 : compF Tryz.prog 123 = some (ac123,rs123,11) := by kernel_rfl
def ac122 : AC := .seq (.ops false [⟨some 2,.mv,[.c (.i .i64 0)],none,[]⟩]) (.seq (.ops false [⟨some 3,.mv,[.t 0],none,[]⟩,⟨some 4,.bin .neq,[.t 3,.c (.s (bs [65]))],none,[0]⟩,⟨some 5,.mv,[.t 4],none,[1]⟩,⟨some 6,.mv,[.t 0],some (5,true),[2]⟩,⟨some 7,.bin .neq,[.t 6,.c (.s (bs [68]))],some (5,true),[3,2]⟩,⟨some 8,.pick,[.t 5,.t 7,.c (.b false)],none,[2,4]⟩,⟨some 9,.call 85,[.t 8,.c (.i .i64 13)],none,[5,2]⟩,⟨some 2,.mv,[.t 9],none,[6,6,0,1,2,3,4,5,6]⟩]) .ret)
def rs122 : List RV := [.tmp 2]
theorem fact122 : compF Tryz.prog 122 = some (ac122,rs122,10) := by kernel_rfl
def ac125 : AC := .seq (.ops false [⟨some 6,.mv,[.c (.i .i64 0)],none,[]⟩]) (.seq (.ops false [⟨some 7,.mv,[.t 0],none,[]⟩,⟨some 8,.call 88,[.t 7,.c (.i .i64 0),.c (.i .i64 999)],none,[0]⟩,⟨some 9,.mv,[.t 1],none,[]⟩,⟨some 10,.call 88,[.t 9,.c (.i .i64 0),.c (.i .i64 9)],none,[2,1]⟩,⟨some 11,.mv,[.t 2],none,[]⟩,⟨some 12,.call 88,[.t 11,.c (.i .i64 0),.c (.i .i64 99)],none,[4,3]⟩,⟨some 13,.bslice 34 1 (.i .i64 0) 3 [0,1,2],[.t 8,.t 10,.t 12],none,[1,3,5]⟩,⟨some 14,.call 83,[.t 13],none,[6,5]⟩,⟨some 6,.mv,[.t 14],none,[7,7,0,1,2,3,4,5,6,7]⟩]) .ret)
def rs125 : List RV := [.tmp 6]
theorem fact125 : compF Tryz.prog 125 = some (ac125,rs125,15) := by kernel_rfl
def ac87 : AC := .seq (.ops false [⟨some 1,.box,[.t 0],none,[]⟩,⟨some 2,.mv,[.c (.i .i64 0)],none,[]⟩]) (.seq (.ops true [⟨some 3,.fadr 0,[.t 1],none,[]⟩,⟨some 4,.load 1 false,[.t 3],none,[0]⟩,⟨some 5,.call 88,[.t 4,.c (.i .i64 0),.c (.i .i64 143999999)],none,[1]⟩,⟨some 6,.fadr 1,[.t 1],none,[]⟩,⟨some 7,.load 1 false,[.t 6],none,[3]⟩,⟨some 8,.call 122,[.t 7],none,[4,2]⟩,⟨some 9,.fadr 2,[.t 1],none,[]⟩,⟨some 10,.load 1 false,[.t 9],none,[6]⟩,⟨some 11,.call 123,[.t 10],none,[7,5]⟩,⟨some 12,.fadr 3,[.t 1],none,[]⟩,⟨some 13,.load 1 false,[.t 12],none,[9]⟩,⟨some 14,.fadr 4,[.t 1],none,[]⟩,⟨some 15,.load 1 false,[.t 14],none,[11]⟩,⟨some 16,.fadr 5,[.t 1],none,[]⟩,⟨some 17,.load 1 false,[.t 16],none,[13]⟩,⟨some 18,.call 125,[.t 13,.t 15,.t 17],none,[10,12,14,8]⟩,⟨some 19,.fadr 6,[.t 1],none,[]⟩,⟨some 20,.load 1 false,[.t 19],none,[16]⟩,⟨some 21,.call 109,[.t 20],none,[17,15]⟩,⟨some 22,.not,[.t 21],none,[18]⟩,⟨some 23,.call 85,[.t 22,.c (.i .i64 8)],none,[19,18]⟩,⟨some 24,.bslice 34 1 (.i .i64 0) 5 [0,1,2,3,4],[.t 5,.t 8,.t 11,.t 18,.t 23],none,[2,5,8,15,20]⟩,⟨some 25,.call 83,[.t 24],none,[21,20]⟩,⟨some 2,.mv,[.t 25],none,[22,22,0,1,2,3,4,5,6,7,8,9,10,11,12,13,14,15,16,17,18,19,20,21,22]⟩]) .ret)
def rs87 : List RV := [.tmp 2]
theorem fact87 : compF Tryz.prog 87 = some (ac87,rs87,26) := by kernel_rfl
def ac79 : AC := .seq (.ops false [⟨some 1,.box,[.t 0],none,[]⟩,⟨some 2,.mv,[.c (.i .i64 0)],none,[]⟩]) (.seq (.ops true [⟨some 3,.fadr 0,[.t 1],none,[]⟩,⟨some 4,.load 1 false,[.t 3],none,[0]⟩,⟨some 5,.call 109,[.t 4],none,[1]⟩,⟨some 6,.not,[.t 5],none,[2]⟩,⟨some 7,.call 85,[.t 6,.c (.i .i64 8)],none,[3,2]⟩,⟨some 8,.fadr 2,[.t 1],none,[]⟩,⟨some 9,.load 1 false,[.t 8],none,[5]⟩,⟨some 10,.call 122,[.t 9],none,[6,4]⟩,⟨some 11,.fadr 3,[.t 1],none,[]⟩,⟨some 12,.load 1 false,[.t 11],none,[8]⟩,⟨some 13,.call 123,[.t 12],none,[9,7]⟩,⟨some 14,.fadr 6,[.t 1],none,[]⟩,⟨some 15,.load 3 true,[.t 14],none,[11]⟩,⟨some 16,.call 124,[.t 15],none,[12,10]⟩,⟨some 17,.fadr 9,[.t 1],none,[]⟩,⟨some 18,.load 1 false,[.t 17],none,[14]⟩,⟨some 19,.call 88,[.t 18,.c (.i .i64 0),.c (.i .i64 1439)],none,[15,13]⟩,⟨some 20,.fadr 10,[.t 1],none,[]⟩,⟨some 21,.load 1 false,[.t 20],none,[17]⟩,⟨some 22,.fadr 11,[.t 1],none,[]⟩,⟨some 23,.load 1 false,[.t 22],none,[19]⟩,⟨some 24,.fadr 12,[.t 1],none,[]⟩,⟨some 25,.load 1 false,[.t 24],none,[21]⟩,⟨some 26,.call 125,[.t 21,.t 23,.t 25],none,[18,20,22,16]⟩,⟨some 27,.bslice 34 1 (.i .i64 0) 6 [0,1,2,3,4,5],[.t 7,.t 10,.t 13,.t 16,.t 19,.t 26],none,[4,7,10,13,16,23]⟩,⟨some 28,.call 83,[.t 27],none,[24,23]⟩,⟨some 2,.mv,[.t 28],none,[25,25,0,1,2,3,4,5,6,7,8,9,10,11,12,13,14,15,16,17,18,19,20,21,22,23,24,25]⟩]) .ret)
def rs79 : List RV := [.tmp 2]
theorem fact79 : compF Tryz.prog 79 = some (ac79,rs79,29) := by kernel_rfl
theorem pure85 (b : Bool) (e : Int) : Pure Tryz.prog 85 [.b b, .i .i64 e] (.i .i64 (if b then e else 0)) := by
  refine pure_by fact85 (by simp) fun hw X hX => ?_
  unfold ac85 rs85
  repeat' first | (show Run _ (.cond _ _ _) _ _; refine run_condX (fun hc => ?_) (fun hc => ?_) <;> (try simp only [qH, rng_0] at hc) <;> try contradiction) | (first | refine Stp.h ?_ | (show ∀ K : St → List Ft → Prop, _; intro K hK) | (show runS _ _ _ _ _; first | refine qY (hq := ?_) | refine qZ (hq := ?_)) | (refine hK _ _ ?_; clear hK K) | (refine hK _ _ rfl ?_; clear hK K) | (refine qZ (hq := ?_); try exact trivial) | omega)
  all_goals (subst hc; exact .refl _)
theorem pure88 (n a b : Int) : Pure Tryz.prog 88 [.i .i64 n, .i .i64 a, .i .i64 b] (.i .i64 (rng n a b)) := by
  refine pure_by fact88 (by simp) fun hw X hX => ?_
  unfold ac88 rs88
  repeat' first | (show Run _ (.cond _ _ _) _ _; refine run_condX (fun hc => ?_) (fun hc => ?_) <;> (try simp only [qH, rng_0] at hc) <;> try contradiction) | (show RunOps _ _ _ _ (⟨_, .call 85, _, _, _⟩ :: _) _ _; refine run_callX (hf := pure85 _ _) (hn := ?_)) | (first | refine Stp.h ?_ | (show ∀ K : St → List Ft → Prop, _; intro K hK) | (show runS _ _ _ _ _; first | refine qY (hq := ?_) | refine qZ (hq := ?_)) | (refine hK _ _ ?_; clear hK K) | (refine hK _ _ rfl ?_; clear hK K) | (refine qZ (hq := ?_); try exact trivial) | omega)
  simp only [rng, Bool.or_eq_true, decide_eq_true_eq]; exact .refl _
theorem pure83 (l : List Int) : Pure Tryz.prog 83 [.sl 1 (l.map (.i .i64))] (.i .i64 (firstE l)) := by
  refine pure_by fact83 (by simp) fun hw X hX => ?_
  unfold ac83 rs83
  simp only [wfs, PV.wf, List.length_map, maxLen] at hw
  repeat' first | (show Run _ (.cond _ _ _) _ _; refine run_condX (fun hc => ?_) (fun hc => ?_) <;> (try simp only [qH, rng_0] at hc) <;> try contradiction) | (first | refine Stp.h ?_ | (show ∀ K : St → List Ft → Prop, _; intro K hK) | (show runS _ _ _ _ _; first | refine qY (hq := ?_) | refine qZ (hq := ?_)) | (refine hK _ _ ?_; clear hK K) | (refine hK _ _ rfl ?_; clear hK K) | (refine qZ (hq := ?_); try exact trivial) | omega)
  refine run_loop (κ := Nat) (fun i => ⟨[(5, .p (.sl 1 (l.map (.i .i64)))), (6, .p (.i .i64 l.length)), (7, .p (.i .i64 i))], [], [], false⟩) (fun i => i ≤ l.length ∧ ∀ x ∈ l.take i, x = 0) (fun i => l.length - i) 0 ?_ ?_ ?_
  · simp only [qS, Nat.reduceAdd, Nat.reduceMul, Nat.reduceEqDiff, Nat.reduceLeDiff, reduceIte, reduceCtorEq, Nat.reduceBEq, Nat.reduceLT] <;> rfl
  · simp
  · intro i hi
    repeat (first | refine Stp.h ?_ | (show ∀ K : St → List Ft → Prop, _; intro K hK) | (show runS _ _ _ _ _; first | refine qY (hq := ?_) | refine qZ (hq := ?_)) | (refine hK _ _ ?_; clear hK K) | (refine hK _ _ rfl ?_; clear hK K) | (refine qZ (hq := ?_); try exact trivial) | omega)
    (show Run _ (.cond _ _ _) _ _; refine run_condX (fun hc => ?_) (fun hc => ?_) <;> (try simp only [qH, rng_0] at hc) <;> try contradiction)
    · obtain ⟨x, hx⟩ := some_at (i := i) (l := l) (by omega)
      have qe := @hx; repeat' first | (show Run _ (.cond _ _ _) _ _; refine run_condX (fun hc => ?_) (fun hc => ?_) <;> (try simp only [qH, rng_0] at hc) <;> try contradiction) | (first | refine Stp.h ?_ | (show ∀ K : St → List Ft → Prop, _; intro K hK) | (show runS _ _ _ _ _; first | refine qY (hq := ?_) | refine qZ (hq := ?_)) | (refine hK _ _ ?_; clear hK K) | (refine hK _ _ rfl ?_; clear hK K) | (refine qZ (hq := ?_); try exact trivial) | omega)
      · rw [firstE_at hi.2 hx hc]; exact .refl _
      · exact ⟨i + 1, ⟨by omega, take_all hi.2 hx hc⟩, by omega, by simp⟩
    · repeat' first | (show Run _ (.cond _ _ _) _ _; refine run_condX (fun hc => ?_) (fun hc => ?_) <;> (try simp only [qH, rng_0] at hc) <;> try contradiction) | (first | refine Stp.h ?_ | (show ∀ K : St → List Ft → Prop, _; intro K hK) | (show runS _ _ _ _ _; first | refine qY (hq := ?_) | refine qZ (hq := ?_)) | (refine hK _ _ ?_; clear hK K) | (refine hK _ _ rfl ?_; clear hK K) | (refine qZ (hq := ?_); try exact trivial) | omega)
      have e : i = l.length := by omega
      subst e
      rw [firstE_end hi.2]; exact .refl _
theorem pure122 (s : ByteArray) : Pure Tryz.prog 122 [.s s] (.i .i64 (flightE s)) := by
  refine pure_by fact122 (by simp) fun hw X hX => ?_
  unfold ac122 rs122
  repeat' first | (show Run _ (.cond _ _ _) _ _; refine run_condX (fun hc => ?_) (fun hc => ?_) <;> (try simp only [qH, rng_0] at hc) <;> try contradiction) | (show RunOps _ _ _ _ (⟨_, .call 85, _, _, _⟩ :: _) _ _; refine run_callX (hf := pure85 _ _) (hn := ?_)) | (first | refine Stp.h ?_ | (show ∀ K : St → List Ft → Prop, _; intro K hK) | (show runS _ _ _ _ _; first | refine qY (hq := ?_) | refine qZ (hq := ?_)) | (refine hK _ _ ?_; clear hK K) | (refine hK _ _ rfl ?_; clear hK K) | (refine qZ (hq := ?_); try exact trivial) | omega)
  simp only [flightE, Bool.and_eq_true, Bool.not_eq_true', decide_eq_false_iff_not, decide_eq_true_eq]; exact .refl _
theorem pure123 (s : ByteArray) : Pure Tryz.prog 123 [.s s] (.i .i64 (optE s)) := by
  refine pure_by fact123 (by simp) fun hw X hX => ?_
  unfold ac123 rs123
  repeat' first | (show Run _ (.cond _ _ _) _ _; refine run_condX (fun hc => ?_) (fun hc => ?_) <;> (try simp only [qH, rng_0] at hc) <;> try contradiction) | (show RunOps _ _ _ _ (⟨_, .call 109, _, _, _⟩ :: _) _ _; refine run_callGX (hf := fun hc => (by first | exact pure109 _ | (simp only [qH, rng_0] at hc; exact pure109 _))) (hn := ?_)) | (show RunOps _ _ _ _ (⟨_, .call 85, _, _, _⟩ :: _) _ _; refine run_callX (hf := pure85 _ _) (hn := ?_)) | (first | refine Stp.h ?_ | (show ∀ K : St → List Ft → Prop, _; intro K hK) | (show runS _ _ _ _ _; first | refine qY (hq := ?_) | refine qZ (hq := ?_)) | (refine hK _ _ ?_; clear hK K) | (refine hK _ _ rfl ?_; clear hK K) | (refine qZ (hq := ?_); try exact trivial) | omega)
  simp only [optE, Bool.and_eq_true, Bool.not_eq_true', decide_eq_false_iff_not, decide_eq_true_eq]; exact .refl _
theorem pure125 (a b c : Int) : Pure Tryz.prog 125 [.i .i64 a, .i .i64 b, .i .i64 c] (.i .i64 (loadE a b c)) := by
  refine pure_by fact125 (by simp) fun hw X hX => ?_
  unfold ac125 rs125
  have qe := @qR; repeat' first | (show Run _ (.cond _ _ _) _ _; refine run_condX (fun hc => ?_) (fun hc => ?_) <;> (try simp only [qH, rng_0] at hc) <;> try contradiction) | (show RunOps _ _ _ _ (⟨_, .call 88, _, _, _⟩ :: _) _ _; refine run_callX (hf := pure88 _ _ _) (hn := ?_)) | (show RunOps _ _ _ _ (⟨_, .call 83, _, _, _⟩ :: _) _ _; refine run_callX (hf := pure83 [_, _, _]) (hn := ?_)) | (first | refine Stp.h ?_ | (show ∀ K : St → List Ft → Prop, _; intro K hK) | (show runS _ _ _ _ _; first | refine qY (hq := ?_) | refine qZ (hq := ?_)) | (refine hK _ _ ?_; clear hK K) | (refine hK _ _ rfl ?_; clear hK K) | (refine qZ (hq := ?_); try exact trivial) | omega)
  exact .refl _
theorem pure87 (m : Mov) : Pure Tryz.prog 87 [m.pv] (.i .i64 (chkMov m)) := by
  refine pure_by fact87 (by simp) fun hw X hX => ?_
  unfold ac87 rs87
  have qe := @qR; repeat' first | (show Run _ (.cond _ _ _) _ _; refine run_condX (fun hc => ?_) (fun hc => ?_) <;> (try simp only [qH, rng_0] at hc) <;> try contradiction) | (show RunOps _ _ _ _ (⟨_, .call 88, _, _, _⟩ :: _) _ _; refine run_callX (hf := pure88 _ _ _) (hn := ?_)) | (show RunOps _ _ _ _ (⟨_, .call 122, _, _, _⟩ :: _) _ _; refine run_callX (hf := pure122 _) (hn := ?_)) | (show RunOps _ _ _ _ (⟨_, .call 123, _, _, _⟩ :: _) _ _; refine run_callX (hf := pure123 _) (hn := ?_)) | (show RunOps _ _ _ _ (⟨_, .call 125, _, _, _⟩ :: _) _ _; refine run_callX (hf := pure125 _ _ _) (hn := ?_)) | (show RunOps _ _ _ _ (⟨_, .call 109, _, _, _⟩ :: _) _ _; refine run_callX (hf := pure109 _) (hn := ?_)) | (show RunOps _ _ _ _ (⟨_, .call 85, _, _, _⟩ :: _) _ _; refine run_callX (hf := pure85 _ _) (hn := ?_)) | (show RunOps _ _ _ _ (⟨_, .call 83, _, _, _⟩ :: _) _ _; refine run_callX (hf := pure83 [_, _, _, _, _]) (hn := ?_)) | (first | refine Stp.h ?_ | (show ∀ K : St → List Ft → Prop, _; intro K hK) | (show runS _ _ _ _ _; first | refine qY (hq := ?_) | refine qZ (hq := ?_)) | (refine hK _ _ ?_; clear hK K) | (refine hK _ _ rfl ?_; clear hK K) | (refine qZ (hq := ?_); try exact trivial) | omega)
  exact .refl _
theorem pure79 (r : Req) : Pure Tryz.prog 79 [r.pv] (.i .i64 (chkReq r)) := by
  refine pure_by fact79 (by simp) fun hw X hX => ?_
  unfold ac79 rs79
  have qe := @qR; repeat' first | (show Run _ (.cond _ _ _) _ _; refine run_condX (fun hc => ?_) (fun hc => ?_) <;> (try simp only [qH, rng_0] at hc) <;> try contradiction) | (show RunOps _ _ _ _ (⟨_, .call 88, _, _, _⟩ :: _) _ _; refine run_callX (hf := pure88 _ _ _) (hn := ?_)) | (show RunOps _ _ _ _ (⟨_, .call 122, _, _, _⟩ :: _) _ _; refine run_callX (hf := pure122 _) (hn := ?_)) | (show RunOps _ _ _ _ (⟨_, .call 123, _, _, _⟩ :: _) _ _; refine run_callX (hf := pure123 _) (hn := ?_)) | (show RunOps _ _ _ _ (⟨_, .call 124, _, _, _⟩ :: _) _ _; refine run_callX (hf := pure124 r.per) (hn := ?_)) | (show RunOps _ _ _ _ (⟨_, .call 125, _, _, _⟩ :: _) _ _; refine run_callX (hf := pure125 _ _ _) (hn := ?_)) | (show RunOps _ _ _ _ (⟨_, .call 109, _, _, _⟩ :: _) _ _; refine run_callX (hf := pure109 _) (hn := ?_)) | (show RunOps _ _ _ _ (⟨_, .call 85, _, _, _⟩ :: _) _ _; refine run_callX (hf := pure85 _ _) (hn := ?_)) | (show RunOps _ _ _ _ (⟨_, .call 83, _, _, _⟩ :: _) _ _; refine run_callX (hf := pure83 [_, _, _, _, _, _]) (hn := ?_)) | (first | refine Stp.h ?_ | (show ∀ K : St → List Ft → Prop, _; intro K hK) | (show runS _ _ _ _ _; first | refine qY (hq := ?_) | refine qZ (hq := ?_)) | (refine hK _ _ ?_; clear hK K) | (refine hK _ _ rfl ?_; clear hK K) | (refine qZ (hq := ?_); try exact trivial) | omega)
  exact .refl _
end Go.Proofs.YtcfbdeghmckelaaGreat
