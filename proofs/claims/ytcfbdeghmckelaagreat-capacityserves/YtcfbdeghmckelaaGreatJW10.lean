/- Contracts of functions that the proof uses, shared by the claims of this seat; no statement of its own. Part 13. No conditions. -/
import Derived.Test.YtcfbdeghmckelaaGreatJW3
import Derived.Test.YtcfbdeghmckelaaGreatJW5
set_option linter.all false
namespace Go.Proofs.YtcfbdeghmckelaaGreat
open Go.RowKit
set_option maxRecDepth 100000
set_option linter.unusedVariables false
set_option linter.unusedSimpArgs false
set_option maxHeartbeats 2000000
def ac142 : AC := .seq (.ops false [⟨some 2,.mv,[.c (.b false)],none,[]⟩]) (.seq (.ops false [⟨some 3,.mv,[.t 0],none,[]⟩,⟨some 4,.mv,[.t 0],none,[]⟩,⟨some 5,.bin .neq,[.t 3,.t 4],none,[0,1]⟩,⟨some 2,.mv,[.t 5],none,[2,0,1,2]⟩]) .ret)
def rs142 : List RV := [.tmp 2]
theorem fact142 : compF Tryz.prog 142 = some (ac142,rs142,6) := by kernel_rfl
def ac163 : AC := .seq (.ops false [⟨some 4,.mv,[.c (.b false)],none,[]⟩]) (.seq (.ops false [⟨some 5,.mv,[.t 0],none,[]⟩,⟨some 6,.call 142,[.t 5],none,[0]⟩,⟨some 7,.mv,[.t 6],none,[1,1]⟩,⟨some 8,.mv,[.t 1],some (7,true),[2]⟩,⟨some 9,.call 142,[.t 8],some (7,true),[3,2,2]⟩,⟨some 10,.not,[.t 9],some (7,true),[4,2]⟩,⟨some 11,.pick,[.t 7,.t 10,.c (.b false)],none,[2,5]⟩,⟨some 12,.mv,[.t 11],none,[6,4]⟩,⟨some 13,.mv,[.t 0],some (12,false),[7]⟩,⟨some 14,.mv,[.t 1],some (12,false),[7]⟩,⟨some 15,.bin .lss,[.t 13,.t 14],some (12,false),[8,9,7]⟩,⟨some 16,.pick,[.t 12,.c (.b true),.t 15],none,[7,10]⟩,⟨some 4,.mv,[.t 16],none,[11,7,0,1,2,3,4,5,6,7,8,9,10,11]⟩]) .ret)
def rs163 : List RV := [.tmp 4]
theorem fact163 : compF Tryz.prog 163 = some (ac163,rs163,17) := by kernel_rfl
def ac164 : AC := .seq (.ops false [⟨some 2,.mv,[.c (.b false)],none,[]⟩]) (.seq (.ops false [⟨some 3,.mv,[.t 0],none,[]⟩,⟨some 4,.mv,[.t 0],none,[]⟩,⟨some 5,.bin .neq,[.t 3,.t 4],none,[0,1]⟩,⟨some 2,.mv,[.t 5],none,[2,0,1,2]⟩]) .ret)
def rs164 : List RV := [.tmp 2]
theorem fact164 : compF Tryz.prog 164 = some (ac164,rs164,6) := by kernel_rfl
def ac157 : AC := .seq (.ops false [⟨some 4,.mv,[.c (.i .i64 0)],none,[]⟩,⟨some 5,.mv,[.c (.b false)],none,[0]⟩]) (.seq (.ops false [⟨some 10,.mv,[.t 0],none,[]⟩,⟨some 11,.len false,[.t 10],none,[0]⟩,⟨some 6,.mv,[.t 11],none,[1,0,1]⟩]) (.seq (.ops false [⟨some 12,.mv,[.t 6],none,[]⟩,⟨some 7,.mv,[.c (.i .i64 0)],none,[]⟩,⟨some 8,.mv,[.t 12],none,[0,1,0,1]⟩]) (.seq (.block 0 (.loop (.seq (.seq (.ops false [⟨some 13,.mv,[.t 7],none,[]⟩,⟨some 14,.mv,[.t 8],none,[]⟩,⟨some 15,.bin .lss,[.t 13,.t 14],none,[0,1]⟩]) (.cond (.t 15) .skip (.exit 0))) (.block 1 (.seq (.ops false [⟨some 16,.mv,[.t 7],none,[]⟩,⟨some 17,.mv,[.t 8],none,[]⟩,⟨some 18,.bin .add,[.t 16,.t 17],none,[0,1]⟩,⟨some 19,.cvt .u64,[.t 18],none,[2]⟩,⟨some 20,.bin .shr,[.t 19,.c (.i .u64 1)],none,[3]⟩,⟨some 21,.cvt .i64,[.t 20],none,[4]⟩,⟨some 9,.mv,[.t 21],none,[5,0,1,2,3,4,5]⟩]) (.seq (.ops false [⟨some 22,.mv,[.t 0],none,[]⟩,⟨some 23,.mv,[.t 9],none,[]⟩,⟨some 24,.iadrS 1,[.t 22,.t 23],none,[0,1]⟩,⟨some 25,.load 1 false,[.t 24],none,[2]⟩,⟨some 26,.mv,[.t 1],none,[]⟩,⟨some 27,.call 163,[.t 25,.t 26],none,[3,4]⟩]) (.cond (.t 27) (.ops false [⟨some 28,.mv,[.t 9],none,[]⟩,⟨some 29,.bin .add,[.t 28,.c (.i .i64 1)],none,[0]⟩,⟨some 7,.mv,[.t 29],none,[1,0,1]⟩]) (.ops false [⟨some 30,.mv,[.t 9],none,[]⟩,⟨some 8,.mv,[.t 30],none,[0,0]⟩])))))))) (.seq (.ops false [⟨some 31,.mv,[.t 7],none,[]⟩,⟨some 32,.mv,[.t 7],none,[]⟩,⟨some 33,.mv,[.t 6],none,[]⟩,⟨some 34,.bin .lss,[.t 32,.t 33],none,[1,2]⟩,⟨some 35,.mv,[.t 34],none,[3]⟩,⟨some 36,.mv,[.t 0],some (35,true),[4]⟩,⟨some 37,.mv,[.t 7],some (35,true),[4]⟩,⟨some 38,.iadrS 1,[.t 36,.t 37],some (35,true),[5,6,4]⟩,⟨some 39,.load 1 false,[.t 38],some (35,true),[7,4]⟩,⟨some 40,.mv,[.t 1],some (35,true),[4]⟩,⟨some 41,.bin .eql,[.t 39,.t 40],some (35,true),[8,9,4]⟩,⟨some 42,.mv,[.t 41],some (35,true),[10,4,4]⟩,⟨some 43,.mv,[.t 0],some (42,false),[11]⟩,⟨some 44,.mv,[.t 7],some (42,false),[11]⟩,⟨some 45,.iadrS 1,[.t 43,.t 44],some (42,false),[12,13,11]⟩,⟨some 46,.load 1 false,[.t 45],some (42,false),[14,11]⟩,⟨some 47,.call 164,[.t 46],some (42,false),[15,11,11]⟩,⟨some 48,.mv,[.t 47],some (42,false),[16,16,11]⟩,⟨some 49,.mv,[.t 1],some (48,true),[17]⟩,⟨some 50,.call 164,[.t 49],some (48,true),[18,17,17]⟩,⟨some 51,.pick,[.t 48,.t 50,.c (.b false)],some (42,false),[17,19,11]⟩,⟨some 52,.pick,[.t 42,.c (.b true),.t 51],some (35,true),[11,20,4]⟩,⟨some 53,.pick,[.t 35,.t 52,.c (.b false)],none,[4,21]⟩,⟨some 4,.mv,[.t 31],none,[0,19,0]⟩,⟨some 5,.mv,[.t 53],none,[22,23,0,1,2,3,4,5,6,7,8,9,10,11,12,13,14,15,16,17,18,19,20,21,22,23]⟩]) .ret))))
def rs157 : List RV := [.tmp 4,.tmp 5]
theorem fact157 : compF Tryz.prog 157 = some (ac157,rs157,54) := by kernel_rfl
def ac136 : AC := .seq (.ops false [⟨some 4,.mv,[.c (.i .i64 0)],none,[]⟩]) (.seq (.ops false [⟨some 8,.mv,[.t 0],none,[]⟩,⟨some 9,.mv,[.t 1],none,[]⟩,⟨some 10,.call 157,[.t 8,.t 9],none,[0,1]⟩,⟨some 7,.mv,[.t 10],none,[2]⟩,⟨some 11,.ext 0,[.t 7],none,[3]⟩,⟨some 12,.ext 1,[.t 7],none,[3]⟩,⟨some 5,.mv,[.t 11],none,[4,2,0,1,2,3,4]⟩,⟨some 6,.mv,[.t 12],none,[5,6,0,1,2,3,4,5,6]⟩]) (.seq (.ops false [⟨some 13,.mv,[.t 5],none,[]⟩,⟨some 4,.mv,[.t 13],none,[0,0]⟩]) .ret))
def rs136 : List RV := [.tmp 4]
theorem fact136 : compF Tryz.prog 136 = some (ac136,rs136,14) := by kernel_rfl
def ac93 : AC := .seq (.ops false [⟨some 6,.mv,[.c (.i .i64 0)],none,[]⟩]) (.seq (.ops false [⟨some 7,.mv,[.t 0],none,[]⟩,⟨some 8,.mv,[.t 1],none,[]⟩,⟨some 9,.mv,[.t 2],none,[]⟩,⟨some 10,.bin .add,[.t 8,.t 9],none,[1,2]⟩,⟨some 11,.call 136,[.t 7,.t 10],none,[0,3]⟩,⟨some 12,.mv,[.t 0],none,[]⟩,⟨some 13,.mv,[.t 1],none,[]⟩,⟨some 14,.call 136,[.t 12,.t 13],none,[5,6,4]⟩,⟨some 15,.bin .sub,[.t 11,.t 14],none,[4,7]⟩,⟨some 6,.mv,[.t 15],none,[8,7,0,1,2,3,4,5,6,7,8]⟩]) .ret)
def rs93 : List RV := [.tmp 6]
theorem fact93 : compF Tryz.prog 93 = some (ac93,rs93,16) := by kernel_rfl
theorem cells_any : PV.any.cells = [.any] := rfl
theorem dec_self (x : Int) : (decide (x = x)) = true := decide_eq_true rfl
theorem pure142 (x : Int) : Pure Tryz.prog 142 [.i .i64 x] (.b false) := by
  refine pure_by fact142 (by simp) fun hw X hX => ?_
  unfold ac142 rs142
  have qe := @dec_self; repeat' first | (show Run _ (.cond _ _ _) _ _; refine run_condX (fun hc => ?_) (fun hc => ?_) <;> (try simp only [qH, rng_0] at hc) <;> try contradiction) | (first | refine Stp.h ?_ | (show ∀ K : St → List Ft → Prop, _; intro K hK) | (show runS _ _ _ _ _; first | refine qY (hq := ?_) | refine qZ (hq := ?_)) | (refine hK _ _ ?_; clear hK K) | (refine hK _ _ rfl ?_; clear hK K) | (refine qZ (hq := ?_); try exact trivial) | omega)
  exact .refl _
theorem pure164 (x : Int) : Pure Tryz.prog 164 [.i .i64 x] (.b false) := by
  refine pure_by fact164 (by simp) fun hw X hX => ?_
  unfold ac164 rs164
  have qe := @dec_self; repeat' first | (show Run _ (.cond _ _ _) _ _; refine run_condX (fun hc => ?_) (fun hc => ?_) <;> (try simp only [qH, rng_0] at hc) <;> try contradiction) | (first | refine Stp.h ?_ | (show ∀ K : St → List Ft → Prop, _; intro K hK) | (show runS _ _ _ _ _; first | refine qY (hq := ?_) | refine qZ (hq := ?_)) | (refine hK _ _ ?_; clear hK K) | (refine hK _ _ rfl ?_; clear hK K) | (refine qZ (hq := ?_); try exact trivial) | omega)
  exact .refl _
theorem pure163 (a b : Int) : Pure Tryz.prog 163 [.i .i64 a, .i .i64 b] (.b (decide (a < b))) := by
  refine pure_by fact163 (by simp) fun hw X hX => ?_
  unfold ac163 rs163
  repeat' first | (show Run _ (.cond _ _ _) _ _; refine run_condX (fun hc => ?_) (fun hc => ?_) <;> (try simp only [qH, rng_0] at hc) <;> try contradiction) | (show RunOps _ _ _ _ (⟨_, .call 142, _, _, _⟩ :: _) _ _; refine run_callX (hf := pure142 _) (hn := ?_)) | (show RunOps _ _ _ _ (⟨_, .call 142, _, _, _⟩ :: _) _ _; refine run_callGX (hf := fun hc => (by first | exact pure142 _ | (simp only [qH, rng_0] at hc; exact pure142 _))) (hn := ?_)) | (first | refine Stp.h ?_ | (show ∀ K : St → List Ft → Prop, _; intro K hK) | (show runS _ _ _ _ _; first | refine qY (hq := ?_) | refine qZ (hq := ?_)) | (refine hK _ _ ?_; clear hK K) | (refine hK _ _ rfl ?_; clear hK K) | (refine qZ (hq := ?_); try exact trivial) | omega)
  exact .refl _
def sortedI (l : List Int) : Prop := ∀ (i j : Nat) (x y : Int), i ≤ j → l[i]? = some x → l[j]? = some y → x ≤ y
def ltN (l : List Int) (x : Int) : Nat := (l.filter fun y => decide (y < x)).length
theorem ltN_at {l : List Int} {x : Int} {i : Nat} (h1 : ∀ y ∈ l.take i, y < x) (h2 : ∀ y ∈ l.drop i, x ≤ y) (hi : i ≤ l.length) : ltN l x = i := by
  conv => lhs; rw [← List.take_append_drop i l]
  rw [ltN, List.filter_append, List.length_append, List.filter_eq_self.2 (fun y hy => by simpa using h1 y hy), List.filter_eq_nil_iff.2 (fun y hy => by have := h2 y hy; simp; omega)]
  simp; omega
theorem pure157 (l : List Int) (x : Int) (hs : sortedI l) (hn : l.length ≤ 1000000) : Pure Tryz.prog 157 [.sl 1 (l.map (.i .i64)), .i .i64 x] (.tup [.i .i64 (ltN l x), .any]) := by
  refine pure_by fact157 (by simp) fun hw X hX => ?_
  unfold ac157 rs157
  simp only [wfs, PV.wf, List.length_map, maxLen] at hw
  repeat' first | (show Run _ (.cond _ _ _) _ _; refine run_condX (fun hc => ?_) (fun hc => ?_) <;> (try simp only [qH, rng_0] at hc) <;> try contradiction) | (first | refine Stp.h ?_ | (show ∀ K : St → List Ft → Prop, _; intro K hK) | (show runS _ _ _ _ _; first | refine qY (hq := ?_) | refine qZ (hq := ?_)) | (refine hK _ _ ?_; clear hK K) | (refine hK _ _ rfl ?_; clear hK K) | (refine qZ (hq := ?_); try exact trivial) | omega)
  refine run_loop (κ := Nat × Nat) (fun k => ⟨[(0, .p (.sl 1 (l.map (.i .i64)))), (1, .p (.i .i64 x)), (6, .p (.i .i64 l.length)), (7, .p (.i .i64 k.1)), (8, .p (.i .i64 k.2))], [], [], false⟩) (fun k => k.1 ≤ k.2 ∧ k.2 ≤ l.length ∧ (∀ y ∈ l.take k.1, y < x) ∧ ∀ y ∈ l.drop k.2, x ≤ y) (fun k => k.2 - k.1) (0, l.length) ?_ ?_ ?_
  · simp only [qS, Nat.reduceAdd, Nat.reduceMul, Nat.reduceEqDiff, Nat.reduceLeDiff, reduceIte, reduceCtorEq, Nat.reduceBEq, Nat.reduceLT] <;> simp
  · simp
  · intro k hk
    obtain ⟨i, j⟩ := k
    simp only at hk
    have hm : IntKind.i64.wrap ((IntKind.u64.wrap ((i : Int) + j)).fdiv (2 ^ min (Int.toNat 1) IntKind.u64.bits)) = (((i + j) / 2 : Nat) : Int) := by
      rw [IntKind.wrap_u64, show (2 : Int) ^ min (Int.toNat 1) IntKind.u64.bits = 2 from rfl, Int.fdiv_eq_ediv_of_nonneg _ (by decide)]
      rw [show (((i : Int) + j) % 18446744073709551616 / 2) = (((i + j) / 2 : Nat) : Int) by omega]
      exact wrap64 (by omega) (by omega)
    by_cases hij : i < j
    · obtain ⟨y, hy⟩ := some_at (i := (i + j) / 2) (l := l) (by omega)
      have qe := And.intro @hm @hy; repeat' first | (show Run _ (.cond _ _ _) _ _; refine run_condX (fun hc => ?_) (fun hc => ?_) <;> (try simp only [qH, rng_0] at hc) <;> try contradiction) | (show RunOps _ _ _ _ (⟨_, .call 163, _, _, _⟩ :: _) _ _; refine run_callX (hf := pure163 _ _) (hn := ?_)) | (first | refine Stp.h ?_ | (show ∀ K : St → List Ft → Prop, _; intro K hK) | (show runS _ _ _ _ _; first | refine qY (hq := ?_) | refine qZ (hq := ?_)) | (refine hK _ _ ?_; clear hK K) | (refine hK _ _ rfl ?_; clear hK K) | (refine qZ (hq := ?_); try exact trivial) | omega)
      · refine ⟨((i + j) / 2 + 1, j), ⟨by simp only; omega, hk.2.1, fun z hz => ?_, hk.2.2.2⟩, by simp only; omega, by simp, rfl⟩
        obtain ⟨q, hq⟩ := List.getElem?_of_mem hz
        rw [List.getElem?_take] at hq
        split at hq
        · have := hs q ((i + j) / 2) z y (by omega) hq hy; omega
        · cases hq
      · refine ⟨(i, (i + j) / 2), ⟨by simp only; omega, by simp only; omega, hk.2.2.1, fun z hz => ?_⟩, by simp only; omega, rfl, rfl⟩
        obtain ⟨q, hq⟩ := List.getElem?_of_mem hz
        rw [List.getElem?_drop] at hq
        have := hs ((i + j) / 2) _ y z (by omega) hy hq; omega
    · have e : i = j := by omega
      subst e
      have hres := ltN_at hk.2.2.1 hk.2.2.2 hk.2.1
      by_cases hil : i < l.length
      · obtain ⟨y, hy⟩ := some_at (i := i) (l := l) hil
        have hil' : ((i : Int) < l.length) = True := eq_true (by omega)
        by_cases hyx : y = x
        · have hyx' : (y = x) = True := eq_true hyx
          have qe := And.intro @hm (And.intro @hy (And.intro @hil' @hyx')); repeat' first | (show Run _ (.cond _ _ _) _ _; refine run_condX (fun hc => ?_) (fun hc => ?_) <;> (try simp only [qH, rng_0] at hc) <;> try contradiction) | (show RunOps _ _ _ _ (⟨_, .call 164, _, _, _⟩ :: _) _ _; refine run_callGX (hf := fun hc => (by first | exact pure164 _ | (simp only [qH, rng_0] at hc; exact pure164 _))) (hn := ?_)) | (first | refine Stp.h ?_ | (show ∀ K : St → List Ft → Prop, _; intro K hK) | (show runS _ _ _ _ _; first | refine qY (hq := ?_) | refine qZ (hq := ?_)) | (refine hK _ _ ?_; clear hK K) | (refine hK _ _ rfl ?_; clear hK K) | (refine qZ (hq := ?_); try exact trivial) | omega)
          rw [hres]; exact weak2 (.refl _) (.any _)
        · have hyx' : (y = x) = False := eq_false hyx
          have qe := And.intro @hm (And.intro @hy (And.intro @hil' @hyx')); repeat' first | (show Run _ (.cond _ _ _) _ _; refine run_condX (fun hc => ?_) (fun hc => ?_) <;> (try simp only [qH, rng_0] at hc) <;> try contradiction) | (show RunOps _ _ _ _ (⟨_, .call 164, _, _, _⟩ :: _) _ _; refine run_callGX (hf := fun hc => (by first | exact pure164 _ | (simp only [qH, rng_0] at hc; exact pure164 _))) (hn := ?_)) | (first | refine Stp.h ?_ | (show ∀ K : St → List Ft → Prop, _; intro K hK) | (show runS _ _ _ _ _; first | refine qY (hq := ?_) | refine qZ (hq := ?_)) | (refine hK _ _ ?_; clear hK K) | (refine hK _ _ rfl ?_; clear hK K) | (refine qZ (hq := ?_); try exact trivial) | omega)
          rw [hres]; exact weak2 (.refl _) (.any _)
      · have hil' : ((i : Int) < l.length) = False := eq_false (by omega)
        have hy : l[i]? = none := List.getElem?_eq_none (by omega)
        have qe := And.intro @hm (And.intro @hil' (And.intro @hy @cells_any)); repeat' first | (show Run _ (.cond _ _ _) _ _; refine run_condX (fun hc => ?_) (fun hc => ?_) <;> (try simp only [qH, rng_0] at hc) <;> try contradiction) | (show RunOps _ _ _ _ (⟨_, .call _, _, _, _⟩ :: _) _ _; refine run_callGX (hf := fun hc => (by first | exact (absurd hc Bool.false_ne_true : Pure Tryz.prog 164 _ (.b false)) | (simp only [qH, rng_0] at hc; exact (absurd hc Bool.false_ne_true : Pure Tryz.prog 164 _ (.b false))))) (hn := ?_)) | (first | refine Stp.h ?_ | (show ∀ K : St → List Ft → Prop, _; intro K hK) | (show runS _ _ _ _ _; first | refine qY (hq := ?_) | refine qZ (hq := ?_)) | (refine hK _ _ ?_; clear hK K) | (refine hK _ _ rfl ?_; clear hK K) | (refine qZ (hq := ?_); try exact trivial) | omega)
        rw [hres]; exact weak2 (.refl _) (.any _)
theorem pure136 (l : List Int) (x : Int) (hs : sortedI l) (hn : l.length ≤ 1000000) : Pure Tryz.prog 136 [.sl 1 (l.map (.i .i64)), .i .i64 x] (.i .i64 (ltN l x)) := by
  refine pure_by fact136 (by simp) fun hw X hX => ?_
  unfold ac136 rs136
  repeat' first | (show Run _ (.cond _ _ _) _ _; refine run_condX (fun hc => ?_) (fun hc => ?_) <;> (try simp only [qH, rng_0] at hc) <;> try contradiction) | (show RunOps _ _ _ _ (⟨_, .call 157, _, _, _⟩ :: _) _ _; refine run_callX (hf := pure157 l x hs hn) (hn := ?_)) | (first | refine Stp.h ?_ | (show ∀ K : St → List Ft → Prop, _; intro K hK) | (show runS _ _ _ _ _; first | refine qY (hq := ?_) | refine qZ (hq := ?_)) | (refine hK _ _ ?_; clear hK K) | (refine hK _ _ rfl ?_; clear hK K) | (refine qZ (hq := ?_); try exact trivial) | omega)
  exact .refl _
def cntW (l : List Int) (b len : Int) : Int := (ltN l (b + len) : Int) - ltN l b
theorem ltN_le (l : List Int) (x : Int) : ltN l x ≤ l.length := List.length_filter_le _ _
theorem pure93 (l : List Int) (b len : Int) (hs : sortedI l) (hn : l.length ≤ 1000000) (h0 : -1000000 ≤ b) (h1 : b ≤ 1000000000) (h2 : 0 ≤ len) (h3 : len ≤ 10000) : Pure Tryz.prog 93 [.sl 1 (l.map (.i .i64)), .i .i64 b, .i .i64 len] (.i .i64 (cntW l b len)) := by
  refine pure_by fact93 (by simp) fun hw X hX => ?_
  unfold ac93 rs93
  have e1 := ltN_le l (b + len)
  have e2 := ltN_le l b
  repeat' first | (show Run _ (.cond _ _ _) _ _; refine run_condX (fun hc => ?_) (fun hc => ?_) <;> (try simp only [qH, rng_0] at hc) <;> try contradiction) | (show RunOps _ _ _ _ (⟨_, .call 136, _, _, _⟩ :: _) _ _; refine run_callX (hf := pure136 l _ hs hn) (hn := ?_)) | (first | refine Stp.h ?_ | (show ∀ K : St → List Ft → Prop, _; intro K hK) | (show runS _ _ _ _ _; first | refine qY (hq := ?_) | refine qZ (hq := ?_)) | (refine hK _ _ ?_; clear hK K) | (refine hK _ _ rfl ?_; clear hK K) | (refine qZ (hq := ?_); try exact trivial) | omega)
  exact .refl _
end Go.Proofs.YtcfbdeghmckelaaGreat
