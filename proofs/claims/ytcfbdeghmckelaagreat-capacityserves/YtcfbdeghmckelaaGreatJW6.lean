/- Contracts of functions that the proof uses, shared by the claims of this seat; no statement of its own. Part 9. No conditions. -/
import Derived.Test.YtcfbdeghmckelaaGreatJW5
set_option linter.all false
namespace Go.Proofs.YtcfbdeghmckelaaGreat
open Go.RowKit
set_option maxRecDepth 100000
set_option linter.unusedVariables false
set_option linter.unusedSimpArgs false
set_option maxHeartbeats 2000000
def ac154 : AC := .seq (.ops false [⟨some 3,.mv,[.c (.b false)],none,[]⟩]) (.seq (.ops false [⟨some 4,.mv,[.t 0],none,[]⟩,⟨some 5,.load 1 false,[.t 1],none,[]⟩,⟨some 6,.bin .eql,[.t 4,.t 5],none,[0,1]⟩,⟨some 3,.mv,[.t 6],none,[2,0,1,2]⟩]) .ret)
def rs154 : List RV := [.tmp 3]
theorem fact154 : compF Tryz.prog 154 = some (ac154,rs154,7) := by kernel_rfl
def ac155 : AC := .seq (.ops false [⟨some 2,.mv,[.c (.b false)],none,[]⟩]) (.seq (.ops false [⟨some 2,.mv,[.c (.b true)],none,[]⟩]) .ret)
def rs155 : List RV := [.tmp 2]
theorem fact155 : compF Tryz.prog 155 = some (ac155,rs155,3) := by kernel_rfl
def ac153 : AC := .seq (.ops false [⟨some 1,.box,[.t 0],none,[]⟩,⟨some 2,.mv,[.c .nilf],none,[]⟩]) (.seq (.ops false [⟨some 3,.mkfn (.func 154) 0,[.t 1],none,[]⟩,⟨some 2,.mv,[.t 3],none,[0,0]⟩]) .ret)
def rs153 : List RV := [.tmp 2]
theorem fact153 : compF Tryz.prog 153 = some (ac153,rs153,4) := by kernel_rfl
def ac129 : AC := .seq (.ops false [⟨some 0,.mv,[.c (.mp [])],none,[]⟩]) (.seq (.ops false [⟨some 1,.mv,[.c (.fn (.func 153) [] [])],none,[]⟩]) (.seq (.ops false [⟨some 2,.mkmap,[],none,[]⟩,⟨some 3,.mv,[.t 1],none,[]⟩,⟨some 4,.callv,[.t 3,.c (.s (bs [65]))],none,[1]⟩,⟨some 5,.build [.nilf] [(0,1)],[.t 4],none,[2]⟩,⟨none,.mset [2] false,[.t 2,.c (.s (bs [65])),.t 5],none,[0,3]⟩,⟨some 6,.mv,[.t 1],none,[]⟩,⟨some 7,.callv,[.t 6,.c (.s (bs [68]))],none,[5,2]⟩,⟨some 8,.build [.nilf] [(0,1)],[.t 7],none,[6]⟩,⟨none,.mset [2] false,[.t 2,.c (.s (bs [68])),.t 8],none,[0,7]⟩,⟨some 9,.build [.nilf] [(0,1)],[.c (.fn (.func 155) [] [])],none,[]⟩,⟨none,.mset [2] false,[.t 2,.c (.s (bs [84])),.t 9],none,[0,9]⟩,⟨some 10,.mv,[.t 2],none,[0,1,2,3,4,5,6,7,8,9,10]⟩,⟨some 0,.mv,[.t 10],none,[11,6,0,1,2,3,4,5,6,7,8,9,10,11]⟩]) .ret))
def rs129 : List RV := [.tmp 0]
theorem fact129 : compF Tryz.prog 129 = some (ac129,rs129,11) := by kernel_rfl
def ac131 : AC := .seq (.ops false [⟨some 2,.box,[.t 0],none,[]⟩,⟨some 3,.mv,[.c (.b false)],none,[]⟩]) (.seq (.ops false [⟨some 4,.fadr 0,[.t 2],none,[]⟩,⟨some 5,.load 1 false,[.t 4],none,[0]⟩,⟨some 6,.load 1 false,[.t 1],none,[]⟩,⟨some 7,.bin .eql,[.t 5,.t 6],none,[1,2]⟩,⟨some 3,.mv,[.t 7],none,[3,0,1,2,3]⟩]) .ret)
def rs131 : List RV := [.tmp 3]
theorem fact131 : compF Tryz.prog 131 = some (ac131,rs131,8) := by kernel_rfl
def ac130 : AC := .seq (.ops false [⟨some 4,.mv,[.c (.i .i64 0)],none,[]⟩]) (.seq (.seq (.ops false [⟨some 6,.mv,[.t 0],none,[]⟩,⟨some 7,.len false,[.t 6],none,[0]⟩,⟨some 8,.mv,[.c (.i .i64 0)],none,[]⟩]) (.block 0 (.loop (.seq (.ops false [⟨some 9,.bin .lss,[.t 8,.t 7],none,[]⟩]) (.seq (.cond (.t 9) .skip (.exit 0)) (.seq (.block 1 (.seq (.ops false [⟨some 10,.mv,[.t 8],none,[]⟩,⟨some 5,.mv,[.t 10],none,[0,0]⟩]) (.seq (.ops false [⟨some 11,.mv,[.t 1],none,[]⟩,⟨some 12,.mv,[.t 0],none,[]⟩,⟨some 13,.mv,[.t 5],none,[]⟩,⟨some 14,.iadrS 11,[.t 12,.t 13],none,[1,2]⟩,⟨some 15,.load 11 true,[.t 14],none,[3]⟩,⟨some 16,.callv,[.t 11,.t 15],none,[0,4]⟩]) (.cond (.t 16) (.seq (.ops false [⟨some 17,.mv,[.t 5],none,[]⟩,⟨some 4,.mv,[.t 17],none,[0,0]⟩]) .ret) .skip)))) (.ops false [⟨some 18,.bin .add,[.t 8,.c (.i .i64 1)],none,[]⟩,⟨some 8,.mv,[.t 18],none,[0]⟩]))))))) (.seq (.ops false [⟨some 4,.mv,[.c (.i .i64 (-1))],none,[]⟩]) .ret))
def rs130 : List RV := [.tmp 4]
theorem fact130 : compF Tryz.prog 130 = some (ac130,rs130,19) := by kernel_rfl
def ac86 : AC := .seq (.ops false [⟨some 3,.box,[.t 1],none,[]⟩,⟨some 4,.mv,[.c (.i .i64 0)],none,[]⟩]) (.seq (.ops false [⟨some 5,.mv,[.t 0],none,[]⟩,⟨some 6,.mkfn (.func 131) 0,[.t 3],none,[]⟩,⟨some 7,.call 130,[.t 5,.t 6],none,[0,1]⟩,⟨some 4,.mv,[.t 7],none,[2,2,0,1,2]⟩]) .ret)
def rs86 : List RV := [.tmp 4]
theorem fact86 : compF Tryz.prog 86 = some (ac86,rs86,8) := by kernel_rfl
def ac84 : AC := .seq (.ops false [⟨some 1,.box,[.t 0],none,[]⟩,⟨some 2,.mv,[.c (.i .i64 0)],none,[]⟩]) (.seq (.ops true [⟨some 6,.call 129,[],none,[]⟩,⟨some 7,.fadr 1,[.t 1],none,[]⟩,⟨some 8,.load 1 false,[.t 7],none,[1]⟩,⟨some 9,.lkup [2] false (.agg [.nilf]) true,[.t 6,.t 8],none,[0,2]⟩,⟨some 5,.mv,[.t 9],none,[3]⟩,⟨some 10,.ext 0,[.t 5],none,[4]⟩,⟨some 11,.ext 1,[.t 5],none,[4]⟩,⟨some 3,.alloc [.nilf],[],none,[]⟩,⟨none,.store 1,[.t 3,.t 10],none,[7,5,0,0,1,2,3,4,5,7]⟩,⟨some 4,.mv,[.t 11],none,[6,8,0,1,2,3,4,5,6,7,8]⟩]) (.seq (.ops true [⟨some 12,.fadr 0,[.t 1],none,[]⟩,⟨some 13,.load 1 false,[.t 12],none,[0]⟩,⟨some 14,.call 109,[.t 13],none,[1]⟩,⟨some 15,.not,[.t 14],none,[2]⟩,⟨some 16,.call 85,[.t 15,.c (.i .i64 8)],none,[3,2]⟩,⟨some 17,.mv,[.t 4],none,[]⟩,⟨some 18,.not,[.t 17],none,[5]⟩,⟨some 19,.call 85,[.t 18,.c (.i .i64 13)],none,[6,4]⟩,⟨some 20,.fadr 2,[.t 1],none,[]⟩,⟨some 21,.load 1 false,[.t 20],none,[8]⟩,⟨some 22,.call 123,[.t 21],none,[9,7]⟩,⟨some 23,.fadr 3,[.t 1],none,[]⟩,⟨some 24,.load 1 false,[.t 23],none,[11]⟩,⟨some 25,.call 88,[.t 24,.c (.i .i64 1),.c (.i .i64 1440)],none,[12,10]⟩,⟨some 26,.fadr 4,[.t 1],none,[]⟩,⟨some 27,.load 1 false,[.t 26],none,[14]⟩,⟨some 28,.call 88,[.t 27,.c (.i .i64 1),.c (.i .i64 1440)],none,[15,13]⟩,⟨some 29,.fadr 5,[.t 1],none,[]⟩,⟨some 30,.load 1 false,[.t 29],none,[17]⟩,⟨some 31,.call 88,[.t 30,.c (.i .i64 0),.c (.i .i64 1439)],none,[18,16]⟩,⟨some 32,.fadr 6,[.t 1],none,[]⟩,⟨some 33,.load 1 false,[.t 32],none,[20]⟩,⟨some 34,.call 88,[.t 33,.c (.i .i64 0),.c (.i .i64 1439)],none,[21,19]⟩,⟨some 35,.fadr 5,[.t 1],none,[]⟩,⟨some 36,.load 1 false,[.t 35],none,[23]⟩,⟨some 37,.fadr 6,[.t 1],none,[]⟩,⟨some 38,.load 1 false,[.t 37],none,[25]⟩,⟨some 39,.bin .gtr,[.t 36,.t 38],none,[24,26]⟩,⟨some 40,.call 85,[.t 39,.c (.i .i64 11)],none,[27,22]⟩,⟨some 41,.fadr 7,[.t 1],none,[]⟩,⟨some 42,.load 3 true,[.t 41],none,[29]⟩,⟨some 43,.call 124,[.t 42],none,[30,28]⟩,⟨some 44,.fadr 10,[.t 1],none,[]⟩,⟨some 45,.load 1 false,[.t 44],none,[32]⟩,⟨some 46,.call 88,[.t 45,.c (.i .i64 0),.c (.i .i64 999999999)],none,[33,31]⟩,⟨some 47,.bslice 34 1 (.i .i64 0) 10 [0,1,2,3,4,5,6,7,8,9],[.t 16,.t 19,.t 22,.t 25,.t 28,.t 31,.t 34,.t 40,.t 43,.t 46],none,[4,7,10,13,16,19,22,28,31,34]⟩,⟨some 48,.call 83,[.t 47],none,[35,34]⟩,⟨some 2,.mv,[.t 48],none,[36,36,0,1,2,3,4,5,6,7,8,9,10,11,12,13,14,15,16,17,18,19,20,21,22,23,24,25,26,27,28,29,30,31,32,33,34,35,36]⟩]) .ret))
def rs84 : List RV := [.tmp 2]
theorem fact84 : compF Tryz.prog 84 = some (ac84,rs84,49) := by kernel_rfl
abbrev fnSame (s : ByteArray) : PV := .fn (.func 154) [] [.ip (.s s) 0]
theorem pure153 (s : ByteArray) : Pure Tryz.prog 153 [.s s] (fnSame s) := by
  refine pure_by fact153 (by simp) fun hw X hX => ?_
  unfold ac153 rs153
  repeat' first | (show Run _ (.cond _ _ _) _ _; refine run_condX (fun hc => ?_) (fun hc => ?_) <;> (try simp only [qH, rng_0] at hc) <;> try contradiction) | (first | refine Stp.h ?_ | (show ∀ K : St → List Ft → Prop, _; intro K hK) | (show runS _ _ _ _ _; first | refine qY (hq := ?_) | refine qZ (hq := ?_)) | (refine hK _ _ ?_; clear hK K) | (refine hK _ _ rfl ?_; clear hK K) | (refine qZ (hq := ?_); try exact trivial) | omega)
  exact .refl _
theorem pure154 (m s : ByteArray) : Pure Tryz.prog 154 [.s m, .ip (.s s) 0] (.b (decide (m = s))) := by
  refine pure_by fact154 (by simp) fun hw X hX => ?_
  unfold ac154 rs154
  repeat' first | (show Run _ (.cond _ _ _) _ _; refine run_condX (fun hc => ?_) (fun hc => ?_) <;> (try simp only [qH, rng_0] at hc) <;> try contradiction) | (first | refine Stp.h ?_ | (show ∀ K : St → List Ft → Prop, _; intro K hK) | (show runS _ _ _ _ _; first | refine qY (hq := ?_) | refine qZ (hq := ?_)) | (refine hK _ _ ?_; clear hK K) | (refine hK _ _ rfl ?_; clear hK K) | (refine qZ (hq := ?_); try exact trivial) | omega)
  exact .refl _
theorem pure155 (m : ByteArray) : Pure Tryz.prog 155 [.s m] (.b true) := by
  refine pure_by fact155 (by simp) fun hw X hX => ?_
  unfold ac155 rs155
  repeat' first | (show Run _ (.cond _ _ _) _ _; refine run_condX (fun hc => ?_) (fun hc => ?_) <;> (try simp only [qH, rng_0] at hc) <;> try contradiction) | (first | refine Stp.h ?_ | (show ∀ K : St → List Ft → Prop, _; intro K hK) | (show runS _ _ _ _ _; first | refine qY (hq := ?_) | refine qZ (hq := ?_)) | (refine hK _ _ ?_; clear hK K) | (refine hK _ _ rfl ?_; clear hK K) | (refine qZ (hq := ?_); try exact trivial) | omega)
  exact .refl _
theorem sDA : (bs [68] = bs [65]) = False := by decide
theorem sTA : (bs [84] = bs [65]) = False := by decide
theorem sTD : (bs [84] = bs [68]) = False := by decide
abbrev kindsM : PV := .mp [(.s sA, .agg [fnSame sA]), (.s sD, .agg [fnSame sD]), (.s sT, .agg [.fn (.func 155) [] []])]
theorem pure129 : Pure Tryz.prog 129 [] kindsM := by
  refine pure_by fact129 (by simp) fun hw X hX => ?_
  unfold ac129 rs129
  have qe := And.intro qR (And.intro @sDA (And.intro @sTA @sTD)); repeat' first | (show Run _ (.cond _ _ _) _ _; refine run_condX (fun hc => ?_) (fun hc => ?_) <;> (try simp only [qH, rng_0] at hc) <;> try contradiction) | (show RunOps _ _ _ _ (⟨_, .callv, _, _, _⟩ :: _) _ _; refine run_callVX (hf := pure153 _) (hn := ?_)) | (first | refine Stp.h ?_ | (show ∀ K : St → List Ft → Prop, _; intro K hK) | (show runS _ _ _ _ _; first | refine qY (hq := ?_) | refine qZ (hq := ?_)) | (refine hK _ _ ?_; clear hK K) | (refine hK _ _ rfl ?_; clear hK K) | (refine qZ (hq := ?_); try exact trivial) | omega)
  exact .refl _
theorem pure131 (l : Lim) (n : ByteArray) : Pure Tryz.prog 131 [l.pv, .ip (.s n) 0] (.b (decide (l.name = n))) := by
  refine pure_by fact131 (by simp) fun hw X hX => ?_
  unfold ac131 rs131
  repeat' first | (show Run _ (.cond _ _ _) _ _; refine run_condX (fun hc => ?_) (fun hc => ?_) <;> (try simp only [qH, rng_0] at hc) <;> try contradiction) | (first | refine Stp.h ?_ | (show ∀ K : St → List Ft → Prop, _; intro K hK) | (show runS _ _ _ _ _; first | refine qY (hq := ?_) | refine qZ (hq := ?_)) | (refine hK _ _ ?_; clear hK K) | (refine hK _ _ rfl ?_; clear hK K) | (refine qZ (hq := ?_); try exact trivial) | omega)
  exact .refl _
def atL (n : ByteArray) : List ByteArray → Int
  | [] => -1
  | x :: r => if x = n then 0 else if atL n r < 0 then -1 else atL n r + 1
theorem atL_hit {n : ByteArray} : ∀ {l : List ByteArray} {i : Nat}, (∀ x ∈ l.take i, x ≠ n) → l[i]? = some n → atL n l = i
  | [], i, _, h => by simp at h
  | x :: r, 0, _, h => by simp at h; simp [atL, h]
  | x :: r, i + 1, h, hx => by
    have h0 : x ≠ n := h x (by simp)
    have := atL_hit (l := r) (i := i) (fun y hy => h y (by simp [hy])) (by simpa using hx)
    simp only [atL, if_neg h0, this]; rw [if_neg (by omega)]; simp
theorem atL_end {n : ByteArray} : ∀ {l : List ByteArray}, (∀ x ∈ l, x ≠ n) → atL n l = -1
  | [], _ => rfl
  | x :: r, h => by
    have h0 : x ≠ n := h x (by simp)
    have := atL_end (l := r) fun y hy => h y (by simp [hy])
    simp only [atL, if_neg h0, this]; rfl
theorem pure130 (l : List Lim) (n : ByteArray) : Pure Tryz.prog 130 [.sl 11 (l.map Lim.pv), .fn (.func 131) [] [.ip (.s n) 0]] (.i .i64 (atL n (l.map Lim.name))) := by
  refine pure_by fact130 (by simp) fun hw X hX => ?_
  unfold ac130 rs130
  simp only [wfs, PV.wf, List.length_map, maxLen] at hw
  repeat' first | (show Run _ (.cond _ _ _) _ _; refine run_condX (fun hc => ?_) (fun hc => ?_) <;> (try simp only [qH, rng_0] at hc) <;> try contradiction) | (first | refine Stp.h ?_ | (show ∀ K : St → List Ft → Prop, _; intro K hK) | (show runS _ _ _ _ _; first | refine qY (hq := ?_) | refine qZ (hq := ?_)) | (refine hK _ _ ?_; clear hK K) | (refine hK _ _ rfl ?_; clear hK K) | (refine qZ (hq := ?_); try exact trivial) | omega)
  refine run_loop (κ := Nat) (fun i => ⟨[(0, .p (.sl 11 (l.map Lim.pv))), (1, .p (.fn (.func 131) [] [.ip (.s n) 0])), (7, .p (.i .i64 l.length)), (8, .p (.i .i64 i))], [], [], false⟩) (fun i => i ≤ l.length ∧ ∀ x ∈ (l.map Lim.name).take i, x ≠ n) (fun i => l.length - i) 0 ?_ ?_ ?_
  · simp only [qS, Nat.reduceAdd, Nat.reduceMul, Nat.reduceEqDiff, Nat.reduceLeDiff, reduceIte, reduceCtorEq, Nat.reduceBEq, Nat.reduceLT] <;> rfl
  · simp
  · intro i hi
    repeat (first | refine Stp.h ?_ | (show ∀ K : St → List Ft → Prop, _; intro K hK) | (show runS _ _ _ _ _; first | refine qY (hq := ?_) | refine qZ (hq := ?_)) | (refine hK _ _ ?_; clear hK K) | (refine hK _ _ rfl ?_; clear hK K) | (refine qZ (hq := ?_); try exact trivial) | omega)
    (show Run _ (.cond _ _ _) _ _; refine run_condX (fun hc => ?_) (fun hc => ?_) <;> (try simp only [qH, rng_0] at hc) <;> try contradiction)
    · obtain ⟨x, hx⟩ := some_at (i := i) (l := l) (by omega)
      have qe := @hx; repeat' first | (show Run _ (.cond _ _ _) _ _; refine run_condX (fun hc => ?_) (fun hc => ?_) <;> (try simp only [qH, rng_0] at hc) <;> try contradiction) | (show RunOps _ _ _ _ (⟨_, .callv, _, _, _⟩ :: _) _ _; refine run_callVX (hf := pure131 x n) (hn := ?_)) | (first | refine Stp.h ?_ | (show ∀ K : St → List Ft → Prop, _; intro K hK) | (show runS _ _ _ _ _; first | refine qY (hq := ?_) | refine qZ (hq := ?_)) | (refine hK _ _ ?_; clear hK K) | (refine hK _ _ rfl ?_; clear hK K) | (refine qZ (hq := ?_); try exact trivial) | omega)
      · rw [atL_hit hi.2 (by simp [hx, hc])]; exact .refl _
      · refine ⟨i + 1, ⟨by omega, fun y hy => ?_⟩, by omega, by simp⟩
        rw [← List.map_take, take_snoc _ hx] at hy
        rcases List.mem_append.1 hy with h | h
        · exact hi.2 y (by rw [← List.map_take]; exact h)
        · simp at h; subst h; exact hc
    · repeat' first | (show Run _ (.cond _ _ _) _ _; refine run_condX (fun hc => ?_) (fun hc => ?_) <;> (try simp only [qH, rng_0] at hc) <;> try contradiction) | (first | refine Stp.h ?_ | (show ∀ K : St → List Ft → Prop, _; intro K hK) | (show runS _ _ _ _ _; first | refine qY (hq := ?_) | refine qZ (hq := ?_)) | (refine hK _ _ ?_; clear hK K) | (refine hK _ _ rfl ?_; clear hK K) | (refine qZ (hq := ?_); try exact trivial) | omega)
      have e : i = l.length := by omega
      subst e
      rw [atL_end (fun y hy => hi.2 y (by rw [List.take_of_length_le (by simp)]; exact hy))]; exact .refl _
theorem pure86 (l : List Lim) (n : ByteArray) : Pure Tryz.prog 86 [.sl 11 (l.map Lim.pv), .s n] (.i .i64 (atL n (l.map Lim.name))) := by
  refine pure_by fact86 (by simp) fun hw X hX => ?_
  unfold ac86 rs86
  repeat' first | (show Run _ (.cond _ _ _) _ _; refine run_condX (fun hc => ?_) (fun hc => ?_) <;> (try simp only [qH, rng_0] at hc) <;> try contradiction) | (show RunOps _ _ _ _ (⟨_, .call 130, _, _, _⟩ :: _) _ _; refine run_callX (hf := pure130 l n) (hn := ?_)) | (first | refine Stp.h ?_ | (show ∀ K : St → List Ft → Prop, _; intro K hK) | (show runS _ _ _ _ _; first | refine qY (hq := ?_) | refine qZ (hq := ?_)) | (refine hK _ _ ?_; clear hK K) | (refine hK _ _ rfl ?_; clear hK K) | (refine qZ (hq := ?_); try exact trivial) | omega)
  exact .refl _
theorem pure84 (l : Lim) : Pure Tryz.prog 84 [l.pv] (.i .i64 (chkLim l)) := by
  refine pure_by fact84 (by simp) fun hw X hX => ?_
  unfold ac84 rs84
  have key : ∀ k : Int, kindE l.kind = k → firstE [if isName l.name = false then 8 else 0, k, optE l.term, rng l.len 1 1440, rng l.step 1 1440, rng l.fro 0 1439, rng l.to 0 1439, if l.to < l.fro then 11 else 0, chkPer l.per, rng l.most 0 999999999] = chkLim l := fun k hk => by subst hk; rfl
  by_cases hA : l.kind = sA
  · have hA' := eq_true hA
    have qe := And.intro qR @hA'; repeat' first | (show Run _ (.cond _ _ _) _ _; refine run_condX (fun hc => ?_) (fun hc => ?_) <;> (try simp only [qH, rng_0] at hc) <;> try contradiction) | (show RunOps _ _ _ _ (⟨_, .call 129, _, _, _⟩ :: _) _ _; refine run_callX (hf := pure129) (hn := ?_)) | (show RunOps _ _ _ _ (⟨_, .call 88, _, _, _⟩ :: _) _ _; refine run_callX (hf := pure88 _ _ _) (hn := ?_)) | (show RunOps _ _ _ _ (⟨_, .call 123, _, _, _⟩ :: _) _ _; refine run_callX (hf := pure123 _) (hn := ?_)) | (show RunOps _ _ _ _ (⟨_, .call 124, _, _, _⟩ :: _) _ _; refine run_callX (hf := pure124 l.per) (hn := ?_)) | (show RunOps _ _ _ _ (⟨_, .call 109, _, _, _⟩ :: _) _ _; refine run_callX (hf := pure109 _) (hn := ?_)) | (show RunOps _ _ _ _ (⟨_, .call 85, _, _, _⟩ :: _) _ _; refine run_callX (hf := pure85 _ _) (hn := ?_)) | (show RunOps _ _ _ _ (⟨_, .call 83, _, _, _⟩ :: _) _ _; refine run_callX (hf := pure83 [_, _, _, _, _, _, _, _, _, _]) (hn := ?_)) | (first | refine Stp.h ?_ | (show ∀ K : St → List Ft → Prop, _; intro K hK) | (show runS _ _ _ _ _; first | refine qY (hq := ?_) | refine qZ (hq := ?_)) | (refine hK _ _ ?_; clear hK K) | (refine hK _ _ rfl ?_; clear hK K) | (refine qZ (hq := ?_); try exact trivial) | omega)
    rw [← key 0 (by simp [kindE, hA])]; exact .refl _
  have hA' := eq_false hA
  by_cases hD : l.kind = sD
  · have hD' := eq_true hD
    have qe := And.intro qR (And.intro @hA' @hD'); repeat' first | (show Run _ (.cond _ _ _) _ _; refine run_condX (fun hc => ?_) (fun hc => ?_) <;> (try simp only [qH, rng_0] at hc) <;> try contradiction) | (show RunOps _ _ _ _ (⟨_, .call 129, _, _, _⟩ :: _) _ _; refine run_callX (hf := pure129) (hn := ?_)) | (show RunOps _ _ _ _ (⟨_, .call 88, _, _, _⟩ :: _) _ _; refine run_callX (hf := pure88 _ _ _) (hn := ?_)) | (show RunOps _ _ _ _ (⟨_, .call 123, _, _, _⟩ :: _) _ _; refine run_callX (hf := pure123 _) (hn := ?_)) | (show RunOps _ _ _ _ (⟨_, .call 124, _, _, _⟩ :: _) _ _; refine run_callX (hf := pure124 l.per) (hn := ?_)) | (show RunOps _ _ _ _ (⟨_, .call 109, _, _, _⟩ :: _) _ _; refine run_callX (hf := pure109 _) (hn := ?_)) | (show RunOps _ _ _ _ (⟨_, .call 85, _, _, _⟩ :: _) _ _; refine run_callX (hf := pure85 _ _) (hn := ?_)) | (show RunOps _ _ _ _ (⟨_, .call 83, _, _, _⟩ :: _) _ _; refine run_callX (hf := pure83 [_, _, _, _, _, _, _, _, _, _]) (hn := ?_)) | (first | refine Stp.h ?_ | (show ∀ K : St → List Ft → Prop, _; intro K hK) | (show runS _ _ _ _ _; first | refine qY (hq := ?_) | refine qZ (hq := ?_)) | (refine hK _ _ ?_; clear hK K) | (refine hK _ _ rfl ?_; clear hK K) | (refine qZ (hq := ?_); try exact trivial) | omega)
    rw [← key 0 (by simp [kindE, hD])]; exact .refl _
  have hD' := eq_false hD
  by_cases hT : l.kind = sT
  · have hT' := eq_true hT
    have qe := And.intro qR (And.intro @hA' (And.intro @hD' @hT')); repeat' first | (show Run _ (.cond _ _ _) _ _; refine run_condX (fun hc => ?_) (fun hc => ?_) <;> (try simp only [qH, rng_0] at hc) <;> try contradiction) | (show RunOps _ _ _ _ (⟨_, .call 129, _, _, _⟩ :: _) _ _; refine run_callX (hf := pure129) (hn := ?_)) | (show RunOps _ _ _ _ (⟨_, .call 88, _, _, _⟩ :: _) _ _; refine run_callX (hf := pure88 _ _ _) (hn := ?_)) | (show RunOps _ _ _ _ (⟨_, .call 123, _, _, _⟩ :: _) _ _; refine run_callX (hf := pure123 _) (hn := ?_)) | (show RunOps _ _ _ _ (⟨_, .call 124, _, _, _⟩ :: _) _ _; refine run_callX (hf := pure124 l.per) (hn := ?_)) | (show RunOps _ _ _ _ (⟨_, .call 109, _, _, _⟩ :: _) _ _; refine run_callX (hf := pure109 _) (hn := ?_)) | (show RunOps _ _ _ _ (⟨_, .call 85, _, _, _⟩ :: _) _ _; refine run_callX (hf := pure85 _ _) (hn := ?_)) | (show RunOps _ _ _ _ (⟨_, .call 83, _, _, _⟩ :: _) _ _; refine run_callX (hf := pure83 [_, _, _, _, _, _, _, _, _, _]) (hn := ?_)) | (first | refine Stp.h ?_ | (show ∀ K : St → List Ft → Prop, _; intro K hK) | (show runS _ _ _ _ _; first | refine qY (hq := ?_) | refine qZ (hq := ?_)) | (refine hK _ _ ?_; clear hK K) | (refine hK _ _ rfl ?_; clear hK K) | (refine qZ (hq := ?_); try exact trivial) | omega)
    rw [← key 0 (by simp [kindE, hT])]; exact .refl _
  have hT' := eq_false hT
  have qe := And.intro qR (And.intro @hA' (And.intro @hD' @hT')); repeat' first | (show Run _ (.cond _ _ _) _ _; refine run_condX (fun hc => ?_) (fun hc => ?_) <;> (try simp only [qH, rng_0] at hc) <;> try contradiction) | (show RunOps _ _ _ _ (⟨_, .call 129, _, _, _⟩ :: _) _ _; refine run_callX (hf := pure129) (hn := ?_)) | (show RunOps _ _ _ _ (⟨_, .call 88, _, _, _⟩ :: _) _ _; refine run_callX (hf := pure88 _ _ _) (hn := ?_)) | (show RunOps _ _ _ _ (⟨_, .call 123, _, _, _⟩ :: _) _ _; refine run_callX (hf := pure123 _) (hn := ?_)) | (show RunOps _ _ _ _ (⟨_, .call 124, _, _, _⟩ :: _) _ _; refine run_callX (hf := pure124 l.per) (hn := ?_)) | (show RunOps _ _ _ _ (⟨_, .call 109, _, _, _⟩ :: _) _ _; refine run_callX (hf := pure109 _) (hn := ?_)) | (show RunOps _ _ _ _ (⟨_, .call 85, _, _, _⟩ :: _) _ _; refine run_callX (hf := pure85 _ _) (hn := ?_)) | (show RunOps _ _ _ _ (⟨_, .call 83, _, _, _⟩ :: _) _ _; refine run_callX (hf := pure83 [_, _, _, _, _, _, _, _, _, _]) (hn := ?_)) | (first | refine Stp.h ?_ | (show ∀ K : St → List Ft → Prop, _; intro K hK) | (show runS _ _ _ _ _; first | refine qY (hq := ?_) | refine qZ (hq := ?_)) | (refine hK _ _ ?_; clear hK K) | (refine hK _ _ rfl ?_; clear hK K) | (refine qZ (hq := ?_); try exact trivial) | omega)
  rw [← key 13 (by simp [kindE, hA, hD, hT])]; exact .refl _
end Go.Proofs.YtcfbdeghmckelaaGreat
