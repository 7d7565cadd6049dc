/- Contracts of functions that the proof uses, shared by the claims of this seat; no statement of its own. Part 39. No conditions. -/
import Derived.Test.YtcfbdeghmckelaaGreatJW26
set_option linter.all false
namespace Go.Proofs.YtcfbdeghmckelaaGreat
open Go.RowKit
set_option maxRecDepth 100000
set_option linter.unusedVariables false
set_option linter.unusedSimpArgs false
set_option maxHeartbeats 4000000
def ac63 : AC := .seq (.ops false [⟨some 3,.box,[.t 1],none,[]⟩,⟨some 4,.mv,[.c .nilsl],none,[]⟩,⟨some 5,.mv,[.c (.i .i64 0)],none,[1]⟩]) (.seq (.seq (.ops true [⟨some 9,.mv,[.t 0],none,[]⟩,⟨some 10,.call 22,[.t 9],none,[0]⟩,⟨some 11,.load 11 true,[.t 3],none,[]⟩,⟨some 12,.call 84,[.t 11],none,[2,1]⟩,⟨some 13,.bslice 34 1 (.i .i64 0) 2 [0,1],[.t 10,.t 12],none,[1,3]⟩,⟨some 14,.call 83,[.t 13],none,[4,3]⟩,⟨some 6,.mv,[.t 14],none,[5,5,0,1,2,3,4,5]⟩]) (.seq (.ops false [⟨some 15,.mv,[.t 6],none,[]⟩,⟨some 16,.bin .neq,[.t 15,.c (.i .i64 0)],none,[0]⟩]) (.cond (.t 16) (.seq (.ops false [⟨some 17,.mv,[.t 6],none,[]⟩,⟨some 4,.mv,[.c .nilsl],none,[]⟩,⟨some 5,.mv,[.t 17],none,[0,1,0,1]⟩]) .ret) .skip))) (.seq (.ops false [⟨some 18,.mv,[.t 0],none,[]⟩,⟨some 19,.len false,[.t 18],none,[0]⟩,⟨some 20,.mkslice 46 11 112 (.agg [(.s (bs [])),(.s (bs [])),(.s (bs [])),(.i .i64 0),(.i .i64 0),(.i .i64 0),(.i .i64 0),(.i .i64 0),(.i .i64 0),(.i .i64 0),(.i .i64 0)]),[.t 19,.t 19],none,[1,1]⟩,⟨some 7,.mv,[.t 20],none,[2,0,1,2]⟩]) (.seq (.ops false [⟨some 21,.mv,[.t 7],none,[]⟩,⟨some 22,.mv,[.t 0],none,[]⟩,⟨some 23,.copy 11,[.t 21,.t 22],none,[0,1]⟩]) (.seq (.ops false [⟨some 24,.mv,[.t 0],none,[]⟩,⟨some 25,.fadr 0,[.t 3],none,[]⟩,⟨some 26,.load 1 false,[.t 25],none,[1]⟩,⟨some 27,.call 86,[.t 24,.t 26],none,[0,2]⟩,⟨some 8,.mv,[.t 27],none,[3,3,0,1,2,3]⟩]) (.seq (.block 0 (.seq (.ops false [⟨some 33,.mv,[.t 8],none,[]⟩,⟨some 34,.bin .geq,[.t 33,.c (.i .i64 0)],none,[0]⟩,⟨some 32,.mv,[.t 34],none,[1]⟩]) (.cond (.t 32) (.ops false [⟨some 35,.mv,[.t 7],none,[]⟩,⟨some 36,.mv,[.t 8],none,[]⟩,⟨some 37,.load 11 true,[.t 3],none,[]⟩,⟨some 38,.iadrS 11,[.t 35,.t 36],none,[0,1,0,1,2]⟩,⟨none,.store 11,[.t 38,.t 37],none,[3,2,0,1,2]⟩]) (.seq (.ops false [⟨some 40,.mv,[.t 0],none,[]⟩,⟨some 41,.len false,[.t 40],none,[0]⟩,⟨some 42,.bin .eql,[.t 41,.c (.i .i64 32)],none,[1]⟩,⟨some 39,.mv,[.t 42],none,[2]⟩]) (.cond (.t 39) (.seq (.ops false [⟨some 4,.mv,[.c .nilsl],none,[]⟩,⟨some 5,.mv,[.c (.i .i64 5)],none,[0,0]⟩]) .ret) (.ops false [⟨some 28,.mv,[.t 7],none,[]⟩,⟨some 29,.load 11 true,[.t 3],none,[]⟩,⟨some 30,.bslice 46 11 (.agg [(.s (bs [])),(.s (bs [])),(.s (bs [])),(.i .i64 0),(.i .i64 0),(.i .i64 0),(.i .i64 0),(.i .i64 0),(.i .i64 0),(.i .i64 0),(.i .i64 0)]) 1 [0],[.t 29],none,[1]⟩,⟨some 31,.app 46 11 112,[.t 28,.t 30],none,[0,2]⟩,⟨some 7,.mv,[.t 31],none,[3,3,0,1,2,3]⟩])))))) (.seq (.ops false [⟨some 43,.mv,[.t 7],none,[]⟩,⟨some 4,.mv,[.t 43],none,[0,0]⟩,⟨some 5,.mv,[.c (.i .i64 0)],none,[1,0,1]⟩]) .ret))))))
def rs63 : List RV := [.tmp 4,.tmp 5]
theorem fact63 : compF Tryz.prog 63 = some (ac63,rs63,44) := by kernel_rfl
def ac64 : AC := .seq (.ops false [⟨some 3,.box,[.t 1],none,[]⟩,⟨some 4,.mv,[.c .nilsl],none,[]⟩,⟨some 5,.mv,[.c (.i .i64 0)],none,[1]⟩]) (.seq (.seq (.ops true [⟨some 7,.mv,[.t 0],none,[]⟩,⟨some 8,.call 22,[.t 7],none,[0]⟩,⟨some 9,.load 1 false,[.t 3],none,[]⟩,⟨some 10,.call 109,[.t 9],none,[2,1]⟩,⟨some 11,.not,[.t 10],none,[3]⟩,⟨some 12,.call 85,[.t 11,.c (.i .i64 8)],none,[4,3]⟩,⟨some 13,.mv,[.t 0],none,[]⟩,⟨some 14,.load 1 false,[.t 3],none,[]⟩,⟨some 15,.call 86,[.t 13,.t 14],none,[6,7,5]⟩,⟨some 16,.bin .lss,[.t 15,.c (.i .i64 0)],none,[8]⟩,⟨some 17,.call 85,[.t 16,.c (.i .i64 10)],none,[9,8]⟩,⟨some 18,.bslice 34 1 (.i .i64 0) 3 [0,1,2],[.t 8,.t 12,.t 17],none,[1,5,10]⟩,⟨some 19,.call 83,[.t 18],none,[11,10]⟩,⟨some 6,.mv,[.t 19],none,[12,12,0,1,2,3,4,5,6,7,8,9,10,11,12]⟩]) (.seq (.ops false [⟨some 20,.mv,[.t 6],none,[]⟩,⟨some 21,.bin .neq,[.t 20,.c (.i .i64 0)],none,[0]⟩]) (.cond (.t 21) (.seq (.ops false [⟨some 22,.mv,[.t 6],none,[]⟩,⟨some 4,.mv,[.c .nilsl],none,[]⟩,⟨some 5,.mv,[.t 22],none,[0,1,0,1]⟩]) .ret) .skip))) (.seq (.ops false [⟨some 23,.mv,[.t 0],none,[]⟩,⟨some 24,.mkfn (.func 111) 0,[.t 3],none,[]⟩,⟨some 25,.call 110,[.t 23,.t 24],none,[0,1]⟩,⟨some 4,.mv,[.t 25],none,[2,2,0,1,2]⟩,⟨some 5,.mv,[.c (.i .i64 0)],none,[3,0,1,2,3]⟩]) .ret))
def rs64 : List RV := [.tmp 4,.tmp 5]
theorem fact64 : compF Tryz.prog 64 = some (ac64,rs64,26) := by kernel_rfl
def ac110 : AC := .seq (.ops false [⟨some 4,.mv,[.c .nilsl],none,[]⟩]) (.seq (.ops false [⟨some 5,.mv,[.c .nilsl],none,[]⟩]) (.seq (.seq (.ops false [⟨some 8,.mv,[.t 0],none,[]⟩,⟨some 9,.len false,[.t 8],none,[0]⟩,⟨some 10,.mv,[.c (.i .i64 0)],none,[]⟩]) (.block 0 (.loop (.seq (.ops false [⟨some 11,.bin .lss,[.t 10,.t 9],none,[]⟩]) (.seq (.cond (.t 11) .skip (.exit 0)) (.seq (.block 1 (.seq (.ops false [⟨some 12,.iadrS 11,[.t 8,.t 10],none,[]⟩,⟨some 13,.load 11 true,[.t 12],none,[0]⟩,⟨some 7,.alloc [(.s (bs [])),(.s (bs [])),(.s (bs [])),(.i .i64 0),(.i .i64 0),(.i .i64 0),(.i .i64 0),(.i .i64 0),(.i .i64 0),(.i .i64 0),(.i .i64 0)],[],none,[]⟩,⟨none,.store 11,[.t 7,.t 13],none,[2,1,0,1,2]⟩]) (.seq (.ops false [⟨some 14,.mv,[.t 1],none,[]⟩,⟨some 15,.load 11 true,[.t 7],none,[]⟩,⟨some 16,.callv,[.t 14,.t 15],none,[0,1]⟩]) (.cond (.t 16) (.ops false [⟨some 17,.mv,[.t 5],none,[]⟩,⟨some 18,.load 11 true,[.t 7],none,[]⟩,⟨some 19,.bslice 46 11 (.agg [(.s (bs [])),(.s (bs [])),(.s (bs [])),(.i .i64 0),(.i .i64 0),(.i .i64 0),(.i .i64 0),(.i .i64 0),(.i .i64 0),(.i .i64 0),(.i .i64 0)]) 1 [0],[.t 18],none,[1]⟩,⟨some 20,.app 46 11 112,[.t 17,.t 19],none,[0,2]⟩,⟨some 5,.mv,[.t 20],none,[3,3,0,1,2,3]⟩]) .skip)))) (.ops false [⟨some 21,.bin .add,[.t 10,.c (.i .i64 1)],none,[]⟩,⟨some 10,.mv,[.t 21],none,[0]⟩]))))))) (.seq (.ops false [⟨some 22,.mv,[.t 5],none,[]⟩,⟨some 4,.mv,[.t 22],none,[0,0]⟩]) .ret)))
def rs110 : List RV := [.tmp 4]
theorem fact110 : compF Tryz.prog 110 = some (ac110,rs110,23) := by kernel_rfl
def ac111 : AC := .seq (.ops false [⟨some 2,.box,[.t 0],none,[]⟩,⟨some 3,.mv,[.c (.b false)],none,[]⟩]) (.seq (.ops false [⟨some 4,.fadr 0,[.t 2],none,[]⟩,⟨some 5,.load 1 false,[.t 4],none,[0]⟩,⟨some 6,.load 1 false,[.t 1],none,[]⟩,⟨some 7,.bin .neq,[.t 5,.t 6],none,[1,2]⟩,⟨some 3,.mv,[.t 7],none,[3,0,1,2,3]⟩]) .ret)
def rs111 : List RV := [.tmp 3]
theorem fact111 : compF Tryz.prog 111 = some (ac111,rs111,8) := by kernel_rfl
theorem pure111 (l : Lim) (n : ByteArray) : Pure Tryz.prog 111 [l.pv, .ip (.s n) 0] (.b (!decide (l.name = n))) := by
  refine pure_by fact111 (by simp) fun hw X hX => ?_
  unfold ac111 rs111
  repeat' first | (show Run _ (.cond _ _ _) _ _; refine run_condX (fun hc => ?_) (fun hc => ?_) <;> (try simp only [qH, rng_0] at hc) <;> try contradiction) | (first | refine Stp.h ?_ | (show ∀ K : St → List Ft → Prop, _; intro K hK) | (show runS _ _ _ _ _; first | refine qY (hq := ?_) | refine qZ (hq := ?_)) | (refine hK _ _ ?_; clear hK K) | (refine hK _ _ rfl ?_; clear hK K) | (refine qZ (hq := ?_); try exact trivial) | omega)
  exact .refl _
theorem pure110 {f : Nat} {caps : List PV} {L : List Lim} {p : Lim → Bool} (hf : ∀ w ∈ L, Pure Tryz.prog f (w.pv :: caps) (.b (p w))) (hn : L.length ≤ 1000000) : Pure Tryz.prog 110 [.sl 11 (L.map Lim.pv), .fn (.func f) [] caps] (.sl 11 ((L.filter p).map Lim.pv)) := by
  refine pure_by fact110 (by simp) fun hw X hX => ?_
  unfold ac110 rs110
  repeat' first | (show Run _ (.cond _ _ _) _ _; refine run_condX (fun hc => ?_) (fun hc => ?_) <;> (try simp only [qH, rng_0] at hc) <;> try contradiction) | (first | refine Stp.h ?_ | (show ∀ K : St → List Ft → Prop, _; intro K hK) | (show runS _ _ _ _ _; first | refine qY (hq := ?_) | refine qZ (hq := ?_)) | (refine hK _ _ ?_; clear hK K) | (refine hK _ _ rfl ?_; clear hK K) | (refine qZ (hq := ?_); try exact trivial) | omega)
  refine run_own 100 46 11 [(1, .p (.fn (.func f) [] caps)), (5, .row 100 0), (8, .p (.sl 11 (L.map Lim.pv))), (9, .p (.i .i64 L.length)), (10, .p (.i .i64 0))] [] ?_ ?_
  · simp only [Own, ownEnv, ownObj, nilTo, nilTos, qS, Nat.reduceAdd, Nat.reduceMul, Nat.reduceEqDiff, Nat.reduceLeDiff, reduceIte, reduceCtorEq, Nat.reduceBEq, Nat.reduceLT]
  refine run_loop (κ := Nat) (fun k => ⟨[(1, .p (.fn (.func f) [] caps)), (5, .row 100 ((L.take k).filter p).length), (8, .p (.sl 11 (L.map Lim.pv))), (9, .p (.i .i64 L.length)), (10, .p (.i .i64 k))], [(100, .row 46 11 (((L.take k).filter p).map Lim.pv) false)], [], false⟩) (fun k => k ≤ L.length) (fun k => L.length - k) 0 ?_ ?_ ?_
  · simp only [qS, Nat.reduceAdd, Nat.reduceMul, Nat.reduceEqDiff, Nat.reduceLeDiff, reduceIte, reduceCtorEq, Nat.reduceBEq, Nat.reduceLT] <;> simp
  · simp
  · intro k hk
    repeat (first | refine Stp.h ?_ | (show ∀ K : St → List Ft → Prop, _; intro K hK) | (show runS _ _ _ _ _; first | refine qY (hq := ?_) | refine qZ (hq := ?_)) | (refine hK _ _ ?_; clear hK K) | (refine hK _ _ rfl ?_; clear hK K) | (refine qZ (hq := ?_); try exact trivial) | omega)
    (show Run _ (.cond _ _ _) _ _; refine run_condX (fun hc => ?_) (fun hc => ?_) <;> (try simp only [qH, rng_0] at hc) <;> try contradiction)
    · obtain ⟨w, hx⟩ := some_at (i := k) (l := L) (by omega)
      have hnx := filter_take (p := p) hx
      have hfl := filter_tlen (p := p) (l := L) (k := k)
      have qe := And.intro qR @hx; repeat' first | (show Run _ (.cond _ _ _) _ _; refine run_condX (fun hc => ?_) (fun hc => ?_) <;> (try simp only [qH, rng_0] at hc) <;> try contradiction) | (show RunOps _ _ _ _ (⟨_, .callv, _, _, _⟩ :: _) _ _; refine run_callVX (hf := hf w (List.mem_of_getElem? hx)) (hn := ?_)) | (first | refine Stp.h ?_ | (show ∀ K : St → List Ft → Prop, _; intro K hK) | (show runS _ _ _ _ _; first | refine qY (hq := ?_) | refine qZ (hq := ?_)) | (refine hK _ _ ?_; clear hK K) | (refine hK _ _ rfl ?_; clear hK K) | (refine qZ (hq := ?_); try exact trivial) | omega)
      · rw [hc, if_pos rfl] at hnx
        exact ⟨k + 1, by omega, by omega, ⟨by rw [hnx]; simp, by simp⟩, by rw [hnx]; simp⟩
      · rw [hc] at hnx
        exact ⟨k + 1, by omega, by omega, ⟨by rw [hnx]; simp, by simp⟩, by rw [hnx]; simp⟩
    · repeat' first | (show Run _ (.cond _ _ _) _ _; refine run_condX (fun hc => ?_) (fun hc => ?_) <;> (try simp only [qH, rng_0] at hc) <;> try contradiction) | (first | refine Stp.h ?_ | (show ∀ K : St → List Ft → Prop, _; intro K hK) | (show runS _ _ _ _ _; first | refine qY (hq := ?_) | refine qZ (hq := ?_)) | (refine hK _ _ ?_; clear hK K) | (refine hK _ _ rfl ?_; clear hK K) | (refine qZ (hq := ?_); try exact trivial) | omega)
      have e : k = L.length := by omega
      subst e; rw [List.take_length]; exact .refl _
def woutE (l : List Lim) (n : ByteArray) : Int := firstE [chkLims l, nameE n, if atL n (l.map Lim.name) < 0 then 10 else 0]
def woutR (l : List Lim) (n : ByteArray) : List Lim := if woutE l n = 0 then l.filter (fun x => !decide (x.name = n)) else []
theorem pure64 (l : List Lim) (n : ByteArray) (hn : l.length ≤ 1000000) : Pure Tryz.prog 64 [.sl 11 (l.map Lim.pv), .s n] (.tup [.sl 11 ((woutR l n).map Lim.pv), .i .i64 (woutE l n)]) := by
  have he : (if (!isName n) = true then (8 : Int) else 0) = nameE n := by simp [nameE]
  have he2 : (if decide (atL n (l.map Lim.name) < 0) = true then (10 : Int) else 0) = (if atL n (l.map Lim.name) < 0 then 10 else 0) := by simp
  refine pure_by fact64 (by simp) fun hw X hX => ?_
  unfold ac64 rs64
  have qe := And.intro qR (And.intro @he @he2); repeat' first | (show Run _ (.cond _ _ _) _ _; refine run_condX (fun hc => ?_) (fun hc => ?_) <;> (try simp only [qH, rng_0] at hc) <;> try contradiction) | (show RunOps _ _ _ _ (⟨_, .call 22, _, _, _⟩ :: _) _ _; refine run_callX (hf := pure22 l) (hn := ?_)) | (show RunOps _ _ _ _ (⟨_, .call 109, _, _, _⟩ :: _) _ _; refine run_callX (hf := pure109 n) (hn := ?_)) | (show RunOps _ _ _ _ (⟨_, .call 85, _, _, _⟩ :: _) _ _; refine run_callX (hf := pure85 _ _) (hn := ?_)) | (show RunOps _ _ _ _ (⟨_, .call 86, _, _, _⟩ :: _) _ _; refine run_callX (hf := pure86 l n) (hn := ?_)) | (show RunOps _ _ _ _ (⟨_, .call 83, _, _, _⟩ :: _) _ _; refine run_callX (hf := pure83 [_, _, _]) (hn := ?_)) | (show RunOps _ _ _ _ (⟨_, .call 110, _, _, _⟩ :: _) _ _; refine run_callBX (hf := pure110 (fun w _ => pure111 w n) hn) (hn := ?_)) | (first | refine Stp.h ?_ | (show ∀ K : St → List Ft → Prop, _; intro K hK) | (show runS _ _ _ _ _; first | refine qY (hq := ?_) | refine qZ (hq := ?_)) | (refine hK _ _ ?_; clear hK K) | (refine hK _ _ rfl ?_; clear hK K) | (refine qZ (hq := ?_); try exact trivial) | omega)
  · have e : firstE [chkLims l, if isName n = false then 8 else 0, if atL n (l.map Lim.name) < 0 then 10 else 0] = woutE l n := rfl
    rw [e] at hc ⊢
    rw [woutR, if_neg hc]; exact weak2 (.nilsl _) (.refl _)
  · have e : firstE [chkLims l, if isName n = false then 8 else 0, if atL n (l.map Lim.name) < 0 then 10 else 0] = woutE l n := rfl
    rw [e] at hc
    rw [woutR, if_pos hc, hc]; exact .refl _
def putE (l : List Lim) (x : Lim) : Int := if firstE [chkLims l, chkLim x] = 0 then (if 0 ≤ atL x.name (l.map Lim.name) then 0 else if (l.length : Int) = 32 then 5 else 0) else firstE [chkLims l, chkLim x]
def putL (l : List Lim) (x : Lim) : List Lim := if 0 ≤ atL x.name (l.map Lim.name) then l.set (atL x.name (l.map Lim.name)).toNat x else l ++ [x]
def putR (l : List Lim) (x : Lim) : List Lim := if putE l x = 0 then putL l x else []
theorem atL_lt (n : ByteArray) : ∀ l : List ByteArray, atL n l < l.length
  | [] => by simp [atL]
  | x :: r => by have := atL_lt n r; simp only [atL, List.length_cons]; (repeat' split) <;> omega
theorem allLm (l : List Lim) : l.all ((fun x => x.cells.all PV.one) ∘ Lim.pv) = true := by rw [List.all_eq_true]; intro x _; rfl
theorem pure63 (l : List Lim) (x : Lim) : Pure Tryz.prog 63 [.sl 11 (l.map Lim.pv), x.pv] (.tup [.sl 11 ((putR l x).map Lim.pv), .i .i64 (putE l x)]) := by
  refine pure_by fact63 (by simp) fun hw X hX => ?_
  unfold ac63 rs63
  have hat := atL_lt x.name (l.map Lim.name)
  rw [List.length_map] at hat
  have hA := eq_true (allLm l)
  by_cases h0 : firstE [chkLims l, chkLim x] = 0
  · have h0' := eq_true h0
    have hl := chkLims_0 (firstE_cons.1 h0).1
    have hc1 : ((l.map Lim.pv).take l.length) = l.map Lim.pv := by rw [List.take_of_length_le (by simp)]
    by_cases h1 : 0 ≤ atL x.name (l.map Lim.name)
    · have h1' := eq_true h1
      obtain ⟨y, hy⟩ := some_at (i := (atL x.name (l.map Lim.name)).toNat) (l := l) (by omega)
      have qe := And.intro qR (And.intro @hA (And.intro @h0' (And.intro @h1' (And.intro @hc1 (And.intro @hy (And.intro @List.length_replicate.{0} (And.intro @List.drop_replicate.{0} (And.intro @Nat.sub_self @List.replicate_zero.{0})))))))); repeat' first | (show Run _ (.cond _ _ _) _ _; refine run_condX (fun hc => ?_) (fun hc => ?_) <;> (try simp only [qH, rng_0] at hc) <;> try contradiction) | (show RunOps _ _ _ _ (⟨_, .call 22, _, _, _⟩ :: _) _ _; refine run_callX (hf := pure22 l) (hn := ?_)) | (show RunOps _ _ _ _ (⟨_, .call 84, _, _, _⟩ :: _) _ _; refine run_callX (hf := pure84 x) (hn := ?_)) | (show RunOps _ _ _ _ (⟨_, .call 83, _, _, _⟩ :: _) _ _; refine run_callX (hf := pure83 [_, _]) (hn := ?_)) | (show RunOps _ _ _ _ (⟨_, .call 86, _, _, _⟩ :: _) _ _; refine run_callX (hf := pure86 l x.name) (hn := ?_)) | (first | refine Stp.h ?_ | (show ∀ K : St → List Ft → Prop, _; intro K hK) | (show runS _ _ _ _ _; first | refine qY (hq := ?_) | refine qZ (hq := ?_)) | (refine hK _ _ ?_; clear hK K) | (refine hK _ _ rfl ?_; clear hK K) | (refine qZ (hq := ?_); try exact trivial) | omega)
      have hE : putE l x = 0 := by rw [putE, if_pos h0, if_pos h1]
      rw [putR, if_pos hE, hE, putL, if_pos h1, List.map_set]; exact .refl _
    · have h1' := eq_false h1
      by_cases h2 : (l.length : Int) = 32
      · have h2' := eq_true h2
        have qe := And.intro qR (And.intro @hA (And.intro @h0' (And.intro @h1' (And.intro @h2' (And.intro @hc1 (And.intro @List.length_replicate.{0} (And.intro @List.drop_replicate.{0} (And.intro @Nat.sub_self @List.replicate_zero.{0})))))))); repeat' first | (show Run _ (.cond _ _ _) _ _; refine run_condX (fun hc => ?_) (fun hc => ?_) <;> (try simp only [qH, rng_0] at hc) <;> try contradiction) | (show RunOps _ _ _ _ (⟨_, .call 22, _, _, _⟩ :: _) _ _; refine run_callX (hf := pure22 l) (hn := ?_)) | (show RunOps _ _ _ _ (⟨_, .call 84, _, _, _⟩ :: _) _ _; refine run_callX (hf := pure84 x) (hn := ?_)) | (show RunOps _ _ _ _ (⟨_, .call 83, _, _, _⟩ :: _) _ _; refine run_callX (hf := pure83 [_, _]) (hn := ?_)) | (show RunOps _ _ _ _ (⟨_, .call 86, _, _, _⟩ :: _) _ _; refine run_callX (hf := pure86 l x.name) (hn := ?_)) | (first | refine Stp.h ?_ | (show ∀ K : St → List Ft → Prop, _; intro K hK) | (show runS _ _ _ _ _; first | refine qY (hq := ?_) | refine qZ (hq := ?_)) | (refine hK _ _ ?_; clear hK K) | (refine hK _ _ rfl ?_; clear hK K) | (refine qZ (hq := ?_); try exact trivial) | omega)
        have hE : putE l x = 5 := by rw [putE, if_pos h0, if_neg h1, if_pos h2]
        rw [putR, hE, if_neg (by decide)]; exact weak2 (.nilsl _) (.refl _)
      · have h2' := eq_false h2
        have qe := And.intro qR (And.intro @hA (And.intro @h0' (And.intro @h1' (And.intro @h2' (And.intro @hc1 (And.intro @List.length_replicate.{0} (And.intro @List.drop_replicate.{0} (And.intro @Nat.sub_self @List.replicate_zero.{0})))))))); repeat' first | (show Run _ (.cond _ _ _) _ _; refine run_condX (fun hc => ?_) (fun hc => ?_) <;> (try simp only [qH, rng_0] at hc) <;> try contradiction) | (show RunOps _ _ _ _ (⟨_, .call 22, _, _, _⟩ :: _) _ _; refine run_callX (hf := pure22 l) (hn := ?_)) | (show RunOps _ _ _ _ (⟨_, .call 84, _, _, _⟩ :: _) _ _; refine run_callX (hf := pure84 x) (hn := ?_)) | (show RunOps _ _ _ _ (⟨_, .call 83, _, _, _⟩ :: _) _ _; refine run_callX (hf := pure83 [_, _]) (hn := ?_)) | (show RunOps _ _ _ _ (⟨_, .call 86, _, _, _⟩ :: _) _ _; refine run_callX (hf := pure86 l x.name) (hn := ?_)) | (first | refine Stp.h ?_ | (show ∀ K : St → List Ft → Prop, _; intro K hK) | (show runS _ _ _ _ _; first | refine qY (hq := ?_) | refine qZ (hq := ?_)) | (refine hK _ _ ?_; clear hK K) | (refine hK _ _ rfl ?_; clear hK K) | (refine qZ (hq := ?_); try exact trivial) | omega)
        have hE : putE l x = 0 := by rw [putE, if_pos h0, if_neg h1, if_neg h2]
        rw [putR, if_pos hE, hE, putL, if_neg h1, List.map_append]; exact .refl _
  · have h0' := eq_false h0
    have qe := And.intro qR @h0'; repeat' first | (show Run _ (.cond _ _ _) _ _; refine run_condX (fun hc => ?_) (fun hc => ?_) <;> (try simp only [qH, rng_0] at hc) <;> try contradiction) | (show RunOps _ _ _ _ (⟨_, .call 22, _, _, _⟩ :: _) _ _; refine run_callX (hf := pure22 l) (hn := ?_)) | (show RunOps _ _ _ _ (⟨_, .call 84, _, _, _⟩ :: _) _ _; refine run_callX (hf := pure84 x) (hn := ?_)) | (show RunOps _ _ _ _ (⟨_, .call 83, _, _, _⟩ :: _) _ _; refine run_callX (hf := pure83 [_, _]) (hn := ?_)) | (show RunOps _ _ _ _ (⟨_, .call 86, _, _, _⟩ :: _) _ _; refine run_callX (hf := pure86 l x.name) (hn := ?_)) | (first | refine Stp.h ?_ | (show ∀ K : St → List Ft → Prop, _; intro K hK) | (show runS _ _ _ _ _; first | refine qY (hq := ?_) | refine qZ (hq := ?_)) | (refine hK _ _ ?_; clear hK K) | (refine hK _ _ rfl ?_; clear hK K) | (refine qZ (hq := ?_); try exact trivial) | omega)
    have hE : putE l x = firstE [chkLims l, chkLim x] := by rw [putE, if_neg h0]
    rw [putR, hE, if_neg h0]; exact weak2 (.nilsl _) (.refl _)
end Go.Proofs.YtcfbdeghmckelaaGreat
