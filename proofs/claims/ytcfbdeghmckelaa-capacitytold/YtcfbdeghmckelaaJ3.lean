/- Contracts of functions that the proof uses, shared by the claims of this seat; no statement of its own. Part 4. No conditions. -/
import Derived.Test.YtcfbdeghmckelaaJ2
set_option linter.all false
namespace Go.Proofs.Ytcfbdeghmckelaa
open Go.RowKit
set_option maxRecDepth 100000
set_option linter.unusedVariables false
set_option linter.unusedSimpArgs false
set_option maxHeartbeats 2000000
theorem beginsL_mem {l : Lim} (h : chkLim l = 0) {d b : Int} (hb : b ∈ beginsL l d) : 1440 * d ≤ b ∧ b ≤ 1440 * d + 1439 ∧ l.per.fro ≤ d ∧ d ≤ l.per.to := by
  have hl := chkLim_0 h
  unfold beginsL begK at hb
  split at hb
  · rename_i ho
    simp only [begOk, Bool.not_eq_true', Bool.or_eq_false_iff, decide_eq_false_iff_not] at ho
    obtain ⟨n, hn, rfl⟩ := List.mem_map.1 hb
    have := beg_bound h (List.mem_range.1 hn)
    unfold begV
    omega
  · cases hb
def cntAll (l : Lim) (m : List Mov) (b : Int) : Int := cntW (ofL l m) b l.len
theorem pureCnt {l : Lim} {m : List Mov} (h1 : chkLim l = 0) (h2 : chkMovs m = 0) (b : Int) (hb0 : -1000000 ≤ b) (hb1 : b ≤ 1000000000) : Pure Try.prog 34 [.sl 1 ((ofL l m).map (.i .i64)), .i .i64 b, .i .i64 l.len] (.i .i64 (cntAll l m b)) := by
  have hl := chkLim_0 h1
  have hm := chkMovs_0 h2
  have := ofL_len (l := l) (m := m)
  exact pure93 _ _ _ (ofL_sorted h2) (by omega) hb0 hb1 (by omega) (by omega)
def ac28 : AC := .seq (.ops false [⟨some 3,.box,[.t 0],none,[]⟩,⟨some 6,.mv,[.c .nilsl],none,[]⟩,⟨some 7,.mv,[.c (.i .i64 0)],none,[1]⟩]) (.seq (.seq (.ops false [⟨some 12,.load 11 true,[.t 3],none,[]⟩,⟨some 13,.call 29,[.t 12],none,[0]⟩,⟨some 14,.mv,[.t 1],none,[]⟩,⟨some 15,.call 30,[.t 14],none,[2,1]⟩,⟨some 16,.mv,[.t 2],none,[]⟩,⟨some 17,.call 31,[.t 16,.c (.i .i64 0),.c (.i .i64 99999)],none,[4,3]⟩,⟨some 18,.bslice 29 1 (.i .i64 0) 3 [0,1,2],[.t 13,.t 15,.t 17],none,[1,3,5]⟩,⟨some 19,.call 28,[.t 18],none,[6,5]⟩,⟨some 8,.mv,[.t 19],none,[7,7,0,1,2,3,4,5,6,7]⟩]) (.seq (.ops false [⟨some 20,.mv,[.t 8],none,[]⟩,⟨some 21,.bin .neq,[.t 20,.c (.i .i64 0)],none,[0]⟩]) (.cond (.t 21) (.seq (.ops false [⟨some 22,.mv,[.t 8],none,[]⟩,⟨some 6,.mv,[.c .nilsl],none,[]⟩,⟨some 7,.mv,[.t 22],none,[0,1,0,1]⟩]) .ret) .skip))) (.seq (.seq (.ops false [⟨some 23,.load 11 true,[.t 3],none,[]⟩,⟨some 24,.mv,[.t 2],none,[]⟩,⟨some 25,.call 44,[.t 23,.t 24],none,[0,1]⟩,⟨some 26,.not,[.t 25],none,[2]⟩]) (.cond (.t 26) (.seq (.ops false [⟨some 6,.mv,[.c .nilsl],none,[]⟩,⟨some 7,.mv,[.c (.i .i64 30)],none,[0,0]⟩]) .ret) .skip)) (.seq (.ops false [⟨some 27,.load 11 true,[.t 3],none,[]⟩,⟨some 28,.mv,[.t 1],none,[]⟩,⟨some 29,.call 33,[.t 27,.t 28],none,[0,1]⟩,⟨some 9,.alloc [.nilsl],[],none,[]⟩,⟨none,.store 1,[.t 9,.t 29],none,[3,2,2,0,1,2,3]⟩]) (.seq (.ops false [⟨some 10,.alloc [.nilsl],[],none,[]⟩]) (.seq (.seq (.ops false [⟨some 30,.load 11 true,[.t 3],none,[]⟩,⟨some 31,.mv,[.t 2],none,[]⟩,⟨some 32,.call 32,[.t 30,.t 31],none,[0,1]⟩]) (.block 0 (.rfunc (.t 32) [33] (.ops false [⟨some 11,.mv,[.t 33],none,[]⟩]) (.block 1 (.ops true [⟨some 34,.load 1 false,[.t 10],none,[]⟩,⟨some 35,.load 1 false,[.t 9],none,[]⟩,⟨some 36,.mv,[.t 11],none,[]⟩,⟨some 37,.fadr 3,[.t 3],none,[]⟩,⟨some 38,.load 1 false,[.t 37],none,[3]⟩,⟨some 39,.call 34,[.t 35,.t 36,.t 38],none,[1,2,4]⟩,⟨some 40,.bslice 3 1 (.i .i64 0) 1 [0],[.t 39],none,[5]⟩,⟨some 41,.app 3 1 8,[.t 34,.t 40],none,[0,6,5]⟩,⟨none,.store 1,[.t 10,.t 41],none,[7,7,0,1,2,3,4,5,6,7]⟩]))))) (.seq (.ops false [⟨some 42,.load 1 false,[.t 10],none,[]⟩,⟨some 6,.mv,[.t 42],none,[0,0]⟩,⟨some 7,.mv,[.c (.i .i64 0)],none,[1,0,1]⟩]) .ret))))))
def rs28 : List RV := [.tmp 6,.tmp 7]
theorem fact28 : compF Try.prog 18 = some (ac28,rs28,43) := by kernel_rfl
def ac29 : AC := .seq (.ops false [⟨some 3,.box,[.t 0],none,[]⟩,⟨some 4,.box,[.t 1],none,[]⟩,⟨some 5,.box,[.t 2],none,[]⟩,⟨some 6,.alloc [(.i .i64 0)],[],none,[]⟩,⟨some 7,.alloc [(.i .i64 0)],[],none,[]⟩]) (.seq (.seq (.ops true [⟨some 10,.load 11 true,[.t 3],none,[]⟩,⟨some 11,.call 29,[.t 10],none,[0]⟩,⟨some 12,.load 1 false,[.t 4],none,[]⟩,⟨some 13,.call 30,[.t 12],none,[2,1]⟩,⟨some 14,.load 1 false,[.t 5],none,[]⟩,⟨some 15,.call 31,[.t 14,.c (.i .i64 0),.c (.i .i64 143999999)],none,[4,3]⟩,⟨some 16,.bslice 29 1 (.i .i64 0) 3 [0,1,2],[.t 11,.t 13,.t 15],none,[1,3,5]⟩,⟨some 17,.call 28,[.t 16],none,[6,5]⟩,⟨some 8,.mv,[.t 17],none,[7,7,0,1,2,3,4,5,6,7]⟩]) (.seq (.ops false [⟨some 18,.mv,[.t 8],none,[]⟩,⟨some 19,.bin .neq,[.t 18,.c (.i .i64 0)],none,[0]⟩]) (.cond (.t 19) (.seq (.ops false [⟨some 20,.mv,[.t 8],none,[]⟩,⟨none,.store 1,[.t 6,.c (.i .i64 0)],none,[]⟩,⟨none,.store 1,[.t 7,.t 20],none,[0,1,0,1]⟩]) .ret) .skip))) (.seq (.seq (.ops false [⟨some 21,.load 11 true,[.t 3],none,[]⟩,⟨some 22,.load 1 false,[.t 5],none,[]⟩,⟨some 23,.bin .quo,[.t 22,.c (.i .i64 1440)],none,[1]⟩,⟨some 24,.call 32,[.t 21,.t 23],none,[0,2]⟩]) (.block 0 (.rfunc (.t 24) [25] (.ops false [⟨some 9,.mv,[.t 25],none,[]⟩]) (.block 1 (.seq (.ops false [⟨some 26,.mv,[.t 9],none,[]⟩,⟨some 27,.load 1 false,[.t 5],none,[]⟩,⟨some 28,.bin .eql,[.t 26,.t 27],none,[0,1]⟩]) (.cond (.t 28) (.seq (.ops true [⟨some 29,.load 11 true,[.t 3],none,[]⟩,⟨some 30,.load 1 false,[.t 4],none,[]⟩,⟨some 31,.call 33,[.t 29,.t 30],none,[0,1]⟩,⟨some 32,.load 1 false,[.t 5],none,[]⟩,⟨some 33,.fadr 3,[.t 3],none,[]⟩,⟨some 34,.load 1 false,[.t 33],none,[4]⟩,⟨some 35,.call 34,[.t 31,.t 32,.t 34],none,[2,3,5,2]⟩,⟨none,.store 1,[.t 6,.t 35],none,[6,6,0,1,2,3,4,5,6]⟩,⟨none,.store 1,[.t 7,.c (.i .i64 0)],none,[7,0,1,2,3,4,5,6,7]⟩]) .ret) .skip)))))) (.seq (.ops false [⟨none,.store 1,[.t 6,.c (.i .i64 0)],none,[]⟩,⟨none,.store 1,[.t 7,.c (.i .i64 7)],none,[0,0]⟩]) .ret)))
def rs29 : List RV := [.cell 6 1 false,.cell 7 1 false]
theorem fact29 : compF Try.prog 9 = some (ac29,rs29,36) := by kernel_rfl
def ac30 : AC := .seq (.ops false [⟨some 2,.box,[.t 0],none,[]⟩,⟨some 4,.alloc [(.i .i64 0),(.i .i64 0),(.i .i64 0)],[],none,[]⟩,⟨some 5,.mv,[.c (.i .i64 0)],none,[]⟩]) (.seq (.seq (.ops false [⟨some 12,.load 11 true,[.t 2],none,[]⟩,⟨some 13,.call 29,[.t 12],none,[0]⟩,⟨some 14,.mv,[.t 1],none,[]⟩,⟨some 15,.call 30,[.t 14],none,[2,1]⟩,⟨some 16,.bslice 29 1 (.i .i64 0) 2 [0,1],[.t 13,.t 15],none,[1,3]⟩,⟨some 17,.call 28,[.t 16],none,[4,3]⟩,⟨some 6,.mv,[.t 17],none,[5,5,0,1,2,3,4,5]⟩]) (.seq (.ops false [⟨some 18,.mv,[.t 6],none,[]⟩,⟨some 19,.bin .neq,[.t 18,.c (.i .i64 0)],none,[0]⟩]) (.cond (.t 19) (.seq (.ops false [⟨some 20,.build [(.i .i64 0),(.i .i64 0),(.i .i64 0)] [],[],none,[]⟩,⟨some 21,.mv,[.t 6],none,[]⟩,⟨none,.store 3,[.t 4,.t 20],none,[0,0]⟩,⟨some 5,.mv,[.t 21],none,[1,2,0,1,2]⟩]) .ret) .skip))) (.seq (.ops false [⟨some 22,.load 11 true,[.t 2],none,[]⟩,⟨some 23,.mv,[.t 1],none,[]⟩,⟨some 24,.call 33,[.t 22,.t 23],none,[0,1]⟩,⟨some 7,.alloc [.nilsl],[],none,[]⟩,⟨none,.store 1,[.t 7,.t 24],none,[3,2,2,0,1,2,3]⟩]) (.seq (.ops false [⟨some 25,.build [(.i .i64 0),(.i .i64 0),(.i .i64 0)] [],[],none,[]⟩,⟨some 8,.alloc [(.i .i64 0),(.i .i64 0),(.i .i64 0)],[],none,[]⟩,⟨some 9,.alloc [(.b false)],[],none,[]⟩,⟨none,.store 3,[.t 8,.t 25],none,[1,0,0,1,2]⟩,⟨none,.store 1,[.t 9,.c (.b false)],none,[2,3,0,1,2,3]⟩]) (.seq (.seq (.ops false [⟨some 26,.load 11 true,[.t 2],none,[]⟩,⟨some 27,.call 35,[.t 26],none,[0]⟩]) (.block 0 (.rfunc (.t 27) [28] (.ops false [⟨some 10,.mv,[.t 28],none,[]⟩]) (.block 1 (.seq (.ops false [⟨some 29,.load 1 false,[.t 7],none,[]⟩,⟨some 30,.mv,[.t 10],none,[]⟩,⟨some 31,.fadr 3,[.t 2],none,[]⟩,⟨some 32,.load 1 false,[.t 31],none,[2]⟩,⟨some 33,.call 34,[.t 29,.t 30,.t 32],none,[0,1,3]⟩,⟨some 11,.mv,[.t 33],none,[4,4,0,1,2,3,4]⟩]) (.seq (.ops false [⟨some 34,.load 1 false,[.t 9],none,[]⟩,⟨some 35,.not,[.t 34],none,[0]⟩,⟨some 36,.mv,[.t 35],none,[1]⟩,⟨some 37,.mv,[.t 11],some (36,false),[2]⟩,⟨some 38,.fadr 2,[.t 8],some (36,false),[2]⟩,⟨some 39,.load 1 false,[.t 38],some (36,false),[4,2]⟩,⟨some 40,.bin .gtr,[.t 37,.t 39],some (36,false),[3,5,2]⟩,⟨some 41,.pick,[.t 36,.c (.b true),.t 40],none,[2,6]⟩]) (.cond (.t 41) (.ops false [⟨some 42,.mv,[.t 10],none,[]⟩,⟨some 43,.mv,[.t 11],none,[]⟩,⟨some 44,.build [(.i .i64 0),(.i .i64 0),(.i .i64 0)] [(0,1),(1,1),(2,1)],[.c (.i .i64 0),.t 42,.t 43],none,[0,1]⟩,⟨none,.store 3,[.t 8,.t 44],none,[2,0,1,2]⟩,⟨none,.store 1,[.t 9,.c (.b true)],none,[3,0,1,2,3]⟩]) .skip))))))) (.seq (.ops true [⟨some 45,.load 3 true,[.t 8],none,[]⟩,⟨some 46,.load 1 false,[.t 9],none,[]⟩,⟨some 47,.not,[.t 46],none,[1]⟩,⟨some 48,.call 36,[.t 47,.c (.i .i64 7)],none,[2]⟩,⟨none,.store 3,[.t 4,.t 45],none,[0,3,0]⟩,⟨some 5,.mv,[.t 48],none,[3,4,0,1,2,3,4]⟩]) .ret)))))
def rs30 : List RV := [.cell 4 3 true,.tmp 5]
theorem fact30 : compF Try.prog 10 = some (ac30,rs30,49) := by kernel_rfl
abbrev tabC (l : Lim) (m : List Mov) (d : Int) : Int := firstE [chkLim l, chkMovs m, rng d 0 99999]
def tabE (l : Lim) (m : List Mov) (d : Int) : Int := if tabC l m d = 0 then (if hasB l.per d = true then 0 else 30) else tabC l m d
def tabR (l : Lim) (m : List Mov) (d : Int) : List Int := if tabE l m d = 0 then (beginsL l d).map (cntAll l m) else []
theorem pure28 (l : Lim) (m : List Mov) (d : Int) : Pure Try.prog 18 [l.pv, .sl 7 (m.map Mov.pv), .i .i64 d] (.tup [.sl 1 ((tabR l m d).map (.i .i64)), .i .i64 (tabE l m d)]) := by
  refine pure_by fact28 (by simp) fun hw X hX => ?_
  unfold ac28 rs28
  have qe := @qR; repeat' first | (show Run _ (.cond _ _ _) _ _; refine run_condX (fun hc => ?_) (fun hc => ?_) <;> (try simp only [qH, rng_0] at hc) <;> try contradiction) | (show RunOps _ _ _ _ (⟨_, .call 29, _, _, _⟩ :: _) _ _; refine run_callX (hf := pure84 l) (hn := ?_)) | (show RunOps _ _ _ _ (⟨_, .call 30, _, _, _⟩ :: _) _ _; refine run_callX (hf := pure24 m) (hn := ?_)) | (show RunOps _ _ _ _ (⟨_, .call 31, _, _, _⟩ :: _) _ _; refine run_callX (hf := pure88 _ _ _) (hn := ?_)) | (show RunOps _ _ _ _ (⟨_, .call 28, _, _, _⟩ :: _) _ _; refine run_callX (hf := pure83 [_, _, _]) (hn := ?_)) | (first | refine Stp.h ?_ | (show ∀ K : St → List Ft → Prop, _; intro K hK) | (show runS _ _ _ _ _; first | refine qY (hq := ?_) | refine qZ (hq := ?_)) | (refine hK _ _ ?_; clear hK K) | (refine hK _ _ rfl ?_; clear hK K) | (refine qZ (hq := ?_); try exact trivial) | omega)
  · have he : tabE l m d = tabC l m d := by rw [tabE, if_neg hc]
    rw [tabR, he, if_neg hc]; exact weak2 (.nilsl _) (.refl _)
  · have h0 := hc
    have h1 := hc
    simp only [firstE_cons, rng_0] at h1
    have hl := chkLim_0 h1.1
    have hm := chkMovs_0 h1.2.1
    have qe := @qR; repeat' first | (show Run _ (.cond _ _ _) _ _; refine run_condX (fun hc => ?_) (fun hc => ?_) <;> (try simp only [qH, rng_0] at hc) <;> try contradiction) | (show RunOps _ _ _ _ (⟨_, .call 44, _, _, _⟩ :: _) _ _; refine run_callX (hf := pure89 l d) (hn := ?_)) | (show RunOps _ _ _ _ (⟨_, .call 32, _, _, _⟩ :: _) _ _; refine run_callX (hf := pure91 l d) (hn := ?_)) | (show RunOps _ _ _ _ (⟨_, .call 33, _, _, _⟩ :: _) _ _; refine run_callX (hf := pure92 l m h1.1 (by omega)) (hn := ?_)) | (first | refine Stp.h ?_ | (show ∀ K : St → List Ft → Prop, _; intro K hK) | (show runS _ _ _ _ _; first | refine qY (hq := ?_) | refine qZ (hq := ?_)) | (refine hK _ _ ?_; clear hK K) | (refine hK _ _ rfl ?_; clear hK K) | (refine qZ (hq := ?_); try exact trivial) | omega)
    · have he : tabE l m d = 30 := by rw [tabE, if_pos h0, if_neg (by rw [hc]; decide)]
      rw [tabR, he, if_neg (by decide)]; exact weak2 (.nilsl _) (.refl _)
    · have he : tabE l m d = 0 := by rw [tabE, if_pos h0, if_pos hc]
      rw [tabR, he, if_pos rfl]
      have hbl := beginsL_len h1.1 d
      refine run_own 100 3 1 [(3, .lp 3 0), (9, .lp 9 0), (10, .lp 10 0), (32, .p (.fn (.func 63) [] [.ip (.i .i64 d) 0, .ip l.pv 0]))] [(3, .box (l.cells.map .p) false), (9, .box [.p (.sl 1 ((ofL l m).map (.i .i64)))] false), (10, .box [.row 100 0] false)] ?_ ?_
      · simp only [Own, ownEnv, ownObj, nilTo, nilTos, qS, Nat.reduceAdd, Nat.reduceMul, Nat.reduceEqDiff, Nat.reduceLeDiff, reduceIte, reduceCtorEq, Nat.reduceBEq, Nat.reduceLT]
      refine run_rfunc rfl (iter134 l d h1.1) ?_ ?_ [(3, .lp 3 0), (9, .lp 9 0), (10, .lp 10 0), (32, .p (.fn (.func 63) [] [.ip (.i .i64 d) 0, .ip l.pv 0]))] (fun k => [(3, .box (l.cells.map .p) false), (9, .box [.p (.sl 1 ((ofL l m).map (.i .i64)))] false), (10, .box [.row 100 k] false), (100, .row 3 1 ((((beginsL l d).take k).map (cntAll l m)).map (.i .i64)) false)]) (fun _ => []) ?_ ?_ ?_
      · simp
      · simp [hX]
      · simp only [qS, Nat.reduceAdd, Nat.reduceMul, Nat.reduceEqDiff, Nat.reduceLeDiff, reduceIte, reduceCtorEq, Nat.reduceBEq, Nat.reduceLT]
      · intro k t ht X' ro' hX'
        simp only [List.getElem?_map, Option.map_eq_some_iff] at ht
        obtain ⟨b, hb, rfl⟩ := ht
        have hl := take_len hb
        have hk := (List.getElem?_eq_some_iff.1 hb).1
        have hbm := beginsL_mem h1.1 (List.mem_of_getElem? hb)
        simp only [qS, Nat.reduceAdd, Nat.reduceMul, Nat.reduceEqDiff, Nat.reduceLeDiff, reduceIte, reduceCtorEq, Nat.reduceBEq, Nat.reduceLT]
        repeat' first | (show Run _ (.cond _ _ _) _ _; refine run_condX (fun hc => ?_) (fun hc => ?_) <;> (try simp only [qH, rng_0] at hc) <;> try contradiction) | (first | refine Stp.h ?_ | (show ∀ K : St → List Ft → Prop, _; intro K hK) | (show runS _ _ _ _ _; first | refine qY (hq := ?_) | refine qZ (hq := ?_)) | (refine hK _ _ ?_; clear hK K) | (refine hK _ _ rfl ?_; clear hK K) | (refine qZ (hq := ?_); try exact trivial) | omega)
        intro X1 hX1
        have qe := And.intro qR (And.intro @hl (And.intro (take_snoc (cntAll l m) hb) (@List.map_append.{0, 0}))); repeat' first | (show Run _ (.cond _ _ _) _ _; refine run_condX (fun hc => ?_) (fun hc => ?_) <;> (try simp only [qH, rng_0] at hc) <;> try contradiction) | (show RunOps _ _ _ _ (⟨_, .call _, _, _, _⟩ :: _) _ _; refine run_callX (hf := pureCnt h1.1 h1.2.1 b (by omega) (by omega)) (hn := ?_)) | (first | refine Stp.h ?_ | (show ∀ K : St → List Ft → Prop, _; intro K hK) | (show runS _ _ _ _ _; first | refine qY (hq := ?_) | refine qZ (hq := ?_)) | (refine hK _ _ ?_; clear hK K) | (refine hK _ _ rfl ?_; clear hK K) | (refine qZ (hq := ?_); try exact trivial) | omega)
      · simp only [List.length_map]
        have qe := @List.take_length.{0}; repeat' first | (show Run _ (.cond _ _ _) _ _; refine run_condX (fun hc => ?_) (fun hc => ?_) <;> (try simp only [qH, rng_0] at hc) <;> try contradiction) | (first | refine Stp.h ?_ | (show ∀ K : St → List Ft → Prop, _; intro K hK) | (show runS _ _ _ _ _; first | refine qY (hq := ?_) | refine qZ (hq := ?_)) | (refine hK _ _ ?_; clear hK K) | (refine hK _ _ rfl ?_; clear hK K) | (refine qZ (hq := ?_); try exact trivial) | omega)
        exact .refl _
end Go.Proofs.Ytcfbdeghmckelaa
namespace Go.Proofs.Ytcfbdeghmckelaa
open Go.RowKit
set_option maxRecDepth 100000
set_option linter.unusedVariables false
set_option linter.unusedSimpArgs false
set_option maxHeartbeats 2000000
abbrev cntC (l : Lim) (m : List Mov) (b : Int) : Int := firstE [chkLim l, chkMovs m, rng b 0 143999999]
def cntE (l : Lim) (m : List Mov) (b : Int) : Int := if cntC l m b = 0 then (if b ∈ beginsL l (b / 1440) then 0 else 7) else cntC l m b
def cntR (l : Lim) (m : List Mov) (b : Int) : Int := if cntE l m b = 0 then cntAll l m b else 0
theorem pure29 (l : Lim) (m : List Mov) (b : Int) : Pure Try.prog 9 [l.pv, .sl 7 (m.map Mov.pv), .i .i64 b] (.tup [.i .i64 (cntR l m b), .i .i64 (cntE l m b)]) := by
  refine pure_by fact29 (by simp) fun hw X hX => ?_
  unfold ac29 rs29
  have qe := @qR; repeat' first | (show Run _ (.cond _ _ _) _ _; refine run_condX (fun hc => ?_) (fun hc => ?_) <;> (try simp only [qH, rng_0] at hc) <;> try contradiction) | (show RunOps _ _ _ _ (⟨_, .call 29, _, _, _⟩ :: _) _ _; refine run_callX (hf := pure84 l) (hn := ?_)) | (show RunOps _ _ _ _ (⟨_, .call 30, _, _, _⟩ :: _) _ _; refine run_callX (hf := pure24 m) (hn := ?_)) | (show RunOps _ _ _ _ (⟨_, .call 31, _, _, _⟩ :: _) _ _; refine run_callX (hf := pure88 _ _ _) (hn := ?_)) | (show RunOps _ _ _ _ (⟨_, .call 28, _, _, _⟩ :: _) _ _; refine run_callX (hf := pure83 [_, _, _]) (hn := ?_)) | (first | refine Stp.h ?_ | (show ∀ K : St → List Ft → Prop, _; intro K hK) | (show runS _ _ _ _ _; first | refine qY (hq := ?_) | refine qZ (hq := ?_)) | (refine hK _ _ ?_; clear hK K) | (refine hK _ _ rfl ?_; clear hK K) | (refine qZ (hq := ?_); try exact trivial) | omega)
  · have he : cntE l m b = cntC l m b := by rw [cntE, if_neg hc]
    rw [cntR, he, if_neg hc]; exact .refl _
  · have h0 := hc
    have h1 := hc
    simp only [firstE_cons, rng_0] at h1
    have hl := chkLim_0 h1.1
    have hm := chkMovs_0 h1.2.1
    have hq : b.tdiv 1440 = b / 1440 := Int.tdiv_eq_ediv_of_nonneg (by omega)
    have qe := And.intro qR @hq; repeat' first | (show Run _ (.cond _ _ _) _ _; refine run_condX (fun hc => ?_) (fun hc => ?_) <;> (try simp only [qH, rng_0] at hc) <;> try contradiction) | (show RunOps _ _ _ _ (⟨_, .call 32, _, _, _⟩ :: _) _ _; refine run_callX (hf := pure91 l _) (hn := ?_)) | (first | refine Stp.h ?_ | (show ∀ K : St → List Ft → Prop, _; intro K hK) | (show runS _ _ _ _ _; first | refine qY (hq := ?_) | refine qZ (hq := ?_)) | (refine hK _ _ ?_; clear hK K) | (refine hK _ _ rfl ?_; clear hK K) | (refine qZ (hq := ?_); try exact trivial) | omega)
    refine run_rfuncI rfl (iter134 l (b / 1440) h1.1) ?_ ?_ [(3, .lp 3 0), (4, .lp 4 0), (5, .lp 5 0), (6, .lp 6 0), (7, .lp 7 0)] (fun k => [(3, .box (l.cells.map .p) false), (4, .box [.p (.sl 7 (m.map Mov.pv))] false), (5, .box [.p (.i .i64 b)] false), (6, .box [.p (.i .i64 0)] false), (7, .box [.p (.i .i64 0)] false)]) (fun _ => []) (fun k => b ∉ (beginsL l (b / 1440)).take k) ?_ ?_ ?_ ?_
    · simp
    · simp [hX]
    · simp only [qS, Nat.reduceAdd, Nat.reduceMul, Nat.reduceEqDiff, Nat.reduceLeDiff, reduceIte, reduceCtorEq, Nat.reduceBEq, Nat.reduceLT]
    · simp
    · intro k t ht hok X' ro' hX'
      simp only [List.getElem?_map, Option.map_eq_some_iff] at ht
      obtain ⟨y, hy, rfl⟩ := ht
      simp only [qS, Nat.reduceAdd, Nat.reduceMul, Nat.reduceEqDiff, Nat.reduceLeDiff, reduceIte, reduceCtorEq, Nat.reduceBEq, Nat.reduceLT]
      repeat' first | (show Run _ (.cond _ _ _) _ _; refine run_condX (fun hc => ?_) (fun hc => ?_) <;> (try simp only [qH, rng_0] at hc) <;> try contradiction) | (first | refine Stp.h ?_ | (show ∀ K : St → List Ft → Prop, _; intro K hK) | (show runS _ _ _ _ _; first | refine qY (hq := ?_) | refine qZ (hq := ?_)) | (refine hK _ _ ?_; clear hK K) | (refine hK _ _ rfl ?_; clear hK K) | (refine qZ (hq := ?_); try exact trivial) | omega)
      intro X1 hX1
      have qe := @qR; repeat' first | (show Run _ (.cond _ _ _) _ _; refine run_condX (fun hc => ?_) (fun hc => ?_) <;> (try simp only [qH, rng_0] at hc) <;> try contradiction) | (show RunOps _ _ _ _ (⟨_, .call 33, _, _, _⟩ :: _) _ _; refine run_callX (hf := pure92 l m h1.1 (by omega)) (hn := ?_)) | (show RunOps _ _ _ _ (⟨_, .call _, _, _, _⟩ :: _) _ _; refine run_callX (hf := pureCnt h1.1 h1.2.1 b (by omega) (by omega)) (hn := ?_)) | (first | refine Stp.h ?_ | (show ∀ K : St → List Ft → Prop, _; intro K hK) | (show runS _ _ _ _ _; first | refine qY (hq := ?_) | refine qZ (hq := ?_)) | (refine hK _ _ ?_; clear hK K) | (refine hK _ _ rfl ?_; clear hK K) | (refine qZ (hq := ?_); try exact trivial) | omega)
      · subst hc
        have he : cntE l m y = 0 := by rw [cntE, if_pos h0, if_pos (List.mem_of_getElem? hy)]
        rw [cntR, he, if_pos rfl]; exact .refl _
      · rw [List.take_add_one, hy]
        simp only [Option.toList_some, List.mem_append, List.mem_singleton, not_or]
        exact ⟨hok, fun e => hc e.symm⟩
    · intro hok
      simp only [List.length_map, List.take_length] at hok
      repeat' first | (show Run _ (.cond _ _ _) _ _; refine run_condX (fun hc => ?_) (fun hc => ?_) <;> (try simp only [qH, rng_0] at hc) <;> try contradiction) | (first | refine Stp.h ?_ | (show ∀ K : St → List Ft → Prop, _; intro K hK) | (show runS _ _ _ _ _; first | refine qY (hq := ?_) | refine qZ (hq := ?_)) | (refine hK _ _ ?_; clear hK K) | (refine hK _ _ rfl ?_; clear hK K) | (refine qZ (hq := ?_); try exact trivial) | omega)
      have he : cntE l m b = 7 := by rw [cntE, if_pos h0, if_neg hok]
      rw [cntR, he, if_neg (by decide)]; exact .refl _
end Go.Proofs.Ytcfbdeghmckelaa
namespace Go.Proofs.Ytcfbdeghmckelaa
open Go.RowKit
set_option maxRecDepth 100000
set_option linter.unusedVariables false
set_option linter.unusedSimpArgs false
set_option maxHeartbeats 2000000
def pkStep (l : Lim) (m : List Mov) (a : Bool × Int × Int) (b : Int) : Bool × Int × Int := if a.1 = false ∨ a.2.2 < cntAll l m b then (true, b, cntAll l m b) else a
def pkF (l : Lim) (m : List Mov) (L : List Int) : Bool × Int × Int := L.foldl (pkStep l m) (false, 0, 0)
theorem pkF_next {l : Lim} {m : List Mov} {L : List Int} {k : Nat} {b : Int} (h : L[k]? = some b) : pkF l m (L.take (k + 1)) = pkStep l m (pkF l m (L.take k)) b := by
  rw [pkF, List.take_add_one, h, List.foldl_append]; rfl
abbrev peakC (l : Lim) (m : List Mov) : Int := firstE [chkLim l, chkMovs m]
def peakE (l : Lim) (m : List Mov) : Int := if peakC l m = 0 then (if (pkF l m (windowsL l)).1 = false then 7 else 0) else peakC l m
def peakR (l : Lim) (m : List Mov) : Win := if peakC l m = 0 then ⟨0, (pkF l m (windowsL l)).2.1, (pkF l m (windowsL l)).2.2⟩ else ⟨0, 0, 0⟩
theorem windowsL_mem {l : Lim} (h : chkLim l = 0) {b : Int} (hb : b ∈ windowsL l) : 0 ≤ b ∧ b ≤ 143999999 := by
  have hp := chkPer_0 (chkLim_0 h).2.2.2.2.2.2.2.1
  obtain ⟨n, hn, hb⟩ := List.mem_flatMap.1 hb
  have := beginsL_mem h hb
  omega
theorem pure30 (l : Lim) (m : List Mov) : Pure Try.prog 10 [l.pv, .sl 7 (m.map Mov.pv)] (.tup [(peakR l m).pv, .i .i64 (peakE l m)]) := by
  refine pure_by fact30 (by simp) fun hw X hX => ?_
  unfold ac30 rs30
  have qe := @qR; repeat' first | (show Run _ (.cond _ _ _) _ _; refine run_condX (fun hc => ?_) (fun hc => ?_) <;> (try simp only [qH, rng_0] at hc) <;> try contradiction) | (show RunOps _ _ _ _ (⟨_, .call 29, _, _, _⟩ :: _) _ _; refine run_callX (hf := pure84 l) (hn := ?_)) | (show RunOps _ _ _ _ (⟨_, .call 30, _, _, _⟩ :: _) _ _; refine run_callX (hf := pure24 m) (hn := ?_)) | (show RunOps _ _ _ _ (⟨_, .call 28, _, _, _⟩ :: _) _ _; refine run_callX (hf := pure83 [_, _]) (hn := ?_)) | (first | refine Stp.h ?_ | (show ∀ K : St → List Ft → Prop, _; intro K hK) | (show runS _ _ _ _ _; first | refine qY (hq := ?_) | refine qZ (hq := ?_)) | (refine hK _ _ ?_; clear hK K) | (refine hK _ _ rfl ?_; clear hK K) | (refine qZ (hq := ?_); try exact trivial) | omega)
  · rw [peakE, if_neg hc, peakR, if_neg hc]; exact .refl _
  · have h0 := hc
    have h1 := hc
    simp only [firstE_cons] at h1
    have hl := chkLim_0 h1.1
    have hm := chkMovs_0 h1.2.1
    have qe := @qR; repeat' first | (show Run _ (.cond _ _ _) _ _; refine run_condX (fun hc => ?_) (fun hc => ?_) <;> (try simp only [qH, rng_0] at hc) <;> try contradiction) | (show RunOps _ _ _ _ (⟨_, .call 33, _, _, _⟩ :: _) _ _; refine run_callX (hf := pure92 l m h1.1 (by omega)) (hn := ?_)) | (show RunOps _ _ _ _ (⟨_, .call 35, _, _, _⟩ :: _) _ _; refine run_callX (hf := pure94 l) (hn := ?_)) | (first | refine Stp.h ?_ | (show ∀ K : St → List Ft → Prop, _; intro K hK) | (show runS _ _ _ _ _; first | refine qY (hq := ?_) | refine qZ (hq := ?_)) | (refine hK _ _ ?_; clear hK K) | (refine hK _ _ rfl ?_; clear hK K) | (refine qZ (hq := ?_); try exact trivial) | omega)
    refine run_rfunc rfl (iter137 l h1.1) ?_ ?_ [(2, .lp 2 0), (4, .lp 4 0), (7, .lp 7 0), (8, .lp 8 0), (9, .lp 9 0)] (fun k => [(2, .box (l.cells.map .p) false), (4, .box [.p (.i .i64 0), .p (.i .i64 0), .p (.i .i64 0)] false), (7, .box [.p (.sl 1 ((ofL l m).map (.i .i64)))] false), (8, .box [.p (.i .i64 0), .p (.i .i64 (pkF l m ((windowsL l).take k)).2.1), .p (.i .i64 (pkF l m ((windowsL l).take k)).2.2)] false), (9, .box [.p (.b (pkF l m ((windowsL l).take k)).1)] false)]) (fun _ => []) ?_ ?_ ?_
    · simp
    · simp [hX]
    · simp only [qS, Nat.reduceAdd, Nat.reduceMul, Nat.reduceEqDiff, Nat.reduceLeDiff, reduceIte, reduceCtorEq, Nat.reduceBEq, Nat.reduceLT] <;> exact ⟨rfl, rfl⟩
    · intro k t ht X' ro' hX'
      simp only [List.getElem?_map, Option.map_eq_some_iff] at ht
      obtain ⟨y, hy, rfl⟩ := ht
      have hym := windowsL_mem h1.1 (List.mem_of_getElem? hy)
      have hnx := pkF_next (l := l) (m := m) hy
      simp only [qS, Nat.reduceAdd, Nat.reduceMul, Nat.reduceEqDiff, Nat.reduceLeDiff, reduceIte, reduceCtorEq, Nat.reduceBEq, Nat.reduceLT]
      repeat' first | (show Run _ (.cond _ _ _) _ _; refine run_condX (fun hc => ?_) (fun hc => ?_) <;> (try simp only [qH, rng_0] at hc) <;> try contradiction) | (first | refine Stp.h ?_ | (show ∀ K : St → List Ft → Prop, _; intro K hK) | (show runS _ _ _ _ _; first | refine qY (hq := ?_) | refine qZ (hq := ?_)) | (refine hK _ _ ?_; clear hK K) | (refine hK _ _ rfl ?_; clear hK K) | (refine qZ (hq := ?_); try exact trivial) | omega)
      intro X1 hX1
      have qe := @qR; repeat' first | (show Run _ (.cond _ _ _) _ _; refine run_condX (fun hc => ?_) (fun hc => ?_) <;> (try simp only [qH, rng_0] at hc) <;> try contradiction) | (show RunOps _ _ _ _ (⟨_, .call _, _, _, _⟩ :: _) _ _; refine run_callX (hf := pureCnt h1.1 h1.2.1 y (by omega) (by omega)) (hn := ?_)) | (first | refine Stp.h ?_ | (show ∀ K : St → List Ft → Prop, _; intro K hK) | (show runS _ _ _ _ _; first | refine qY (hq := ?_) | refine qZ (hq := ?_)) | (refine hK _ _ ?_; clear hK K) | (refine hK _ _ rfl ?_; clear hK K) | (refine qZ (hq := ?_); try exact trivial) | omega)
      · rw [pkStep, if_pos hc] at hnx
        rw [hnx]; exact ⟨rfl, rfl⟩
      · rw [pkStep, if_neg (fun e => e.elim hc.1 fun e => by omega)] at hnx
        rw [hnx]; exact ⟨rfl, rfl⟩
    · simp only [List.length_map, List.take_length]
      have qe := @qR; repeat' first | (show Run _ (.cond _ _ _) _ _; refine run_condX (fun hc => ?_) (fun hc => ?_) <;> (try simp only [qH, rng_0] at hc) <;> try contradiction) | (show RunOps _ _ _ _ (⟨_, .call 36, _, _, _⟩ :: _) _ _; refine run_callX (hf := pure85 _ _) (hn := ?_)) | (first | refine Stp.h ?_ | (show ∀ K : St → List Ft → Prop, _; intro K hK) | (show runS _ _ _ _ _; first | refine qY (hq := ?_) | refine qZ (hq := ?_)) | (refine hK _ _ ?_; clear hK K) | (refine hK _ _ rfl ?_; clear hK K) | (refine qZ (hq := ?_); try exact trivial) | omega)
      rw [peakE, if_pos h0, peakR, if_pos h0]
      exact .refl _
end Go.Proofs.Ytcfbdeghmckelaa
namespace Go.Proofs.Ytcfbdeghmckelaa
open Go.RowKit
set_option maxRecDepth 100000
set_option linter.unusedVariables false
set_option linter.unusedSimpArgs false
set_option maxHeartbeats 2000000
abbrev tupW (w : Win) : List PV := [w.pv]
def excB (m : List Mov) (i : Nat) (l : Lim) (b : Int) : List Win := if l.most < cntAll l m b then [⟨i, b, cntAll l m b⟩] else []
def excL (m : List Mov) (i : Nat) (l : Lim) : List Win := (windowsL l).flatMap (excB m i l)
def excI (ls : List Lim) (m : List Mov) (i : Nat) : List Win := match ls[i]? with | some l => excL m i l | none => []
def excK (ls : List Lim) (m : List Mov) (k : Nat) : List Win := (List.range k).flatMap (excI ls m)
def excW (ls : List Lim) (m : List Mov) : List Win := excK ls m ls.length
theorem flat_take {α β : Type} {l : List α} {j : Nat} {x : α} (f : α → List β) (h : l[j]? = some x) : (l.take (j + 1)).flatMap f = (l.take j).flatMap f ++ f x := by
  rw [List.take_add_one, h]; simp
theorem flat_split {α β : Type} {l : List α} {j : Nat} {x : α} (f : α → List β) (h : l[j]? = some x) : l.flatMap f = (l.take j).flatMap f ++ (f x ++ (l.drop (j + 1)).flatMap f) := by
  conv => lhs; rw [take_split h]
  simp
def ac140 : AC := .seq (.ops false [⟨some 3,.box,[.t 0],none,[]⟩]) (.seq (.ops false [⟨some 9,.load 1 false,[.t 1],none,[]⟩,⟨some 10,.len false,[.t 9],none,[0]⟩,⟨some 11,.mv,[.c (.i .i64 0)],none,[]⟩]) (.block 0 (.loop (.seq (.ops false [⟨some 12,.bin .lss,[.t 11,.t 10],none,[]⟩]) (.seq (.cond (.t 12) .skip (.exit 0)) (.seq (.block 1 (.seq (.ops false [⟨some 13,.mv,[.t 11],none,[]⟩,⟨some 14,.iadrS 11,[.t 9,.t 11],none,[]⟩,⟨some 15,.load 11 true,[.t 14],none,[1]⟩,⟨some 4,.alloc [(.i .i64 0)],[],none,[]⟩,⟨some 5,.alloc [(.s (bs [])),(.s (bs [])),(.s (bs [])),(.i .i64 0),(.i .i64 0),(.i .i64 0),(.i .i64 0),(.i .i64 0),(.i .i64 0),(.i .i64 0),(.i .i64 0)],[],none,[]⟩,⟨none,.store 1,[.t 4,.t 13],none,[3,0,0,1,2,3,4]⟩,⟨none,.store 11,[.t 5,.t 15],none,[4,2,5,0,1,2,3,4,5]⟩]) (.seq (.ops false [⟨some 16,.load 11 true,[.t 5],none,[]⟩,⟨some 17,.load 1 false,[.t 2],none,[]⟩,⟨some 18,.call 33,[.t 16,.t 17],none,[0,1]⟩,⟨some 6,.alloc [.nilsl],[],none,[]⟩,⟨none,.store 1,[.t 6,.t 18],none,[3,2,2,0,1,2,3]⟩]) (.seq (.ops false [⟨some 19,.load 11 true,[.t 5],none,[]⟩,⟨some 20,.call 35,[.t 19],none,[0]⟩]) (.block 2 (.rfunc (.t 20) [21] (.ops false [⟨some 7,.mv,[.t 21],none,[]⟩]) (.block 3 (.seq (.ops false [⟨some 22,.load 1 false,[.t 6],none,[]⟩,⟨some 23,.mv,[.t 7],none,[]⟩,⟨some 24,.fadr 3,[.t 5],none,[]⟩,⟨some 25,.load 1 false,[.t 24],none,[2]⟩,⟨some 26,.call 34,[.t 22,.t 23,.t 25],none,[0,1,3]⟩,⟨some 8,.mv,[.t 26],none,[4,4,0,1,2,3,4]⟩]) (.seq (.ops false [⟨some 27,.mv,[.t 8],none,[]⟩,⟨some 28,.fadr 10,[.t 5],none,[]⟩,⟨some 29,.load 1 false,[.t 28],none,[1]⟩,⟨some 30,.bin .gtr,[.t 27,.t 29],none,[0,2]⟩,⟨some 31,.mv,[.t 30],none,[3]⟩,⟨some 32,.load 1 false,[.t 3],some (31,true),[4]⟩,⟨some 33,.load 1 false,[.t 4],some (31,true),[4]⟩,⟨some 34,.mv,[.t 7],some (31,true),[4]⟩,⟨some 35,.mv,[.t 8],some (31,true),[4]⟩,⟨some 36,.build [(.i .i64 0),(.i .i64 0),(.i .i64 0)] [(0,1),(1,1),(2,1)],[.t 33,.t 34,.t 35],some (31,true),[6,7,8,4]⟩,⟨some 37,.callv,[.t 32,.t 36],some (31,true),[5,9,4,4]⟩,⟨some 38,.not,[.t 37],some (31,true),[10,4]⟩,⟨some 39,.pick,[.t 31,.t 38,.c (.b false)],none,[4,11]⟩]) (.cond (.t 39) .ret .skip)))))))))) (.ops false [⟨some 40,.bin .add,[.t 11,.c (.i .i64 1)],none,[]⟩,⟨some 11,.mv,[.t 40],none,[0]⟩])))))))
def rs140 : List RV := []
theorem fact140 : compF Try.prog 58 = some (ac140,rs140,41) := by kernel_rfl
def ac108 : AC := .seq (.ops false [⟨some 2,.box,[.t 0],none,[]⟩,⟨some 3,.box,[.t 1],none,[]⟩,⟨some 4,.mv,[.c .nilf],none,[]⟩]) (.seq (.ops false [⟨some 5,.mkfn (.func 58) 0,[.t 2,.t 3],none,[]⟩,⟨some 4,.mv,[.t 5],none,[0,0]⟩]) .ret)
def rs108 : List RV := [.tmp 4]
theorem fact108 : compF Try.prog 27 = some (ac108,rs108,6) := by kernel_rfl
theorem pure108 (ls : List Lim) (m : List Mov) : Pure Try.prog 27 [.sl 11 (ls.map Lim.pv), .sl 7 (m.map Mov.pv)] (.fn (.func 58) [] [.ip (.sl 11 (ls.map Lim.pv)) 0, .ip (.sl 7 (m.map Mov.pv)) 0]) := by
  refine pure_by fact108 (by simp) fun hw X hX => ?_
  unfold ac108 rs108
  repeat' first | (show Run _ (.cond _ _ _) _ _; refine run_condX (fun hc => ?_) (fun hc => ?_) <;> (try simp only [qH, rng_0] at hc) <;> try contradiction) | (first | refine Stp.h ?_ | (show ∀ K : St → List Ft → Prop, _; intro K hK) | (show runS _ _ _ _ _; first | refine qY (hq := ?_) | refine qZ (hq := ?_)) | (refine hK _ _ ?_; clear hK K) | (refine hK _ _ rfl ?_; clear hK K) | (refine qZ (hq := ?_); try exact trivial) | omega)
  exact .refl _
theorem iter140 (ls : List Lim) (m : List Mov) (hn : ls.length ≤ 1000000) (h : ∀ l ∈ ls, chkLim l = 0) (hm : chkMovs m = 0) : Iter Try.prog 58 [.ip (.sl 11 (ls.map Lim.pv)) 0, .ip (.sl 7 (m.map Mov.pv)) 0] ((excW ls m).map tupW) := by
  refine iter_by fact140 (by simp) fun hw X hX => ?_
  unfold ac140
  simp only [wfs, PV.wf, List.length_map, maxLen] at hw
  have hmm := chkMovs_0 hm
  simp only [iterSt]
  repeat' first | (show Run _ (.cond _ _ _) _ _; refine run_condX (fun hc => ?_) (fun hc => ?_) <;> (try simp only [qH, rng_0] at hc) <;> try contradiction) | (first | refine Stp.h ?_ | (show ∀ K : St → List Ft → Prop, _; intro K hK) | (show runS _ _ _ _ _; first | refine qY (hq := ?_) | refine qZ (hq := ?_)) | (refine hK _ _ ?_; clear hK K) | (refine hK _ _ rfl ?_; clear hK K) | (refine qZ (hq := ?_); try exact trivial) | omega)
  refine run_loop (κ := Nat) (fun k => ⟨[(1, .p (.ip (.sl 11 (ls.map Lim.pv)) 0)), (2, .p (.ip (.sl 7 (m.map Mov.pv)) 0)), (3, .lp 3 0), (9, .p (.sl 11 (ls.map Lim.pv))), (10, .p (.i .i64 ls.length)), (11, .p (.i .i64 k))], [(3, .box [.yield] false)], (excK ls m k).map tupW, false⟩) (fun k => k ≤ ls.length) (fun k => ls.length - k) 0 ?_ ?_ ?_
  · simp only [qS, Nat.reduceAdd, Nat.reduceMul, Nat.reduceEqDiff, Nat.reduceLeDiff, reduceIte, reduceCtorEq, Nat.reduceBEq, Nat.reduceLT] <;> simp [excK]
  · simp
  · intro k hk
    repeat (first | refine Stp.h ?_ | (show ∀ K : St → List Ft → Prop, _; intro K hK) | (show runS _ _ _ _ _; first | refine qY (hq := ?_) | refine qZ (hq := ?_)) | (refine hK _ _ ?_; clear hK K) | (refine hK _ _ rfl ?_; clear hK K) | (refine qZ (hq := ?_); try exact trivial) | omega)
    (show Run _ (.cond _ _ _) _ _; refine run_condX (fun hc => ?_) (fun hc => ?_) <;> (try simp only [qH, rng_0] at hc) <;> try contradiction)
    · obtain ⟨l, hx⟩ := some_at (i := k) (l := ls) (by omega)
      have h1 := h l (List.mem_of_getElem? hx)
      have hi : excI ls m k = excL m k l := by rw [excI, hx]
      have hs := range_split (excI ls m) (show k < ls.length by omega)
      have qe := And.intro qR @hx; repeat' first | (show Run _ (.cond _ _ _) _ _; refine run_condX (fun hc => ?_) (fun hc => ?_) <;> (try simp only [qH, rng_0] at hc) <;> try contradiction) | (show RunOps _ _ _ _ (⟨_, .call 33, _, _, _⟩ :: _) _ _; refine run_callX (hf := pure92 l m h1 (by omega)) (hn := ?_)) | (show RunOps _ _ _ _ (⟨_, .call 35, _, _, _⟩ :: _) _ _; refine run_callX (hf := pure94 l) (hn := ?_)) | (first | refine Stp.h ?_ | (show ∀ K : St → List Ft → Prop, _; intro K hK) | (show runS _ _ _ _ _; first | refine qY (hq := ?_) | refine qZ (hq := ?_)) | (refine hK _ _ ?_; clear hK K) | (refine hK _ _ rfl ?_; clear hK K) | (refine qZ (hq := ?_); try exact trivial) | omega)
      refine run_rfunc rfl (iter137 l h1) ?_ ?_ [(1, .p (.ip (.sl 11 (ls.map Lim.pv)) 0)), (2, .p (.ip (.sl 7 (m.map Mov.pv)) 0)), (3, .lp 3 0), (4, .lp 4 0), (5, .lp 5 0), (6, .lp 6 0), (9, .p (.sl 11 (ls.map Lim.pv))), (10, .p (.i .i64 ls.length)), (11, .p (.i .i64 k))] (fun j => [(3, .box [.yield] false), (4, .box [.p (.i .i64 k)] false), (5, .box (l.cells.map .p) false), (6, .box [.p (.sl 1 ((ofL l m).map (.i .i64)))] false)]) (fun j => (excK ls m k).map tupW ++ (((windowsL l).take j).flatMap (excB m k l)).map tupW) ?_ ?_ ?_
      · simp
      · simp [hX]
      · simp only [qS, Nat.reduceAdd, Nat.reduceMul, Nat.reduceEqDiff, Nat.reduceLeDiff, reduceIte, reduceCtorEq, Nat.reduceBEq, Nat.reduceLT] <;> simp
      · intro j t ht X' ro' hX'
        simp only [List.getElem?_map, Option.map_eq_some_iff] at ht
        obtain ⟨b, hb, rfl⟩ := ht
        have hbm := windowsL_mem h1 (List.mem_of_getElem? hb)
        have hnx := flat_take (excB m k l) hb
        simp only [qS, Nat.reduceAdd, Nat.reduceMul, Nat.reduceEqDiff, Nat.reduceLeDiff, reduceIte, reduceCtorEq, Nat.reduceBEq, Nat.reduceLT]
        repeat' first | (show Run _ (.cond _ _ _) _ _; refine run_condX (fun hc => ?_) (fun hc => ?_) <;> (try simp only [qH, rng_0] at hc) <;> try contradiction) | (first | refine Stp.h ?_ | (show ∀ K : St → List Ft → Prop, _; intro K hK) | (show runS _ _ _ _ _; first | refine qY (hq := ?_) | refine qZ (hq := ?_)) | (refine hK _ _ ?_; clear hK K) | (refine hK _ _ rfl ?_; clear hK K) | (refine qZ (hq := ?_); try exact trivial) | omega)
        intro X1 hX1
        by_cases hgt : l.most < cntAll l m b
        · have hgt' := eq_true hgt
          rw [show excB m k l b = [⟨k, b, cntAll l m b⟩] by rw [excB, if_pos hgt]] at hnx
          have hs' : (excW ls m).map tupW = ((excK ls m k).map tupW ++ (((windowsL l).take j).flatMap (excB m k l)).map tupW) ++ tupW ⟨k, b, cntAll l m b⟩ :: ((((windowsL l).drop (j + 1)).flatMap (excB m k l)).map tupW ++ ((List.range' (k + 1) (ls.length - (k + 1))).flatMap (excI ls m)).map tupW) := by
            rw [excW, excK, hs, hi, excL, flat_split (excB m k l) hb, show excB m k l b = [⟨k, b, cntAll l m b⟩] by rw [excB, if_pos hgt], excK]
            simp
          have qe := And.intro qR @hgt'; repeat' first | (show Run _ (.cond _ _ _) _ _; refine run_condX (fun hc => ?_) (fun hc => ?_) <;> (try simp only [qH, rng_0] at hc) <;> try contradiction) | (show RunOps _ _ _ _ (⟨_, .call _, _, _, _⟩ :: _) _ _; refine run_callX (hf := pureCnt h1 hm b (by omega) (by omega)) (hn := ?_)) | (show RunOps _ _ _ _ (⟨_, .callv, _, _, _⟩ :: _) _ _; refine run_yld (by first | rfl | (simp (disch := omega) only [qG, qe, Nat.reduceAdd, Nat.reduceMul, Nat.reduceEqDiff, Nat.reduceLeDiff, reduceIte, reduceCtorEq, Nat.reduceBEq, Nat.reduceLT] <;> rfl)) (by simp (disch := omega) only [qS, qe, Nat.reduceAdd, Nat.reduceMul, Nat.reduceEqDiff, Nat.reduceLeDiff, reduceIte, reduceCtorEq, Nat.reduceBEq, Nat.reduceLT]) (by simp (disch := omega) only [qS, qe, Nat.reduceAdd, Nat.reduceMul, Nat.reduceEqDiff, Nat.reduceLeDiff, reduceIte, reduceCtorEq, Nat.reduceBEq, Nat.reduceLT] <;> rfl) (by simp (disch := omega) only [qS, qe, Nat.reduceAdd, Nat.reduceMul, Nat.reduceEqDiff, Nat.reduceLeDiff, reduceIte, reduceCtorEq, Nat.reduceBEq, Nat.reduceLT]; try trivial) rfl _ (hs') ?_; intro b; (refine run_ops ?_)) | (first | refine Stp.h ?_ | (show ∀ K : St → List Ft → Prop, _; intro K hK) | (show runS _ _ _ _ _; first | refine qY (hq := ?_) | refine qZ (hq := ?_)) | (refine hK _ _ ?_; clear hK K) | (refine hK _ _ rfl ?_; clear hK K) | (refine qZ (hq := ?_); try exact trivial) | omega)
          · subst hc; exact .inl rfl
          · subst hc; rw [hnx]; exact ⟨by simp, rfl⟩
        · have hgt' := eq_false hgt
          rw [show excB m k l b = [] by rw [excB, if_neg hgt]] at hnx
          have qe := And.intro qR @hgt'; repeat' first | (show Run _ (.cond _ _ _) _ _; refine run_condX (fun hc => ?_) (fun hc => ?_) <;> (try simp only [qH, rng_0] at hc) <;> try contradiction) | (show RunOps _ _ _ _ (⟨_, .call _, _, _, _⟩ :: _) _ _; refine run_callX (hf := pureCnt h1 hm b (by omega) (by omega)) (hn := ?_)) | (show RunOps _ _ _ _ (⟨_, .callv, _, _, _⟩ :: _) _ _; refine run_callN (q := (.b false)) (by first | rfl | (simp (disch := omega) only [qG, qe, Nat.reduceAdd, Nat.reduceMul, Nat.reduceEqDiff, Nat.reduceLeDiff, reduceIte, reduceCtorEq, Nat.reduceBEq, Nat.reduceLT] <;> rfl)) ?_; (try (refine run_ops ?_))) | (first | refine Stp.h ?_ | (show ∀ K : St → List Ft → Prop, _; intro K hK) | (show runS _ _ _ _ _; first | refine qY (hq := ?_) | refine qZ (hq := ?_)) | (refine hK _ _ ?_; clear hK K) | (refine hK _ _ rfl ?_; clear hK K) | (refine qZ (hq := ?_); try exact trivial) | omega)
          rw [hnx]; simp
      · have qe := @List.take_length.{0}; repeat' first | (show Run _ (.cond _ _ _) _ _; refine run_condX (fun hc => ?_) (fun hc => ?_) <;> (try simp only [qH, rng_0] at hc) <;> try contradiction) | (first | refine Stp.h ?_ | (show ∀ K : St → List Ft → Prop, _; intro K hK) | (show runS _ _ _ _ _; first | refine qY (hq := ?_) | refine qZ (hq := ?_)) | (refine hK _ _ ?_; clear hK K) | (refine hK _ _ rfl ?_; clear hK K) | (refine qZ (hq := ?_); try exact trivial) | omega)
        refine ⟨k + 1, by omega, by omega, by simp, ?_⟩
        rw [excK, range_next, hi, excL, ← excK, List.map_append]
    · repeat' first | (show Run _ (.cond _ _ _) _ _; refine run_condX (fun hc => ?_) (fun hc => ?_) <;> (try simp only [qH, rng_0] at hc) <;> try contradiction) | (first | refine Stp.h ?_ | (show ∀ K : St → List Ft → Prop, _; intro K hK) | (show runS _ _ _ _ _; first | refine qY (hq := ?_) | refine qZ (hq := ?_)) | (refine hK _ _ ?_; clear hK K) | (refine hK _ _ rfl ?_; clear hK K) | (refine qZ (hq := ?_); try exact trivial) | omega)
      have e : k = ls.length := by omega
      subst e; exact .inr rfl
end Go.Proofs.Ytcfbdeghmckelaa
namespace Go.Proofs.Ytcfbdeghmckelaa
open Go.RowKit
set_option maxRecDepth 100000
set_option linter.unusedVariables false
set_option linter.unusedSimpArgs false
set_option maxHeartbeats 2000000
def ac57 : AC := .seq (.ops false [⟨some 4,.alloc [(.i .i64 0),(.i .i64 0),(.i .i64 0)],[],none,[]⟩,⟨some 5,.alloc [(.i .i64 0)],[],none,[]⟩]) (.seq (.seq (.ops false [⟨some 8,.mv,[.t 0],none,[]⟩,⟨some 9,.mv,[.t 1],none,[]⟩,⟨some 10,.call 26,[.t 8,.t 9],none,[0,1]⟩,⟨some 6,.mv,[.t 10],none,[2,2,0,1,2]⟩]) (.seq (.ops false [⟨some 11,.mv,[.t 6],none,[]⟩,⟨some 12,.bin .neq,[.t 11,.c (.i .i64 0)],none,[0]⟩]) (.cond (.t 12) (.seq (.ops false [⟨some 13,.build [(.i .i64 0),(.i .i64 0),(.i .i64 0)] [],[],none,[]⟩,⟨some 14,.mv,[.t 6],none,[]⟩,⟨none,.store 3,[.t 4,.t 13],none,[0,0]⟩,⟨none,.store 1,[.t 5,.t 14],none,[1,2,0,1,2]⟩]) .ret) .skip))) (.seq (.seq (.ops false [⟨some 15,.mv,[.t 0],none,[]⟩,⟨some 16,.mv,[.t 1],none,[]⟩,⟨some 17,.call 27,[.t 15,.t 16],none,[0,1]⟩]) (.block 0 (.rfunc (.t 17) [18] (.ops false [⟨some 7,.alloc [(.i .i64 0),(.i .i64 0),(.i .i64 0)],[],none,[]⟩,⟨none,.store 3,[.t 7,.t 18],none,[0,0]⟩]) (.block 1 (.seq (.ops false [⟨some 19,.load 3 true,[.t 7],none,[]⟩,⟨none,.store 3,[.t 4,.t 19],none,[0,0]⟩,⟨none,.store 1,[.t 5,.c (.i .i64 0)],none,[1,0,1]⟩]) .ret))))) (.seq (.ops false [⟨some 20,.build [(.i .i64 0),(.i .i64 0),(.i .i64 0)] [],[],none,[]⟩,⟨none,.store 3,[.t 4,.t 20],none,[0,0]⟩,⟨none,.store 1,[.t 5,.c (.i .i64 7)],none,[1,0,1]⟩]) .ret)))
def rs57 : List RV := [.cell 4 3 true,.cell 5 1 false]
theorem fact57 : compF Try.prog 8 = some (ac57,rs57,21) := by kernel_rfl
def ac58 : AC := .seq (.ops false [⟨some 4,.alloc [.nilsl],[],none,[]⟩,⟨some 5,.alloc [(.i .i64 0)],[],none,[]⟩]) (.seq (.seq (.ops false [⟨some 9,.mv,[.t 0],none,[]⟩,⟨some 10,.mv,[.t 1],none,[]⟩,⟨some 11,.call 26,[.t 9,.t 10],none,[0,1]⟩,⟨some 6,.mv,[.t 11],none,[2,2,0,1,2]⟩]) (.seq (.ops false [⟨some 12,.mv,[.t 6],none,[]⟩,⟨some 13,.bin .neq,[.t 12,.c (.i .i64 0)],none,[0]⟩]) (.cond (.t 13) (.seq (.ops false [⟨some 14,.mv,[.t 6],none,[]⟩,⟨none,.store 1,[.t 4,.c .nilsl],none,[]⟩,⟨none,.store 1,[.t 5,.t 14],none,[0,1,0,1]⟩]) .ret) .skip))) (.seq (.ops false [⟨some 7,.alloc [.nilsl],[],none,[]⟩]) (.seq (.seq (.ops false [⟨some 15,.mv,[.t 0],none,[]⟩,⟨some 16,.mv,[.t 1],none,[]⟩,⟨some 17,.call 27,[.t 15,.t 16],none,[0,1]⟩]) (.block 0 (.rfunc (.t 17) [18] (.ops false [⟨some 8,.alloc [(.i .i64 0),(.i .i64 0),(.i .i64 0)],[],none,[]⟩,⟨none,.store 3,[.t 8,.t 18],none,[0,0]⟩]) (.block 1 (.seq (.seq (.ops false [⟨some 19,.load 1 false,[.t 7],none,[]⟩,⟨some 20,.len false,[.t 19],none,[0]⟩,⟨some 21,.bin .eql,[.t 20,.c (.i .i64 1000)],none,[1]⟩]) (.cond (.t 21) (.seq (.ops false [⟨none,.store 1,[.t 4,.c .nilsl],none,[]⟩,⟨none,.store 1,[.t 5,.c (.i .i64 5)],none,[0,0]⟩]) .ret) .skip)) (.ops false [⟨some 22,.load 1 false,[.t 7],none,[]⟩,⟨some 23,.load 3 true,[.t 8],none,[]⟩,⟨some 24,.bslice 33 3 (.agg [(.i .i64 0),(.i .i64 0),(.i .i64 0)]) 1 [0],[.t 23],none,[1]⟩,⟨some 25,.app 33 3 24,[.t 22,.t 24],none,[0,2]⟩,⟨none,.store 1,[.t 7,.t 25],none,[3,3,0,1,2,3]⟩])))))) (.seq (.ops false [⟨some 26,.load 1 false,[.t 7],none,[]⟩,⟨none,.store 1,[.t 4,.t 26],none,[0,0]⟩,⟨none,.store 1,[.t 5,.c (.i .i64 0)],none,[1,0,1]⟩]) .ret))))
def rs58 : List RV := [.cell 4 1 false,.cell 5 1 false]
theorem fact58 : compF Try.prog 7 = some (ac58,rs58,27) := by kernel_rfl
abbrev bothC (ls : List Lim) (m : List Mov) : Int := firstE [chkLims ls, chkMovs m]
def firE (ls : List Lim) (m : List Mov) : Int := if bothC ls m = 0 then (match excW ls m with | [] => 7 | _ :: _ => 0) else bothC ls m
def firR (ls : List Lim) (m : List Mov) : Win := if bothC ls m = 0 then (match excW ls m with | [] => ⟨0, 0, 0⟩ | w :: _ => w) else ⟨0, 0, 0⟩
theorem chkLims_0 {ls : List Lim} (h : chkLims ls = 0) : ls.length ≤ 32 ∧ ∀ l ∈ ls, chkLim l = 0 := by
  unfold chkLims at h
  split at h
  · cases h
  · refine ⟨by omega, fun l hl => ?_⟩
    obtain ⟨i, hi⟩ := List.getElem?_of_mem hl
    exact (firstE_cons.1 (firstE_0 h (List.mem_of_getElem? (mapIdx_at (f := limErr ls) hi)))).1
theorem pure57 (ls : List Lim) (m : List Mov) : Pure Try.prog 8 [.sl 11 (ls.map Lim.pv), .sl 7 (m.map Mov.pv)] (.tup [(firR ls m).pv, .i .i64 (firE ls m)]) := by
  refine pure_by fact57 (by simp) fun hw X hX => ?_
  unfold ac57 rs57
  have qe := @qR; repeat' first | (show Run _ (.cond _ _ _) _ _; refine run_condX (fun hc => ?_) (fun hc => ?_) <;> (try simp only [qH, rng_0] at hc) <;> try contradiction) | (show RunOps _ _ _ _ (⟨_, .call 26, _, _, _⟩ :: _) _ _; refine run_callX (hf := pure97 ls m) (hn := ?_)) | (first | refine Stp.h ?_ | (show ∀ K : St → List Ft → Prop, _; intro K hK) | (show runS _ _ _ _ _; first | refine qY (hq := ?_) | refine qZ (hq := ?_)) | (refine hK _ _ ?_; clear hK K) | (refine hK _ _ rfl ?_; clear hK K) | (refine qZ (hq := ?_); try exact trivial) | omega)
  · rw [firE, if_neg hc, firR, if_neg hc]; exact .refl _
  · have h0 := hc
    have h1 := hc
    simp only [firstE_cons] at h1
    have hl := chkLims_0 h1.1
    have qe := @qR; repeat' first | (show Run _ (.cond _ _ _) _ _; refine run_condX (fun hc => ?_) (fun hc => ?_) <;> (try simp only [qH, rng_0] at hc) <;> try contradiction) | (show RunOps _ _ _ _ (⟨_, .call 27, _, _, _⟩ :: _) _ _; refine run_callX (hf := pure108 ls m) (hn := ?_)) | (first | refine Stp.h ?_ | (show ∀ K : St → List Ft → Prop, _; intro K hK) | (show runS _ _ _ _ _; first | refine qY (hq := ?_) | refine qZ (hq := ?_)) | (refine hK _ _ ?_; clear hK K) | (refine hK _ _ rfl ?_; clear hK K) | (refine qZ (hq := ?_); try exact trivial) | omega)
    refine run_rfuncI rfl (iter140 ls m (by omega) hl.2 h1.2.1) ?_ ?_ [(4, .lp 4 0), (5, .lp 5 0)] (fun k => [(4, .box [.p (.i .i64 0), .p (.i .i64 0), .p (.i .i64 0)] false), (5, .box [.p (.i .i64 0)] false)]) (fun _ => []) (fun k => k = 0) ?_ ?_ ?_ ?_
    · simp
    · simp [hX]
    · simp only [qS, Nat.reduceAdd, Nat.reduceMul, Nat.reduceEqDiff, Nat.reduceLeDiff, reduceIte, reduceCtorEq, Nat.reduceBEq, Nat.reduceLT]
    · rfl
    · intro k t ht hok X' ro' hX'
      subst hok
      simp only [List.getElem?_map, Option.map_eq_some_iff] at ht
      obtain ⟨w, hy, rfl⟩ := ht
      simp only [qS, Nat.reduceAdd, Nat.reduceMul, Nat.reduceEqDiff, Nat.reduceLeDiff, reduceIte, reduceCtorEq, Nat.reduceBEq, Nat.reduceLT]
      have qe := @qR; repeat' first | (show Run _ (.cond _ _ _) _ _; refine run_condX (fun hc => ?_) (fun hc => ?_) <;> (try simp only [qH, rng_0] at hc) <;> try contradiction) | (first | refine Stp.h ?_ | (show ∀ K : St → List Ft → Prop, _; intro K hK) | (show runS _ _ _ _ _; first | refine qY (hq := ?_) | refine qZ (hq := ?_)) | (refine hK _ _ ?_; clear hK K) | (refine hK _ _ rfl ?_; clear hK K) | (refine qZ (hq := ?_); try exact trivial) | omega)
      intro X1 hX1
      have qe := @qR; repeat' first | (show Run _ (.cond _ _ _) _ _; refine run_condX (fun hc => ?_) (fun hc => ?_) <;> (try simp only [qH, rng_0] at hc) <;> try contradiction) | (first | refine Stp.h ?_ | (show ∀ K : St → List Ft → Prop, _; intro K hK) | (show runS _ _ _ _ _; first | refine qY (hq := ?_) | refine qZ (hq := ?_)) | (refine hK _ _ ?_; clear hK K) | (refine hK _ _ rfl ?_; clear hK K) | (refine qZ (hq := ?_); try exact trivial) | omega)
      cases he : excW ls m with
      | nil => rw [he] at hy; cases hy
      | cons a r =>
        rw [he] at hy
        injection hy with hy
        subst hy
        rw [firE, if_pos h0, firR, if_pos h0, he]; exact .refl _
    · intro hok
      have he : excW ls m = [] := List.eq_nil_of_length_eq_zero (by simpa using hok)
      have qe := @qR; repeat' first | (show Run _ (.cond _ _ _) _ _; refine run_condX (fun hc => ?_) (fun hc => ?_) <;> (try simp only [qH, rng_0] at hc) <;> try contradiction) | (first | refine Stp.h ?_ | (show ∀ K : St → List Ft → Prop, _; intro K hK) | (show runS _ _ _ _ _; first | refine qY (hq := ?_) | refine qZ (hq := ?_)) | (refine hK _ _ ?_; clear hK K) | (refine hK _ _ rfl ?_; clear hK K) | (refine qZ (hq := ?_); try exact trivial) | omega)
      rw [firE, if_pos h0, firR, if_pos h0, he]; exact .refl _
def exE (ls : List Lim) (m : List Mov) : Int := if bothC ls m = 0 then (if 1000 < (excW ls m).length then 5 else 0) else bothC ls m
def exR (ls : List Lim) (m : List Mov) : List Win := if exE ls m = 0 then excW ls m else []
theorem pure58 (ls : List Lim) (m : List Mov) : Pure Try.prog 7 [.sl 11 (ls.map Lim.pv), .sl 7 (m.map Mov.pv)] (.tup [.sl 3 ((exR ls m).map Win.pv), .i .i64 (exE ls m)]) := by
  refine pure_by fact58 (by simp) fun hw X hX => ?_
  unfold ac58 rs58
  have qe := @qR; repeat' first | (show Run _ (.cond _ _ _) _ _; refine run_condX (fun hc => ?_) (fun hc => ?_) <;> (try simp only [qH, rng_0] at hc) <;> try contradiction) | (show RunOps _ _ _ _ (⟨_, .call 26, _, _, _⟩ :: _) _ _; refine run_callX (hf := pure97 ls m) (hn := ?_)) | (first | refine Stp.h ?_ | (show ∀ K : St → List Ft → Prop, _; intro K hK) | (show runS _ _ _ _ _; first | refine qY (hq := ?_) | refine qZ (hq := ?_)) | (refine hK _ _ ?_; clear hK K) | (refine hK _ _ rfl ?_; clear hK K) | (refine qZ (hq := ?_); try exact trivial) | omega)
  · have he : exE ls m = bothC ls m := by rw [exE, if_neg hc]
    rw [exR, he, if_neg hc]; exact weak2 (.nilsl _) (.refl _)
  · have h0 := hc
    have h1 := hc
    simp only [firstE_cons] at h1
    have hl := chkLims_0 h1.1
    have qe := @qR; repeat' first | (show Run _ (.cond _ _ _) _ _; refine run_condX (fun hc => ?_) (fun hc => ?_) <;> (try simp only [qH, rng_0] at hc) <;> try contradiction) | (show RunOps _ _ _ _ (⟨_, .call 27, _, _, _⟩ :: _) _ _; refine run_callX (hf := pure108 ls m) (hn := ?_)) | (first | refine Stp.h ?_ | (show ∀ K : St → List Ft → Prop, _; intro K hK) | (show runS _ _ _ _ _; first | refine qY (hq := ?_) | refine qZ (hq := ?_)) | (refine hK _ _ ?_; clear hK K) | (refine hK _ _ rfl ?_; clear hK K) | (refine qZ (hq := ?_); try exact trivial) | omega)
    refine run_own 100 33 3 [(4, .lp 4 0), (5, .lp 5 0), (7, .lp 7 0), (17, .p (.fn (.func 58) [] [.ip (.sl 11 (ls.map Lim.pv)) 0, .ip (.sl 7 (m.map Mov.pv)) 0]))] [(4, .box [.p .nilsl] false), (5, .box [.p (.i .i64 0)] false), (7, .box [.row 100 0] false)] ?_ ?_
    · simp only [Own, ownEnv, ownObj, nilTo, nilTos, qS, Nat.reduceAdd, Nat.reduceMul, Nat.reduceEqDiff, Nat.reduceLeDiff, reduceIte, reduceCtorEq, Nat.reduceBEq, Nat.reduceLT]
    refine run_rfuncI rfl (iter140 ls m (by omega) hl.2 h1.2.1) ?_ ?_ [(4, .lp 4 0), (5, .lp 5 0), (7, .lp 7 0)] (fun k => [(4, .box [.p .nilsl] false), (5, .box [.p (.i .i64 0)] false), (7, .box [.row 100 k] false), (100, .row 33 3 (((excW ls m).take k).map Win.pv) false)]) (fun _ => []) (fun k => k ≤ 1000) ?_ ?_ ?_ ?_
    · simp
    · simp [hX]
    · simp only [qS, Nat.reduceAdd, Nat.reduceMul, Nat.reduceEqDiff, Nat.reduceLeDiff, reduceIte, reduceCtorEq, Nat.reduceBEq, Nat.reduceLT]
    · omega
    · intro k t ht hok X' ro' hX'
      simp only [List.getElem?_map, Option.map_eq_some_iff] at ht
      obtain ⟨w, hy, rfl⟩ := ht
      have hlt := take_len hy
      have hk := (List.getElem?_eq_some_iff.1 hy).1
      simp only [qS, Nat.reduceAdd, Nat.reduceMul, Nat.reduceEqDiff, Nat.reduceLeDiff, reduceIte, reduceCtorEq, Nat.reduceBEq, Nat.reduceLT]
      have qe := @qR; repeat' first | (show Run _ (.cond _ _ _) _ _; refine run_condX (fun hc => ?_) (fun hc => ?_) <;> (try simp only [qH, rng_0] at hc) <;> try contradiction) | (first | refine Stp.h ?_ | (show ∀ K : St → List Ft → Prop, _; intro K hK) | (show runS _ _ _ _ _; first | refine qY (hq := ?_) | refine qZ (hq := ?_)) | (refine hK _ _ ?_; clear hK K) | (refine hK _ _ rfl ?_; clear hK K) | (refine qZ (hq := ?_); try exact trivial) | omega)
      intro X1 hX1
      have qe := And.intro qR (And.intro @hlt (take_snoc Win.pv hy)); repeat' first | (show Run _ (.cond _ _ _) _ _; refine run_condX (fun hc => ?_) (fun hc => ?_) <;> (try simp only [qH, rng_0] at hc) <;> try contradiction) | (first | refine Stp.h ?_ | (show ∀ K : St → List Ft → Prop, _; intro K hK) | (show runS _ _ _ _ _; first | refine qY (hq := ?_) | refine qZ (hq := ?_)) | (refine hK _ _ ?_; clear hK K) | (refine hK _ _ rfl ?_; clear hK K) | (refine qZ (hq := ?_); try exact trivial) | omega)
      · have he : exE ls m = 5 := by rw [exE, if_pos h0, if_pos (by omega)]
        rw [exR, he, if_neg (by decide)]; exact weak2 (.nilsl _) (.refl _)
    · intro hok
      simp only [List.length_map] at hok
      have qe := And.intro qR (And.intro @List.length_map.{0, 0} @List.take_length.{0}); repeat' first | (show Run _ (.cond _ _ _) _ _; refine run_condX (fun hc => ?_) (fun hc => ?_) <;> (try simp only [qH, rng_0] at hc) <;> try contradiction) | (first | refine Stp.h ?_ | (show ∀ K : St → List Ft → Prop, _; intro K hK) | (show runS _ _ _ _ _; first | refine qY (hq := ?_) | refine qZ (hq := ?_)) | (refine hK _ _ ?_; clear hK K) | (refine hK _ _ rfl ?_; clear hK K) | (refine qZ (hq := ?_); try exact trivial) | omega)
      have he : exE ls m = 0 := by rw [exE, if_pos h0, if_neg (by omega)]
      rw [exR, he, if_pos rfl]; exact .refl _
end Go.Proofs.Ytcfbdeghmckelaa
namespace Go.Proofs.Ytcfbdeghmckelaa
open Go.RowKit
set_option maxRecDepth 100000
set_option linter.unusedVariables false
set_option linter.unusedSimpArgs false
set_option maxHeartbeats 2000000
def ac81 : AC := .seq (.ops false [⟨some 2,.mv,[.c (.b false)],none,[]⟩]) (.seq (.ops false [⟨some 3,.mv,[.t 0],none,[]⟩,⟨some 4,.bin .eql,[.t 3,.c (.s (bs []))],none,[0]⟩,⟨some 5,.mv,[.t 4],none,[1]⟩,⟨some 6,.mv,[.t 0],some (5,false),[2]⟩,⟨some 7,.call 68,[.t 6],some (5,false),[3,2,2]⟩,⟨some 8,.pick,[.t 5,.c (.b true),.t 7],none,[2,4]⟩,⟨some 2,.mv,[.t 8],none,[5,4,0,1,2,3,4,5]⟩]) .ret)
def rs81 : List RV := [.tmp 2]
theorem fact81 : compF Try.prog 69 = some (ac81,rs81,9) := by kernel_rfl
def ac33 : AC := .seq (.ops false [⟨some 6,.mv,[.c (.b false)],none,[]⟩]) (.seq (.ops false [⟨some 7,.mv,[.t 0],none,[]⟩,⟨some 8,.mv,[.t 1],none,[]⟩,⟨some 9,.bin .lss,[.t 7,.t 8],none,[0,1]⟩,⟨some 10,.mv,[.t 9],none,[2]⟩,⟨some 11,.mv,[.t 0],some (10,false),[3]⟩,⟨some 12,.mv,[.t 2],some (10,false),[3]⟩,⟨some 13,.bin .gtr,[.t 11,.t 12],some (10,false),[4,5,3]⟩,⟨some 14,.pick,[.t 10,.c (.b true),.t 13],none,[3,6]⟩,⟨some 6,.mv,[.t 14],none,[7,3,0,1,2,3,4,5,6,7]⟩]) .ret)
def rs33 : List RV := [.tmp 6]
theorem fact33 : compF Try.prog 70 = some (ac33,rs33,15) := by kernel_rfl
def ac31 : AC := .seq (.ops false [⟨some 1,.box,[.t 0],none,[]⟩,⟨some 2,.mv,[.c (.i .i64 0)],none,[]⟩]) (.seq (.seq (.ops false [⟨some 4,.fadr 0,[.t 1],none,[]⟩,⟨some 5,.load 1 false,[.t 4],none,[0]⟩,⟨some 6,.call 68,[.t 5],none,[1]⟩,⟨some 7,.not,[.t 6],none,[2]⟩]) (.cond (.t 7) (.seq (.ops false [⟨some 2,.mv,[.c (.i .i64 8)],none,[]⟩]) .ret) .skip)) (.seq (.seq (.ops false [⟨some 8,.fadr 1,[.t 1],none,[]⟩,⟨some 9,.load 1 false,[.t 8],none,[0]⟩,⟨some 10,.bin .neq,[.t 9,.c (.s (bs [65]))],none,[1]⟩,⟨some 11,.mv,[.t 10],none,[2]⟩,⟨some 12,.fadr 1,[.t 1],some (11,true),[3]⟩,⟨some 13,.load 1 false,[.t 12],some (11,true),[4,3]⟩,⟨some 14,.bin .neq,[.t 13,.c (.s (bs [68]))],some (11,true),[5,3]⟩,⟨some 15,.pick,[.t 11,.t 14,.c (.b false)],none,[3,6]⟩,⟨some 16,.mv,[.t 15],none,[7,3]⟩,⟨some 17,.fadr 1,[.t 1],some (16,true),[8]⟩,⟨some 18,.load 1 false,[.t 17],some (16,true),[9,8]⟩,⟨some 19,.bin .neq,[.t 18,.c (.s (bs [84]))],some (16,true),[10,8]⟩,⟨some 20,.pick,[.t 16,.t 19,.c (.b false)],none,[8,11]⟩]) (.cond (.t 20) (.seq (.ops false [⟨some 2,.mv,[.c (.i .i64 13)],none,[]⟩]) .ret) .skip)) (.seq (.seq (.ops false [⟨some 21,.fadr 2,[.t 1],none,[]⟩,⟨some 22,.load 1 false,[.t 21],none,[0]⟩,⟨some 23,.call 69,[.t 22],none,[1]⟩,⟨some 24,.not,[.t 23],none,[2]⟩]) (.cond (.t 24) (.seq (.ops false [⟨some 2,.mv,[.c (.i .i64 8)],none,[]⟩]) .ret) .skip)) (.seq (.seq (.ops false [⟨some 25,.fadr 3,[.t 1],none,[]⟩,⟨some 26,.load 1 false,[.t 25],none,[0]⟩,⟨some 27,.call 70,[.t 26,.c (.i .i64 1),.c (.i .i64 1440)],none,[1]⟩,⟨some 28,.mv,[.t 27],none,[2,2]⟩,⟨some 29,.fadr 4,[.t 1],some (28,false),[3]⟩,⟨some 30,.load 1 false,[.t 29],some (28,false),[4,3]⟩,⟨some 31,.call 70,[.t 30,.c (.i .i64 1),.c (.i .i64 1440)],some (28,false),[5,3,3]⟩,⟨some 32,.pick,[.t 28,.c (.b true),.t 31],none,[3,6]⟩,⟨some 33,.mv,[.t 32],none,[7,6]⟩,⟨some 34,.fadr 5,[.t 1],some (33,false),[8]⟩,⟨some 35,.load 1 false,[.t 34],some (33,false),[9,8]⟩,⟨some 36,.call 70,[.t 35,.c (.i .i64 0),.c (.i .i64 1439)],some (33,false),[10,8,8]⟩,⟨some 37,.pick,[.t 33,.c (.b true),.t 36],none,[8,11]⟩,⟨some 38,.mv,[.t 37],none,[12,11]⟩,⟨some 39,.fadr 6,[.t 1],some (38,false),[13]⟩,⟨some 40,.load 1 false,[.t 39],some (38,false),[14,13]⟩,⟨some 41,.call 70,[.t 40,.c (.i .i64 0),.c (.i .i64 1439)],some (38,false),[15,13,13]⟩,⟨some 42,.pick,[.t 38,.c (.b true),.t 41],none,[13,16]⟩]) (.cond (.t 42) (.seq (.ops false [⟨some 2,.mv,[.c (.i .i64 3)],none,[]⟩]) .ret) .skip)) (.seq (.seq (.ops false [⟨some 43,.fadr 5,[.t 1],none,[]⟩,⟨some 44,.load 1 false,[.t 43],none,[0]⟩,⟨some 45,.fadr 6,[.t 1],none,[]⟩,⟨some 46,.load 1 false,[.t 45],none,[2]⟩,⟨some 47,.bin .gtr,[.t 44,.t 46],none,[1,3]⟩]) (.cond (.t 47) (.seq (.ops false [⟨some 2,.mv,[.c (.i .i64 11)],none,[]⟩]) .ret) .skip)) (.seq (.seq (.ops false [⟨some 48,.fadr 7,[.t 1],none,[]⟩,⟨some 49,.load 3 true,[.t 48],none,[0]⟩,⟨some 50,.call 67,[.t 49],none,[1]⟩,⟨some 3,.mv,[.t 50],none,[2,2,0,1,2]⟩]) (.seq (.ops false [⟨some 51,.mv,[.t 3],none,[]⟩,⟨some 52,.bin .neq,[.t 51,.c (.i .i64 0)],none,[0]⟩]) (.cond (.t 52) (.seq (.ops false [⟨some 53,.mv,[.t 3],none,[]⟩,⟨some 2,.mv,[.t 53],none,[0,0]⟩]) .ret) .skip))) (.seq (.seq (.ops false [⟨some 54,.fadr 10,[.t 1],none,[]⟩,⟨some 55,.load 1 false,[.t 54],none,[0]⟩,⟨some 56,.call 70,[.t 55,.c (.i .i64 0),.c (.i .i64 999999999)],none,[1]⟩]) (.cond (.t 56) (.seq (.ops false [⟨some 2,.mv,[.c (.i .i64 3)],none,[]⟩]) .ret) .skip)) (.seq (.ops false [⟨some 2,.mv,[.c (.i .i64 0)],none,[]⟩]) .ret))))))))
def rs31 : List RV := [.tmp 2]
theorem fact31 : compF Try.prog 38 = some (ac31,rs31,57) := by kernel_rfl
def ac72 : AC := .seq (.ops false [⟨some 4,.mv,[.c (.i .i64 0)],none,[]⟩]) (.seq (.seq (.ops false [⟨some 5,.mv,[.c (.i .i64 0)],none,[]⟩]) (.block 0 (.loop (.seq (.seq (.ops false [⟨some 6,.mv,[.t 5],none,[]⟩,⟨some 7,.mv,[.t 0],none,[]⟩,⟨some 8,.len false,[.t 7],none,[1]⟩,⟨some 9,.bin .lss,[.t 6,.t 8],none,[0,2]⟩]) (.cond (.t 9) .skip (.exit 0))) (.seq (.block 1 (.seq (.ops false [⟨some 12,.mv,[.t 0],none,[]⟩,⟨some 13,.mv,[.t 5],none,[]⟩,⟨some 14,.iadrS 11,[.t 12,.t 13],none,[0,1]⟩,⟨some 15,.fadr 0,[.t 14],none,[2]⟩,⟨some 16,.load 1 false,[.t 15],none,[3]⟩,⟨some 17,.mv,[.t 1],none,[]⟩,⟨some 18,.bin .eql,[.t 16,.t 17],none,[4,5]⟩]) (.cond (.t 18) (.seq (.ops false [⟨some 19,.mv,[.t 5],none,[]⟩,⟨some 4,.mv,[.t 19],none,[0,0]⟩]) .ret) .skip))) (.ops false [⟨some 10,.mv,[.t 5],none,[]⟩,⟨some 11,.bin .add,[.t 10,.c (.i .i64 1)],none,[0]⟩,⟨some 5,.mv,[.t 11],none,[1,0,1]⟩])))))) (.seq (.ops false [⟨some 4,.mv,[.c (.i .i64 (-1))],none,[]⟩]) .ret))
def rs72 : List RV := [.tmp 4]
theorem fact72 : compF Try.prog 42 = some (ac72,rs72,20) := by kernel_rfl
def ac23 : AC := .seq (.ops false [⟨some 2,.mv,[.c (.i .i64 0)],none,[]⟩]) (.seq (.seq (.ops false [⟨some 5,.mv,[.t 0],none,[]⟩,⟨some 6,.len false,[.t 5],none,[0]⟩,⟨some 7,.bin .gtr,[.t 6,.c (.i .i64 32)],none,[1]⟩]) (.cond (.t 7) (.seq (.ops false [⟨some 2,.mv,[.c (.i .i64 5)],none,[]⟩]) .ret) .skip)) (.seq (.seq (.ops false [⟨some 3,.mv,[.c (.i .i64 0)],none,[]⟩]) (.block 0 (.loop (.seq (.seq (.ops false [⟨some 8,.mv,[.t 3],none,[]⟩,⟨some 9,.mv,[.t 0],none,[]⟩,⟨some 10,.len false,[.t 9],none,[1]⟩,⟨some 11,.bin .lss,[.t 8,.t 10],none,[0,2]⟩]) (.cond (.t 11) .skip (.exit 0))) (.seq (.block 1 (.seq (.seq (.ops false [⟨some 14,.mv,[.t 0],none,[]⟩,⟨some 15,.mv,[.t 3],none,[]⟩,⟨some 16,.iadrS 11,[.t 14,.t 15],none,[0,1]⟩,⟨some 17,.load 11 true,[.t 16],none,[2]⟩,⟨some 18,.call 38,[.t 17],none,[3]⟩,⟨some 4,.mv,[.t 18],none,[4,4,0,1,2,3,4]⟩]) (.seq (.ops false [⟨some 19,.mv,[.t 4],none,[]⟩,⟨some 20,.bin .neq,[.t 19,.c (.i .i64 0)],none,[0]⟩]) (.cond (.t 20) (.seq (.ops false [⟨some 21,.mv,[.t 4],none,[]⟩,⟨some 2,.mv,[.t 21],none,[0,0]⟩]) .ret) .skip))) (.seq (.ops true [⟨some 22,.mv,[.t 0],none,[]⟩,⟨some 23,.mv,[.t 3],none,[]⟩,⟨some 24,.sliceL 11 false true,[.t 22,.t 23],none,[0,1]⟩,⟨some 25,.mv,[.t 0],none,[]⟩,⟨some 26,.mv,[.t 3],none,[]⟩,⟨some 27,.iadrS 11,[.t 25,.t 26],none,[3,4]⟩,⟨some 28,.fadr 0,[.t 27],none,[5]⟩,⟨some 29,.load 1 false,[.t 28],none,[6]⟩,⟨some 30,.call 42,[.t 24,.t 29],none,[2,7]⟩,⟨some 31,.bin .geq,[.t 30,.c (.i .i64 0)],none,[8]⟩]) (.cond (.t 31) (.seq (.ops false [⟨some 2,.mv,[.c (.i .i64 9)],none,[]⟩]) .ret) .skip)))) (.ops false [⟨some 12,.mv,[.t 3],none,[]⟩,⟨some 13,.bin .add,[.t 12,.c (.i .i64 1)],none,[0]⟩,⟨some 3,.mv,[.t 13],none,[1,0,1]⟩])))))) (.seq (.ops false [⟨some 2,.mv,[.c (.i .i64 0)],none,[]⟩]) .ret)))
def rs23 : List RV := [.tmp 2]
theorem fact23 : compF Try.prog 13 = some (ac23,rs23,32) := by kernel_rfl
def ac45 : AC := .seq (.ops false [⟨some 1,.box,[.t 0],none,[]⟩,⟨some 2,.mv,[.c (.i .i64 0)],none,[]⟩]) (.seq (.seq (.ops false [⟨some 3,.fadr 0,[.t 1],none,[]⟩,⟨some 4,.load 1 false,[.t 3],none,[0]⟩,⟨some 5,.call 70,[.t 4,.c (.i .i64 0),.c (.i .i64 143999999)],none,[1]⟩]) (.cond (.t 5) (.seq (.ops false [⟨some 2,.mv,[.c (.i .i64 3)],none,[]⟩]) .ret) .skip)) (.seq (.seq (.ops false [⟨some 6,.fadr 1,[.t 1],none,[]⟩,⟨some 7,.load 1 false,[.t 6],none,[0]⟩,⟨some 8,.bin .neq,[.t 7,.c (.s (bs [65]))],none,[1]⟩,⟨some 9,.mv,[.t 8],none,[2]⟩,⟨some 10,.fadr 1,[.t 1],some (9,true),[3]⟩,⟨some 11,.load 1 false,[.t 10],some (9,true),[4,3]⟩,⟨some 12,.bin .neq,[.t 11,.c (.s (bs [68]))],some (9,true),[5,3]⟩,⟨some 13,.pick,[.t 9,.t 12,.c (.b false)],none,[3,6]⟩]) (.cond (.t 13) (.seq (.ops false [⟨some 2,.mv,[.c (.i .i64 13)],none,[]⟩]) .ret) .skip)) (.seq (.seq (.ops false [⟨some 14,.fadr 2,[.t 1],none,[]⟩,⟨some 15,.load 1 false,[.t 14],none,[0]⟩,⟨some 16,.call 69,[.t 15],none,[1]⟩,⟨some 17,.not,[.t 16],none,[2]⟩]) (.cond (.t 17) (.seq (.ops false [⟨some 2,.mv,[.c (.i .i64 8)],none,[]⟩]) .ret) .skip)) (.seq (.seq (.ops false [⟨some 18,.fadr 3,[.t 1],none,[]⟩,⟨some 19,.load 1 false,[.t 18],none,[0]⟩,⟨some 20,.call 70,[.t 19,.c (.i .i64 0),.c (.i .i64 999)],none,[1]⟩,⟨some 21,.mv,[.t 20],none,[2,2]⟩,⟨some 22,.fadr 4,[.t 1],some (21,false),[3]⟩,⟨some 23,.load 1 false,[.t 22],some (21,false),[4,3]⟩,⟨some 24,.call 70,[.t 23,.c (.i .i64 0),.c (.i .i64 9)],some (21,false),[5,3,3]⟩,⟨some 25,.pick,[.t 21,.c (.b true),.t 24],none,[3,6]⟩,⟨some 26,.mv,[.t 25],none,[7,6]⟩,⟨some 27,.fadr 5,[.t 1],some (26,false),[8]⟩,⟨some 28,.load 1 false,[.t 27],some (26,false),[9,8]⟩,⟨some 29,.call 70,[.t 28,.c (.i .i64 0),.c (.i .i64 99)],some (26,false),[10,8,8]⟩,⟨some 30,.pick,[.t 26,.c (.b true),.t 29],none,[8,11]⟩]) (.cond (.t 30) (.seq (.ops false [⟨some 2,.mv,[.c (.i .i64 3)],none,[]⟩]) .ret) .skip)) (.seq (.seq (.ops false [⟨some 31,.fadr 6,[.t 1],none,[]⟩,⟨some 32,.load 1 false,[.t 31],none,[0]⟩,⟨some 33,.call 68,[.t 32],none,[1]⟩,⟨some 34,.not,[.t 33],none,[2]⟩]) (.cond (.t 34) (.seq (.ops false [⟨some 2,.mv,[.c (.i .i64 8)],none,[]⟩]) .ret) .skip)) (.seq (.ops false [⟨some 2,.mv,[.c (.i .i64 0)],none,[]⟩]) .ret))))))
def rs45 : List RV := [.tmp 2]
theorem fact45 : compF Try.prog 43 = some (ac45,rs45,35) := by kernel_rfl
def ac25 : AC := .seq (.ops false [⟨some 2,.mv,[.c (.i .i64 0)],none,[]⟩]) (.seq (.seq (.ops false [⟨some 5,.mv,[.t 0],none,[]⟩,⟨some 6,.len false,[.t 5],none,[0]⟩,⟨some 7,.bin .gtr,[.t 6,.c (.i .i64 30000)],none,[1]⟩]) (.cond (.t 7) (.seq (.ops false [⟨some 2,.mv,[.c (.i .i64 5)],none,[]⟩]) .ret) .skip)) (.seq (.seq (.ops false [⟨some 3,.mv,[.c (.i .i64 0)],none,[]⟩]) (.block 0 (.loop (.seq (.seq (.ops false [⟨some 8,.mv,[.t 3],none,[]⟩,⟨some 9,.mv,[.t 0],none,[]⟩,⟨some 10,.len false,[.t 9],none,[1]⟩,⟨some 11,.bin .lss,[.t 8,.t 10],none,[0,2]⟩]) (.cond (.t 11) .skip (.exit 0))) (.seq (.block 1 (.seq (.seq (.ops false [⟨some 14,.mv,[.t 0],none,[]⟩,⟨some 15,.mv,[.t 3],none,[]⟩,⟨some 16,.iadrS 7,[.t 14,.t 15],none,[0,1]⟩,⟨some 17,.load 7 true,[.t 16],none,[2]⟩,⟨some 18,.call 43,[.t 17],none,[3]⟩,⟨some 4,.mv,[.t 18],none,[4,4,0,1,2,3,4]⟩]) (.seq (.ops false [⟨some 19,.mv,[.t 4],none,[]⟩,⟨some 20,.bin .neq,[.t 19,.c (.i .i64 0)],none,[0]⟩]) (.cond (.t 20) (.seq (.ops false [⟨some 21,.mv,[.t 4],none,[]⟩,⟨some 2,.mv,[.t 21],none,[0,0]⟩]) .ret) .skip))) (.seq (.ops true [⟨some 22,.mv,[.t 3],none,[]⟩,⟨some 23,.bin .gtr,[.t 22,.c (.i .i64 0)],none,[0]⟩,⟨some 24,.mv,[.t 23],none,[1]⟩,⟨some 25,.mv,[.t 0],some (24,true),[2]⟩,⟨some 26,.mv,[.t 3],some (24,true),[2]⟩,⟨some 27,.iadrS 7,[.t 25,.t 26],some (24,true),[3,4,2]⟩,⟨some 28,.fadr 0,[.t 27],some (24,true),[5,2]⟩,⟨some 29,.load 1 false,[.t 28],some (24,true),[6,2]⟩,⟨some 30,.mv,[.t 0],some (24,true),[2]⟩,⟨some 31,.mv,[.t 3],some (24,true),[2]⟩,⟨some 32,.bin .sub,[.t 31,.c (.i .i64 1)],some (24,true),[9,2]⟩,⟨some 33,.iadrS 7,[.t 30,.t 32],some (24,true),[8,10,2]⟩,⟨some 34,.fadr 0,[.t 33],some (24,true),[11,2]⟩,⟨some 35,.load 1 false,[.t 34],some (24,true),[12,2]⟩,⟨some 36,.bin .lss,[.t 29,.t 35],some (24,true),[7,13,2]⟩,⟨some 37,.pick,[.t 24,.t 36,.c (.b false)],none,[2,14]⟩]) (.cond (.t 37) (.seq (.ops false [⟨some 2,.mv,[.c (.i .i64 11)],none,[]⟩]) .ret) .skip)))) (.ops false [⟨some 12,.mv,[.t 3],none,[]⟩,⟨some 13,.bin .add,[.t 12,.c (.i .i64 1)],none,[0]⟩,⟨some 3,.mv,[.t 13],none,[1,0,1]⟩])))))) (.seq (.ops false [⟨some 2,.mv,[.c (.i .i64 0)],none,[]⟩]) .ret)))
def rs25 : List RV := [.tmp 2]
theorem fact25 : compF Try.prog 14 = some (ac25,rs25,38) := by kernel_rfl
def ac75 : AC := .seq (.ops false [⟨some 2,.box,[.t 0],none,[]⟩,⟨some 4,.mv,[.c (.b false)],none,[]⟩]) (.seq (.ops false [⟨some 5,.load 3 true,[.t 2],none,[]⟩,⟨some 6,.call 67,[.t 5],none,[0]⟩,⟨some 7,.bin .neq,[.t 6,.c (.i .i64 0)],none,[1]⟩,⟨some 8,.mv,[.t 7],none,[2,1]⟩,⟨some 9,.fadr 1,[.t 2],some (8,false),[3]⟩,⟨some 10,.load 1 false,[.t 9],some (8,false),[4,3]⟩,⟨some 11,.fadr 0,[.t 2],some (8,false),[3]⟩,⟨some 12,.load 1 false,[.t 11],some (8,false),[6,3]⟩,⟨some 13,.bin .sub,[.t 10,.t 12],some (8,false),[5,7,3]⟩,⟨some 14,.mv,[.t 1],some (8,false),[3]⟩,⟨some 15,.bin .lss,[.t 13,.t 14],some (8,false),[8,9,3]⟩,⟨some 16,.pick,[.t 8,.c (.b true),.t 15],none,[3,10]⟩,⟨some 4,.mv,[.t 16],none,[11,3,0,1,2,3,4,5,6,7,8,9,10,11]⟩]) .ret)
def rs75 : List RV := [.tmp 4]
theorem fact75 : compF Try.prog 37 = some (ac75,rs75,17) := by kernel_rfl
def ac76 : AC := .seq (.ops false [⟨some 1,.box,[.t 0],none,[]⟩,⟨some 2,.mv,[.c (.i .i64 0)],none,[]⟩]) (.seq (.ops true [⟨some 3,.fadr 6,[.t 1],none,[]⟩,⟨some 4,.load 1 false,[.t 3],none,[0]⟩,⟨some 5,.fadr 4,[.t 1],none,[]⟩,⟨some 6,.load 1 false,[.t 5],none,[2]⟩,⟨some 7,.bin .quo,[.t 4,.t 6],none,[1,3]⟩,⟨some 8,.fadr 5,[.t 1],none,[]⟩,⟨some 9,.load 1 false,[.t 8],none,[5]⟩,⟨some 10,.fadr 4,[.t 1],none,[]⟩,⟨some 11,.load 1 false,[.t 10],none,[7]⟩,⟨some 12,.bin .add,[.t 9,.t 11],none,[6,8]⟩,⟨some 13,.bin .sub,[.t 12,.c (.i .i64 1)],none,[9]⟩,⟨some 14,.fadr 4,[.t 1],none,[]⟩,⟨some 15,.load 1 false,[.t 14],none,[11]⟩,⟨some 16,.bin .quo,[.t 13,.t 15],none,[10,12]⟩,⟨some 17,.bin .sub,[.t 7,.t 16],none,[4,13]⟩,⟨some 18,.bin .add,[.t 17,.c (.i .i64 1)],none,[14]⟩,⟨some 2,.mv,[.t 18],none,[15,0,1,2,3,4,5,6,7,8,9,10,11,12,13,14,15]⟩]) .ret)
def rs76 : List RV := [.tmp 2]
theorem fact76 : compF Try.prog 39 = some (ac76,rs76,19) := by kernel_rfl
def ac42 : AC := .seq (.ops false [⟨some 1,.box,[.t 0],none,[]⟩,⟨some 2,.mv,[.c (.b false)],none,[]⟩]) (.seq (.ops false [⟨some 3,.fadr 1,[.t 1],none,[]⟩,⟨some 4,.load 1 false,[.t 3],none,[0]⟩,⟨some 5,.len true,[.t 4],none,[1]⟩,⟨some 6,.bin .leq,[.t 5,.c (.i .i64 40)],none,[2]⟩,⟨some 7,.mv,[.t 6],none,[3]⟩,⟨some 8,.fadr 2,[.t 1],some (7,true),[4]⟩,⟨some 9,.load 1 false,[.t 8],some (7,true),[5,4]⟩,⟨some 10,.len true,[.t 9],some (7,true),[6,4]⟩,⟨some 11,.bin .leq,[.t 10,.c (.i .i64 40)],some (7,true),[7,4]⟩,⟨some 12,.pick,[.t 7,.t 11,.c (.b false)],none,[4,8]⟩,⟨some 13,.mv,[.t 12],none,[9,4]⟩,⟨some 14,.fadr 6,[.t 1],some (13,true),[10]⟩,⟨some 15,.load 1 false,[.t 14],some (13,true),[11,10]⟩,⟨some 16,.len true,[.t 15],some (13,true),[12,10]⟩,⟨some 17,.bin .leq,[.t 16,.c (.i .i64 40)],some (13,true),[13,10]⟩,⟨some 18,.pick,[.t 13,.t 17,.c (.b false)],none,[10,14]⟩,⟨some 2,.mv,[.t 18],none,[15,10,0,1,2,3,4,5,6,7,8,9,10,11,12,13,14,15]⟩]) .ret)
def rs42 : List RV := [.tmp 2]
theorem fact42 : compF Try.prog 41 = some (ac42,rs42,19) := by kernel_rfl
def ac16 : AC := .seq (.ops false [⟨some 4,.mv,[.c (.b false)],none,[]⟩]) (.seq (.seq (.ops false [⟨some 6,.mv,[.t 0],none,[]⟩,⟨some 7,.len false,[.t 6],none,[0]⟩,⟨some 8,.mv,[.t 1],none,[]⟩,⟨some 9,.bin .gtr,[.t 7,.t 8],none,[1,2]⟩,⟨some 10,.mv,[.t 9],none,[3]⟩,⟨some 11,.mv,[.t 0],some (10,true),[4]⟩,⟨some 12,.len false,[.t 11],some (10,true),[5,4]⟩,⟨some 13,.bin .leq,[.t 12,.c (.i .i64 30000)],some (10,true),[6,4]⟩,⟨some 14,.pick,[.t 10,.t 13,.c (.b false)],none,[4,7]⟩,⟨some 15,.mv,[.t 14],none,[8,4]⟩,⟨some 16,.mv,[.t 0],some (15,false),[9]⟩,⟨some 17,.len false,[.t 16],some (15,false),[10,9]⟩,⟨some 18,.bin .gtr,[.t 17,.c (.i .i64 30002)],some (15,false),[11,9]⟩,⟨some 19,.pick,[.t 15,.c (.b true),.t 18],none,[9,12]⟩]) (.cond (.t 19) (.seq (.ops false [⟨some 4,.mv,[.c (.b false)],none,[]⟩]) .ret) .skip)) (.seq (.seq (.ops false [⟨some 5,.mv,[.c (.i .i64 0)],none,[]⟩]) (.block 0 (.loop (.seq (.seq (.ops false [⟨some 20,.mv,[.t 5],none,[]⟩,⟨some 21,.mv,[.t 0],none,[]⟩,⟨some 22,.len false,[.t 21],none,[1]⟩,⟨some 23,.bin .lss,[.t 20,.t 22],none,[0,2]⟩]) (.cond (.t 23) .skip (.exit 0))) (.seq (.block 1 (.seq (.ops false [⟨some 26,.mv,[.t 0],none,[]⟩,⟨some 27,.mv,[.t 5],none,[]⟩,⟨some 28,.iadrS 7,[.t 26,.t 27],none,[0,1]⟩,⟨some 29,.load 7 true,[.t 28],none,[2]⟩,⟨some 30,.call 41,[.t 29],none,[3]⟩,⟨some 31,.not,[.t 30],none,[4]⟩]) (.cond (.t 31) (.seq (.ops false [⟨some 4,.mv,[.c (.b false)],none,[]⟩]) .ret) .skip))) (.ops false [⟨some 24,.mv,[.t 5],none,[]⟩,⟨some 25,.bin .add,[.t 24,.c (.i .i64 1)],none,[0]⟩,⟨some 5,.mv,[.t 25],none,[1,0,1]⟩])))))) (.seq (.ops false [⟨some 4,.mv,[.c (.b true)],none,[]⟩]) .ret)))
def rs16 : List RV := [.tmp 4]
theorem fact16 : compF Try.prog 12 = some (ac16,rs16,32) := by kernel_rfl
theorem pure81 (s : ByteArray) : Pure Try.prog 69 [.s s] (.b (decide (s = s0) || isName s)) := by
  refine pure_by fact81 (by simp) fun hw X hX => ?_
  unfold ac81 rs81
  repeat' first | (show Run _ (.cond _ _ _) _ _; refine run_condX (fun hc => ?_) (fun hc => ?_) <;> (try simp only [qH, rng_0] at hc) <;> try contradiction) | (show RunOps _ _ _ _ (⟨_, .call 68, _, _, _⟩ :: _) _ _; refine run_callGX (hf := fun hc => (by first | exact pure70 _ | (simp only [qH, rng_0] at hc; exact pure70 _))) (hn := ?_)) | (first | refine Stp.h ?_ | (show ∀ K : St → List Ft → Prop, _; intro K hK) | (show runS _ _ _ _ _; first | refine qY (hq := ?_) | refine qZ (hq := ?_)) | (refine hK _ _ ?_; clear hK K) | (refine hK _ _ rfl ?_; clear hK K) | (refine qZ (hq := ?_); try exact trivial) | omega)
  exact .refl _
theorem pure33 (n a b : Int) : Pure Try.prog 70 [.i .i64 n, .i .i64 a, .i .i64 b] (.b (decide (n < a) || decide (b < n))) := by
  refine pure_by fact33 (by simp) fun hw X hX => ?_
  unfold ac33 rs33
  repeat' first | (show Run _ (.cond _ _ _) _ _; refine run_condX (fun hc => ?_) (fun hc => ?_) <;> (try simp only [qH, rng_0] at hc) <;> try contradiction) | (first | refine Stp.h ?_ | (show ∀ K : St → List Ft → Prop, _; intro K hK) | (show runS _ _ _ _ _; first | refine qY (hq := ?_) | refine qZ (hq := ?_)) | (refine hK _ _ ?_; clear hK K) | (refine hK _ _ rfl ?_; clear hK K) | (refine qZ (hq := ?_); try exact trivial) | omega)
  exact .refl _
theorem firstE_skip {e : Int} {r : List Int} (h : e = 0) : firstE (e :: r) = firstE r := by rw [firstE, if_pos h]
theorem firstE_stop {e : Int} {r : List Int} (h : e ≠ 0) : firstE (e :: r) = e := by rw [firstE, if_neg h]
theorem rng_3 {n a b : Int} (h : n < a ∨ b < n) : rng n a b = 3 := by rw [rng, if_pos h]
theorem nameE_0 {s : ByteArray} (h : isName s = true) : nameE s = 0 := by rw [nameE, if_neg (by simp [h])]
theorem nameE_8 {s : ByteArray} (h : isName s = false) : nameE s = 8 := by rw [nameE, if_pos h]
theorem optE_0 {s : ByteArray} (h : s = s0 ∨ isName s = true) : optE s = 0 := by rw [optE, if_neg]; rintro ⟨h1, h2⟩; rcases h with h | h <;> simp_all
theorem optE_8 {s : ByteArray} (h : ¬ s = s0 ∧ isName s = false) : optE s = 8 := by rw [optE, if_pos h]
theorem firstE_is {e k : Int} {r : List Int} (h : e = k) (hk : k ≠ 0) : firstE (e :: r) = k := by rw [firstE_stop (by rw [h]; exact hk), h]
theorem loadE_0 {a b c : Int} (h : 0 ≤ a ∧ a ≤ 999 ∧ 0 ≤ b ∧ b ≤ 9 ∧ 0 ≤ c ∧ c ≤ 99) : loadE a b c = 0 := by rw [loadE]; simp only [firstE, rng]; (repeat' split) <;> omega
theorem weakI {a b : Int} (h : a = b) : Weak (.i .i64 a) (.i .i64 b) := h ▸ .refl _
theorem weakB {a b : Bool} (h : a = b) : Weak (.b a) (.b b) := h ▸ .refl _
theorem kindE_0 {k : ByteArray} (h : ¬k = sA ∧ ¬k = sD → k = sT) : kindE k = 0 := by rw [kindE, if_neg]; rintro ⟨h1, h2, h3⟩; exact h3 (h ⟨h1, h2⟩)
theorem kindE_13 {k : ByteArray} (h : (¬k = sA ∧ ¬k = sD) ∧ ¬k = sT) : kindE k = 13 := by rw [kindE, if_pos ⟨h.1.1, h.1.2, h.2⟩]
theorem flightE_0 {k : ByteArray} (h : ¬k = sA → k = sD) : flightE k = 0 := by rw [flightE, if_neg]; rintro ⟨h1, h2⟩; exact h2 (h h1)
theorem flightE_13 {k : ByteArray} (h : ¬k = sA ∧ ¬k = sD) : flightE k = 13 := by rw [flightE, if_pos h]
theorem pure31 (l : Lim) : Pure Try.prog 38 [l.pv] (.i .i64 (chkLim l)) := by
  refine pure_by fact31 (by simp) fun hw X hX => ?_
  unfold ac31 rs31
  repeat' first | (show Run _ (.cond _ _ _) _ _; refine run_condX (fun hc => ?_) (fun hc => ?_) <;> (try simp only [qH, rng_0] at hc) <;> try contradiction) | (show RunOps _ _ _ _ (⟨_, .call 68, _, _, _⟩ :: _) _ _; refine run_callX (hf := pure70 _) (hn := ?_)) | (show RunOps _ _ _ _ (⟨_, .call 69, _, _, _⟩ :: _) _ _; refine run_callX (hf := pure81 _) (hn := ?_)) | (show RunOps _ _ _ _ (⟨_, .call 70, _, _, _⟩ :: _) _ _; refine run_callGX (hf := fun hc => (by first | exact pure33 _ _ _ | (simp only [qH, rng_0] at hc; exact pure33 _ _ _))) (hn := ?_)) | (show RunOps _ _ _ _ (⟨_, .call 67, _, _, _⟩ :: _) _ _; refine run_callX (hf := pure82 l.per) (hn := ?_)) | (first | refine Stp.h ?_ | (show ∀ K : St → List Ft → Prop, _; intro K hK) | (show runS _ _ _ _ _; first | refine qY (hq := ?_) | refine qZ (hq := ?_)) | (refine hK _ _ ?_; clear hK K) | (refine hK _ _ rfl ?_; clear hK K) | (refine qZ (hq := ?_); try exact trivial) | omega)
  all_goals (refine weakI (Eq.symm ?_); rw [chkLim]; (repeat refine Eq.trans (firstE_skip (by first | exact nameE_0 (by assumption) | exact kindE_0 (by assumption) | exact flightE_0 (by assumption) | exact optE_0 (by assumption) | exact rng_0.2 (by omega) | exact loadE_0 (by omega) | exact if_neg (by omega) | assumption)) ?_); first | rfl | exact firstE_is (by first | exact nameE_8 (by assumption) | exact kindE_13 (by assumption) | exact flightE_13 (by assumption) | exact optE_8 (by assumption) | exact rng_3 (by omega) | exact if_pos (by omega) | rfl) (by first | decide | assumption) | (simp only [firstE, rng, loadE]; (repeat' split) <;> omega))
theorem pure72 (l : List Lim) (n : ByteArray) : Pure Try.prog 42 [.sl 11 (l.map Lim.pv), .s n] (.i .i64 (atL n (l.map Lim.name))) := by
  refine pure_by fact72 (by simp) fun hw X hX => ?_
  unfold ac72 rs72
  simp only [wfs, PV.wf, List.length_map, maxLen] at hw
  repeat' first | (show Run _ (.cond _ _ _) _ _; refine run_condX (fun hc => ?_) (fun hc => ?_) <;> (try simp only [qH, rng_0] at hc) <;> try contradiction) | (first | refine Stp.h ?_ | (show ∀ K : St → List Ft → Prop, _; intro K hK) | (show runS _ _ _ _ _; first | refine qY (hq := ?_) | refine qZ (hq := ?_)) | (refine hK _ _ ?_; clear hK K) | (refine hK _ _ rfl ?_; clear hK K) | (refine qZ (hq := ?_); try exact trivial) | omega)
  refine run_loop (κ := Nat) (fun i => ⟨[(0, .p (.sl 11 (l.map Lim.pv))), (1, .p (.s n)), (5, .p (.i .i64 i))], [], [], false⟩) (fun i => i ≤ l.length ∧ ∀ x ∈ (l.map Lim.name).take i, x ≠ n) (fun i => l.length - i) 0 ?_ ?_ ?_
  · simp only [qS, Nat.reduceAdd, Nat.reduceMul, Nat.reduceEqDiff, Nat.reduceLeDiff, reduceIte, reduceCtorEq, Nat.reduceBEq, Nat.reduceLT] <;> rfl
  · simp
  · intro i hi
    repeat (first | refine Stp.h ?_ | (show ∀ K : St → List Ft → Prop, _; intro K hK) | (show runS _ _ _ _ _; first | refine qY (hq := ?_) | refine qZ (hq := ?_)) | (refine hK _ _ ?_; clear hK K) | (refine hK _ _ rfl ?_; clear hK K) | (refine qZ (hq := ?_); try exact trivial) | omega)
    (show Run _ (.cond _ _ _) _ _; refine run_condX (fun hc => ?_) (fun hc => ?_) <;> (try simp only [qH, rng_0] at hc) <;> try contradiction)
    · obtain ⟨x, hx⟩ := some_at (i := i) (l := l) (by omega)
      have qe := @hx; repeat' first | (show Run _ (.cond _ _ _) _ _; refine run_condX (fun hc => ?_) (fun hc => ?_) <;> (try simp only [qH, rng_0] at hc) <;> try contradiction) | (first | refine Stp.h ?_ | (show ∀ K : St → List Ft → Prop, _; intro K hK) | (show runS _ _ _ _ _; first | refine qY (hq := ?_) | refine qZ (hq := ?_)) | (refine hK _ _ ?_; clear hK K) | (refine hK _ _ rfl ?_; clear hK K) | (refine qZ (hq := ?_); try exact trivial) | omega)
      · rw [atL_hit hi.2 (by simp [hx, hc])]; exact .refl _
      · refine ⟨i + 1, ⟨by omega, fun y hy => ?_⟩, by omega, by simp⟩
        rw [← List.map_take, take_snoc _ hx] at hy
        rcases List.mem_append.1 hy with h | h
        · exact hi.2 y (by rw [← List.map_take]; exact h)
        · simp at h; subst h; exact hc
    · repeat' first | (show Run _ (.cond _ _ _) _ _; refine run_condX (fun hc => ?_) (fun hc => ?_) <;> (try simp only [qH, rng_0] at hc) <;> try contradiction) | (first | refine Stp.h ?_ | (show ∀ K : St → List Ft → Prop, _; intro K hK) | (show runS _ _ _ _ _; first | refine qY (hq := ?_) | refine qZ (hq := ?_)) | (refine hK _ _ ?_; clear hK K) | (refine hK _ _ rfl ?_; clear hK K) | (refine qZ (hq := ?_); try exact trivial) | omega)
      have e : i = l.length := by omega
      subst e
      rw [atL_end (fun y hy => hi.2 y (by rw [List.take_of_length_le (by simp)]; exact hy))]; exact .refl _
theorem pure23 (l : List Lim) : Pure Try.prog 13 [.sl 11 (l.map Lim.pv)] (.i .i64 (chkLims l)) := by
  refine pure_by fact23 (by simp) fun hw X hX => ?_
  unfold ac23 rs23
  simp only [wfs, PV.wf, List.length_map, maxLen] at hw
  repeat' first | (show Run _ (.cond _ _ _) _ _; refine run_condX (fun hc => ?_) (fun hc => ?_) <;> (try simp only [qH, rng_0] at hc) <;> try contradiction) | (first | refine Stp.h ?_ | (show ∀ K : St → List Ft → Prop, _; intro K hK) | (show runS _ _ _ _ _; first | refine qY (hq := ?_) | refine qZ (hq := ?_)) | (refine hK _ _ ?_; clear hK K) | (refine hK _ _ rfl ?_; clear hK K) | (refine qZ (hq := ?_); try exact trivial) | omega)
  · rw [chkLims, if_pos (by omega)]; exact .refl _
  refine run_loop (κ := Nat) (fun i => ⟨[(0, .p (.sl 11 (l.map Lim.pv))), (3, .p (.i .i64 i))], [], [], false⟩) (fun i => i ≤ l.length ∧ ∀ x ∈ (limErrs l).take i, x = 0) (fun i => l.length - i) 0 ?_ ?_ ?_
  · simp only [qS, Nat.reduceAdd, Nat.reduceMul, Nat.reduceEqDiff, Nat.reduceLeDiff, reduceIte, reduceCtorEq, Nat.reduceBEq, Nat.reduceLT] <;> rfl
  · simp
  · intro i hi
    repeat (first | refine Stp.h ?_ | (show ∀ K : St → List Ft → Prop, _; intro K hK) | (show runS _ _ _ _ _; first | refine qY (hq := ?_) | refine qZ (hq := ?_)) | (refine hK _ _ ?_; clear hK K) | (refine hK _ _ rfl ?_; clear hK K) | (refine qZ (hq := ?_); try exact trivial) | omega)
    (show Run _ (.cond _ _ _) _ _; refine run_condX (fun hc => ?_) (fun hc => ?_) <;> (try simp only [qH, rng_0] at hc) <;> try contradiction)
    · obtain ⟨x, hx⟩ := some_at (i := i) (l := l) (by omega)
      have key : ∀ e : Int, limErr l i x = e → e ≠ 0 → chkLims l = e := fun e he h0 => by subst he; unfold chkLims; rw [if_neg (by omega)]; exact firstE_at hi.2 (mapIdx_at hx) h0
      have qe := And.intro qR (And.intro @hx @take_map); repeat' first | (show Run _ (.cond _ _ _) _ _; refine run_condX (fun hc => ?_) (fun hc => ?_) <;> (try simp only [qH, rng_0] at hc) <;> try contradiction) | (show RunOps _ _ _ _ (⟨_, .call 38, _, _, _⟩ :: _) _ _; refine run_callX (hf := pure31 x) (hn := ?_)) | (show RunOps _ _ _ _ (⟨_, .call 42, _, _, _⟩ :: _) _ _; refine run_callX (hf := pure72 (l.take i) x.name) (hn := ?_)) | (first | refine Stp.h ?_ | (show ∀ K : St → List Ft → Prop, _; intro K hK) | (show runS _ _ _ _ _; first | refine qY (hq := ?_) | refine qZ (hq := ?_)) | (refine hK _ _ ?_; clear hK K) | (refine hK _ _ rfl ?_; clear hK K) | (refine qZ (hq := ?_); try exact trivial) | omega)
      · rw [key (chkLim x) (by rw [limErr, firstE_stop hc]) hc]; exact .refl _
      · rw [key 9 (by rw [limErr, firstE_skip (by assumption), firstE_is (if_pos hc) (by decide)]) (by decide)]; exact .refl _
      · exact ⟨i + 1, ⟨by omega, take_all hi.2 (mapIdx_at hx) (by rw [limErr, firstE_skip (by assumption), firstE_skip (if_neg (by omega)), firstE_nil])⟩, by omega, by simp⟩
    · repeat' first | (show Run _ (.cond _ _ _) _ _; refine run_condX (fun hc => ?_) (fun hc => ?_) <;> (try simp only [qH, rng_0] at hc) <;> try contradiction) | (first | refine Stp.h ?_ | (show ∀ K : St → List Ft → Prop, _; intro K hK) | (show runS _ _ _ _ _; first | refine qY (hq := ?_) | refine qZ (hq := ?_)) | (refine hK _ _ ?_; clear hK K) | (refine hK _ _ rfl ?_; clear hK K) | (refine qZ (hq := ?_); try exact trivial) | omega)
      have e : i = (limErrs l).length := by simp [limErrs]; omega
      subst e
      rw [chkLims, if_neg (by omega), firstE_end hi.2]; exact .refl _
theorem pure45 (m : Mov) : Pure Try.prog 43 [m.pv] (.i .i64 (chkMov m)) := by
  refine pure_by fact45 (by simp) fun hw X hX => ?_
  unfold ac45 rs45
  repeat' first | (show Run _ (.cond _ _ _) _ _; refine run_condX (fun hc => ?_) (fun hc => ?_) <;> (try simp only [qH, rng_0] at hc) <;> try contradiction) | (show RunOps _ _ _ _ (⟨_, .call 68, _, _, _⟩ :: _) _ _; refine run_callX (hf := pure70 _) (hn := ?_)) | (show RunOps _ _ _ _ (⟨_, .call 69, _, _, _⟩ :: _) _ _; refine run_callX (hf := pure81 _) (hn := ?_)) | (show RunOps _ _ _ _ (⟨_, .call 70, _, _, _⟩ :: _) _ _; refine run_callX (hf := pure33 _ _ _) (hn := ?_)) | (show RunOps _ _ _ _ (⟨_, .call 70, _, _, _⟩ :: _) _ _; refine run_callGX (hf := fun hc => (by first | exact pure33 _ _ _ | (simp only [qH, rng_0] at hc; exact pure33 _ _ _))) (hn := ?_)) | (first | refine Stp.h ?_ | (show ∀ K : St → List Ft → Prop, _; intro K hK) | (show runS _ _ _ _ _; first | refine qY (hq := ?_) | refine qZ (hq := ?_)) | (refine hK _ _ ?_; clear hK K) | (refine hK _ _ rfl ?_; clear hK K) | (refine qZ (hq := ?_); try exact trivial) | omega)
  all_goals (refine weakI (Eq.symm ?_); rw [chkMov]; (repeat refine Eq.trans (firstE_skip (by first | exact nameE_0 (by assumption) | exact kindE_0 (by assumption) | exact flightE_0 (by assumption) | exact optE_0 (by assumption) | exact rng_0.2 (by omega) | exact loadE_0 (by omega) | exact if_neg (by omega) | assumption)) ?_); first | rfl | exact firstE_is (by first | exact nameE_8 (by assumption) | exact kindE_13 (by assumption) | exact flightE_13 (by assumption) | exact optE_8 (by assumption) | exact rng_3 (by omega) | exact if_pos (by omega) | rfl) (by first | decide | assumption) | (simp only [firstE, rng, loadE]; (repeat' split) <;> omega))
theorem pure25 (l : List Mov) : Pure Try.prog 14 [.sl 7 (l.map Mov.pv)] (.i .i64 (chkMovs l)) := by
  refine pure_by fact25 (by simp) fun hw X hX => ?_
  unfold ac25 rs25
  simp only [wfs, PV.wf, List.length_map, maxLen] at hw
  repeat' first | (show Run _ (.cond _ _ _) _ _; refine run_condX (fun hc => ?_) (fun hc => ?_) <;> (try simp only [qH, rng_0] at hc) <;> try contradiction) | (first | refine Stp.h ?_ | (show ∀ K : St → List Ft → Prop, _; intro K hK) | (show runS _ _ _ _ _; first | refine qY (hq := ?_) | refine qZ (hq := ?_)) | (refine hK _ _ ?_; clear hK K) | (refine hK _ _ rfl ?_; clear hK K) | (refine qZ (hq := ?_); try exact trivial) | omega)
  · rw [chkMovs, if_pos (by omega)]; exact .refl _
  refine run_loop (κ := Nat) (fun i => ⟨[(0, .p (.sl 7 (l.map Mov.pv))), (3, .p (.i .i64 i))], [], [], false⟩) (fun i => i ≤ l.length ∧ ∀ x ∈ (movErrs l).take i, x = 0) (fun i => l.length - i) 0 ?_ ?_ ?_
  · simp only [qS, Nat.reduceAdd, Nat.reduceMul, Nat.reduceEqDiff, Nat.reduceLeDiff, reduceIte, reduceCtorEq, Nat.reduceBEq, Nat.reduceLT] <;> rfl
  · simp
  · intro i hi
    repeat (first | refine Stp.h ?_ | (show ∀ K : St → List Ft → Prop, _; intro K hK) | (show runS _ _ _ _ _; first | refine qY (hq := ?_) | refine qZ (hq := ?_)) | (refine hK _ _ ?_; clear hK K) | (refine hK _ _ rfl ?_; clear hK K) | (refine qZ (hq := ?_); try exact trivial) | omega)
    (show Run _ (.cond _ _ _) _ _; refine run_condX (fun hc => ?_) (fun hc => ?_) <;> (try simp only [qH, rng_0] at hc) <;> try contradiction)
    · obtain ⟨x, hx⟩ := some_at (i := i) (l := l) (by omega)
      have key : ∀ e : Int, movErr l i x = e → e ≠ 0 → chkMovs l = e := fun e he h0 => by subst he; unfold chkMovs; rw [if_neg (by omega)]; exact firstE_at hi.2 (mapIdx_at hx) h0
      obtain ⟨y, hy⟩ := some_at (i := i - 1) (l := l) (by omega)
      have e1 : ((i : Int) - 1).toNat = i - 1 := by omega
      have he : movErr l i x = firstE [chkMov x, if 0 < (i : Int) ∧ x.moment < y.moment then 11 else 0] := by rw [movErr, hy]; rfl
      have qe := And.intro qR (And.intro @hx (And.intro @hy @e1)); repeat' first | (show Run _ (.cond _ _ _) _ _; refine run_condX (fun hc => ?_) (fun hc => ?_) <;> (try simp only [qH, rng_0] at hc) <;> try contradiction) | (show RunOps _ _ _ _ (⟨_, .call 43, _, _, _⟩ :: _) _ _; refine run_callX (hf := pure45 x) (hn := ?_)) | (first | refine Stp.h ?_ | (show ∀ K : St → List Ft → Prop, _; intro K hK) | (show runS _ _ _ _ _; first | refine qY (hq := ?_) | refine qZ (hq := ?_)) | (refine hK _ _ ?_; clear hK K) | (refine hK _ _ rfl ?_; clear hK K) | (refine qZ (hq := ?_); try exact trivial) | omega)
      · rw [key (chkMov x) (by rw [he, firstE_stop hc]) hc]; exact .refl _
      · rw [key 11 (by rw [he, firstE_skip (by assumption), firstE_is (if_pos (by omega)) (by decide)]) (by decide)]; exact .refl _
      · exact ⟨i + 1, ⟨by omega, take_all hi.2 (mapIdx_at hx) (by rw [he, firstE_skip (by assumption), firstE_skip (if_neg (by omega)), firstE_nil])⟩, by omega, by simp⟩
    · repeat' first | (show Run _ (.cond _ _ _) _ _; refine run_condX (fun hc => ?_) (fun hc => ?_) <;> (try simp only [qH, rng_0] at hc) <;> try contradiction) | (first | refine Stp.h ?_ | (show ∀ K : St → List Ft → Prop, _; intro K hK) | (show runS _ _ _ _ _; first | refine qY (hq := ?_) | refine qZ (hq := ?_)) | (refine hK _ _ ?_; clear hK K) | (refine hK _ _ rfl ?_; clear hK K) | (refine qZ (hq := ?_); try exact trivial) | omega)
      have e : i = (movErrs l).length := by simp [movErrs]; omega
      subst e
      rw [chkMovs, if_neg (by omega), firstE_end hi.2]; exact .refl _
def fewB (p : Per) (n : Int) : Bool := !decide (chkPer p = 0) || decide (p.to - p.fro < n)
theorem pure75 (p : Per) (n : Int) : Pure Try.prog 37 [p.pv, .i .i64 n] (.b (fewB p n)) := by
  refine pure_by fact75 (by simp) fun hw X hX => ?_
  unfold ac75 rs75
  by_cases h : chkPer p = 0
  · have hp := chkPer_0 h
    have h' := eq_true h
    have qe := @h'; repeat' first | (show Run _ (.cond _ _ _) _ _; refine run_condX (fun hc => ?_) (fun hc => ?_) <;> (try simp only [qH, rng_0] at hc) <;> try contradiction) | (show RunOps _ _ _ _ (⟨_, .call 67, _, _, _⟩ :: _) _ _; refine run_callX (hf := pure82 p) (hn := ?_)) | (first | refine Stp.h ?_ | (show ∀ K : St → List Ft → Prop, _; intro K hK) | (show runS _ _ _ _ _; first | refine qY (hq := ?_) | refine qZ (hq := ?_)) | (refine hK _ _ ?_; clear hK K) | (refine hK _ _ rfl ?_; clear hK K) | (refine qZ (hq := ?_); try exact trivial) | omega)
    simp only [fewB, h', decide_true, Bool.not_true, Bool.false_or]; exact .refl _
  · have h' := eq_false h
    have qe := @h'; repeat' first | (show Run _ (.cond _ _ _) _ _; refine run_condX (fun hc => ?_) (fun hc => ?_) <;> (try simp only [qH, rng_0] at hc) <;> try contradiction) | (show RunOps _ _ _ _ (⟨_, .call 67, _, _, _⟩ :: _) _ _; refine run_callX (hf := pure82 p) (hn := ?_)) | (first | refine Stp.h ?_ | (show ∀ K : St → List Ft → Prop, _; intro K hK) | (show runS _ _ _ _ _; first | refine qY (hq := ?_) | refine qZ (hq := ?_)) | (refine hK _ _ ?_; clear hK K) | (refine hK _ _ rfl ?_; clear hK K) | (refine qZ (hq := ?_); try exact trivial) | omega)
    simp only [fewB, h', decide_false, Bool.not_false, Bool.true_or]; exact .refl _
theorem pure76 (l : Lim) (h : chkLim l = 0) : Pure Try.prog 39 [l.pv] (.i .i64 (begN l)) := by
  have hl := chkLim_0 h
  have hq1 : (l.fro + l.step - 1).tdiv l.step = l.from_ := Int.tdiv_eq_ediv_of_nonneg (by omega)
  have hq2 : l.to.tdiv l.step = l.to / l.step := Int.tdiv_eq_ediv_of_nonneg (by omega)
  have hb1 : 0 ≤ l.from_ := Int.ediv_nonneg (by omega) (by omega)
  have hb2 : l.from_ ≤ l.fro + l.step - 1 := Int.ediv_le_self _ (by omega)
  have hb3 : 0 ≤ l.to / l.step := Int.ediv_nonneg (by omega) (by omega)
  have hb4 : l.to / l.step ≤ l.to := Int.ediv_le_self _ (by omega)
  have hN : l.to / l.step - l.from_ + 1 = (begN l : Int) := by
    unfold begN
    have : (l.fro - 1) / l.step ≤ l.to / l.step := Int.ediv_le_ediv (by omega) (by omega)
    have e : l.from_ = (l.fro - 1) / l.step + 1 := by unfold Lim.from_; rw [show l.fro + l.step - 1 = l.fro - 1 + 1 * l.step by omega, Int.add_mul_ediv_right _ _ (by omega)]
    omega
  refine pure_by fact76 (by simp) fun hw X hX => ?_
  unfold ac76 rs76
  have qe := And.intro @hq1 @hq2; repeat' first | (show Run _ (.cond _ _ _) _ _; refine run_condX (fun hc => ?_) (fun hc => ?_) <;> (try simp only [qH, rng_0] at hc) <;> try contradiction) | (first | refine Stp.h ?_ | (show ∀ K : St → List Ft → Prop, _; intro K hK) | (show runS _ _ _ _ _; first | refine qY (hq := ?_) | refine qZ (hq := ?_)) | (refine hK _ _ ?_; clear hK K) | (refine hK _ _ rfl ?_; clear hK K) | (refine qZ (hq := ?_); try exact trivial) | omega)
  rw [hN]; exact .refl _
def shMov (m : Mov) : Bool := (decide (m.kind.size ≤ 40) && decide (m.term.size ≤ 40)) && decide (m.name.size ≤ 40)
theorem natle (n : Nat) : (decide ((n : Int) ≤ 40)) = decide (n ≤ 40) := by simp; omega
theorem pure42 (m : Mov) : Pure Try.prog 41 [m.pv] (.b (shMov m)) := by
  refine pure_by fact42 (by simp) fun hw X hX => ?_
  unfold ac42 rs42
  repeat' first | (show Run _ (.cond _ _ _) _ _; refine run_condX (fun hc => ?_) (fun hc => ?_) <;> (try simp only [qH, rng_0] at hc) <;> try contradiction) | (first | refine Stp.h ?_ | (show ∀ K : St → List Ft → Prop, _; intro K hK) | (show runS _ _ _ _ _; first | refine qY (hq := ?_) | refine qZ (hq := ?_)) | (refine hK _ _ ?_; clear hK K) | (refine hK _ _ rfl ?_; clear hK K) | (refine qZ (hq := ?_); try exact trivial) | omega)
  rw [shMov]; refine weakB ?_; simp only [← natle]
def shMovs (l : List Mov) (n : Int) : Bool := !((decide (n < l.length) && decide ((l.length : Int) ≤ 30000)) || decide (30002 < (l.length : Int))) && l.all shMov
theorem all_no {α : Type} {l : List α} {p : α → Bool} {i : Nat} {x : α} (hx : l[i]? = some x) (hp : p x = false) : l.all p = false := by
  cases h : l.all p
  · rfl
  · rw [List.all_eq_true] at h; rw [h x (List.mem_of_getElem? hx)] at hp; exact hp
theorem all_next {α : Type} {l : List α} {p : α → Bool} {i : Nat} {x : α} (h : ∀ y ∈ l.take i, p y = true) (hx : l[i]? = some x) (hp : p x = true) : ∀ y ∈ l.take (i + 1), p y = true := by
  intro y hy
  rw [List.take_add_one, hx] at hy
  rcases List.mem_append.1 hy with hy | hy
  · exact h y hy
  · simp at hy; subst hy; exact hp
theorem all_end {α : Type} {l : List α} {p : α → Bool} (h : ∀ y ∈ l.take l.length, p y = true) : l.all p = true := by
  rw [List.take_length] at h; rw [List.all_eq_true]; exact h
theorem pure16 (l : List Mov) (n : Int) : Pure Try.prog 12 [.sl 7 (l.map Mov.pv), .i .i64 n] (.b (shMovs l n)) := by
  refine pure_by fact16 (by simp) fun hw X hX => ?_
  unfold ac16 rs16
  simp only [wfs, PV.wf, List.length_map, maxLen] at hw
  repeat' first | (show Run _ (.cond _ _ _) _ _; refine run_condX (fun hc => ?_) (fun hc => ?_) <;> (try simp only [qH, rng_0] at hc) <;> try contradiction) | (first | refine Stp.h ?_ | (show ∀ K : St → List Ft → Prop, _; intro K hK) | (show runS _ _ _ _ _; first | refine qY (hq := ?_) | refine qZ (hq := ?_)) | (refine hK _ _ ?_; clear hK K) | (refine hK _ _ rfl ?_; clear hK K) | (refine qZ (hq := ?_); try exact trivial) | omega)
  · have : ((decide (n < l.length) && decide ((l.length : Int) ≤ 30000)) || decide (30002 < (l.length : Int))) = true := by simpa using hc
    rw [shMovs, this]; exact .refl _
  have hsh : ((decide (n < l.length) && decide ((l.length : Int) ≤ 30000)) || decide (30002 < (l.length : Int))) = false := by simpa using hc
  refine run_loop (κ := Nat) (fun i => ⟨[(0, .p (.sl 7 (l.map Mov.pv))), (5, .p (.i .i64 i))], [], [], false⟩) (fun i => i ≤ l.length ∧ ∀ x ∈ l.take i, shMov x = true) (fun i => l.length - i) 0 ?_ ?_ ?_
  · simp only [qS, Nat.reduceAdd, Nat.reduceMul, Nat.reduceEqDiff, Nat.reduceLeDiff, reduceIte, reduceCtorEq, Nat.reduceBEq, Nat.reduceLT] <;> rfl
  · simp
  · intro i hi
    repeat (first | refine Stp.h ?_ | (show ∀ K : St → List Ft → Prop, _; intro K hK) | (show runS _ _ _ _ _; first | refine qY (hq := ?_) | refine qZ (hq := ?_)) | (refine hK _ _ ?_; clear hK K) | (refine hK _ _ rfl ?_; clear hK K) | (refine qZ (hq := ?_); try exact trivial) | omega)
    (show Run _ (.cond _ _ _) _ _; refine run_condX (fun hc => ?_) (fun hc => ?_) <;> (try simp only [qH, rng_0] at hc) <;> try contradiction)
    · obtain ⟨x, hx⟩ := some_at (i := i) (l := l) (by omega)
      have qe := And.intro qR @hx; repeat' first | (show Run _ (.cond _ _ _) _ _; refine run_condX (fun hc => ?_) (fun hc => ?_) <;> (try simp only [qH, rng_0] at hc) <;> try contradiction) | (show RunOps _ _ _ _ (⟨_, .call 41, _, _, _⟩ :: _) _ _; refine run_callX (hf := pure42 x) (hn := ?_)) | (first | refine Stp.h ?_ | (show ∀ K : St → List Ft → Prop, _; intro K hK) | (show runS _ _ _ _ _; first | refine qY (hq := ?_) | refine qZ (hq := ?_)) | (refine hK _ _ ?_; clear hK K) | (refine hK _ _ rfl ?_; clear hK K) | (refine qZ (hq := ?_); try exact trivial) | omega)
      · rw [shMovs, hsh, all_no hx hc]; exact .refl _
      · exact ⟨i + 1, ⟨by omega, all_next hi.2 hx hc⟩, by omega, by simp⟩
    · repeat' first | (show Run _ (.cond _ _ _) _ _; refine run_condX (fun hc => ?_) (fun hc => ?_) <;> (try simp only [qH, rng_0] at hc) <;> try contradiction) | (first | refine Stp.h ?_ | (show ∀ K : St → List Ft → Prop, _; intro K hK) | (show runS _ _ _ _ _; first | refine qY (hq := ?_) | refine qZ (hq := ?_)) | (refine hK _ _ ?_; clear hK K) | (refine hK _ _ rfl ?_; clear hK K) | (refine qZ (hq := ?_); try exact trivial) | omega)
      have e : i = l.length := by omega
      subst e
      rw [shMovs, hsh, all_end hi.2]; exact .refl _
end Go.Proofs.Ytcfbdeghmckelaa
namespace Go.Proofs.Ytcfbdeghmckelaa
open Go.RowKit
set_option maxRecDepth 100000
set_option linter.unusedVariables false
set_option linter.unusedSimpArgs false
set_option maxHeartbeats 2000000
theorem Pure.args {P : Program} {f : FuncId} {args args' : List PV} {r : PV} (h : Pure P f args r) (hl : args'.length = args.length) (hw : ∀ (j : Nat) (x y : PV), args'[j]? = some x → args[j]? = some y → Weak x y) : Pure P f args' r :=
  ⟨h.1, fun w B vs hB hr => h.2 w B vs hB ⟨hr.1.trans hl, fun j v p hv hp => by
    have hj : j < args'.length := by rw [hl]; exact (List.getElem?_eq_some_iff.1 hp).1
    exact (hw j _ p (List.getElem?_eq_getElem hj) hp).rep (hr.2 j v _ hv (List.getElem?_eq_getElem hj))⟩⟩
theorem flat_le {α β : Type} {f : α → List β} {c : Nat} : ∀ {l : List α}, (∀ x ∈ l, (f x).length ≤ c) → (l.flatMap f).length ≤ l.length * c
  | [], _ => by simp
  | x :: r, h => by
    have h1 := h x (by simp)
    have h2 := flat_le (l := r) fun y hy => h y (by simp [hy])
    simp only [List.flatMap_cons, List.length_append, List.length_cons, Nat.succ_mul]; omega
theorem filter_take {α : Type} {l : List α} {p : α → Bool} {k : Nat} {x : α} (h : l[k]? = some x) : (l.take (k + 1)).filter p = (l.take k).filter p ++ (if p x then [x] else []) := by
  rw [List.take_add_one, h, List.filter_append]
  cases hp : p x <;> simp [List.filter_cons, hp]
theorem filter_tlen {α : Type} {l : List α} {p : α → Bool} {k : Nat} : ((l.take k).filter p).length ≤ l.length := by
  have := List.length_filter_le p (l.take k)
  simp only [List.length_take] at this; omega
theorem decS_self (x : ByteArray) : (decide (x = x)) = true := decide_eq_true rfl
theorem ne_self (x : Int) : (x = x) = True := eq_true rfl
theorem neS_self (x : ByteArray) : (x = x) = True := eq_true rfl
theorem pure41 (l : List Int) : Pure Try.prog 21 [.sl 1 (l.map (.i .i64)), .sl 1 (l.map (.i .i64))] (.b true) := by
  refine pure_by fact41 (by simp) fun hw X hX => ?_
  unfold ac41 rs41
  simp only [wfs, PV.wf, List.length_map, maxLen] at hw
  have qe := And.intro @dec_self (And.intro @decS_self (And.intro @ne_self @neS_self)); repeat' first | (show Run _ (.cond _ _ _) _ _; refine run_condX (fun hc => ?_) (fun hc => ?_) <;> (try simp only [qH, rng_0] at hc) <;> try contradiction) | (first | refine Stp.h ?_ | (show ∀ K : St → List Ft → Prop, _; intro K hK) | (show runS _ _ _ _ _; first | refine qY (hq := ?_) | refine qZ (hq := ?_)) | (refine hK _ _ ?_; clear hK K) | (refine hK _ _ rfl ?_; clear hK K) | (refine qZ (hq := ?_); try exact trivial) | omega)
  refine run_loop (κ := Nat) (fun i => ⟨[(0, .p (.sl 1 (l.map (.i .i64)))), (1, .p (.sl 1 (l.map (.i .i64)))), (5, .p (.i .i64 i))], [], [], false⟩) (fun i => i ≤ l.length) (fun i => l.length - i) 0 ?_ ?_ ?_
  · simp only [qS, Nat.reduceAdd, Nat.reduceMul, Nat.reduceEqDiff, Nat.reduceLeDiff, reduceIte, reduceCtorEq, Nat.reduceBEq, Nat.reduceLT] <;> rfl
  · simp
  · intro i hi
    repeat (first | refine Stp.h ?_ | (show ∀ K : St → List Ft → Prop, _; intro K hK) | (show runS _ _ _ _ _; first | refine qY (hq := ?_) | refine qZ (hq := ?_)) | (refine hK _ _ ?_; clear hK K) | (refine hK _ _ rfl ?_; clear hK K) | (refine qZ (hq := ?_); try exact trivial) | omega)
    (show Run _ (.cond _ _ _) _ _; refine run_condX (fun hc => ?_) (fun hc => ?_) <;> (try simp only [qH, rng_0] at hc) <;> try contradiction)
    · obtain ⟨x, hx⟩ := some_at (i := i) (l := l) (by omega)
      have qe := And.intro @hx (And.intro @dec_self (And.intro @decS_self (And.intro @ne_self @neS_self))); repeat' first | (show Run _ (.cond _ _ _) _ _; refine run_condX (fun hc => ?_) (fun hc => ?_) <;> (try simp only [qH, rng_0] at hc) <;> try contradiction) | (first | refine Stp.h ?_ | (show ∀ K : St → List Ft → Prop, _; intro K hK) | (show runS _ _ _ _ _; first | refine qY (hq := ?_) | refine qZ (hq := ?_)) | (refine hK _ _ ?_; clear hK K) | (refine hK _ _ rfl ?_; clear hK K) | (refine qZ (hq := ?_); try exact trivial) | omega)
      exact ⟨i + 1, by omega, by omega, by simp⟩
    · repeat' first | (show Run _ (.cond _ _ _) _ _; refine run_condX (fun hc => ?_) (fun hc => ?_) <;> (try simp only [qH, rng_0] at hc) <;> try contradiction) | (first | refine Stp.h ?_ | (show ∀ K : St → List Ft → Prop, _; intro K hK) | (show runS _ _ _ _ _; first | refine qY (hq := ?_) | refine qZ (hq := ?_)) | (refine hK _ _ ?_; clear hK K) | (refine hK _ _ rfl ?_; clear hK K) | (refine qZ (hq := ?_); try exact trivial) | omega)
      exact .refl _
theorem daysL_mem {p : Per} {d : Int} (h : d ∈ daysL p) : p.fro ≤ d ∧ d ≤ p.to ∧ inM p.days ((d + 5) % 7) = true := by
  obtain ⟨k, hk, hd⟩ := List.mem_flatMap.1 h
  split at hd
  · simp at hd; subst hd
    have := List.mem_range.1 hk
    exact ⟨by omega, by omega, by assumption⟩
  · cases hd
theorem hasB_days {p : Per} (h : chkPer p = 0) (d : Int) : hasB p d = decide (d ∈ daysL p) := by
  have hp := chkPer_0 h
  by_cases hm : d ∈ daysL p
  · have := daysL_mem hm
    rw [decide_eq_true hm]
    have he : hasE p d = 0 := by rw [hasE]; simp only [firstE_cons, rng_0]; exact ⟨by assumption, ⟨by omega, by omega⟩, rfl⟩
    simp [hasB, he, hasD, this]
  · rw [decide_eq_false hm]
    cases hb : hasB p d
    · rfl
    · exfalso; apply hm
      simp only [hasB, hasD, Bool.and_eq_true, decide_eq_true_eq] at hb
      refine List.mem_flatMap.2 ⟨(d - p.fro).toNat, List.mem_range.2 (by omega), ?_⟩
      rw [Int.toNat_of_nonneg (by omega), show p.fro + (d - p.fro) = d by omega, if_pos hb.2.2]
      simp
theorem flat_congr {α β : Type} {f g : α → List β} : ∀ {l : List α}, (∀ x ∈ l, f x = g x) → l.flatMap f = l.flatMap g
  | [], _ => rfl
  | x :: r, h => by rw [List.flatMap_cons, List.flatMap_cons, h x (by simp), flat_congr fun y hy => h y (by simp [hy])]
theorem beginsL_day {l : Lim} (h : chkLim l = 0) (d : Int) : beginsL l d = if d ∈ daysL l.per then begK l d (begN l) else [] := by
  have hl := chkLim_0 h
  have hb := hasB_days hl.2.2.2.2.2.2.2.1 d
  by_cases hm : d ∈ daysL l.per
  · have hd := daysL_mem hm
    rw [beginsL, if_pos hm, if_pos]
    rw [decide_eq_true hm] at hb
    simp only [begOk, hb, Bool.not_true, Bool.or_false, Bool.not_eq_true', Bool.or_eq_false_iff, decide_eq_false_iff_not]; omega
  · rw [beginsL, if_neg hm, if_neg]
    rw [decide_eq_false hm] at hb
    simp [begOk, hb]
theorem windows_eq {l : Lim} (h : chkLim l = 0) : windowsL l = (daysL l.per).flatMap fun d => begK l d (begN l) := by
  have hl := chkLim_0 h
  have hp := hl.2.2.2.2.2.2.2.1
  unfold windowsL winK winN daysL
  rw [List.flatMap_assoc]
  refine flat_congr fun k hk => ?_
  have hk := List.mem_range.1 hk
  rw [beginsL_day h]
  have hb := hasB_days hp (l.per.fro + k)
  have hpp := chkPer_0 hp
  have he : hasE l.per (l.per.fro + k) = 0 := by rw [hasE]; simp only [firstE_cons, rng_0]; exact ⟨by assumption, ⟨by omega, by omega⟩, rfl⟩
  have hi : hasB l.per (l.per.fro + k) = inM l.per.days ((l.per.fro + k + 5) % 7) := by
    simp only [hasB, he, hasD, decide_true, Bool.true_and, show l.per.fro ≤ l.per.fro + (k : Int) by omega, show l.per.fro + (k : Int) ≤ l.per.to by omega]
  rw [hi] at hb
  rw [hb]
  simp only [decide_eq_true_eq]
  split <;> simp
end Go.Proofs.Ytcfbdeghmckelaa
namespace Go.Proofs.Ytcfbdeghmckelaa
open Go.RowKit
set_option maxRecDepth 100000
set_option linter.unusedVariables false
set_option linter.unusedSimpArgs false
set_option maxHeartbeats 2000000
def ac15 : AC := .seq (.ops false [⟨some 4,.mv,[.c (.b false)],none,[]⟩]) (.seq (.seq (.ops false [⟨some 7,.mv,[.t 0],none,[]⟩,⟨some 8,.len false,[.t 7],none,[0]⟩,⟨some 9,.mv,[.t 1],none,[]⟩,⟨some 10,.bin .gtr,[.t 8,.t 9],none,[1,2]⟩,⟨some 11,.mv,[.t 10],none,[3]⟩,⟨some 12,.mv,[.t 0],some (11,true),[4]⟩,⟨some 13,.len false,[.t 12],some (11,true),[5,4]⟩,⟨some 14,.bin .leq,[.t 13,.c (.i .i64 32)],some (11,true),[6,4]⟩,⟨some 15,.pick,[.t 11,.t 14,.c (.b false)],none,[4,7]⟩,⟨some 16,.mv,[.t 15],none,[8,4]⟩,⟨some 17,.mv,[.t 0],some (16,false),[9]⟩,⟨some 18,.len false,[.t 17],some (16,false),[10,9]⟩,⟨some 19,.bin .gtr,[.t 18,.c (.i .i64 34)],some (16,false),[11,9]⟩,⟨some 20,.pick,[.t 16,.c (.b true),.t 19],none,[9,12]⟩]) (.cond (.t 20) (.seq (.ops false [⟨some 4,.mv,[.c (.b false)],none,[]⟩]) .ret) .skip)) (.seq (.ops false [⟨some 5,.mv,[.c (.i .i64 0)],none,[]⟩]) (.seq (.seq (.ops false [⟨some 6,.mv,[.c (.i .i64 0)],none,[]⟩]) (.block 0 (.loop (.seq (.seq (.ops false [⟨some 21,.mv,[.t 6],none,[]⟩,⟨some 22,.mv,[.t 0],none,[]⟩,⟨some 23,.len false,[.t 22],none,[1]⟩,⟨some 24,.bin .lss,[.t 21,.t 23],none,[0,2]⟩]) (.cond (.t 24) .skip (.exit 0))) (.seq (.block 1 (.seq (.seq (.ops false [⟨some 27,.mv,[.t 0],none,[]⟩,⟨some 28,.mv,[.t 6],none,[]⟩,⟨some 29,.iadrS 11,[.t 27,.t 28],none,[0,1]⟩,⟨some 30,.fadr 0,[.t 29],none,[2]⟩,⟨some 31,.load 1 false,[.t 30],none,[3]⟩,⟨some 32,.len true,[.t 31],none,[4]⟩,⟨some 33,.bin .gtr,[.t 32,.c (.i .i64 40)],none,[5]⟩,⟨some 34,.mv,[.t 33],none,[6]⟩,⟨some 35,.mv,[.t 0],some (34,false),[7]⟩,⟨some 36,.mv,[.t 6],some (34,false),[7]⟩,⟨some 37,.iadrS 11,[.t 35,.t 36],some (34,false),[8,9,7]⟩,⟨some 38,.fadr 1,[.t 37],some (34,false),[10,7]⟩,⟨some 39,.load 1 false,[.t 38],some (34,false),[11,7]⟩,⟨some 40,.len true,[.t 39],some (34,false),[12,7]⟩,⟨some 41,.bin .gtr,[.t 40,.c (.i .i64 40)],some (34,false),[13,7]⟩,⟨some 42,.pick,[.t 34,.c (.b true),.t 41],none,[7,14]⟩,⟨some 43,.mv,[.t 42],none,[15,7]⟩,⟨some 44,.mv,[.t 0],some (43,false),[16]⟩,⟨some 45,.mv,[.t 6],some (43,false),[16]⟩,⟨some 46,.iadrS 11,[.t 44,.t 45],some (43,false),[17,18,16]⟩,⟨some 47,.fadr 2,[.t 46],some (43,false),[19,16]⟩,⟨some 48,.load 1 false,[.t 47],some (43,false),[20,16]⟩,⟨some 49,.len true,[.t 48],some (43,false),[21,16]⟩,⟨some 50,.bin .gtr,[.t 49,.c (.i .i64 40)],some (43,false),[22,16]⟩,⟨some 51,.pick,[.t 43,.c (.b true),.t 50],none,[16,23]⟩,⟨some 52,.mv,[.t 51],none,[24,16]⟩,⟨some 53,.mv,[.t 0],some (52,false),[25]⟩,⟨some 54,.mv,[.t 6],some (52,false),[25]⟩,⟨some 55,.iadrS 11,[.t 53,.t 54],some (52,false),[26,27,25]⟩,⟨some 56,.fadr 7,[.t 55],some (52,false),[28,25]⟩,⟨some 57,.load 3 true,[.t 56],some (52,false),[29,25]⟩,⟨some 58,.call 37,[.t 57,.c (.i .i64 24)],some (52,false),[30,25,25]⟩,⟨some 59,.not,[.t 58],some (52,false),[31,25]⟩,⟨some 60,.pick,[.t 52,.c (.b true),.t 59],none,[25,32]⟩]) (.cond (.t 60) (.seq (.ops false [⟨some 4,.mv,[.c (.b false)],none,[]⟩]) .ret) .skip)) (.seq (.ops false [⟨some 61,.mv,[.t 0],none,[]⟩,⟨some 62,.mv,[.t 6],none,[]⟩,⟨some 63,.iadrS 11,[.t 61,.t 62],none,[0,1]⟩,⟨some 64,.load 11 true,[.t 63],none,[2]⟩,⟨some 65,.call 38,[.t 64],none,[3]⟩,⟨some 66,.bin .eql,[.t 65,.c (.i .i64 0)],none,[4]⟩]) (.cond (.t 66) (.ops true [⟨some 67,.mv,[.t 5],none,[]⟩,⟨some 68,.mv,[.t 0],none,[]⟩,⟨some 69,.mv,[.t 6],none,[]⟩,⟨some 70,.iadrS 11,[.t 68,.t 69],none,[1,2]⟩,⟨some 71,.load 11 true,[.t 70],none,[3]⟩,⟨some 72,.call 39,[.t 71],none,[4]⟩,⟨some 73,.mv,[.t 0],none,[]⟩,⟨some 74,.mv,[.t 6],none,[]⟩,⟨some 75,.iadrS 11,[.t 73,.t 74],none,[6,7]⟩,⟨some 76,.fadr 7,[.t 75],none,[8]⟩,⟨some 77,.load 3 true,[.t 76],none,[9]⟩,⟨some 78,.call 40,[.t 77],none,[10,5]⟩,⟨some 79,.len false,[.t 78],none,[11]⟩,⟨some 80,.bin .mul,[.t 72,.t 79],none,[5,12]⟩,⟨some 81,.bin .add,[.t 67,.t 80],none,[0,13]⟩,⟨some 5,.mv,[.t 81],none,[14,11,0,1,2,3,4,5,6,7,8,9,10,11,12,13,14]⟩]) .skip)))) (.ops false [⟨some 25,.mv,[.t 6],none,[]⟩,⟨some 26,.bin .add,[.t 25,.c (.i .i64 1)],none,[0]⟩,⟨some 6,.mv,[.t 26],none,[1,0,1]⟩])))))) (.seq (.ops false [⟨some 82,.mv,[.t 5],none,[]⟩,⟨some 83,.bin .leq,[.t 82,.c (.i .i64 400)],none,[0]⟩,⟨some 4,.mv,[.t 83],none,[1,0,1]⟩]) .ret))))
def rs15 : List RV := [.tmp 4]
theorem fact15 : compF Try.prog 11 = some (ac15,rs15,84) := by kernel_rfl
def ac14 : AC := .seq (.ops false [⟨some 2,.mv,[.c .nilsl],none,[]⟩]) (.seq (.ops false [⟨some 3,.mv,[.c .nilsl],none,[]⟩]) (.seq (.seq (.ops false [⟨some 6,.mv,[.t 0],none,[]⟩,⟨some 7,.len false,[.t 6],none,[0]⟩,⟨some 8,.mv,[.c (.i .i64 0)],none,[]⟩]) (.block 0 (.loop (.seq (.ops false [⟨some 9,.bin .lss,[.t 8,.t 7],none,[]⟩]) (.seq (.cond (.t 9) .skip (.exit 0)) (.seq (.block 1 (.seq (.ops false [⟨some 10,.iadrS 11,[.t 6,.t 8],none,[]⟩,⟨some 11,.load 11 true,[.t 10],none,[0]⟩,⟨some 5,.alloc [(.s (bs [])),(.s (bs [])),(.s (bs [])),(.i .i64 0),(.i .i64 0),(.i .i64 0),(.i .i64 0),(.i .i64 0),(.i .i64 0),(.i .i64 0),(.i .i64 0)],[],none,[]⟩,⟨none,.store 11,[.t 5,.t 11],none,[2,1,0,1,2]⟩]) (.ops false [⟨some 12,.mv,[.t 3],none,[]⟩,⟨some 13,.load 11 true,[.t 5],none,[]⟩,⟨some 14,.bslice 44 11 (.agg [(.s (bs [])),(.s (bs [])),(.s (bs [])),(.i .i64 0),(.i .i64 0),(.i .i64 0),(.i .i64 0),(.i .i64 0),(.i .i64 0),(.i .i64 0),(.i .i64 0)]) 1 [0],[.t 13],none,[1]⟩,⟨some 15,.app 44 11 112,[.t 12,.t 14],none,[0,2]⟩,⟨some 3,.mv,[.t 15],none,[3,3,0,1,2,3]⟩]))) (.ops false [⟨some 16,.bin .add,[.t 8,.c (.i .i64 1)],none,[]⟩,⟨some 8,.mv,[.t 16],none,[0]⟩]))))))) (.seq (.ops false [⟨some 17,.mv,[.t 3],none,[]⟩,⟨some 2,.mv,[.t 17],none,[0,0]⟩]) .ret)))
def rs14 : List RV := [.tmp 2]
theorem fact14 : compF Try.prog 4 = some (ac14,rs14,18) := by kernel_rfl
def inW (l : Lim) (b : Int) (x : Mov) : Bool := countsL l x.kind x.term && (decide (b ≤ x.moment) && decide (x.moment < b + l.len))
theorem cnt_filter {l : Lim} (h : 0 ≤ l.len) (b : Int) : ∀ m : List Mov, cntAll l m b = ((m.filter (inW l b)).length : Int)
  | [] => by simp [cntAll, cntW, ofL, ltN]
  | x :: r => by
    have ih := cnt_filter h b r
    simp only [cntAll, cntW, ofL, List.filter_cons, inW] at ih ⊢
    by_cases hc : countsL l x.kind x.term = true
    · simp only [hc, if_true, List.map_cons, ltN, List.filter_cons, Bool.true_and, decide_eq_true_eq, Bool.and_eq_true] at ih ⊢
      (repeat' split) <;> (try simp only [List.length_cons]) <;> omega
    · simp only [Bool.not_eq_true] at hc
      simp only [hc, Bool.false_eq_true, if_false, Bool.false_and]
      exact ih
def peakV (l : Lim) (m : List Mov) : Win := ⟨0, (pkF l m (windowsL l)).2.1, (pkF l m (windowsL l)).2.2⟩
theorem pure14 (L : List Lim) (hn : L.length * 112 ≤ 140737488355328) : Pure Try.prog 4 [.sl 11 (L.map Lim.pv)] (.sl 11 (L.map Lim.pv)) := by
  refine pure_by fact14 (by simp) fun hw X hX => ?_
  unfold ac14 rs14
  repeat' first | (show Run _ (.cond _ _ _) _ _; refine run_condX (fun hc => ?_) (fun hc => ?_) <;> (try simp only [qH, rng_0] at hc) <;> try contradiction) | (first | refine Stp.h ?_ | (show ∀ K : St → List Ft → Prop, _; intro K hK) | (show runS _ _ _ _ _; first | refine qY (hq := ?_) | refine qZ (hq := ?_)) | (refine hK _ _ ?_; clear hK K) | (refine hK _ _ rfl ?_; clear hK K) | (refine qZ (hq := ?_); try exact trivial) | omega)
  refine run_own 100 44 11 [(3, .row 100 0), (6, .p (.sl 11 (L.map Lim.pv))), (7, .p (.i .i64 L.length)), (8, .p (.i .i64 0))] [] ?_ ?_
  · simp only [Own, ownEnv, ownObj, nilTo, nilTos, qS, Nat.reduceAdd, Nat.reduceMul, Nat.reduceEqDiff, Nat.reduceLeDiff, reduceIte, reduceCtorEq, Nat.reduceBEq, Nat.reduceLT]
  refine run_loop (κ := Nat) (fun k => ⟨[(3, .row 100 (L.take k).length), (6, .p (.sl 11 (L.map Lim.pv))), (7, .p (.i .i64 L.length)), (8, .p (.i .i64 k))], [(100, .row 44 11 ((L.take k).map Lim.pv) false)], [], false⟩) (fun k => k ≤ L.length) (fun k => L.length - k) 0 ?_ ?_ ?_
  · simp only [qS, Nat.reduceAdd, Nat.reduceMul, Nat.reduceEqDiff, Nat.reduceLeDiff, reduceIte, reduceCtorEq, Nat.reduceBEq, Nat.reduceLT] <;> simp
  · simp
  · intro k hk
    repeat (first | refine Stp.h ?_ | (show ∀ K : St → List Ft → Prop, _; intro K hK) | (show runS _ _ _ _ _; first | refine qY (hq := ?_) | refine qZ (hq := ?_)) | (refine hK _ _ ?_; clear hK K) | (refine hK _ _ rfl ?_; clear hK K) | (refine qZ (hq := ?_); try exact trivial) | omega)
    (show Run _ (.cond _ _ _) _ _; refine run_condX (fun hc => ?_) (fun hc => ?_) <;> (try simp only [qH, rng_0] at hc) <;> try contradiction)
    · obtain ⟨w, hx⟩ := some_at (i := k) (l := L) (by omega)
      have hlt := take_len hx
      have qe := And.intro qR @hx; repeat' first | (show Run _ (.cond _ _ _) _ _; refine run_condX (fun hc => ?_) (fun hc => ?_) <;> (try simp only [qH, rng_0] at hc) <;> try contradiction) | (first | refine Stp.h ?_ | (show ∀ K : St → List Ft → Prop, _; intro K hK) | (show runS _ _ _ _ _; first | refine qY (hq := ?_) | refine qZ (hq := ?_)) | (refine hK _ _ ?_; clear hK K) | (refine hK _ _ rfl ?_; clear hK K) | (refine qZ (hq := ?_); try exact trivial) | omega)
      exact ⟨k + 1, by omega, by omega, ⟨by rw [List.take_add_one, hx, List.length_append]; rfl, by simp⟩, by rw [take_snoc Lim.pv hx]⟩
    · repeat' first | (show Run _ (.cond _ _ _) _ _; refine run_condX (fun hc => ?_) (fun hc => ?_) <;> (try simp only [qH, rng_0] at hc) <;> try contradiction) | (first | refine Stp.h ?_ | (show ∀ K : St → List Ft → Prop, _; intro K hK) | (show runS _ _ _ _ _; first | refine qY (hq := ?_) | refine qZ (hq := ?_)) | (refine hK _ _ ?_; clear hK K) | (refine hK _ _ rfl ?_; clear hK K) | (refine qZ (hq := ?_); try exact trivial) | omega)
      have e : k = L.length := by omega
      subst e; rw [List.take_length]; exact .refl _
def badLim (l : Lim) : Bool := ((decide ((40 : Int) < l.name.size) || decide ((40 : Int) < l.kind.size)) || decide ((40 : Int) < l.term.size)) || !fewB l.per 24
theorem badLim_t {x : Lim} (h : (((40 : Int) < x.name.size ∨ (40 : Int) < x.kind.size) ∨ (40 : Int) < x.term.size) ∨ fewB x.per 24 = false) : badLim x = true := by
  simp only [badLim, Bool.or_eq_true, decide_eq_true_eq, Bool.not_eq_true']; exact h
theorem badLim_f {x : Lim} (h : (((x.name.size : Int) ≤ 40 ∧ (x.kind.size : Int) ≤ 40) ∧ (x.term.size : Int) ≤ 40) ∧ fewB x.per 24 = true) : badLim x = false := by
  simp only [badLim, Bool.or_eq_false_iff, decide_eq_false_iff_not, Bool.not_eq_false', Int.not_lt]; exact h
def limN (x : Lim) : Int := if chkLim x = 0 then (begN x : Int) * (daysL x.per).length else 0
def sumK (l : List Lim) (k : Nat) : Int := (l.take k).foldl (fun a x => a + limN x) 0
def longL (l : List Lim) (n : Int) : Bool := (decide (n < l.length) && decide ((l.length : Int) ≤ 32)) || decide (34 < (l.length : Int))
def shLims (l : List Lim) (n : Int) : Bool := !longL l n && ((l.all fun x => !badLim x) && decide (sumK l l.length ≤ 400))
theorem sumK_next {l : List Lim} {k : Nat} {x : Lim} (h : l[k]? = some x) : sumK l (k + 1) = sumK l k + limN x := by
  rw [sumK, List.take_add_one, h, List.foldl_append]; rfl
theorem begN_le {l : Lim} (h : chkLim l = 0) : begN l ≤ 1440 := by
  have hl := chkLim_0 h
  have h1 : 0 ≤ l.from_ := Int.ediv_nonneg (by omega) (by omega)
  have h2 : l.to / l.step ≤ l.to := Int.ediv_le_self _ (by omega)
  unfold begN; omega
theorem limN_bd (x : Lim) : 0 ≤ limN x ∧ limN x ≤ 577440 := by
  unfold limN
  split
  · rename_i h
    have h1 := begN_le h
    have hp := chkPer_0 (chkLim_0 h).2.2.2.2.2.2.2.1
    have h2 := daysL_len x.per
    have h3 : (daysL x.per).length ≤ 401 := by omega
    have h4 : begN x * (daysL x.per).length ≤ 1440 * 401 := Nat.mul_le_mul h1 h3
    omega
  · omega
theorem sumK_bd (l : List Lim) (k : Nat) : 0 ≤ sumK l k ∧ sumK l k ≤ k * 577440 := by
  induction k with
  | zero => simp [sumK]
  | succ k ih =>
    by_cases hk : k < l.length
    · rw [sumK_next (List.getElem?_eq_getElem hk)]
      have := limN_bd l[k]
      omega
    · have : sumK l (k + 1) = sumK l k := by rw [sumK, sumK, List.take_of_length_le (by omega), List.take_of_length_le (by omega)]
      omega
theorem pure15 (l : List Lim) (n : Int) : Pure Try.prog 11 [.sl 11 (l.map Lim.pv), .i .i64 n] (.b (shLims l n)) := by
  refine pure_by fact15 (by simp) fun hw X hX => ?_
  unfold ac15 rs15
  simp only [wfs, PV.wf, List.length_map, maxLen] at hw
  repeat' first | (show Run _ (.cond _ _ _) _ _; refine run_condX (fun hc => ?_) (fun hc => ?_) <;> (try simp only [qH, rng_0] at hc) <;> try contradiction) | (first | refine Stp.h ?_ | (show ∀ K : St → List Ft → Prop, _; intro K hK) | (show runS _ _ _ _ _; first | refine qY (hq := ?_) | refine qZ (hq := ?_)) | (refine hK _ _ ?_; clear hK K) | (refine hK _ _ rfl ?_; clear hK K) | (refine qZ (hq := ?_); try exact trivial) | omega)
  · have : longL l n = true := by simpa [longL] using hc
    rw [shLims, this]; exact .refl _
  have hsh : longL l n = false := by simpa [longL] using hc
  have h34 : l.length ≤ 34 := by omega
  refine run_loop (κ := Nat) (fun i => ⟨[(0, .p (.sl 11 (l.map Lim.pv))), (5, .p (.i .i64 (sumK l i))), (6, .p (.i .i64 i))], [], [], false⟩) (fun i => i ≤ l.length ∧ ∀ x ∈ l.take i, (!badLim x) = true) (fun i => l.length - i) 0 ?_ ?_ ?_
  · simp only [qS, Nat.reduceAdd, Nat.reduceMul, Nat.reduceEqDiff, Nat.reduceLeDiff, reduceIte, reduceCtorEq, Nat.reduceBEq, Nat.reduceLT] <;> exact ⟨rfl, rfl⟩
  · simp
  · intro i hi
    have hsb := sumK_bd l i
    repeat (first | refine Stp.h ?_ | (show ∀ K : St → List Ft → Prop, _; intro K hK) | (show runS _ _ _ _ _; first | refine qY (hq := ?_) | refine qZ (hq := ?_)) | (refine hK _ _ ?_; clear hK K) | (refine hK _ _ rfl ?_; clear hK K) | (refine qZ (hq := ?_); try exact trivial) | omega)
    (show Run _ (.cond _ _ _) _ _; refine run_condX (fun hc => ?_) (fun hc => ?_) <;> (try simp only [qH, rng_0] at hc) <;> try contradiction)
    · obtain ⟨x, hx⟩ := some_at (i := i) (l := l) (by omega)
      have hsn := sumK_next hx
      have hlb := limN_bd x
      by_cases h0 : chkLim x = 0
      · have h0' := eq_true h0
        have hlx := chkLim_0 h0
        have hbn := begN_le h0
        have hdn := daysL_len x.per
        have hpp := chkPer_0 hlx.2.2.2.2.2.2.2.1
        rw [limN, if_pos h0] at hsn hlb
        have qe := And.intro qR (And.intro @hx @h0'); repeat' first | (show Run _ (.cond _ _ _) _ _; refine run_condX (fun hc => ?_) (fun hc => ?_) <;> (try simp only [qH, rng_0] at hc) <;> try contradiction) | (show RunOps _ _ _ _ (⟨_, .call 38, _, _, _⟩ :: _) _ _; refine run_callX (hf := pure31 x) (hn := ?_)) | (show RunOps _ _ _ _ (⟨_, .call 39, _, _, _⟩ :: _) _ _; refine run_callX (hf := pure76 x h0) (hn := ?_)) | (show RunOps _ _ _ _ (⟨_, .call 40, _, _, _⟩ :: _) _ _; refine run_callX (hf := pure67 x.per hlx.2.2.2.2.2.2.2.1) (hn := ?_)) | (show RunOps _ _ _ _ (⟨_, .call 37, _, _, _⟩ :: _) _ _; refine run_callGX (hf := fun hc => (by first | exact pure75 x.per 24 | (simp only [qH, rng_0] at hc; exact pure75 x.per 24))) (hn := ?_)) | (first | refine Stp.h ?_ | (show ∀ K : St → List Ft → Prop, _; intro K hK) | (show runS _ _ _ _ _; first | refine qY (hq := ?_) | refine qZ (hq := ?_)) | (refine hK _ _ ?_; clear hK K) | (refine hK _ _ rfl ?_; clear hK K) | (refine qZ (hq := ?_); try exact trivial) | omega)
        · rw [shLims, hsh, all_no hx (by rw [badLim_t hc]; rfl)]; exact .refl _
        · exact ⟨i + 1, ⟨by omega, fun y hy => by simpa using all_next (p := fun x => !badLim x) (fun y hy => by simpa using hi.2 y hy) hx (by rw [badLim_f (by assumption)]; rfl) y hy⟩, by omega, by rw [hsn], by simp⟩
      · have h0' := eq_false h0
        rw [limN, if_neg h0] at hsn hlb
        have qe := And.intro qR (And.intro @hx @h0'); repeat' first | (show Run _ (.cond _ _ _) _ _; refine run_condX (fun hc => ?_) (fun hc => ?_) <;> (try simp only [qH, rng_0] at hc) <;> try contradiction) | (show RunOps _ _ _ _ (⟨_, .call 38, _, _, _⟩ :: _) _ _; refine run_callX (hf := pure31 x) (hn := ?_)) | (show RunOps _ _ _ _ (⟨_, .call 37, _, _, _⟩ :: _) _ _; refine run_callGX (hf := fun hc => (by first | exact pure75 x.per 24 | (simp only [qH, rng_0] at hc; exact pure75 x.per 24))) (hn := ?_)) | (first | refine Stp.h ?_ | (show ∀ K : St → List Ft → Prop, _; intro K hK) | (show runS _ _ _ _ _; first | refine qY (hq := ?_) | refine qZ (hq := ?_)) | (refine hK _ _ ?_; clear hK K) | (refine hK _ _ rfl ?_; clear hK K) | (refine qZ (hq := ?_); try exact trivial) | omega)
        · rw [shLims, hsh, all_no hx (by rw [badLim_t hc]; rfl)]; exact .refl _
        · exact ⟨i + 1, ⟨by omega, fun y hy => by simpa using all_next (p := fun x => !badLim x) (fun y hy => by simpa using hi.2 y hy) hx (by rw [badLim_f (by assumption)]; rfl) y hy⟩, by omega, by rw [hsn, Int.add_zero], by simp⟩
    · repeat' first | (show Run _ (.cond _ _ _) _ _; refine run_condX (fun hc => ?_) (fun hc => ?_) <;> (try simp only [qH, rng_0] at hc) <;> try contradiction) | (first | refine Stp.h ?_ | (show ∀ K : St → List Ft → Prop, _; intro K hK) | (show runS _ _ _ _ _; first | refine qY (hq := ?_) | refine qZ (hq := ?_)) | (refine hK _ _ ?_; clear hK K) | (refine hK _ _ rfl ?_; clear hK K) | (refine qZ (hq := ?_); try exact trivial) | omega)
      have e : i = l.length := by omega
      subst e
      rw [shLims, hsh, all_end hi.2]; exact .refl _
end Go.Proofs.Ytcfbdeghmckelaa
namespace Go.Proofs.Ytcfbdeghmckelaa
open Go.RowKit
set_option maxRecDepth 100000
set_option linter.unusedVariables false
set_option linter.unusedSimpArgs false
set_option maxHeartbeats 2000000
def ac138 : AC := .seq (.ops false [⟨some 2,.box,[.t 0],none,[]⟩,⟨some 4,.mv,[.c .nilsl],none,[]⟩]) (.seq (.seq (.ops false [⟨some 6,.mv,[.t 1],none,[]⟩]) (.block 0 (.rfunc (.t 6) [7] (.ops false [⟨some 5,.alloc [(.i .i64 0),(.i .i64 0),(.i .i64 0)],[],none,[]⟩,⟨none,.store 3,[.t 5,.t 7],none,[0,0]⟩]) (.block 1 (.ops false [⟨some 8,.load 1 false,[.t 2],none,[]⟩,⟨some 9,.load 3 true,[.t 5],none,[]⟩,⟨some 10,.bslice 33 3 (.agg [(.i .i64 0),(.i .i64 0),(.i .i64 0)]) 1 [0],[.t 9],none,[1]⟩,⟨some 11,.app 33 3 24,[.t 8,.t 10],none,[0,2]⟩,⟨none,.store 1,[.t 2,.t 11],none,[3,3,0,1,2,3]⟩]))))) (.seq (.ops false [⟨some 12,.load 1 false,[.t 2],none,[]⟩,⟨some 4,.mv,[.t 12],none,[0,0]⟩]) .ret))
def rs138 : List RV := [.tmp 4]
theorem fact138 : compF Try.prog 76 = some (ac138,rs138,13) := by kernel_rfl
def ac101 : AC := .seq (.ops false [⟨some 2,.mv,[.c .nilsl],none,[]⟩]) (.seq (.ops false [⟨some 3,.mv,[.t 0],none,[]⟩,⟨some 4,.call 76,[.c .nilsl,.t 3],none,[0]⟩,⟨some 2,.mv,[.t 4],none,[1,1,0,1]⟩]) .ret)
def rs101 : List RV := [.tmp 2]
theorem fact101 : compF Try.prog 50 = some (ac101,rs101,5) := by kernel_rfl
def ac102 : AC := .seq (.ops false [⟨some 3,.box,[.t 0],none,[]⟩,⟨some 4,.box,[.t 1],none,[]⟩,⟨some 5,.box,[.t 2],none,[]⟩,⟨some 6,.mv,[.c .nilf],none,[]⟩]) (.seq (.ops false [⟨some 7,.mkfn (.func 77) 0,[.t 3,.t 5,.t 4],none,[]⟩,⟨some 6,.mv,[.t 7],none,[0,0]⟩]) .ret)
def rs102 : List RV := [.tmp 6]
theorem fact102 : compF Try.prog 51 = some (ac102,rs102,8) := by kernel_rfl
theorem pure138 {f : Nat} {caps : List PV} {L : List Win} (hit : Iter Try.prog f caps (L.map tupW)) (hn : L.length ≤ 1000000) : Pure Try.prog 76 [.nilsl, .fn (.func f) [] caps] (.sl 3 (L.map Win.pv)) := by
  refine pure_by fact138 (by simp) fun hw X hX => ?_
  unfold ac138 rs138
  repeat' first | (show Run _ (.cond _ _ _) _ _; refine run_condX (fun hc => ?_) (fun hc => ?_) <;> (try simp only [qH, rng_0] at hc) <;> try contradiction) | (first | refine Stp.h ?_ | (show ∀ K : St → List Ft → Prop, _; intro K hK) | (show runS _ _ _ _ _; first | refine qY (hq := ?_) | refine qZ (hq := ?_)) | (refine hK _ _ ?_; clear hK K) | (refine hK _ _ rfl ?_; clear hK K) | (refine qZ (hq := ?_); try exact trivial) | omega)
  refine run_own 100 33 3 [(2, .lp 2 0), (6, .p (.fn (.func f) [] caps))] [(2, .box [.row 100 0] false)] ?_ ?_
  · simp only [Own, ownEnv, ownObj, nilTo, nilTos, qS, Nat.reduceAdd, Nat.reduceMul, Nat.reduceEqDiff, Nat.reduceLeDiff, reduceIte, reduceCtorEq, Nat.reduceBEq, Nat.reduceLT]
  refine run_rfunc rfl hit ?_ ?_ [(2, .lp 2 0), (6, .p (.fn (.func f) [] caps))] (fun k => [(2, .box [.row 100 k] false), (100, .row 33 3 ((L.take k).map Win.pv) false)]) (fun _ => []) ?_ ?_ ?_
  · simp
  · simp [hX]
  · simp only [qS, Nat.reduceAdd, Nat.reduceMul, Nat.reduceEqDiff, Nat.reduceLeDiff, reduceIte, reduceCtorEq, Nat.reduceBEq, Nat.reduceLT]
  · intro k t ht X' ro' hX'
    simp only [List.getElem?_map, Option.map_eq_some_iff] at ht
    obtain ⟨w, hy, rfl⟩ := ht
    have hlt := take_len hy
    have hk := (List.getElem?_eq_some_iff.1 hy).1
    simp only [qS, Nat.reduceAdd, Nat.reduceMul, Nat.reduceEqDiff, Nat.reduceLeDiff, reduceIte, reduceCtorEq, Nat.reduceBEq, Nat.reduceLT]
    have qe := @qR; repeat' first | (show Run _ (.cond _ _ _) _ _; refine run_condX (fun hc => ?_) (fun hc => ?_) <;> (try simp only [qH, rng_0] at hc) <;> try contradiction) | (first | refine Stp.h ?_ | (show ∀ K : St → List Ft → Prop, _; intro K hK) | (show runS _ _ _ _ _; first | refine qY (hq := ?_) | refine qZ (hq := ?_)) | (refine hK _ _ ?_; clear hK K) | (refine hK _ _ rfl ?_; clear hK K) | (refine qZ (hq := ?_); try exact trivial) | omega)
    intro X1 hX1
    have qe := And.intro qR (And.intro @hlt (take_snoc Win.pv hy)); repeat' first | (show Run _ (.cond _ _ _) _ _; refine run_condX (fun hc => ?_) (fun hc => ?_) <;> (try simp only [qH, rng_0] at hc) <;> try contradiction) | (first | refine Stp.h ?_ | (show ∀ K : St → List Ft → Prop, _; intro K hK) | (show runS _ _ _ _ _; first | refine qY (hq := ?_) | refine qZ (hq := ?_)) | (refine hK _ _ ?_; clear hK K) | (refine hK _ _ rfl ?_; clear hK K) | (refine qZ (hq := ?_); try exact trivial) | omega)
  · simp only [List.length_map]
    have qe := @List.take_length.{0}; repeat' first | (show Run _ (.cond _ _ _) _ _; refine run_condX (fun hc => ?_) (fun hc => ?_) <;> (try simp only [qH, rng_0] at hc) <;> try contradiction) | (first | refine Stp.h ?_ | (show ∀ K : St → List Ft → Prop, _; intro K hK) | (show runS _ _ _ _ _; first | refine qY (hq := ?_) | refine qZ (hq := ?_)) | (refine hK _ _ ?_; clear hK K) | (refine hK _ _ rfl ?_; clear hK K) | (refine qZ (hq := ?_); try exact trivial) | omega)
    exact .refl _
theorem pure101 {f : Nat} {caps : List PV} {L : List Win} (hit : Iter Try.prog f caps (L.map tupW)) (hn : L.length ≤ 1000000) : Pure Try.prog 50 [.fn (.func f) [] caps] (.sl 3 (L.map Win.pv)) := by
  refine pure_by fact101 (by simp) fun hw X hX => ?_
  unfold ac101 rs101
  repeat' first | (show Run _ (.cond _ _ _) _ _; refine run_condX (fun hc => ?_) (fun hc => ?_) <;> (try simp only [qH, rng_0] at hc) <;> try contradiction) | (show RunOps _ _ _ _ (⟨_, .call 76, _, _, _⟩ :: _) _ _; refine run_callX (hf := pure138 hit hn) (hn := ?_)) | (first | refine Stp.h ?_ | (show ∀ K : St → List Ft → Prop, _; intro K hK) | (show runS _ _ _ _ _; first | refine qY (hq := ?_) | refine qZ (hq := ?_)) | (refine hK _ _ ?_; clear hK K) | (refine hK _ _ rfl ?_; clear hK K) | (refine qZ (hq := ?_); try exact trivial) | omega)
  exact .refl _
theorem pure102 (ls : List Lim) (m : List Mov) (o : Mov) : Pure Try.prog 51 [.sl 11 (ls.map Lim.pv), .sl 7 (m.map Mov.pv), o.pv] (.fn (.func 77) [] [.ip (.sl 11 (ls.map Lim.pv)) 0, .ip o.pv 0, .ip (.sl 7 (m.map Mov.pv)) 0]) := by
  refine pure_by fact102 (by simp) fun hw X hX => ?_
  unfold ac102 rs102
  repeat' first | (show Run _ (.cond _ _ _) _ _; refine run_condX (fun hc => ?_) (fun hc => ?_) <;> (try simp only [qH, rng_0] at hc) <;> try contradiction) | (first | refine Stp.h ?_ | (show ∀ K : St → List Ft → Prop, _; intro K hK) | (show runS _ _ _ _ _; first | refine qY (hq := ?_) | refine qZ (hq := ?_)) | (refine hK _ _ ?_; clear hK K) | (refine hK _ _ rfl ?_; clear hK K) | (refine qZ (hq := ?_); try exact trivial) | omega)
  exact .refl _
end Go.Proofs.Ytcfbdeghmckelaa
namespace Go.Proofs.Ytcfbdeghmckelaa
open Go.RowKit
set_option maxRecDepth 100000
set_option linter.unusedVariables false
set_option linter.unusedSimpArgs false
set_option maxHeartbeats 4000000
def arB (m : List Mov) (o : Mov) (i : Nat) (l : Lim) (b : Int) : List Win := if b ≤ o.moment ∧ o.moment < b + l.len then [⟨i, b, cntAll l m b⟩] else []
def arD (m : List Mov) (o : Mov) (i : Nat) (l : Lim) (d : Int) : List Win := (beginsL l d).flatMap (arB m o i l)
def arX (m : List Mov) (o : Mov) (i : Nat) (l : Lim) (e : Nat) : List Win := arD m o i l (o.moment / 1440 - 1 + e)
def arL (m : List Mov) (o : Mov) (i : Nat) (l : Lim) : List Win := if countsL l o.kind o.term then (List.range 2).flatMap (arX m o i l) else []
def arI (ls : List Lim) (m : List Mov) (o : Mov) (i : Nat) : List Win := match ls[i]? with | some l => arL m o i l | none => []
def arK (ls : List Lim) (m : List Mov) (o : Mov) (k : Nat) : List Win := (List.range k).flatMap (arI ls m o)
def arW (ls : List Lim) (m : List Mov) (o : Mov) : List Win := arK ls m o ls.length
def ac139 : AC := .seq (.ops false [⟨some 4,.box,[.t 0],none,[]⟩]) (.seq (.ops false [⟨some 11,.load 1 false,[.t 1],none,[]⟩,⟨some 12,.len false,[.t 11],none,[0]⟩,⟨some 13,.mv,[.c (.i .i64 0)],none,[]⟩]) (.block 0 (.loop (.seq (.ops false [⟨some 14,.bin .lss,[.t 13,.t 12],none,[]⟩]) (.seq (.cond (.t 14) .skip (.exit 0)) (.seq (.block 1 (.seq (.ops false [⟨some 15,.mv,[.t 13],none,[]⟩,⟨some 16,.iadrS 11,[.t 11,.t 13],none,[]⟩,⟨some 17,.load 11 true,[.t 16],none,[1]⟩,⟨some 5,.alloc [(.i .i64 0)],[],none,[]⟩,⟨some 6,.alloc [(.s (bs [])),(.s (bs [])),(.s (bs [])),(.i .i64 0),(.i .i64 0),(.i .i64 0),(.i .i64 0),(.i .i64 0),(.i .i64 0),(.i .i64 0),(.i .i64 0)],[],none,[]⟩,⟨none,.store 1,[.t 5,.t 15],none,[3,0,0,1,2,3,4]⟩,⟨none,.store 11,[.t 6,.t 17],none,[4,2,5,0,1,2,3,4,5]⟩]) (.seq (.seq (.ops false [⟨some 18,.load 11 true,[.t 6],none,[]⟩,⟨some 19,.fadr 1,[.t 2],none,[]⟩,⟨some 20,.load 1 false,[.t 19],none,[1]⟩,⟨some 21,.fadr 2,[.t 2],none,[]⟩,⟨some 22,.load 1 false,[.t 21],none,[3]⟩,⟨some 23,.call 64,[.t 18,.t 20,.t 22],none,[0,2,4]⟩,⟨some 24,.not,[.t 23],none,[5]⟩]) (.cond (.t 24) (.exit 1) .skip)) (.seq (.ops false [⟨some 25,.load 11 true,[.t 6],none,[]⟩,⟨some 26,.load 1 false,[.t 3],none,[]⟩,⟨some 27,.call 33,[.t 25,.t 26],none,[0,1]⟩,⟨some 7,.alloc [.nilsl],[],none,[]⟩,⟨none,.store 1,[.t 7,.t 27],none,[3,2,2,0,1,2,3]⟩]) (.seq (.ops false [⟨some 28,.fadr 0,[.t 2],none,[]⟩,⟨some 29,.load 1 false,[.t 28],none,[0]⟩,⟨some 30,.bin .quo,[.t 29,.c (.i .i64 1440)],none,[1]⟩,⟨some 31,.bin .sub,[.t 30,.c (.i .i64 1)],none,[2]⟩,⟨some 32,.fadr 0,[.t 2],none,[]⟩,⟨some 33,.load 1 false,[.t 32],none,[4]⟩,⟨some 34,.bin .quo,[.t 33,.c (.i .i64 1440)],none,[5]⟩,⟨some 35,.build [(.i .i64 0),(.i .i64 0)] [(0,1),(1,1)],[.t 31,.t 34],none,[3,6]⟩,⟨some 36,.mv,[.c (.i .i64 0)],none,[]⟩]) (.block 2 (.loop (.seq (.ops false [⟨some 37,.bin .lss,[.t 36,.c (.i .i64 2)],none,[]⟩]) (.seq (.cond (.t 37) .skip (.exit 2)) (.seq (.block 3 (.seq (.ops false [⟨some 38,.idxA 2 1 false,[.t 35,.t 36],none,[]⟩,⟨some 9,.mv,[.t 38],none,[0,0]⟩]) (.seq (.ops false [⟨some 39,.load 11 true,[.t 6],none,[]⟩,⟨some 40,.mv,[.t 9],none,[]⟩,⟨some 41,.call 32,[.t 39,.t 40],none,[0,1]⟩]) (.block 4 (.rfunc (.t 41) [42] (.ops false [⟨some 10,.mv,[.t 42],none,[]⟩]) (.block 5 (.seq (.ops true [⟨some 43,.mv,[.t 10],none,[]⟩,⟨some 44,.fadr 0,[.t 2],none,[]⟩,⟨some 45,.load 1 false,[.t 44],none,[1]⟩,⟨some 46,.bin .leq,[.t 43,.t 45],none,[0,2]⟩,⟨some 47,.mv,[.t 46],none,[3]⟩,⟨some 48,.fadr 0,[.t 2],some (47,true),[4]⟩,⟨some 49,.load 1 false,[.t 48],some (47,true),[5,4]⟩,⟨some 50,.mv,[.t 10],some (47,true),[4]⟩,⟨some 51,.fadr 3,[.t 6],some (47,true),[4]⟩,⟨some 52,.load 1 false,[.t 51],some (47,true),[8,4]⟩,⟨some 53,.bin .add,[.t 50,.t 52],some (47,true),[7,9,4]⟩,⟨some 54,.bin .lss,[.t 49,.t 53],some (47,true),[6,10,4]⟩,⟨some 55,.pick,[.t 47,.t 54,.c (.b false)],none,[4,11]⟩,⟨some 56,.mv,[.t 55],none,[12,4]⟩,⟨some 57,.load 1 false,[.t 4],some (56,true),[13]⟩,⟨some 58,.load 1 false,[.t 5],some (56,true),[13]⟩,⟨some 59,.mv,[.t 10],some (56,true),[13]⟩,⟨some 60,.load 1 false,[.t 7],some (56,true),[13]⟩,⟨some 61,.mv,[.t 10],some (56,true),[13]⟩,⟨some 62,.fadr 3,[.t 6],some (56,true),[13]⟩,⟨some 63,.load 1 false,[.t 62],some (56,true),[19,13]⟩,⟨some 64,.call 34,[.t 60,.t 61,.t 63],some (56,true),[17,18,20,13,13]⟩,⟨some 65,.build [(.i .i64 0),(.i .i64 0),(.i .i64 0)] [(0,1),(1,1),(2,1)],[.t 58,.t 59,.t 64],some (56,true),[15,16,21,13]⟩,⟨some 66,.callv,[.t 57,.t 65],some (56,true),[14,22,21,13]⟩,⟨some 67,.not,[.t 66],some (56,true),[23,13]⟩,⟨some 68,.pick,[.t 56,.t 67,.c (.b false)],none,[13,24]⟩]) (.cond (.t 68) .ret .skip)))))))) (.ops false [⟨some 69,.bin .add,[.t 36,.c (.i .i64 1)],none,[]⟩,⟨some 36,.mv,[.t 69],none,[0]⟩]))))))))))) (.ops false [⟨some 70,.bin .add,[.t 13,.c (.i .i64 1)],none,[]⟩,⟨some 13,.mv,[.t 70],none,[0]⟩])))))))
def rs139 : List RV := []
theorem fact139 : compF Try.prog 77 = some (ac139,rs139,71) := by kernel_rfl
theorem iter139 (ls : List Lim) (m : List Mov) (o : Mov) (hn : ls.length ≤ 1000000) (h : ∀ l ∈ ls, chkLim l = 0) (hm : chkMovs m = 0) (ho : chkMov o = 0) : Iter Try.prog 77 [.ip (.sl 11 (ls.map Lim.pv)) 0, .ip o.pv 0, .ip (.sl 7 (m.map Mov.pv)) 0] ((arW ls m o).map tupW) := by
  have hmo : 0 ≤ o.moment ∧ o.moment ≤ 143999999 := by
    unfold chkMov at ho
    simp only [firstE_cons, rng_0] at ho
    exact ho.1
  have hq : o.moment.tdiv 1440 = o.moment / 1440 := Int.tdiv_eq_ediv_of_nonneg (by omega)
  refine iter_by fact139 (by simp) fun hw X hX => ?_
  unfold ac139
  have hmm := chkMovs_0 hm
  simp only [iterSt]
  repeat' first | (show Run _ (.cond _ _ _) _ _; refine run_condX (fun hc => ?_) (fun hc => ?_) <;> (try simp only [qH, rng_0] at hc) <;> try contradiction) | (first | refine Stp.h ?_ | (show ∀ K : St → List Ft → Prop, _; intro K hK) | (show runS _ _ _ _ _; first | refine qY (hq := ?_) | refine qZ (hq := ?_)) | (refine hK _ _ ?_; clear hK K) | (refine hK _ _ rfl ?_; clear hK K) | (refine qZ (hq := ?_); try exact trivial) | omega)
  refine run_loop (κ := Nat) (fun k => ⟨[(1, .p (.ip (.sl 11 (ls.map Lim.pv)) 0)), (2, .p (.ip o.pv 0)), (3, .p (.ip (.sl 7 (m.map Mov.pv)) 0)), (4, .lp 4 0), (11, .p (.sl 11 (ls.map Lim.pv))), (12, .p (.i .i64 ls.length)), (13, .p (.i .i64 k))], [(4, .box [.yield] false)], (arK ls m o k).map tupW, false⟩) (fun k => k ≤ ls.length) (fun k => ls.length - k) 0 ?_ ?_ ?_
  · simp only [qS, Nat.reduceAdd, Nat.reduceMul, Nat.reduceEqDiff, Nat.reduceLeDiff, reduceIte, reduceCtorEq, Nat.reduceBEq, Nat.reduceLT] <;> simp [arK]
  · simp
  · intro k hk
    repeat (first | refine Stp.h ?_ | (show ∀ K : St → List Ft → Prop, _; intro K hK) | (show runS _ _ _ _ _; first | refine qY (hq := ?_) | refine qZ (hq := ?_)) | (refine hK _ _ ?_; clear hK K) | (refine hK _ _ rfl ?_; clear hK K) | (refine qZ (hq := ?_); try exact trivial) | omega)
    (show Run _ (.cond _ _ _) _ _; refine run_condX (fun hc => ?_) (fun hc => ?_) <;> (try simp only [qH, rng_0] at hc) <;> try contradiction)
    · obtain ⟨l, hx⟩ := some_at (i := k) (l := ls) (by omega)
      have h1 := h l (List.mem_of_getElem? hx)
      have hi : arI ls m o k = arL m o k l := by rw [arI, hx]
      have hs := range_split (arI ls m o) (show k < ls.length by omega)
      have qe := And.intro qR (And.intro @hx @hq); repeat' first | (show Run _ (.cond _ _ _) _ _; refine run_condX (fun hc => ?_) (fun hc => ?_) <;> (try simp only [qH, rng_0] at hc) <;> try contradiction) | (show RunOps _ _ _ _ (⟨_, .call 64, _, _, _⟩ :: _) _ _; refine run_callX (hf := pure135 l o.kind o.term h1) (hn := ?_)) | (show RunOps _ _ _ _ (⟨_, .call 33, _, _, _⟩ :: _) _ _; refine run_callX (hf := pure92 l m h1 (by omega)) (hn := ?_)) | (show RunOps _ _ _ _ (⟨_, .call 32, _, _, _⟩ :: _) _ _; refine run_callX (hf := pure91 l _) (hn := ?_)) | (first | refine Stp.h ?_ | (show ∀ K : St → List Ft → Prop, _; intro K hK) | (show runS _ _ _ _ _; first | refine qY (hq := ?_) | refine qZ (hq := ?_)) | (refine hK _ _ ?_; clear hK K) | (refine hK _ _ rfl ?_; clear hK K) | (refine qZ (hq := ?_); try exact trivial) | omega)
      · have ha : arL m o k l = [] := by rw [arL, hc]; rfl
        refine ⟨k + 1, by omega, by omega, by simp, ?_⟩
        rw [arK, range_next, hi, ha, List.append_nil, ← arK]
      · have ha : arL m o k l = (List.range 2).flatMap (arX m o k l) := by rw [arL, hc]; rfl
        refine run_loop (κ := Nat) (fun e => ⟨[(1, .p (.ip (.sl 11 (ls.map Lim.pv)) 0)), (2, .p (.ip o.pv 0)), (3, .p (.ip (.sl 7 (m.map Mov.pv)) 0)), (4, .lp 4 0), (5, .lp 5 0), (6, .lp 6 0), (7, .lp 7 0), (11, .p (.sl 11 (ls.map Lim.pv))), (12, .p (.i .i64 ls.length)), (13, .p (.i .i64 k)), (35, .p (.agg [.i .i64 (o.moment / 1440 - 1), .i .i64 (o.moment / 1440)])), (36, .p (.i .i64 e))], [(4, .box [.yield] false), (5, .box [.p (.i .i64 k)] false), (6, .box (l.cells.map .p) false), (7, .box [.p (.sl 1 ((ofL l m).map (.i .i64)))] false)], (arK ls m o k).map tupW ++ ((List.range e).flatMap (arX m o k l)).map tupW, false⟩) (fun e => e ≤ 2) (fun e => 2 - e) 0 ?_ ?_ ?_
        · simp only [qS, Nat.reduceAdd, Nat.reduceMul, Nat.reduceEqDiff, Nat.reduceLeDiff, reduceIte, reduceCtorEq, Nat.reduceBEq, Nat.reduceLT] <;> simp
        · simp
        · intro e he
          repeat (first | refine Stp.h ?_ | (show ∀ K : St → List Ft → Prop, _; intro K hK) | (show runS _ _ _ _ _; first | refine qY (hq := ?_) | refine qZ (hq := ?_)) | (refine hK _ _ ?_; clear hK K) | (refine hK _ _ rfl ?_; clear hK K) | (refine qZ (hq := ?_); try exact trivial) | omega)
          (show Run _ (.cond _ _ _) _ _; refine run_condX (fun hc => ?_) (fun hc => ?_) <;> (try simp only [qH, rng_0] at hc) <;> try contradiction)
          · have hid : ([.i .i64 (o.moment / 1440 - 1), .i .i64 (o.moment / 1440)] : List PV)[e]? = some (.i .i64 (o.moment / 1440 - 1 + e)) := by
              rcases (show e = 0 ∨ e = 1 by omega) with rfl | rfl <;> simp
            have hse := range_split (arX m o k l) (show e < 2 by omega)
            have qe := And.intro qR (And.intro @hid @Nat.mul_one); repeat' first | (show Run _ (.cond _ _ _) _ _; refine run_condX (fun hc => ?_) (fun hc => ?_) <;> (try simp only [qH, rng_0] at hc) <;> try contradiction) | (show RunOps _ _ _ _ (⟨_, .call 32, _, _, _⟩ :: _) _ _; refine run_callX (hf := pure91 l (o.moment / 1440 - 1 + e)) (hn := ?_)) | (first | refine Stp.h ?_ | (show ∀ K : St → List Ft → Prop, _; intro K hK) | (show runS _ _ _ _ _; first | refine qY (hq := ?_) | refine qZ (hq := ?_)) | (refine hK _ _ ?_; clear hK K) | (refine hK _ _ rfl ?_; clear hK K) | (refine qZ (hq := ?_); try exact trivial) | omega)
            refine run_rfunc rfl (iter134 l (o.moment / 1440 - 1 + e) h1) ?_ ?_ [(1, .p (.ip (.sl 11 (ls.map Lim.pv)) 0)), (2, .p (.ip o.pv 0)), (3, .p (.ip (.sl 7 (m.map Mov.pv)) 0)), (4, .lp 4 0), (5, .lp 5 0), (6, .lp 6 0), (7, .lp 7 0), (11, .p (.sl 11 (ls.map Lim.pv))), (12, .p (.i .i64 ls.length)), (13, .p (.i .i64 k)), (35, .p (.agg [.i .i64 (o.moment / 1440 - 1), .i .i64 (o.moment / 1440)])), (36, .p (.i .i64 e))] (fun _ => [(4, .box [.yield] false), (5, .box [.p (.i .i64 k)] false), (6, .box (l.cells.map .p) false), (7, .box [.p (.sl 1 ((ofL l m).map (.i .i64)))] false)]) (fun j => ((arK ls m o k).map tupW ++ ((List.range e).flatMap (arX m o k l)).map tupW) ++ (((beginsL l (o.moment / 1440 - 1 + e)).take j).flatMap (arB m o k l)).map tupW) ?_ ?_ ?_
            · simp
            · simp [hX]
            · simp only [qS, Nat.reduceAdd, Nat.reduceMul, Nat.reduceEqDiff, Nat.reduceLeDiff, reduceIte, reduceCtorEq, Nat.reduceBEq, Nat.reduceLT] <;> simp
            · intro j t ht X' ro' hX'
              simp only [List.getElem?_map, Option.map_eq_some_iff] at ht
              obtain ⟨b, hb, rfl⟩ := ht
              have hbm := beginsL_mem h1 (List.mem_of_getElem? hb)
              have hll := chkLim_0 h1
              have hpp := chkPer_0 hll.2.2.2.2.2.2.2.1
              have hnx := flat_take (arB m o k l) hb
              simp only [qS, Nat.reduceAdd, Nat.reduceMul, Nat.reduceEqDiff, Nat.reduceLeDiff, reduceIte, reduceCtorEq, Nat.reduceBEq, Nat.reduceLT]
              repeat' first | (show Run _ (.cond _ _ _) _ _; refine run_condX (fun hc => ?_) (fun hc => ?_) <;> (try simp only [qH, rng_0] at hc) <;> try contradiction) | (first | refine Stp.h ?_ | (show ∀ K : St → List Ft → Prop, _; intro K hK) | (show runS _ _ _ _ _; first | refine qY (hq := ?_) | refine qZ (hq := ?_)) | (refine hK _ _ ?_; clear hK K) | (refine hK _ _ rfl ?_; clear hK K) | (refine qZ (hq := ?_); try exact trivial) | omega)
              intro X1 hX1
              by_cases hin : b ≤ o.moment ∧ o.moment < b + l.len
              · have hb1 := eq_true hin.1
                have hb2 := eq_true hin.2
                have hbb : arB m o k l b = [⟨k, b, cntAll l m b⟩] := by rw [arB, if_pos hin]
                rw [hbb] at hnx
                have hs' : (arW ls m o).map tupW = (((arK ls m o k).map tupW ++ ((List.range e).flatMap (arX m o k l)).map tupW) ++ (((beginsL l (o.moment / 1440 - 1 + e)).take j).flatMap (arB m o k l)).map tupW) ++ tupW ⟨k, b, cntAll l m b⟩ :: ((((beginsL l (o.moment / 1440 - 1 + e)).drop (j + 1)).flatMap (arB m o k l)).map tupW ++ (((List.range' (e + 1) (2 - (e + 1))).flatMap (arX m o k l)).map tupW ++ ((List.range' (k + 1) (ls.length - (k + 1))).flatMap (arI ls m o)).map tupW)) := by
                  rw [arW, arK, hs, hi, ha, hse, show arX m o k l e = _ from flat_split (arB m o k l) hb, hbb, arK]
                  simp
                have qe := And.intro qR (And.intro @hb1 @hb2); repeat' first | (show Run _ (.cond _ _ _) _ _; refine run_condX (fun hc => ?_) (fun hc => ?_) <;> (try simp only [qH, rng_0] at hc) <;> try contradiction) | (show RunOps _ _ _ _ (⟨_, .call _, _, _, _⟩ :: _) _ _; refine run_callGX (hf := fun hc => (by first | exact pureCnt h1 hm b (by omega) (by omega) | (simp only [qH, rng_0] at hc; exact pureCnt h1 hm b (by omega) (by omega)))) (hn := ?_)) | (show RunOps _ _ _ _ (⟨_, .call _, _, _, _⟩ :: _) _ _; refine run_callX (hf := pureCnt h1 hm b (by omega) (by omega)) (hn := ?_)) | (show RunOps _ _ _ _ (⟨_, .callv, _, _, _⟩ :: _) _ _; refine run_yld (by first | rfl | (simp (disch := omega) only [qG, qe, Nat.reduceAdd, Nat.reduceMul, Nat.reduceEqDiff, Nat.reduceLeDiff, reduceIte, reduceCtorEq, Nat.reduceBEq, Nat.reduceLT] <;> rfl)) (by simp (disch := omega) only [qS, qe, Nat.reduceAdd, Nat.reduceMul, Nat.reduceEqDiff, Nat.reduceLeDiff, reduceIte, reduceCtorEq, Nat.reduceBEq, Nat.reduceLT]) (by simp (disch := omega) only [qS, qe, Nat.reduceAdd, Nat.reduceMul, Nat.reduceEqDiff, Nat.reduceLeDiff, reduceIte, reduceCtorEq, Nat.reduceBEq, Nat.reduceLT] <;> rfl) (by simp (disch := omega) only [qS, qe, Nat.reduceAdd, Nat.reduceMul, Nat.reduceEqDiff, Nat.reduceLeDiff, reduceIte, reduceCtorEq, Nat.reduceBEq, Nat.reduceLT]; try trivial) rfl _ (hs') ?_; intro b; (refine run_ops ?_)) | (first | refine Stp.h ?_ | (show ∀ K : St → List Ft → Prop, _; intro K hK) | (show runS _ _ _ _ _; first | refine qY (hq := ?_) | refine qZ (hq := ?_)) | (refine hK _ _ ?_; clear hK K) | (refine hK _ _ rfl ?_; clear hK K) | (refine qZ (hq := ?_); try exact trivial) | omega)
                · subst hc; exact .inl rfl
                · subst hc; rw [hnx]; exact ⟨by simp, rfl⟩
              · have hbb : arB m o k l b = [] := by rw [arB, if_neg hin]
                rw [hbb] at hnx
                by_cases h3 : b ≤ o.moment
                · have hb1 := eq_true h3
                  have hb2 := eq_false (show ¬ o.moment < b + l.len by omega)
                  have qe := And.intro qR (And.intro @hb1 @hb2); repeat' first | (show Run _ (.cond _ _ _) _ _; refine run_condX (fun hc => ?_) (fun hc => ?_) <;> (try simp only [qH, rng_0] at hc) <;> try contradiction) | (show RunOps _ _ _ _ (⟨_, .call _, _, _, _⟩ :: _) _ _; refine run_callGX (hf := fun hc => (by first | exact pureCnt h1 hm b (by omega) (by omega) | (simp only [qH, rng_0] at hc; exact pureCnt h1 hm b (by omega) (by omega)))) (hn := ?_)) | (show RunOps _ _ _ _ (⟨_, .callv, _, _, _⟩ :: _) _ _; refine run_callN (q := (.b false)) (by first | rfl | (simp (disch := omega) only [qG, qe, Nat.reduceAdd, Nat.reduceMul, Nat.reduceEqDiff, Nat.reduceLeDiff, reduceIte, reduceCtorEq, Nat.reduceBEq, Nat.reduceLT] <;> rfl)) ?_; (try (refine run_ops ?_))) | (first | refine Stp.h ?_ | (show ∀ K : St → List Ft → Prop, _; intro K hK) | (show runS _ _ _ _ _; first | refine qY (hq := ?_) | refine qZ (hq := ?_)) | (refine hK _ _ ?_; clear hK K) | (refine hK _ _ rfl ?_; clear hK K) | (refine qZ (hq := ?_); try exact trivial) | omega)
                  rw [hnx]; simp
                · have hb1 := eq_false h3
                  have qe := And.intro qR @hb1; repeat' first | (show Run _ (.cond _ _ _) _ _; refine run_condX (fun hc => ?_) (fun hc => ?_) <;> (try simp only [qH, rng_0] at hc) <;> try contradiction) | (show RunOps _ _ _ _ (⟨_, .call _, _, _, _⟩ :: _) _ _; refine run_callGX (hf := fun hc => (by first | exact pureCnt h1 hm b (by omega) (by omega) | (simp only [qH, rng_0] at hc; exact pureCnt h1 hm b (by omega) (by omega)))) (hn := ?_)) | (show RunOps _ _ _ _ (⟨_, .callv, _, _, _⟩ :: _) _ _; refine run_callN (q := (.b false)) (by first | rfl | (simp (disch := omega) only [qG, qe, Nat.reduceAdd, Nat.reduceMul, Nat.reduceEqDiff, Nat.reduceLeDiff, reduceIte, reduceCtorEq, Nat.reduceBEq, Nat.reduceLT] <;> rfl)) ?_; (try (refine run_ops ?_))) | (first | refine Stp.h ?_ | (show ∀ K : St → List Ft → Prop, _; intro K hK) | (show runS _ _ _ _ _; first | refine qY (hq := ?_) | refine qZ (hq := ?_)) | (refine hK _ _ ?_; clear hK K) | (refine hK _ _ rfl ?_; clear hK K) | (refine qZ (hq := ?_); try exact trivial) | omega)
                  rw [hnx]; simp
            · have qe := @List.take_length.{0}; repeat' first | (show Run _ (.cond _ _ _) _ _; refine run_condX (fun hc => ?_) (fun hc => ?_) <;> (try simp only [qH, rng_0] at hc) <;> try contradiction) | (first | refine Stp.h ?_ | (show ∀ K : St → List Ft → Prop, _; intro K hK) | (show runS _ _ _ _ _; first | refine qY (hq := ?_) | refine qZ (hq := ?_)) | (refine hK _ _ ?_; clear hK K) | (refine hK _ _ rfl ?_; clear hK K) | (refine qZ (hq := ?_); try exact trivial) | omega)
              refine ⟨e + 1, by omega, by omega, by simp, ?_⟩
              rw [range_next, List.map_append, List.append_assoc]; rfl
          · repeat' first | (show Run _ (.cond _ _ _) _ _; refine run_condX (fun hc => ?_) (fun hc => ?_) <;> (try simp only [qH, rng_0] at hc) <;> try contradiction) | (first | refine Stp.h ?_ | (show ∀ K : St → List Ft → Prop, _; intro K hK) | (show runS _ _ _ _ _; first | refine qY (hq := ?_) | refine qZ (hq := ?_)) | (refine hK _ _ ?_; clear hK K) | (refine hK _ _ rfl ?_; clear hK K) | (refine qZ (hq := ?_); try exact trivial) | omega)
            have ee : e = 2 := by omega
            subst ee
            refine ⟨k + 1, by omega, by omega, by simp, ?_⟩
            rw [arK, range_next, hi, ha, ← arK, List.map_append]
    · repeat' first | (show Run _ (.cond _ _ _) _ _; refine run_condX (fun hc => ?_) (fun hc => ?_) <;> (try simp only [qH, rng_0] at hc) <;> try contradiction) | (first | refine Stp.h ?_ | (show ∀ K : St → List Ft → Prop, _; intro K hK) | (show runS _ _ _ _ _; first | refine qY (hq := ?_) | refine qZ (hq := ?_)) | (refine hK _ _ ?_; clear hK K) | (refine hK _ _ rfl ?_; clear hK K) | (refine qZ (hq := ?_); try exact trivial) | omega)
      have e : k = ls.length := by omega
      subst e; exact .inr rfl
end Go.Proofs.Ytcfbdeghmckelaa
namespace Go.Proofs.Ytcfbdeghmckelaa
open Go.RowKit
set_option maxRecDepth 100000
set_option linter.unusedVariables false
set_option linter.unusedSimpArgs false
set_option maxHeartbeats 2000000
def mostAt (ls : List Lim) (i : Int) : Int := match ls[i.toNat]? with | some l => l.most | none => 0
def roomStep (ls : List Lim) (a : Int) (w : Win) : Int := min a (max 0 (mostAt ls w.lim - w.cnt))
def roomK (ls : List Lim) (W : List Win) : Int := W.foldl (roomStep ls) 999999999
def roomL (ls : List Lim) (m : List Mov) (o : Mov) : Int := roomK ls (arW ls m o)
theorem roomK_next {ls : List Lim} {W : List Win} {k : Nat} {w : Win} (h : W[k]? = some w) : roomK ls (W.take (k + 1)) = roomStep ls (roomK ls (W.take k)) w := by
  rw [roomK, List.take_add_one, h, List.foldl_append]; rfl
theorem cnt_bound {l : Lim} {m : List Mov} (h2 : chkMovs m = 0) (b : Int) : -30000 ≤ cntAll l m b ∧ cntAll l m b ≤ 30000 := by
  have hm := chkMovs_0 h2
  have h1 := ofL_len (l := l) (m := m)
  have h3 := ltN_le (ofL l m) b
  have h4 := ltN_le (ofL l m) (b + l.len)
  unfold cntAll cntW
  omega
theorem arW_at {ls : List Lim} {m : List Mov} {o : Mov} {w : Win} (hw : w ∈ arW ls m o) : ∃ (i : Nat) (l : Lim), w.lim = i ∧ ls[i]? = some l ∧ w.cnt = cntAll l m w.beg ∧ countsL l o.kind o.term = true ∧ w.beg ≤ o.moment ∧ o.moment < w.beg + l.len ∧ ∃ e : Nat, e < 2 ∧ w.beg ∈ beginsL l (o.moment / 1440 - 1 + e) := by
  obtain ⟨i, hi, hw⟩ := List.mem_flatMap.1 hw
  unfold arI at hw
  split at hw
  · rename_i l hl
    unfold arL at hw
    split at hw
    · rename_i hc
      obtain ⟨e, he, hw⟩ := List.mem_flatMap.1 hw
      obtain ⟨b, hb, hw⟩ := List.mem_flatMap.1 hw
      unfold arB at hw
      split at hw
      · rename_i hin
        simp only [List.mem_singleton] at hw
        subst hw
        exact ⟨i, l, rfl, hl, rfl, hc, hin.1, hin.2, e, List.mem_range.1 he, hb⟩
      · cases hw
    · cases hw
  · cases hw
theorem arW_len {ls : List Lim} {m : List Mov} {o : Mov} (hn : ls.length ≤ 32) (h : ∀ l ∈ ls, chkLim l = 0) : (arW ls m o).length ≤ 92160 := by
  have h1 : (arW ls m o).length ≤ (List.range ls.length).length * 2880 := by
    refine flat_le fun i _ => ?_
    unfold arI
    split
    · rename_i l hl
      unfold arL
      split
      · have h2 : ((List.range 2).flatMap (arX m o i l)).length ≤ (List.range 2).length * 1440 := by
          refine flat_le fun e _ => ?_
          have h3 := beginsL_len (h l (List.mem_of_getElem? hl)) (o.moment / 1440 - 1 + e)
          have h4 : (arD m o i l (o.moment / 1440 - 1 + e)).length ≤ (beginsL l (o.moment / 1440 - 1 + e)).length * 1 := by
            refine flat_le fun b _ => ?_
            unfold arB; split <;> simp
          unfold arX; omega
        simp only [List.length_range] at h2; omega
      · simp
    · simp
  simp only [List.length_range] at h1; omega
def ac98 : AC := .seq (.ops false [⟨some 3,.box,[.t 0],none,[]⟩,⟨some 5,.box,[.t 2],none,[]⟩,⟨some 6,.mv,[.c (.i .i64 0)],none,[]⟩]) (.seq (.ops false [⟨some 7,.alloc [(.i .i64 0)],[],none,[]⟩,⟨none,.store 1,[.t 7,.c (.i .i64 999999999)],none,[0,0]⟩]) (.seq (.seq (.ops false [⟨some 9,.load 1 false,[.t 3],none,[]⟩,⟨some 10,.mv,[.t 1],none,[]⟩,⟨some 11,.load 7 true,[.t 5],none,[]⟩,⟨some 12,.call 51,[.t 9,.t 10,.t 11],none,[0,1,2]⟩]) (.block 0 (.rfunc (.t 12) [13] (.ops false [⟨some 8,.alloc [(.i .i64 0),(.i .i64 0),(.i .i64 0)],[],none,[]⟩,⟨none,.store 3,[.t 8,.t 13],none,[0,0]⟩]) (.block 1 (.ops true [⟨some 14,.load 1 false,[.t 7],none,[]⟩,⟨some 15,.load 1 false,[.t 3],none,[]⟩,⟨some 16,.fadr 0,[.t 8],none,[]⟩,⟨some 17,.load 1 false,[.t 16],none,[2]⟩,⟨some 18,.iadrS 11,[.t 15,.t 17],none,[1,3]⟩,⟨some 19,.fadr 10,[.t 18],none,[4]⟩,⟨some 20,.load 1 false,[.t 19],none,[5]⟩,⟨some 21,.fadr 2,[.t 8],none,[]⟩,⟨some 22,.load 1 false,[.t 21],none,[7]⟩,⟨some 23,.bin .sub,[.t 20,.t 22],none,[6,8]⟩,⟨some 24,.mx,[.c (.i .i64 0),.t 23],none,[9]⟩,⟨some 25,.mn,[.t 14,.t 24],none,[0,10]⟩,⟨none,.store 1,[.t 7,.t 25],none,[11,0,1,2,3,4,5,6,7,8,9,10,11]⟩]))))) (.seq (.ops false [⟨some 26,.load 1 false,[.t 7],none,[]⟩,⟨some 6,.mv,[.t 26],none,[0,0]⟩]) .ret)))
def rs98 : List RV := [.tmp 6]
theorem fact98 : compF Try.prog 47 = some (ac98,rs98,27) := by kernel_rfl
def ac43 : AC := .seq (.ops false [⟨some 5,.box,[.t 2],none,[]⟩,⟨some 6,.mv,[.c (.i .i64 0)],none,[]⟩,⟨some 7,.mv,[.c (.i .i64 0)],none,[1]⟩]) (.seq (.seq (.ops true [⟨some 9,.mv,[.t 0],none,[]⟩,⟨some 10,.mv,[.t 1],none,[]⟩,⟨some 11,.call 26,[.t 9,.t 10],none,[0,1]⟩,⟨some 12,.load 7 true,[.t 5],none,[]⟩,⟨some 13,.call 46,[.t 12],none,[3,2]⟩,⟨some 14,.bslice 29 1 (.i .i64 0) 2 [0,1],[.t 11,.t 13],none,[2,4]⟩,⟨some 15,.call 28,[.t 14],none,[5,4]⟩,⟨some 8,.mv,[.t 15],none,[6,6,0,1,2,3,4,5,6]⟩]) (.seq (.ops false [⟨some 16,.mv,[.t 8],none,[]⟩,⟨some 17,.bin .neq,[.t 16,.c (.i .i64 0)],none,[0]⟩]) (.cond (.t 17) (.seq (.ops false [⟨some 18,.mv,[.t 8],none,[]⟩,⟨some 6,.mv,[.c (.i .i64 0)],none,[]⟩,⟨some 7,.mv,[.t 18],none,[0,1,0,1]⟩]) .ret) .skip))) (.seq (.ops false [⟨some 19,.mv,[.t 0],none,[]⟩,⟨some 20,.mv,[.t 1],none,[]⟩,⟨some 21,.load 7 true,[.t 5],none,[]⟩,⟨some 22,.call 47,[.t 19,.t 20,.t 21],none,[0,1,2]⟩,⟨some 6,.mv,[.t 22],none,[3,3,0,1,2,3]⟩,⟨some 7,.mv,[.c (.i .i64 0)],none,[4,0,1,2,3,4]⟩]) .ret))
def rs43 : List RV := [.tmp 6,.tmp 7]
theorem fact43 : compF Try.prog 19 = some (ac43,rs43,23) := by kernel_rfl
def ac99 : AC := .seq (.ops false [⟨some 2,.box,[.t 0],none,[]⟩,⟨some 3,.mv,[.c (.b false)],none,[]⟩]) (.seq (.ops true [⟨some 4,.fadr 2,[.t 2],none,[]⟩,⟨some 5,.load 1 false,[.t 4],none,[0]⟩,⟨some 6,.load 1 false,[.t 1],none,[]⟩,⟨some 7,.fadr 0,[.t 2],none,[]⟩,⟨some 8,.load 1 false,[.t 7],none,[3]⟩,⟨some 9,.iadrS 11,[.t 6,.t 8],none,[2,4]⟩,⟨some 10,.fadr 10,[.t 9],none,[5]⟩,⟨some 11,.load 1 false,[.t 10],none,[6]⟩,⟨some 12,.bin .geq,[.t 5,.t 11],none,[1,7]⟩,⟨some 3,.mv,[.t 12],none,[8,0,1,2,3,4,5,6,7,8]⟩]) .ret)
def rs99 : List RV := [.tmp 3]
theorem fact99 : compF Try.prog 48 = some (ac99,rs99,13) := by kernel_rfl
def ac100 : AC := .seq (.ops false [⟨some 4,.mv,[.c .nilsl],none,[]⟩]) (.seq (.ops false [⟨some 5,.mv,[.c .nilsl],none,[]⟩]) (.seq (.seq (.ops false [⟨some 8,.mv,[.t 0],none,[]⟩,⟨some 9,.len false,[.t 8],none,[0]⟩,⟨some 10,.mv,[.c (.i .i64 0)],none,[]⟩]) (.block 0 (.loop (.seq (.ops false [⟨some 11,.bin .lss,[.t 10,.t 9],none,[]⟩]) (.seq (.cond (.t 11) .skip (.exit 0)) (.seq (.block 1 (.seq (.ops false [⟨some 12,.iadrS 3,[.t 8,.t 10],none,[]⟩,⟨some 13,.load 3 true,[.t 12],none,[0]⟩,⟨some 7,.alloc [(.i .i64 0),(.i .i64 0),(.i .i64 0)],[],none,[]⟩,⟨none,.store 3,[.t 7,.t 13],none,[2,1,0,1,2]⟩]) (.seq (.ops false [⟨some 14,.mv,[.t 1],none,[]⟩,⟨some 15,.load 3 true,[.t 7],none,[]⟩,⟨some 16,.callv,[.t 14,.t 15],none,[0,1]⟩]) (.cond (.t 16) (.ops false [⟨some 17,.mv,[.t 5],none,[]⟩,⟨some 18,.load 3 true,[.t 7],none,[]⟩,⟨some 19,.bslice 33 3 (.agg [(.i .i64 0),(.i .i64 0),(.i .i64 0)]) 1 [0],[.t 18],none,[1]⟩,⟨some 20,.app 33 3 24,[.t 17,.t 19],none,[0,2]⟩,⟨some 5,.mv,[.t 20],none,[3,3,0,1,2,3]⟩]) .skip)))) (.ops false [⟨some 21,.bin .add,[.t 10,.c (.i .i64 1)],none,[]⟩,⟨some 10,.mv,[.t 21],none,[0]⟩]))))))) (.seq (.ops false [⟨some 22,.mv,[.t 5],none,[]⟩,⟨some 4,.mv,[.t 22],none,[0,0]⟩]) .ret)))
def rs100 : List RV := [.tmp 4]
theorem fact100 : compF Try.prog 49 = some (ac100,rs100,23) := by kernel_rfl
def ac44 : AC := .seq (.ops false [⟨some 3,.box,[.t 0],none,[]⟩,⟨some 5,.box,[.t 2],none,[]⟩,⟨some 6,.mv,[.c .nilsl],none,[]⟩,⟨some 7,.mv,[.c (.i .i64 0)],none,[2]⟩]) (.seq (.seq (.ops true [⟨some 10,.load 1 false,[.t 3],none,[]⟩,⟨some 11,.mv,[.t 1],none,[]⟩,⟨some 12,.call 26,[.t 10,.t 11],none,[0,1]⟩,⟨some 13,.load 7 true,[.t 5],none,[]⟩,⟨some 14,.call 46,[.t 13],none,[3,2]⟩,⟨some 15,.bslice 29 1 (.i .i64 0) 2 [0,1],[.t 12,.t 14],none,[2,4]⟩,⟨some 16,.call 28,[.t 15],none,[5,4]⟩,⟨some 8,.mv,[.t 16],none,[6,6,0,1,2,3,4,5,6]⟩]) (.seq (.ops false [⟨some 17,.mv,[.t 8],none,[]⟩,⟨some 18,.bin .neq,[.t 17,.c (.i .i64 0)],none,[0]⟩]) (.cond (.t 18) (.seq (.ops false [⟨some 19,.mv,[.t 8],none,[]⟩,⟨some 6,.mv,[.c .nilsl],none,[]⟩,⟨some 7,.mv,[.t 19],none,[0,1,0,1]⟩]) .ret) .skip))) (.seq (.ops false [⟨some 20,.mkfn (.func 48) 0,[.t 3],none,[]⟩,⟨some 9,.mv,[.t 20],none,[0,0]⟩]) (.seq (.ops false [⟨some 21,.load 1 false,[.t 3],none,[]⟩,⟨some 22,.mv,[.t 1],none,[]⟩,⟨some 23,.load 7 true,[.t 5],none,[]⟩,⟨some 24,.call 51,[.t 21,.t 22,.t 23],none,[0,1,2]⟩,⟨some 25,.call 50,[.t 24],none,[3,3]⟩,⟨some 26,.mv,[.t 9],none,[]⟩,⟨some 27,.call 49,[.t 25,.t 26],none,[4,5,4]⟩,⟨some 6,.mv,[.t 27],none,[6,6,0,1,2,3,4,5,6]⟩,⟨some 7,.mv,[.c (.i .i64 0)],none,[7,0,1,2,3,4,5,6,7]⟩]) .ret)))
def rs44 : List RV := [.tmp 6,.tmp 7]
theorem fact44 : compF Try.prog 20 = some (ac44,rs44,28) := by kernel_rfl
theorem pure98 (ls : List Lim) (m : List Mov) (o : Mov) (h0 : bothC ls m = 0) (ho : chkMov o = 0) : Pure Try.prog 47 [.sl 11 (ls.map Lim.pv), .sl 7 (m.map Mov.pv), o.pv] (.i .i64 (roomL ls m o)) := by
  have h1 := h0
  simp only [firstE_cons] at h1
  have hl := chkLims_0 h1.1
  refine pure_by fact98 (by simp) fun hw X hX => ?_
  unfold ac98 rs98
  have qe := @qR; repeat' first | (show Run _ (.cond _ _ _) _ _; refine run_condX (fun hc => ?_) (fun hc => ?_) <;> (try simp only [qH, rng_0] at hc) <;> try contradiction) | (show RunOps _ _ _ _ (⟨_, .call 51, _, _, _⟩ :: _) _ _; refine run_callX (hf := pure102 ls m o) (hn := ?_)) | (first | refine Stp.h ?_ | (show ∀ K : St → List Ft → Prop, _; intro K hK) | (show runS _ _ _ _ _; first | refine qY (hq := ?_) | refine qZ (hq := ?_)) | (refine hK _ _ ?_; clear hK K) | (refine hK _ _ rfl ?_; clear hK K) | (refine qZ (hq := ?_); try exact trivial) | omega)
  refine run_rfunc rfl (iter139 ls m o (by omega) hl.2 h1.2.1 ho) ?_ ?_ [(3, .lp 3 0), (5, .lp 5 0), (7, .lp 7 0)] (fun k => [(3, .box [.p (.sl 11 (ls.map Lim.pv))] false), (5, .box ([.i .i64 o.moment, .s o.kind, .s o.term, .i .i64 o.seats, .i .i64 o.size, .i .i64 o.noise, .s o.name].map .p) false), (7, .box [.p (.i .i64 (roomK ls ((arW ls m o).take k)))] false)]) (fun _ => []) ?_ ?_ ?_
  · simp
  · simp [hX]
  · simp only [qS, Nat.reduceAdd, Nat.reduceMul, Nat.reduceEqDiff, Nat.reduceLeDiff, reduceIte, reduceCtorEq, Nat.reduceBEq, Nat.reduceLT] <;> rfl
  · intro k t ht X' ro' hX'
    simp only [List.getElem?_map, Option.map_eq_some_iff] at ht
    obtain ⟨w, hy, rfl⟩ := ht
    have hnx := roomK_next (ls := ls) hy
    obtain ⟨i, l, hwi, hli, hwc, _⟩ := arW_at (List.mem_of_getElem? hy)
    have hil := (List.getElem?_eq_some_iff.1 hli).1
    have hlm := chkLim_0 (hl.2 l (List.mem_of_getElem? hli))
    have hcb := cnt_bound (l := l) h1.2.1 w.beg
    have hma : mostAt ls w.lim = l.most := by rw [mostAt, hwi, Int.toNat_natCast, hli]
    simp only [qS, Nat.reduceAdd, Nat.reduceMul, Nat.reduceEqDiff, Nat.reduceLeDiff, reduceIte, reduceCtorEq, Nat.reduceBEq, Nat.reduceLT]
    have qe := @qR; repeat' first | (show Run _ (.cond _ _ _) _ _; refine run_condX (fun hc => ?_) (fun hc => ?_) <;> (try simp only [qH, rng_0] at hc) <;> try contradiction) | (first | refine Stp.h ?_ | (show ∀ K : St → List Ft → Prop, _; intro K hK) | (show runS _ _ _ _ _; first | refine qY (hq := ?_) | refine qZ (hq := ?_)) | (refine hK _ _ ?_; clear hK K) | (refine hK _ _ rfl ?_; clear hK K) | (refine qZ (hq := ?_); try exact trivial) | omega)
    intro X1 hX1
    have qe := And.intro qR (And.intro @hwi @hli); repeat' first | (show Run _ (.cond _ _ _) _ _; refine run_condX (fun hc => ?_) (fun hc => ?_) <;> (try simp only [qH, rng_0] at hc) <;> try contradiction) | (first | refine Stp.h ?_ | (show ∀ K : St → List Ft → Prop, _; intro K hK) | (show runS _ _ _ _ _; first | refine qY (hq := ?_) | refine qZ (hq := ?_)) | (refine hK _ _ ?_; clear hK K) | (refine hK _ _ rfl ?_; clear hK K) | (refine qZ (hq := ?_); try exact trivial) | omega)
    rw [hnx, roomStep, hma]
  · simp only [List.length_map]
    have qe := @List.take_length.{0}; repeat' first | (show Run _ (.cond _ _ _) _ _; refine run_condX (fun hc => ?_) (fun hc => ?_) <;> (try simp only [qH, rng_0] at hc) <;> try contradiction) | (first | refine Stp.h ?_ | (show ∀ K : St → List Ft → Prop, _; intro K hK) | (show runS _ _ _ _ _; first | refine qY (hq := ?_) | refine qZ (hq := ?_)) | (refine hK _ _ ?_; clear hK K) | (refine hK _ _ rfl ?_; clear hK K) | (refine qZ (hq := ?_); try exact trivial) | omega)
    exact .refl _
abbrev roomC (ls : List Lim) (m : List Mov) (o : Mov) : Int := firstE [bothC ls m, chkMov o]
def roomR (ls : List Lim) (m : List Mov) (o : Mov) : Int := if roomC ls m o = 0 then roomL ls m o else 0
theorem roomR_p {ls : List Lim} {m : List Mov} {o : Mov} (h : roomC ls m o = 0) : roomR ls m o = roomL ls m o := if_pos h
theorem roomR_n {ls : List Lim} {m : List Mov} {o : Mov} (h : ¬ roomC ls m o = 0) : roomR ls m o = 0 := if_neg h
theorem pure43 (ls : List Lim) (m : List Mov) (o : Mov) : Pure Try.prog 19 [.sl 11 (ls.map Lim.pv), .sl 7 (m.map Mov.pv), o.pv] (.tup [.i .i64 (roomR ls m o), .i .i64 (roomC ls m o)]) := by
  refine pure_by fact43 (by simp) fun hw X hX => ?_
  unfold ac43 rs43
  have qe := @qR; repeat' first | (show Run _ (.cond _ _ _) _ _; refine run_condX (fun hc => ?_) (fun hc => ?_) <;> (try simp only [qH, rng_0] at hc) <;> try contradiction) | (show RunOps _ _ _ _ (⟨_, .call 26, _, _, _⟩ :: _) _ _; refine run_callX (hf := pure97 ls m) (hn := ?_)) | (show RunOps _ _ _ _ (⟨_, .call 46, _, _, _⟩ :: _) _ _; refine run_callX (hf := pure87 o) (hn := ?_)) | (show RunOps _ _ _ _ (⟨_, .call 28, _, _, _⟩ :: _) _ _; refine run_callX (hf := pure83 [_, _]) (hn := ?_)) | (first | refine Stp.h ?_ | (show ∀ K : St → List Ft → Prop, _; intro K hK) | (show runS _ _ _ _ _; first | refine qY (hq := ?_) | refine qZ (hq := ?_)) | (refine hK _ _ ?_; clear hK K) | (refine hK _ _ rfl ?_; clear hK K) | (refine qZ (hq := ?_); try exact trivial) | omega)
  · rw [roomR_n hc]; exact .refl _
  · have h0 := hc
    have h1 : bothC ls m = 0 ∧ chkMov o = 0 ∧ True := ⟨(firstE_cons.1 hc).1, (firstE_cons.1 (firstE_cons.1 hc).2).1, trivial⟩
    have qe := @qR; repeat' first | (show Run _ (.cond _ _ _) _ _; refine run_condX (fun hc => ?_) (fun hc => ?_) <;> (try simp only [qH, rng_0] at hc) <;> try contradiction) | (show RunOps _ _ _ _ (⟨_, .call 47, _, _, _⟩ :: _) _ _; refine run_callX (hf := pure98 ls m o h1.1 h1.2.1) (hn := ?_)) | (first | refine Stp.h ?_ | (show ∀ K : St → List Ft → Prop, _; intro K hK) | (show runS _ _ _ _ _; first | refine qY (hq := ?_) | refine qZ (hq := ?_)) | (refine hK _ _ ?_; clear hK K) | (refine hK _ _ rfl ?_; clear hK K) | (refine qZ (hq := ?_); try exact trivial) | omega)
    rw [roomR_p h0, roomC, h0]; exact .refl _
theorem pure99 (ls : List Lim) (w : Win) (i : Nat) (l : Lim) (hwi : w.lim = i) (hli : ls[i]? = some l) : Pure Try.prog 48 [w.pv, .ip (.sl 11 (ls.map Lim.pv)) 0] (.b (decide (l.most ≤ w.cnt))) := by
  have hil := (List.getElem?_eq_some_iff.1 hli).1
  refine pure_by fact99 (by simp) fun hw X hX => ?_
  unfold ac99 rs99
  have qe := And.intro qR (And.intro @hwi @hli); repeat' first | (show Run _ (.cond _ _ _) _ _; refine run_condX (fun hc => ?_) (fun hc => ?_) <;> (try simp only [qH, rng_0] at hc) <;> try contradiction) | (first | refine Stp.h ?_ | (show ∀ K : St → List Ft → Prop, _; intro K hK) | (show runS _ _ _ _ _; first | refine qY (hq := ?_) | refine qZ (hq := ?_)) | (refine hK _ _ ?_; clear hK K) | (refine hK _ _ rfl ?_; clear hK K) | (refine qZ (hq := ?_); try exact trivial) | omega)
  exact .refl _
theorem pure100 {f : Nat} {caps : List PV} {L : List Win} {p : Win → Bool} (hf : ∀ w ∈ L, Pure Try.prog f (w.pv :: caps) (.b (p w))) (hn : L.length ≤ 1000000) : Pure Try.prog 49 [.sl 3 (L.map Win.pv), .fn (.func f) [] caps] (.sl 3 ((L.filter p).map Win.pv)) := by
  refine pure_by fact100 (by simp) fun hw X hX => ?_
  unfold ac100 rs100
  repeat' first | (show Run _ (.cond _ _ _) _ _; refine run_condX (fun hc => ?_) (fun hc => ?_) <;> (try simp only [qH, rng_0] at hc) <;> try contradiction) | (first | refine Stp.h ?_ | (show ∀ K : St → List Ft → Prop, _; intro K hK) | (show runS _ _ _ _ _; first | refine qY (hq := ?_) | refine qZ (hq := ?_)) | (refine hK _ _ ?_; clear hK K) | (refine hK _ _ rfl ?_; clear hK K) | (refine qZ (hq := ?_); try exact trivial) | omega)
  refine run_own 100 33 3 [(1, .p (.fn (.func f) [] caps)), (5, .row 100 0), (8, .p (.sl 3 (L.map Win.pv))), (9, .p (.i .i64 L.length)), (10, .p (.i .i64 0))] [] ?_ ?_
  · simp only [Own, ownEnv, ownObj, nilTo, nilTos, qS, Nat.reduceAdd, Nat.reduceMul, Nat.reduceEqDiff, Nat.reduceLeDiff, reduceIte, reduceCtorEq, Nat.reduceBEq, Nat.reduceLT]
  refine run_loop (κ := Nat) (fun k => ⟨[(1, .p (.fn (.func f) [] caps)), (5, .row 100 ((L.take k).filter p).length), (8, .p (.sl 3 (L.map Win.pv))), (9, .p (.i .i64 L.length)), (10, .p (.i .i64 k))], [(100, .row 33 3 (((L.take k).filter p).map Win.pv) false)], [], false⟩) (fun k => k ≤ L.length) (fun k => L.length - k) 0 ?_ ?_ ?_
  · simp only [qS, Nat.reduceAdd, Nat.reduceMul, Nat.reduceEqDiff, Nat.reduceLeDiff, reduceIte, reduceCtorEq, Nat.reduceBEq, Nat.reduceLT] <;> simp
  · simp
  · intro k hk
    repeat (first | refine Stp.h ?_ | (show ∀ K : St → List Ft → Prop, _; intro K hK) | (show runS _ _ _ _ _; first | refine qY (hq := ?_) | refine qZ (hq := ?_)) | (refine hK _ _ ?_; clear hK K) | (refine hK _ _ rfl ?_; clear hK K) | (refine qZ (hq := ?_); try exact trivial) | omega)
    (show Run _ (.cond _ _ _) _ _; refine run_condX (fun hc => ?_) (fun hc => ?_) <;> (try simp only [qH, rng_0] at hc) <;> try contradiction)
    · obtain ⟨w, hx⟩ := some_at (i := k) (l := L) (by omega)
      have hnx := filter_take (p := p) hx
      have hfl := filter_tlen (p := p) (l := L) (k := k)
      have qe := And.intro qR @hx; repeat' first | (show Run _ (.cond _ _ _) _ _; refine run_condX (fun hc => ?_) (fun hc => ?_) <;> (try simp only [qH, rng_0] at hc) <;> try contradiction) | (show RunOps _ _ _ _ (⟨_, .callv, _, _, _⟩ :: _) _ _; refine run_callVX (hf := hf w (List.mem_of_getElem? hx)) (hn := ?_)) | (first | refine Stp.h ?_ | (show ∀ K : St → List Ft → Prop, _; intro K hK) | (show runS _ _ _ _ _; first | refine qY (hq := ?_) | refine qZ (hq := ?_)) | (refine hK _ _ ?_; clear hK K) | (refine hK _ _ rfl ?_; clear hK K) | (refine qZ (hq := ?_); try exact trivial) | omega)
      · rw [hc, if_pos rfl] at hnx
        exact ⟨k + 1, by omega, by omega, ⟨by rw [hnx]; simp, by simp⟩, by rw [hnx]; simp⟩
      · rw [hc] at hnx
        exact ⟨k + 1, by omega, by omega, ⟨by rw [hnx]; simp, by simp⟩, by rw [hnx]; simp⟩
    · repeat' first | (show Run _ (.cond _ _ _) _ _; refine run_condX (fun hc => ?_) (fun hc => ?_) <;> (try simp only [qH, rng_0] at hc) <;> try contradiction) | (first | refine Stp.h ?_ | (show ∀ K : St → List Ft → Prop, _; intro K hK) | (show runS _ _ _ _ _; first | refine qY (hq := ?_) | refine qZ (hq := ?_)) | (refine hK _ _ ?_; clear hK K) | (refine hK _ _ rfl ?_; clear hK K) | (refine qZ (hq := ?_); try exact trivial) | omega)
      have e : k = L.length := by omega
      subst e; rw [List.take_length]; exact .refl _
def fullL (ls : List Lim) (m : List Mov) (o : Mov) : List Win := (arW ls m o).filter fun w => decide (mostAt ls w.lim ≤ w.cnt)
def fullR (ls : List Lim) (m : List Mov) (o : Mov) : List Win := if roomC ls m o = 0 then fullL ls m o else []
theorem fullR_p {ls : List Lim} {m : List Mov} {o : Mov} (h : roomC ls m o = 0) : fullR ls m o = fullL ls m o := if_pos h
theorem fullR_n {ls : List Lim} {m : List Mov} {o : Mov} (h : ¬ roomC ls m o = 0) : fullR ls m o = [] := if_neg h
theorem pure44 (ls : List Lim) (m : List Mov) (o : Mov) : Pure Try.prog 20 [.sl 11 (ls.map Lim.pv), .sl 7 (m.map Mov.pv), o.pv] (.tup [.sl 3 ((fullR ls m o).map Win.pv), .i .i64 (roomC ls m o)]) := by
  refine pure_by fact44 (by simp) fun hw X hX => ?_
  unfold ac44 rs44
  have qe := @qR; repeat' first | (show Run _ (.cond _ _ _) _ _; refine run_condX (fun hc => ?_) (fun hc => ?_) <;> (try simp only [qH, rng_0] at hc) <;> try contradiction) | (show RunOps _ _ _ _ (⟨_, .call 26, _, _, _⟩ :: _) _ _; refine run_callX (hf := pure97 ls m) (hn := ?_)) | (show RunOps _ _ _ _ (⟨_, .call 46, _, _, _⟩ :: _) _ _; refine run_callX (hf := pure87 o) (hn := ?_)) | (show RunOps _ _ _ _ (⟨_, .call 28, _, _, _⟩ :: _) _ _; refine run_callX (hf := pure83 [_, _]) (hn := ?_)) | (first | refine Stp.h ?_ | (show ∀ K : St → List Ft → Prop, _; intro K hK) | (show runS _ _ _ _ _; first | refine qY (hq := ?_) | refine qZ (hq := ?_)) | (refine hK _ _ ?_; clear hK K) | (refine hK _ _ rfl ?_; clear hK K) | (refine qZ (hq := ?_); try exact trivial) | omega)
  · rw [fullR_n hc]; exact weak2 (.nilsl _) (.refl _)
  · have h0 := hc
    have h1 : bothC ls m = 0 ∧ chkMov o = 0 ∧ True := ⟨(firstE_cons.1 hc).1, (firstE_cons.1 (firstE_cons.1 hc).2).1, trivial⟩
    have h2 := h1.1
    simp only [firstE_cons] at h2
    have hl := chkLims_0 h2.1
    have hn := arW_len (m := m) (o := o) hl.1 hl.2
    have hff : ∀ w ∈ arW ls m o, Pure Try.prog 48 (w.pv :: [.ip (.sl 11 (ls.map Lim.pv)) 0]) (.b (decide (mostAt ls w.lim ≤ w.cnt))) := fun w hw => by
      obtain ⟨i, l, hwi, hli, _⟩ := arW_at hw
      have := pure99 ls w i l hwi hli
      rw [show mostAt ls w.lim = l.most by rw [mostAt, hwi, Int.toNat_natCast, hli]]; exact this
    have qe := @qR; repeat' first | (show Run _ (.cond _ _ _) _ _; refine run_condX (fun hc => ?_) (fun hc => ?_) <;> (try simp only [qH, rng_0] at hc) <;> try contradiction) | (show RunOps _ _ _ _ (⟨_, .call 51, _, _, _⟩ :: _) _ _; refine run_callX (hf := pure102 ls m o) (hn := ?_)) | (show RunOps _ _ _ _ (⟨_, .call 50, _, _, _⟩ :: _) _ _; refine run_callX (hf := pure101 (iter139 ls m o (by omega) hl.2 h2.2.1 h1.2.1) (by omega)) (hn := ?_)) | (show RunOps _ _ _ _ (⟨_, .call 49, _, _, _⟩ :: _) _ _; refine run_callBX (hf := pure100 hff (by omega)) (hn := ?_)) | (first | refine Stp.h ?_ | (show ∀ K : St → List Ft → Prop, _; intro K hK) | (show runS _ _ _ _ _; first | refine qY (hq := ?_) | refine qZ (hq := ?_)) | (refine hK _ _ ?_; clear hK K) | (refine hK _ _ rfl ?_; clear hK K) | (refine qZ (hq := ?_); try exact trivial) | omega)
    rw [fullR_p h0, roomC, h0]; exact .refl _
end Go.Proofs.Ytcfbdeghmckelaa
namespace Go.Proofs.Ytcfbdeghmckelaa
open Go.RowKit
set_option maxRecDepth 100000
set_option linter.unusedVariables false
set_option linter.unusedSimpArgs false
set_option maxHeartbeats 2000000
def ac80 : AC := .seq (.ops false [⟨some 1,.box,[.t 0],none,[]⟩,⟨some 2,.mv,[.c .nilsl],none,[]⟩]) (.seq (.ops false [⟨some 9,.fadr 6,[.t 1],none,[]⟩,⟨some 10,.load 3 true,[.t 9],none,[0]⟩,⟨some 11,.call 78,[.t 10],none,[1]⟩,⟨some 8,.mv,[.t 11],none,[2]⟩,⟨some 12,.ext 0,[.t 8],none,[3]⟩,⟨some 13,.ext 1,[.t 8],none,[3]⟩,⟨some 3,.mv,[.t 12],none,[4,2,0,1,2,3,4]⟩,⟨some 4,.mv,[.t 13],none,[5,6,0,1,2,3,4,5,6]⟩]) (.seq (.ops false [⟨some 5,.mv,[.c .nilsl],none,[]⟩]) (.seq (.seq (.ops false [⟨some 14,.mv,[.t 3],none,[]⟩,⟨some 15,.len false,[.t 14],none,[0]⟩,⟨some 16,.mv,[.c (.i .i64 0)],none,[]⟩]) (.block 0 (.loop (.seq (.ops false [⟨some 17,.bin .lss,[.t 16,.t 15],none,[]⟩]) (.seq (.cond (.t 17) .skip (.exit 0)) (.seq (.block 1 (.seq (.ops false [⟨some 18,.iadrS 1,[.t 14,.t 16],none,[]⟩,⟨some 19,.load 1 false,[.t 18],none,[0]⟩,⟨some 7,.mv,[.t 19],none,[1,0,1]⟩]) (.ops false [⟨some 20,.mv,[.t 5],none,[]⟩,⟨some 21,.mv,[.t 7],none,[]⟩,⟨some 22,.bin .mul,[.c (.i .i64 1440),.t 21],none,[1]⟩,⟨some 23,.fadr 9,[.t 1],none,[]⟩,⟨some 24,.load 1 false,[.t 23],none,[3]⟩,⟨some 25,.bin .add,[.t 22,.t 24],none,[2,4]⟩,⟨some 26,.fadr 2,[.t 1],none,[]⟩,⟨some 27,.load 1 false,[.t 26],none,[6]⟩,⟨some 28,.fadr 3,[.t 1],none,[]⟩,⟨some 29,.load 1 false,[.t 28],none,[8]⟩,⟨some 30,.fadr 10,[.t 1],none,[]⟩,⟨some 31,.load 1 false,[.t 30],none,[10]⟩,⟨some 32,.fadr 11,[.t 1],none,[]⟩,⟨some 33,.load 1 false,[.t 32],none,[12]⟩,⟨some 34,.fadr 12,[.t 1],none,[]⟩,⟨some 35,.load 1 false,[.t 34],none,[14]⟩,⟨some 36,.fadr 0,[.t 1],none,[]⟩,⟨some 37,.load 1 false,[.t 36],none,[16]⟩,⟨some 38,.build [(.i .i64 0),(.s (bs [])),(.s (bs [])),(.i .i64 0),(.i .i64 0),(.i .i64 0),(.s (bs []))] [(0,1),(1,1),(2,1),(3,1),(4,1),(5,1),(6,1)],[.t 25,.t 27,.t 29,.t 31,.t 33,.t 35,.t 37],none,[5,7,9,11,13,15,17]⟩,⟨some 39,.bslice 57 7 (.agg [(.i .i64 0),(.s (bs [])),(.s (bs [])),(.i .i64 0),(.i .i64 0),(.i .i64 0),(.s (bs []))]) 1 [0],[.t 38],none,[18]⟩,⟨some 40,.app 57 7 80,[.t 20,.t 39],none,[0,19]⟩,⟨some 5,.mv,[.t 40],none,[20,20,0,1,2,3,4,5,6,7,8,9,10,11,12,13,14,15,16,17,18,19,20]⟩]))) (.ops false [⟨some 41,.bin .add,[.t 16,.c (.i .i64 1)],none,[]⟩,⟨some 16,.mv,[.t 41],none,[0]⟩]))))))) (.seq (.ops false [⟨some 42,.mv,[.t 5],none,[]⟩,⟨some 2,.mv,[.t 42],none,[0,0]⟩]) .ret))))
def rs80 : List RV := [.tmp 2]
theorem fact80 : compF Try.prog 53 = some (ac80,rs80,43) := by kernel_rfl
def ac19 : AC := .seq (.ops false [⟨some 1,.box,[.t 0],none,[]⟩,⟨some 2,.mv,[.c .nilsl],none,[]⟩,⟨some 3,.mv,[.c (.i .i64 0)],none,[1]⟩]) (.seq (.seq (.ops false [⟨some 5,.load 13 true,[.t 1],none,[]⟩,⟨some 6,.call 52,[.t 5],none,[0]⟩,⟨some 4,.mv,[.t 6],none,[1,1,0,1]⟩]) (.seq (.ops false [⟨some 7,.mv,[.t 4],none,[]⟩,⟨some 8,.bin .neq,[.t 7,.c (.i .i64 0)],none,[0]⟩]) (.cond (.t 8) (.seq (.ops false [⟨some 9,.mv,[.t 4],none,[]⟩,⟨some 2,.mv,[.c .nilsl],none,[]⟩,⟨some 3,.mv,[.t 9],none,[0,1,0,1]⟩]) .ret) .skip))) (.seq (.ops false [⟨some 10,.load 13 true,[.t 1],none,[]⟩,⟨some 11,.call 53,[.t 10],none,[0]⟩,⟨some 2,.mv,[.t 11],none,[1,1,0,1]⟩,⟨some 3,.mv,[.c (.i .i64 0)],none,[2,0,1,2]⟩]) .ret))
def rs19 : List RV := [.tmp 2,.tmp 3]
theorem fact19 : compF Try.prog 22 = some (ac19,rs19,12) := by kernel_rfl
def ac106 : AC := .seq (.ops false [⟨some 7,.box,[.t 2],none,[]⟩,⟨some 10,.mv,[.c (.i .i64 0)],none,[]⟩]) (.seq (.ops true [⟨some 11,.mv,[.t 0],none,[]⟩,⟨some 12,.mv,[.t 1],none,[]⟩,⟨some 13,.call 26,[.t 11,.t 12],none,[0,1]⟩,⟨some 14,.load 13 true,[.t 7],none,[]⟩,⟨some 15,.call 52,[.t 14],none,[3,2]⟩,⟨some 16,.mv,[.t 3],none,[]⟩,⟨some 17,.call 31,[.t 16,.c (.i .i64 0),.c (.i .i64 1439)],none,[5,4]⟩,⟨some 18,.mv,[.t 4],none,[]⟩,⟨some 19,.call 31,[.t 18,.c (.i .i64 0),.c (.i .i64 1439)],none,[7,6]⟩,⟨some 20,.mv,[.t 3],none,[]⟩,⟨some 21,.mv,[.t 4],none,[]⟩,⟨some 22,.bin .gtr,[.t 20,.t 21],none,[9,10]⟩,⟨some 23,.call 36,[.t 22,.c (.i .i64 11)],none,[11,8]⟩,⟨some 24,.bslice 29 1 (.i .i64 0) 5 [0,1,2,3,4],[.t 13,.t 15,.t 17,.t 19,.t 23],none,[2,4,6,8,12]⟩,⟨some 25,.call 28,[.t 24],none,[13,12]⟩,⟨some 10,.mv,[.t 25],none,[14,14,0,1,2,3,4,5,6,7,8,9,10,11,12,13,14]⟩]) .ret)
def rs106 : List RV := [.tmp 10]
theorem fact106 : compF Try.prog 56 = some (ac106,rs106,26) := by kernel_rfl
theorem chkReq_0 {r : Req} (h : chkReq r = 0) : chkPer r.per = 0 ∧ 0 ≤ r.minute ∧ r.minute ≤ 1439 := by
  unfold chkReq at h
  simp only [firstE_cons, rng_0] at h
  exact ⟨h.2.2.2.1, h.2.2.2.2.1⟩
def movOf (r : Req) (d : Int) : Mov := ⟨1440 * d + r.minute, r.kind, r.term, r.seats, r.size, r.noise, r.name⟩
def movsL (r : Req) : List Mov := (daysL r.per).map (movOf r)
theorem pure80 (r : Req) (h : chkReq r = 0) : Pure Try.prog 53 [r.pv] (.sl 7 ((movsL r).map Mov.pv)) := by
  have hr := chkReq_0 h
  have hp := chkPer_0 hr.1
  have hdl := daysL_len r.per
  have hdr : daysR r.per = daysL r.per := by rw [daysR, if_pos hr.1]
  refine pure_by fact80 (by simp) fun hw X hX => ?_
  unfold ac80 rs80
  have qe := And.intro qR @hdr; repeat' first | (show Run _ (.cond _ _ _) _ _; refine run_condX (fun hc => ?_) (fun hc => ?_) <;> (try simp only [qH, rng_0] at hc) <;> try contradiction) | (show RunOps _ _ _ _ (⟨_, .call 78, _, _, _⟩ :: _) _ _; refine run_callX (hf := pure126 r.per) (hn := ?_)) | (first | refine Stp.h ?_ | (show ∀ K : St → List Ft → Prop, _; intro K hK) | (show runS _ _ _ _ _; first | refine qY (hq := ?_) | refine qZ (hq := ?_)) | (refine hK _ _ ?_; clear hK K) | (refine hK _ _ rfl ?_; clear hK K) | (refine qZ (hq := ?_); try exact trivial) | omega)
  refine run_own 100 57 7 [(1, .lp 1 0), (5, .row 100 0), (14, .p (.sl 1 ((daysL r.per).map (.i .i64)))), (15, .p (.i .i64 (daysL r.per).length)), (16, .p (.i .i64 0))] [(1, .box ([.s r.name, .s r.carrier, .s r.kind, .s r.term, .s r.partner, .s r.link, .i .i64 r.per.fro, .i .i64 r.per.to, .i .i64 r.per.days, .i .i64 r.minute, .i .i64 r.seats, .i .i64 r.size, .i .i64 r.noise].map .p) false)] ?_ ?_
  · simp only [Own, ownEnv, ownObj, nilTo, nilTos, qS, Nat.reduceAdd, Nat.reduceMul, Nat.reduceEqDiff, Nat.reduceLeDiff, reduceIte, reduceCtorEq, Nat.reduceBEq, Nat.reduceLT]
  refine run_loop (κ := Nat) (fun k => ⟨[(1, .lp 1 0), (5, .row 100 ((daysL r.per).take k).length), (14, .p (.sl 1 ((daysL r.per).map (.i .i64)))), (15, .p (.i .i64 (daysL r.per).length)), (16, .p (.i .i64 k))], [(1, .box ([.s r.name, .s r.carrier, .s r.kind, .s r.term, .s r.partner, .s r.link, .i .i64 r.per.fro, .i .i64 r.per.to, .i .i64 r.per.days, .i .i64 r.minute, .i .i64 r.seats, .i .i64 r.size, .i .i64 r.noise].map .p) false), (100, .row 57 7 ((((daysL r.per).take k).map (movOf r)).map Mov.pv) false)], [], false⟩) (fun k => k ≤ (daysL r.per).length) (fun k => (daysL r.per).length - k) 0 ?_ ?_ ?_
  · simp only [qS, Nat.reduceAdd, Nat.reduceMul, Nat.reduceEqDiff, Nat.reduceLeDiff, reduceIte, reduceCtorEq, Nat.reduceBEq, Nat.reduceLT] <;> simp
  · simp
  · intro k hk
    repeat (first | refine Stp.h ?_ | (show ∀ K : St → List Ft → Prop, _; intro K hK) | (show runS _ _ _ _ _; first | refine qY (hq := ?_) | refine qZ (hq := ?_)) | (refine hK _ _ ?_; clear hK K) | (refine hK _ _ rfl ?_; clear hK K) | (refine qZ (hq := ?_); try exact trivial) | omega)
    (show Run _ (.cond _ _ _) _ _; refine run_condX (fun hc => ?_) (fun hc => ?_) <;> (try simp only [qH, rng_0] at hc) <;> try contradiction)
    · obtain ⟨d, hx⟩ := some_at (i := k) (l := daysL r.per) (by omega)
      have hdm := daysL_mem (List.mem_of_getElem? hx)
      have hlt := take_len hx
      have qe := And.intro qR @hx; repeat' first | (show Run _ (.cond _ _ _) _ _; refine run_condX (fun hc => ?_) (fun hc => ?_) <;> (try simp only [qH, rng_0] at hc) <;> try contradiction) | (first | refine Stp.h ?_ | (show ∀ K : St → List Ft → Prop, _; intro K hK) | (show runS _ _ _ _ _; first | refine qY (hq := ?_) | refine qZ (hq := ?_)) | (refine hK _ _ ?_; clear hK K) | (refine hK _ _ rfl ?_; clear hK K) | (refine qZ (hq := ?_); try exact trivial) | omega)
      exact ⟨k + 1, by omega, by omega, ⟨by rw [List.take_add_one, hx, List.length_append]; rfl, by simp⟩, by rw [take_snoc (movOf r) hx]; simp [movOf]⟩
    · repeat' first | (show Run _ (.cond _ _ _) _ _; refine run_condX (fun hc => ?_) (fun hc => ?_) <;> (try simp only [qH, rng_0] at hc) <;> try contradiction) | (first | refine Stp.h ?_ | (show ∀ K : St → List Ft → Prop, _; intro K hK) | (show runS _ _ _ _ _; first | refine qY (hq := ?_) | refine qZ (hq := ?_)) | (refine hK _ _ ?_; clear hK K) | (refine hK _ _ rfl ?_; clear hK K) | (refine qZ (hq := ?_); try exact trivial) | omega)
      have e : k = (daysL r.per).length := by omega
      subst e; rw [List.take_length]; exact .refl _
def movR (r : Req) : List Mov := if chkReq r = 0 then movsL r else []
theorem pure19 (r : Req) : Pure Try.prog 22 [r.pv] (.tup [.sl 7 ((movR r).map Mov.pv), .i .i64 (chkReq r)]) := by
  refine pure_by fact19 (by simp) fun hw X hX => ?_
  unfold ac19 rs19
  have qe := @qR; repeat' first | (show Run _ (.cond _ _ _) _ _; refine run_condX (fun hc => ?_) (fun hc => ?_) <;> (try simp only [qH, rng_0] at hc) <;> try contradiction) | (show RunOps _ _ _ _ (⟨_, .call 52, _, _, _⟩ :: _) _ _; refine run_callX (hf := pure79 r) (hn := ?_)) | (show RunOps _ _ _ _ (⟨_, .call 53, _, _, _⟩ :: _) _ _; refine run_callX (hf := pure80 r hc) (hn := ?_)) | (first | refine Stp.h ?_ | (show ∀ K : St → List Ft → Prop, _; intro K hK) | (show runS _ _ _ _ _; first | refine qY (hq := ?_) | refine qZ (hq := ?_)) | (refine hK _ _ ?_; clear hK K) | (refine hK _ _ rfl ?_; clear hK K) | (refine qZ (hq := ?_); try exact trivial) | omega)
  · rw [movR, if_neg hc]; exact weak2 (.nilsl _) (.refl _)
  · rw [movR, if_pos hc, hc]; exact .refl _
def Req.at (r : Req) (n : Int) : Req := { r with minute := n }
def seaC (ls : List Lim) (m : List Mov) (r : Req) (a b : Int) : Int := firstE [bothC ls m, chkReq r, rng a 0 1439, rng b 0 1439, if b < a then 11 else 0]
theorem pure106 (ls : List Lim) (m : List Mov) (r : Req) (a b : Int) : Pure Try.prog 56 [.sl 11 (ls.map Lim.pv), .sl 7 (m.map Mov.pv), r.pv, .i .i64 a, .i .i64 b] (.i .i64 (seaC ls m r a b)) := by
  refine pure_by fact106 (by simp) fun hw X hX => ?_
  unfold ac106 rs106
  have qe := @qR; repeat' first | (show Run _ (.cond _ _ _) _ _; refine run_condX (fun hc => ?_) (fun hc => ?_) <;> (try simp only [qH, rng_0] at hc) <;> try contradiction) | (show RunOps _ _ _ _ (⟨_, .call 26, _, _, _⟩ :: _) _ _; refine run_callX (hf := pure97 ls m) (hn := ?_)) | (show RunOps _ _ _ _ (⟨_, .call 52, _, _, _⟩ :: _) _ _; refine run_callX (hf := pure79 r) (hn := ?_)) | (show RunOps _ _ _ _ (⟨_, .call 31, _, _, _⟩ :: _) _ _; refine run_callX (hf := pure88 _ _ _) (hn := ?_)) | (show RunOps _ _ _ _ (⟨_, .call 36, _, _, _⟩ :: _) _ _; refine run_callX (hf := pure85 _ _) (hn := ?_)) | (show RunOps _ _ _ _ (⟨_, .call 28, _, _, _⟩ :: _) _ _; refine run_callX (hf := pure83 [_, _, _, _, _]) (hn := ?_)) | (first | refine Stp.h ?_ | (show ∀ K : St → List Ft → Prop, _; intro K hK) | (show runS _ _ _ _ _; first | refine qY (hq := ?_) | refine qZ (hq := ?_)) | (refine hK _ _ ?_; clear hK K) | (refine hK _ _ rfl ?_; clear hK K) | (refine qZ (hq := ?_); try exact trivial) | omega)
  exact .refl _
end Go.Proofs.Ytcfbdeghmckelaa
namespace Go.Proofs.Ytcfbdeghmckelaa
open Go.RowKit
set_option maxRecDepth 100000
set_option linter.unusedVariables false
set_option linter.unusedSimpArgs false
set_option maxHeartbeats 4000000
def evB (m : List Mov) (l : Lim) (d b : Int) : List (Nat × Nat) := if cntAll l m b < l.most then [] else if max 0 (b - 1440 * d) < min 1440 (b + l.len - 1440 * d) then [((max 0 (b - 1440 * d)).toNat, (min 1440 (b + l.len - 1440 * d)).toNat)] else []
def evX (m : List Mov) (l : Lim) (d : Int) (e : Nat) : List (Nat × Nat) := (beginsL l (d - 1 + e)).flatMap (evB m l d)
def evD (m : List Mov) (l : Lim) (d : Int) : List (Nat × Nat) := (List.range 2).flatMap (evX m l d)
def evL (m : List Mov) (r : Req) (l : Lim) : List (Nat × Nat) := if countsL l r.kind r.term then (daysL r.per).flatMap (evD m l) else []
def evI (ls : List Lim) (m : List Mov) (r : Req) (i : Nat) : List (Nat × Nat) := match ls[i]? with | some l => evL m r l | none => []
def egK (ls : List Lim) (m : List Mov) (r : Req) (k : Nat) : List (Nat × Nat) := (List.range k).flatMap (evI ls m r)
def evA (ls : List Lim) (m : List Mov) (r : Req) : List (Nat × Nat) := egK ls m r ls.length
theorem evB_ok {m : List Mov} {l : Lim} {d b : Int} {e : Nat × Nat} (h : e ∈ evB m l d b) : e.1 < e.2 ∧ e.2 ≤ 1440 := by
  unfold evB at h
  split at h
  · cases h
  · split at h
    · simp only [List.mem_singleton] at h; subst h; simp only; omega
    · cases h
theorem evA_ok {ls : List Lim} {m : List Mov} {r : Req} {e : Nat × Nat} (h : e ∈ evA ls m r) : e.1 < e.2 ∧ e.2 ≤ 1440 := by
  obtain ⟨i, _, h⟩ := List.mem_flatMap.1 h
  unfold evI at h
  split at h
  · unfold evL at h
    split at h
    · obtain ⟨d, _, h⟩ := List.mem_flatMap.1 h
      obtain ⟨x, _, h⟩ := List.mem_flatMap.1 h
      obtain ⟨b, _, h⟩ := List.mem_flatMap.1 h
      exact evB_ok h
    · cases h
  · cases h
theorem evA_len {ls : List Lim} (hn : ls.length ≤ 32) (h : ∀ l ∈ ls, chkLim l = 0) (m : List Mov) {r : Req} (hr : chkPer r.per = 0) : (evA ls m r).length ≤ 40000000 := by
  have hp := chkPer_0 hr
  have hd := daysL_len r.per
  have h1 : (evA ls m r).length ≤ (List.range ls.length).length * 1154880 := flat_le fun i _ => by
    unfold evI
    split
    · rename_i l hl
      unfold evL
      split
      · have h2 : ((daysL r.per).flatMap (evD m l)).length ≤ (daysL r.per).length * 2880 := flat_le fun d _ => by
          have h3 : (evD m l d).length ≤ (List.range 2).length * 1440 := flat_le fun e _ => by
            have h4 : (evX m l d e).length ≤ (beginsL l (d - 1 + e)).length * 1 := flat_le fun b _ => by unfold evB; (repeat' split) <;> simp
            have := beginsL_len (h l (List.mem_of_getElem? hl)) (d - 1 + e)
            omega
          simpa using h3
        omega
      · simp
    · simp
  simp only [List.length_range] at h1
  omega
def addE (E : List Int) (e : Nat × Nat) : List Int := (E.set e.1 (E[e.1]?.getD 0 + 1)).set e.2 (E[e.2]?.getD 0 - 1)
def edg (evs : List (Nat × Nat)) : List Int := evs.foldl addE (List.replicate 1441 0)
theorem edg_snoc (evs : List (Nat × Nat)) (e : Nat × Nat) : edg (evs ++ [e]) = addE (edg evs) e := by rw [edg, List.foldl_append]; rfl
theorem foldl_inv {α β : Type} (P : Nat → β → Prop) (f : β → α → β) (hs : ∀ n b a, P n b → P (n + 1) (f b a)) : ∀ (l : List α) (n : Nat) (b : β), P n b → P (n + l.length) (l.foldl f b)
  | [], n, b, h => h
  | a :: r, n, b, h => by rw [List.foldl_cons, List.length_cons, show n + (r.length + 1) = (n + 1) + r.length by omega]; exact foldl_inv P f hs r (n + 1) _ (hs n b a h)
theorem edg_inv (evs : List (Nat × Nat)) : (edg evs).length = 1441 ∧ ∀ (i : Nat) (x : Int), (edg evs)[i]? = some x → -(evs.length : Int) ≤ x ∧ x ≤ evs.length := by
  have := foldl_inv (fun n (E : List Int) => E.length = 1441 ∧ ∀ (i : Nat) (x : Int), E[i]? = some x → -(n : Int) ≤ x ∧ x ≤ n) addE (fun n E e h => by
    obtain ⟨h1, h2⟩ := h
    refine ⟨by simp [addE, h1], fun i x hx => ?_⟩
    have hg : ∀ j : Nat, -(n : Int) ≤ E[j]?.getD 0 ∧ E[j]?.getD 0 ≤ n := fun j => by
      cases hj : E[j]? with
      | none => simp
      | some y => exact h2 j y hj
    have h3 := hg e.1
    have h4 := hg e.2
    simp only [addE, List.getElem?_set, List.length_set] at hx
    split at hx
    · split at hx
      · injection hx with hx; omega
      · cases hx
    · split at hx
      · split at hx
        · injection hx with hx; omega
        · cases hx
      · have := h2 i x hx; omega) evs 0 (List.replicate 1441 0) ⟨by simp, fun i x hx => by
    rw [List.getElem?_replicate] at hx
    split at hx
    · injection hx with hx; subst hx; simp
    · cases hx⟩
  simpa [edg] using this
theorem edg_at (evs : List (Nat × Nat)) {i : Nat} (hi : i ≤ 1440) : ∃ x, (edg evs)[i]? = some x ∧ -(evs.length : Int) ≤ x ∧ x ≤ evs.length := by
  have h := edg_inv evs
  have hi : i < (edg evs).length := by rw [h.1]; omega
  exact ⟨_, List.getElem?_eq_getElem hi, h.2 i _ (List.getElem?_eq_getElem hi)⟩
def preS (E : List Int) (i : Nat) : Int := (E.take i).foldl (· + ·) 0
theorem preS_next {E : List Int} {i : Nat} {x : Int} (h : E[i]? = some x) : preS E (i + 1) = preS E i + x := by rw [preS, List.take_add_one, h, List.foldl_append]; rfl
theorem preS_set {E : List Int} {j : Nat} {x y : Int} (h : E[j]? = some x) (i : Nat) : preS (E.set j y) i = preS E i + if j < i then y - x else 0 := by
  have hj := (List.getElem?_eq_some_iff.1 h).1
  induction i with
  | zero => simp [preS]
  | succ i ih =>
    by_cases hi : i < E.length
    · rw [preS_next (x := ((E.set j y)[i]?).getD 0) (by rw [List.getElem?_eq_getElem (by simpa using hi)]; rfl), preS_next (List.getElem?_eq_getElem hi), ih, List.getElem?_set]
      by_cases hij : j = i
      · subst hij
        rw [if_pos rfl, if_pos hj, if_neg (by omega), if_pos (by omega)]
        have : E[j] = x := by rw [List.getElem?_eq_getElem hj] at h; injection h
        rw [this]; simp; omega
      · rw [if_neg hij, List.getElem?_eq_getElem hi]
        by_cases h1 : j < i
        · rw [if_pos h1, if_pos (by omega)]; simp; omega
        · rw [if_neg h1, if_neg (by omega)]; simp
    · have e1 : preS (E.set j y) (i + 1) = preS (E.set j y) i := by rw [preS, preS, List.take_of_length_le (by simp; omega), List.take_of_length_le (by simp; omega)]
      have e2 : preS E (i + 1) = preS E i := by rw [preS, preS, List.take_of_length_le (by omega), List.take_of_length_le (by omega)]
      rw [e1, e2, ih]
      by_cases h1 : j < i
      · rw [if_pos h1, if_pos (by omega)]
      · omega
def hitN (i : Nat) (e : Nat × Nat) : Bool := decide (e.1 ≤ i) && decide (i < e.2)
theorem preS_edg {evs : List (Nat × Nat)} (h : ∀ e ∈ evs, e.1 < e.2 ∧ e.2 ≤ 1440) {i : Nat} (hi : i < 1440) : preS (edg evs) (i + 1) = ((evs.filter (hitN i)).length : Int) := by
  have key : ∀ n, n ≤ evs.length → preS (edg (evs.take n)) (i + 1) = (((evs.take n).filter (hitN i)).length : Int) := by
    intro n
    induction n with
    | zero => intro _; simp only [List.take_zero, edg, List.foldl_nil, List.filter_nil, List.length_nil, preS]
              rw [List.take_replicate]
              generalize min (i + 1) 1441 = q
              induction q with
              | zero => rfl
              | succ q ih => rw [List.replicate_succ', List.foldl_append, ih]; rfl
    | succ n ih =>
      intro hn
      have ih := ih (by omega)
      have hx := List.getElem?_eq_getElem (l := evs) (i := n) (by omega)
      have he := h _ (List.mem_of_getElem? hx)
      rw [filter_take hx, List.take_add_one, hx, Option.toList_some, edg_snoc, addE]
      obtain ⟨x, hx1, _⟩ := edg_at (evs.take n) (i := evs[n].1) (by omega)
      obtain ⟨y, hy1, _⟩ := edg_at (evs.take n) (i := evs[n].2) (by omega)
      have hne : ((edg (evs.take n)).set evs[n].1 (x + 1))[evs[n].2]? = some y := by rw [List.getElem?_set_ne (by omega)]; exact hy1
      rw [hx1, hy1, Option.getD_some, Option.getD_some, preS_set hne, preS_set hx1, ih, List.length_append]
      simp only [hitN]
      by_cases h1 : evs[n].1 ≤ i
      · by_cases h2 : i < evs[n].2
        · simp only [h1, h2, decide_true, Bool.true_and, if_true, List.length_cons, List.length_nil, if_pos (show evs[n].1 < i + 1 by omega), if_neg (show ¬ evs[n].2 < i + 1 by omega)]; omega
        · simp only [h1, h2, decide_true, decide_false, Bool.and_false, Bool.false_eq_true, if_false, List.length_nil, if_pos (show evs[n].1 < i + 1 by omega), if_pos (show evs[n].2 < i + 1 by omega)]; omega
      · simp only [h1, decide_false, Bool.false_and, Bool.false_eq_true, if_false, List.length_nil, if_neg (show ¬ evs[n].1 < i + 1 by omega), if_neg (show ¬ evs[n].2 < i + 1 by omega)]; omega
  have := key evs.length (Nat.le_refl _)
  rwa [List.take_length] at this
def refV (evs : List (Nat × Nat)) (i : Nat) : Bool := evs.any (hitN i)
theorem preS_pos {evs : List (Nat × Nat)} (h : ∀ e ∈ evs, e.1 < e.2 ∧ e.2 ≤ 1440) {i : Nat} (hi : i < 1440) : decide (0 < preS (edg evs) (i + 1)) = refV evs i := by
  rw [preS_edg h hi, refV]
  rw [Bool.eq_iff_iff, decide_eq_true_eq, List.any_eq_true]
  constructor
  · intro hp
    obtain ⟨e, he⟩ := List.exists_mem_of_length_pos (show 0 < (evs.filter (hitN i)).length by omega)
    exact ⟨e, (List.mem_filter.1 he).1, (List.mem_filter.1 he).2⟩
  · rintro ⟨e, he, hh⟩
    have := List.length_pos_of_mem (List.mem_filter.2 ⟨he, hh⟩)
    omega
theorem preS_bd {evs : List (Nat × Nat)} (h : ∀ e ∈ evs, e.1 < e.2 ∧ e.2 ≤ 1440) {i : Nat} (hi : i ≤ 1440) : 0 ≤ preS (edg evs) i ∧ preS (edg evs) i ≤ evs.length := by
  cases i with
  | zero => simp [preS]
  | succ i =>
    rw [preS_edg h (by omega)]
    have := List.length_filter_le (hitN i) evs
    omega
def outK (evs : List (Nat × Nat)) (k : Nat) : List Bool := (List.range 1440).map fun j => decide (j < k) && refV evs j
theorem outK_len (evs : List (Nat × Nat)) (k : Nat) : (outK evs k).length = 1440 := by simp [outK]
theorem outK_at {evs : List (Nat × Nat)} {k j : Nat} (hj : j < 1440) : (outK evs k)[j]? = some (decide (j < k) && refV evs j) := by
  rw [outK, List.getElem?_map, List.getElem?_range hj]; rfl
theorem outK_set (evs : List (Nat × Nat)) {k : Nat} (hk : k < 1440) : (outK evs k).set k (refV evs k) = outK evs (k + 1) := by
  refine List.ext_getElem? fun j => ?_
  rw [List.getElem?_set]
  by_cases hj : j < 1440
  · rw [outK_at hj, outK_at hj, outK_len]
    by_cases e : k = j
    · subst e; rw [if_pos rfl, if_pos hk]; simp
    · rw [if_neg e]
      have : (decide (j < k)) = decide (j < k + 1) := decide_eq_decide.2 (by omega)
      rw [this]
  · rw [if_neg (by omega), List.getElem?_eq_none (by rw [outK_len]; omega), List.getElem?_eq_none (by rw [outK_len]; omega)]
theorem outK_0 (evs : List (Nat × Nat)) : outK evs 0 = List.replicate 1440 false := by
  refine List.ext_getElem? fun j => ?_
  by_cases hj : j < 1440
  · rw [outK_at hj, List.getElem?_replicate, if_pos hj]; simp
  · rw [List.getElem?_eq_none (by rw [outK_len]; omega), List.getElem?_eq_none (by simp; omega)]
end Go.Proofs.Ytcfbdeghmckelaa
namespace Go.Proofs.Ytcfbdeghmckelaa
open Go.RowKit
set_option maxRecDepth 100000
set_option linter.unusedVariables false
set_option linter.unusedSimpArgs false
set_option maxHeartbeats 8000000
def p1 (ls : List Lim) (m : List Mov) (r : Req) (k : Nat) (l : Lim) (q : Nat) : List (Nat × Nat) := egK ls m r k ++ ((daysL r.per).take q).flatMap (evD m l)
def p2 (ls : List Lim) (m : List Mov) (r : Req) (k : Nat) (l : Lim) (q : Nat) (d : Int) (e : Nat) : List (Nat × Nat) := p1 ls m r k l q ++ (List.range e).flatMap (evX m l d)
def p3 (ls : List Lim) (m : List Mov) (r : Req) (k : Nat) (l : Lim) (q : Nat) (d : Int) (e i : Nat) : List (Nat × Nat) := p2 ls m r k l q d e ++ ((beginsL l (d - 1 + e)).take i).flatMap (evB m l d)
theorem take_flat_le {α β : Type} (f : α → List β) (l : List α) (i : Nat) : ((l.take i).flatMap f).length ≤ (l.flatMap f).length := by
  conv => rhs; rw [← List.take_append_drop i l, List.flatMap_append, List.length_append]
  omega
theorem range_flat_le {β : Type} (f : Nat → List β) {i n : Nat} (h : i ≤ n) : ((List.range i).flatMap f).length ≤ ((List.range n).flatMap f).length := by
  have := take_flat_le f (List.range n) i
  rwa [List.take_range, Nat.min_eq_left h] at this
theorem p3_next {ls : List Lim} {m : List Mov} {r : Req} {k : Nat} {l : Lim} {q : Nat} {d : Int} {e i : Nat} {b : Int} (h : (beginsL l (d - 1 + e))[i]? = some b) : p3 ls m r k l q d e (i + 1) = p3 ls m r k l q d e i ++ evB m l d b := by
  rw [p3, flat_take (evB m l d) h, ← List.append_assoc]; rfl
theorem p3_end {ls : List Lim} {m : List Mov} {r : Req} {k : Nat} {l : Lim} {q : Nat} {d : Int} {e : Nat} : p3 ls m r k l q d e (beginsL l (d - 1 + e)).length = p2 ls m r k l q d (e + 1) := by
  rw [p3, List.take_length, p2, p2, range_next, List.append_assoc]; rfl
theorem p2_end {ls : List Lim} {m : List Mov} {r : Req} {k : Nat} {l : Lim} {q : Nat} {d : Int} (h : (daysL r.per)[q]? = some d) : p2 ls m r k l q d 2 = p1 ls m r k l (q + 1) := by
  rw [p2, p1, p1, flat_take (evD m l) h, ← List.append_assoc]; rfl
theorem p1_end {ls : List Lim} {m : List Mov} {r : Req} {k : Nat} {l : Lim} (h : ls[k]? = some l) (hc : countsL l r.kind r.term = true) : p1 ls m r k l (daysL r.per).length = egK ls m r (k + 1) := by
  rw [p1, List.take_length, egK, egK, range_next, evI, h]
  simp only [evL, hc, if_true]
theorem p1_skip {ls : List Lim} {m : List Mov} {r : Req} {k : Nat} {l : Lim} (h : ls[k]? = some l) (hc : countsL l r.kind r.term = false) : egK ls m r (k + 1) = egK ls m r k := by
  rw [egK, egK, range_next, evI, h]
  simp [evL, hc]
theorem p3_len {ls : List Lim} {m : List Mov} {r : Req} {k : Nat} {l : Lim} {q : Nat} {d : Int} {e i : Nat} (h : ls[k]? = some l) (hc : countsL l r.kind r.term = true) (hq : (daysL r.per)[q]? = some d) (he : e < 2) (hA : (evA ls m r).length ≤ 40000000) : (p3 ls m r k l q d e i).length ≤ 40000000 := by
  have hk := (List.getElem?_eq_some_iff.1 h).1
  have h1 : (p3 ls m r k l q d e i).length ≤ (p3 ls m r k l q d e (beginsL l (d - 1 + e)).length).length := by
    rw [p3, p3, List.take_length, List.length_append, List.length_append]
    have := take_flat_le (evB m l d) (beginsL l (d - 1 + e)) i
    omega
  rw [p3_end] at h1
  have h2 : (p2 ls m r k l q d (e + 1)).length ≤ (p2 ls m r k l q d 2).length := by
    rw [p2, p2, List.length_append, List.length_append]
    have := range_flat_le (evX m l d) (show e + 1 ≤ 2 by omega)
    omega
  rw [p2_end hq] at h2
  have h3 : (p1 ls m r k l (q + 1)).length ≤ (p1 ls m r k l (daysL r.per).length).length := by
    rw [p1, p1, List.take_length, List.length_append, List.length_append]
    have := take_flat_le (evD m l) (daysL r.per) (q + 1)
    omega
  rw [p1_end h hc] at h3
  have h4 : (egK ls m r (k + 1)).length ≤ (evA ls m r).length := range_flat_le (evI ls m r) (by omega)
  omega
def lstP (l : Lim) (m : List Mov) (a : Int × Int) (L : List Int) : Int × Int := L.foldl (fun _ b => (b, cntAll l m b)) a
theorem lstP_next {l : Lim} {m : List Mov} {a : Int × Int} {L : List Int} {i : Nat} {b : Int} (h : L[i]? = some b) : lstP l m a (L.take (i + 1)) = (b, cntAll l m b) := by
  rw [lstP, List.take_add_one, h, List.foldl_append]; rfl
def okP (l : Lim) (m : List Mov) (a : Int × Int) : Prop := a.1 = -1 ∨ a.2 = cntAll l m a.1
theorem lstP_ok {l : Lim} {m : List Mov} {a : Int × Int} (h : okP l m a) : ∀ L, okP l m (lstP l m a L) := by
  intro L
  induction L generalizing a with
  | nil => exact h
  | cons b r ih => exact ih (a := (b, cntAll l m b)) (.inr rfl)
theorem go_map {α : Type} (look : Nat → Option LObj) (n : Nat) (f : α → PV) : ∀ L : List α, toPV.go look (n + 1) (L.map fun x => LV.p (f x)) = some (True, L.map f, [])
  | [] => by simp [toPV.go]
  | x :: r => by simp only [List.map_cons, toPV.go, toPV, go_map look n f r, true_and, List.append_nil]
theorem box_map {L : List Bool} (h : L.length = 1440) : boxPV (L.map PV.b) = .agg (L.map PV.b) := by
  match L with
  | [] => rfl
  | [x] => simp at h
  | _ :: _ :: _ => rfl
abbrev Req.cells (r : Req) : List PV := [.s r.name, .s r.carrier, .s r.kind, .s r.term, .s r.partner, .s r.link, .i .i64 r.per.fro, .i .i64 r.per.to, .i .i64 r.per.days, .i .i64 r.minute, .i .i64 r.seats, .i .i64 r.size, .i .i64 r.noise]
def edgO (P : List (Nat × Nat)) : List LV := (edg P).map fun x => LV.p (PV.i .i64 x)
def outO (P : List (Nat × Nat)) (k : Nat) : List LV := (outK P k).map fun b => LV.p (PV.b b)
theorem scs_map {α : Type} (look : Nat → Option LObj) (f : α → PV) : ∀ L : List α, scPs look (L.map fun x => LV.p (f x)) = True
  | [] => by simp [scPs]
  | x :: r => by simp only [List.map_cons, scPs, scP, scs_map look f r, and_self]
theorem scE (look : Nat → Option LObj) (P : List (Nat × Nat)) : scPs look (edgO P) = True := scs_map look _ _
theorem scO (look : Nat → Option LObj) (P : List (Nat × Nat)) (k : Nat) : scPs look (outO P k) = True := scs_map look _ _
theorem edgO_len (P : List (Nat × Nat)) : (edgO P).length = 1441 := by rw [edgO, List.length_map, (edg_inv P).1]
theorem outO_len (P : List (Nat × Nat)) (k : Nat) : (outO P k).length = 1440 := by rw [outO, List.length_map, outK_len]
theorem edgO_0 : edgO [] = List.replicate 1441 (LV.p (PV.i .i64 0)) := by rw [edgO, edg, List.foldl_nil, List.map_replicate]
theorem outO_0 (P : List (Nat × Nat)) : outO P 0 = List.replicate 1440 (LV.p (PV.b false)) := by rw [outO, outK_0, List.map_replicate]
theorem edgO_at {P : List (Nat × Nat)} {i : Nat} {x : Int} (h : (edg P)[i]? = some x) : (edgO P)[i]? = some (LV.p (PV.i .i64 x)) := by rw [edgO, List.getElem?_map, h]; rfl
theorem edgO_next {P : List (Nat × Nat)} {f t : Nat} {x y : Int} (hx : (edg P)[f]? = some x) (hy : (edg P)[t]? = some y) : ((edgO P).set f (LV.p (PV.i .i64 (x + 1)))).set t (LV.p (PV.i .i64 (y - 1))) = edgO (P ++ [(f, t)]) := by
  rw [edgO, edgO, edg_snoc, addE, hx, hy, List.map_set, List.map_set]; rfl
theorem outO_next (P : List (Nat × Nat)) {k : Nat} (hk : k < 1440) : (outO P k).set k (LV.p (PV.b (refV P k))) = outO P (k + 1) := by
  rw [outO, outO, ← outK_set P hk, List.map_set]
theorem goO (look : Nat → Option LObj) (n : Nat) (P : List (Nat × Nat)) (k : Nat) : toPV.go look (n + 1) (outO P k) = some (True, (outK P k).map PV.b, []) := go_map look n PV.b (outK P k)
theorem boxO (P : List (Nat × Nat)) (k : Nat) : boxPV ((outK P k).map PV.b) = .agg ((outK P k).map PV.b) := box_map (outK_len P k)
def ac104 : AC := .seq (.ops false [⟨some 5,.box,[.t 2],none,[]⟩,⟨some 6,.mv,[.c .nilp],none,[]⟩]) (.seq (.ops false [⟨some 7,.alloc (List.replicate 1441 (.i .i64 0)),[],none,[]⟩]) (.seq (.ops false [⟨some 26,.fadr 6,[.t 5],none,[]⟩,⟨some 27,.load 3 true,[.t 26],none,[0]⟩,⟨some 28,.call 78,[.t 27],none,[1]⟩,⟨some 25,.mv,[.t 28],none,[2]⟩,⟨some 29,.ext 0,[.t 25],none,[3]⟩,⟨some 30,.ext 1,[.t 25],none,[3]⟩,⟨some 8,.mv,[.t 29],none,[4,2,0,1,2,3,4]⟩,⟨some 9,.mv,[.t 30],none,[5,6,0,1,2,3,4,5,6]⟩]) (.seq (.seq (.ops false [⟨some 31,.mv,[.t 0],none,[]⟩,⟨some 32,.len false,[.t 31],none,[0]⟩,⟨some 33,.mv,[.c (.i .i64 0)],none,[]⟩]) (.block 0 (.loop (.seq (.ops false [⟨some 34,.bin .lss,[.t 33,.t 32],none,[]⟩]) (.seq (.cond (.t 34) .skip (.exit 0)) (.seq (.block 1 (.seq (.ops false [⟨some 35,.iadrS 11,[.t 31,.t 33],none,[]⟩,⟨some 36,.load 11 true,[.t 35],none,[0]⟩,⟨some 11,.alloc [(.s (bs [])),(.s (bs [])),(.s (bs [])),(.i .i64 0),(.i .i64 0),(.i .i64 0),(.i .i64 0),(.i .i64 0),(.i .i64 0),(.i .i64 0),(.i .i64 0)],[],none,[]⟩,⟨none,.store 11,[.t 11,.t 36],none,[2,1,0,1,2]⟩]) (.seq (.seq (.ops false [⟨some 37,.load 11 true,[.t 11],none,[]⟩,⟨some 38,.fadr 2,[.t 5],none,[]⟩,⟨some 39,.load 1 false,[.t 38],none,[1]⟩,⟨some 40,.fadr 3,[.t 5],none,[]⟩,⟨some 41,.load 1 false,[.t 40],none,[3]⟩,⟨some 42,.call 64,[.t 37,.t 39,.t 41],none,[0,2,4]⟩,⟨some 43,.not,[.t 42],none,[5]⟩]) (.cond (.t 43) (.exit 1) .skip)) (.seq (.ops false [⟨some 44,.load 11 true,[.t 11],none,[]⟩,⟨some 45,.mv,[.t 1],none,[]⟩,⟨some 46,.call 33,[.t 44,.t 45],none,[0,1]⟩,⟨some 12,.alloc [.nilsl],[],none,[]⟩,⟨none,.store 1,[.t 12,.t 46],none,[3,2,2,0,1,2,3]⟩]) (.seq (.ops false [⟨some 47,.build [(.i .i64 0),(.i .i64 0),(.i .i64 0)] [(1,1)],[.c (.i .i64 (-1))],none,[]⟩,⟨some 13,.alloc [(.i .i64 0),(.i .i64 0),(.i .i64 0)],[],none,[]⟩,⟨none,.store 3,[.t 13,.t 47],none,[1,0,0,1]⟩]) (.seq (.ops false [⟨some 48,.mv,[.t 8],none,[]⟩,⟨some 49,.len false,[.t 48],none,[0]⟩,⟨some 50,.mv,[.c (.i .i64 0)],none,[]⟩]) (.block 2 (.loop (.seq (.ops false [⟨some 51,.bin .lss,[.t 50,.t 49],none,[]⟩]) (.seq (.cond (.t 51) .skip (.exit 2)) (.seq (.block 3 (.seq (.ops false [⟨some 52,.iadrS 1,[.t 48,.t 50],none,[]⟩,⟨some 53,.load 1 false,[.t 52],none,[0]⟩,⟨some 15,.alloc [(.i .i64 0)],[],none,[]⟩,⟨none,.store 1,[.t 15,.t 53],none,[2,1,0,1,2]⟩]) (.seq (.ops false [⟨some 54,.load 1 false,[.t 15],none,[]⟩,⟨some 55,.bin .sub,[.t 54,.c (.i .i64 1)],none,[0]⟩,⟨some 56,.load 1 false,[.t 15],none,[]⟩,⟨some 57,.build [(.i .i64 0),(.i .i64 0)] [(0,1),(1,1)],[.t 55,.t 56],none,[1,2]⟩,⟨some 58,.mv,[.c (.i .i64 0)],none,[]⟩]) (.block 4 (.loop (.seq (.ops false [⟨some 59,.bin .lss,[.t 58,.c (.i .i64 2)],none,[]⟩]) (.seq (.cond (.t 59) .skip (.exit 4)) (.seq (.block 5 (.seq (.ops false [⟨some 60,.idxA 2 1 false,[.t 57,.t 58],none,[]⟩,⟨some 17,.mv,[.t 60],none,[0,0]⟩]) (.seq (.ops false [⟨some 61,.load 11 true,[.t 11],none,[]⟩,⟨some 62,.mv,[.t 17],none,[]⟩,⟨some 63,.call 32,[.t 61,.t 62],none,[0,1]⟩]) (.block 6 (.rfunc (.t 63) [64] (.ops false [⟨some 18,.mv,[.t 64],none,[]⟩]) (.block 7 (.seq (.ops false [⟨some 65,.mv,[.t 18],none,[]⟩,⟨some 66,.fadr 2,[.t 13],none,[]⟩,⟨some 67,.load 1 false,[.t 66],none,[1]⟩,⟨some 68,.build [(.i .i64 0),(.i .i64 0),(.i .i64 0)] [(1,1),(2,1)],[.t 65,.t 67],none,[0,2]⟩,⟨some 19,.alloc [(.i .i64 0),(.i .i64 0),(.i .i64 0)],[],none,[]⟩,⟨none,.store 3,[.t 19,.t 68],none,[4,3,0,1,2,3,4]⟩]) (.seq (.seq (.ops false [⟨some 69,.load 3 true,[.t 13],none,[]⟩,⟨some 70,.load 3 true,[.t 19],none,[]⟩,⟨some 71,.eq true [1,1,1] true,[.t 69,.t 70],none,[0,1]⟩]) (.cond (.t 71) (.seq (.ops false [⟨some 72,.load 1 false,[.t 12],none,[]⟩,⟨some 73,.mv,[.t 18],none,[]⟩,⟨some 74,.fadr 3,[.t 11],none,[]⟩,⟨some 75,.load 1 false,[.t 74],none,[2]⟩,⟨some 76,.call 34,[.t 72,.t 73,.t 75],none,[0,1,3]⟩,⟨some 77,.fadr 2,[.t 19],none,[0,1,2,3,4]⟩,⟨none,.store 1,[.t 77,.t 76],none,[5,4,4,0,1,2,3,4]⟩]) (.ops false [⟨some 78,.load 3 true,[.t 19],none,[]⟩,⟨none,.store 3,[.t 13,.t 78],none,[0,0]⟩])) .skip)) (.seq (.seq (.ops false [⟨some 79,.fadr 2,[.t 19],none,[]⟩,⟨some 80,.load 1 false,[.t 79],none,[0]⟩,⟨some 81,.fadr 10,[.t 11],none,[]⟩,⟨some 82,.load 1 false,[.t 81],none,[2]⟩,⟨some 83,.bin .lss,[.t 80,.t 82],none,[1,3]⟩]) (.cond (.t 83) (.exit 7) .skip)) (.seq (.ops true [⟨some 84,.mv,[.t 18],none,[]⟩,⟨some 85,.load 1 false,[.t 15],none,[]⟩,⟨some 86,.bin .mul,[.c (.i .i64 1440),.t 85],none,[1]⟩,⟨some 87,.bin .sub,[.t 84,.t 86],none,[0,2]⟩,⟨some 88,.mx,[.c (.i .i64 0),.t 87],none,[3]⟩,⟨some 89,.mv,[.t 18],none,[]⟩,⟨some 90,.fadr 3,[.t 11],none,[]⟩,⟨some 91,.load 1 false,[.t 90],none,[6]⟩,⟨some 92,.bin .add,[.t 89,.t 91],none,[5,7]⟩,⟨some 93,.load 1 false,[.t 15],none,[]⟩,⟨some 94,.bin .mul,[.c (.i .i64 1440),.t 93],none,[9]⟩,⟨some 95,.bin .sub,[.t 92,.t 94],none,[8,10]⟩,⟨some 96,.mn,[.c (.i .i64 1440),.t 95],none,[11]⟩,⟨some 20,.mv,[.t 88],none,[4,0,1,2,3,4]⟩,⟨some 21,.mv,[.t 96],none,[12,13,0,1,2,3,4,5,6,7,8,9,10,11,12,13]⟩]) (.seq (.ops false [⟨some 97,.mv,[.t 20],none,[]⟩,⟨some 98,.mv,[.t 21],none,[]⟩,⟨some 99,.bin .lss,[.t 97,.t 98],none,[0,1]⟩]) (.cond (.t 99) (.seq (.ops false [⟨some 100,.mv,[.t 20],none,[]⟩,⟨some 101,.iadrA 1441 1,[.t 7,.t 100],none,[0]⟩,⟨some 102,.load 1 false,[.t 101],none,[1]⟩,⟨some 103,.bin .add,[.t 102,.c (.i .i64 1)],none,[2]⟩,⟨some 104,.iadrA 1441 1,[.t 7,.t 100],none,[0,0,1,2,3]⟩,⟨none,.store 1,[.t 104,.t 103],none,[4,3,0,1,2,3]⟩]) (.ops false [⟨some 105,.mv,[.t 21],none,[]⟩,⟨some 106,.iadrA 1441 1,[.t 7,.t 105],none,[0]⟩,⟨some 107,.load 1 false,[.t 106],none,[1]⟩,⟨some 108,.bin .sub,[.t 107,.c (.i .i64 1)],none,[2]⟩,⟨some 109,.iadrA 1441 1,[.t 7,.t 105],none,[0,0,1,2,3]⟩,⟨none,.store 1,[.t 109,.t 108],none,[4,3,0,1,2,3]⟩])) .skip)))))))))))) (.ops false [⟨some 110,.bin .add,[.t 58,.c (.i .i64 1)],none,[]⟩,⟨some 58,.mv,[.t 110],none,[0]⟩]))))))))) (.ops false [⟨some 111,.bin .add,[.t 50,.c (.i .i64 1)],none,[]⟩,⟨some 50,.mv,[.t 111],none,[0]⟩])))))))))))) (.ops false [⟨some 112,.bin .add,[.t 33,.c (.i .i64 1)],none,[]⟩,⟨some 33,.mv,[.t 112],none,[0]⟩]))))))) (.seq (.ops false [⟨some 113,.alloc (List.replicate 1440 (.b false)),[],none,[]⟩,⟨some 22,.mv,[.t 113],none,[0,0]⟩,⟨some 23,.mv,[.c (.i .i64 0)],none,[1,0,1]⟩]) (.seq (.seq (.ops false [⟨some 114,.mv,[.c (.i .i64 0)],none,[]⟩]) (.block 8 (.loop (.seq (.ops false [⟨some 115,.bin .lss,[.t 114,.c (.i .i64 1440)],none,[]⟩]) (.seq (.cond (.t 115) .skip (.exit 8)) (.seq (.block 9 (.seq (.ops false [⟨some 116,.mv,[.t 114],none,[]⟩,⟨some 24,.mv,[.t 116],none,[0,0]⟩]) (.seq (.ops false [⟨some 117,.mv,[.t 23],none,[]⟩,⟨some 118,.mv,[.t 24],none,[]⟩,⟨some 119,.iadrA 1441 1,[.t 7,.t 118],none,[1]⟩,⟨some 120,.load 1 false,[.t 119],none,[2]⟩,⟨some 121,.bin .add,[.t 117,.t 120],none,[0,3]⟩,⟨some 23,.mv,[.t 121],none,[4,0,1,2,3,4]⟩]) (.ops false [⟨some 122,.mv,[.t 22],none,[]⟩,⟨some 123,.mv,[.t 24],none,[]⟩,⟨some 124,.mv,[.t 23],none,[]⟩,⟨some 125,.bin .gtr,[.t 124,.c (.i .i64 0)],none,[2]⟩,⟨some 126,.nilchk,[.t 122],none,[0]⟩,⟨some 127,.iadrA 1440 1,[.t 126,.t 123],none,[4,1,0,1,2,3]⟩,⟨none,.store 1,[.t 127,.t 125],none,[5,3,0,1,2,3]⟩])))) (.ops false [⟨some 128,.bin .add,[.t 114,.c (.i .i64 1)],none,[]⟩,⟨some 114,.mv,[.t 128],none,[0]⟩]))))))) (.seq (.ops false [⟨some 129,.mv,[.t 22],none,[]⟩,⟨some 6,.mv,[.t 129],none,[0,0]⟩]) .ret))))))
def rs104 : List RV := [.tmp 6]
theorem fact104 : compF Try.prog 54 = some (ac104,rs104,130) := by kernel_rfl
def ac105 : AC := .seq (.ops false [⟨some 4,.mv,[.c (.b false)],none,[]⟩]) (.seq (.ops false [⟨some 5,.mv,[.t 0],none,[]⟩,⟨some 6,.mv,[.t 1],none,[]⟩,⟨some 7,.nilchk,[.t 5],none,[0]⟩,⟨some 8,.iadrA 1440 1,[.t 7,.t 6],none,[2,1]⟩,⟨some 9,.load 1 false,[.t 8],none,[3]⟩,⟨some 10,.not,[.t 9],none,[4]⟩,⟨some 4,.mv,[.t 10],none,[5,0,1,2,3,4,5]⟩]) .ret)
def rs105 : List RV := [.tmp 4]
theorem fact105 : compF Try.prog 55 = some (ac105,rs105,11) := by kernel_rfl
theorem pure105 (L : List Bool) (hL : L.length = 1440) (i : Nat) (x : Bool) (hx : L[i]? = some x) : Pure Try.prog 55 [.ip (.agg (L.map PV.b)) 0, .i .i64 i] (.b (!x)) := by
  have hi := (List.getElem?_eq_some_iff.1 hx).1
  rw [hL] at hi
  have hi' : (i + 1 ≤ 1440) = True := eq_true (by omega)
  refine pure_by fact105 (by simp) fun hw X hX => ?_
  unfold ac105 rs105
  have qe := And.intro qR (And.intro @hx (And.intro @hL (And.intro @hi' (And.intro @Nat.zero_add (And.intro @Nat.mul_one @and_false))))); repeat' first | (show Run _ (.cond _ _ _) _ _; refine run_condX (fun hc => ?_) (fun hc => ?_) <;> (try simp only [qH, rng_0] at hc) <;> try contradiction) | (first | refine Stp.h ?_ | (show ∀ K : St → List Ft → Prop, _; intro K hK) | (show runS _ _ _ _ _; first | refine qY (hq := ?_) | refine qZ (hq := ?_)) | (refine hK _ _ ?_; clear hK K) | (refine hK _ _ rfl ?_; clear hK K) | (refine qZ (hq := ?_); try exact trivial) | omega)
  exact .refl _
theorem pure104 (ls : List Lim) (m : List Mov) (r : Req) (h0 : bothC ls m = 0) (hr : chkReq r = 0) : Pure Try.prog 54 [.sl 11 (ls.map Lim.pv), .sl 7 (m.map Mov.pv), r.pv] (.ip (.agg ((outK (evA ls m r) 1440).map PV.b)) 0) := by
  have hr0 := chkReq_0 hr
  have hp := chkPer_0 hr0.1
  have hdl := daysL_len r.per
  have hdr : daysR r.per = daysL r.per := by rw [daysR, if_pos hr0.1]
  have hb := h0
  simp only [firstE_cons] at hb
  have hls := chkLims_0 hb.1
  have hmm := chkMovs_0 hb.2.1
  have hA := evA_len hls.1 hls.2 m hr0.1
  refine pure_by fact104 (by simp) fun hw X hX => ?_
  unfold ac104 rs104
  have qe := And.intro @hdr (@List.map_replicate.{0, 0}); repeat' first | (show Run _ (.cond _ _ _) _ _; refine run_condX (fun hc => ?_) (fun hc => ?_) <;> (try simp only [qH, rng_0] at hc) <;> try contradiction) | (show RunOps _ _ _ _ (⟨_, .call 78, _, _, _⟩ :: _) _ _; refine run_callX (hf := pure126 r.per) (hn := ?_)) | (first | refine Stp.h ?_ | (show ∀ K : St → List Ft → Prop, _; intro K hK) | (show runS _ _ _ _ _; first | refine qY (hq := ?_) | refine qZ (hq := ?_)) | (refine hK _ _ ?_; clear hK K) | (refine hK _ _ rfl ?_; clear hK K) | (refine qZ (hq := ?_); try exact trivial) | omega)
  refine run_loop (κ := Nat) (fun k => ⟨[(1, .p (.sl 7 (m.map Mov.pv))), (5, .lp 5 0), (7, .lp 7 0), (8, .p (.sl 1 ((daysL r.per).map (.i .i64)))), (31, .p (.sl 11 (ls.map Lim.pv))), (32, .p (.i .i64 ls.length)), (33, .p (.i .i64 k))], [(5, .box (r.cells.map .p) false), (7, .box (edgO (egK ls m r k)) false)], [], false⟩) (fun k => k ≤ ls.length) (fun k => ls.length - k) 0 ?_ ?_ ?_
  · simp only [qS, Nat.reduceAdd, Nat.reduceMul, Nat.reduceEqDiff, Nat.reduceLeDiff, reduceIte, reduceCtorEq, Nat.reduceBEq, Nat.reduceLT, scE]
    exact ⟨rfl, by rw [← edgO_0]; rfl⟩
  · simp
  · intro k hk
    have qe := @scE; repeat (first | refine Stp.h ?_ | (show ∀ K : St → List Ft → Prop, _; intro K hK) | (show runS _ _ _ _ _; first | refine qY (hq := ?_) | refine qZ (hq := ?_)) | (refine hK _ _ ?_; clear hK K) | (refine hK _ _ rfl ?_; clear hK K) | (refine qZ (hq := ?_); try exact trivial) | omega)
    have qe := @scE; (show Run _ (.cond _ _ _) _ _; refine run_condX (fun hc => ?_) (fun hc => ?_) <;> (try simp only [qH, rng_0] at hc) <;> try contradiction)
    · obtain ⟨l, hx⟩ := some_at (i := k) (l := ls) (by omega)
      have h1 := hls.2 l (List.mem_of_getElem? hx)
      have hlm := chkLim_0 h1
      have qe := And.intro @scE (And.intro qR @hx); repeat' first | (show Run _ (.cond _ _ _) _ _; refine run_condX (fun hc => ?_) (fun hc => ?_) <;> (try simp only [qH, rng_0] at hc) <;> try contradiction) | (show RunOps _ _ _ _ (⟨_, .call 64, _, _, _⟩ :: _) _ _; refine run_callX (hf := pure135 l r.kind r.term h1) (hn := ?_)) | (show RunOps _ _ _ _ (⟨_, .call 33, _, _, _⟩ :: _) _ _; refine run_callX (hf := pure92 l m h1 (by omega)) (hn := ?_)) | (first | refine Stp.h ?_ | (show ∀ K : St → List Ft → Prop, _; intro K hK) | (show runS _ _ _ _ _; first | refine qY (hq := ?_) | refine qZ (hq := ?_)) | (refine hK _ _ ?_; clear hK K) | (refine hK _ _ rfl ?_; clear hK K) | (refine qZ (hq := ?_); try exact trivial) | omega)
      · exact ⟨k + 1, by omega, by omega, by simp, by rw [p1_skip hx hc]⟩
      · have hcl : countsL l r.kind r.term = true := hc
        refine run_loop (κ := Nat × Int × Int) (fun q => ⟨[(1, .p (.sl 7 (m.map Mov.pv))), (5, .lp 5 0), (7, .lp 7 0), (8, .p (.sl 1 ((daysL r.per).map (.i .i64)))), (11, .lp 11 0), (12, .lp 12 0), (13, .lp 13 0), (31, .p (.sl 11 (ls.map Lim.pv))), (32, .p (.i .i64 ls.length)), (33, .p (.i .i64 k)), (48, .p (.sl 1 ((daysL r.per).map (.i .i64)))), (49, .p (.i .i64 (daysL r.per).length)), (50, .p (.i .i64 q.1))], [(5, .box (r.cells.map .p) false), (7, .box (edgO (p1 ls m r k l q.1)) false), (11, .box (l.cells.map .p) false), (12, .box [.p (.sl 1 ((ofL l m).map (.i .i64)))] false), (13, .box [.p (.i .i64 0), .p (.i .i64 q.2.1), .p (.i .i64 q.2.2)] false)], [], false⟩) (fun q => q.1 ≤ (daysL r.per).length ∧ okP l m q.2) (fun q => (daysL r.per).length - q.1) (0, -1, 0) ?_ ?_ ?_
        · simp only [qS, Nat.reduceAdd, Nat.reduceMul, Nat.reduceEqDiff, Nat.reduceLeDiff, reduceIte, reduceCtorEq, Nat.reduceBEq, Nat.reduceLT, scE]
          (repeat' apply And.intro) <;> first | rfl | (simp [p1]; done)
        · exact ⟨by simp, .inl rfl⟩
        · intro q hq
          obtain ⟨q, a⟩ := q
          simp only at hq
          have qe := @scE; repeat (first | refine Stp.h ?_ | (show ∀ K : St → List Ft → Prop, _; intro K hK) | (show runS _ _ _ _ _; first | refine qY (hq := ?_) | refine qZ (hq := ?_)) | (refine hK _ _ ?_; clear hK K) | (refine hK _ _ rfl ?_; clear hK K) | (refine qZ (hq := ?_); try exact trivial) | omega)
          have qe := @scE; (show Run _ (.cond _ _ _) _ _; refine run_condX (fun hc => ?_) (fun hc => ?_) <;> (try simp only [qH, rng_0] at hc) <;> try contradiction)
          · obtain ⟨d, hd⟩ := some_at (i := q) (l := daysL r.per) (by omega)
            have hdm := daysL_mem (List.mem_of_getElem? hd)
            have qe := And.intro @scE (And.intro qR @hd); repeat' first | (show Run _ (.cond _ _ _) _ _; refine run_condX (fun hc => ?_) (fun hc => ?_) <;> (try simp only [qH, rng_0] at hc) <;> try contradiction) | (first | refine Stp.h ?_ | (show ∀ K : St → List Ft → Prop, _; intro K hK) | (show runS _ _ _ _ _; first | refine qY (hq := ?_) | refine qZ (hq := ?_)) | (refine hK _ _ ?_; clear hK K) | (refine hK _ _ rfl ?_; clear hK K) | (refine qZ (hq := ?_); try exact trivial) | omega)
            refine run_loop (κ := Nat × Int × Int) (fun e => ⟨[(1, .p (.sl 7 (m.map Mov.pv))), (5, .lp 5 0), (7, .lp 7 0), (8, .p (.sl 1 ((daysL r.per).map (.i .i64)))), (11, .lp 11 0), (12, .lp 12 0), (13, .lp 13 0), (15, .lp 15 0), (31, .p (.sl 11 (ls.map Lim.pv))), (32, .p (.i .i64 ls.length)), (33, .p (.i .i64 k)), (48, .p (.sl 1 ((daysL r.per).map (.i .i64)))), (49, .p (.i .i64 (daysL r.per).length)), (50, .p (.i .i64 q)), (57, .p (.agg [.i .i64 (d - 1), .i .i64 d])), (58, .p (.i .i64 e.1))], [(5, .box (r.cells.map .p) false), (7, .box (edgO (p2 ls m r k l q d e.1)) false), (11, .box (l.cells.map .p) false), (12, .box [.p (.sl 1 ((ofL l m).map (.i .i64)))] false), (13, .box [.p (.i .i64 0), .p (.i .i64 e.2.1), .p (.i .i64 e.2.2)] false), (15, .box [.p (.i .i64 d)] false)], [], false⟩) (fun e => e.1 ≤ 2 ∧ okP l m e.2) (fun e => 2 - e.1) (0, a) ?_ ?_ ?_
            · simp only [qS, Nat.reduceAdd, Nat.reduceMul, Nat.reduceEqDiff, Nat.reduceLeDiff, reduceIte, reduceCtorEq, Nat.reduceBEq, Nat.reduceLT, scE]
              (repeat' apply And.intro) <;> first | rfl | (simp [p2]; done)
            · exact ⟨by simp, hq.2⟩
            · intro e he
              obtain ⟨e, c⟩ := e
              simp only at he
              have qe := @scE; repeat (first | refine Stp.h ?_ | (show ∀ K : St → List Ft → Prop, _; intro K hK) | (show runS _ _ _ _ _; first | refine qY (hq := ?_) | refine qZ (hq := ?_)) | (refine hK _ _ ?_; clear hK K) | (refine hK _ _ rfl ?_; clear hK K) | (refine qZ (hq := ?_); try exact trivial) | omega)
              have qe := @scE; (show Run _ (.cond _ _ _) _ _; refine run_condX (fun hc => ?_) (fun hc => ?_) <;> (try simp only [qH, rng_0] at hc) <;> try contradiction)
              · have hid : ([.i .i64 (d - 1), .i .i64 d] : List PV)[e]? = some (.i .i64 (d - 1 + e)) := by
                  rcases (show e = 0 ∨ e = 1 by omega) with rfl | rfl <;> simp
                have qe := And.intro @scE (And.intro qR (And.intro @hid @Nat.mul_one)); repeat' first | (show Run _ (.cond _ _ _) _ _; refine run_condX (fun hc => ?_) (fun hc => ?_) <;> (try simp only [qH, rng_0] at hc) <;> try contradiction) | (show RunOps _ _ _ _ (⟨_, .call 32, _, _, _⟩ :: _) _ _; refine run_callX (hf := pure91 l (d - 1 + e)) (hn := ?_)) | (first | refine Stp.h ?_ | (show ∀ K : St → List Ft → Prop, _; intro K hK) | (show runS _ _ _ _ _; first | refine qY (hq := ?_) | refine qZ (hq := ?_)) | (refine hK _ _ ?_; clear hK K) | (refine hK _ _ rfl ?_; clear hK K) | (refine qZ (hq := ?_); try exact trivial) | omega)
                refine run_rfunc rfl (iter134 l (d - 1 + e) h1) ?_ ?_ [(1, .p (.sl 7 (m.map Mov.pv))), (5, .lp 5 0), (7, .lp 7 0), (8, .p (.sl 1 ((daysL r.per).map (.i .i64)))), (11, .lp 11 0), (12, .lp 12 0), (13, .lp 13 0), (15, .lp 15 0), (31, .p (.sl 11 (ls.map Lim.pv))), (32, .p (.i .i64 ls.length)), (33, .p (.i .i64 k)), (48, .p (.sl 1 ((daysL r.per).map (.i .i64)))), (49, .p (.i .i64 (daysL r.per).length)), (50, .p (.i .i64 q)), (57, .p (.agg [.i .i64 (d - 1), .i .i64 d])), (58, .p (.i .i64 e))] (fun i => [(5, .box (r.cells.map .p) false), (7, .box (edgO (p3 ls m r k l q d e i)) false), (11, .box (l.cells.map .p) false), (12, .box [.p (.sl 1 ((ofL l m).map (.i .i64)))] false), (13, .box [.p (.i .i64 0), .p (.i .i64 (lstP l m c ((beginsL l (d - 1 + e)).take i)).1), .p (.i .i64 (lstP l m c ((beginsL l (d - 1 + e)).take i)).2)] false), (15, .box [.p (.i .i64 d)] false)]) (fun _ => []) ?_ ?_ ?_
                · simp
                · simp [hX]
                · simp only [qS, Nat.reduceAdd, Nat.reduceMul, Nat.reduceEqDiff, Nat.reduceLeDiff, reduceIte, reduceCtorEq, Nat.reduceBEq, Nat.reduceLT, scE]
                  exact ⟨by simp [p3], rfl⟩
                · intro i t ht X' ro' hX'
                  simp only [List.getElem?_map, Option.map_eq_some_iff] at ht
                  obtain ⟨b, hbb, rfl⟩ := ht
                  have hbm := beginsL_mem h1 (List.mem_of_getElem? hbb)
                  have hpp := chkPer_0 hlm.2.2.2.2.2.2.2.1
                  have hnx := p3_next (ls := ls) (m := m) (r := r) (k := k) (q := q) hbb
                  have hln := lstP_next (l := l) (m := m) (a := c) hbb
                  have hlo := lstP_ok he.2 ((beginsL l (d - 1 + e)).take i)
                  have hPl := p3_len (i := i) hx hcl hd (show e < 2 by omega) hA
                  simp only [qS, Nat.reduceAdd, Nat.reduceMul, Nat.reduceEqDiff, Nat.reduceLeDiff, reduceIte, reduceCtorEq, Nat.reduceBEq, Nat.reduceLT, scE]
                  have qe := @scE; repeat' first | (show Run _ (.cond _ _ _) _ _; refine run_condX (fun hc => ?_) (fun hc => ?_) <;> (try simp only [qH, rng_0] at hc) <;> try contradiction) | (first | refine Stp.h ?_ | (show ∀ K : St → List Ft → Prop, _; intro K hK) | (show runS _ _ _ _ _; first | refine qY (hq := ?_) | refine qZ (hq := ?_)) | (refine hK _ _ ?_; clear hK K) | (refine hK _ _ rfl ?_; clear hK K) | (refine qZ (hq := ?_); try exact trivial) | omega)
                  intro X1 hX1
                  generalize lstP l m c ((beginsL l (d - 1 + e)).take i) = a' at hlo ⊢
                  obtain ⟨lb, lc⟩ := a'
                  simp only [okP] at hlo
                  have key : (lb = b ∧ lc = cntAll l m b) ∨ ¬ lb = b := by
                    by_cases h : lb = b
                    · refine .inl ⟨h, ?_⟩
                      rcases hlo with h2 | h2
                      · omega
                      · rw [h2, h]
                    · exact .inr h
                  by_cases hcm : cntAll l m b < l.most
                  · have hcm' := eq_true hcm
                    have hev : evB m l d b = [] := by rw [evB, if_pos hcm]
                    rcases key with ⟨h1, h2⟩ | hlb
                    · subst h1; subst h2
                      have qe := And.intro @scE (And.intro qR (And.intro @dec_self @hcm')); repeat' first | (show Run _ (.cond _ _ _) _ _; refine run_condX (fun hc => ?_) (fun hc => ?_) <;> (try simp only [qH, rng_0] at hc) <;> try contradiction) | (first | refine Stp.h ?_ | (show ∀ K : St → List Ft → Prop, _; intro K hK) | (show runS _ _ _ _ _; first | refine qY (hq := ?_) | refine qZ (hq := ?_)) | (refine hK _ _ ?_; clear hK K) | (refine hK _ _ rfl ?_; clear hK K) | (refine qZ (hq := ?_); try exact trivial) | omega)
                      rw [hln, hnx, hev, List.append_nil]; exact ⟨rfl, rfl⟩
                    · have hlb' := eq_false hlb
                      have qe := And.intro @scE (And.intro qR (And.intro @dec_self (And.intro @hcm' @hlb'))); repeat' first | (show Run _ (.cond _ _ _) _ _; refine run_condX (fun hc => ?_) (fun hc => ?_) <;> (try simp only [qH, rng_0] at hc) <;> try contradiction) | (show RunOps _ _ _ _ (⟨_, .call _, _, _, _⟩ :: _) _ _; refine run_callX (hf := pureCnt h1 hb.2.1 b (by omega) (by omega)) (hn := ?_)) | (first | refine Stp.h ?_ | (show ∀ K : St → List Ft → Prop, _; intro K hK) | (show runS _ _ _ _ _; first | refine qY (hq := ?_) | refine qZ (hq := ?_)) | (refine hK _ _ ?_; clear hK K) | (refine hK _ _ rfl ?_; clear hK K) | (refine qZ (hq := ?_); try exact trivial) | omega)
                      rw [hln, hnx, hev, List.append_nil]; exact ⟨rfl, rfl⟩
                  · have hcm' := eq_false hcm
                    by_cases hft : max 0 (b - 1440 * d) < min 1440 (b + l.len - 1440 * d)
                    · obtain ⟨f, hf⟩ : ∃ f : Nat, max 0 (b - 1440 * d) = f := ⟨(max 0 (b - 1440 * d)).toNat, by omega⟩
                      obtain ⟨t, ht⟩ : ∃ t : Nat, min 1440 (b + l.len - 1440 * d) = t := ⟨(min 1440 (b + l.len - 1440 * d)).toNat, by omega⟩
                      have hev : evB m l d b = [(f, t)] := by rw [evB, if_neg hcm, if_pos hft, hf, ht]; simp
                      have hb12 : f < t ∧ t ≤ 1440 := by omega
                      have hftc : ((f : Int) < t) = True := eq_true (by omega)
                      obtain ⟨x, hx1, hx2⟩ := edg_at (p3 ls m r k l q d e i) (i := f) (by omega)
                      obtain ⟨y, hy1, hy2⟩ := edg_at (p3 ls m r k l q d e i) (i := t) (by omega)
                      have hxo := edgO_at hx1
                      have hyo : ∀ v, ((edgO (p3 ls m r k l q d e i)).set f v)[t]? = some (LV.p (PV.i .i64 y)) := fun v => by rw [List.getElem?_set_ne (by omega)]; exact edgO_at hy1
                      rcases key with ⟨h1, h2⟩ | hlb
                      · subst h1; subst h2
                        have qe := And.intro @scE (And.intro qR (And.intro @dec_self (And.intro @hcm' (And.intro @hf (And.intro @ht (And.intro @hftc (And.intro @hxo (And.intro @hyo (And.intro @edgO_len (And.intro @Nat.zero_add @Nat.mul_one)))))))))); repeat' first | (show Run _ (.cond _ _ _) _ _; refine run_condX (fun hc => ?_) (fun hc => ?_) <;> (try simp only [qH, rng_0] at hc) <;> try contradiction) | (first | refine Stp.h ?_ | (show ∀ K : St → List Ft → Prop, _; intro K hK) | (show runS _ _ _ _ _; first | refine qY (hq := ?_) | refine qZ (hq := ?_)) | (refine hK _ _ ?_; clear hK K) | (refine hK _ _ rfl ?_; clear hK K) | (refine qZ (hq := ?_); try exact trivial) | omega)
                        rw [hln, hnx, hev, edgO_next hx1 hy1]; exact ⟨rfl, rfl⟩
                      · have hlb' := eq_false hlb
                        have qe := And.intro @scE (And.intro qR (And.intro @dec_self (And.intro @hcm' (And.intro @hlb' (And.intro @hf (And.intro @ht (And.intro @hftc (And.intro @hxo (And.intro @hyo (And.intro @edgO_len (And.intro @Nat.zero_add @Nat.mul_one))))))))))); repeat' first | (show Run _ (.cond _ _ _) _ _; refine run_condX (fun hc => ?_) (fun hc => ?_) <;> (try simp only [qH, rng_0] at hc) <;> try contradiction) | (show RunOps _ _ _ _ (⟨_, .call _, _, _, _⟩ :: _) _ _; refine run_callX (hf := pureCnt h1 hb.2.1 b (by omega) (by omega)) (hn := ?_)) | (first | refine Stp.h ?_ | (show ∀ K : St → List Ft → Prop, _; intro K hK) | (show runS _ _ _ _ _; first | refine qY (hq := ?_) | refine qZ (hq := ?_)) | (refine hK _ _ ?_; clear hK K) | (refine hK _ _ rfl ?_; clear hK K) | (refine qZ (hq := ?_); try exact trivial) | omega)
                        rw [hln, hnx, hev, edgO_next hx1 hy1]; exact ⟨rfl, rfl⟩
                    · have hft' := eq_false hft
                      have hev : evB m l d b = [] := by rw [evB, if_neg hcm, if_neg hft]
                      rcases key with ⟨h1, h2⟩ | hlb
                      · subst h1; subst h2
                        have qe := And.intro @scE (And.intro qR (And.intro @dec_self (And.intro @hcm' @hft'))); repeat' first | (show Run _ (.cond _ _ _) _ _; refine run_condX (fun hc => ?_) (fun hc => ?_) <;> (try simp only [qH, rng_0] at hc) <;> try contradiction) | (first | refine Stp.h ?_ | (show ∀ K : St → List Ft → Prop, _; intro K hK) | (show runS _ _ _ _ _; first | refine qY (hq := ?_) | refine qZ (hq := ?_)) | (refine hK _ _ ?_; clear hK K) | (refine hK _ _ rfl ?_; clear hK K) | (refine qZ (hq := ?_); try exact trivial) | omega)
                        rw [hln, hnx, hev, List.append_nil]; exact ⟨rfl, rfl⟩
                      · have hlb' := eq_false hlb
                        have qe := And.intro @scE (And.intro qR (And.intro @dec_self (And.intro @hcm' (And.intro @hlb' @hft')))); repeat' first | (show Run _ (.cond _ _ _) _ _; refine run_condX (fun hc => ?_) (fun hc => ?_) <;> (try simp only [qH, rng_0] at hc) <;> try contradiction) | (show RunOps _ _ _ _ (⟨_, .call _, _, _, _⟩ :: _) _ _; refine run_callX (hf := pureCnt h1 hb.2.1 b (by omega) (by omega)) (hn := ?_)) | (first | refine Stp.h ?_ | (show ∀ K : St → List Ft → Prop, _; intro K hK) | (show runS _ _ _ _ _; first | refine qY (hq := ?_) | refine qZ (hq := ?_)) | (refine hK _ _ ?_; clear hK K) | (refine hK _ _ rfl ?_; clear hK K) | (refine qZ (hq := ?_); try exact trivial) | omega)
                        rw [hln, hnx, hev, List.append_nil]; exact ⟨rfl, rfl⟩
                · simp only [List.length_map, p3_end]
                  have qe := And.intro @scE @List.take_length.{0}; repeat' first | (show Run _ (.cond _ _ _) _ _; refine run_condX (fun hc => ?_) (fun hc => ?_) <;> (try simp only [qH, rng_0] at hc) <;> try contradiction) | (first | refine Stp.h ?_ | (show ∀ K : St → List Ft → Prop, _; intro K hK) | (show runS _ _ _ _ _; first | refine qY (hq := ?_) | refine qZ (hq := ?_)) | (refine hK _ _ ?_; clear hK K) | (refine hK _ _ rfl ?_; clear hK K) | (refine qZ (hq := ?_); try exact trivial) | omega)
                  refine ⟨(e + 1, lstP l m c (beginsL l (d - 1 + e))), ⟨by simp only; omega, lstP_ok he.2 _⟩, by simp only; omega, ?_⟩
                  simp
              · have qe := @scE; repeat' first | (show Run _ (.cond _ _ _) _ _; refine run_condX (fun hc => ?_) (fun hc => ?_) <;> (try simp only [qH, rng_0] at hc) <;> try contradiction) | (first | refine Stp.h ?_ | (show ∀ K : St → List Ft → Prop, _; intro K hK) | (show runS _ _ _ _ _; first | refine qY (hq := ?_) | refine qZ (hq := ?_)) | (refine hK _ _ ?_; clear hK K) | (refine hK _ _ rfl ?_; clear hK K) | (refine qZ (hq := ?_); try exact trivial) | omega)
                have ee : e = 2 := by omega
                subst ee
                refine ⟨(q + 1, c), ⟨by simp only; omega, he.2⟩, by simp only; omega, ?_⟩
                simp [p2_end hd]
          · have qe := @scE; repeat' first | (show Run _ (.cond _ _ _) _ _; refine run_condX (fun hc => ?_) (fun hc => ?_) <;> (try simp only [qH, rng_0] at hc) <;> try contradiction) | (first | refine Stp.h ?_ | (show ∀ K : St → List Ft → Prop, _; intro K hK) | (show runS _ _ _ _ _; first | refine qY (hq := ?_) | refine qZ (hq := ?_)) | (refine hK _ _ ?_; clear hK K) | (refine hK _ _ rfl ?_; clear hK K) | (refine qZ (hq := ?_); try exact trivial) | omega)
            have eq : q = (daysL r.per).length := by omega
            subst eq
            refine ⟨k + 1, by omega, by omega, by simp, ?_⟩
            rw [p1_end hx hcl]
    · have qe := And.intro @scE (And.intro @scO (@List.map_replicate.{0, 0})); repeat' first | (show Run _ (.cond _ _ _) _ _; refine run_condX (fun hc => ?_) (fun hc => ?_) <;> (try simp only [qH, rng_0] at hc) <;> try contradiction) | (first | refine Stp.h ?_ | (show ∀ K : St → List Ft → Prop, _; intro K hK) | (show runS _ _ _ _ _; first | refine qY (hq := ?_) | refine qZ (hq := ?_)) | (refine hK _ _ ?_; clear hK K) | (refine hK _ _ rfl ?_; clear hK K) | (refine qZ (hq := ?_); try exact trivial) | omega)
      have e : k = ls.length := by omega
      subst e
      refine run_loop (κ := Nat) (fun i => ⟨[(7, .lp 7 0), (22, .lp 113 0), (23, .p (.i .i64 (preS (edg (evA ls m r)) i))), (114, .p (.i .i64 i))], [(7, .box (edgO (evA ls m r)) false), (113, .box (outO (evA ls m r) i) false)], [], false⟩) (fun i => i ≤ 1440) (fun i => 1440 - i) 0 ?_ ?_ ?_
      · simp only [qS, Nat.reduceAdd, Nat.reduceMul, Nat.reduceEqDiff, Nat.reduceLeDiff, reduceIte, reduceCtorEq, Nat.reduceBEq, Nat.reduceLT, scE, scO]
        exact ⟨⟨rfl, rfl⟩, rfl, by rw [outO_0]⟩
      · simp
      · intro i hi
        have hevo : ∀ e ∈ evA ls m r, e.1 < e.2 ∧ e.2 ≤ 1440 := fun e he => evA_ok he
        have hbd := preS_bd hevo (i := i) (by omega)
        have qe := And.intro @scE @scO; repeat (first | refine Stp.h ?_ | (show ∀ K : St → List Ft → Prop, _; intro K hK) | (show runS _ _ _ _ _; first | refine qY (hq := ?_) | refine qZ (hq := ?_)) | (refine hK _ _ ?_; clear hK K) | (refine hK _ _ rfl ?_; clear hK K) | (refine qZ (hq := ?_); try exact trivial) | omega)
        have qe := And.intro @scE @scO; (show Run _ (.cond _ _ _) _ _; refine run_condX (fun hc => ?_) (fun hc => ?_) <;> (try simp only [qH, rng_0] at hc) <;> try contradiction)
        · obtain ⟨x, hx1, hx2⟩ := edg_at (evA ls m r) (i := i) (by omega)
          have hxo := edgO_at hx1
          have hpn := preS_next hx1
          have hpp := preS_pos hevo (i := i) (by omega)
          have hon := outO_next (evA ls m r) (k := i) (by omega)
          rw [hpn] at hpp
          have qe := And.intro @scE (And.intro @scO (And.intro @hxo (And.intro @hpp (And.intro @edgO_len (And.intro @outO_len (And.intro @hon (And.intro @Nat.zero_add @Nat.mul_one))))))); repeat' first | (show Run _ (.cond _ _ _) _ _; refine run_condX (fun hc => ?_) (fun hc => ?_) <;> (try simp only [qH, rng_0] at hc) <;> try contradiction) | (first | refine Stp.h ?_ | (show ∀ K : St → List Ft → Prop, _; intro K hK) | (show runS _ _ _ _ _; first | refine qY (hq := ?_) | refine qZ (hq := ?_)) | (refine hK _ _ ?_; clear hK K) | (refine hK _ _ rfl ?_; clear hK K) | (refine qZ (hq := ?_); try exact trivial) | omega)
          exact ⟨i + 1, by omega, by omega, by rw [hpn]; simp, rfl⟩
        · have qe := And.intro @scE (And.intro @scO (And.intro @goO @boxO)); repeat' first | (show Run _ (.cond _ _ _) _ _; refine run_condX (fun hc => ?_) (fun hc => ?_) <;> (try simp only [qH, rng_0] at hc) <;> try contradiction) | (first | refine Stp.h ?_ | (show ∀ K : St → List Ft → Prop, _; intro K hK) | (show runS _ _ _ _ _; first | refine qY (hq := ?_) | refine qZ (hq := ?_)) | (refine hK _ _ ?_; clear hK K) | (refine hK _ _ rfl ?_; clear hK K) | (refine qZ (hq := ?_); try exact trivial) | omega)
          have e : i = 1440 := by omega
          subst e
          exact .refl _
end Go.Proofs.Ytcfbdeghmckelaa
namespace Go.Proofs.Ytcfbdeghmckelaa
open Go.RowKit
set_option maxRecDepth 100000
set_option linter.unusedVariables false
set_option linter.unusedSimpArgs false
set_option maxHeartbeats 2000000
def flatI {α : Type} (f : Int → List α) (a : Int) (n : Nat) : List α := (List.range n).flatMap fun (k : Nat) => f (a + k)
theorem flatI_add {α : Type} (f : Int → List α) (a : Int) (n k : Nat) : flatI f a (n + k) = flatI f a n ++ flatI f (a + n) k := by
  unfold flatI
  rw [List.range_add, List.flatMap_append, List.flatMap_map]
  congr 1
  exact flat_congr fun i _ => by rw [show a + ((n + i : Nat) : Int) = a + n + i by omega]
def fitsB (ls : List Lim) (m : List Mov) (r : Req) : Bool := (movsL r).all fun o => !decide (roomL ls m o < 1)
def freS (p : Int → Bool) (a : Int) (k : Nat) : List Int := (List.range k).flatMap fun (j : Nat) => if p (a + j) then [a + j] else []
theorem freS_next (p : Int → Bool) (a : Int) (k : Nat) : freS p a (k + 1) = freS p a k ++ if p (a + k) then [a + k] else [] := by rw [freS, range_next, ← freS]
theorem freS_len (p : Int → Bool) (a : Int) (k : Nat) : (freS p a k).length ≤ k := by
  induction k with
  | zero => simp [freS]
  | succ k ih => rw [freS_next, List.length_append]; split <;> simp <;> omega
def freL (ls : List Lim) (m : List Mov) (r : Req) (a b : Int) : List Int := freS (fun n => fitsB ls m (r.at n)) a (b - a + 1).toNat
def nearStep (x : Int) (a : Int × Int) (f : Int) : Int × Int := (if f ≤ x then f else a.1, if x ≤ f ∧ a.2 < 0 then f else a.2)
def nearF (L : List Int) (x : Int) : Int × Int := L.foldl (nearStep x) (-1, -1)
abbrev pair (a : Int × Int) : PV := .agg [.i .i64 a.1, .i .i64 a.2]
end Go.Proofs.Ytcfbdeghmckelaa
