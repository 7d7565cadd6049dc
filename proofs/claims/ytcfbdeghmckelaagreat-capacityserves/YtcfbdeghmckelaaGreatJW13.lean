/- Contracts of functions that the proof uses, shared by the claims of this seat; no statement of its own. Part 16. No conditions. -/
import Derived.Test.YtcfbdeghmckelaaGreatJW12
set_option linter.all false
namespace Go.Proofs.YtcfbdeghmckelaaGreat
open Go.RowKit
set_option maxRecDepth 100000
set_option linter.unusedVariables false
set_option linter.unusedSimpArgs false
set_option maxHeartbeats 2000000
theorem beginsL_mem {l : Lim} (h : chkLim l = 0) {d b : Int} (hb : b ∈ beginsL l d) : 1440 * d ≤ b ∧ b ≤ 1440 * d + 1439 ∧ l.per.fro ≤ d ∧ d ≤ l.per.to := by
  have hl := chkLim_0 h
  unfold beginsL begK at hb
  split at hb
  · rename_i ho
    simp only [begOk, Bool.not_eq_true', Bool.or_eq_false_iff, decide_eq_false_iff_not] at ho
    obtain ⟨n, hn, rfl⟩ := List.mem_map.1 hb
    have := beg_bound h (List.mem_range.1 hn)
    unfold begV
    omega
  · cases hb
def cntAll (l : Lim) (m : List Mov) (b : Int) : Int := cntW (ofL l m) b l.len
theorem pureCnt {l : Lim} {m : List Mov} (h1 : chkLim l = 0) (h2 : chkMovs m = 0) (b : Int) (hb0 : -1000000 ≤ b) (hb1 : b ≤ 1000000000) : Pure Tryz.prog 93 [.sl 1 ((ofL l m).map (.i .i64)), .i .i64 b, .i .i64 l.len] (.i .i64 (cntAll l m b)) := by
  have hl := chkLim_0 h1
  have hm := chkMovs_0 h2
  have := ofL_len (l := l) (m := m)
  exact pure93 _ _ _ (ofL_sorted h2) (by omega) hb0 hb1 (by omega) (by omega)
def ac28 : AC := .seq (.ops false [⟨some 3,.box,[.t 0],none,[]⟩,⟨some 6,.mv,[.c .nilsl],none,[]⟩,⟨some 7,.mv,[.c (.i .i64 0)],none,[1]⟩]) (.seq (.seq (.ops false [⟨some 12,.load 11 true,[.t 3],none,[]⟩,⟨some 13,.call 84,[.t 12],none,[0]⟩,⟨some 14,.mv,[.t 1],none,[]⟩,⟨some 15,.call 24,[.t 14],none,[2,1]⟩,⟨some 16,.mv,[.t 2],none,[]⟩,⟨some 17,.call 88,[.t 16,.c (.i .i64 0),.c (.i .i64 99999)],none,[4,3]⟩,⟨some 18,.bslice 34 1 (.i .i64 0) 3 [0,1,2],[.t 13,.t 15,.t 17],none,[1,3,5]⟩,⟨some 19,.call 83,[.t 18],none,[6,5]⟩,⟨some 8,.mv,[.t 19],none,[7,7,0,1,2,3,4,5,6,7]⟩]) (.seq (.ops false [⟨some 20,.mv,[.t 8],none,[]⟩,⟨some 21,.bin .neq,[.t 20,.c (.i .i64 0)],none,[0]⟩]) (.cond (.t 21) (.seq (.ops false [⟨some 22,.mv,[.t 8],none,[]⟩,⟨some 6,.mv,[.c .nilsl],none,[]⟩,⟨some 7,.mv,[.t 22],none,[0,1,0,1]⟩]) .ret) .skip))) (.seq (.seq (.ops false [⟨some 23,.load 11 true,[.t 3],none,[]⟩,⟨some 24,.mv,[.t 2],none,[]⟩,⟨some 25,.call 89,[.t 23,.t 24],none,[0,1]⟩,⟨some 26,.not,[.t 25],none,[2]⟩]) (.cond (.t 26) (.seq (.ops false [⟨some 6,.mv,[.c .nilsl],none,[]⟩,⟨some 7,.mv,[.c (.i .i64 30)],none,[0,0]⟩]) .ret) .skip)) (.seq (.ops false [⟨some 27,.load 11 true,[.t 3],none,[]⟩,⟨some 28,.mv,[.t 1],none,[]⟩,⟨some 29,.call 92,[.t 27,.t 28],none,[0,1]⟩,⟨some 9,.alloc [.nilsl],[],none,[]⟩,⟨none,.store 1,[.t 9,.t 29],none,[3,2,2,0,1,2,3]⟩]) (.seq (.ops false [⟨some 10,.alloc [.nilsl],[],none,[]⟩]) (.seq (.seq (.ops false [⟨some 30,.load 11 true,[.t 3],none,[]⟩,⟨some 31,.mv,[.t 2],none,[]⟩,⟨some 32,.call 91,[.t 30,.t 31],none,[0,1]⟩]) (.block 0 (.rfunc (.t 32) [33] (.ops false [⟨some 11,.mv,[.t 33],none,[]⟩]) (.block 1 (.ops true [⟨some 34,.load 1 false,[.t 10],none,[]⟩,⟨some 35,.load 1 false,[.t 9],none,[]⟩,⟨some 36,.mv,[.t 11],none,[]⟩,⟨some 37,.fadr 3,[.t 3],none,[]⟩,⟨some 38,.load 1 false,[.t 37],none,[3]⟩,⟨some 39,.call 93,[.t 35,.t 36,.t 38],none,[1,2,4]⟩,⟨some 40,.bslice 3 1 (.i .i64 0) 1 [0],[.t 39],none,[5]⟩,⟨some 41,.app 3 1 8,[.t 34,.t 40],none,[0,6,5]⟩,⟨none,.store 1,[.t 10,.t 41],none,[7,7,0,1,2,3,4,5,6,7]⟩]))))) (.seq (.ops false [⟨some 42,.load 1 false,[.t 10],none,[]⟩,⟨some 6,.mv,[.t 42],none,[0,0]⟩,⟨some 7,.mv,[.c (.i .i64 0)],none,[1,0,1]⟩]) .ret))))))
def rs28 : List RV := [.tmp 6,.tmp 7]
theorem fact28 : compF Tryz.prog 28 = some (ac28,rs28,43) := by kernel_rfl
def ac29 : AC := .seq (.ops false [⟨some 3,.box,[.t 0],none,[]⟩,⟨some 4,.box,[.t 1],none,[]⟩,⟨some 5,.box,[.t 2],none,[]⟩,⟨some 6,.alloc [(.i .i64 0)],[],none,[]⟩,⟨some 7,.alloc [(.i .i64 0)],[],none,[]⟩]) (.seq (.seq (.ops true [⟨some 10,.load 11 true,[.t 3],none,[]⟩,⟨some 11,.call 84,[.t 10],none,[0]⟩,⟨some 12,.load 1 false,[.t 4],none,[]⟩,⟨some 13,.call 24,[.t 12],none,[2,1]⟩,⟨some 14,.load 1 false,[.t 5],none,[]⟩,⟨some 15,.call 88,[.t 14,.c (.i .i64 0),.c (.i .i64 143999999)],none,[4,3]⟩,⟨some 16,.bslice 34 1 (.i .i64 0) 3 [0,1,2],[.t 11,.t 13,.t 15],none,[1,3,5]⟩,⟨some 17,.call 83,[.t 16],none,[6,5]⟩,⟨some 8,.mv,[.t 17],none,[7,7,0,1,2,3,4,5,6,7]⟩]) (.seq (.ops false [⟨some 18,.mv,[.t 8],none,[]⟩,⟨some 19,.bin .neq,[.t 18,.c (.i .i64 0)],none,[0]⟩]) (.cond (.t 19) (.seq (.ops false [⟨some 20,.mv,[.t 8],none,[]⟩,⟨none,.store 1,[.t 6,.c (.i .i64 0)],none,[]⟩,⟨none,.store 1,[.t 7,.t 20],none,[0,1,0,1]⟩]) .ret) .skip))) (.seq (.seq (.ops false [⟨some 21,.load 11 true,[.t 3],none,[]⟩,⟨some 22,.load 1 false,[.t 5],none,[]⟩,⟨some 23,.bin .quo,[.t 22,.c (.i .i64 1440)],none,[1]⟩,⟨some 24,.call 91,[.t 21,.t 23],none,[0,2]⟩]) (.block 0 (.rfunc (.t 24) [25] (.ops false [⟨some 9,.mv,[.t 25],none,[]⟩]) (.block 1 (.seq (.ops false [⟨some 26,.mv,[.t 9],none,[]⟩,⟨some 27,.load 1 false,[.t 5],none,[]⟩,⟨some 28,.bin .eql,[.t 26,.t 27],none,[0,1]⟩]) (.cond (.t 28) (.seq (.ops true [⟨some 29,.load 11 true,[.t 3],none,[]⟩,⟨some 30,.load 1 false,[.t 4],none,[]⟩,⟨some 31,.call 92,[.t 29,.t 30],none,[0,1]⟩,⟨some 32,.load 1 false,[.t 5],none,[]⟩,⟨some 33,.fadr 3,[.t 3],none,[]⟩,⟨some 34,.load 1 false,[.t 33],none,[4]⟩,⟨some 35,.call 93,[.t 31,.t 32,.t 34],none,[2,3,5,2]⟩,⟨none,.store 1,[.t 6,.t 35],none,[6,6,0,1,2,3,4,5,6]⟩,⟨none,.store 1,[.t 7,.c (.i .i64 0)],none,[7,0,1,2,3,4,5,6,7]⟩]) .ret) .skip)))))) (.seq (.ops false [⟨none,.store 1,[.t 6,.c (.i .i64 0)],none,[]⟩,⟨none,.store 1,[.t 7,.c (.i .i64 7)],none,[0,0]⟩]) .ret)))
def rs29 : List RV := [.cell 6 1 false,.cell 7 1 false]
theorem fact29 : compF Tryz.prog 29 = some (ac29,rs29,36) := by kernel_rfl
def ac30 : AC := .seq (.ops false [⟨some 2,.box,[.t 0],none,[]⟩,⟨some 4,.alloc [(.i .i64 0),(.i .i64 0),(.i .i64 0)],[],none,[]⟩,⟨some 5,.mv,[.c (.i .i64 0)],none,[]⟩]) (.seq (.seq (.ops false [⟨some 12,.load 11 true,[.t 2],none,[]⟩,⟨some 13,.call 84,[.t 12],none,[0]⟩,⟨some 14,.mv,[.t 1],none,[]⟩,⟨some 15,.call 24,[.t 14],none,[2,1]⟩,⟨some 16,.bslice 34 1 (.i .i64 0) 2 [0,1],[.t 13,.t 15],none,[1,3]⟩,⟨some 17,.call 83,[.t 16],none,[4,3]⟩,⟨some 6,.mv,[.t 17],none,[5,5,0,1,2,3,4,5]⟩]) (.seq (.ops false [⟨some 18,.mv,[.t 6],none,[]⟩,⟨some 19,.bin .neq,[.t 18,.c (.i .i64 0)],none,[0]⟩]) (.cond (.t 19) (.seq (.ops false [⟨some 20,.build [(.i .i64 0),(.i .i64 0),(.i .i64 0)] [],[],none,[]⟩,⟨some 21,.mv,[.t 6],none,[]⟩,⟨none,.store 3,[.t 4,.t 20],none,[0,0]⟩,⟨some 5,.mv,[.t 21],none,[1,2,0,1,2]⟩]) .ret) .skip))) (.seq (.ops false [⟨some 22,.load 11 true,[.t 2],none,[]⟩,⟨some 23,.mv,[.t 1],none,[]⟩,⟨some 24,.call 92,[.t 22,.t 23],none,[0,1]⟩,⟨some 7,.alloc [.nilsl],[],none,[]⟩,⟨none,.store 1,[.t 7,.t 24],none,[3,2,2,0,1,2,3]⟩]) (.seq (.ops false [⟨some 25,.build [(.i .i64 0),(.i .i64 0),(.i .i64 0)] [],[],none,[]⟩,⟨some 8,.alloc [(.i .i64 0),(.i .i64 0),(.i .i64 0)],[],none,[]⟩,⟨some 9,.alloc [(.b false)],[],none,[]⟩,⟨none,.store 3,[.t 8,.t 25],none,[1,0,0,1,2]⟩,⟨none,.store 1,[.t 9,.c (.b false)],none,[2,3,0,1,2,3]⟩]) (.seq (.seq (.ops false [⟨some 26,.load 11 true,[.t 2],none,[]⟩,⟨some 27,.call 94,[.t 26],none,[0]⟩]) (.block 0 (.rfunc (.t 27) [28] (.ops false [⟨some 10,.mv,[.t 28],none,[]⟩]) (.block 1 (.seq (.ops false [⟨some 29,.load 1 false,[.t 7],none,[]⟩,⟨some 30,.mv,[.t 10],none,[]⟩,⟨some 31,.fadr 3,[.t 2],none,[]⟩,⟨some 32,.load 1 false,[.t 31],none,[2]⟩,⟨some 33,.call 93,[.t 29,.t 30,.t 32],none,[0,1,3]⟩,⟨some 11,.mv,[.t 33],none,[4,4,0,1,2,3,4]⟩]) (.seq (.ops false [⟨some 34,.load 1 false,[.t 9],none,[]⟩,⟨some 35,.not,[.t 34],none,[0]⟩,⟨some 36,.mv,[.t 35],none,[1]⟩,⟨some 37,.mv,[.t 11],some (36,false),[2]⟩,⟨some 38,.fadr 2,[.t 8],some (36,false),[2]⟩,⟨some 39,.load 1 false,[.t 38],some (36,false),[4,2]⟩,⟨some 40,.bin .gtr,[.t 37,.t 39],some (36,false),[3,5,2]⟩,⟨some 41,.pick,[.t 36,.c (.b true),.t 40],none,[2,6]⟩]) (.cond (.t 41) (.ops false [⟨some 42,.mv,[.t 10],none,[]⟩,⟨some 43,.mv,[.t 11],none,[]⟩,⟨some 44,.build [(.i .i64 0),(.i .i64 0),(.i .i64 0)] [(0,1),(1,1),(2,1)],[.c (.i .i64 0),.t 42,.t 43],none,[0,1]⟩,⟨none,.store 3,[.t 8,.t 44],none,[2,0,1,2]⟩,⟨none,.store 1,[.t 9,.c (.b true)],none,[3,0,1,2,3]⟩]) .skip))))))) (.seq (.ops true [⟨some 45,.load 3 true,[.t 8],none,[]⟩,⟨some 46,.load 1 false,[.t 9],none,[]⟩,⟨some 47,.not,[.t 46],none,[1]⟩,⟨some 48,.call 85,[.t 47,.c (.i .i64 7)],none,[2]⟩,⟨none,.store 3,[.t 4,.t 45],none,[0,3,0]⟩,⟨some 5,.mv,[.t 48],none,[3,4,0,1,2,3,4]⟩]) .ret)))))
def rs30 : List RV := [.cell 4 3 true,.tmp 5]
theorem fact30 : compF Tryz.prog 30 = some (ac30,rs30,49) := by kernel_rfl
abbrev tabC (l : Lim) (m : List Mov) (d : Int) : Int := firstE [chkLim l, chkMovs m, rng d 0 99999]
def tabE (l : Lim) (m : List Mov) (d : Int) : Int := if tabC l m d = 0 then (if hasB l.per d = true then 0 else 30) else tabC l m d
def tabR (l : Lim) (m : List Mov) (d : Int) : List Int := if tabE l m d = 0 then (beginsL l d).map (cntAll l m) else []
theorem pure28 (l : Lim) (m : List Mov) (d : Int) : Pure Tryz.prog 28 [l.pv, .sl 7 (m.map Mov.pv), .i .i64 d] (.tup [.sl 1 ((tabR l m d).map (.i .i64)), .i .i64 (tabE l m d)]) := by
  refine pure_by fact28 (by simp) fun hw X hX => ?_
  unfold ac28 rs28
  have qe := @qR; repeat' first | (show Run _ (.cond _ _ _) _ _; refine run_condX (fun hc => ?_) (fun hc => ?_) <;> (try simp only [qH, rng_0] at hc) <;> try contradiction) | (show RunOps _ _ _ _ (⟨_, .call 84, _, _, _⟩ :: _) _ _; refine run_callX (hf := pure84 l) (hn := ?_)) | (show RunOps _ _ _ _ (⟨_, .call 24, _, _, _⟩ :: _) _ _; refine run_callX (hf := pure24 m) (hn := ?_)) | (show RunOps _ _ _ _ (⟨_, .call 88, _, _, _⟩ :: _) _ _; refine run_callX (hf := pure88 _ _ _) (hn := ?_)) | (show RunOps _ _ _ _ (⟨_, .call 83, _, _, _⟩ :: _) _ _; refine run_callX (hf := pure83 [_, _, _]) (hn := ?_)) | (first | refine Stp.h ?_ | (show ∀ K : St → List Ft → Prop, _; intro K hK) | (show runS _ _ _ _ _; first | refine qY (hq := ?_) | refine qZ (hq := ?_)) | (refine hK _ _ ?_; clear hK K) | (refine hK _ _ rfl ?_; clear hK K) | (refine qZ (hq := ?_); try exact trivial) | omega)
  · have he : tabE l m d = tabC l m d := by rw [tabE, if_neg hc]
    rw [tabR, he, if_neg hc]; exact weak2 (.nilsl _) (.refl _)
  · have h0 := hc
    have h1 := hc
    simp only [firstE_cons, rng_0] at h1
    have hl := chkLim_0 h1.1
    have hm := chkMovs_0 h1.2.1
    have qe := @qR; repeat' first | (show Run _ (.cond _ _ _) _ _; refine run_condX (fun hc => ?_) (fun hc => ?_) <;> (try simp only [qH, rng_0] at hc) <;> try contradiction) | (show RunOps _ _ _ _ (⟨_, .call 89, _, _, _⟩ :: _) _ _; refine run_callX (hf := pure89 l d) (hn := ?_)) | (show RunOps _ _ _ _ (⟨_, .call 91, _, _, _⟩ :: _) _ _; refine run_callX (hf := pure91 l d) (hn := ?_)) | (show RunOps _ _ _ _ (⟨_, .call 92, _, _, _⟩ :: _) _ _; refine run_callX (hf := pure92 l m h1.1 (by omega)) (hn := ?_)) | (first | refine Stp.h ?_ | (show ∀ K : St → List Ft → Prop, _; intro K hK) | (show runS _ _ _ _ _; first | refine qY (hq := ?_) | refine qZ (hq := ?_)) | (refine hK _ _ ?_; clear hK K) | (refine hK _ _ rfl ?_; clear hK K) | (refine qZ (hq := ?_); try exact trivial) | omega)
    · have he : tabE l m d = 30 := by rw [tabE, if_pos h0, if_neg (by rw [hc]; decide)]
      rw [tabR, he, if_neg (by decide)]; exact weak2 (.nilsl _) (.refl _)
    · have he : tabE l m d = 0 := by rw [tabE, if_pos h0, if_pos hc]
      rw [tabR, he, if_pos rfl]
      have hbl := beginsL_len h1.1 d
      refine run_own 100 3 1 [(3, .lp 3 0), (9, .lp 9 0), (10, .lp 10 0), (32, .p (.fn (.func 134) [] [.ip (.i .i64 d) 0, .ip l.pv 0]))] [(3, .box (l.cells.map .p) false), (9, .box [.p (.sl 1 ((ofL l m).map (.i .i64)))] false), (10, .box [.row 100 0] false)] ?_ ?_
      · simp only [Own, ownEnv, ownObj, nilTo, nilTos, qS, Nat.reduceAdd, Nat.reduceMul, Nat.reduceEqDiff, Nat.reduceLeDiff, reduceIte, reduceCtorEq, Nat.reduceBEq, Nat.reduceLT]
      refine run_rfunc rfl (iter134 l d h1.1) ?_ ?_ [(3, .lp 3 0), (9, .lp 9 0), (10, .lp 10 0), (32, .p (.fn (.func 134) [] [.ip (.i .i64 d) 0, .ip l.pv 0]))] (fun k => [(3, .box (l.cells.map .p) false), (9, .box [.p (.sl 1 ((ofL l m).map (.i .i64)))] false), (10, .box [.row 100 k] false), (100, .row 3 1 ((((beginsL l d).take k).map (cntAll l m)).map (.i .i64)) false)]) (fun _ => []) ?_ ?_ ?_
      · simp
      · simp [hX]
      · simp only [qS, Nat.reduceAdd, Nat.reduceMul, Nat.reduceEqDiff, Nat.reduceLeDiff, reduceIte, reduceCtorEq, Nat.reduceBEq, Nat.reduceLT]
      · intro k t ht X' ro' hX'
        simp only [List.getElem?_map, Option.map_eq_some_iff] at ht
        obtain ⟨b, hb, rfl⟩ := ht
        have hl := take_len hb
        have hk := (List.getElem?_eq_some_iff.1 hb).1
        have hbm := beginsL_mem h1.1 (List.mem_of_getElem? hb)
        simp only [qS, Nat.reduceAdd, Nat.reduceMul, Nat.reduceEqDiff, Nat.reduceLeDiff, reduceIte, reduceCtorEq, Nat.reduceBEq, Nat.reduceLT]
        repeat' first | (show Run _ (.cond _ _ _) _ _; refine run_condX (fun hc => ?_) (fun hc => ?_) <;> (try simp only [qH, rng_0] at hc) <;> try contradiction) | (first | refine Stp.h ?_ | (show ∀ K : St → List Ft → Prop, _; intro K hK) | (show runS _ _ _ _ _; first | refine qY (hq := ?_) | refine qZ (hq := ?_)) | (refine hK _ _ ?_; clear hK K) | (refine hK _ _ rfl ?_; clear hK K) | (refine qZ (hq := ?_); try exact trivial) | omega)
        intro X1 hX1
        have qe := And.intro qR (And.intro @hl (And.intro (take_snoc (cntAll l m) hb) (@List.map_append.{0, 0}))); repeat' first | (show Run _ (.cond _ _ _) _ _; refine run_condX (fun hc => ?_) (fun hc => ?_) <;> (try simp only [qH, rng_0] at hc) <;> try contradiction) | (show RunOps _ _ _ _ (⟨_, .call _, _, _, _⟩ :: _) _ _; refine run_callX (hf := pureCnt h1.1 h1.2.1 b (by omega) (by omega)) (hn := ?_)) | (first | refine Stp.h ?_ | (show ∀ K : St → List Ft → Prop, _; intro K hK) | (show runS _ _ _ _ _; first | refine qY (hq := ?_) | refine qZ (hq := ?_)) | (refine hK _ _ ?_; clear hK K) | (refine hK _ _ rfl ?_; clear hK K) | (refine qZ (hq := ?_); try exact trivial) | omega)
      · simp only [List.length_map]
        have qe := @List.take_length.{0}; repeat' first | (show Run _ (.cond _ _ _) _ _; refine run_condX (fun hc => ?_) (fun hc => ?_) <;> (try simp only [qH, rng_0] at hc) <;> try contradiction) | (first | refine Stp.h ?_ | (show ∀ K : St → List Ft → Prop, _; intro K hK) | (show runS _ _ _ _ _; first | refine qY (hq := ?_) | refine qZ (hq := ?_)) | (refine hK _ _ ?_; clear hK K) | (refine hK _ _ rfl ?_; clear hK K) | (refine qZ (hq := ?_); try exact trivial) | omega)
        exact .refl _
end Go.Proofs.YtcfbdeghmckelaaGreat
