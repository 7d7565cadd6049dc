/- Contracts of functions that the proof uses, shared by the claims of this seat; no statement of its own. Part 25. No conditions. -/
import Derived.Test.YtcfbdeghmckelaaGreatJW16
set_option linter.all false
namespace Go.Proofs.YtcfbdeghmckelaaGreat
open Go.RowKit
set_option maxRecDepth 100000
set_option linter.unusedVariables false
set_option linter.unusedSimpArgs false
set_option maxHeartbeats 4000000
def arB (m : List Mov) (o : Mov) (i : Nat) (l : Lim) (b : Int) : List Win := if b ≤ o.moment ∧ o.moment < b + l.len then [⟨i, b, cntAll l m b⟩] else []
def arD (m : List Mov) (o : Mov) (i : Nat) (l : Lim) (d : Int) : List Win := (beginsL l d).flatMap (arB m o i l)
def arX (m : List Mov) (o : Mov) (i : Nat) (l : Lim) (e : Nat) : List Win := arD m o i l (o.moment / 1440 - 1 + e)
def arL (m : List Mov) (o : Mov) (i : Nat) (l : Lim) : List Win := if countsL l o.kind o.term then (List.range 2).flatMap (arX m o i l) else []
def arI (ls : List Lim) (m : List Mov) (o : Mov) (i : Nat) : List Win := match ls[i]? with | some l => arL m o i l | none => []
def arK (ls : List Lim) (m : List Mov) (o : Mov) (k : Nat) : List Win := (List.range k).flatMap (arI ls m o)
def arW (ls : List Lim) (m : List Mov) (o : Mov) : List Win := arK ls m o ls.length
def ac139 : AC := .seq (.ops false [⟨some 4,.box,[.t 0],none,[]⟩]) (.seq (.ops false [⟨some 11,.load 1 false,[.t 1],none,[]⟩,⟨some 12,.len false,[.t 11],none,[0]⟩,⟨some 13,.mv,[.c (.i .i64 0)],none,[]⟩]) (.block 0 (.loop (.seq (.ops false [⟨some 14,.bin .lss,[.t 13,.t 12],none,[]⟩]) (.seq (.cond (.t 14) .skip (.exit 0)) (.seq (.block 1 (.seq (.ops false [⟨some 15,.mv,[.t 13],none,[]⟩,⟨some 16,.iadrS 11,[.t 11,.t 13],none,[]⟩,⟨some 17,.load 11 true,[.t 16],none,[1]⟩,⟨some 5,.alloc [(.i .i64 0)],[],none,[]⟩,⟨some 6,.alloc [(.s (bs [])),(.s (bs [])),(.s (bs [])),(.i .i64 0),(.i .i64 0),(.i .i64 0),(.i .i64 0),(.i .i64 0),(.i .i64 0),(.i .i64 0),(.i .i64 0)],[],none,[]⟩,⟨none,.store 1,[.t 5,.t 15],none,[3,0,0,1,2,3,4]⟩,⟨none,.store 11,[.t 6,.t 17],none,[4,2,5,0,1,2,3,4,5]⟩]) (.seq (.seq (.ops false [⟨some 18,.load 11 true,[.t 6],none,[]⟩,⟨some 19,.fadr 1,[.t 2],none,[]⟩,⟨some 20,.load 1 false,[.t 19],none,[1]⟩,⟨some 21,.fadr 2,[.t 2],none,[]⟩,⟨some 22,.load 1 false,[.t 21],none,[3]⟩,⟨some 23,.call 135,[.t 18,.t 20,.t 22],none,[0,2,4]⟩,⟨some 24,.not,[.t 23],none,[5]⟩]) (.cond (.t 24) (.exit 1) .skip)) (.seq (.ops false [⟨some 25,.load 11 true,[.t 6],none,[]⟩,⟨some 26,.load 1 false,[.t 3],none,[]⟩,⟨some 27,.call 92,[.t 25,.t 26],none,[0,1]⟩,⟨some 7,.alloc [.nilsl],[],none,[]⟩,⟨none,.store 1,[.t 7,.t 27],none,[3,2,2,0,1,2,3]⟩]) (.seq (.ops false [⟨some 28,.fadr 0,[.t 2],none,[]⟩,⟨some 29,.load 1 false,[.t 28],none,[0]⟩,⟨some 30,.bin .quo,[.t 29,.c (.i .i64 1440)],none,[1]⟩,⟨some 31,.bin .sub,[.t 30,.c (.i .i64 1)],none,[2]⟩,⟨some 32,.fadr 0,[.t 2],none,[]⟩,⟨some 33,.load 1 false,[.t 32],none,[4]⟩,⟨some 34,.bin .quo,[.t 33,.c (.i .i64 1440)],none,[5]⟩,⟨some 35,.build [(.i .i64 0),(.i .i64 0)] [(0,1),(1,1)],[.t 31,.t 34],none,[3,6]⟩,⟨some 36,.mv,[.c (.i .i64 0)],none,[]⟩]) (.block 2 (.loop (.seq (.ops false [⟨some 37,.bin .lss,[.t 36,.c (.i .i64 2)],none,[]⟩]) (.seq (.cond (.t 37) .skip (.exit 2)) (.seq (.block 3 (.seq (.ops false [⟨some 38,.idxA 2 1 false,[.t 35,.t 36],none,[]⟩,⟨some 9,.mv,[.t 38],none,[0,0]⟩]) (.seq (.ops false [⟨some 39,.load 11 true,[.t 6],none,[]⟩,⟨some 40,.mv,[.t 9],none,[]⟩,⟨some 41,.call 91,[.t 39,.t 40],none,[0,1]⟩]) (.block 4 (.rfunc (.t 41) [42] (.ops false [⟨some 10,.mv,[.t 42],none,[]⟩]) (.block 5 (.seq (.ops true [⟨some 43,.mv,[.t 10],none,[]⟩,⟨some 44,.fadr 0,[.t 2],none,[]⟩,⟨some 45,.load 1 false,[.t 44],none,[1]⟩,⟨some 46,.bin .leq,[.t 43,.t 45],none,[0,2]⟩,⟨some 47,.mv,[.t 46],none,[3]⟩,⟨some 48,.fadr 0,[.t 2],some (47,true),[4]⟩,⟨some 49,.load 1 false,[.t 48],some (47,true),[5,4]⟩,⟨some 50,.mv,[.t 10],some (47,true),[4]⟩,⟨some 51,.fadr 3,[.t 6],some (47,true),[4]⟩,⟨some 52,.load 1 false,[.t 51],some (47,true),[8,4]⟩,⟨some 53,.bin .add,[.t 50,.t 52],some (47,true),[7,9,4]⟩,⟨some 54,.bin .lss,[.t 49,.t 53],some (47,true),[6,10,4]⟩,⟨some 55,.pick,[.t 47,.t 54,.c (.b false)],none,[4,11]⟩,⟨some 56,.mv,[.t 55],none,[12,4]⟩,⟨some 57,.load 1 false,[.t 4],some (56,true),[13]⟩,⟨some 58,.load 1 false,[.t 5],some (56,true),[13]⟩,⟨some 59,.mv,[.t 10],some (56,true),[13]⟩,⟨some 60,.load 1 false,[.t 7],some (56,true),[13]⟩,⟨some 61,.mv,[.t 10],some (56,true),[13]⟩,⟨some 62,.fadr 3,[.t 6],some (56,true),[13]⟩,⟨some 63,.load 1 false,[.t 62],some (56,true),[19,13]⟩,⟨some 64,.call 93,[.t 60,.t 61,.t 63],some (56,true),[17,18,20,13,13]⟩,⟨some 65,.build [(.i .i64 0),(.i .i64 0),(.i .i64 0)] [(0,1),(1,1),(2,1)],[.t 58,.t 59,.t 64],some (56,true),[15,16,21,13]⟩,⟨some 66,.callv,[.t 57,.t 65],some (56,true),[14,22,21,13]⟩,⟨some 67,.not,[.t 66],some (56,true),[23,13]⟩,⟨some 68,.pick,[.t 56,.t 67,.c (.b false)],none,[13,24]⟩]) (.cond (.t 68) .ret .skip)))))))) (.ops false [⟨some 69,.bin .add,[.t 36,.c (.i .i64 1)],none,[]⟩,⟨some 36,.mv,[.t 69],none,[0]⟩]))))))))))) (.ops false [⟨some 70,.bin .add,[.t 13,.c (.i .i64 1)],none,[]⟩,⟨some 13,.mv,[.t 70],none,[0]⟩])))))))
def rs139 : List RV := []
theorem fact139 : compF Tryz.prog 139 = some (ac139,rs139,71) := by kernel_rfl
theorem iter139 (ls : List Lim) (m : List Mov) (o : Mov) (hn : ls.length ≤ 1000000) (h : ∀ l ∈ ls, chkLim l = 0) (hm : chkMovs m = 0) (ho : chkMov o = 0) : Iter Tryz.prog 139 [.ip (.sl 11 (ls.map Lim.pv)) 0, .ip o.pv 0, .ip (.sl 7 (m.map Mov.pv)) 0] ((arW ls m o).map tupW) := by
  have hmo : 0 ≤ o.moment ∧ o.moment ≤ 143999999 := by
    unfold chkMov at ho
    simp only [firstE_cons, rng_0] at ho
    exact ho.1
  have hq : o.moment.tdiv 1440 = o.moment / 1440 := Int.tdiv_eq_ediv_of_nonneg (by omega)
  refine iter_by fact139 (by simp) fun hw X hX => ?_
  unfold ac139
  have hmm := chkMovs_0 hm
  simp only [iterSt]
  repeat' first | (show Run _ (.cond _ _ _) _ _; refine run_condX (fun hc => ?_) (fun hc => ?_) <;> (try simp only [qH, rng_0] at hc) <;> try contradiction) | (first | refine Stp.h ?_ | (show ∀ K : St → List Ft → Prop, _; intro K hK) | (show runS _ _ _ _ _; first | refine qY (hq := ?_) | refine qZ (hq := ?_)) | (refine hK _ _ ?_; clear hK K) | (refine hK _ _ rfl ?_; clear hK K) | (refine qZ (hq := ?_); try exact trivial) | omega)
  refine run_loop (κ := Nat) (fun k => ⟨[(1, .p (.ip (.sl 11 (ls.map Lim.pv)) 0)), (2, .p (.ip o.pv 0)), (3, .p (.ip (.sl 7 (m.map Mov.pv)) 0)), (4, .lp 4 0), (11, .p (.sl 11 (ls.map Lim.pv))), (12, .p (.i .i64 ls.length)), (13, .p (.i .i64 k))], [(4, .box [.yield] false)], (arK ls m o k).map tupW, false⟩) (fun k => k ≤ ls.length) (fun k => ls.length - k) 0 ?_ ?_ ?_
  · simp only [qS, Nat.reduceAdd, Nat.reduceMul, Nat.reduceEqDiff, Nat.reduceLeDiff, reduceIte, reduceCtorEq, Nat.reduceBEq, Nat.reduceLT] <;> simp [arK]
  · simp
  · intro k hk
    repeat (first | refine Stp.h ?_ | (show ∀ K : St → List Ft → Prop, _; intro K hK) | (show runS _ _ _ _ _; first | refine qY (hq := ?_) | refine qZ (hq := ?_)) | (refine hK _ _ ?_; clear hK K) | (refine hK _ _ rfl ?_; clear hK K) | (refine qZ (hq := ?_); try exact trivial) | omega)
    (show Run _ (.cond _ _ _) _ _; refine run_condX (fun hc => ?_) (fun hc => ?_) <;> (try simp only [qH, rng_0] at hc) <;> try contradiction)
    · obtain ⟨l, hx⟩ := some_at (i := k) (l := ls) (by omega)
      have h1 := h l (List.mem_of_getElem? hx)
      have hi : arI ls m o k = arL m o k l := by rw [arI, hx]
      have hs := range_split (arI ls m o) (show k < ls.length by omega)
      have qe := And.intro qR (And.intro @hx @hq); repeat' first | (show Run _ (.cond _ _ _) _ _; refine run_condX (fun hc => ?_) (fun hc => ?_) <;> (try simp only [qH, rng_0] at hc) <;> try contradiction) | (show RunOps _ _ _ _ (⟨_, .call 135, _, _, _⟩ :: _) _ _; refine run_callX (hf := pure135 l o.kind o.term h1) (hn := ?_)) | (show RunOps _ _ _ _ (⟨_, .call 92, _, _, _⟩ :: _) _ _; refine run_callX (hf := pure92 l m h1 (by omega)) (hn := ?_)) | (show RunOps _ _ _ _ (⟨_, .call 91, _, _, _⟩ :: _) _ _; refine run_callX (hf := pure91 l _) (hn := ?_)) | (first | refine Stp.h ?_ | (show ∀ K : St → List Ft → Prop, _; intro K hK) | (show runS _ _ _ _ _; first | refine qY (hq := ?_) | refine qZ (hq := ?_)) | (refine hK _ _ ?_; clear hK K) | (refine hK _ _ rfl ?_; clear hK K) | (refine qZ (hq := ?_); try exact trivial) | omega)
      · have ha : arL m o k l = [] := by rw [arL, hc]; rfl
        refine ⟨k + 1, by omega, by omega, by simp, ?_⟩
        rw [arK, range_next, hi, ha, List.append_nil, ← arK]
      · have ha : arL m o k l = (List.range 2).flatMap (arX m o k l) := by rw [arL, hc]; rfl
        refine run_loop (κ := Nat) (fun e => ⟨[(1, .p (.ip (.sl 11 (ls.map Lim.pv)) 0)), (2, .p (.ip o.pv 0)), (3, .p (.ip (.sl 7 (m.map Mov.pv)) 0)), (4, .lp 4 0), (5, .lp 5 0), (6, .lp 6 0), (7, .lp 7 0), (11, .p (.sl 11 (ls.map Lim.pv))), (12, .p (.i .i64 ls.length)), (13, .p (.i .i64 k)), (35, .p (.agg [.i .i64 (o.moment / 1440 - 1), .i .i64 (o.moment / 1440)])), (36, .p (.i .i64 e))], [(4, .box [.yield] false), (5, .box [.p (.i .i64 k)] false), (6, .box (l.cells.map .p) false), (7, .box [.p (.sl 1 ((ofL l m).map (.i .i64)))] false)], (arK ls m o k).map tupW ++ ((List.range e).flatMap (arX m o k l)).map tupW, false⟩) (fun e => e ≤ 2) (fun e => 2 - e) 0 ?_ ?_ ?_
        · simp only [qS, Nat.reduceAdd, Nat.reduceMul, Nat.reduceEqDiff, Nat.reduceLeDiff, reduceIte, reduceCtorEq, Nat.reduceBEq, Nat.reduceLT] <;> simp
        · simp
        · intro e he
          repeat (first | refine Stp.h ?_ | (show ∀ K : St → List Ft → Prop, _; intro K hK) | (show runS _ _ _ _ _; first | refine qY (hq := ?_) | refine qZ (hq := ?_)) | (refine hK _ _ ?_; clear hK K) | (refine hK _ _ rfl ?_; clear hK K) | (refine qZ (hq := ?_); try exact trivial) | omega)
          (show Run _ (.cond _ _ _) _ _; refine run_condX (fun hc => ?_) (fun hc => ?_) <;> (try simp only [qH, rng_0] at hc) <;> try contradiction)
          · have hid : ([.i .i64 (o.moment / 1440 - 1), .i .i64 (o.moment / 1440)] : List PV)[e]? = some (.i .i64 (o.moment / 1440 - 1 + e)) := by
              rcases (show e = 0 ∨ e = 1 by omega) with rfl | rfl <;> simp
            have hse := range_split (arX m o k l) (show e < 2 by omega)
            have qe := And.intro qR (And.intro @hid @Nat.mul_one); repeat' first | (show Run _ (.cond _ _ _) _ _; refine run_condX (fun hc => ?_) (fun hc => ?_) <;> (try simp only [qH, rng_0] at hc) <;> try contradiction) | (show RunOps _ _ _ _ (⟨_, .call 91, _, _, _⟩ :: _) _ _; refine run_callX (hf := pure91 l (o.moment / 1440 - 1 + e)) (hn := ?_)) | (first | refine Stp.h ?_ | (show ∀ K : St → List Ft → Prop, _; intro K hK) | (show runS _ _ _ _ _; first | refine qY (hq := ?_) | refine qZ (hq := ?_)) | (refine hK _ _ ?_; clear hK K) | (refine hK _ _ rfl ?_; clear hK K) | (refine qZ (hq := ?_); try exact trivial) | omega)
            refine run_rfunc rfl (iter134 l (o.moment / 1440 - 1 + e) h1) ?_ ?_ [(1, .p (.ip (.sl 11 (ls.map Lim.pv)) 0)), (2, .p (.ip o.pv 0)), (3, .p (.ip (.sl 7 (m.map Mov.pv)) 0)), (4, .lp 4 0), (5, .lp 5 0), (6, .lp 6 0), (7, .lp 7 0), (11, .p (.sl 11 (ls.map Lim.pv))), (12, .p (.i .i64 ls.length)), (13, .p (.i .i64 k)), (35, .p (.agg [.i .i64 (o.moment / 1440 - 1), .i .i64 (o.moment / 1440)])), (36, .p (.i .i64 e))] (fun _ => [(4, .box [.yield] false), (5, .box [.p (.i .i64 k)] false), (6, .box (l.cells.map .p) false), (7, .box [.p (.sl 1 ((ofL l m).map (.i .i64)))] false)]) (fun j => ((arK ls m o k).map tupW ++ ((List.range e).flatMap (arX m o k l)).map tupW) ++ (((beginsL l (o.moment / 1440 - 1 + e)).take j).flatMap (arB m o k l)).map tupW) ?_ ?_ ?_
            · simp
            · simp [hX]
            · simp only [qS, Nat.reduceAdd, Nat.reduceMul, Nat.reduceEqDiff, Nat.reduceLeDiff, reduceIte, reduceCtorEq, Nat.reduceBEq, Nat.reduceLT] <;> simp
            · intro j t ht X' ro' hX'
              simp only [List.getElem?_map, Option.map_eq_some_iff] at ht
              obtain ⟨b, hb, rfl⟩ := ht
              have hbm := beginsL_mem h1 (List.mem_of_getElem? hb)
              have hll := chkLim_0 h1
              have hpp := chkPer_0 hll.2.2.2.2.2.2.2.1
              have hnx := flat_take (arB m o k l) hb
              simp only [qS, Nat.reduceAdd, Nat.reduceMul, Nat.reduceEqDiff, Nat.reduceLeDiff, reduceIte, reduceCtorEq, Nat.reduceBEq, Nat.reduceLT]
              repeat' first | (show Run _ (.cond _ _ _) _ _; refine run_condX (fun hc => ?_) (fun hc => ?_) <;> (try simp only [qH, rng_0] at hc) <;> try contradiction) | (first | refine Stp.h ?_ | (show ∀ K : St → List Ft → Prop, _; intro K hK) | (show runS _ _ _ _ _; first | refine qY (hq := ?_) | refine qZ (hq := ?_)) | (refine hK _ _ ?_; clear hK K) | (refine hK _ _ rfl ?_; clear hK K) | (refine qZ (hq := ?_); try exact trivial) | omega)
              intro X1 hX1
              by_cases hin : b ≤ o.moment ∧ o.moment < b + l.len
              · have hb1 := eq_true hin.1
                have hb2 := eq_true hin.2
                have hbb : arB m o k l b = [⟨k, b, cntAll l m b⟩] := by rw [arB, if_pos hin]
                rw [hbb] at hnx
                have hs' : (arW ls m o).map tupW = (((arK ls m o k).map tupW ++ ((List.range e).flatMap (arX m o k l)).map tupW) ++ (((beginsL l (o.moment / 1440 - 1 + e)).take j).flatMap (arB m o k l)).map tupW) ++ tupW ⟨k, b, cntAll l m b⟩ :: ((((beginsL l (o.moment / 1440 - 1 + e)).drop (j + 1)).flatMap (arB m o k l)).map tupW ++ (((List.range' (e + 1) (2 - (e + 1))).flatMap (arX m o k l)).map tupW ++ ((List.range' (k + 1) (ls.length - (k + 1))).flatMap (arI ls m o)).map tupW)) := by
                  rw [arW, arK, hs, hi, ha, hse, show arX m o k l e = _ from flat_split (arB m o k l) hb, hbb, arK]
                  simp
                have qe := And.intro qR (And.intro @hb1 @hb2); repeat' first | (show Run _ (.cond _ _ _) _ _; refine run_condX (fun hc => ?_) (fun hc => ?_) <;> (try simp only [qH, rng_0] at hc) <;> try contradiction) | (show RunOps _ _ _ _ (⟨_, .call _, _, _, _⟩ :: _) _ _; refine run_callGX (hf := fun hc => (by first | exact pureCnt h1 hm b (by omega) (by omega) | (simp only [qH, rng_0] at hc; exact pureCnt h1 hm b (by omega) (by omega)))) (hn := ?_)) | (show RunOps _ _ _ _ (⟨_, .call _, _, _, _⟩ :: _) _ _; refine run_callX (hf := pureCnt h1 hm b (by omega) (by omega)) (hn := ?_)) | (show RunOps _ _ _ _ (⟨_, .callv, _, _, _⟩ :: _) _ _; refine run_yld (by first | rfl | (simp (disch := omega) only [qG, qe, Nat.reduceAdd, Nat.reduceMul, Nat.reduceEqDiff, Nat.reduceLeDiff, reduceIte, reduceCtorEq, Nat.reduceBEq, Nat.reduceLT] <;> rfl)) (by simp (disch := omega) only [qS, qe, Nat.reduceAdd, Nat.reduceMul, Nat.reduceEqDiff, Nat.reduceLeDiff, reduceIte, reduceCtorEq, Nat.reduceBEq, Nat.reduceLT]) (by simp (disch := omega) only [qS, qe, Nat.reduceAdd, Nat.reduceMul, Nat.reduceEqDiff, Nat.reduceLeDiff, reduceIte, reduceCtorEq, Nat.reduceBEq, Nat.reduceLT] <;> rfl) (by simp (disch := omega) only [qS, qe, Nat.reduceAdd, Nat.reduceMul, Nat.reduceEqDiff, Nat.reduceLeDiff, reduceIte, reduceCtorEq, Nat.reduceBEq, Nat.reduceLT]; try trivial) rfl _ (hs') ?_; intro b; (refine run_ops ?_)) | (first | refine Stp.h ?_ | (show ∀ K : St → List Ft → Prop, _; intro K hK) | (show runS _ _ _ _ _; first | refine qY (hq := ?_) | refine qZ (hq := ?_)) | (refine hK _ _ ?_; clear hK K) | (refine hK _ _ rfl ?_; clear hK K) | (refine qZ (hq := ?_); try exact trivial) | omega)
                · subst hc; exact .inl rfl
                · subst hc; rw [hnx]; exact ⟨by simp, rfl⟩
              · have hbb : arB m o k l b = [] := by rw [arB, if_neg hin]
                rw [hbb] at hnx
                by_cases h3 : b ≤ o.moment
                · have hb1 := eq_true h3
                  have hb2 := eq_false (show ¬ o.moment < b + l.len by omega)
                  have qe := And.intro qR (And.intro @hb1 @hb2); repeat' first | (show Run _ (.cond _ _ _) _ _; refine run_condX (fun hc => ?_) (fun hc => ?_) <;> (try simp only [qH, rng_0] at hc) <;> try contradiction) | (show RunOps _ _ _ _ (⟨_, .call _, _, _, _⟩ :: _) _ _; refine run_callGX (hf := fun hc => (by first | exact pureCnt h1 hm b (by omega) (by omega) | (simp only [qH, rng_0] at hc; exact pureCnt h1 hm b (by omega) (by omega)))) (hn := ?_)) | (show RunOps _ _ _ _ (⟨_, .callv, _, _, _⟩ :: _) _ _; refine run_callN (q := (.b false)) (by first | rfl | (simp (disch := omega) only [qG, qe, Nat.reduceAdd, Nat.reduceMul, Nat.reduceEqDiff, Nat.reduceLeDiff, reduceIte, reduceCtorEq, Nat.reduceBEq, Nat.reduceLT] <;> rfl)) ?_; (try (refine run_ops ?_))) | (first | refine Stp.h ?_ | (show ∀ K : St → List Ft → Prop, _; intro K hK) | (show runS _ _ _ _ _; first | refine qY (hq := ?_) | refine qZ (hq := ?_)) | (refine hK _ _ ?_; clear hK K) | (refine hK _ _ rfl ?_; clear hK K) | (refine qZ (hq := ?_); try exact trivial) | omega)
                  rw [hnx]; simp
                · have hb1 := eq_false h3
                  have qe := And.intro qR @hb1; repeat' first | (show Run _ (.cond _ _ _) _ _; refine run_condX (fun hc => ?_) (fun hc => ?_) <;> (try simp only [qH, rng_0] at hc) <;> try contradiction) | (show RunOps _ _ _ _ (⟨_, .call _, _, _, _⟩ :: _) _ _; refine run_callGX (hf := fun hc => (by first | exact pureCnt h1 hm b (by omega) (by omega) | (simp only [qH, rng_0] at hc; exact pureCnt h1 hm b (by omega) (by omega)))) (hn := ?_)) | (show RunOps _ _ _ _ (⟨_, .callv, _, _, _⟩ :: _) _ _; refine run_callN (q := (.b false)) (by first | rfl | (simp (disch := omega) only [qG, qe, Nat.reduceAdd, Nat.reduceMul, Nat.reduceEqDiff, Nat.reduceLeDiff, reduceIte, reduceCtorEq, Nat.reduceBEq, Nat.reduceLT] <;> rfl)) ?_; (try (refine run_ops ?_))) | (first | refine Stp.h ?_ | (show ∀ K : St → List Ft → Prop, _; intro K hK) | (show runS _ _ _ _ _; first | refine qY (hq := ?_) | refine qZ (hq := ?_)) | (refine hK _ _ ?_; clear hK K) | (refine hK _ _ rfl ?_; clear hK K) | (refine qZ (hq := ?_); try exact trivial) | omega)
                  rw [hnx]; simp
            · have qe := @List.take_length.{0}; repeat' first | (show Run _ (.cond _ _ _) _ _; refine run_condX (fun hc => ?_) (fun hc => ?_) <;> (try simp only [qH, rng_0] at hc) <;> try contradiction) | (first | refine Stp.h ?_ | (show ∀ K : St → List Ft → Prop, _; intro K hK) | (show runS _ _ _ _ _; first | refine qY (hq := ?_) | refine qZ (hq := ?_)) | (refine hK _ _ ?_; clear hK K) | (refine hK _ _ rfl ?_; clear hK K) | (refine qZ (hq := ?_); try exact trivial) | omega)
              refine ⟨e + 1, by omega, by omega, by simp, ?_⟩
              rw [range_next, List.map_append, List.append_assoc]; rfl
          · repeat' first | (show Run _ (.cond _ _ _) _ _; refine run_condX (fun hc => ?_) (fun hc => ?_) <;> (try simp only [qH, rng_0] at hc) <;> try contradiction) | (first | refine Stp.h ?_ | (show ∀ K : St → List Ft → Prop, _; intro K hK) | (show runS _ _ _ _ _; first | refine qY (hq := ?_) | refine qZ (hq := ?_)) | (refine hK _ _ ?_; clear hK K) | (refine hK _ _ rfl ?_; clear hK K) | (refine qZ (hq := ?_); try exact trivial) | omega)
            have ee : e = 2 := by omega
            subst ee
            refine ⟨k + 1, by omega, by omega, by simp, ?_⟩
            rw [arK, range_next, hi, ha, ← arK, List.map_append]
    · repeat' first | (show Run _ (.cond _ _ _) _ _; refine run_condX (fun hc => ?_) (fun hc => ?_) <;> (try simp only [qH, rng_0] at hc) <;> try contradiction) | (first | refine Stp.h ?_ | (show ∀ K : St → List Ft → Prop, _; intro K hK) | (show runS _ _ _ _ _; first | refine qY (hq := ?_) | refine qZ (hq := ?_)) | (refine hK _ _ ?_; clear hK K) | (refine hK _ _ rfl ?_; clear hK K) | (refine qZ (hq := ?_); try exact trivial) | omega)
      have e : k = ls.length := by omega
      subst e; exact .inr rfl
end Go.Proofs.YtcfbdeghmckelaaGreat
