/- Contracts of functions that the proof uses, shared by the claims of this seat; no statement of its own. Part 19. No conditions. -/
import Derived.Test.YtcfbdeghmckelaaGreatJW15
set_option linter.all false
namespace Go.Proofs.YtcfbdeghmckelaaGreat
open Go.RowKit
set_option maxRecDepth 100000
set_option linter.unusedVariables false
set_option linter.unusedSimpArgs false
set_option maxHeartbeats 2000000
abbrev tupW (w : Win) : List PV := [w.pv]
def excB (m : List Mov) (i : Nat) (l : Lim) (b : Int) : List Win := if l.most < cntAll l m b then [⟨i, b, cntAll l m b⟩] else []
def excL (m : List Mov) (i : Nat) (l : Lim) : List Win := (windowsL l).flatMap (excB m i l)
def excI (ls : List Lim) (m : List Mov) (i : Nat) : List Win := match ls[i]? with | some l => excL m i l | none => []
def excK (ls : List Lim) (m : List Mov) (k : Nat) : List Win := (List.range k).flatMap (excI ls m)
def excW (ls : List Lim) (m : List Mov) : List Win := excK ls m ls.length
theorem flat_take {α β : Type} {l : List α} {j : Nat} {x : α} (f : α → List β) (h : l[j]? = some x) : (l.take (j + 1)).flatMap f = (l.take j).flatMap f ++ f x := by
  rw [List.take_add_one, h]; simp
theorem flat_split {α β : Type} {l : List α} {j : Nat} {x : α} (f : α → List β) (h : l[j]? = some x) : l.flatMap f = (l.take j).flatMap f ++ (f x ++ (l.drop (j + 1)).flatMap f) := by
  conv => lhs; rw [take_split h]
  simp
def ac140 : AC := .seq (.ops false [⟨some 3,.box,[.t 0],none,[]⟩]) (.seq (.ops false [⟨some 9,.load 1 false,[.t 1],none,[]⟩,⟨some 10,.len false,[.t 9],none,[0]⟩,⟨some 11,.mv,[.c (.i .i64 0)],none,[]⟩]) (.block 0 (.loop (.seq (.ops false [⟨some 12,.bin .lss,[.t 11,.t 10],none,[]⟩]) (.seq (.cond (.t 12) .skip (.exit 0)) (.seq (.block 1 (.seq (.ops false [⟨some 13,.mv,[.t 11],none,[]⟩,⟨some 14,.iadrS 11,[.t 9,.t 11],none,[]⟩,⟨some 15,.load 11 true,[.t 14],none,[1]⟩,⟨some 4,.alloc [(.i .i64 0)],[],none,[]⟩,⟨some 5,.alloc [(.s (bs [])),(.s (bs [])),(.s (bs [])),(.i .i64 0),(.i .i64 0),(.i .i64 0),(.i .i64 0),(.i .i64 0),(.i .i64 0),(.i .i64 0),(.i .i64 0)],[],none,[]⟩,⟨none,.store 1,[.t 4,.t 13],none,[3,0,0,1,2,3,4]⟩,⟨none,.store 11,[.t 5,.t 15],none,[4,2,5,0,1,2,3,4,5]⟩]) (.seq (.ops false [⟨some 16,.load 11 true,[.t 5],none,[]⟩,⟨some 17,.load 1 false,[.t 2],none,[]⟩,⟨some 18,.call 92,[.t 16,.t 17],none,[0,1]⟩,⟨some 6,.alloc [.nilsl],[],none,[]⟩,⟨none,.store 1,[.t 6,.t 18],none,[3,2,2,0,1,2,3]⟩]) (.seq (.ops false [⟨some 19,.load 11 true,[.t 5],none,[]⟩,⟨some 20,.call 94,[.t 19],none,[0]⟩]) (.block 2 (.rfunc (.t 20) [21] (.ops false [⟨some 7,.mv,[.t 21],none,[]⟩]) (.block 3 (.seq (.ops false [⟨some 22,.load 1 false,[.t 6],none,[]⟩,⟨some 23,.mv,[.t 7],none,[]⟩,⟨some 24,.fadr 3,[.t 5],none,[]⟩,⟨some 25,.load 1 false,[.t 24],none,[2]⟩,⟨some 26,.call 93,[.t 22,.t 23,.t 25],none,[0,1,3]⟩,⟨some 8,.mv,[.t 26],none,[4,4,0,1,2,3,4]⟩]) (.seq (.ops false [⟨some 27,.mv,[.t 8],none,[]⟩,⟨some 28,.fadr 10,[.t 5],none,[]⟩,⟨some 29,.load 1 false,[.t 28],none,[1]⟩,⟨some 30,.bin .gtr,[.t 27,.t 29],none,[0,2]⟩,⟨some 31,.mv,[.t 30],none,[3]⟩,⟨some 32,.load 1 false,[.t 3],some (31,true),[4]⟩,⟨some 33,.load 1 false,[.t 4],some (31,true),[4]⟩,⟨some 34,.mv,[.t 7],some (31,true),[4]⟩,⟨some 35,.mv,[.t 8],some (31,true),[4]⟩,⟨some 36,.build [(.i .i64 0),(.i .i64 0),(.i .i64 0)] [(0,1),(1,1),(2,1)],[.t 33,.t 34,.t 35],some (31,true),[6,7,8,4]⟩,⟨some 37,.callv,[.t 32,.t 36],some (31,true),[5,9,4,4]⟩,⟨some 38,.not,[.t 37],some (31,true),[10,4]⟩,⟨some 39,.pick,[.t 31,.t 38,.c (.b false)],none,[4,11]⟩]) (.cond (.t 39) .ret .skip)))))))))) (.ops false [⟨some 40,.bin .add,[.t 11,.c (.i .i64 1)],none,[]⟩,⟨some 11,.mv,[.t 40],none,[0]⟩])))))))
def rs140 : List RV := []
theorem fact140 : compF Tryz.prog 140 = some (ac140,rs140,41) := by kernel_rfl
def ac108 : AC := .seq (.ops false [⟨some 2,.box,[.t 0],none,[]⟩,⟨some 3,.box,[.t 1],none,[]⟩,⟨some 4,.mv,[.c .nilf],none,[]⟩]) (.seq (.ops false [⟨some 5,.mkfn (.func 140) 0,[.t 2,.t 3],none,[]⟩,⟨some 4,.mv,[.t 5],none,[0,0]⟩]) .ret)
def rs108 : List RV := [.tmp 4]
theorem fact108 : compF Tryz.prog 108 = some (ac108,rs108,6) := by kernel_rfl
theorem pure108 (ls : List Lim) (m : List Mov) : Pure Tryz.prog 108 [.sl 11 (ls.map Lim.pv), .sl 7 (m.map Mov.pv)] (.fn (.func 140) [] [.ip (.sl 11 (ls.map Lim.pv)) 0, .ip (.sl 7 (m.map Mov.pv)) 0]) := by
  refine pure_by fact108 (by simp) fun hw X hX => ?_
  unfold ac108 rs108
  repeat' first | (show Run _ (.cond _ _ _) _ _; refine run_condX (fun hc => ?_) (fun hc => ?_) <;> (try simp only [qH, rng_0] at hc) <;> try contradiction) | (first | refine Stp.h ?_ | (show ∀ K : St → List Ft → Prop, _; intro K hK) | (show runS _ _ _ _ _; first | refine qY (hq := ?_) | refine qZ (hq := ?_)) | (refine hK _ _ ?_; clear hK K) | (refine hK _ _ rfl ?_; clear hK K) | (refine qZ (hq := ?_); try exact trivial) | omega)
  exact .refl _
theorem iter140 (ls : List Lim) (m : List Mov) (hn : ls.length ≤ 1000000) (h : ∀ l ∈ ls, chkLim l = 0) (hm : chkMovs m = 0) : Iter Tryz.prog 140 [.ip (.sl 11 (ls.map Lim.pv)) 0, .ip (.sl 7 (m.map Mov.pv)) 0] ((excW ls m).map tupW) := by
  refine iter_by fact140 (by simp) fun hw X hX => ?_
  unfold ac140
  simp only [wfs, PV.wf, List.length_map, maxLen] at hw
  have hmm := chkMovs_0 hm
  simp only [iterSt]
  repeat' first | (show Run _ (.cond _ _ _) _ _; refine run_condX (fun hc => ?_) (fun hc => ?_) <;> (try simp only [qH, rng_0] at hc) <;> try contradiction) | (first | refine Stp.h ?_ | (show ∀ K : St → List Ft → Prop, _; intro K hK) | (show runS _ _ _ _ _; first | refine qY (hq := ?_) | refine qZ (hq := ?_)) | (refine hK _ _ ?_; clear hK K) | (refine hK _ _ rfl ?_; clear hK K) | (refine qZ (hq := ?_); try exact trivial) | omega)
  refine run_loop (κ := Nat) (fun k => ⟨[(1, .p (.ip (.sl 11 (ls.map Lim.pv)) 0)), (2, .p (.ip (.sl 7 (m.map Mov.pv)) 0)), (3, .lp 3 0), (9, .p (.sl 11 (ls.map Lim.pv))), (10, .p (.i .i64 ls.length)), (11, .p (.i .i64 k))], [(3, .box [.yield] false)], (excK ls m k).map tupW, false⟩) (fun k => k ≤ ls.length) (fun k => ls.length - k) 0 ?_ ?_ ?_
  · simp only [qS, Nat.reduceAdd, Nat.reduceMul, Nat.reduceEqDiff, Nat.reduceLeDiff, reduceIte, reduceCtorEq, Nat.reduceBEq, Nat.reduceLT] <;> simp [excK]
  · simp
  · intro k hk
    repeat (first | refine Stp.h ?_ | (show ∀ K : St → List Ft → Prop, _; intro K hK) | (show runS _ _ _ _ _; first | refine qY (hq := ?_) | refine qZ (hq := ?_)) | (refine hK _ _ ?_; clear hK K) | (refine hK _ _ rfl ?_; clear hK K) | (refine qZ (hq := ?_); try exact trivial) | omega)
    (show Run _ (.cond _ _ _) _ _; refine run_condX (fun hc => ?_) (fun hc => ?_) <;> (try simp only [qH, rng_0] at hc) <;> try contradiction)
    · obtain ⟨l, hx⟩ := some_at (i := k) (l := ls) (by omega)
      have h1 := h l (List.mem_of_getElem? hx)
      have hi : excI ls m k = excL m k l := by rw [excI, hx]
      have hs := range_split (excI ls m) (show k < ls.length by omega)
      have qe := And.intro qR @hx; repeat' first | (show Run _ (.cond _ _ _) _ _; refine run_condX (fun hc => ?_) (fun hc => ?_) <;> (try simp only [qH, rng_0] at hc) <;> try contradiction) | (show RunOps _ _ _ _ (⟨_, .call 92, _, _, _⟩ :: _) _ _; refine run_callX (hf := pure92 l m h1 (by omega)) (hn := ?_)) | (show RunOps _ _ _ _ (⟨_, .call 94, _, _, _⟩ :: _) _ _; refine run_callX (hf := pure94 l) (hn := ?_)) | (first | refine Stp.h ?_ | (show ∀ K : St → List Ft → Prop, _; intro K hK) | (show runS _ _ _ _ _; first | refine qY (hq := ?_) | refine qZ (hq := ?_)) | (refine hK _ _ ?_; clear hK K) | (refine hK _ _ rfl ?_; clear hK K) | (refine qZ (hq := ?_); try exact trivial) | omega)
      refine run_rfunc rfl (iter137 l h1) ?_ ?_ [(1, .p (.ip (.sl 11 (ls.map Lim.pv)) 0)), (2, .p (.ip (.sl 7 (m.map Mov.pv)) 0)), (3, .lp 3 0), (4, .lp 4 0), (5, .lp 5 0), (6, .lp 6 0), (9, .p (.sl 11 (ls.map Lim.pv))), (10, .p (.i .i64 ls.length)), (11, .p (.i .i64 k))] (fun j => [(3, .box [.yield] false), (4, .box [.p (.i .i64 k)] false), (5, .box (l.cells.map .p) false), (6, .box [.p (.sl 1 ((ofL l m).map (.i .i64)))] false)]) (fun j => (excK ls m k).map tupW ++ (((windowsL l).take j).flatMap (excB m k l)).map tupW) ?_ ?_ ?_
      · simp
      · simp [hX]
      · simp only [qS, Nat.reduceAdd, Nat.reduceMul, Nat.reduceEqDiff, Nat.reduceLeDiff, reduceIte, reduceCtorEq, Nat.reduceBEq, Nat.reduceLT] <;> simp
      · intro j t ht X' ro' hX'
        simp only [List.getElem?_map, Option.map_eq_some_iff] at ht
        obtain ⟨b, hb, rfl⟩ := ht
        have hbm := windowsL_mem h1 (List.mem_of_getElem? hb)
        have hnx := flat_take (excB m k l) hb
        simp only [qS, Nat.reduceAdd, Nat.reduceMul, Nat.reduceEqDiff, Nat.reduceLeDiff, reduceIte, reduceCtorEq, Nat.reduceBEq, Nat.reduceLT]
        repeat' first | (show Run _ (.cond _ _ _) _ _; refine run_condX (fun hc => ?_) (fun hc => ?_) <;> (try simp only [qH, rng_0] at hc) <;> try contradiction) | (first | refine Stp.h ?_ | (show ∀ K : St → List Ft → Prop, _; intro K hK) | (show runS _ _ _ _ _; first | refine qY (hq := ?_) | refine qZ (hq := ?_)) | (refine hK _ _ ?_; clear hK K) | (refine hK _ _ rfl ?_; clear hK K) | (refine qZ (hq := ?_); try exact trivial) | omega)
        intro X1 hX1
        by_cases hgt : l.most < cntAll l m b
        · have hgt' := eq_true hgt
          rw [show excB m k l b = [⟨k, b, cntAll l m b⟩] by rw [excB, if_pos hgt]] at hnx
          have hs' : (excW ls m).map tupW = ((excK ls m k).map tupW ++ (((windowsL l).take j).flatMap (excB m k l)).map tupW) ++ tupW ⟨k, b, cntAll l m b⟩ :: ((((windowsL l).drop (j + 1)).flatMap (excB m k l)).map tupW ++ ((List.range' (k + 1) (ls.length - (k + 1))).flatMap (excI ls m)).map tupW) := by
            rw [excW, excK, hs, hi, excL, flat_split (excB m k l) hb, show excB m k l b = [⟨k, b, cntAll l m b⟩] by rw [excB, if_pos hgt], excK]
            simp
          have qe := And.intro qR @hgt'; repeat' first | (show Run _ (.cond _ _ _) _ _; refine run_condX (fun hc => ?_) (fun hc => ?_) <;> (try simp only [qH, rng_0] at hc) <;> try contradiction) | (show RunOps _ _ _ _ (⟨_, .call _, _, _, _⟩ :: _) _ _; refine run_callX (hf := pureCnt h1 hm b (by omega) (by omega)) (hn := ?_)) | (show RunOps _ _ _ _ (⟨_, .callv, _, _, _⟩ :: _) _ _; refine run_yld (by first | rfl | (simp (disch := omega) only [qG, qe, Nat.reduceAdd, Nat.reduceMul, Nat.reduceEqDiff, Nat.reduceLeDiff, reduceIte, reduceCtorEq, Nat.reduceBEq, Nat.reduceLT] <;> rfl)) (by simp (disch := omega) only [qS, qe, Nat.reduceAdd, Nat.reduceMul, Nat.reduceEqDiff, Nat.reduceLeDiff, reduceIte, reduceCtorEq, Nat.reduceBEq, Nat.reduceLT]) (by simp (disch := omega) only [qS, qe, Nat.reduceAdd, Nat.reduceMul, Nat.reduceEqDiff, Nat.reduceLeDiff, reduceIte, reduceCtorEq, Nat.reduceBEq, Nat.reduceLT] <;> rfl) (by simp (disch := omega) only [qS, qe, Nat.reduceAdd, Nat.reduceMul, Nat.reduceEqDiff, Nat.reduceLeDiff, reduceIte, reduceCtorEq, Nat.reduceBEq, Nat.reduceLT]; try trivial) rfl _ (hs') ?_; intro b; (refine run_ops ?_)) | (first | refine Stp.h ?_ | (show ∀ K : St → List Ft → Prop, _; intro K hK) | (show runS _ _ _ _ _; first | refine qY (hq := ?_) | refine qZ (hq := ?_)) | (refine hK _ _ ?_; clear hK K) | (refine hK _ _ rfl ?_; clear hK K) | (refine qZ (hq := ?_); try exact trivial) | omega)
          · subst hc; exact .inl rfl
          · subst hc; rw [hnx]; exact ⟨by simp, rfl⟩
        · have hgt' := eq_false hgt
          rw [show excB m k l b = [] by rw [excB, if_neg hgt]] at hnx
          have qe := And.intro qR @hgt'; repeat' first | (show Run _ (.cond _ _ _) _ _; refine run_condX (fun hc => ?_) (fun hc => ?_) <;> (try simp only [qH, rng_0] at hc) <;> try contradiction) | (show RunOps _ _ _ _ (⟨_, .call _, _, _, _⟩ :: _) _ _; refine run_callX (hf := pureCnt h1 hm b (by omega) (by omega)) (hn := ?_)) | (show RunOps _ _ _ _ (⟨_, .callv, _, _, _⟩ :: _) _ _; refine run_callN (q := (.b false)) (by first | rfl | (simp (disch := omega) only [qG, qe, Nat.reduceAdd, Nat.reduceMul, Nat.reduceEqDiff, Nat.reduceLeDiff, reduceIte, reduceCtorEq, Nat.reduceBEq, Nat.reduceLT] <;> rfl)) ?_; (try (refine run_ops ?_))) | (first | refine Stp.h ?_ | (show ∀ K : St → List Ft → Prop, _; intro K hK) | (show runS _ _ _ _ _; first | refine qY (hq := ?_) | refine qZ (hq := ?_)) | (refine hK _ _ ?_; clear hK K) | (refine hK _ _ rfl ?_; clear hK K) | (refine qZ (hq := ?_); try exact trivial) | omega)
          rw [hnx]; simp
      · have qe := @List.take_length.{0}; repeat' first | (show Run _ (.cond _ _ _) _ _; refine run_condX (fun hc => ?_) (fun hc => ?_) <;> (try simp only [qH, rng_0] at hc) <;> try contradiction) | (first | refine Stp.h ?_ | (show ∀ K : St → List Ft → Prop, _; intro K hK) | (show runS _ _ _ _ _; first | refine qY (hq := ?_) | refine qZ (hq := ?_)) | (refine hK _ _ ?_; clear hK K) | (refine hK _ _ rfl ?_; clear hK K) | (refine qZ (hq := ?_); try exact trivial) | omega)
        refine ⟨k + 1, by omega, by omega, by simp, ?_⟩
        rw [excK, range_next, hi, excL, ← excK, List.map_append]
    · repeat' first | (show Run _ (.cond _ _ _) _ _; refine run_condX (fun hc => ?_) (fun hc => ?_) <;> (try simp only [qH, rng_0] at hc) <;> try contradiction) | (first | refine Stp.h ?_ | (show ∀ K : St → List Ft → Prop, _; intro K hK) | (show runS _ _ _ _ _; first | refine qY (hq := ?_) | refine qZ (hq := ?_)) | (refine hK _ _ ?_; clear hK K) | (refine hK _ _ rfl ?_; clear hK K) | (refine qZ (hq := ?_); try exact trivial) | omega)
      have e : k = ls.length := by omega
      subst e; exact .inr rfl
end Go.Proofs.YtcfbdeghmckelaaGreat
