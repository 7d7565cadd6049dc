/- Contracts of functions that the proof uses, shared by the claims of this seat; no statement of its own. Part 42. No conditions. -/
import Derived.Test.YtcfbdeghmckelaaGreatJP1
import Derived.Test.YtcfbdeghmckelaaGreatJP2
set_option linter.all false
namespace Go.Proofs.YtcfbdeghmckelaaGreat
open Go.RowKit
set_option maxRecDepth 100000
set_option linter.unusedVariables false
set_option linter.unusedSimpArgs false
set_option maxHeartbeats 8000000
def ac158 : AC := .seq (.ops false [⟨some 10,.mv,[.t 1],none,[]⟩,⟨some 11,.bin .add,[.t 10,.c (.i .i64 1)],none,[0]⟩,⟨some 8,.mv,[.t 11],none,[1,0,1]⟩]) (.block 0 (.loop (.seq (.seq (.ops false [⟨some 12,.mv,[.t 8],none,[]⟩,⟨some 13,.mv,[.t 2],none,[]⟩,⟨some 14,.bin .lss,[.t 12,.t 13],none,[0,1]⟩]) (.cond (.t 14) .skip (.exit 0))) (.seq (.block 1 (.seq (.ops false [⟨some 17,.mv,[.t 8],none,[]⟩,⟨some 9,.mv,[.t 17],none,[0,0]⟩]) (.block 2 (.loop (.seq (.seq (.ops true [⟨some 18,.mv,[.t 9],none,[]⟩,⟨some 19,.mv,[.t 1],none,[]⟩,⟨some 20,.bin .gtr,[.t 18,.t 19],none,[0,1]⟩,⟨some 21,.mv,[.t 20],none,[2]⟩,⟨some 22,.mv,[.t 3],some (21,true),[3]⟩,⟨some 23,.mv,[.t 0],some (21,true),[3]⟩,⟨some 24,.mv,[.t 9],some (21,true),[3]⟩,⟨some 25,.iadrS 7,[.t 23,.t 24],some (21,true),[5,6,3]⟩,⟨some 26,.load 7 true,[.t 25],some (21,true),[7,3]⟩,⟨some 27,.mv,[.t 0],some (21,true),[3]⟩,⟨some 28,.mv,[.t 9],some (21,true),[3]⟩,⟨some 29,.bin .sub,[.t 28,.c (.i .i64 1)],some (21,true),[10,3]⟩,⟨some 30,.iadrS 7,[.t 27,.t 29],some (21,true),[9,11,3]⟩,⟨some 31,.load 7 true,[.t 30],some (21,true),[12,3]⟩,⟨some 32,.callv,[.t 22,.t 26,.t 31],some (21,true),[4,8,13,3,3]⟩,⟨some 33,.bin .lss,[.t 32,.c (.i .i64 0)],some (21,true),[14,3]⟩,⟨some 34,.pick,[.t 21,.t 33,.c (.b false)],none,[3,15]⟩]) (.cond (.t 34) .skip (.exit 2))) (.seq (.block 3 (.ops true [⟨some 37,.mv,[.t 0],none,[]⟩,⟨some 38,.mv,[.t 9],none,[]⟩,⟨some 39,.mv,[.t 0],none,[]⟩,⟨some 40,.mv,[.t 9],none,[]⟩,⟨some 41,.bin .sub,[.t 40,.c (.i .i64 1)],none,[3]⟩,⟨some 42,.mv,[.t 0],none,[]⟩,⟨some 43,.mv,[.t 9],none,[]⟩,⟨some 44,.bin .sub,[.t 43,.c (.i .i64 1)],none,[6]⟩,⟨some 45,.iadrS 7,[.t 42,.t 44],none,[5,7]⟩,⟨some 46,.load 7 true,[.t 45],none,[8]⟩,⟨some 47,.mv,[.t 0],none,[]⟩,⟨some 48,.mv,[.t 9],none,[]⟩,⟨some 49,.iadrS 7,[.t 47,.t 48],none,[10,11]⟩,⟨some 50,.load 7 true,[.t 49],none,[12]⟩,⟨some 51,.iadrS 7,[.t 37,.t 38],none,[0,1,0,1,5,6,7,8,9,13]⟩,⟨none,.store 7,[.t 51,.t 46],none,[14,9,0,1,5,6,7,8,9,13]⟩,⟨some 52,.iadrS 7,[.t 39,.t 41],none,[2,4,0,1,2,3,4,5,6,7,8,9,10,11,12,13,14,15]⟩,⟨none,.store 7,[.t 52,.t 50],none,[16,13,15,0,1,2,3,4,5,6,7,8,9,10,11,12,13,14,15]⟩])) (.ops false [⟨some 35,.mv,[.t 9],none,[]⟩,⟨some 36,.bin .sub,[.t 35,.c (.i .i64 1)],none,[0]⟩,⟨some 9,.mv,[.t 36],none,[1,0,1]⟩]))))))) (.ops false [⟨some 15,.mv,[.t 8],none,[]⟩,⟨some 16,.bin .add,[.t 15,.c (.i .i64 1)],none,[0]⟩,⟨some 8,.mv,[.t 16],none,[1,0,1]⟩])))))
def rs158 : List RV := []
theorem fact158 : compF Tryz.prog 158 = some (ac158,rs158,53) := by kernel_rfl
def ac141 : AC := .seq (.ops false [⟨some 6,.mv,[.c (.i .i64 20)],none,[]⟩]) (.seq (.ops false [⟨some 10,.mv,[.t 6],none,[]⟩,⟨some 7,.mv,[.c (.i .i64 0)],none,[]⟩,⟨some 8,.mv,[.t 10],none,[0,1,0,1]⟩]) (.seq (.block 0 (.loop (.seq (.seq (.ops false [⟨some 11,.mv,[.t 8],none,[]⟩,⟨some 12,.mv,[.t 1],none,[]⟩,⟨some 13,.bin .leq,[.t 11,.t 12],none,[0,1]⟩]) (.cond (.t 13) .skip (.exit 0))) (.block 1 (.seq (.ops false [⟨some 14,.mv,[.t 0],none,[]⟩,⟨some 15,.mv,[.t 7],none,[]⟩,⟨some 16,.mv,[.t 8],none,[]⟩,⟨some 17,.mv,[.t 2],none,[]⟩,⟨some 18,.call 158,[.t 14,.t 15,.t 16,.t 17],none,[0,1,2,3]⟩]) (.seq (.ops false [⟨some 19,.mv,[.t 8],none,[]⟩,⟨some 7,.mv,[.t 19],none,[0,0]⟩]) (.ops false [⟨some 20,.mv,[.t 8],none,[]⟩,⟨some 21,.mv,[.t 6],none,[]⟩,⟨some 22,.bin .add,[.t 20,.t 21],none,[0,1]⟩,⟨some 8,.mv,[.t 22],none,[2,0,1,2]⟩]))))))) (.seq (.ops false [⟨some 23,.mv,[.t 0],none,[]⟩,⟨some 24,.mv,[.t 7],none,[]⟩,⟨some 25,.mv,[.t 1],none,[]⟩,⟨some 26,.mv,[.t 2],none,[]⟩,⟨some 27,.call 158,[.t 23,.t 24,.t 25,.t 26],none,[0,1,2,3]⟩]) (.block 2 (.loop (.seq (.seq (.ops false [⟨some 28,.mv,[.t 6],none,[]⟩,⟨some 29,.mv,[.t 1],none,[]⟩,⟨some 30,.bin .lss,[.t 28,.t 29],none,[0,1]⟩]) (.cond (.t 30) .skip (.exit 2))) (.block 3 (.seq (.ops false [⟨some 31,.mv,[.t 6],none,[]⟩,⟨some 32,.bin .mul,[.c (.i .i64 2),.t 31],none,[0]⟩,⟨some 7,.mv,[.c (.i .i64 0)],none,[]⟩,⟨some 8,.mv,[.t 32],none,[1,2,0,1,2]⟩]) (.seq (.block 4 (.loop (.seq (.seq (.ops false [⟨some 33,.mv,[.t 8],none,[]⟩,⟨some 34,.mv,[.t 1],none,[]⟩,⟨some 35,.bin .leq,[.t 33,.t 34],none,[0,1]⟩]) (.cond (.t 35) .skip (.exit 4))) (.block 5 (.seq (.ops false [⟨some 36,.mv,[.t 0],none,[]⟩,⟨some 37,.mv,[.t 7],none,[]⟩,⟨some 38,.mv,[.t 7],none,[]⟩,⟨some 39,.mv,[.t 6],none,[]⟩,⟨some 40,.bin .add,[.t 38,.t 39],none,[2,3]⟩,⟨some 41,.mv,[.t 8],none,[]⟩,⟨some 42,.mv,[.t 2],none,[]⟩,⟨some 43,.call 159,[.t 36,.t 37,.t 40,.t 41,.t 42],none,[0,1,4,5,6]⟩]) (.seq (.ops false [⟨some 44,.mv,[.t 8],none,[]⟩,⟨some 7,.mv,[.t 44],none,[0,0]⟩]) (.ops false [⟨some 45,.mv,[.t 8],none,[]⟩,⟨some 46,.mv,[.t 6],none,[]⟩,⟨some 47,.bin .mul,[.c (.i .i64 2),.t 46],none,[1]⟩,⟨some 48,.bin .add,[.t 45,.t 47],none,[0,2]⟩,⟨some 8,.mv,[.t 48],none,[3,0,1,2,3]⟩]))))))) (.seq (.seq (.ops false [⟨some 49,.mv,[.t 7],none,[]⟩,⟨some 50,.mv,[.t 6],none,[]⟩,⟨some 51,.bin .add,[.t 49,.t 50],none,[0,1]⟩,⟨some 9,.mv,[.t 51],none,[2,0,1,2]⟩]) (.seq (.ops false [⟨some 52,.mv,[.t 9],none,[]⟩,⟨some 53,.mv,[.t 1],none,[]⟩,⟨some 54,.bin .lss,[.t 52,.t 53],none,[0,1]⟩]) (.cond (.t 54) (.ops false [⟨some 55,.mv,[.t 0],none,[]⟩,⟨some 56,.mv,[.t 7],none,[]⟩,⟨some 57,.mv,[.t 9],none,[]⟩,⟨some 58,.mv,[.t 1],none,[]⟩,⟨some 59,.mv,[.t 2],none,[]⟩,⟨some 60,.call 159,[.t 55,.t 56,.t 57,.t 58,.t 59],none,[0,1,2,3,4]⟩]) .skip))) (.ops false [⟨some 61,.mv,[.t 6],none,[]⟩,⟨some 62,.bin .mul,[.t 61,.c (.i .i64 2)],none,[0]⟩,⟨some 6,.mv,[.t 62],none,[1,0,1]⟩])))))))))))
def rs141 : List RV := []
theorem fact141 : compF Tryz.prog 141 = some (ac141,rs141,63) := by kernel_rfl
def ac113 : AC := .ops false [⟨some 4,.mv,[.t 0],none,[]⟩,⟨some 5,.mv,[.t 0],none,[]⟩,⟨some 6,.len false,[.t 5],none,[1]⟩,⟨some 7,.mv,[.t 1],none,[]⟩,⟨some 8,.call 141,[.t 4,.t 6,.t 7],none,[0,2,3]⟩]
def rs113 : List RV := []
theorem fact113 : compF Tryz.prog 113 = some (ac113,rs113,9) := by kernel_rfl
def bfC (c : Mov → Mov → Int) (x y : Mov) : Bool := decide (c x y < 0)
def mgC (c : Mov → Mov → Int) (L : List Mov) (k : Nat) : List Mov := (L.take k).foldl (insM (bfC c)) []
def sortC (c : Mov → Mov → Int) (L : List Mov) : List Mov := L.foldl (insM (bfC c)) []
theorem mgC_len {c : Mov → Mov → Int} {L : List Mov} {k : Nat} (h : k ≤ L.length) : (mgC c L k).length = k := by
  have := (foldl_perm (bfC c) (L.take k) []).length_eq
  rw [mgC, this]; simp; omega
theorem mgC_next {c : Mov → Mov → Int} {L : List Mov} {k : Nat} {x : Mov} (h : L[k]? = some x) : mgC c L (k + 1) = insM (bfC c) (mgC c L k) x := by
  rw [mgC, List.take_add_one, h, List.foldl_append]; rfl
theorem sortC_len (c : Mov → Mov → Int) (L : List Mov) : (sortC c L).length = L.length := by
  have := (foldl_perm (bfC c) L []).length_eq
  rw [sortC, this]; simp
def datC (c : Mov → Mov → Int) (L : List Mov) (k : Nat) : List Mov := mgC c L k ++ L.drop k
theorem datC_len {c : Mov → Mov → Int} {L : List Mov} {k : Nat} (h : k ≤ L.length ∨ k = 1) : (datC c L k).length = L.length := by
  rcases L with _ | ⟨x, r⟩
  · rcases h with h | h <;> (try simp at h) <;> subst h <;> simp [datC, mgC]
  · rw [datC, List.length_append, mgC_len (by rcases h with h | h <;> simp at * <;> omega), List.length_drop]
    rcases h with h | h <;> simp at * <;> omega
theorem datC_1 (c : Mov → Mov → Int) (L : List Mov) : datC c L 1 = L := by
  rcases L with _ | ⟨x, r⟩ <;> simp [datC, mgC, insM, insAt]
theorem datC_end (c : Mov → Mov → Int) (L : List Mov) {k : Nat} (h : L.length ≤ k) : datC c L k = sortC c L := by
  rw [datC, mgC, List.take_of_length_le h, List.drop_eq_nil_of_le h, List.append_nil]; rfl
def dj (out : List Mov) (x : Mov) (rest : List Mov) (j : Nat) : List Mov := out.take j ++ x :: (out.drop j ++ rest)
theorem dj_len {out : List Mov} {x : Mov} {rest : List Mov} {j : Nat} (h : j ≤ out.length) : (dj out x rest j).length = out.length + 1 + rest.length := by
  simp [dj]; omega
theorem dj_start {c : Mov → Mov → Int} {L : List Mov} {i : Nat} {x : Mov} (h : L[i]? = some x) : dj (mgC c L i) x (L.drop (i + 1)) i = datC c L i := by
  have hi := (List.getElem?_eq_some_iff.1 h).1
  have hl := mgC_len (c := c) (L := L) (k := i) (by omega)
  rw [dj, datC, List.take_of_length_le (by omega), List.drop_eq_nil_of_le (by omega), List.nil_append, List.drop_eq_getElem_cons hi, (List.getElem?_eq_some_iff.1 h).2]
theorem dj_stop {c : Mov → Mov → Int} {L : List Mov} {i j : Nat} {x : Mov} (h : L[i]? = some x) (hj : j = insAt (bfC c) x (mgC c L i) i) : dj (mgC c L i) x (L.drop (i + 1)) j = datC c L (i + 1) := by
  have hi := (List.getElem?_eq_some_iff.1 h).1
  rw [datC, mgC_next h, insM, mgC_len (by omega), ← hj, dj]; simp
theorem dj_at {out : List Mov} {x y : Mov} {rest : List Mov} {j : Nat} (h : out[j]? = some y) : (dj out x rest (j + 1))[j]? = some y ∧ (dj out x rest (j + 1))[j + 1]? = some x := by
  have hj := (List.getElem?_eq_some_iff.1 h).1
  have hl : (out.take j).length = j := by simp; omega
  rw [dj, List.take_add_one, h, List.append_assoc]
  refine ⟨?_, ?_⟩
  · rw [List.getElem?_append_right (by omega), hl]; simp
  · rw [List.getElem?_append_right (by omega), hl]; simp
theorem dj_swap {out : List Mov} {x y : Mov} {rest : List Mov} {j : Nat} (h : out[j]? = some y) : ((dj out x rest (j + 1)).set (j + 1) y).set j x = dj out x rest j := by
  have hj := (List.getElem?_eq_some_iff.1 h).1
  have hl : (out.take j).length = j := by simp; omega
  have hd : out.drop j = y :: out.drop (j + 1) := by rw [List.drop_eq_getElem_cons hj, (List.getElem?_eq_some_iff.1 h).2]
  rw [dj, dj, List.take_add_one, h, hd, List.append_assoc, List.set_append_right _ _ (by omega), hl, List.set_append_right _ _ (by omega), hl]
  simp
theorem insC_stop {c : Mov → Mov → Int} {x : Mov} {out : List Mov} {q : Nat} {y : Mov} (hy : out[q]? = some y) (hb : ¬ c x y < 0) : insAt (bfC c) x out (q + 1) = q + 1 := by
  simp only [insAt, hy]; rw [if_neg (by simp [bfC]; omega)]
theorem insC_go {c : Mov → Mov → Int} {x : Mov} {out : List Mov} {q : Nat} {y : Mov} (hy : out[q]? = some y) (hb : c x y < 0) : insAt (bfC c) x out (q + 1) = insAt (bfC c) x out q := by
  simp only [insAt, hy]; rw [if_pos (by simp [bfC]; omega)]
theorem acts158 {f : Nat} {c : Mov → Mov → Int} (hf : ∀ a b : Mov, Pure Tryz.prog f [a.pv, b.pv] (.i .i64 (c a b))) (L : List Mov) (b : Int) (hb : b = L.length) (hn : L.length ≤ 1000000) : Acts Tryz.prog 158 [.row 900 L.length, .p (.i .i64 0), .p (.i .i64 b), .p (.fn (.func f) [] [])] [(900, .row 74 7 (L.map Mov.pv) false)] (.p (.tup [])) [(900, .row 74 7 ((sortC c L).map Mov.pv) false)] := by
  subst hb
  refine acts_by fact158 (by simp) (by simp [scPs, scP, oget]) (by simp [scObj]) ⟨rfl, trivial⟩ (by simp [scObj]) (by simp [FolL, oget, sortC_len]) fun X hX => ?_
  unfold ac158 rs158 argStL ghO
  have qe := And.intro qR @gLV.eq_2; repeat' first | (show Run _ (.cond _ _ _) _ _; refine run_condX (fun hc => ?_) (fun hc => ?_) <;> (try simp only [qH, rng_0] at hc) <;> try contradiction) | (first | refine Stp.h ?_ | (show ∀ K : St → List Ft → Prop, _; intro K hK) | (show runS _ _ _ _ _; first | refine qY (hq := ?_) | refine qZ (hq := ?_)) | (refine hK _ _ ?_; clear hK K) | (refine hK _ _ rfl ?_; clear hK K) | (refine qZ (hq := ?_); try exact trivial) | omega)
  refine run_loop (κ := Nat) (fun i => ⟨[(0, .row 900 L.length), (1, .p (.i .i64 0)), (2, .p (.i .i64 L.length)), (3, .p (.fn (.func f) [] [])), (8, .p (.i .i64 i)), (1000900, .row 900 L.length)], [(900, .row 74 7 ((datC c L i).map Mov.pv) false)], [], false⟩) (fun i => 1 ≤ i ∧ (i ≤ L.length ∨ i = 1)) (fun i => L.length - i) 1 ?_ ?_ ?_
  · simp only [qS, Nat.reduceAdd, Nat.reduceMul, Nat.reduceEqDiff, Nat.reduceLeDiff, reduceIte, reduceCtorEq, Nat.reduceBEq, Nat.reduceLT, gLV.eq_2] <;> simp [datC_1]
  · simp
  · intro i hi
    have hdl := datC_len (c := c) hi.2
    by_cases hlt : i < L.length
    · obtain ⟨x, hx⟩ := some_at (i := i) (l := L) hlt
      have qe := And.intro qR @hdl; repeat' first | (show Run _ (.cond _ _ _) _ _; refine run_condX (fun hc => ?_) (fun hc => ?_) <;> (try simp only [qH, rng_0] at hc) <;> try contradiction) | (first | refine Stp.h ?_ | (show ∀ K : St → List Ft → Prop, _; intro K hK) | (show runS _ _ _ _ _; first | refine qY (hq := ?_) | refine qZ (hq := ?_)) | (refine hK _ _ ?_; clear hK K) | (refine hK _ _ rfl ?_; clear hK K) | (refine qZ (hq := ?_); try exact trivial) | omega)
      have hol := mgC_len (c := c) (L := L) (k := i) (by omega)
      refine run_loop (κ := Nat) (fun j => ⟨[(0, .row 900 L.length), (1, .p (.i .i64 0)), (2, .p (.i .i64 L.length)), (3, .p (.fn (.func f) [] [])), (8, .p (.i .i64 i)), (9, .p (.i .i64 j)), (1000900, .row 900 L.length)], [(900, .row 74 7 ((dj (mgC c L i) x (L.drop (i + 1)) j).map Mov.pv) false)], [], false⟩) (fun j => j ≤ i ∧ insAt (bfC c) x (mgC c L i) j = insAt (bfC c) x (mgC c L i) i) (fun j => j) i ?_ ?_ ?_
      · simp only [qS, Nat.reduceAdd, Nat.reduceMul, Nat.reduceEqDiff, Nat.reduceLeDiff, reduceIte, reduceCtorEq, Nat.reduceBEq, Nat.reduceLT] <;> simp [dj_start hx, hdl]
      · simp
      · intro j hj
        have hjl : (dj (mgC c L i) x (L.drop (i + 1)) j).length = L.length := by rw [dj_len (by omega), hol, List.length_drop]; omega
        cases j with
        | zero =>
          have i0 : (0 < ((0 : Nat) : Int)) = False := eq_false (by omega)
          have qe := And.intro qR (And.intro @i0 (And.intro @hjl (And.intro @rtN @rtR))); repeat' first | (show Run _ (.cond _ _ _) _ _; refine run_condX (fun hc => ?_) (fun hc => ?_) <;> (try simp only [qH, rng_0] at hc) <;> try contradiction) | (show RunOps _ _ _ _ (⟨_, .callv, _, _, _⟩ :: _) _ _; refine run_callN (q := (.i .i64 0)) (by first | rfl | (simp (disch := omega) only [qG, qe, Nat.reduceAdd, Nat.reduceMul, Nat.reduceEqDiff, Nat.reduceLeDiff, reduceIte, reduceCtorEq, Nat.reduceBEq, Nat.reduceLT] <;> rfl)) ?_; (try (refine run_ops ?_))) | (first | refine Stp.h ?_ | (show ∀ K : St → List Ft → Prop, _; intro K hK) | (show runS _ _ _ _ _; first | refine qY (hq := ?_) | refine qZ (hq := ?_)) | (refine hK _ _ ?_; clear hK K) | (refine hK _ _ rfl ?_; clear hK K) | (refine qZ (hq := ?_); try exact trivial) | omega)
          exact ⟨i + 1, by omega, by omega, by simp, by rw [dj_stop (j := 0) hx hj.2], by rw [datC_len (by omega)]; exact Nat.le_refl _⟩
        | succ j =>
          have i0 : (0 < ((j + 1 : Nat) : Int)) = True := eq_true (by omega)
          have i1 : ((j + 1 : Nat) : Int) - 1 = (j : Int) := by omega
          obtain ⟨y, hy⟩ := some_at (i := j) (l := mgC c L i) (by omega)
          obtain ⟨h1, h2⟩ := dj_at (x := x) (rest := L.drop (i + 1)) hy
          by_cases hc : c x y < 0
          · have hc' := eq_true hc
            have h3 := insC_go hy hc
            have qe := And.intro qR (And.intro @i0 (And.intro @i1 (And.intro @h1 (And.intro @h2 (And.intro @hjl (And.intro @hc' (And.intro @rtN @rtR))))))); repeat' first | (show Run _ (.cond _ _ _) _ _; refine run_condX (fun hc => ?_) (fun hc => ?_) <;> (try simp only [qH, rng_0] at hc) <;> try contradiction) | (show RunOps _ _ _ _ (⟨_, .callv, _, _, _⟩ :: _) _ _; refine run_callVX (hf := hf x y) (hn := ?_)) | (first | refine Stp.h ?_ | (show ∀ K : St → List Ft → Prop, _; intro K hK) | (show runS _ _ _ _ _; first | refine qY (hq := ?_) | refine qZ (hq := ?_)) | (refine hK _ _ ?_; clear hK K) | (refine hK _ _ rfl ?_; clear hK K) | (refine qZ (hq := ?_); try exact trivial) | omega)
            exact ⟨j, ⟨by omega, by rw [← h3]; exact hj.2⟩, by omega, rfl, by rw [← dj_swap hy, List.map_set, List.map_set], by rw [dj_len (by omega), hol, List.length_drop]; omega⟩
          · have hc' := eq_false hc
            have h3 := insC_stop hy hc
            have qe := And.intro qR (And.intro @i0 (And.intro @i1 (And.intro @h1 (And.intro @h2 (And.intro @hjl (And.intro @hc' (And.intro @rtN @rtR))))))); repeat' first | (show Run _ (.cond _ _ _) _ _; refine run_condX (fun hc => ?_) (fun hc => ?_) <;> (try simp only [qH, rng_0] at hc) <;> try contradiction) | (show RunOps _ _ _ _ (⟨_, .callv, _, _, _⟩ :: _) _ _; refine run_callVX (hf := hf x y) (hn := ?_)) | (first | refine Stp.h ?_ | (show ∀ K : St → List Ft → Prop, _; intro K hK) | (show runS _ _ _ _ _; first | refine qY (hq := ?_) | refine qZ (hq := ?_)) | (refine hK _ _ ?_; clear hK K) | (refine hK _ _ rfl ?_; clear hK K) | (refine qZ (hq := ?_); try exact trivial) | omega)
            exact ⟨i + 1, by omega, by omega, by simp, by rw [dj_stop hx (h3.symm.trans hj.2)], by rw [datC_len (by omega)]; exact Nat.le_refl _⟩
    · have qe := And.intro qR (And.intro @hdl (And.intro @rtN @rtR)); repeat' first | (show Run _ (.cond _ _ _) _ _; refine run_condX (fun hc => ?_) (fun hc => ?_) <;> (try simp only [qH, rng_0] at hc) <;> try contradiction) | (first | refine Stp.h ?_ | (show ∀ K : St → List Ft → Prop, _; intro K hK) | (show runS _ _ _ _ _; first | refine qY (hq := ?_) | refine qZ (hq := ?_)) | (refine hK _ _ ?_; clear hK K) | (refine hK _ _ rfl ?_; clear hK K) | (refine qZ (hq := ?_); try exact trivial) | omega)
      rw [datC_end c L (by omega)]
      exact .inl (.mk0 (h2 := by simp only [qS, Nat.reduceAdd, Nat.reduceMul, Nat.reduceEqDiff, Nat.reduceLeDiff, reduceIte, reduceCtorEq, Nat.reduceBEq, Nat.reduceLT, keepG.eq_1, keepG.eq_2, gLV.eq_2] <;> simp))
theorem acts158e (f : Nat) (L : List Mov) (a b : Int) (ha : a = L.length) (hb : b = L.length) (hn : L.length ≤ 1000000) : Acts Tryz.prog 158 [.row 900 L.length, .p (.i .i64 a), .p (.i .i64 b), .p (.fn (.func f) [] [])] [(900, .row 74 7 (L.map Mov.pv) false)] (.p (.tup [])) [(900, .row 74 7 (L.map Mov.pv) false)] := by
  subst ha; subst hb
  refine acts_by fact158 (by simp) (by simp [scPs, scP, oget]) (by simp [scObj]) ⟨rfl, trivial⟩ (by simp [scObj]) (by simp [FolL, oget]) fun X hX => ?_
  unfold ac158 rs158 argStL ghO
  have qe := And.intro qR @gLV.eq_2; repeat' first | (show Run _ (.cond _ _ _) _ _; refine run_condX (fun hc => ?_) (fun hc => ?_) <;> (try simp only [qH, rng_0] at hc) <;> try contradiction) | (first | refine Stp.h ?_ | (show ∀ K : St → List Ft → Prop, _; intro K hK) | (show runS _ _ _ _ _; first | refine qY (hq := ?_) | refine qZ (hq := ?_)) | (refine hK _ _ ?_; clear hK K) | (refine hK _ _ rfl ?_; clear hK K) | (refine qZ (hq := ?_); try exact trivial) | omega)
  refine run_loop (κ := Unit) (fun _ => ⟨[(0, .row 900 L.length), (1, .p (.i .i64 L.length)), (2, .p (.i .i64 L.length)), (8, .p (.i .i64 (L.length + 1))), (1000900, .row 900 L.length)], [(900, .row 74 7 (L.map Mov.pv) false)], [], false⟩) (fun _ => True) (fun _ => 0) () ?_ ?_ ?_
  · simp only [qS, Nat.reduceAdd, Nat.reduceMul, Nat.reduceEqDiff, Nat.reduceLeDiff, reduceIte, reduceCtorEq, Nat.reduceBEq, Nat.reduceLT, gLV.eq_2] <;> simp
  · trivial
  · intro _ _
    have hlt : ((L.length : Int) + 1 < L.length) = False := eq_false (by omega)
    have qe := And.intro qR (And.intro @hlt (And.intro @rtN @rtR)); repeat' first | (show Run _ (.cond _ _ _) _ _; refine run_condX (fun hc => ?_) (fun hc => ?_) <;> (try simp only [qH, rng_0] at hc) <;> try contradiction) | (first | refine Stp.h ?_ | (show ∀ K : St → List Ft → Prop, _; intro K hK) | (show runS _ _ _ _ _; first | refine qY (hq := ?_) | refine qZ (hq := ?_)) | (refine hK _ _ ?_; clear hK K) | (refine hK _ _ rfl ?_; clear hK K) | (refine qZ (hq := ?_); try exact trivial) | omega)
    exact .inl (.mk0 (h2 := by simp only [qS, Nat.reduceAdd, Nat.reduceMul, Nat.reduceEqDiff, Nat.reduceLeDiff, reduceIte, reduceCtorEq, Nat.reduceBEq, Nat.reduceLT, keepG.eq_1, keepG.eq_2, gLV.eq_2] <;> simp))
theorem acts141 {f : Nat} {c : Mov → Mov → Int} (hf : ∀ a b : Mov, Pure Tryz.prog f [a.pv, b.pv] (.i .i64 (c a b))) (L : List Mov) (hn : L.length ≤ 20) : Acts Tryz.prog 141 [.row 900 L.length, .p (.i .i64 L.length), .p (.fn (.func f) [] [])] [(900, .row 74 7 (L.map Mov.pv) false)] (.p (.tup [])) [(900, .row 74 7 ((sortC c L).map Mov.pv) false)] := by
  have hsl := sortC_len c L
  refine acts_by fact141 (by simp) (by simp [scPs, scP, oget]) (by simp [scObj]) ⟨rfl, trivial⟩ (by simp [scObj]) (by simp [FolL, oget, sortC_len]) fun X hX => ?_
  unfold ac141 rs141 argStL ghO
  have qe := And.intro qR @gLV.eq_2; repeat' first | (show Run _ (.cond _ _ _) _ _; refine run_condX (fun hc => ?_) (fun hc => ?_) <;> (try simp only [qH, rng_0] at hc) <;> try contradiction) | (first | refine Stp.h ?_ | (show ∀ K : St → List Ft → Prop, _; intro K hK) | (show runS _ _ _ _ _; first | refine qY (hq := ?_) | refine qZ (hq := ?_)) | (refine hK _ _ ?_; clear hK K) | (refine hK _ _ rfl ?_; clear hK K) | (refine qZ (hq := ?_); try exact trivial) | omega)
  refine run_loop (κ := Nat) (fun q => ⟨[(0, .row 900 L.length), (1, .p (.i .i64 L.length)), (2, .p (.fn (.func f) [] [])), (6, .p (.i .i64 20)), (7, .p (.i .i64 (20 * q))), (8, .p (.i .i64 (20 + 20 * q))), (1000900, .row 900 L.length)], [(900, .row 74 7 ((if q = 0 then L else sortC c L).map Mov.pv) false)], [], false⟩) (fun q => q = 0 ∨ (q = 1 ∧ L.length = 20)) (fun q => 1 - q) 0 ?_ ?_ ?_
  · simp only [qS, Nat.reduceAdd, Nat.reduceMul, Nat.reduceEqDiff, Nat.reduceLeDiff, reduceIte, reduceCtorEq, Nat.reduceBEq, Nat.reduceLT, gLV.eq_2] <;> simp
  · simp
  · intro q hq
    rcases hq with rfl | ⟨rfl, h20⟩
    · have e0 : ((20 : Int) * ((0 : Nat) : Int)) = 0 := by omega
      have e1 : ((20 : Int) + 20 * ((0 : Nat) : Int)) = 20 := by omega
      by_cases h20 : L.length = 20
      · have hge : ((20 : Int) ≤ L.length) = True := eq_true (by omega)
        have qe := And.intro qR (And.intro @qN (And.intro @e0 (And.intro @e1 (And.intro @hge (And.intro @rtN @rtR))))); repeat' first | (show Run _ (.cond _ _ _) _ _; refine run_condX (fun hc => ?_) (fun hc => ?_) <;> (try simp only [qH, rng_0] at hc) <;> try contradiction) | (show RunOps _ _ _ _ (⟨_, .call 158, _, _, _⟩ :: _) _ _; refine run_callSX [] (hf := acts158 hf L 20 (by omega) (by omega)) (hn := ?_)) | (first | refine Stp.h ?_ | (show ∀ K : St → List Ft → Prop, _; intro K hK) | (show runS _ _ _ _ _; first | refine qY (hq := ?_) | refine qZ (hq := ?_)) | (refine hK _ _ ?_; clear hK K) | (refine hK _ _ rfl ?_; clear hK K) | (refine qZ (hq := ?_); try exact trivial) | omega)
        exact ⟨1, .inr ⟨rfl, h20⟩, by omega, ⟨by simp, by simp⟩, by simp, by simp [hsl]⟩
      · have hge : ((20 : Int) ≤ L.length) = False := eq_false (by omega)
        have qe := And.intro qR (And.intro @qN (And.intro @e0 (And.intro @e1 (And.intro @hge (And.intro @rtN @rtR))))); repeat' first | (show Run _ (.cond _ _ _) _ _; refine run_condX (fun hc => ?_) (fun hc => ?_) <;> (try simp only [qH, rng_0] at hc) <;> try contradiction) | (show RunOps _ _ _ _ (⟨_, .call 158, _, _, _⟩ :: _) _ _; refine run_callSX [] (hf := acts158 hf L L.length rfl (by omega)) (hn := ?_)) | (first | refine Stp.h ?_ | (show ∀ K : St → List Ft → Prop, _; intro K hK) | (show runS _ _ _ _ _; first | refine qY (hq := ?_) | refine qZ (hq := ?_)) | (refine hK _ _ ?_; clear hK K) | (refine hK _ _ rfl ?_; clear hK K) | (refine qZ (hq := ?_); try exact trivial) | omega)
        refine run_loop (κ := Unit) (fun _ => ⟨[(1, .p (.i .i64 L.length)), (6, .p (.i .i64 20)), (1000900, .row 900 L.length)], [(900, .row 74 7 ((sortC c L).map Mov.pv) false)], [], false⟩) (fun _ => True) (fun _ => 0) () ?_ ?_ ?_
        · simp only [qS, Nat.reduceAdd, Nat.reduceMul, Nat.reduceEqDiff, Nat.reduceLeDiff, reduceIte, reduceCtorEq, Nat.reduceBEq, Nat.reduceLT] <;> simp [hsl]
        · trivial
        · intro _ _
          have hlt : ((20 : Int) < L.length) = False := eq_false (by omega)
          have qe := And.intro qR (And.intro @hlt (And.intro @rtN @rtR)); repeat' first | (show Run _ (.cond _ _ _) _ _; refine run_condX (fun hc => ?_) (fun hc => ?_) <;> (try simp only [qH, rng_0] at hc) <;> try contradiction) | (first | refine Stp.h ?_ | (show ∀ K : St → List Ft → Prop, _; intro K hK) | (show runS _ _ _ _ _; first | refine qY (hq := ?_) | refine qZ (hq := ?_)) | (refine hK _ _ ?_; clear hK K) | (refine hK _ _ rfl ?_; clear hK K) | (refine qZ (hq := ?_); try exact trivial) | omega)
          exact .inl (.mk0 (h2 := by simp only [qS, Nat.reduceAdd, Nat.reduceMul, Nat.reduceEqDiff, Nat.reduceLeDiff, reduceIte, reduceCtorEq, Nat.reduceBEq, Nat.reduceLT, keepG.eq_1, keepG.eq_2, gLV.eq_2] <;> simp))
    · have e0 : ((20 : Int) * ((1 : Nat) : Int)) = L.length := by omega
      have e1 : ((20 : Int) + 20 * ((1 : Nat) : Int)) = 40 := by omega
      have hge : ((40 : Int) ≤ L.length) = False := eq_false (by omega)
      have qe := And.intro qR (And.intro @qN (And.intro @e0 (And.intro @e1 (And.intro @hge (And.intro @hsl (And.intro @rtN @rtR)))))); repeat' first | (show Run _ (.cond _ _ _) _ _; refine run_condX (fun hc => ?_) (fun hc => ?_) <;> (try simp only [qH, rng_0] at hc) <;> try contradiction) | (show RunOps _ _ _ _ (⟨_, .call 158, _, _, _⟩ :: _) _ _; refine run_callSX [] (hf := acts158e f (sortC c L) L.length L.length (by omega) (by omega) (by omega)) (hn := ?_)) | (first | refine Stp.h ?_ | (show ∀ K : St → List Ft → Prop, _; intro K hK) | (show runS _ _ _ _ _; first | refine qY (hq := ?_) | refine qZ (hq := ?_)) | (refine hK _ _ ?_; clear hK K) | (refine hK _ _ rfl ?_; clear hK K) | (refine qZ (hq := ?_); try exact trivial) | omega)
      refine run_loop (κ := Unit) (fun _ => ⟨[(1, .p (.i .i64 L.length)), (6, .p (.i .i64 20)), (1000900, .row 900 L.length)], [(900, .row 74 7 ((sortC c L).map Mov.pv) false)], [], false⟩) (fun _ => True) (fun _ => 0) () ?_ ?_ ?_
      · simp only [qS, Nat.reduceAdd, Nat.reduceMul, Nat.reduceEqDiff, Nat.reduceLeDiff, reduceIte, reduceCtorEq, Nat.reduceBEq, Nat.reduceLT] <;> simp [hsl]
      · trivial
      · intro _ _
        have hlt : ((20 : Int) < L.length) = False := eq_false (by omega)
        have qe := And.intro qR (And.intro @hlt (And.intro @rtN @rtR)); repeat' first | (show Run _ (.cond _ _ _) _ _; refine run_condX (fun hc => ?_) (fun hc => ?_) <;> (try simp only [qH, rng_0] at hc) <;> try contradiction) | (first | refine Stp.h ?_ | (show ∀ K : St → List Ft → Prop, _; intro K hK) | (show runS _ _ _ _ _; first | refine qY (hq := ?_) | refine qZ (hq := ?_)) | (refine hK _ _ ?_; clear hK K) | (refine hK _ _ rfl ?_; clear hK K) | (refine qZ (hq := ?_); try exact trivial) | omega)
        exact .inl (.mk0 (h2 := by simp only [qS, Nat.reduceAdd, Nat.reduceMul, Nat.reduceEqDiff, Nat.reduceLeDiff, reduceIte, reduceCtorEq, Nat.reduceBEq, Nat.reduceLT, keepG.eq_1, keepG.eq_2, gLV.eq_2] <;> simp))
theorem acts113 {f : Nat} {c : Mov → Mov → Int} (hf : ∀ a b : Mov, Pure Tryz.prog f [a.pv, b.pv] (.i .i64 (c a b))) (L : List Mov) (hn : L.length ≤ 20) : Acts Tryz.prog 113 [.row 900 L.length, .p (.fn (.func f) [] [])] [(900, .row 74 7 (L.map Mov.pv) false)] (.p (.tup [])) [(900, .row 74 7 ((sortC c L).map Mov.pv) false)] := by
  have hsl := sortC_len c L
  refine acts_by fact113 (by simp) (by simp [scPs, scP, oget]) (by simp [scObj]) ⟨rfl, trivial⟩ (by simp [scObj]) (by simp [FolL, oget, sortC_len]) fun X hX => ?_
  unfold ac113 rs113 argStL ghO
  have qe := And.intro qR (And.intro @qN (And.intro @gLV.eq_2 (And.intro @rtN @rtR))); repeat' first | (show Run _ (.cond _ _ _) _ _; refine run_condX (fun hc => ?_) (fun hc => ?_) <;> (try simp only [qH, rng_0] at hc) <;> try contradiction) | (show RunOps _ _ _ _ (⟨_, .call 141, _, _, _⟩ :: _) _ _; refine run_callSX [] (hf := acts141 hf L hn) (hn := ?_)) | (first | refine Stp.h ?_ | (show ∀ K : St → List Ft → Prop, _; intro K hK) | (show runS _ _ _ _ _; first | refine qY (hq := ?_) | refine qZ (hq := ?_)) | (refine hK _ _ ?_; clear hK K) | (refine hK _ _ rfl ?_; clear hK K) | (refine qZ (hq := ?_); try exact trivial) | omega)
  exact .inl (.mk0 (h2 := by simp only [qS, Nat.reduceAdd, Nat.reduceMul, Nat.reduceEqDiff, Nat.reduceLeDiff, reduceIte, reduceCtorEq, Nat.reduceBEq, Nat.reduceLT, keepG.eq_1, keepG.eq_2, gLV.eq_2] <;> simp))
end Go.Proofs.YtcfbdeghmckelaaGreat
