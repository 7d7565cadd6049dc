/- Contracts of functions that the proof uses, shared by the claims of this seat; no statement of its own. Part 14. No conditions. -/
import Derived.Test.YtcfbdeghmckelaaGreatJW9
set_option linter.all false
namespace Go.Proofs.YtcfbdeghmckelaaGreat
open Go.RowKit
set_option maxRecDepth 100000
set_option linter.unusedVariables false
set_option linter.unusedSimpArgs false
set_option maxHeartbeats 2000000
def ac92 : AC := .seq (.ops false [⟨some 2,.box,[.t 0],none,[]⟩,⟨some 4,.mv,[.c .nilsl],none,[]⟩]) (.seq (.ops false [⟨some 5,.mv,[.c .nilsl],none,[]⟩]) (.seq (.ops false [⟨some 12,.mkmap,[],none,[]⟩,⟨some 6,.mv,[.t 12],none,[0,0]⟩]) (.seq (.seq (.ops false [⟨some 13,.mv,[.t 1],none,[]⟩,⟨some 14,.len false,[.t 13],none,[0]⟩,⟨some 15,.mv,[.c (.i .i64 0)],none,[]⟩]) (.block 0 (.loop (.seq (.ops false [⟨some 16,.bin .lss,[.t 15,.t 14],none,[]⟩]) (.seq (.cond (.t 16) .skip (.exit 0)) (.seq (.block 1 (.seq (.ops false [⟨some 17,.iadrS 7,[.t 13,.t 15],none,[]⟩,⟨some 18,.load 7 true,[.t 17],none,[0]⟩,⟨some 8,.alloc [(.i .i64 0),(.s (bs [])),(.s (bs [])),(.i .i64 0),(.i .i64 0),(.i .i64 0),(.s (bs []))],[],none,[]⟩,⟨none,.store 7,[.t 8,.t 18],none,[2,1,0,1,2]⟩]) (.seq (.ops false [⟨some 19,.fadr 1,[.t 8],none,[]⟩,⟨some 20,.load 1 false,[.t 19],none,[0]⟩,⟨some 21,.fadr 2,[.t 8],none,[]⟩,⟨some 22,.load 1 false,[.t 21],none,[2]⟩,⟨some 23,.build [(.s (bs [])),(.s (bs []))] [(0,1),(1,1)],[.t 20,.t 22],none,[1,3]⟩,⟨some 9,.alloc [(.s (bs [])),(.s (bs []))],[],none,[]⟩,⟨none,.store 2,[.t 9,.t 23],none,[5,4,0,1,2,3,4,5]⟩]) (.seq (.ops false [⟨some 25,.mv,[.t 6],none,[]⟩,⟨some 26,.load 2 true,[.t 9],none,[]⟩,⟨some 27,.lkup [2,2] true (.b false) true,[.t 25,.t 26],none,[0,1]⟩,⟨some 24,.mv,[.t 27],none,[2]⟩,⟨some 28,.ext 0,[.t 24],none,[3]⟩,⟨some 29,.ext 1,[.t 24],none,[3]⟩,⟨some 10,.mv,[.t 28],none,[4,0,1,2,3,4]⟩,⟨some 11,.mv,[.t 29],none,[5,6,0,1,2,3,4,5,6]⟩]) (.seq (.seq (.ops false [⟨some 30,.mv,[.t 11],none,[]⟩,⟨some 31,.not,[.t 30],none,[0]⟩]) (.cond (.t 31) (.seq (.ops false [⟨some 32,.load 11 true,[.t 2],none,[]⟩,⟨some 33,.fadr 1,[.t 8],none,[]⟩,⟨some 34,.load 1 false,[.t 33],none,[1]⟩,⟨some 35,.fadr 2,[.t 8],none,[]⟩,⟨some 36,.load 1 false,[.t 35],none,[3]⟩,⟨some 37,.call 135,[.t 32,.t 34,.t 36],none,[0,2,4]⟩,⟨some 10,.mv,[.t 37],none,[5,5,0,1,2,3,4,5]⟩]) (.ops false [⟨some 38,.mv,[.t 6],none,[]⟩,⟨some 39,.load 2 true,[.t 9],none,[]⟩,⟨some 40,.mv,[.t 10],none,[]⟩,⟨none,.mset [2,2] true,[.t 38,.t 39,.t 40],none,[0,1,2,0,1,2]⟩])) .skip)) (.seq (.ops false [⟨some 41,.mv,[.t 10],none,[]⟩]) (.cond (.t 41) (.ops false [⟨some 42,.mv,[.t 5],none,[]⟩,⟨some 43,.fadr 0,[.t 8],none,[]⟩,⟨some 44,.load 1 false,[.t 43],none,[1]⟩,⟨some 45,.bslice 3 1 (.i .i64 0) 1 [0],[.t 44],none,[2]⟩,⟨some 46,.app 3 1 8,[.t 42,.t 45],none,[0,3]⟩,⟨some 5,.mv,[.t 46],none,[4,4,0,1,2,3,4]⟩]) .skip))))))) (.ops false [⟨some 47,.bin .add,[.t 15,.c (.i .i64 1)],none,[]⟩,⟨some 15,.mv,[.t 47],none,[0]⟩]))))))) (.seq (.ops false [⟨some 48,.mv,[.t 5],none,[]⟩,⟨some 4,.mv,[.t 48],none,[0,0]⟩]) .ret))))
def rs92 : List RV := [.tmp 4]
theorem fact92 : compF Tryz.prog 92 = some (ac92,rs92,49) := by kernel_rfl
abbrev keyPV (k : ByteArray × ByteArray) : PV := .agg [.s k.1, .s k.2]
abbrev entPV (l : Lim) (k : ByteArray × ByteArray) : PV × PV := (keyPV k, .b (countsL l k.1 k.2))
def ofL (l : Lim) (m : List Mov) : List Int := (m.filter fun x => countsL l x.kind x.term).map Mov.moment
theorem eq_key (a b : ByteArray × ByteArray) : eqCells (keyPV a).cells (keyPV b).cells = (decide (a.1 = b.1) && decide (a.2 = b.2)) := by
  simp only [PV.cells, eqCells, eqPV, Bool.and_true]
theorem mget_ent (l : Lim) (k : ByteArray × ByteArray) : ∀ (es : List (ByteArray × ByteArray)), mget (keyPV k) (es.map (entPV l)) = none ∨ mget (keyPV k) (es.map (entPV l)) = some (.b (countsL l k.1 k.2))
  | [] => .inl rfl
  | e :: r => by
    simp only [List.map_cons, mget, eq_key]
    split
    · rename_i h
      simp only [Bool.and_eq_true, decide_eq_true_eq] at h
      right; rw [h.1, h.2]
    · exact mget_ent l k r
theorem mput_ent (l : Lim) (k : ByteArray × ByteArray) : ∀ (es : List (ByteArray × ByteArray)), ∃ es' : List (ByteArray × ByteArray), mput (keyPV k) (.b (countsL l k.1 k.2)) (es.map (entPV l)) = es'.map (entPV l)
  | [] => ⟨[k], rfl⟩
  | e :: r => by
    simp only [List.map_cons, mput, eq_key]
    split
    · exact ⟨k :: r, rfl⟩
    · obtain ⟨es', h⟩ := mput_ent l k r
      exact ⟨e :: es', by rw [h]; rfl⟩
theorem keysOk_ent (l : Lim) (k : ByteArray × ByteArray) : ∀ (es : List (ByteArray × ByteArray)), keysOk [2, 2] true (keyPV k) (es.map (entPV l))
  | [] => trivial
  | e :: r => ⟨⟨rfl, by simp [PV.cells, eqCellsOk, eqOk]⟩, keysOk_ent l k r⟩
theorem ofL_next {l : Lim} {m : List Mov} {i : Nat} {x : Mov} (hx : m[i]? = some x) : ofL l (m.take (i + 1)) = ofL l (m.take i) ++ if countsL l x.kind x.term then [x.moment] else [] := by
  rw [ofL, List.take_add_one, hx, List.filter_append, List.map_append]
  congr 1
  cases hh : countsL l x.kind x.term <;> simp [List.filter_cons, hh]
theorem pure92 (l : Lim) (m : List Mov) (h : chkLim l = 0) (hn : m.length ≤ 1000000) : Pure Tryz.prog 92 [l.pv, .sl 7 (m.map Mov.pv)] (.sl 1 ((ofL l m).map (.i .i64))) := by
  refine pure_by fact92 (by simp) fun hw X hX => ?_
  unfold ac92 rs92
  simp only [wfs, PV.wf, List.length_map, maxLen] at hw
  repeat' first | (show Run _ (.cond _ _ _) _ _; refine run_condX (fun hc => ?_) (fun hc => ?_) <;> (try simp only [qH, rng_0] at hc) <;> try contradiction) | (first | refine Stp.h ?_ | (show ∀ K : St → List Ft → Prop, _; intro K hK) | (show runS _ _ _ _ _; first | refine qY (hq := ?_) | refine qZ (hq := ?_)) | (refine hK _ _ ?_; clear hK K) | (refine hK _ _ rfl ?_; clear hK K) | (refine qZ (hq := ?_); try exact trivial) | omega)
  refine run_own 100 3 1 [(2, .lp 2 0), (5, .row 100 0), (6, .lm 12), (13, .p (.sl 7 (m.map Mov.pv))), (14, .p (.i .i64 m.length)), (15, .p (.i .i64 0))] [(2, .box (l.cells.map .p) false), (12, .mp [] false)] ?_ ?_
  · simp only [Own, ownEnv, ownObj, nilTo, nilTos, qS, Nat.reduceAdd, Nat.reduceMul, Nat.reduceEqDiff, Nat.reduceLeDiff, reduceIte, reduceCtorEq, Nat.reduceBEq, Nat.reduceLT]
  refine run_loop (κ := Nat × List (ByteArray × ByteArray)) (fun k => ⟨[(2, .lp 2 0), (5, .row 100 (ofL l (m.take k.1)).length), (6, .lm 12), (13, .p (.sl 7 (m.map Mov.pv))), (14, .p (.i .i64 m.length)), (15, .p (.i .i64 k.1))], [(2, .box (l.cells.map .p) false), (12, .mp (k.2.map (entPV l)) false), (100, .row 3 1 ((ofL l (m.take k.1)).map (.i .i64)) false)], [], false⟩) (fun k => k.1 ≤ m.length) (fun k => m.length - k.1) (0, []) ?_ ?_ ?_
  · simp only [qS, Nat.reduceAdd, Nat.reduceMul, Nat.reduceEqDiff, Nat.reduceLeDiff, reduceIte, reduceCtorEq, Nat.reduceBEq, Nat.reduceLT] <;> simp [ofL]
  · simp
  · intro k hk
    obtain ⟨i, es⟩ := k
    simp only at hk
    have hl : (ofL l (m.take i)).length ≤ i := by
      simp only [ofL, List.length_map]; exact Nat.le_trans (List.length_filter_le _ _) (by simp; omega)
    repeat (first | refine Stp.h ?_ | (show ∀ K : St → List Ft → Prop, _; intro K hK) | (show runS _ _ _ _ _; first | refine qY (hq := ?_) | refine qZ (hq := ?_)) | (refine hK _ _ ?_; clear hK K) | (refine hK _ _ rfl ?_; clear hK K) | (refine qZ (hq := ?_); try exact trivial) | omega)
    (show Run _ (.cond _ _ _) _ _; refine run_condX (fun hc => ?_) (fun hc => ?_) <;> (try simp only [qH, rng_0] at hc) <;> try contradiction)
    · obtain ⟨x, hx⟩ := some_at (i := i) (l := m) (by omega)
      have hko : keysOk [2, 2] true (.agg [.s x.kind, .s x.term]) (es.map (entPV l)) = True := eq_true (keysOk_ent l (x.kind, x.term) es)
      obtain ⟨es', hput⟩ := mput_ent l (x.kind, x.term) es
      simp only [keyPV] at hput
      have hnx := ofL_next (l := l) hx
      rcases mget_ent l (x.kind, x.term) es with hg | hg
      · simp only [keyPV] at hg
        have qe := And.intro qR (And.intro @hx (And.intro @hko (And.intro @hg @hput))); repeat' first | (show Run _ (.cond _ _ _) _ _; refine run_condX (fun hc => ?_) (fun hc => ?_) <;> (try simp only [qH, rng_0] at hc) <;> try contradiction) | (show RunOps _ _ _ _ (⟨_, .call 135, _, _, _⟩ :: _) _ _; refine run_callX (hf := pure135 l x.kind x.term h) (hn := ?_)) | (first | refine Stp.h ?_ | (show ∀ K : St → List Ft → Prop, _; intro K hK) | (show runS _ _ _ _ _; first | refine qY (hq := ?_) | refine qZ (hq := ?_)) | (refine hK _ _ ?_; clear hK K) | (refine hK _ _ rfl ?_; clear hK K) | (refine qZ (hq := ?_); try exact trivial) | omega)
        · rw [hc, if_pos rfl] at hnx
          exact ⟨(i + 1, es'), by simp only; omega, by simp only; omega, ⟨by simp only [hnx]; simp, by simp⟩, rfl, by simp only [hnx]; simp⟩
        · rw [hc] at hnx
          exact ⟨(i + 1, es'), by simp only; omega, by simp only; omega, ⟨by simp only [hnx]; simp, by simp⟩, rfl, by simp only [hnx]; simp⟩
      · simp only [keyPV] at hg
        have qe := And.intro qR (And.intro @hx (And.intro @hko @hg)); repeat' first | (show Run _ (.cond _ _ _) _ _; refine run_condX (fun hc => ?_) (fun hc => ?_) <;> (try simp only [qH, rng_0] at hc) <;> try contradiction) | (first | refine Stp.h ?_ | (show ∀ K : St → List Ft → Prop, _; intro K hK) | (show runS _ _ _ _ _; first | refine qY (hq := ?_) | refine qZ (hq := ?_)) | (refine hK _ _ ?_; clear hK K) | (refine hK _ _ rfl ?_; clear hK K) | (refine qZ (hq := ?_); try exact trivial) | omega)
        · rw [hc, if_pos rfl] at hnx
          exact ⟨(i + 1, es), by simp only; omega, by simp only; omega, ⟨by simp only [hnx]; simp, by simp⟩, rfl, by simp only [hnx]; simp⟩
        · rw [hc] at hnx
          exact ⟨(i + 1, es), by simp only; omega, by simp only; omega, ⟨by simp only [hnx]; simp, by simp⟩, rfl, by simp only [hnx]; simp⟩
    · repeat' first | (show Run _ (.cond _ _ _) _ _; refine run_condX (fun hc => ?_) (fun hc => ?_) <;> (try simp only [qH, rng_0] at hc) <;> try contradiction) | (first | refine Stp.h ?_ | (show ∀ K : St → List Ft → Prop, _; intro K hK) | (show runS _ _ _ _ _; first | refine qY (hq := ?_) | refine qZ (hq := ?_)) | (refine hK _ _ ?_; clear hK K) | (refine hK _ _ rfl ?_; clear hK K) | (refine qZ (hq := ?_); try exact trivial) | omega)
      have e : i = m.length := by omega
      subst e; rw [List.take_length]; exact .refl _
end Go.Proofs.YtcfbdeghmckelaaGreat
