/- Contracts of functions that the proof uses, shared by the claims of this seat; no statement of its own. Part 38. No conditions. -/
import Derived.Test.YtcfbdeghmckelaaGreatJW24
import Derived.Test.YtcfbdeghmckelaaGreatJP1
import Derived.Test.YtcfbdeghmckelaaGreatJP2
set_option linter.all false
namespace Go.Proofs.YtcfbdeghmckelaaGreat
open Go.RowKit
set_option maxRecDepth 100000
set_option linter.unusedVariables false
set_option linter.unusedSimpArgs false
set_option maxHeartbeats 4000000
def befM (a b : Mov) : Bool := if a.moment = b.moment then (if a.kind = b.kind then Op.bytesLess a.name.toList b.name.toList else Op.bytesLess a.kind.toList b.kind.toList) else decide (a.moment < b.moment)
def mgK (l : List Mov) (k : Nat) : List Mov := (l.take k).foldl (insM befM) []
theorem mgK_len {l : List Mov} {k : Nat} (h : k ≤ l.length) : (mgK l k).length = k := by
  have := (foldl_perm befM (l.take k) []).length_eq
  rw [mgK, this]; simp; omega
theorem mgK_next {l : List Mov} {k : Nat} {x : Mov} (h : l[k]? = some x) : mgK l (k + 1) = insM befM (mgK l k) x := by
  rw [mgK, List.take_add_one, h, List.foldl_append]; rfl
theorem allMv (l : List Mov) : l.all ((fun x => x.cells.all PV.one) ∘ Mov.pv) = true := by rw [List.all_eq_true]; intro x _; rfl
theorem allTk {l : List PV} {n : Nat} (h : l.all (fun x => x.cells.all PV.one) = true) : (l.take n).all (fun x => x.cells.all PV.one) = true := by rw [List.all_eq_true] at h ⊢; exact fun x hx => h x (List.mem_of_mem_take hx)
theorem allDr {l : List PV} {n : Nat} (h : l.all (fun x => x.cells.all PV.one) = true) : (l.drop n).all (fun x => x.cells.all PV.one) = true := by rw [List.all_eq_true] at h ⊢; exact fun x hx => h x (List.mem_of_mem_drop hx)
abbrev Mov.cells (m : Mov) : List PV := [.i .i64 m.moment, .s m.kind, .s m.term, .i .i64 m.seats, .i .i64 m.size, .i .i64 m.noise, .s m.name]
theorem weakE {a b : PV} (h : a = b) : Weak a b := h ▸ .refl _
def ac121 : AC := .seq (.ops false [⟨some 2,.box,[.t 0],none,[]⟩,⟨some 3,.box,[.t 1],none,[]⟩,⟨some 4,.mv,[.c (.b false)],none,[]⟩]) (.seq (.seq (.ops false [⟨some 5,.fadr 0,[.t 2],none,[]⟩,⟨some 6,.load 1 false,[.t 5],none,[0]⟩,⟨some 7,.fadr 0,[.t 3],none,[]⟩,⟨some 8,.load 1 false,[.t 7],none,[2]⟩,⟨some 9,.bin .neq,[.t 6,.t 8],none,[1,3]⟩]) (.cond (.t 9) (.seq (.ops false [⟨some 10,.fadr 0,[.t 2],none,[]⟩,⟨some 11,.load 1 false,[.t 10],none,[0]⟩,⟨some 12,.fadr 0,[.t 3],none,[]⟩,⟨some 13,.load 1 false,[.t 12],none,[2]⟩,⟨some 14,.bin .lss,[.t 11,.t 13],none,[1,3]⟩,⟨some 4,.mv,[.t 14],none,[4,0,1,2,3,4]⟩]) .ret) .skip)) (.seq (.seq (.ops false [⟨some 15,.fadr 1,[.t 2],none,[]⟩,⟨some 16,.load 1 false,[.t 15],none,[0]⟩,⟨some 17,.fadr 1,[.t 3],none,[]⟩,⟨some 18,.load 1 false,[.t 17],none,[2]⟩,⟨some 19,.bin .neq,[.t 16,.t 18],none,[1,3]⟩]) (.cond (.t 19) (.seq (.ops false [⟨some 20,.fadr 1,[.t 2],none,[]⟩,⟨some 21,.load 1 false,[.t 20],none,[0]⟩,⟨some 22,.fadr 1,[.t 3],none,[]⟩,⟨some 23,.load 1 false,[.t 22],none,[2]⟩,⟨some 24,.bin .lss,[.t 21,.t 23],none,[1,3]⟩,⟨some 4,.mv,[.t 24],none,[4,0,1,2,3,4]⟩]) .ret) .skip)) (.seq (.ops false [⟨some 25,.fadr 6,[.t 2],none,[]⟩,⟨some 26,.load 1 false,[.t 25],none,[0]⟩,⟨some 27,.fadr 6,[.t 3],none,[]⟩,⟨some 28,.load 1 false,[.t 27],none,[2]⟩,⟨some 29,.bin .lss,[.t 26,.t 28],none,[1,3]⟩,⟨some 4,.mv,[.t 29],none,[4,0,1,2,3,4]⟩]) .ret)))
def rs121 : List RV := [.tmp 4]
theorem fact121 : compF Tryz.prog 121 = some (ac121,rs121,30) := by kernel_rfl
def ac69 : AC := .seq (.ops false [⟨some 4,.mv,[.c .nilsl],none,[]⟩]) (.seq (.ops false [⟨some 9,.bslice 74 7 (.agg [(.i .i64 0),(.s (bs [])),(.s (bs [])),(.i .i64 0),(.i .i64 0),(.i .i64 0),(.s (bs []))]) 0 [],[],none,[]⟩,⟨some 10,.mv,[.t 0],none,[]⟩,⟨some 11,.app 74 7 80,[.t 9,.t 10],none,[0,1]⟩,⟨some 12,.mv,[.t 1],none,[]⟩,⟨some 13,.app 74 7 80,[.t 11,.t 12],none,[2,3,2]⟩,⟨some 5,.mv,[.t 13],none,[4,4,0,1,2,3,4]⟩]) (.seq (.ops false [⟨some 6,.mv,[.c .nilsl],none,[]⟩]) (.seq (.seq (.ops false [⟨some 7,.mv,[.c (.i .i64 0)],none,[]⟩]) (.block 0 (.loop (.seq (.seq (.ops false [⟨some 14,.mv,[.t 7],none,[]⟩,⟨some 15,.mv,[.t 5],none,[]⟩,⟨some 16,.len false,[.t 15],none,[1]⟩,⟨some 17,.bin .lss,[.t 14,.t 16],none,[0,2]⟩]) (.cond (.t 17) .skip (.exit 0))) (.seq (.block 1 (.seq (.ops false [⟨some 20,.mv,[.t 6],none,[]⟩,⟨some 21,.len false,[.t 20],none,[0]⟩,⟨some 8,.mv,[.t 21],none,[1,0,1]⟩]) (.seq (.block 2 (.loop (.seq (.seq (.ops true [⟨some 22,.mv,[.t 8],none,[]⟩,⟨some 23,.bin .gtr,[.t 22,.c (.i .i64 0)],none,[0]⟩,⟨some 24,.mv,[.t 23],none,[1]⟩,⟨some 25,.mv,[.t 5],some (24,true),[2]⟩,⟨some 26,.mv,[.t 7],some (24,true),[2]⟩,⟨some 27,.iadrS 7,[.t 25,.t 26],some (24,true),[3,4,2]⟩,⟨some 28,.load 7 true,[.t 27],some (24,true),[5,2]⟩,⟨some 29,.mv,[.t 6],some (24,true),[2]⟩,⟨some 30,.mv,[.t 8],some (24,true),[2]⟩,⟨some 31,.bin .sub,[.t 30,.c (.i .i64 1)],some (24,true),[8,2]⟩,⟨some 32,.iadrS 7,[.t 29,.t 31],some (24,true),[7,9,2]⟩,⟨some 33,.load 7 true,[.t 32],some (24,true),[10,2]⟩,⟨some 34,.call 121,[.t 28,.t 33],some (24,true),[6,11,2,2]⟩,⟨some 35,.pick,[.t 24,.t 34,.c (.b false)],none,[2,12]⟩]) (.cond (.t 35) .skip (.exit 2))) (.block 3 (.ops false [⟨some 36,.mv,[.t 8],none,[]⟩,⟨some 37,.bin .sub,[.t 36,.c (.i .i64 1)],none,[0]⟩,⟨some 8,.mv,[.t 37],none,[1,0,1]⟩]))))) (.ops true [⟨some 38,.bslice 74 7 (.agg [(.i .i64 0),(.s (bs [])),(.s (bs [])),(.i .i64 0),(.i .i64 0),(.i .i64 0),(.s (bs []))]) 0 [],[],none,[]⟩,⟨some 39,.mv,[.t 6],none,[]⟩,⟨some 40,.mv,[.t 8],none,[]⟩,⟨some 41,.sliceL 7 false true,[.t 39,.t 40],none,[1,2]⟩,⟨some 42,.app 74 7 80,[.t 38,.t 41],none,[0,3]⟩,⟨some 43,.mv,[.t 5],none,[]⟩,⟨some 44,.mv,[.t 7],none,[]⟩,⟨some 45,.iadrS 7,[.t 43,.t 44],none,[5,6]⟩,⟨some 46,.load 7 true,[.t 45],none,[7]⟩,⟨some 47,.bslice 74 7 (.agg [(.i .i64 0),(.s (bs [])),(.s (bs [])),(.i .i64 0),(.i .i64 0),(.i .i64 0),(.s (bs []))]) 1 [0],[.t 46],none,[8]⟩,⟨some 48,.app 74 7 80,[.t 42,.t 47],none,[4,9,4]⟩,⟨some 49,.mv,[.t 6],none,[]⟩,⟨some 50,.mv,[.t 8],none,[]⟩,⟨some 51,.sliceL 7 true false,[.t 49,.t 50],none,[11,12]⟩,⟨some 52,.app 74 7 80,[.t 48,.t 51],none,[10,13,10]⟩,⟨some 6,.mv,[.t 52],none,[14,14,0,1,2,3,4,5,6,7,8,9,10,11,12,13,14]⟩])))) (.ops false [⟨some 18,.mv,[.t 7],none,[]⟩,⟨some 19,.bin .add,[.t 18,.c (.i .i64 1)],none,[0]⟩,⟨some 7,.mv,[.t 19],none,[1,0,1]⟩])))))) (.seq (.ops false [⟨some 53,.mv,[.t 6],none,[]⟩,⟨some 4,.mv,[.t 53],none,[0,0]⟩]) .ret))))
def rs69 : List RV := [.tmp 4]
theorem fact69 : compF Tryz.prog 69 = some (ac69,rs69,54) := by kernel_rfl
theorem pure121 (a b : Mov) : Pure Tryz.prog 121 [a.pv, b.pv] (.b (befM a b)) := by
  refine pure_by fact121 (by simp) fun hw X hX => ?_
  unfold ac121 rs121
  by_cases h1 : a.moment = b.moment
  · by_cases h2 : a.kind = b.kind
    · have h1' := eq_true h1
      have h2' := eq_true h2
      have qe := And.intro @h1' @h2'; repeat' first | (show Run _ (.cond _ _ _) _ _; refine run_condX (fun hc => ?_) (fun hc => ?_) <;> (try simp only [qH, rng_0] at hc) <;> try contradiction) | (first | refine Stp.h ?_ | (show ∀ K : St → List Ft → Prop, _; intro K hK) | (show runS _ _ _ _ _; first | refine qY (hq := ?_) | refine qZ (hq := ?_)) | (refine hK _ _ ?_; clear hK K) | (refine hK _ _ rfl ?_; clear hK K) | (refine qZ (hq := ?_); try exact trivial) | omega)
      rw [befM, if_pos h1, if_pos h2]; exact .refl _
    · have h1' := eq_true h1
      have h2' := eq_false h2
      have qe := And.intro @h1' @h2'; repeat' first | (show Run _ (.cond _ _ _) _ _; refine run_condX (fun hc => ?_) (fun hc => ?_) <;> (try simp only [qH, rng_0] at hc) <;> try contradiction) | (first | refine Stp.h ?_ | (show ∀ K : St → List Ft → Prop, _; intro K hK) | (show runS _ _ _ _ _; first | refine qY (hq := ?_) | refine qZ (hq := ?_)) | (refine hK _ _ ?_; clear hK K) | (refine hK _ _ rfl ?_; clear hK K) | (refine qZ (hq := ?_); try exact trivial) | omega)
      rw [befM, if_pos h1, if_neg h2]; exact .refl _
  · have h1' := eq_false h1
    have qe := @h1'; repeat' first | (show Run _ (.cond _ _ _) _ _; refine run_condX (fun hc => ?_) (fun hc => ?_) <;> (try simp only [qH, rng_0] at hc) <;> try contradiction) | (first | refine Stp.h ?_ | (show ∀ K : St → List Ft → Prop, _; intro K hK) | (show runS _ _ _ _ _; first | refine qY (hq := ?_) | refine qZ (hq := ?_)) | (refine hK _ _ ?_; clear hK K) | (refine hK _ _ rfl ?_; clear hK K) | (refine qZ (hq := ?_); try exact trivial) | omega)
    rw [befM, if_neg h1]; exact .refl _
theorem ins_stop {x : Mov} {out : List Mov} {q : Nat} {y : Mov} (hy : out[q]? = some y) (hb : befM x y = false) : insAt befM x out (q + 1) = q + 1 := by
  simp only [insAt, hy]; rw [if_neg (by simp [hb])]
theorem ins_go {x : Mov} {out : List Mov} {q : Nat} {y : Mov} (hy : out[q]? = some y) (hb : befM x y = true) : insAt befM x out (q + 1) = insAt befM x out q := by
  simp only [insAt, hy]; rw [if_pos hb]
theorem ins_pv {l : List Mov} {k q : Nat} {x : Mov} (hx : l[k]? = some x) (h : q = insAt befM x (mgK l k) k) : ((mgK l k).map Mov.pv).take q ++ x.pv :: ((mgK l k).map Mov.pv).drop q = (mgK l (k + 1)).map Mov.pv := by
  have hk : k ≤ l.length := Nat.le_of_lt (List.getElem?_eq_some_iff.1 hx).1
  rw [mgK_next hx, insM, mgK_len hk, ← h]; simp
theorem mgT {l : List Mov} {k q : Nat} (hk : k ≤ l.length) (hq : q ≤ k) : (((mgK l k).map Mov.pv).take q).length = q ∧ (((mgK l k).map Mov.pv).drop q).length = k - q ∧ ((((mgK l k).map Mov.pv).take q).all (fun x => x.cells.all PV.one) = true) = True ∧ ((((mgK l k).map Mov.pv).drop q).all (fun x => x.cells.all PV.one) = true) = True := by
  have h := mgK_len hk
  have ha : ((mgK l k).map Mov.pv).all (fun x => x.cells.all PV.one) = true := by rw [List.all_map]; exact allMv _
  exact ⟨by simp; omega, by simp; omega, eq_true (allTk ha), eq_true (allDr ha)⟩
theorem pure69 (a b : List Mov) (hn : a.length + b.length ≤ 1000000) : Pure Tryz.prog 69 [.sl 7 (a.map Mov.pv), .sl 7 (b.map Mov.pv)] (.sl 7 ((mergeM befM a b).map Mov.pv)) := by
  refine pure_by fact69 (by simp) fun hw X hX => ?_
  unfold ac69 rs69
  have hl : (a ++ b).length = a.length + b.length := List.length_append
  have hA := fun l => eq_true (allMv l)
  have qe := And.intro qR @hA; repeat' first | (show Run _ (.cond _ _ _) _ _; refine run_condX (fun hc => ?_) (fun hc => ?_) <;> (try simp only [qH, rng_0] at hc) <;> try contradiction) | (first | refine Stp.h ?_ | (show ∀ K : St → List Ft → Prop, _; intro K hK) | (show runS _ _ _ _ _; first | refine qY (hq := ?_) | refine qZ (hq := ?_)) | (refine hK _ _ ?_; clear hK K) | (refine hK _ _ rfl ?_; clear hK K) | (refine qZ (hq := ?_); try exact trivial) | omega)
  refine run_loopP (κ := Nat) (fun k => ⟨[(5, .p (.sl 7 ((a ++ b).map Mov.pv))), (6, .p (.sl 7 ((mgK (a ++ b) k).map Mov.pv))), (7, .p (.i .i64 k))], [], [], false⟩) (fun k => k ≤ (a ++ b).length) (fun k => (a ++ b).length - k) 0 ?_ ?_ ?_
  · refine .x 5 (.sl 7 ((a ++ b).map Mov.pv)) ?_ (hw := weakE (by simp))
    refine .x 6 (.sl 7 []) ?_
    exact .cov (by simp only [qS, Nat.reduceAdd, Nat.reduceMul, Nat.reduceEqDiff, Nat.reduceLeDiff, reduceIte, reduceCtorEq, Nat.reduceBEq, Nat.reduceLT] <;> simp [mgK])
  · simp
  · intro k hk
    have hkl := mgK_len hk
    by_cases hlt : k < (a ++ b).length
    · obtain ⟨x, hx⟩ := some_at (i := k) (l := a ++ b) (by omega)
      have qe := And.intro qR (And.intro @hA (And.intro @hx (And.intro @hkl @hl))); repeat' first | (show Run _ (.cond _ _ _) _ _; refine run_condX (fun hc => ?_) (fun hc => ?_) <;> (try simp only [qH, rng_0] at hc) <;> try contradiction) | (first | refine Stp.h ?_ | (show ∀ K : St → List Ft → Prop, _; intro K hK) | (show runS _ _ _ _ _; first | refine qY (hq := ?_) | refine qZ (hq := ?_)) | (refine hK _ _ ?_; clear hK K) | (refine hK _ _ rfl ?_; clear hK K) | (refine qZ (hq := ?_); try exact trivial) | omega)
      refine run_loop (κ := Nat) (fun q => ⟨[(5, .p (.sl 7 ((a ++ b).map Mov.pv))), (6, .p (.sl 7 ((mgK (a ++ b) k).map Mov.pv))), (7, .p (.i .i64 k)), (8, .p (.i .i64 q))], [], [], false⟩) (fun q => q ≤ k ∧ insAt befM x (mgK (a ++ b) k) q = insAt befM x (mgK (a ++ b) k) k) (fun q => q) k ?_ ?_ ?_
      · simp only [qS, Nat.reduceAdd, Nat.reduceMul, Nat.reduceEqDiff, Nat.reduceLeDiff, reduceIte, reduceCtorEq, Nat.reduceBEq, Nat.reduceLT] <;> simp
      · simp
      · intro q hq
        cases q with
        | zero =>
          obtain ⟨hT1, hT2, hT3, hT4⟩ := mgT (l := a ++ b) (k := k) (q := 0) (by omega) (by omega)
          have i0 : (0 < ((0 : Nat) : Int)) = False := eq_false (by omega)
          have qe := And.intro qR (And.intro @hA (And.intro @hx (And.intro @i0 (And.intro @hT1 (And.intro @hT2 (And.intro @hT3 (And.intro @hT4 (And.intro @hkl (And.intro @hl (And.intro @lpN (And.intro @lpE @lpR))))))))))); repeat' first | (show Run _ (.cond _ _ _) _ _; refine run_condX (fun hc => ?_) (fun hc => ?_) <;> (try simp only [qH, rng_0] at hc) <;> try contradiction) | (show RunOps _ _ _ _ (⟨_, .call _, _, _, _⟩ :: _) _ _; refine run_callGX (hf := fun hc => (by first | exact (absurd hc (by decide) : Pure Tryz.prog 121 _ (.b false)) | (simp only [qH, rng_0] at hc; exact (absurd hc (by decide) : Pure Tryz.prog 121 _ (.b false))))) (hn := ?_)) | (first | refine Stp.h ?_ | (show ∀ K : St → List Ft → Prop, _; intro K hK) | (show runS _ _ _ _ _; first | refine qY (hq := ?_) | refine qZ (hq := ?_)) | (refine hK _ _ ?_; clear hK K) | (refine hK _ _ rfl ?_; clear hK K) | (refine qZ (hq := ?_); try exact trivial) | omega)
          refine ⟨k + 1, by omega, by dsimp only; omega, .x 6 (.sl 7 ((mgK (a ++ b) (k + 1)).map Mov.pv)) ?_ (hw := weakE (by rw [← ins_pv hx (show 0 = _ from hq.2)]; simp))⟩
          exact .cov (by simp only [qS, Nat.reduceAdd, Nat.reduceMul, Nat.reduceEqDiff, Nat.reduceLeDiff, reduceIte, reduceCtorEq, Nat.reduceBEq, Nat.reduceLT] <;> simp)
        | succ q =>
          obtain ⟨y, hy⟩ := some_at (i := q) (l := mgK (a ++ b) k) (by omega)
          have i0 : (0 < ((q + 1 : Nat) : Int)) = True := eq_true (by omega)
          have i1 : ((q + 1 : Nat) : Int) - 1 = (q : Int) := by omega
          obtain ⟨hT1, hT2, hT3, hT4⟩ := mgT (l := a ++ b) (k := k) (q := q + 1) (by omega) (by omega)
          cases hb : befM x y with
          | true =>
            have h0 := ins_go hy hb
            have qe := And.intro qR (And.intro @hA (And.intro @hx (And.intro @hy (And.intro @hb (And.intro @i0 (And.intro @i1 (And.intro @hT1 (And.intro @hT2 (And.intro @hT3 (And.intro @hT4 (And.intro @hkl (And.intro @hl (And.intro @lpN (And.intro @lpE @lpR)))))))))))))); repeat' first | (show Run _ (.cond _ _ _) _ _; refine run_condX (fun hc => ?_) (fun hc => ?_) <;> (try simp only [qH, rng_0] at hc) <;> try contradiction) | (show RunOps _ _ _ _ (⟨_, .call 121, _, _, _⟩ :: _) _ _; refine run_callGX (hf := fun hc => (by first | exact pure121 x y | (simp only [qH, rng_0] at hc; exact pure121 x y))) (hn := ?_)) | (first | refine Stp.h ?_ | (show ∀ K : St → List Ft → Prop, _; intro K hK) | (show runS _ _ _ _ _; first | refine qY (hq := ?_) | refine qZ (hq := ?_)) | (refine hK _ _ ?_; clear hK K) | (refine hK _ _ rfl ?_; clear hK K) | (refine qZ (hq := ?_); try exact trivial) | omega)
            exact ⟨q, ⟨by omega, by rw [← h0]; exact hq.2⟩, by omega, rfl⟩
          | false =>
            have h0 := ins_stop hy hb
            have qe := And.intro qR (And.intro @hA (And.intro @hx (And.intro @hy (And.intro @hb (And.intro @i0 (And.intro @i1 (And.intro @hT1 (And.intro @hT2 (And.intro @hT3 (And.intro @hT4 (And.intro @hkl (And.intro @hl (And.intro @lpN (And.intro @lpE @lpR)))))))))))))); repeat' first | (show Run _ (.cond _ _ _) _ _; refine run_condX (fun hc => ?_) (fun hc => ?_) <;> (try simp only [qH, rng_0] at hc) <;> try contradiction) | (show RunOps _ _ _ _ (⟨_, .call 121, _, _, _⟩ :: _) _ _; refine run_callGX (hf := fun hc => (by first | exact pure121 x y | (simp only [qH, rng_0] at hc; exact pure121 x y))) (hn := ?_)) | (first | refine Stp.h ?_ | (show ∀ K : St → List Ft → Prop, _; intro K hK) | (show runS _ _ _ _ _; first | refine qY (hq := ?_) | refine qZ (hq := ?_)) | (refine hK _ _ ?_; clear hK K) | (refine hK _ _ rfl ?_; clear hK K) | (refine qZ (hq := ?_); try exact trivial) | omega)
            refine ⟨k + 1, by omega, by dsimp only; omega, .x 6 (.sl 7 ((mgK (a ++ b) (k + 1)).map Mov.pv)) ?_ (hw := weakE (by rw [← ins_pv hx (h0.symm.trans hq.2)]; simp))⟩
            exact .cov (by simp only [qS, Nat.reduceAdd, Nat.reduceMul, Nat.reduceEqDiff, Nat.reduceLeDiff, reduceIte, reduceCtorEq, Nat.reduceBEq, Nat.reduceLT] <;> simp)
    · have qe := And.intro qR (And.intro @hA (And.intro @hkl (And.intro @hl (And.intro @lpN (And.intro @lpE @lpR))))); repeat' first | (show Run _ (.cond _ _ _) _ _; refine run_condX (fun hc => ?_) (fun hc => ?_) <;> (try simp only [qH, rng_0] at hc) <;> try contradiction) | (first | refine Stp.h ?_ | (show ∀ K : St → List Ft → Prop, _; intro K hK) | (show runS _ _ _ _ _; first | refine qY (hq := ?_) | refine qZ (hq := ?_)) | (refine hK _ _ ?_; clear hK K) | (refine hK _ _ rfl ?_; clear hK K) | (refine qZ (hq := ?_); try exact trivial) | omega)
      have e : k = (a ++ b).length := by omega
      have e2 : mgK (a ++ b) (a ++ b).length = mergeM befM a b := by rw [mgK, List.take_length]; rfl
      subst e; rw [e2]; exact .refl _
end Go.Proofs.YtcfbdeghmckelaaGreat
