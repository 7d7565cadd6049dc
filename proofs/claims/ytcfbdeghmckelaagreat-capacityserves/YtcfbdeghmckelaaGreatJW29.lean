/- Contracts of functions that the proof uses, shared by the claims of this seat; no statement of its own. Part 41. No conditions. -/
import Derived.Test.YtcfbdeghmckelaaGreatJW26
set_option linter.all false
namespace Go.Proofs.YtcfbdeghmckelaaGreat
open Go.RowKit
set_option maxRecDepth 100000
set_option linter.unusedVariables false
set_option linter.unusedSimpArgs false
set_option maxHeartbeats 4000000
def ac143 : AC := .seq (.ops false [⟨some 2,.mv,[.c (.b false)],none,[]⟩]) (.seq (.ops false [⟨some 3,.mv,[.t 0],none,[]⟩,⟨some 4,.mv,[.t 0],none,[]⟩,⟨some 5,.bin .neq,[.t 3,.t 4],none,[0,1]⟩,⟨some 2,.mv,[.t 5],none,[2,0,1,2]⟩]) .ret)
def rs143 : List RV := [.tmp 2]
theorem fact143 : compF Tryz.prog 143 = some (ac143,rs143,6) := by kernel_rfl
def ac115 : AC := .seq (.ops false [⟨some 2,.mv,[.c (.i .i64 0)],none,[]⟩]) (.seq (.ops false [⟨some 3,.mv,[.c (.i .i64 0)],none,[]⟩]) (.seq (.seq (.ops false [⟨some 6,.mv,[.t 0],none,[]⟩,⟨some 7,.len false,[.t 6],none,[0]⟩,⟨some 8,.mv,[.c (.i .i64 0)],none,[]⟩]) (.block 0 (.loop (.seq (.ops false [⟨some 9,.bin .lss,[.t 8,.t 7],none,[]⟩]) (.seq (.cond (.t 9) .skip (.exit 0)) (.seq (.block 1 (.seq (.ops false [⟨some 10,.iadrS 1,[.t 6,.t 8],none,[]⟩,⟨some 11,.load 1 false,[.t 10],none,[0]⟩,⟨some 5,.mv,[.t 11],none,[1,0,1]⟩]) (.seq (.ops false [⟨some 12,.mv,[.t 5],none,[]⟩,⟨some 13,.mv,[.t 3],none,[]⟩,⟨some 14,.bin .neq,[.t 12,.t 13],none,[0,1]⟩]) (.cond (.t 14) (.seq (.ops false [⟨some 15,.mv,[.t 5],none,[]⟩,⟨some 2,.mv,[.t 15],none,[0,0]⟩]) .ret) .skip)))) (.ops false [⟨some 16,.bin .add,[.t 8,.c (.i .i64 1)],none,[]⟩,⟨some 8,.mv,[.t 16],none,[0]⟩]))))))) (.seq (.ops false [⟨some 17,.mv,[.t 3],none,[]⟩,⟨some 2,.mv,[.t 17],none,[0,0]⟩]) .ret)))
def rs115 : List RV := [.tmp 2]
theorem fact115 : compF Tryz.prog 115 = some (ac115,rs115,18) := by kernel_rfl
def ac116 : AC := .seq (.ops false [⟨some 4,.mv,[.c (.i .i64 0)],none,[]⟩]) (.seq (.ops false [⟨some 7,.mv,[.t 0],none,[]⟩,⟨some 8,.call 142,[.t 7],none,[0]⟩,⟨some 5,.mv,[.t 8],none,[1,1,0,1]⟩]) (.seq (.ops false [⟨some 9,.mv,[.t 1],none,[]⟩,⟨some 10,.call 142,[.t 9],none,[0]⟩,⟨some 6,.mv,[.t 10],none,[1,1,0,1]⟩]) (.seq (.seq (.ops false [⟨some 11,.mv,[.t 5],none,[]⟩]) (.cond (.t 11) (.seq (.seq (.ops false [⟨some 12,.mv,[.t 6],none,[]⟩]) (.cond (.t 12) (.seq (.ops false [⟨some 4,.mv,[.c (.i .i64 0)],none,[]⟩]) .ret) .skip)) (.seq (.ops false [⟨some 4,.mv,[.c (.i .i64 (-1))],none,[]⟩]) .ret)) .skip)) (.seq (.seq (.ops false [⟨some 13,.mv,[.t 6],none,[]⟩]) (.cond (.t 13) (.seq (.ops false [⟨some 4,.mv,[.c (.i .i64 1)],none,[]⟩]) .ret) .skip)) (.seq (.seq (.ops false [⟨some 14,.mv,[.t 0],none,[]⟩,⟨some 15,.mv,[.t 1],none,[]⟩,⟨some 16,.bin .lss,[.t 14,.t 15],none,[0,1]⟩]) (.cond (.t 16) (.seq (.ops false [⟨some 4,.mv,[.c (.i .i64 (-1))],none,[]⟩]) .ret) .skip)) (.seq (.seq (.ops false [⟨some 17,.mv,[.t 0],none,[]⟩,⟨some 18,.mv,[.t 1],none,[]⟩,⟨some 19,.bin .gtr,[.t 17,.t 18],none,[0,1]⟩]) (.cond (.t 19) (.seq (.ops false [⟨some 4,.mv,[.c (.i .i64 1)],none,[]⟩]) .ret) .skip)) (.seq (.ops false [⟨some 4,.mv,[.c (.i .i64 0)],none,[]⟩]) .ret)))))))
def rs116 : List RV := [.tmp 4]
theorem fact116 : compF Tryz.prog 116 = some (ac116,rs116,20) := by kernel_rfl
def ac117 : AC := .seq (.ops false [⟨some 4,.mv,[.c (.i .i64 0)],none,[]⟩]) (.seq (.ops false [⟨some 7,.mv,[.t 0],none,[]⟩,⟨some 8,.call 143,[.t 7],none,[0]⟩,⟨some 5,.mv,[.t 8],none,[1,1,0,1]⟩]) (.seq (.ops false [⟨some 9,.mv,[.t 1],none,[]⟩,⟨some 10,.call 143,[.t 9],none,[0]⟩,⟨some 6,.mv,[.t 10],none,[1,1,0,1]⟩]) (.seq (.seq (.ops false [⟨some 11,.mv,[.t 5],none,[]⟩]) (.cond (.t 11) (.seq (.seq (.ops false [⟨some 12,.mv,[.t 6],none,[]⟩]) (.cond (.t 12) (.seq (.ops false [⟨some 4,.mv,[.c (.i .i64 0)],none,[]⟩]) .ret) .skip)) (.seq (.ops false [⟨some 4,.mv,[.c (.i .i64 (-1))],none,[]⟩]) .ret)) .skip)) (.seq (.seq (.ops false [⟨some 13,.mv,[.t 6],none,[]⟩]) (.cond (.t 13) (.seq (.ops false [⟨some 4,.mv,[.c (.i .i64 1)],none,[]⟩]) .ret) .skip)) (.seq (.seq (.ops false [⟨some 14,.mv,[.t 0],none,[]⟩,⟨some 15,.mv,[.t 1],none,[]⟩,⟨some 16,.bin .lss,[.t 14,.t 15],none,[0,1]⟩]) (.cond (.t 16) (.seq (.ops false [⟨some 4,.mv,[.c (.i .i64 (-1))],none,[]⟩]) .ret) .skip)) (.seq (.seq (.ops false [⟨some 17,.mv,[.t 0],none,[]⟩,⟨some 18,.mv,[.t 1],none,[]⟩,⟨some 19,.bin .gtr,[.t 17,.t 18],none,[0,1]⟩]) (.cond (.t 19) (.seq (.ops false [⟨some 4,.mv,[.c (.i .i64 1)],none,[]⟩]) .ret) .skip)) (.seq (.ops false [⟨some 4,.mv,[.c (.i .i64 0)],none,[]⟩]) .ret)))))))
def rs117 : List RV := [.tmp 4]
theorem fact117 : compF Tryz.prog 117 = some (ac117,rs117,20) := by kernel_rfl
def ac114 : AC := .seq (.ops false [⟨some 2,.box,[.t 0],none,[]⟩,⟨some 3,.box,[.t 1],none,[]⟩,⟨some 4,.mv,[.c (.i .i64 0)],none,[]⟩]) (.seq (.ops true [⟨some 5,.fadr 0,[.t 2],none,[]⟩,⟨some 6,.load 1 false,[.t 5],none,[0]⟩,⟨some 7,.fadr 0,[.t 3],none,[]⟩,⟨some 8,.load 1 false,[.t 7],none,[2]⟩,⟨some 9,.call 116,[.t 6,.t 8],none,[1,3]⟩,⟨some 10,.fadr 1,[.t 2],none,[]⟩,⟨some 11,.load 1 false,[.t 10],none,[5]⟩,⟨some 12,.fadr 1,[.t 3],none,[]⟩,⟨some 13,.load 1 false,[.t 12],none,[7]⟩,⟨some 14,.call 117,[.t 11,.t 13],none,[6,8,4]⟩,⟨some 15,.fadr 6,[.t 2],none,[]⟩,⟨some 16,.load 1 false,[.t 15],none,[10]⟩,⟨some 17,.fadr 6,[.t 3],none,[]⟩,⟨some 18,.load 1 false,[.t 17],none,[12]⟩,⟨some 19,.call 117,[.t 16,.t 18],none,[11,13,9]⟩,⟨some 20,.bslice 3 1 (.i .i64 0) 3 [0,1,2],[.t 9,.t 14,.t 19],none,[4,9,14]⟩,⟨some 21,.call 115,[.t 20],none,[15,14]⟩,⟨some 4,.mv,[.t 21],none,[16,16,0,1,2,3,4,5,6,7,8,9,10,11,12,13,14,15,16]⟩]) .ret)
def rs114 : List RV := [.tmp 4]
theorem fact114 : compF Tryz.prog 114 = some (ac114,rs114,22) := by kernel_rfl
def ac112 : AC := .seq (.ops false [⟨some 2,.mv,[.c .nilsl],none,[]⟩]) (.seq (.seq (.ops false [⟨some 3,.mv,[.t 0],none,[]⟩,⟨some 4,.isnil false,[.t 3],none,[0]⟩]) (.cond (.t 4) (.seq (.ops false [⟨some 2,.mv,[.c .nilsl],none,[]⟩]) .ret) .skip)) (.seq (.ops false [⟨some 5,.bslice 74 7 (.agg [(.i .i64 0),(.s (bs [])),(.s (bs [])),(.i .i64 0),(.i .i64 0),(.i .i64 0),(.s (bs []))]) 0 [],[],none,[]⟩,⟨some 6,.mv,[.t 0],none,[]⟩,⟨some 7,.app 74 7 80,[.t 5,.t 6],none,[0,1]⟩,⟨some 2,.mv,[.t 7],none,[2,2,0,1,2]⟩]) .ret))
def rs112 : List RV := [.tmp 2]
theorem fact112 : compF Tryz.prog 112 = some (ac112,rs112,8) := by kernel_rfl
def cmpI (x y : Int) : Int := if x < y then -1 else if y < x then 1 else 0
def cmpS (x y : ByteArray) : Int := if Op.bytesLess x.toList y.toList = true then -1 else if x = y then 0 else 1
def cmpM (a b : Mov) : Int := firstE [cmpI a.moment b.moment, cmpS a.kind b.kind, cmpS a.name b.name]
theorem pure143 (x : ByteArray) : Pure Tryz.prog 143 [.s x] (.b false) := by
  refine pure_by fact143 (by simp) fun hw X hX => ?_
  unfold ac143 rs143
  have qe := @neS_self; repeat' first | (show Run _ (.cond _ _ _) _ _; refine run_condX (fun hc => ?_) (fun hc => ?_) <;> (try simp only [qH, rng_0] at hc) <;> try contradiction) | (first | refine Stp.h ?_ | (show ∀ K : St → List Ft → Prop, _; intro K hK) | (show runS _ _ _ _ _; first | refine qY (hq := ?_) | refine qZ (hq := ?_)) | (refine hK _ _ ?_; clear hK K) | (refine hK _ _ rfl ?_; clear hK K) | (refine qZ (hq := ?_); try exact trivial) | omega)
  exact .refl _
theorem pure116 (x y : Int) : Pure Tryz.prog 116 [.i .i64 x, .i .i64 y] (.i .i64 (cmpI x y)) := by
  refine pure_by fact116 (by simp) fun hw X hX => ?_
  unfold ac116 rs116
  repeat' first | (show Run _ (.cond _ _ _) _ _; refine run_condX (fun hc => ?_) (fun hc => ?_) <;> (try simp only [qH, rng_0] at hc) <;> try contradiction) | (show RunOps _ _ _ _ (⟨_, .call 142, _, _, _⟩ :: _) _ _; refine run_callX (hf := pure142 _) (hn := ?_)) | (first | refine Stp.h ?_ | (show ∀ K : St → List Ft → Prop, _; intro K hK) | (show runS _ _ _ _ _; first | refine qY (hq := ?_) | refine qZ (hq := ?_)) | (refine hK _ _ ?_; clear hK K) | (refine hK _ _ rfl ?_; clear hK K) | (refine qZ (hq := ?_); try exact trivial) | omega)
  · rw [cmpI, if_pos hc]; exact .refl _
  · rw [cmpI, if_neg (by omega), if_pos hc]; exact .refl _
  · rw [cmpI, if_neg (by omega), if_neg (by omega)]; exact .refl _
theorem pure117 (x y : ByteArray) : Pure Tryz.prog 117 [.s x, .s y] (.i .i64 (cmpS x y)) := by
  refine pure_by fact117 (by simp) fun hw X hX => ?_
  unfold ac117 rs117
  repeat' first | (show Run _ (.cond _ _ _) _ _; refine run_condX (fun hc => ?_) (fun hc => ?_) <;> (try simp only [qH, rng_0] at hc) <;> try contradiction) | (show RunOps _ _ _ _ (⟨_, .call 143, _, _, _⟩ :: _) _ _; refine run_callX (hf := pure143 _) (hn := ?_)) | (first | refine Stp.h ?_ | (show ∀ K : St → List Ft → Prop, _; intro K hK) | (show runS _ _ _ _ _; first | refine qY (hq := ?_) | refine qZ (hq := ?_)) | (refine hK _ _ ?_; clear hK K) | (refine hK _ _ rfl ?_; clear hK K) | (refine qZ (hq := ?_); try exact trivial) | omega)
  · rw [cmpS, if_pos hc]; exact .refl _
  · rw [cmpS, if_neg (by rw [hc.1]; simp), if_neg hc.2]; exact .refl _
  · rename_i h1
    rw [cmpS, if_neg (by rw [h1]; simp), if_pos (hc.resolve_left (by rw [h1]; simp))]; exact .refl _
theorem pure115 (l : List Int) : Pure Tryz.prog 115 [.sl 1 (l.map (.i .i64))] (.i .i64 (firstE l)) := by
  refine pure_by fact115 (by simp) fun hw X hX => ?_
  unfold ac115 rs115
  simp only [wfs, PV.wf, List.length_map, maxLen] at hw
  repeat' first | (show Run _ (.cond _ _ _) _ _; refine run_condX (fun hc => ?_) (fun hc => ?_) <;> (try simp only [qH, rng_0] at hc) <;> try contradiction) | (first | refine Stp.h ?_ | (show ∀ K : St → List Ft → Prop, _; intro K hK) | (show runS _ _ _ _ _; first | refine qY (hq := ?_) | refine qZ (hq := ?_)) | (refine hK _ _ ?_; clear hK K) | (refine hK _ _ rfl ?_; clear hK K) | (refine qZ (hq := ?_); try exact trivial) | omega)
  refine run_loop (κ := Nat) (fun i => ⟨[(3, .p (.i .i64 0)), (6, .p (.sl 1 (l.map (.i .i64)))), (7, .p (.i .i64 l.length)), (8, .p (.i .i64 i))], [], [], false⟩) (fun i => i ≤ l.length ∧ ∀ x ∈ l.take i, x = 0) (fun i => l.length - i) 0 ?_ ?_ ?_
  · simp only [qS, Nat.reduceAdd, Nat.reduceMul, Nat.reduceEqDiff, Nat.reduceLeDiff, reduceIte, reduceCtorEq, Nat.reduceBEq, Nat.reduceLT] <;> rfl
  · simp
  · intro i hi
    repeat (first | refine Stp.h ?_ | (show ∀ K : St → List Ft → Prop, _; intro K hK) | (show runS _ _ _ _ _; first | refine qY (hq := ?_) | refine qZ (hq := ?_)) | (refine hK _ _ ?_; clear hK K) | (refine hK _ _ rfl ?_; clear hK K) | (refine qZ (hq := ?_); try exact trivial) | omega)
    (show Run _ (.cond _ _ _) _ _; refine run_condX (fun hc => ?_) (fun hc => ?_) <;> (try simp only [qH, rng_0] at hc) <;> try contradiction)
    · obtain ⟨x, hx⟩ := some_at (i := i) (l := l) (by omega)
      have qe := @hx; repeat' first | (show Run _ (.cond _ _ _) _ _; refine run_condX (fun hc => ?_) (fun hc => ?_) <;> (try simp only [qH, rng_0] at hc) <;> try contradiction) | (first | refine Stp.h ?_ | (show ∀ K : St → List Ft → Prop, _; intro K hK) | (show runS _ _ _ _ _; first | refine qY (hq := ?_) | refine qZ (hq := ?_)) | (refine hK _ _ ?_; clear hK K) | (refine hK _ _ rfl ?_; clear hK K) | (refine qZ (hq := ?_); try exact trivial) | omega)
      · rw [firstE_at hi.2 hx hc]; exact .refl _
      · exact ⟨i + 1, ⟨by omega, take_all hi.2 hx hc⟩, by omega, by simp⟩
    · repeat' first | (show Run _ (.cond _ _ _) _ _; refine run_condX (fun hc => ?_) (fun hc => ?_) <;> (try simp only [qH, rng_0] at hc) <;> try contradiction) | (first | refine Stp.h ?_ | (show ∀ K : St → List Ft → Prop, _; intro K hK) | (show runS _ _ _ _ _; first | refine qY (hq := ?_) | refine qZ (hq := ?_)) | (refine hK _ _ ?_; clear hK K) | (refine hK _ _ rfl ?_; clear hK K) | (refine qZ (hq := ?_); try exact trivial) | omega)
      have e : i = l.length := by omega
      subst e
      rw [firstE_end hi.2]; exact .refl _
theorem pure114 (a b : Mov) : Pure Tryz.prog 114 [a.pv, b.pv] (.i .i64 (cmpM a b)) := by
  refine pure_by fact114 (by simp) fun hw X hX => ?_
  unfold ac114 rs114
  have qe := @qR; repeat' first | (show Run _ (.cond _ _ _) _ _; refine run_condX (fun hc => ?_) (fun hc => ?_) <;> (try simp only [qH, rng_0] at hc) <;> try contradiction) | (show RunOps _ _ _ _ (⟨_, .call 116, _, _, _⟩ :: _) _ _; refine run_callX (hf := pure116 _ _) (hn := ?_)) | (show RunOps _ _ _ _ (⟨_, .call 117, _, _, _⟩ :: _) _ _; refine run_callX (hf := pure117 _ _) (hn := ?_)) | (show RunOps _ _ _ _ (⟨_, .call 115, _, _, _⟩ :: _) _ _; refine run_callX (hf := pure115 [_, _, _]) (hn := ?_)) | (first | refine Stp.h ?_ | (show ∀ K : St → List Ft → Prop, _; intro K hK) | (show runS _ _ _ _ _; first | refine qY (hq := ?_) | refine qZ (hq := ?_)) | (refine hK _ _ ?_; clear hK K) | (refine hK _ _ rfl ?_; clear hK K) | (refine qZ (hq := ?_); try exact trivial) | omega)
  exact .refl _
theorem acts112 (L : List Mov) (hn : L.length * 80 ≤ 140737488355328) : Acts Tryz.prog 112 [.p (.sl 7 (L.map Mov.pv))] [] (.row 5 L.length) [(5, .row 74 7 (L.map Mov.pv) false)] := by
  have hA := fun l => eq_true (allMv l)
  refine acts_by fact112 (by simp) (by simp [scPs, scP]) (by simp [scObj]) trivial (by simp [scObj]) trivial fun X hX => ?_
  unfold ac112 rs112 argStL ghO
  have qe := And.intro qR (And.intro @hA (And.intro @rtN @rtR)); repeat' first | (show Run _ (.cond _ _ _) _ _; refine run_condX (fun hc => ?_) (fun hc => ?_) <;> (try simp only [qH, rng_0] at hc) <;> try contradiction) | (show RunOps _ _ _ _ (⟨_, .isnil _, _, _, _⟩ :: _) _ _; refine run_isnilX fun b hb => ?_) | (first | refine Stp.h ?_ | (show ∀ K : St → List Ft → Prop, _; intro K hK) | (show runS _ _ _ _ _; first | refine qY (hq := ?_) | refine qZ (hq := ?_)) | (refine hK _ _ ?_; clear hK K) | (refine hK _ _ rfl ?_; clear hK K) | (refine qZ (hq := ?_); try exact trivial) | omega)
  · have e : L = [] := by simpa using hb hc
    subst e
    exact .inr ⟨5, 74, 7, [(2, .row 5 0)], [], by simp only [Own, ownEnv, ownObj, nilTo, nilTos, qS, Nat.reduceAdd, Nat.reduceMul, Nat.reduceEqDiff, Nat.reduceLeDiff, reduceIte, reduceCtorEq, Nat.reduceBEq, Nat.reduceLT], .mk1⟩
  · exact .inl .mk1
end Go.Proofs.YtcfbdeghmckelaaGreat
