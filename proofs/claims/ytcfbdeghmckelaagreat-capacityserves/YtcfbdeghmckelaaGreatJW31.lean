/- Contracts of functions that the proof uses, shared by the claims of this seat; no statement of its own. Part 43. No conditions. -/
import Derived.Test.YtcfbdeghmckelaaGreatJW29
import Derived.Test.YtcfbdeghmckelaaGreatJW30
set_option linter.all false
namespace Go.Proofs.YtcfbdeghmckelaaGreat
open Go.RowKit
set_option maxRecDepth 100000
set_option linter.unusedVariables false
set_option linter.unusedSimpArgs false
set_option maxHeartbeats 4000000
def ac66 : AC := .seq (.ops false [⟨some 4,.mv,[.c .nilsl],none,[]⟩,⟨some 5,.mv,[.c (.i .i64 0)],none,[0]⟩]) (.seq (.seq (.ops false [⟨some 8,.mv,[.t 0],none,[]⟩,⟨some 9,.call 24,[.t 8],none,[0]⟩,⟨some 10,.mv,[.t 1],none,[]⟩,⟨some 11,.call 24,[.t 10],none,[2,1]⟩,⟨some 12,.mv,[.t 0],none,[]⟩,⟨some 13,.len false,[.t 12],none,[4]⟩,⟨some 14,.mv,[.t 1],none,[]⟩,⟨some 15,.len false,[.t 14],none,[6]⟩,⟨some 16,.bin .add,[.t 13,.t 15],none,[5,7]⟩,⟨some 17,.bin .gtr,[.t 16,.c (.i .i64 30000)],none,[8]⟩,⟨some 18,.call 85,[.t 17,.c (.i .i64 5)],none,[9,3]⟩,⟨some 19,.bslice 34 1 (.i .i64 0) 3 [0,1,2],[.t 9,.t 11,.t 18],none,[1,3,10]⟩,⟨some 20,.call 83,[.t 19],none,[11,10]⟩,⟨some 6,.mv,[.t 20],none,[12,12,0,1,2,3,4,5,6,7,8,9,10,11,12]⟩]) (.seq (.ops false [⟨some 21,.mv,[.t 6],none,[]⟩,⟨some 22,.bin .neq,[.t 21,.c (.i .i64 0)],none,[0]⟩]) (.cond (.t 22) (.seq (.ops false [⟨some 23,.mv,[.t 6],none,[]⟩,⟨some 4,.mv,[.c .nilsl],none,[]⟩,⟨some 5,.mv,[.t 23],none,[0,1,0,1]⟩]) .ret) .skip))) (.seq (.ops false [⟨some 24,.mv,[.t 0],none,[]⟩,⟨some 25,.call 112,[.t 24],none,[0]⟩,⟨some 26,.mv,[.t 1],none,[]⟩,⟨some 27,.app 74 7 80,[.t 25,.t 26],none,[1,2,1]⟩,⟨some 7,.mv,[.t 27],none,[3,3,0,1,2,3]⟩]) (.seq (.ops false [⟨some 28,.mv,[.t 7],none,[]⟩,⟨some 29,.call 113,[.t 28,.c (.fn (.func 114) [] [])],none,[0]⟩]) (.seq (.ops false [⟨some 30,.mv,[.t 7],none,[]⟩,⟨some 4,.mv,[.t 30],none,[0,0]⟩,⟨some 5,.mv,[.c (.i .i64 0)],none,[1,0,1]⟩]) .ret))))
def rs66 : List RV := [.tmp 4,.tmp 5]
theorem fact66 : compF Tryz.prog 66 = some (ac66,rs66,31) := by kernel_rfl
def ac119 : AC := .seq (.ops false [⟨some 4,.mv,[.c .nilsl],none,[]⟩]) (.seq (.ops false [⟨some 5,.mv,[.c .nilsl],none,[]⟩]) (.seq (.seq (.ops false [⟨some 8,.mv,[.t 0],none,[]⟩,⟨some 9,.len false,[.t 8],none,[0]⟩,⟨some 10,.mv,[.c (.i .i64 0)],none,[]⟩]) (.block 0 (.loop (.seq (.ops false [⟨some 11,.bin .lss,[.t 10,.t 9],none,[]⟩]) (.seq (.cond (.t 11) .skip (.exit 0)) (.seq (.block 1 (.seq (.ops false [⟨some 12,.iadrS 7,[.t 8,.t 10],none,[]⟩,⟨some 13,.load 7 true,[.t 12],none,[0]⟩,⟨some 7,.alloc [(.i .i64 0),(.s (bs [])),(.s (bs [])),(.i .i64 0),(.i .i64 0),(.i .i64 0),(.s (bs []))],[],none,[]⟩,⟨none,.store 7,[.t 7,.t 13],none,[2,1,0,1,2]⟩]) (.seq (.ops false [⟨some 14,.mv,[.t 1],none,[]⟩,⟨some 15,.load 7 true,[.t 7],none,[]⟩,⟨some 16,.callv,[.t 14,.t 15],none,[0,1]⟩]) (.cond (.t 16) (.ops false [⟨some 17,.mv,[.t 5],none,[]⟩,⟨some 18,.load 7 true,[.t 7],none,[]⟩,⟨some 19,.bslice 74 7 (.agg [(.i .i64 0),(.s (bs [])),(.s (bs [])),(.i .i64 0),(.i .i64 0),(.i .i64 0),(.s (bs []))]) 1 [0],[.t 18],none,[1]⟩,⟨some 20,.app 74 7 80,[.t 17,.t 19],none,[0,2]⟩,⟨some 5,.mv,[.t 20],none,[3,3,0,1,2,3]⟩]) .skip)))) (.ops false [⟨some 21,.bin .add,[.t 10,.c (.i .i64 1)],none,[]⟩,⟨some 10,.mv,[.t 21],none,[0]⟩]))))))) (.seq (.ops false [⟨some 22,.mv,[.t 5],none,[]⟩,⟨some 4,.mv,[.t 22],none,[0,0]⟩]) .ret)))
def rs119 : List RV := [.tmp 4]
theorem fact119 : compF Tryz.prog 119 = some (ac119,rs119,23) := by kernel_rfl
def ac120 : AC := .seq (.ops false [⟨some 2,.box,[.t 0],none,[]⟩,⟨some 3,.mv,[.c (.b false)],none,[]⟩]) (.seq (.ops false [⟨some 4,.fadr 6,[.t 2],none,[]⟩,⟨some 5,.load 1 false,[.t 4],none,[0]⟩,⟨some 6,.load 1 false,[.t 1],none,[]⟩,⟨some 7,.bin .neq,[.t 5,.t 6],none,[1,2]⟩,⟨some 3,.mv,[.t 7],none,[3,0,1,2,3]⟩]) .ret)
def rs120 : List RV := [.tmp 3]
theorem fact120 : compF Tryz.prog 120 = some (ac120,rs120,8) := by kernel_rfl
def ac68 : AC := .seq (.ops false [⟨some 3,.box,[.t 1],none,[]⟩,⟨some 4,.mv,[.c .nilsl],none,[]⟩,⟨some 5,.mv,[.c (.i .i64 0)],none,[1]⟩]) (.seq (.seq (.ops true [⟨some 7,.mv,[.t 0],none,[]⟩,⟨some 8,.call 24,[.t 7],none,[0]⟩,⟨some 9,.load 1 false,[.t 3],none,[]⟩,⟨some 10,.call 109,[.t 9],none,[2,1]⟩,⟨some 11,.not,[.t 10],none,[3]⟩,⟨some 12,.call 85,[.t 11,.c (.i .i64 8)],none,[4,3]⟩,⟨some 13,.bslice 34 1 (.i .i64 0) 2 [0,1],[.t 8,.t 12],none,[1,5]⟩,⟨some 14,.call 83,[.t 13],none,[6,5]⟩,⟨some 6,.mv,[.t 14],none,[7,7,0,1,2,3,4,5,6,7]⟩]) (.seq (.ops false [⟨some 15,.mv,[.t 6],none,[]⟩,⟨some 16,.bin .neq,[.t 15,.c (.i .i64 0)],none,[0]⟩]) (.cond (.t 16) (.seq (.ops false [⟨some 17,.mv,[.t 6],none,[]⟩,⟨some 4,.mv,[.c .nilsl],none,[]⟩,⟨some 5,.mv,[.t 17],none,[0,1,0,1]⟩]) .ret) .skip))) (.seq (.ops false [⟨some 18,.mv,[.t 0],none,[]⟩,⟨some 19,.mkfn (.func 120) 0,[.t 3],none,[]⟩,⟨some 20,.call 119,[.t 18,.t 19],none,[0,1]⟩,⟨some 4,.mv,[.t 20],none,[2,2,0,1,2]⟩,⟨some 5,.mv,[.c (.i .i64 0)],none,[3,0,1,2,3]⟩]) .ret))
def rs68 : List RV := [.tmp 4,.tmp 5]
theorem fact68 : compF Tryz.prog 68 = some (ac68,rs68,21) := by kernel_rfl
theorem less_irr : ∀ l : List UInt8, Op.bytesLess l l = false
  | [] => by simp [Op.bytesLess]
  | x :: r => by simp [Op.bytesLess, less_irr r]
theorem cmpI_0 (x y : Int) : cmpI x y = 0 ↔ x = y := by unfold cmpI; (repeat' split) <;> omega
theorem cmpI_l (x y : Int) : cmpI x y < 0 ↔ x < y := by unfold cmpI; (repeat' split) <;> omega
theorem cmpS_0 (x y : ByteArray) : cmpS x y = 0 ↔ x = y := by
  unfold cmpS
  split
  · rename_i h
    refine ⟨fun h0 => by omega, fun e => ?_⟩
    subst e; rw [less_irr] at h; cases h
  · split
    · rename_i h; exact ⟨fun _ => h, fun _ => rfl⟩
    · rename_i h; exact ⟨fun h0 => by omega, fun e => absurd e h⟩
theorem cmpS_l (x y : ByteArray) : cmpS x y < 0 ↔ Op.bytesLess x.toList y.toList = true := by
  unfold cmpS
  split
  · rename_i h; exact ⟨fun _ => h, fun _ => by omega⟩
  · rename_i h
    refine ⟨fun h0 => ?_, fun e => absurd e h⟩
    split at h0 <;> omega
theorem cmpM_key (a b : Mov) : cmpM a b < 0 ↔ befM a b = true := by
  unfold cmpM befM
  simp only [firstE]
  by_cases h1 : a.moment = b.moment
  · rw [if_pos h1, if_pos ((cmpI_0 _ _).2 h1)]
    by_cases h2 : a.kind = b.kind
    · rw [if_pos h2, if_pos ((cmpS_0 _ _).2 h2)]
      by_cases h3 : cmpS a.name b.name = 0
      · rw [if_pos h3, ← cmpS_l, h3]
      · rw [if_neg h3]; exact cmpS_l _ _
    · rw [if_neg h2, if_neg (fun h => h2 ((cmpS_0 _ _).1 h))]; exact cmpS_l _ _
  · rw [if_neg h1, if_neg (fun h => h1 ((cmpI_0 _ _).1 h)), decide_eq_true_eq]; exact cmpI_l _ _
theorem cmpM_bef : bfC cmpM = befM := by
  funext a b
  show decide (cmpM a b < 0) = befM a b
  by_cases h : cmpM a b < 0
  · rw [decide_eq_true h, (cmpM_key a b).1 h]
  · rw [decide_eq_false h]; exact (Bool.eq_false_iff.2 fun h2 => h ((cmpM_key a b).2 h2)).symm
theorem sort_merge (a b : List Mov) : sortC cmpM (a ++ b) = mergeM befM a b := by rw [sortC, cmpM_bef]; rfl
def mgE (a b : List Mov) : Int := firstE [chkMovs a, chkMovs b, if 30000 < (a.length : Int) + b.length then 5 else 0]
def mgR (a b : List Mov) : List Mov := if mgE a b = 0 then mergeM befM a b else []
theorem pure66 (a b : List Mov) (hn : mgE a b = 0 → a.length + b.length ≤ 20) : Pure Tryz.prog 66 [.sl 7 (a.map Mov.pv), .sl 7 (b.map Mov.pv)] (.tup [.sl 7 ((mgR a b).map Mov.pv), .i .i64 (mgE a b)]) := by
  refine pure_by fact66 (by simp) fun hw X hX => ?_
  unfold ac66 rs66
  have he : (if decide (30000 < (a.length : Int) + b.length) = true then (5 : Int) else 0) = (if 30000 < (a.length : Int) + b.length then 5 else 0) := by simp
  have hA := fun l => eq_true (allMv l)
  by_cases h0 : mgE a b = 0
  · have h0' := eq_true h0
    have hl := hn h0
    have hlen : (a ++ b).length = a.length + b.length := List.length_append
    have h113 : Acts Tryz.prog 113 [.row 900 (a.length + b.length), .p (.fn (.func 114) [] [])] [(900, .row 74 7 (a.map Mov.pv ++ b.map Mov.pv) false)] (.p (.tup [])) [(900, .row 74 7 ((mergeM befM a b).map Mov.pv) false)] := by
      have := acts113 pure114 (a ++ b) (by omega)
      rw [hlen, List.map_append, sort_merge] at this; exact this
    have hml : (mergeM befM a b).length = a.length + b.length := by rw [(merge_perm befM a b).length_eq, hlen]
    have h0b : (firstE [chkMovs a, chkMovs b, if 30000 < (a.length : Int) + b.length then 5 else 0] = 0) = True := h0'
    have qe := And.intro qR (And.intro @qN (And.intro @hA (And.intro @he (And.intro @hml @h0b)))); repeat' first | (show Run _ (.cond _ _ _) _ _; refine run_condX (fun hc => ?_) (fun hc => ?_) <;> (try simp only [qH, rng_0] at hc) <;> try contradiction) | (show RunOps _ _ _ _ (⟨_, .call 24, _, _, _⟩ :: _) _ _; refine run_callX (hf := pure24 a) (hn := ?_)) | (show RunOps _ _ _ _ (⟨_, .call 24, _, _, _⟩ :: _) _ _; refine run_callX (hf := pure24 b) (hn := ?_)) | (show RunOps _ _ _ _ (⟨_, .call 85, _, _, _⟩ :: _) _ _; refine run_callX (hf := pure85 _ _) (hn := ?_)) | (show RunOps _ _ _ _ (⟨_, .call 83, _, _, _⟩ :: _) _ _; refine run_callX (hf := pure83 [_, _, _]) (hn := ?_)) | (show RunOps _ _ _ _ (⟨_, .call 112, _, _, _⟩ :: _) _ _; refine run_callSX [(5, 25)] (hf := acts112 a (by omega)) (hn := ?_)) | (show RunOps _ _ _ _ (⟨_, .call 113, _, _, _⟩ :: _) _ _; refine run_callSX [(900, 25)] (hf := h113) (hn := ?_)) | (first | refine Stp.h ?_ | (show ∀ K : St → List Ft → Prop, _; intro K hK) | (show runS _ _ _ _ _; first | refine qY (hq := ?_) | refine qZ (hq := ?_)) | (refine hK _ _ ?_; clear hK K) | (refine hK _ _ rfl ?_; clear hK K) | (refine qZ (hq := ?_); try exact trivial) | omega)
    all_goals first | (rw [mgR, if_pos h0, h0]; exact .refl _)
  · have h0' := eq_false h0
    have key : firstE [chkMovs a, chkMovs b, if 30000 < IntKind.i64.wrap ((a.length : Int) + b.length) then 5 else 0] = mgE a b := by
      by_cases h1 : chkMovs a = 0
      · by_cases h2 : chkMovs b = 0
        · rw [wrap64 (by have := (chkMovs_0 h1).1; omega) (by have := (chkMovs_0 h1).1; have := (chkMovs_0 h2).1; omega)]; rfl
        · simp [mgE, firstE, h1, h2]
      · simp [mgE, firstE, h1]
    have qe := And.intro qR @he; repeat' first | (show Run _ (.cond _ _ _) _ _; refine run_condX (fun hc => ?_) (fun hc => ?_) <;> (try simp only [qH, rng_0] at hc) <;> try contradiction) | (show RunOps _ _ _ _ (⟨_, .call 24, _, _, _⟩ :: _) _ _; refine run_callX (hf := pure24 a) (hn := ?_)) | (show RunOps _ _ _ _ (⟨_, .call 24, _, _, _⟩ :: _) _ _; refine run_callX (hf := pure24 b) (hn := ?_)) | (show RunOps _ _ _ _ (⟨_, .call 85, _, _, _⟩ :: _) _ _; refine run_callX (hf := pure85 _ _) (hn := ?_)) | (show RunOps _ _ _ _ (⟨_, .call 83, _, _, _⟩ :: _) _ _; refine run_callX (hf := pure83 [_, _, _]) (hn := ?_)) | (first | refine Stp.h ?_ | (show ∀ K : St → List Ft → Prop, _; intro K hK) | (show runS _ _ _ _ _; first | refine qY (hq := ?_) | refine qZ (hq := ?_)) | (refine hK _ _ ?_; clear hK K) | (refine hK _ _ rfl ?_; clear hK K) | (refine qZ (hq := ?_); try exact trivial) | omega)
    all_goals first | (rw [key] at hc; exact absurd hc h0) | (rw [key, mgR, if_neg h0]; exact weak2 (.nilsl _) (.refl _))
end Go.Proofs.YtcfbdeghmckelaaGreat
