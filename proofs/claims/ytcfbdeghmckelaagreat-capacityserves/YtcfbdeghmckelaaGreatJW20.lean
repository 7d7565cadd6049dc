/- Contracts of functions that the proof uses, shared by the claims of this seat; no statement of its own. Part 26. No conditions. -/
import Derived.Test.YtcfbdeghmckelaaGreatJW17
import Derived.Test.YtcfbdeghmckelaaGreatJR2
import Derived.Test.YtcfbdeghmckelaaGreatJW18
import Derived.Test.YtcfbdeghmckelaaGreatJW19
set_option linter.all false
namespace Go.Proofs.YtcfbdeghmckelaaGreat
open Go.RowKit
set_option maxRecDepth 100000
set_option linter.unusedVariables false
set_option linter.unusedSimpArgs false
set_option maxHeartbeats 2000000
def mostAt (ls : List Lim) (i : Int) : Int := match ls[i.toNat]? with | some l => l.most | none => 0
def roomStep (ls : List Lim) (a : Int) (w : Win) : Int := min a (max 0 (mostAt ls w.lim - w.cnt))
def roomK (ls : List Lim) (W : List Win) : Int := W.foldl (roomStep ls) 999999999
def roomL (ls : List Lim) (m : List Mov) (o : Mov) : Int := roomK ls (arW ls m o)
theorem roomK_next {ls : List Lim} {W : List Win} {k : Nat} {w : Win} (h : W[k]? = some w) : roomK ls (W.take (k + 1)) = roomStep ls (roomK ls (W.take k)) w := by
  rw [roomK, List.take_add_one, h, List.foldl_append]; rfl
theorem cnt_bound {l : Lim} {m : List Mov} (h2 : chkMovs m = 0) (b : Int) : -30000 ≤ cntAll l m b ∧ cntAll l m b ≤ 30000 := by
  have hm := chkMovs_0 h2
  have h1 := ofL_len (l := l) (m := m)
  have h3 := ltN_le (ofL l m) b
  have h4 := ltN_le (ofL l m) (b + l.len)
  unfold cntAll cntW
  omega
theorem arW_at {ls : List Lim} {m : List Mov} {o : Mov} {w : Win} (hw : w ∈ arW ls m o) : ∃ (i : Nat) (l : Lim), w.lim = i ∧ ls[i]? = some l ∧ w.cnt = cntAll l m w.beg ∧ countsL l o.kind o.term = true ∧ w.beg ≤ o.moment ∧ o.moment < w.beg + l.len ∧ ∃ e : Nat, e < 2 ∧ w.beg ∈ beginsL l (o.moment / 1440 - 1 + e) := by
  obtain ⟨i, hi, hw⟩ := List.mem_flatMap.1 hw
  unfold arI at hw
  split at hw
  · rename_i l hl
    unfold arL at hw
    split at hw
    · rename_i hc
      obtain ⟨e, he, hw⟩ := List.mem_flatMap.1 hw
      obtain ⟨b, hb, hw⟩ := List.mem_flatMap.1 hw
      unfold arB at hw
      split at hw
      · rename_i hin
        simp only [List.mem_singleton] at hw
        subst hw
        exact ⟨i, l, rfl, hl, rfl, hc, hin.1, hin.2, e, List.mem_range.1 he, hb⟩
      · cases hw
    · cases hw
  · cases hw
theorem arW_len {ls : List Lim} {m : List Mov} {o : Mov} (hn : ls.length ≤ 32) (h : ∀ l ∈ ls, chkLim l = 0) : (arW ls m o).length ≤ 92160 := by
  have h1 : (arW ls m o).length ≤ (List.range ls.length).length * 2880 := by
    refine flat_le fun i _ => ?_
    unfold arI
    split
    · rename_i l hl
      unfold arL
      split
      · have h2 : ((List.range 2).flatMap (arX m o i l)).length ≤ (List.range 2).length * 1440 := by
          refine flat_le fun e _ => ?_
          have h3 := beginsL_len (h l (List.mem_of_getElem? hl)) (o.moment / 1440 - 1 + e)
          have h4 : (arD m o i l (o.moment / 1440 - 1 + e)).length ≤ (beginsL l (o.moment / 1440 - 1 + e)).length * 1 := by
            refine flat_le fun b _ => ?_
            unfold arB; split <;> simp
          unfold arX; omega
        simp only [List.length_range] at h2; omega
      · simp
    · simp
  simp only [List.length_range] at h1; omega
def ac98 : AC := .seq (.ops false [⟨some 3,.box,[.t 0],none,[]⟩,⟨some 5,.box,[.t 2],none,[]⟩,⟨some 6,.mv,[.c (.i .i64 0)],none,[]⟩]) (.seq (.ops false [⟨some 7,.alloc [(.i .i64 0)],[],none,[]⟩,⟨none,.store 1,[.t 7,.c (.i .i64 999999999)],none,[0,0]⟩]) (.seq (.seq (.ops false [⟨some 9,.load 1 false,[.t 3],none,[]⟩,⟨some 10,.mv,[.t 1],none,[]⟩,⟨some 11,.load 7 true,[.t 5],none,[]⟩,⟨some 12,.call 102,[.t 9,.t 10,.t 11],none,[0,1,2]⟩]) (.block 0 (.rfunc (.t 12) [13] (.ops false [⟨some 8,.alloc [(.i .i64 0),(.i .i64 0),(.i .i64 0)],[],none,[]⟩,⟨none,.store 3,[.t 8,.t 13],none,[0,0]⟩]) (.block 1 (.ops true [⟨some 14,.load 1 false,[.t 7],none,[]⟩,⟨some 15,.load 1 false,[.t 3],none,[]⟩,⟨some 16,.fadr 0,[.t 8],none,[]⟩,⟨some 17,.load 1 false,[.t 16],none,[2]⟩,⟨some 18,.iadrS 11,[.t 15,.t 17],none,[1,3]⟩,⟨some 19,.fadr 10,[.t 18],none,[4]⟩,⟨some 20,.load 1 false,[.t 19],none,[5]⟩,⟨some 21,.fadr 2,[.t 8],none,[]⟩,⟨some 22,.load 1 false,[.t 21],none,[7]⟩,⟨some 23,.bin .sub,[.t 20,.t 22],none,[6,8]⟩,⟨some 24,.mx,[.c (.i .i64 0),.t 23],none,[9]⟩,⟨some 25,.mn,[.t 14,.t 24],none,[0,10]⟩,⟨none,.store 1,[.t 7,.t 25],none,[11,0,1,2,3,4,5,6,7,8,9,10,11]⟩]))))) (.seq (.ops false [⟨some 26,.load 1 false,[.t 7],none,[]⟩,⟨some 6,.mv,[.t 26],none,[0,0]⟩]) .ret)))
def rs98 : List RV := [.tmp 6]
theorem fact98 : compF Tryz.prog 98 = some (ac98,rs98,27) := by kernel_rfl
def ac43 : AC := .seq (.ops false [⟨some 5,.box,[.t 2],none,[]⟩,⟨some 6,.mv,[.c (.i .i64 0)],none,[]⟩,⟨some 7,.mv,[.c (.i .i64 0)],none,[1]⟩]) (.seq (.seq (.ops true [⟨some 9,.mv,[.t 0],none,[]⟩,⟨some 10,.mv,[.t 1],none,[]⟩,⟨some 11,.call 97,[.t 9,.t 10],none,[0,1]⟩,⟨some 12,.load 7 true,[.t 5],none,[]⟩,⟨some 13,.call 87,[.t 12],none,[3,2]⟩,⟨some 14,.bslice 34 1 (.i .i64 0) 2 [0,1],[.t 11,.t 13],none,[2,4]⟩,⟨some 15,.call 83,[.t 14],none,[5,4]⟩,⟨some 8,.mv,[.t 15],none,[6,6,0,1,2,3,4,5,6]⟩]) (.seq (.ops false [⟨some 16,.mv,[.t 8],none,[]⟩,⟨some 17,.bin .neq,[.t 16,.c (.i .i64 0)],none,[0]⟩]) (.cond (.t 17) (.seq (.ops false [⟨some 18,.mv,[.t 8],none,[]⟩,⟨some 6,.mv,[.c (.i .i64 0)],none,[]⟩,⟨some 7,.mv,[.t 18],none,[0,1,0,1]⟩]) .ret) .skip))) (.seq (.ops false [⟨some 19,.mv,[.t 0],none,[]⟩,⟨some 20,.mv,[.t 1],none,[]⟩,⟨some 21,.load 7 true,[.t 5],none,[]⟩,⟨some 22,.call 98,[.t 19,.t 20,.t 21],none,[0,1,2]⟩,⟨some 6,.mv,[.t 22],none,[3,3,0,1,2,3]⟩,⟨some 7,.mv,[.c (.i .i64 0)],none,[4,0,1,2,3,4]⟩]) .ret))
def rs43 : List RV := [.tmp 6,.tmp 7]
theorem fact43 : compF Tryz.prog 43 = some (ac43,rs43,23) := by kernel_rfl
def ac99 : AC := .seq (.ops false [⟨some 2,.box,[.t 0],none,[]⟩,⟨some 3,.mv,[.c (.b false)],none,[]⟩]) (.seq (.ops true [⟨some 4,.fadr 2,[.t 2],none,[]⟩,⟨some 5,.load 1 false,[.t 4],none,[0]⟩,⟨some 6,.load 1 false,[.t 1],none,[]⟩,⟨some 7,.fadr 0,[.t 2],none,[]⟩,⟨some 8,.load 1 false,[.t 7],none,[3]⟩,⟨some 9,.iadrS 11,[.t 6,.t 8],none,[2,4]⟩,⟨some 10,.fadr 10,[.t 9],none,[5]⟩,⟨some 11,.load 1 false,[.t 10],none,[6]⟩,⟨some 12,.bin .geq,[.t 5,.t 11],none,[1,7]⟩,⟨some 3,.mv,[.t 12],none,[8,0,1,2,3,4,5,6,7,8]⟩]) .ret)
def rs99 : List RV := [.tmp 3]
theorem fact99 : compF Tryz.prog 99 = some (ac99,rs99,13) := by kernel_rfl
def ac100 : AC := .seq (.ops false [⟨some 4,.mv,[.c .nilsl],none,[]⟩]) (.seq (.ops false [⟨some 5,.mv,[.c .nilsl],none,[]⟩]) (.seq (.seq (.ops false [⟨some 8,.mv,[.t 0],none,[]⟩,⟨some 9,.len false,[.t 8],none,[0]⟩,⟨some 10,.mv,[.c (.i .i64 0)],none,[]⟩]) (.block 0 (.loop (.seq (.ops false [⟨some 11,.bin .lss,[.t 10,.t 9],none,[]⟩]) (.seq (.cond (.t 11) .skip (.exit 0)) (.seq (.block 1 (.seq (.ops false [⟨some 12,.iadrS 3,[.t 8,.t 10],none,[]⟩,⟨some 13,.load 3 true,[.t 12],none,[0]⟩,⟨some 7,.alloc [(.i .i64 0),(.i .i64 0),(.i .i64 0)],[],none,[]⟩,⟨none,.store 3,[.t 7,.t 13],none,[2,1,0,1,2]⟩]) (.seq (.ops false [⟨some 14,.mv,[.t 1],none,[]⟩,⟨some 15,.load 3 true,[.t 7],none,[]⟩,⟨some 16,.callv,[.t 14,.t 15],none,[0,1]⟩]) (.cond (.t 16) (.ops false [⟨some 17,.mv,[.t 5],none,[]⟩,⟨some 18,.load 3 true,[.t 7],none,[]⟩,⟨some 19,.bslice 56 3 (.agg [(.i .i64 0),(.i .i64 0),(.i .i64 0)]) 1 [0],[.t 18],none,[1]⟩,⟨some 20,.app 56 3 24,[.t 17,.t 19],none,[0,2]⟩,⟨some 5,.mv,[.t 20],none,[3,3,0,1,2,3]⟩]) .skip)))) (.ops false [⟨some 21,.bin .add,[.t 10,.c (.i .i64 1)],none,[]⟩,⟨some 10,.mv,[.t 21],none,[0]⟩]))))))) (.seq (.ops false [⟨some 22,.mv,[.t 5],none,[]⟩,⟨some 4,.mv,[.t 22],none,[0,0]⟩]) .ret)))
def rs100 : List RV := [.tmp 4]
theorem fact100 : compF Tryz.prog 100 = some (ac100,rs100,23) := by kernel_rfl
def ac44 : AC := .seq (.ops false [⟨some 3,.box,[.t 0],none,[]⟩,⟨some 5,.box,[.t 2],none,[]⟩,⟨some 6,.mv,[.c .nilsl],none,[]⟩,⟨some 7,.mv,[.c (.i .i64 0)],none,[2]⟩]) (.seq (.seq (.ops true [⟨some 10,.load 1 false,[.t 3],none,[]⟩,⟨some 11,.mv,[.t 1],none,[]⟩,⟨some 12,.call 97,[.t 10,.t 11],none,[0,1]⟩,⟨some 13,.load 7 true,[.t 5],none,[]⟩,⟨some 14,.call 87,[.t 13],none,[3,2]⟩,⟨some 15,.bslice 34 1 (.i .i64 0) 2 [0,1],[.t 12,.t 14],none,[2,4]⟩,⟨some 16,.call 83,[.t 15],none,[5,4]⟩,⟨some 8,.mv,[.t 16],none,[6,6,0,1,2,3,4,5,6]⟩]) (.seq (.ops false [⟨some 17,.mv,[.t 8],none,[]⟩,⟨some 18,.bin .neq,[.t 17,.c (.i .i64 0)],none,[0]⟩]) (.cond (.t 18) (.seq (.ops false [⟨some 19,.mv,[.t 8],none,[]⟩,⟨some 6,.mv,[.c .nilsl],none,[]⟩,⟨some 7,.mv,[.t 19],none,[0,1,0,1]⟩]) .ret) .skip))) (.seq (.ops false [⟨some 20,.mkfn (.func 99) 0,[.t 3],none,[]⟩,⟨some 9,.mv,[.t 20],none,[0,0]⟩]) (.seq (.ops false [⟨some 21,.load 1 false,[.t 3],none,[]⟩,⟨some 22,.mv,[.t 1],none,[]⟩,⟨some 23,.load 7 true,[.t 5],none,[]⟩,⟨some 24,.call 102,[.t 21,.t 22,.t 23],none,[0,1,2]⟩,⟨some 25,.call 101,[.t 24],none,[3,3]⟩,⟨some 26,.mv,[.t 9],none,[]⟩,⟨some 27,.call 100,[.t 25,.t 26],none,[4,5,4]⟩,⟨some 6,.mv,[.t 27],none,[6,6,0,1,2,3,4,5,6]⟩,⟨some 7,.mv,[.c (.i .i64 0)],none,[7,0,1,2,3,4,5,6,7]⟩]) .ret)))
def rs44 : List RV := [.tmp 6,.tmp 7]
theorem fact44 : compF Tryz.prog 44 = some (ac44,rs44,28) := by kernel_rfl
theorem pure98 (ls : List Lim) (m : List Mov) (o : Mov) (h0 : bothC ls m = 0) (ho : chkMov o = 0) : Pure Tryz.prog 98 [.sl 11 (ls.map Lim.pv), .sl 7 (m.map Mov.pv), o.pv] (.i .i64 (roomL ls m o)) := by
  have h1 := h0
  simp only [firstE_cons] at h1
  have hl := chkLims_0 h1.1
  refine pure_by fact98 (by simp) fun hw X hX => ?_
  unfold ac98 rs98
  have qe := @qR; repeat' first | (show Run _ (.cond _ _ _) _ _; refine run_condX (fun hc => ?_) (fun hc => ?_) <;> (try simp only [qH, rng_0] at hc) <;> try contradiction) | (show RunOps _ _ _ _ (⟨_, .call 102, _, _, _⟩ :: _) _ _; refine run_callX (hf := pure102 ls m o) (hn := ?_)) | (first | refine Stp.h ?_ | (show ∀ K : St → List Ft → Prop, _; intro K hK) | (show runS _ _ _ _ _; first | refine qY (hq := ?_) | refine qZ (hq := ?_)) | (refine hK _ _ ?_; clear hK K) | (refine hK _ _ rfl ?_; clear hK K) | (refine qZ (hq := ?_); try exact trivial) | omega)
  refine run_rfunc rfl (iter139 ls m o (by omega) hl.2 h1.2.1 ho) ?_ ?_ [(3, .lp 3 0), (5, .lp 5 0), (7, .lp 7 0)] (fun k => [(3, .box [.p (.sl 11 (ls.map Lim.pv))] false), (5, .box ([.i .i64 o.moment, .s o.kind, .s o.term, .i .i64 o.seats, .i .i64 o.size, .i .i64 o.noise, .s o.name].map .p) false), (7, .box [.p (.i .i64 (roomK ls ((arW ls m o).take k)))] false)]) (fun _ => []) ?_ ?_ ?_
  · simp
  · simp [hX]
  · simp only [qS, Nat.reduceAdd, Nat.reduceMul, Nat.reduceEqDiff, Nat.reduceLeDiff, reduceIte, reduceCtorEq, Nat.reduceBEq, Nat.reduceLT] <;> rfl
  · intro k t ht X' ro' hX'
    simp only [List.getElem?_map, Option.map_eq_some_iff] at ht
    obtain ⟨w, hy, rfl⟩ := ht
    have hnx := roomK_next (ls := ls) hy
    obtain ⟨i, l, hwi, hli, hwc, _⟩ := arW_at (List.mem_of_getElem? hy)
    have hil := (List.getElem?_eq_some_iff.1 hli).1
    have hlm := chkLim_0 (hl.2 l (List.mem_of_getElem? hli))
    have hcb := cnt_bound (l := l) h1.2.1 w.beg
    have hma : mostAt ls w.lim = l.most := by rw [mostAt, hwi, Int.toNat_natCast, hli]
    simp only [qS, Nat.reduceAdd, Nat.reduceMul, Nat.reduceEqDiff, Nat.reduceLeDiff, reduceIte, reduceCtorEq, Nat.reduceBEq, Nat.reduceLT]
    have qe := @qR; repeat' first | (show Run _ (.cond _ _ _) _ _; refine run_condX (fun hc => ?_) (fun hc => ?_) <;> (try simp only [qH, rng_0] at hc) <;> try contradiction) | (first | refine Stp.h ?_ | (show ∀ K : St → List Ft → Prop, _; intro K hK) | (show runS _ _ _ _ _; first | refine qY (hq := ?_) | refine qZ (hq := ?_)) | (refine hK _ _ ?_; clear hK K) | (refine hK _ _ rfl ?_; clear hK K) | (refine qZ (hq := ?_); try exact trivial) | omega)
    intro X1 hX1
    have qe := And.intro qR (And.intro @hwi @hli); repeat' first | (show Run _ (.cond _ _ _) _ _; refine run_condX (fun hc => ?_) (fun hc => ?_) <;> (try simp only [qH, rng_0] at hc) <;> try contradiction) | (first | refine Stp.h ?_ | (show ∀ K : St → List Ft → Prop, _; intro K hK) | (show runS _ _ _ _ _; first | refine qY (hq := ?_) | refine qZ (hq := ?_)) | (refine hK _ _ ?_; clear hK K) | (refine hK _ _ rfl ?_; clear hK K) | (refine qZ (hq := ?_); try exact trivial) | omega)
    rw [hnx, roomStep, hma]
  · simp only [List.length_map]
    have qe := @List.take_length.{0}; repeat' first | (show Run _ (.cond _ _ _) _ _; refine run_condX (fun hc => ?_) (fun hc => ?_) <;> (try simp only [qH, rng_0] at hc) <;> try contradiction) | (first | refine Stp.h ?_ | (show ∀ K : St → List Ft → Prop, _; intro K hK) | (show runS _ _ _ _ _; first | refine qY (hq := ?_) | refine qZ (hq := ?_)) | (refine hK _ _ ?_; clear hK K) | (refine hK _ _ rfl ?_; clear hK K) | (refine qZ (hq := ?_); try exact trivial) | omega)
    exact .refl _
abbrev roomC (ls : List Lim) (m : List Mov) (o : Mov) : Int := firstE [bothC ls m, chkMov o]
def roomR (ls : List Lim) (m : List Mov) (o : Mov) : Int := if roomC ls m o = 0 then roomL ls m o else 0
theorem roomR_p {ls : List Lim} {m : List Mov} {o : Mov} (h : roomC ls m o = 0) : roomR ls m o = roomL ls m o := if_pos h
theorem roomR_n {ls : List Lim} {m : List Mov} {o : Mov} (h : ¬ roomC ls m o = 0) : roomR ls m o = 0 := if_neg h
theorem pure43 (ls : List Lim) (m : List Mov) (o : Mov) : Pure Tryz.prog 43 [.sl 11 (ls.map Lim.pv), .sl 7 (m.map Mov.pv), o.pv] (.tup [.i .i64 (roomR ls m o), .i .i64 (roomC ls m o)]) := by
  refine pure_by fact43 (by simp) fun hw X hX => ?_
  unfold ac43 rs43
  have qe := @qR; repeat' first | (show Run _ (.cond _ _ _) _ _; refine run_condX (fun hc => ?_) (fun hc => ?_) <;> (try simp only [qH, rng_0] at hc) <;> try contradiction) | (show RunOps _ _ _ _ (⟨_, .call 97, _, _, _⟩ :: _) _ _; refine run_callX (hf := pure97 ls m) (hn := ?_)) | (show RunOps _ _ _ _ (⟨_, .call 87, _, _, _⟩ :: _) _ _; refine run_callX (hf := pure87 o) (hn := ?_)) | (show RunOps _ _ _ _ (⟨_, .call 83, _, _, _⟩ :: _) _ _; refine run_callX (hf := pure83 [_, _]) (hn := ?_)) | (first | refine Stp.h ?_ | (show ∀ K : St → List Ft → Prop, _; intro K hK) | (show runS _ _ _ _ _; first | refine qY (hq := ?_) | refine qZ (hq := ?_)) | (refine hK _ _ ?_; clear hK K) | (refine hK _ _ rfl ?_; clear hK K) | (refine qZ (hq := ?_); try exact trivial) | omega)
  · rw [roomR_n hc]; exact .refl _
  · have h0 := hc
    have h1 : bothC ls m = 0 ∧ chkMov o = 0 ∧ True := ⟨(firstE_cons.1 hc).1, (firstE_cons.1 (firstE_cons.1 hc).2).1, trivial⟩
    have qe := @qR; repeat' first | (show Run _ (.cond _ _ _) _ _; refine run_condX (fun hc => ?_) (fun hc => ?_) <;> (try simp only [qH, rng_0] at hc) <;> try contradiction) | (show RunOps _ _ _ _ (⟨_, .call 98, _, _, _⟩ :: _) _ _; refine run_callX (hf := pure98 ls m o h1.1 h1.2.1) (hn := ?_)) | (first | refine Stp.h ?_ | (show ∀ K : St → List Ft → Prop, _; intro K hK) | (show runS _ _ _ _ _; first | refine qY (hq := ?_) | refine qZ (hq := ?_)) | (refine hK _ _ ?_; clear hK K) | (refine hK _ _ rfl ?_; clear hK K) | (refine qZ (hq := ?_); try exact trivial) | omega)
    rw [roomR_p h0, roomC, h0]; exact .refl _
theorem pure99 (ls : List Lim) (w : Win) (i : Nat) (l : Lim) (hwi : w.lim = i) (hli : ls[i]? = some l) : Pure Tryz.prog 99 [w.pv, .ip (.sl 11 (ls.map Lim.pv)) 0] (.b (decide (l.most ≤ w.cnt))) := by
  have hil := (List.getElem?_eq_some_iff.1 hli).1
  refine pure_by fact99 (by simp) fun hw X hX => ?_
  unfold ac99 rs99
  have qe := And.intro qR (And.intro @hwi @hli); repeat' first | (show Run _ (.cond _ _ _) _ _; refine run_condX (fun hc => ?_) (fun hc => ?_) <;> (try simp only [qH, rng_0] at hc) <;> try contradiction) | (first | refine Stp.h ?_ | (show ∀ K : St → List Ft → Prop, _; intro K hK) | (show runS _ _ _ _ _; first | refine qY (hq := ?_) | refine qZ (hq := ?_)) | (refine hK _ _ ?_; clear hK K) | (refine hK _ _ rfl ?_; clear hK K) | (refine qZ (hq := ?_); try exact trivial) | omega)
  exact .refl _
theorem pure100 {f : Nat} {caps : List PV} {L : List Win} {p : Win → Bool} (hf : ∀ w ∈ L, Pure Tryz.prog f (w.pv :: caps) (.b (p w))) (hn : L.length ≤ 1000000) : Pure Tryz.prog 100 [.sl 3 (L.map Win.pv), .fn (.func f) [] caps] (.sl 3 ((L.filter p).map Win.pv)) := by
  refine pure_by fact100 (by simp) fun hw X hX => ?_
  unfold ac100 rs100
  repeat' first | (show Run _ (.cond _ _ _) _ _; refine run_condX (fun hc => ?_) (fun hc => ?_) <;> (try simp only [qH, rng_0] at hc) <;> try contradiction) | (first | refine Stp.h ?_ | (show ∀ K : St → List Ft → Prop, _; intro K hK) | (show runS _ _ _ _ _; first | refine qY (hq := ?_) | refine qZ (hq := ?_)) | (refine hK _ _ ?_; clear hK K) | (refine hK _ _ rfl ?_; clear hK K) | (refine qZ (hq := ?_); try exact trivial) | omega)
  refine run_own 100 56 3 [(1, .p (.fn (.func f) [] caps)), (5, .row 100 0), (8, .p (.sl 3 (L.map Win.pv))), (9, .p (.i .i64 L.length)), (10, .p (.i .i64 0))] [] ?_ ?_
  · simp only [Own, ownEnv, ownObj, nilTo, nilTos, qS, Nat.reduceAdd, Nat.reduceMul, Nat.reduceEqDiff, Nat.reduceLeDiff, reduceIte, reduceCtorEq, Nat.reduceBEq, Nat.reduceLT]
  refine run_loop (κ := Nat) (fun k => ⟨[(1, .p (.fn (.func f) [] caps)), (5, .row 100 ((L.take k).filter p).length), (8, .p (.sl 3 (L.map Win.pv))), (9, .p (.i .i64 L.length)), (10, .p (.i .i64 k))], [(100, .row 56 3 (((L.take k).filter p).map Win.pv) false)], [], false⟩) (fun k => k ≤ L.length) (fun k => L.length - k) 0 ?_ ?_ ?_
  · simp only [qS, Nat.reduceAdd, Nat.reduceMul, Nat.reduceEqDiff, Nat.reduceLeDiff, reduceIte, reduceCtorEq, Nat.reduceBEq, Nat.reduceLT] <;> simp
  · simp
  · intro k hk
    repeat (first | refine Stp.h ?_ | (show ∀ K : St → List Ft → Prop, _; intro K hK) | (show runS _ _ _ _ _; first | refine qY (hq := ?_) | refine qZ (hq := ?_)) | (refine hK _ _ ?_; clear hK K) | (refine hK _ _ rfl ?_; clear hK K) | (refine qZ (hq := ?_); try exact trivial) | omega)
    (show Run _ (.cond _ _ _) _ _; refine run_condX (fun hc => ?_) (fun hc => ?_) <;> (try simp only [qH, rng_0] at hc) <;> try contradiction)
    · obtain ⟨w, hx⟩ := some_at (i := k) (l := L) (by omega)
      have hnx := filter_take (p := p) hx
      have hfl := filter_tlen (p := p) (l := L) (k := k)
      have qe := And.intro qR @hx; repeat' first | (show Run _ (.cond _ _ _) _ _; refine run_condX (fun hc => ?_) (fun hc => ?_) <;> (try simp only [qH, rng_0] at hc) <;> try contradiction) | (show RunOps _ _ _ _ (⟨_, .callv, _, _, _⟩ :: _) _ _; refine run_callVX (hf := hf w (List.mem_of_getElem? hx)) (hn := ?_)) | (first | refine Stp.h ?_ | (show ∀ K : St → List Ft → Prop, _; intro K hK) | (show runS _ _ _ _ _; first | refine qY (hq := ?_) | refine qZ (hq := ?_)) | (refine hK _ _ ?_; clear hK K) | (refine hK _ _ rfl ?_; clear hK K) | (refine qZ (hq := ?_); try exact trivial) | omega)
      · rw [hc, if_pos rfl] at hnx
        exact ⟨k + 1, by omega, by omega, ⟨by rw [hnx]; simp, by simp⟩, by rw [hnx]; simp⟩
      · rw [hc] at hnx
        exact ⟨k + 1, by omega, by omega, ⟨by rw [hnx]; simp, by simp⟩, by rw [hnx]; simp⟩
    · repeat' first | (show Run _ (.cond _ _ _) _ _; refine run_condX (fun hc => ?_) (fun hc => ?_) <;> (try simp only [qH, rng_0] at hc) <;> try contradiction) | (first | refine Stp.h ?_ | (show ∀ K : St → List Ft → Prop, _; intro K hK) | (show runS _ _ _ _ _; first | refine qY (hq := ?_) | refine qZ (hq := ?_)) | (refine hK _ _ ?_; clear hK K) | (refine hK _ _ rfl ?_; clear hK K) | (refine qZ (hq := ?_); try exact trivial) | omega)
      have e : k = L.length := by omega
      subst e; rw [List.take_length]; exact .refl _
def fullL (ls : List Lim) (m : List Mov) (o : Mov) : List Win := (arW ls m o).filter fun w => decide (mostAt ls w.lim ≤ w.cnt)
def fullR (ls : List Lim) (m : List Mov) (o : Mov) : List Win := if roomC ls m o = 0 then fullL ls m o else []
theorem fullR_p {ls : List Lim} {m : List Mov} {o : Mov} (h : roomC ls m o = 0) : fullR ls m o = fullL ls m o := if_pos h
theorem fullR_n {ls : List Lim} {m : List Mov} {o : Mov} (h : ¬ roomC ls m o = 0) : fullR ls m o = [] := if_neg h
theorem pure44 (ls : List Lim) (m : List Mov) (o : Mov) : Pure Tryz.prog 44 [.sl 11 (ls.map Lim.pv), .sl 7 (m.map Mov.pv), o.pv] (.tup [.sl 3 ((fullR ls m o).map Win.pv), .i .i64 (roomC ls m o)]) := by
  refine pure_by fact44 (by simp) fun hw X hX => ?_
  unfold ac44 rs44
  have qe := @qR; repeat' first | (show Run _ (.cond _ _ _) _ _; refine run_condX (fun hc => ?_) (fun hc => ?_) <;> (try simp only [qH, rng_0] at hc) <;> try contradiction) | (show RunOps _ _ _ _ (⟨_, .call 97, _, _, _⟩ :: _) _ _; refine run_callX (hf := pure97 ls m) (hn := ?_)) | (show RunOps _ _ _ _ (⟨_, .call 87, _, _, _⟩ :: _) _ _; refine run_callX (hf := pure87 o) (hn := ?_)) | (show RunOps _ _ _ _ (⟨_, .call 83, _, _, _⟩ :: _) _ _; refine run_callX (hf := pure83 [_, _]) (hn := ?_)) | (first | refine Stp.h ?_ | (show ∀ K : St → List Ft → Prop, _; intro K hK) | (show runS _ _ _ _ _; first | refine qY (hq := ?_) | refine qZ (hq := ?_)) | (refine hK _ _ ?_; clear hK K) | (refine hK _ _ rfl ?_; clear hK K) | (refine qZ (hq := ?_); try exact trivial) | omega)
  · rw [fullR_n hc]; exact weak2 (.nilsl _) (.refl _)
  · have h0 := hc
    have h1 : bothC ls m = 0 ∧ chkMov o = 0 ∧ True := ⟨(firstE_cons.1 hc).1, (firstE_cons.1 (firstE_cons.1 hc).2).1, trivial⟩
    have h2 := h1.1
    simp only [firstE_cons] at h2
    have hl := chkLims_0 h2.1
    have hn := arW_len (m := m) (o := o) hl.1 hl.2
    have hff : ∀ w ∈ arW ls m o, Pure Tryz.prog 99 (w.pv :: [.ip (.sl 11 (ls.map Lim.pv)) 0]) (.b (decide (mostAt ls w.lim ≤ w.cnt))) := fun w hw => by
      obtain ⟨i, l, hwi, hli, _⟩ := arW_at hw
      have := pure99 ls w i l hwi hli
      rw [show mostAt ls w.lim = l.most by rw [mostAt, hwi, Int.toNat_natCast, hli]]; exact this
    have qe := @qR; repeat' first | (show Run _ (.cond _ _ _) _ _; refine run_condX (fun hc => ?_) (fun hc => ?_) <;> (try simp only [qH, rng_0] at hc) <;> try contradiction) | (show RunOps _ _ _ _ (⟨_, .call 102, _, _, _⟩ :: _) _ _; refine run_callX (hf := pure102 ls m o) (hn := ?_)) | (show RunOps _ _ _ _ (⟨_, .call 101, _, _, _⟩ :: _) _ _; refine run_callX (hf := pure101 (iter139 ls m o (by omega) hl.2 h2.2.1 h1.2.1) (by omega)) (hn := ?_)) | (show RunOps _ _ _ _ (⟨_, .call 100, _, _, _⟩ :: _) _ _; refine run_callBX (hf := pure100 hff (by omega)) (hn := ?_)) | (first | refine Stp.h ?_ | (show ∀ K : St → List Ft → Prop, _; intro K hK) | (show runS _ _ _ _ _; first | refine qY (hq := ?_) | refine qZ (hq := ?_)) | (refine hK _ _ ?_; clear hK K) | (refine hK _ _ rfl ?_; clear hK K) | (refine qZ (hq := ?_); try exact trivial) | omega)
    rw [fullR_p h0, roomC, h0]; exact .refl _
end Go.Proofs.YtcfbdeghmckelaaGreat
