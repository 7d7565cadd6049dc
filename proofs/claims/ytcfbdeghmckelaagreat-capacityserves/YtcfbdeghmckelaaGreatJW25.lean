/- Contracts of functions that the proof uses, shared by the claims of this seat; no statement of its own. Part 31. No conditions. -/
import Derived.Test.YtcfbdeghmckelaaGreatJW24
import Derived.Test.YtcfbdeghmckelaaGreatJW22
set_option linter.all false
namespace Go.Proofs.YtcfbdeghmckelaaGreat
open Go.RowKit
set_option maxRecDepth 100000
set_option linter.unusedVariables false
set_option linter.unusedSimpArgs false
set_option maxHeartbeats 4000000
theorem roomK_lt {ls : List Lim} : ∀ {W : List Win} {a : Int}, 1 ≤ a → (W.foldl (roomStep ls) a < 1 ↔ ∃ w ∈ W, mostAt ls w.lim ≤ w.cnt)
  | [], a, h => by simp; omega
  | w :: r, a, h => by
    rw [List.foldl_cons]
    by_cases hw : mostAt ls w.lim ≤ w.cnt
    · refine iff_of_true ?_ ⟨w, by simp, hw⟩
      have key : ∀ (r : List Win) (b : Int), b < 1 → r.foldl (roomStep ls) b < 1 := by
        intro r
        induction r with
        | nil => intro b hb; exact hb
        | cons x r ih => intro b hb; rw [List.foldl_cons]; refine ih _ ?_; unfold roomStep; omega
      exact key r _ (by unfold roomStep; omega)
    · rw [roomK_lt (W := r) (a := roomStep ls a w) (by unfold roomStep; omega)]
      constructor
      · rintro ⟨x, hx, hh⟩; exact ⟨x, by simp [hx], hh⟩
      · rintro ⟨x, hx, hh⟩
        rcases List.mem_cons.1 hx with rfl | hx
        · exact absurd hh hw
        · exact ⟨x, hx, hh⟩
theorem room_lt {ls : List Lim} {m : List Mov} {o : Mov} : roomL ls m o < 1 ↔ ∃ w ∈ arW ls m o, mostAt ls w.lim ≤ w.cnt := roomK_lt (by decide)
theorem arW_in {ls : List Lim} {m : List Mov} {o : Mov} {i : Nat} {l : Lim} {e : Nat} {b : Int} (hl : ls[i]? = some l) (hc : countsL l o.kind o.term = true) (he : e < 2) (hb : b ∈ beginsL l (o.moment / 1440 - 1 + e)) (h1 : b ≤ o.moment) (h2 : o.moment < b + l.len) : (⟨i, b, cntAll l m b⟩ : Win) ∈ arW ls m o := by
  refine List.mem_flatMap.2 ⟨i, List.mem_range.2 (List.getElem?_eq_some_iff.1 hl).1, ?_⟩
  rw [arI, hl]
  simp only [arL, hc, if_true]
  refine List.mem_flatMap.2 ⟨e, List.mem_range.2 he, List.mem_flatMap.2 ⟨b, hb, ?_⟩⟩
  rw [arB, if_pos ⟨h1, h2⟩]; simp
theorem evA_at {ls : List Lim} {m : List Mov} {r : Req} {v : Nat × Nat} (h : v ∈ evA ls m r) : ∃ (i : Nat) (l : Lim) (d : Int) (e : Nat) (b : Int), ls[i]? = some l ∧ countsL l r.kind r.term = true ∧ d ∈ daysL r.per ∧ e < 2 ∧ b ∈ beginsL l (d - 1 + e) ∧ l.most ≤ cntAll l m b ∧ (v.1 : Int) = max 0 (b - 1440 * d) ∧ (v.2 : Int) = min 1440 (b + l.len - 1440 * d) ∧ v.1 < v.2 := by
  obtain ⟨i, _, h⟩ := List.mem_flatMap.1 h
  unfold evI at h
  split at h
  · rename_i l hl
    unfold evL at h
    split at h
    · rename_i hc
      obtain ⟨d, hd, h⟩ := List.mem_flatMap.1 h
      obtain ⟨e, he, h⟩ := List.mem_flatMap.1 h
      obtain ⟨b, hb, h⟩ := List.mem_flatMap.1 h
      unfold evB at h
      split at h
      · cases h
      · split at h
        · simp only [List.mem_singleton] at h; subst h
          exact ⟨i, l, d, e, b, hl, hc, hd, List.mem_range.1 he, hb, by omega, by simp only; omega, by simp only; omega, by simp only; omega⟩
        · cases h
    · cases h
  · cases h
theorem evA_in {ls : List Lim} {m : List Mov} {r : Req} {i : Nat} {l : Lim} {d : Int} {e : Nat} {b : Int} (hl : ls[i]? = some l) (hc : countsL l r.kind r.term = true) (hd : d ∈ daysL r.per) (he : e < 2) (hb : b ∈ beginsL l (d - 1 + e)) (hm : l.most ≤ cntAll l m b) (hlt : max 0 (b - 1440 * d) < min 1440 (b + l.len - 1440 * d)) : ((max 0 (b - 1440 * d)).toNat, (min 1440 (b + l.len - 1440 * d)).toNat) ∈ evA ls m r := by
  refine List.mem_flatMap.2 ⟨i, List.mem_range.2 (List.getElem?_eq_some_iff.1 hl).1, ?_⟩
  rw [evI, hl]
  simp only [evL, hc, if_true]
  refine List.mem_flatMap.2 ⟨d, hd, List.mem_flatMap.2 ⟨e, List.mem_range.2 he, List.mem_flatMap.2 ⟨b, hb, ?_⟩⟩⟩
  rw [evB, if_neg (by omega), if_pos hlt]; simp
theorem ref_fits {ls : List Lim} {m : List Mov} {r : Req} {n : Int} (h0 : 0 ≤ n) (h1 : n < 1440) : (!refV (evA ls m r) n.toNat) = fitsB ls m (r.at n) := by
  rw [Bool.eq_iff_iff, Bool.not_eq_true', ← Bool.not_eq_true, refV, List.any_eq_true, fitsB, List.all_eq_true]
  constructor
  · intro h o ho
    obtain ⟨d, hd, rfl⟩ := List.mem_map.1 ho
    simp only [Bool.not_eq_true', decide_eq_false_iff_not]
    intro hlt
    obtain ⟨w, hw, hf⟩ := room_lt.1 hlt
    obtain ⟨i, l, hwi, hli, hwc, hcl, hb1, hb2, e, he, hbb⟩ := arW_at hw
    have hma : mostAt ls w.lim = l.most := by rw [mostAt, hwi, Int.toNat_natCast, hli]
    have hD : (movOf (r.at n) d).moment / 1440 = d := by simp only [movOf, Req.at]; omega
    have hM : (movOf (r.at n) d).moment = 1440 * d + n := rfl
    rw [hD] at hbb
    rw [hM] at hb1 hb2
    refine h ⟨_, evA_in (m := m) (r := r) hli hcl hd he hbb (by omega) (by omega), ?_⟩
    simp only [hitN, Bool.and_eq_true, decide_eq_true_eq]; omega
  · rintro h ⟨v, hv, hh⟩
    obtain ⟨i, l, d, e, b, hli, hcl, hd, he, hbb, hm, hv1, hv2, hv3⟩ := evA_at hv
    simp only [hitN, Bool.and_eq_true, decide_eq_true_eq] at hh
    have hD : (movOf (r.at n) d).moment / 1440 = d := by simp only [movOf, Req.at]; omega
    have hM : (movOf (r.at n) d).moment = 1440 * d + n := rfl
    have := h (movOf (r.at n) d) (List.mem_map.2 ⟨d, hd, rfl⟩)
    simp only [Bool.not_eq_true', decide_eq_false_iff_not] at this
    refine this (room_lt.2 ⟨_, arW_in (m := m) (o := movOf (r.at n) d) hli hcl he (by rw [hD]; exact hbb) (by rw [hM]; omega) (by rw [hM]; omega), ?_⟩)
    simp only [mostAt, Int.toNat_natCast, hli]; exact hm
theorem outK_full {P : List (Nat × Nat)} {j : Nat} (hj : j < 1440) : (outK P 1440)[j]? = some (refV P j) := by rw [outK_at hj, decide_eq_true hj, Bool.true_and]
theorem pureOpen (ls : List Lim) (m : List Mov) (r : Req) (n : Int) (h0 : 0 ≤ n) (h1 : n < 1440) : Pure Tryz.prog 105 [.ip (.agg ((outK (evA ls m r) 1440).map PV.b)) 0, .i .i64 n] (.b (fitsB ls m (r.at n))) := by
  have := pure105 (outK (evA ls m r) 1440) (outK_len _ _) n.toNat _ (outK_full (by omega))
  rw [ref_fits h0 h1, Int.toNat_of_nonneg h0] at this
  exact this
theorem at_self (r : Req) : r.at r.minute = r := rfl
def ac51 : AC := .seq (.ops false [⟨some 5,.box,[.t 2],none,[]⟩,⟨some 6,.mv,[.c (.b false)],none,[]⟩,⟨some 7,.mv,[.c (.i .i64 0)],none,[1]⟩]) (.seq (.seq (.ops true [⟨some 10,.mv,[.t 0],none,[]⟩,⟨some 11,.mv,[.t 1],none,[]⟩,⟨some 12,.call 97,[.t 10,.t 11],none,[0,1]⟩,⟨some 13,.load 13 true,[.t 5],none,[]⟩,⟨some 14,.call 79,[.t 13],none,[3,2]⟩,⟨some 15,.bslice 34 1 (.i .i64 0) 2 [0,1],[.t 12,.t 14],none,[2,4]⟩,⟨some 16,.call 83,[.t 15],none,[5,4]⟩,⟨some 8,.mv,[.t 16],none,[6,6,0,1,2,3,4,5,6]⟩]) (.seq (.ops false [⟨some 17,.mv,[.t 8],none,[]⟩,⟨some 18,.bin .neq,[.t 17,.c (.i .i64 0)],none,[0]⟩]) (.cond (.t 18) (.seq (.ops false [⟨some 19,.mv,[.t 8],none,[]⟩,⟨some 6,.mv,[.c (.b false)],none,[]⟩,⟨some 7,.mv,[.t 19],none,[0,1,0,1]⟩]) .ret) .skip))) (.seq (.ops false [⟨some 20,.mv,[.t 0],none,[]⟩,⟨some 21,.mv,[.t 1],none,[]⟩,⟨some 22,.load 13 true,[.t 5],none,[]⟩,⟨some 23,.call 104,[.t 20,.t 21,.t 22],none,[0,1,2]⟩,⟨some 9,.mv,[.t 23],none,[3,3,0,1,2,3]⟩]) (.seq (.ops false [⟨some 24,.mv,[.t 9],none,[]⟩,⟨some 25,.fadr 9,[.t 5],none,[]⟩,⟨some 26,.load 1 false,[.t 25],none,[1]⟩,⟨some 27,.call 105,[.t 24,.t 26],none,[0,2]⟩,⟨some 6,.mv,[.t 27],none,[3,3,0,1,2,3]⟩,⟨some 7,.mv,[.c (.i .i64 0)],none,[4,0,1,2,3,4]⟩]) .ret)))
def rs51 : List RV := [.tmp 6,.tmp 7]
theorem fact51 : compF Tryz.prog 51 = some (ac51,rs51,28) := by kernel_rfl
def ac52 : AC := .seq (.ops false [⟨some 7,.box,[.t 2],none,[]⟩,⟨some 10,.mv,[.c .nilsl],none,[]⟩,⟨some 11,.mv,[.c (.i .i64 0)],none,[1]⟩]) (.seq (.seq (.ops false [⟨some 16,.mv,[.t 0],none,[]⟩,⟨some 17,.mv,[.t 1],none,[]⟩,⟨some 18,.load 13 true,[.t 7],none,[]⟩,⟨some 19,.mv,[.t 3],none,[]⟩,⟨some 20,.mv,[.t 4],none,[]⟩,⟨some 21,.call 106,[.t 16,.t 17,.t 18,.t 19,.t 20],none,[0,1,2,3,4]⟩,⟨some 12,.mv,[.t 21],none,[5,5,0,1,2,3,4,5]⟩]) (.seq (.ops false [⟨some 22,.mv,[.t 12],none,[]⟩,⟨some 23,.bin .neq,[.t 22,.c (.i .i64 0)],none,[0]⟩]) (.cond (.t 23) (.seq (.ops false [⟨some 24,.mv,[.t 12],none,[]⟩,⟨some 10,.mv,[.c .nilsl],none,[]⟩,⟨some 11,.mv,[.t 24],none,[0,1,0,1]⟩]) .ret) .skip))) (.seq (.ops false [⟨some 25,.mv,[.t 0],none,[]⟩,⟨some 26,.mv,[.t 1],none,[]⟩,⟨some 27,.load 13 true,[.t 7],none,[]⟩,⟨some 28,.call 104,[.t 25,.t 26,.t 27],none,[0,1,2]⟩,⟨some 29,.mkfn (.func 105) 1,[.t 28],none,[3]⟩,⟨some 13,.mv,[.t 29],none,[4,3,0,1,2,3,4]⟩]) (.seq (.ops false [⟨some 14,.mv,[.c .nilsl],none,[]⟩]) (.seq (.seq (.ops false [⟨some 30,.mv,[.t 4],none,[]⟩,⟨some 31,.mv,[.t 3],none,[]⟩,⟨some 32,.bin .sub,[.t 30,.t 31],none,[0,1]⟩,⟨some 33,.bin .add,[.t 32,.c (.i .i64 1)],none,[2]⟩,⟨some 34,.mv,[.c (.i .i64 0)],none,[]⟩]) (.block 0 (.loop (.seq (.ops false [⟨some 35,.bin .lss,[.t 34,.t 33],none,[]⟩]) (.seq (.cond (.t 35) .skip (.exit 0)) (.seq (.block 1 (.seq (.ops false [⟨some 36,.mv,[.t 34],none,[]⟩,⟨some 15,.mv,[.t 36],none,[0,0]⟩]) (.seq (.ops false [⟨some 37,.mv,[.t 13],none,[]⟩,⟨some 38,.mv,[.t 3],none,[]⟩,⟨some 39,.mv,[.t 15],none,[]⟩,⟨some 40,.bin .add,[.t 38,.t 39],none,[1,2]⟩,⟨some 41,.callv,[.t 37,.t 40],none,[0,3]⟩]) (.cond (.t 41) (.ops false [⟨some 42,.mv,[.t 14],none,[]⟩,⟨some 43,.mv,[.t 3],none,[]⟩,⟨some 44,.mv,[.t 15],none,[]⟩,⟨some 45,.bin .add,[.t 43,.t 44],none,[1,2]⟩,⟨some 46,.bslice 3 1 (.i .i64 0) 1 [0],[.t 45],none,[3]⟩,⟨some 47,.app 3 1 8,[.t 42,.t 46],none,[0,4]⟩,⟨some 14,.mv,[.t 47],none,[5,5,0,1,2,3,4,5]⟩]) .skip)))) (.ops false [⟨some 48,.bin .add,[.t 34,.c (.i .i64 1)],none,[]⟩,⟨some 34,.mv,[.t 48],none,[0]⟩]))))))) (.seq (.ops false [⟨some 49,.mv,[.t 14],none,[]⟩,⟨some 10,.mv,[.t 49],none,[0,0]⟩,⟨some 11,.mv,[.c (.i .i64 0)],none,[1,0,1]⟩]) .ret)))))
def rs52 : List RV := [.tmp 10,.tmp 11]
theorem fact52 : compF Tryz.prog 52 = some (ac52,rs52,50) := by kernel_rfl
def ac53 : AC := .seq (.ops false [⟨some 7,.box,[.t 2],none,[]⟩,⟨some 10,.alloc [(.i .i64 0),(.i .i64 0)],[],none,[]⟩,⟨some 11,.mv,[.c (.i .i64 0)],none,[]⟩]) (.scope (.seq (.seq (.ops false [⟨some 16,.mv,[.t 0],none,[]⟩,⟨some 17,.mv,[.t 1],none,[]⟩,⟨some 18,.load 13 true,[.t 7],none,[]⟩,⟨some 19,.mv,[.t 3],none,[]⟩,⟨some 20,.mv,[.t 4],none,[]⟩,⟨some 21,.call 106,[.t 16,.t 17,.t 18,.t 19,.t 20],none,[0,1,2,3,4]⟩,⟨some 12,.mv,[.t 21],none,[5,5,0,1,2,3,4,5]⟩]) (.seq (.ops false [⟨some 22,.mv,[.t 12],none,[]⟩,⟨some 23,.bin .neq,[.t 22,.c (.i .i64 0)],none,[0]⟩]) (.cond (.t 23) (.seq (.ops false [⟨some 24,.build [(.i .i64 0),(.i .i64 0)] [],[],none,[]⟩,⟨some 25,.mv,[.t 12],none,[]⟩,⟨none,.store 2,[.t 10,.t 24],none,[0,0]⟩,⟨some 11,.mv,[.t 25],none,[1,2,0,1,2]⟩]) .ret) .skip))) (.seq (.ops false [⟨some 26,.mv,[.t 0],none,[]⟩,⟨some 27,.mv,[.t 1],none,[]⟩,⟨some 28,.load 13 true,[.t 7],none,[]⟩,⟨some 29,.call 104,[.t 26,.t 27,.t 28],none,[0,1,2]⟩,⟨some 30,.mkfn (.func 105) 1,[.t 29],none,[3]⟩,⟨some 13,.mv,[.t 30],none,[4,3,0,1,2,3,4]⟩]) (.seq (.ops false [⟨some 31,.build [(.i .i64 0),(.i .i64 0)] [(0,1),(1,1)],[.c (.i .i64 (-1)),.c (.i .i64 (-1))],none,[]⟩,⟨some 14,.alloc [(.i .i64 0),(.i .i64 0)],[],none,[]⟩,⟨none,.store 2,[.t 14,.t 31],none,[1,0,0,1]⟩]) (.seq (.label) (.seq (.seq (.ops false [⟨some 32,.mv,[.t 3],none,[]⟩,⟨some 15,.mv,[.t 32],none,[0,0]⟩]) (.block 0 (.loop (.seq (.seq (.ops false [⟨some 33,.mv,[.t 15],none,[]⟩,⟨some 34,.mv,[.t 4],none,[]⟩,⟨some 35,.bin .leq,[.t 33,.t 34],none,[0,1]⟩]) (.cond (.t 35) .skip (.exit 0))) (.seq (.block 1 (.block 2 (.seq (.ops false [⟨some 41,.mv,[.t 13],none,[]⟩,⟨some 42,.mv,[.t 15],none,[]⟩,⟨some 43,.callv,[.t 41,.t 42],none,[0,1]⟩,⟨some 44,.not,[.t 43],none,[2]⟩,⟨some 40,.mv,[.t 44],none,[3,2]⟩]) (.cond (.t 40) .skip (.seq (.ops false [⟨some 46,.mv,[.t 15],none,[]⟩,⟨some 47,.fadr 9,[.t 7],none,[]⟩,⟨some 48,.load 1 false,[.t 47],none,[1]⟩,⟨some 49,.bin .lss,[.t 46,.t 48],none,[0,2]⟩,⟨some 45,.mv,[.t 49],none,[3]⟩]) (.cond (.t 45) (.ops false [⟨some 50,.mv,[.t 15],none,[]⟩,⟨some 51,.iadrA 2 1,[.t 14,.c (.i .i64 0)],none,[0]⟩,⟨none,.store 1,[.t 51,.t 50],none,[1,0,0]⟩]) (.seq (.ops false [⟨some 53,.mv,[.t 15],none,[]⟩,⟨some 54,.fadr 9,[.t 7],none,[]⟩,⟨some 55,.load 1 false,[.t 54],none,[1]⟩,⟨some 56,.bin .eql,[.t 53,.t 55],none,[0,2]⟩,⟨some 52,.mv,[.t 56],none,[3]⟩]) (.cond (.t 52) (.seq (.ops false [⟨some 57,.mv,[.t 15],none,[]⟩,⟨some 58,.mv,[.t 15],none,[]⟩,⟨some 59,.build [(.i .i64 0),(.i .i64 0)] [(0,1),(1,1)],[.t 57,.t 58],none,[0,1]⟩,⟨none,.store 2,[.t 10,.t 59],none,[2,0,1,2]⟩,⟨some 11,.mv,[.c (.i .i64 0)],none,[3,0,1,2,3]⟩]) .ret) (.seq (.ops false [⟨some 38,.mv,[.t 15],none,[]⟩,⟨some 39,.iadrA 2 1,[.t 14,.c (.i .i64 1)],none,[0]⟩,⟨none,.store 1,[.t 39,.t 38],none,[1,0,0]⟩]) (.exit 0)))))))))) (.ops false [⟨some 36,.mv,[.t 15],none,[]⟩,⟨some 37,.bin .add,[.t 36,.c (.i .i64 1)],none,[0]⟩,⟨some 15,.mv,[.t 37],none,[1,0,1]⟩])))))) (.seq (.ops false [⟨some 60,.load 2 true,[.t 14],none,[]⟩,⟨none,.store 2,[.t 10,.t 60],none,[0,0]⟩,⟨some 11,.mv,[.c (.i .i64 0)],none,[1,0,1]⟩]) .ret)))))))
def rs53 : List RV := [.cell 10 2 true,.tmp 11]
theorem fact53 : compF Tryz.prog 53 = some (ac53,rs53,61) := by kernel_rfl
abbrev fitC (ls : List Lim) (m : List Mov) (r : Req) : Int := firstE [bothC ls m, chkReq r]
def fitR (ls : List Lim) (m : List Mov) (r : Req) : Bool := decide (fitC ls m r = 0) && fitsB ls m r
theorem pure51 (ls : List Lim) (m : List Mov) (r : Req) : Pure Tryz.prog 51 [.sl 11 (ls.map Lim.pv), .sl 7 (m.map Mov.pv), r.pv] (.tup [.b (fitR ls m r), .i .i64 (fitC ls m r)]) := by
  refine pure_by fact51 (by simp) fun hw X hX => ?_
  unfold ac51 rs51
  have qe := @qR; repeat' first | (show Run _ (.cond _ _ _) _ _; refine run_condX (fun hc => ?_) (fun hc => ?_) <;> (try simp only [qH, rng_0] at hc) <;> try contradiction) | (show RunOps _ _ _ _ (⟨_, .call 97, _, _, _⟩ :: _) _ _; refine run_callX (hf := pure97 ls m) (hn := ?_)) | (show RunOps _ _ _ _ (⟨_, .call 79, _, _, _⟩ :: _) _ _; refine run_callX (hf := pure79 r) (hn := ?_)) | (show RunOps _ _ _ _ (⟨_, .call 83, _, _, _⟩ :: _) _ _; refine run_callX (hf := pure83 [_, _]) (hn := ?_)) | (first | refine Stp.h ?_ | (show ∀ K : St → List Ft → Prop, _; intro K hK) | (show runS _ _ _ _ _; first | refine qY (hq := ?_) | refine qZ (hq := ?_)) | (refine hK _ _ ?_; clear hK K) | (refine hK _ _ rfl ?_; clear hK K) | (refine qZ (hq := ?_); try exact trivial) | omega)
  · have e : fitR ls m r = false := by unfold fitR; rw [decide_eq_false hc, Bool.false_and]
    rw [e]; exact .refl _
  · have h1 : bothC ls m = 0 ∧ chkReq r = 0 ∧ True := ⟨(firstE_cons.1 hc).1, (firstE_cons.1 (firstE_cons.1 hc).2).1, trivial⟩
    have h2 := chkReq_0 h1.2.1
    have h0 : fitC ls m r = 0 := hc
    have qe := @qR; repeat' first | (show Run _ (.cond _ _ _) _ _; refine run_condX (fun hc => ?_) (fun hc => ?_) <;> (try simp only [qH, rng_0] at hc) <;> try contradiction) | (show RunOps _ _ _ _ (⟨_, .call 104, _, _, _⟩ :: _) _ _; refine run_callX (hf := pure104 ls m r h1.1 h1.2.1) (hn := ?_)) | (show RunOps _ _ _ _ (⟨_, .call _, _, _, _⟩ :: _) _ _; refine run_callX (hf := pureOpen ls m r r.minute h2.2.1 (by omega)) (hn := ?_)) | (first | refine Stp.h ?_ | (show ∀ K : St → List Ft → Prop, _; intro K hK) | (show runS _ _ _ _ _; first | refine qY (hq := ?_) | refine qZ (hq := ?_)) | (refine hK _ _ ?_; clear hK K) | (refine hK _ _ rfl ?_; clear hK K) | (refine qZ (hq := ?_); try exact trivial) | omega)
    have e : fitR ls m r = fitsB ls m r := by unfold fitR; rw [decide_eq_true h0, Bool.true_and]
    rw [e, h0, at_self]; exact .refl _
def freR (ls : List Lim) (m : List Mov) (r : Req) (a b : Int) : List Int := if seaC ls m r a b = 0 then freL ls m r a b else []
theorem seaC_0 {ls : List Lim} {m : List Mov} {r : Req} {a b : Int} (h : seaC ls m r a b = 0) : bothC ls m = 0 ∧ chkReq r = 0 ∧ 0 ≤ a ∧ a ≤ b ∧ b ≤ 1439 := by
  unfold seaC at h
  have h1 := firstE_cons.1 h
  have h2 := firstE_cons.1 h1.2
  have h3 := firstE_cons.1 h2.2
  have h4 := firstE_cons.1 h3.2
  have h5 := (firstE_cons.1 h4.2).1
  rw [ite_eq0 (by decide)] at h5
  have h6 := rng_0.1 h3.1
  have h7 := rng_0.1 h4.1
  exact ⟨h1.1, h2.1, by omega, by omega, by omega⟩
theorem pure52 (ls : List Lim) (m : List Mov) (r : Req) (a b : Int) : Pure Tryz.prog 52 [.sl 11 (ls.map Lim.pv), .sl 7 (m.map Mov.pv), r.pv, .i .i64 a, .i .i64 b] (.tup [.sl 1 ((freR ls m r a b).map (.i .i64)), .i .i64 (seaC ls m r a b)]) := by
  refine pure_by fact52 (by simp) fun hw X hX => ?_
  unfold ac52 rs52
  have qe := @qR; repeat' first | (show Run _ (.cond _ _ _) _ _; refine run_condX (fun hc => ?_) (fun hc => ?_) <;> (try simp only [qH, rng_0] at hc) <;> try contradiction) | (show RunOps _ _ _ _ (⟨_, .call 106, _, _, _⟩ :: _) _ _; refine run_callX (hf := pure106 ls m r a b) (hn := ?_)) | (first | refine Stp.h ?_ | (show ∀ K : St → List Ft → Prop, _; intro K hK) | (show runS _ _ _ _ _; first | refine qY (hq := ?_) | refine qZ (hq := ?_)) | (refine hK _ _ ?_; clear hK K) | (refine hK _ _ rfl ?_; clear hK K) | (refine qZ (hq := ?_); try exact trivial) | omega)
  · rw [freR, if_neg hc]; exact weak2 (.nilsl _) (.refl _)
  · have h0 := hc
    have h1 := seaC_0 hc
    have qe := @qR; repeat' first | (show Run _ (.cond _ _ _) _ _; refine run_condX (fun hc => ?_) (fun hc => ?_) <;> (try simp only [qH, rng_0] at hc) <;> try contradiction) | (show RunOps _ _ _ _ (⟨_, .call 104, _, _, _⟩ :: _) _ _; refine run_callX (hf := pure104 ls m r h1.1 h1.2.1) (hn := ?_)) | (first | refine Stp.h ?_ | (show ∀ K : St → List Ft → Prop, _; intro K hK) | (show runS _ _ _ _ _; first | refine qY (hq := ?_) | refine qZ (hq := ?_)) | (refine hK _ _ ?_; clear hK K) | (refine hK _ _ rfl ?_; clear hK K) | (refine qZ (hq := ?_); try exact trivial) | omega)
    refine run_own 100 3 1 [(3, .p (.i .i64 a)), (13, .p (.fn (.func 105) [.ip (.agg ((outK (evA ls m r) 1440).map PV.b)) 0] [])), (14, .row 100 0), (33, .p (.i .i64 (b - a + 1))), (34, .p (.i .i64 0))] [] ?_ ?_
    · simp only [Own, ownEnv, ownObj, nilTo, nilTos, qS, Nat.reduceAdd, Nat.reduceMul, Nat.reduceEqDiff, Nat.reduceLeDiff, reduceIte, reduceCtorEq, Nat.reduceBEq, Nat.reduceLT]
    refine run_loop (κ := Nat) (fun k => ⟨[(3, .p (.i .i64 a)), (13, .p (.fn (.func 105) [.ip (.agg ((outK (evA ls m r) 1440).map PV.b)) 0] [])), (14, .row 100 (freS (fun n => fitsB ls m (r.at n)) a k).length), (33, .p (.i .i64 (b - a + 1))), (34, .p (.i .i64 k))], [(100, .row 3 1 ((freS (fun n => fitsB ls m (r.at n)) a k).map (.i .i64)) false)], [], false⟩) (fun k => k ≤ (b - a + 1).toNat) (fun k => (b - a + 1).toNat - k) 0 ?_ ?_ ?_
    · simp only [qS, Nat.reduceAdd, Nat.reduceMul, Nat.reduceEqDiff, Nat.reduceLeDiff, reduceIte, reduceCtorEq, Nat.reduceBEq, Nat.reduceLT] <;> simp [freS]
    · simp
    · intro k hk
      have hll := freS_len (fun n => fitsB ls m (r.at n)) a k
      have hnx := freS_next (fun n => fitsB ls m (r.at n)) a k
      repeat (first | refine Stp.h ?_ | (show ∀ K : St → List Ft → Prop, _; intro K hK) | (show runS _ _ _ _ _; first | refine qY (hq := ?_) | refine qZ (hq := ?_)) | (refine hK _ _ ?_; clear hK K) | (refine hK _ _ rfl ?_; clear hK K) | (refine qZ (hq := ?_); try exact trivial) | omega)
      (show Run _ (.cond _ _ _) _ _; refine run_condX (fun hc => ?_) (fun hc => ?_) <;> (try simp only [qH, rng_0] at hc) <;> try contradiction)
      · have qe := @qR; repeat' first | (show Run _ (.cond _ _ _) _ _; refine run_condX (fun hc => ?_) (fun hc => ?_) <;> (try simp only [qH, rng_0] at hc) <;> try contradiction) | (show RunOps _ _ _ _ (⟨_, .callv, _, _, _⟩ :: _) _ _; refine run_callVX (hf := pureOpen ls m r (a + k) (by omega) (by omega)) (hn := ?_)) | (first | refine Stp.h ?_ | (show ∀ K : St → List Ft → Prop, _; intro K hK) | (show runS _ _ _ _ _; first | refine qY (hq := ?_) | refine qZ (hq := ?_)) | (refine hK _ _ ?_; clear hK K) | (refine hK _ _ rfl ?_; clear hK K) | (refine qZ (hq := ?_); try exact trivial) | omega)
        · rw [if_pos hc] at hnx
          exact ⟨k + 1, by omega, by omega, ⟨by rw [hnx]; simp, by simp⟩, by rw [hnx]; simp⟩
        · rw [if_neg (by rw [hc]; decide), List.append_nil] at hnx
          exact ⟨k + 1, by omega, by omega, ⟨by rw [hnx], by simp⟩, by rw [hnx]⟩
      · repeat' first | (show Run _ (.cond _ _ _) _ _; refine run_condX (fun hc => ?_) (fun hc => ?_) <;> (try simp only [qH, rng_0] at hc) <;> try contradiction) | (first | refine Stp.h ?_ | (show ∀ K : St → List Ft → Prop, _; intro K hK) | (show runS _ _ _ _ _; first | refine qY (hq := ?_) | refine qZ (hq := ?_)) | (refine hK _ _ ?_; clear hK K) | (refine hK _ _ rfl ?_; clear hK K) | (refine qZ (hq := ?_); try exact trivial) | omega)
        have e : k = (b - a + 1).toNat := by omega
        subst e; rw [freR, if_pos h0, h0]; exact .refl _
theorem freS_ge {p : Int → Bool} {a : Int} {k : Nat} {f : Int} (h : f ∈ freS p a k) : a ≤ f ∧ f < a + k := by
  obtain ⟨j, hj, h⟩ := List.mem_flatMap.1 h
  have := List.mem_range.1 hj
  split at h
  · simp at h; omega
  · cases h
theorem freS_split (p : Int → Bool) (a : Int) {k n : Nat} (h : k < n) : freS p a n = freS p a k ++ ((if p (a + k) then [a + k] else []) ++ freS p (a + k + 1) (n - (k + 1))) := by
  have e : n = k + (1 + (n - (k + 1))) := by omega
  have h1 : ∀ (c : Int) (q : Nat), freS p c q = flatI (fun x => if p x then [x] else []) c q := fun _ _ => rfl
  conv => lhs; rw [e]
  rw [h1, h1, h1, flatI_add, flatI_add]
  congr 2
  simp [flatI]
theorem near_keep {x : Int} : ∀ {R : List Int} {a : Int × Int}, (∀ f ∈ R, x < f) → 0 ≤ a.2 → R.foldl (nearStep x) a = a
  | [], _, _, _ => rfl
  | f :: r, a, h, ha => by
    have hf := h f (by simp)
    rw [List.foldl_cons, nearStep, if_neg (by omega), if_neg (by omega)]
    exact near_keep (fun g hg => h g (by simp [hg])) ha
theorem near_lt {x : Int} {L : List Int} (h : ∀ f ∈ L, f < x) : (nearF L x).2 = -1 := by
  have key : ∀ (L : List Int) (a : Int × Int), (∀ f ∈ L, f < x) → a.2 = -1 → (L.foldl (nearStep x) a).2 = -1 := by
    intro L
    induction L with
    | nil => intro a _ ha; exact ha
    | cons f r ih =>
      intro a hf ha
      have := hf f (by simp)
      rw [List.foldl_cons]
      exact ih _ (fun g hg => hf g (by simp [hg])) (by show (if x ≤ f ∧ a.2 < 0 then f else a.2) = -1; rw [if_neg (by omega)]; exact ha)
  exact key L _ h rfl
theorem near_app {x : Int} (A B : List Int) : nearF (A ++ B) x = B.foldl (nearStep x) (nearF A x) := by rw [nearF, List.foldl_append]; rfl
def neaR (ls : List Lim) (m : List Mov) (r : Req) (a b : Int) : Int × Int := if seaC ls m r a b = 0 then nearF (freL ls m r a b) r.minute else (0, 0)
theorem pure53 (ls : List Lim) (m : List Mov) (r : Req) (a b : Int) : Pure Tryz.prog 53 [.sl 11 (ls.map Lim.pv), .sl 7 (m.map Mov.pv), r.pv, .i .i64 a, .i .i64 b] (.tup [pair (neaR ls m r a b), .i .i64 (seaC ls m r a b)]) := by
  refine pure_by fact53 (by simp) fun hw X hX => ?_
  unfold ac53 rs53
  have qe := @qR; repeat' first | (show Run _ (.cond _ _ _) _ _; refine run_condX (fun hc => ?_) (fun hc => ?_) <;> (try simp only [qH, rng_0] at hc) <;> try contradiction) | (show RunOps _ _ _ _ (⟨_, .call 106, _, _, _⟩ :: _) _ _; refine run_callX (hf := pure106 ls m r a b) (hn := ?_)) | (first | refine Stp.h ?_ | (show ∀ K : St → List Ft → Prop, _; intro K hK) | (show runS _ _ _ _ _; first | refine qY (hq := ?_) | refine qZ (hq := ?_)) | (refine hK _ _ ?_; clear hK K) | (refine hK _ _ rfl ?_; clear hK K) | (refine qZ (hq := ?_); try exact trivial) | omega)
  · rw [neaR, if_neg hc]; exact .refl _
  · have h0 := hc
    have h1 := seaC_0 hc
    have hz : Int.toNat 1 = 1 := rfl
    have qe := @qR; repeat' first | (show Run _ (.cond _ _ _) _ _; refine run_condX (fun hc => ?_) (fun hc => ?_) <;> (try simp only [qH, rng_0] at hc) <;> try contradiction) | (show RunOps _ _ _ _ (⟨_, .call 104, _, _, _⟩ :: _) _ _; refine run_callX (hf := pure104 ls m r h1.1 h1.2.1) (hn := ?_)) | (first | refine Stp.h ?_ | (show ∀ K : St → List Ft → Prop, _; intro K hK) | (show runS _ _ _ _ _; first | refine qY (hq := ?_) | refine qZ (hq := ?_)) | (refine hK _ _ ?_; clear hK K) | (refine hK _ _ rfl ?_; clear hK K) | (refine qZ (hq := ?_); try exact trivial) | omega)
    generalize hp : (fun n => fitsB ls m (r.at n)) = p
    have hpn : ∀ n, fitsB ls m (r.at n) = p n := fun n => congrFun hp n
    have hN : neaR ls m r a b = nearF (freS p a (b - a + 1).toNat) r.minute := by rw [neaR, if_pos h0, freL, hp]
    rw [hN, h0]
    refine run_loop (κ := Nat) (fun k => ⟨[(4, .p (.i .i64 b)), (7, .lp 7 0), (10, .lp 10 0), (13, .p (.fn (.func 105) [.ip (.agg ((outK (evA ls m r) 1440).map PV.b)) 0] [])), (14, .lp 14 0), (15, .p (.i .i64 (a + k)))], [(7, .box (r.cells.map .p) false), (10, .box [.p (.i .i64 0), .p (.i .i64 0)] false), (14, .box [.p (.i .i64 (nearF (freS p a k) r.minute).1), .p (.i .i64 (nearF (freS p a k) r.minute).2)] false)], [], false⟩) (fun k => k ≤ (b - a + 1).toNat ∧ ∀ f ∈ freS p a k, f < r.minute) (fun k => (b - a + 1).toNat - k) 0 ?_ ?_ ?_
    · simp only [qS, Nat.reduceAdd, Nat.reduceMul, Nat.reduceEqDiff, Nat.reduceLeDiff, reduceIte, reduceCtorEq, Nat.reduceBEq, Nat.reduceLT]
      exact ⟨by simp, rfl⟩
    · simp [freS]
    · intro k hk
      have hnx := freS_next p a k
      have hlt := near_lt hk.2
      repeat (first | refine Stp.h ?_ | (show ∀ K : St → List Ft → Prop, _; intro K hK) | (show runS _ _ _ _ _; first | refine qY (hq := ?_) | refine qZ (hq := ?_)) | (refine hK _ _ ?_; clear hK K) | (refine hK _ _ rfl ?_; clear hK K) | (refine qZ (hq := ?_); try exact trivial) | omega)
      (show Run _ (.cond _ _ _) _ _; refine run_condX (fun hc => ?_) (fun hc => ?_) <;> (try simp only [qH, rng_0] at hc) <;> try contradiction)
      · have hsp := freS_split p a (show k < (b - a + 1).toNat by omega)
        have hrest : ∀ f ∈ freS p (a + k + 1) ((b - a + 1).toNat - (k + 1)), a + k < f := fun f hf => by have := freS_ge hf; omega
        cases hop : p (a + k)
        · rw [hop] at hnx hsp
          simp only [Bool.false_eq_true, if_false, List.append_nil] at hnx
          have hop' : fitsB ls m (r.at (a + k)) = false := (hpn _).trans hop
          have qe := And.intro qR (And.intro @hop' @hz); repeat' first | (show Run _ (.cond _ _ _) _ _; refine run_condX (fun hc => ?_) (fun hc => ?_) <;> (try simp only [qH, rng_0] at hc) <;> try contradiction) | (show RunOps _ _ _ _ (⟨_, .callv, _, _, _⟩ :: _) _ _; refine run_callVX (hf := pureOpen ls m r (a + k) (by omega) (by omega)) (hn := ?_)) | (first | refine Stp.h ?_ | (show ∀ K : St → List Ft → Prop, _; intro K hK) | (show runS _ _ _ _ _; first | refine qY (hq := ?_) | refine qZ (hq := ?_)) | (refine hK _ _ ?_; clear hK K) | (refine hK _ _ rfl ?_; clear hK K) | (refine qZ (hq := ?_); try exact trivial) | omega)
          exact ⟨k + 1, ⟨by omega, by rw [hnx]; exact hk.2⟩, by omega, by simp; omega, by rw [hnx]⟩
        · rw [hop] at hnx hsp
          simp only [if_true] at hnx hsp
          have hop' : fitsB ls m (r.at (a + k)) = true := (hpn _).trans hop
          by_cases h3 : a + k < r.minute
          · have h3' := eq_true h3
            have qe := And.intro qR (And.intro @hop' (And.intro @h3' @hz)); repeat' first | (show Run _ (.cond _ _ _) _ _; refine run_condX (fun hc => ?_) (fun hc => ?_) <;> (try simp only [qH, rng_0] at hc) <;> try contradiction) | (show RunOps _ _ _ _ (⟨_, .callv, _, _, _⟩ :: _) _ _; refine run_callVX (hf := pureOpen ls m r (a + k) (by omega) (by omega)) (hn := ?_)) | (first | refine Stp.h ?_ | (show ∀ K : St → List Ft → Prop, _; intro K hK) | (show runS _ _ _ _ _; first | refine qY (hq := ?_) | refine qZ (hq := ?_)) | (refine hK _ _ ?_; clear hK K) | (refine hK _ _ rfl ?_; clear hK K) | (refine qZ (hq := ?_); try exact trivial) | omega)
            have hns : nearF (freS p a (k + 1)) r.minute = (a + k, (nearF (freS p a k) r.minute).2) := by
              rw [hnx, near_app]
              simp only [List.foldl_cons, List.foldl_nil, nearStep]
              rw [if_pos (by omega), if_neg (by omega)]
            exact ⟨k + 1, ⟨by omega, fun f hf => by
              rw [hnx] at hf
              rcases List.mem_append.1 hf with h | h
              · exact hk.2 f h
              · simp at h; omega⟩, by omega, by simp; omega, by rw [hns]⟩
          · have h3' := eq_false h3
            by_cases h4 : a + k = r.minute
            · have h4' := eq_true h4
              have qe := And.intro qR (And.intro @hop' (And.intro @h3' (And.intro @h4' @hz))); repeat' first | (show Run _ (.cond _ _ _) _ _; refine run_condX (fun hc => ?_) (fun hc => ?_) <;> (try simp only [qH, rng_0] at hc) <;> try contradiction) | (show RunOps _ _ _ _ (⟨_, .callv, _, _, _⟩ :: _) _ _; refine run_callVX (hf := pureOpen ls m r (a + k) (by omega) (by omega)) (hn := ?_)) | (first | refine Stp.h ?_ | (show ∀ K : St → List Ft → Prop, _; intro K hK) | (show runS _ _ _ _ _; first | refine qY (hq := ?_) | refine qZ (hq := ?_)) | (refine hK _ _ ?_; clear hK K) | (refine hK _ _ rfl ?_; clear hK K) | (refine qZ (hq := ?_); try exact trivial) | omega)
              have hns : nearF (freS p a (b - a + 1).toNat) r.minute = (a + k, a + k) := by
                have hst : nearStep r.minute (nearF (freS p a k) r.minute) (a + k) = (a + k, a + k) := by rw [nearStep, if_pos (by omega), if_pos ⟨by omega, by rw [hlt]; decide⟩]
                rw [hsp, near_app, List.singleton_append, List.foldl_cons, hst]
                exact near_keep (fun f hf => by have := hrest f hf; omega) (by simp only; omega)
              rw [hns]; exact .refl _
            · have h4' := eq_false h4
              have qe := And.intro qR (And.intro @hop' (And.intro @h3' (And.intro @h4' @hz))); repeat' first | (show Run _ (.cond _ _ _) _ _; refine run_condX (fun hc => ?_) (fun hc => ?_) <;> (try simp only [qH, rng_0] at hc) <;> try contradiction) | (show RunOps _ _ _ _ (⟨_, .callv, _, _, _⟩ :: _) _ _; refine run_callVX (hf := pureOpen ls m r (a + k) (by omega) (by omega)) (hn := ?_)) | (first | refine Stp.h ?_ | (show ∀ K : St → List Ft → Prop, _; intro K hK) | (show runS _ _ _ _ _; first | refine qY (hq := ?_) | refine qZ (hq := ?_)) | (refine hK _ _ ?_; clear hK K) | (refine hK _ _ rfl ?_; clear hK K) | (refine qZ (hq := ?_); try exact trivial) | omega)
              have hns : nearF (freS p a (b - a + 1).toNat) r.minute = ((nearF (freS p a k) r.minute).1, a + k) := by
                have hst : nearStep r.minute (nearF (freS p a k) r.minute) (a + k) = ((nearF (freS p a k) r.minute).1, a + k) := by rw [nearStep, if_neg (by omega), if_pos ⟨by omega, by rw [hlt]; decide⟩]
                rw [hsp, near_app, List.singleton_append, List.foldl_cons, hst]
                exact near_keep (fun f hf => by have := hrest f hf; omega) (by simp only; omega)
              rw [hns]; exact .refl _
      · have qe := @qR; repeat' first | (show Run _ (.cond _ _ _) _ _; refine run_condX (fun hc => ?_) (fun hc => ?_) <;> (try simp only [qH, rng_0] at hc) <;> try contradiction) | (first | refine Stp.h ?_ | (show ∀ K : St → List Ft → Prop, _; intro K hK) | (show runS _ _ _ _ _; first | refine qY (hq := ?_) | refine qZ (hq := ?_)) | (refine hK _ _ ?_; clear hK K) | (refine hK _ _ rfl ?_; clear hK K) | (refine qZ (hq := ?_); try exact trivial) | omega)
        have e : k = (b - a + 1).toNat := by omega
        subst e
        exact .refl _
end Go.Proofs.YtcfbdeghmckelaaGreat
