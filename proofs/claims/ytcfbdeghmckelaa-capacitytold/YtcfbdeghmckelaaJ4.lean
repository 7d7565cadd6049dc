/- Contracts of functions that the proof uses, shared by the claims of this seat; no statement of its own. Part 5. No conditions. -/
import Derived.Test.YtcfbdeghmckelaaJ3
set_option linter.all false
namespace Go.Proofs.Ytcfbdeghmckelaa
open Go.RowKit
set_option maxRecDepth 100000
set_option linter.unusedVariables false
set_option linter.unusedSimpArgs false
set_option maxHeartbeats 4000000
theorem roomK_lt {ls : List Lim} : ∀ {W : List Win} {a : Int}, 1 ≤ a → (W.foldl (roomStep ls) a < 1 ↔ ∃ w ∈ W, mostAt ls w.lim ≤ w.cnt)
  | [], a, h => by simp; omega
  | w :: r, a, h => by
    rw [List.foldl_cons]
    by_cases hw : mostAt ls w.lim ≤ w.cnt
    · refine iff_of_true ?_ ⟨w, by simp, hw⟩
      have key : ∀ (r : List Win) (b : Int), b < 1 → r.foldl (roomStep ls) b < 1 := by
        intro r
        induction r with
        | nil => intro b hb; exact hb
        | cons x r ih => intro b hb; rw [List.foldl_cons]; refine ih _ ?_; unfold roomStep; omega
      exact key r _ (by unfold roomStep; omega)
    · rw [roomK_lt (W := r) (a := roomStep ls a w) (by unfold roomStep; omega)]
      constructor
      · rintro ⟨x, hx, hh⟩; exact ⟨x, by simp [hx], hh⟩
      · rintro ⟨x, hx, hh⟩
        rcases List.mem_cons.1 hx with rfl | hx
        · exact absurd hh hw
        · exact ⟨x, hx, hh⟩
theorem room_lt {ls : List Lim} {m : List Mov} {o : Mov} : roomL ls m o < 1 ↔ ∃ w ∈ arW ls m o, mostAt ls w.lim ≤ w.cnt := roomK_lt (by decide)
theorem arW_in {ls : List Lim} {m : List Mov} {o : Mov} {i : Nat} {l : Lim} {e : Nat} {b : Int} (hl : ls[i]? = some l) (hc : countsL l o.kind o.term = true) (he : e < 2) (hb : b ∈ beginsL l (o.moment / 1440 - 1 + e)) (h1 : b ≤ o.moment) (h2 : o.moment < b + l.len) : (⟨i, b, cntAll l m b⟩ : Win) ∈ arW ls m o := by
  refine List.mem_flatMap.2 ⟨i, List.mem_range.2 (List.getElem?_eq_some_iff.1 hl).1, ?_⟩
  rw [arI, hl]
  simp only [arL, hc, if_true]
  refine List.mem_flatMap.2 ⟨e, List.mem_range.2 he, List.mem_flatMap.2 ⟨b, hb, ?_⟩⟩
  rw [arB, if_pos ⟨h1, h2⟩]; simp
theorem evA_at {ls : List Lim} {m : List Mov} {r : Req} {v : Nat × Nat} (h : v ∈ evA ls m r) : ∃ (i : Nat) (l : Lim) (d : Int) (e : Nat) (b : Int), ls[i]? = some l ∧ countsL l r.kind r.term = true ∧ d ∈ daysL r.per ∧ e < 2 ∧ b ∈ beginsL l (d - 1 + e) ∧ l.most ≤ cntAll l m b ∧ (v.1 : Int) = max 0 (b - 1440 * d) ∧ (v.2 : Int) = min 1440 (b + l.len - 1440 * d) ∧ v.1 < v.2 := by
  obtain ⟨i, _, h⟩ := List.mem_flatMap.1 h
  unfold evI at h
  split at h
  · rename_i l hl
    unfold evL at h
    split at h
    · rename_i hc
      obtain ⟨d, hd, h⟩ := List.mem_flatMap.1 h
      obtain ⟨e, he, h⟩ := List.mem_flatMap.1 h
      obtain ⟨b, hb, h⟩ := List.mem_flatMap.1 h
      unfold evB at h
      split at h
      · cases h
      · split at h
        · simp only [List.mem_singleton] at h; subst h
          exact ⟨i, l, d, e, b, hl, hc, hd, List.mem_range.1 he, hb, by omega, by simp only; omega, by simp only; omega, by simp only; omega⟩
        · cases h
    · cases h
  · cases h
theorem evA_in {ls : List Lim} {m : List Mov} {r : Req} {i : Nat} {l : Lim} {d : Int} {e : Nat} {b : Int} (hl : ls[i]? = some l) (hc : countsL l r.kind r.term = true) (hd : d ∈ daysL r.per) (he : e < 2) (hb : b ∈ beginsL l (d - 1 + e)) (hm : l.most ≤ cntAll l m b) (hlt : max 0 (b - 1440 * d) < min 1440 (b + l.len - 1440 * d)) : ((max 0 (b - 1440 * d)).toNat, (min 1440 (b + l.len - 1440 * d)).toNat) ∈ evA ls m r := by
  refine List.mem_flatMap.2 ⟨i, List.mem_range.2 (List.getElem?_eq_some_iff.1 hl).1, ?_⟩
  rw [evI, hl]
  simp only [evL, hc, if_true]
  refine List.mem_flatMap.2 ⟨d, hd, List.mem_flatMap.2 ⟨e, List.mem_range.2 he, List.mem_flatMap.2 ⟨b, hb, ?_⟩⟩⟩
  rw [evB, if_neg (by omega), if_pos hlt]; simp
theorem ref_fits {ls : List Lim} {m : List Mov} {r : Req} {n : Int} (h0 : 0 ≤ n) (h1 : n < 1440) : (!refV (evA ls m r) n.toNat) = fitsB ls m (r.at n) := by
  rw [Bool.eq_iff_iff, Bool.not_eq_true', ← Bool.not_eq_true, refV, List.any_eq_true, fitsB, List.all_eq_true]
  constructor
  · intro h o ho
    obtain ⟨d, hd, rfl⟩ := List.mem_map.1 ho
    simp only [Bool.not_eq_true', decide_eq_false_iff_not]
    intro hlt
    obtain ⟨w, hw, hf⟩ := room_lt.1 hlt
    obtain ⟨i, l, hwi, hli, hwc, hcl, hb1, hb2, e, he, hbb⟩ := arW_at hw
    have hma : mostAt ls w.lim = l.most := by rw [mostAt, hwi, Int.toNat_natCast, hli]
    have hD : (movOf (r.at n) d).moment / 1440 = d := by simp only [movOf, Req.at]; omega
    have hM : (movOf (r.at n) d).moment = 1440 * d + n := rfl
    rw [hD] at hbb
    rw [hM] at hb1 hb2
    refine h ⟨_, evA_in (m := m) (r := r) hli hcl hd he hbb (by omega) (by omega), ?_⟩
    simp only [hitN, Bool.and_eq_true, decide_eq_true_eq]; omega
  · rintro h ⟨v, hv, hh⟩
    obtain ⟨i, l, d, e, b, hli, hcl, hd, he, hbb, hm, hv1, hv2, hv3⟩ := evA_at hv
    simp only [hitN, Bool.and_eq_true, decide_eq_true_eq] at hh
    have hD : (movOf (r.at n) d).moment / 1440 = d := by simp only [movOf, Req.at]; omega
    have hM : (movOf (r.at n) d).moment = 1440 * d + n := rfl
    have := h (movOf (r.at n) d) (List.mem_map.2 ⟨d, hd, rfl⟩)
    simp only [Bool.not_eq_true', decide_eq_false_iff_not] at this
    refine this (room_lt.2 ⟨_, arW_in (m := m) (o := movOf (r.at n) d) hli hcl he (by rw [hD]; exact hbb) (by rw [hM]; omega) (by rw [hM]; omega), ?_⟩)
    simp only [mostAt, Int.toNat_natCast, hli]; exact hm
theorem outK_full {P : List (Nat × Nat)} {j : Nat} (hj : j < 1440) : (outK P 1440)[j]? = some (refV P j) := by rw [outK_at hj, decide_eq_true hj, Bool.true_and]
theorem pureOpen (ls : List Lim) (m : List Mov) (r : Req) (n : Int) (h0 : 0 ≤ n) (h1 : n < 1440) : Pure Try.prog 55 [.ip (.agg ((outK (evA ls m r) 1440).map PV.b)) 0, .i .i64 n] (.b (fitsB ls m (r.at n))) := by
  have := pure105 (outK (evA ls m r) 1440) (outK_len _ _) n.toNat _ (outK_full (by omega))
  rw [ref_fits h0 h1, Int.toNat_of_nonneg h0] at this
  exact this
theorem at_self (r : Req) : r.at r.minute = r := rfl
def ac51 : AC := .seq (.ops false [⟨some 5,.box,[.t 2],none,[]⟩,⟨some 6,.mv,[.c (.b false)],none,[]⟩,⟨some 7,.mv,[.c (.i .i64 0)],none,[1]⟩]) (.seq (.seq (.ops true [⟨some 10,.mv,[.t 0],none,[]⟩,⟨some 11,.mv,[.t 1],none,[]⟩,⟨some 12,.call 26,[.t 10,.t 11],none,[0,1]⟩,⟨some 13,.load 13 true,[.t 5],none,[]⟩,⟨some 14,.call 52,[.t 13],none,[3,2]⟩,⟨some 15,.bslice 29 1 (.i .i64 0) 2 [0,1],[.t 12,.t 14],none,[2,4]⟩,⟨some 16,.call 28,[.t 15],none,[5,4]⟩,⟨some 8,.mv,[.t 16],none,[6,6,0,1,2,3,4,5,6]⟩]) (.seq (.ops false [⟨some 17,.mv,[.t 8],none,[]⟩,⟨some 18,.bin .neq,[.t 17,.c (.i .i64 0)],none,[0]⟩]) (.cond (.t 18) (.seq (.ops false [⟨some 19,.mv,[.t 8],none,[]⟩,⟨some 6,.mv,[.c (.b false)],none,[]⟩,⟨some 7,.mv,[.t 19],none,[0,1,0,1]⟩]) .ret) .skip))) (.seq (.ops false [⟨some 20,.mv,[.t 0],none,[]⟩,⟨some 21,.mv,[.t 1],none,[]⟩,⟨some 22,.load 13 true,[.t 5],none,[]⟩,⟨some 23,.call 54,[.t 20,.t 21,.t 22],none,[0,1,2]⟩,⟨some 9,.mv,[.t 23],none,[3,3,0,1,2,3]⟩]) (.seq (.ops false [⟨some 24,.mv,[.t 9],none,[]⟩,⟨some 25,.fadr 9,[.t 5],none,[]⟩,⟨some 26,.load 1 false,[.t 25],none,[1]⟩,⟨some 27,.call 55,[.t 24,.t 26],none,[0,2]⟩,⟨some 6,.mv,[.t 27],none,[3,3,0,1,2,3]⟩,⟨some 7,.mv,[.c (.i .i64 0)],none,[4,0,1,2,3,4]⟩]) .ret)))
def rs51 : List RV := [.tmp 6,.tmp 7]
theorem fact51 : compF Try.prog 23 = some (ac51,rs51,28) := by kernel_rfl
def ac52 : AC := .seq (.ops false [⟨some 7,.box,[.t 2],none,[]⟩,⟨some 10,.mv,[.c .nilsl],none,[]⟩,⟨some 11,.mv,[.c (.i .i64 0)],none,[1]⟩]) (.seq (.seq (.ops false [⟨some 16,.mv,[.t 0],none,[]⟩,⟨some 17,.mv,[.t 1],none,[]⟩,⟨some 18,.load 13 true,[.t 7],none,[]⟩,⟨some 19,.mv,[.t 3],none,[]⟩,⟨some 20,.mv,[.t 4],none,[]⟩,⟨some 21,.call 56,[.t 16,.t 17,.t 18,.t 19,.t 20],none,[0,1,2,3,4]⟩,⟨some 12,.mv,[.t 21],none,[5,5,0,1,2,3,4,5]⟩]) (.seq (.ops false [⟨some 22,.mv,[.t 12],none,[]⟩,⟨some 23,.bin .neq,[.t 22,.c (.i .i64 0)],none,[0]⟩]) (.cond (.t 23) (.seq (.ops false [⟨some 24,.mv,[.t 12],none,[]⟩,⟨some 10,.mv,[.c .nilsl],none,[]⟩,⟨some 11,.mv,[.t 24],none,[0,1,0,1]⟩]) .ret) .skip))) (.seq (.ops false [⟨some 25,.mv,[.t 0],none,[]⟩,⟨some 26,.mv,[.t 1],none,[]⟩,⟨some 27,.load 13 true,[.t 7],none,[]⟩,⟨some 28,.call 54,[.t 25,.t 26,.t 27],none,[0,1,2]⟩,⟨some 29,.mkfn (.func 55) 1,[.t 28],none,[3]⟩,⟨some 13,.mv,[.t 29],none,[4,3,0,1,2,3,4]⟩]) (.seq (.ops false [⟨some 14,.mv,[.c .nilsl],none,[]⟩]) (.seq (.seq (.ops false [⟨some 30,.mv,[.t 4],none,[]⟩,⟨some 31,.mv,[.t 3],none,[]⟩,⟨some 32,.bin .sub,[.t 30,.t 31],none,[0,1]⟩,⟨some 33,.bin .add,[.t 32,.c (.i .i64 1)],none,[2]⟩,⟨some 34,.mv,[.c (.i .i64 0)],none,[]⟩]) (.block 0 (.loop (.seq (.ops false [⟨some 35,.bin .lss,[.t 34,.t 33],none,[]⟩]) (.seq (.cond (.t 35) .skip (.exit 0)) (.seq (.block 1 (.seq (.ops false [⟨some 36,.mv,[.t 34],none,[]⟩,⟨some 15,.mv,[.t 36],none,[0,0]⟩]) (.seq (.ops false [⟨some 37,.mv,[.t 13],none,[]⟩,⟨some 38,.mv,[.t 3],none,[]⟩,⟨some 39,.mv,[.t 15],none,[]⟩,⟨some 40,.bin .add,[.t 38,.t 39],none,[1,2]⟩,⟨some 41,.callv,[.t 37,.t 40],none,[0,3]⟩]) (.cond (.t 41) (.ops false [⟨some 42,.mv,[.t 14],none,[]⟩,⟨some 43,.mv,[.t 3],none,[]⟩,⟨some 44,.mv,[.t 15],none,[]⟩,⟨some 45,.bin .add,[.t 43,.t 44],none,[1,2]⟩,⟨some 46,.bslice 3 1 (.i .i64 0) 1 [0],[.t 45],none,[3]⟩,⟨some 47,.app 3 1 8,[.t 42,.t 46],none,[0,4]⟩,⟨some 14,.mv,[.t 47],none,[5,5,0,1,2,3,4,5]⟩]) .skip)))) (.ops false [⟨some 48,.bin .add,[.t 34,.c (.i .i64 1)],none,[]⟩,⟨some 34,.mv,[.t 48],none,[0]⟩]))))))) (.seq (.ops false [⟨some 49,.mv,[.t 14],none,[]⟩,⟨some 10,.mv,[.t 49],none,[0,0]⟩,⟨some 11,.mv,[.c (.i .i64 0)],none,[1,0,1]⟩]) .ret)))))
def rs52 : List RV := [.tmp 10,.tmp 11]
theorem fact52 : compF Try.prog 24 = some (ac52,rs52,50) := by kernel_rfl
def ac53 : AC := .seq (.ops false [⟨some 7,.box,[.t 2],none,[]⟩,⟨some 10,.alloc [(.i .i64 0),(.i .i64 0)],[],none,[]⟩,⟨some 11,.mv,[.c (.i .i64 0)],none,[]⟩]) (.scope (.seq (.seq (.ops false [⟨some 16,.mv,[.t 0],none,[]⟩,⟨some 17,.mv,[.t 1],none,[]⟩,⟨some 18,.load 13 true,[.t 7],none,[]⟩,⟨some 19,.mv,[.t 3],none,[]⟩,⟨some 20,.mv,[.t 4],none,[]⟩,⟨some 21,.call 56,[.t 16,.t 17,.t 18,.t 19,.t 20],none,[0,1,2,3,4]⟩,⟨some 12,.mv,[.t 21],none,[5,5,0,1,2,3,4,5]⟩]) (.seq (.ops false [⟨some 22,.mv,[.t 12],none,[]⟩,⟨some 23,.bin .neq,[.t 22,.c (.i .i64 0)],none,[0]⟩]) (.cond (.t 23) (.seq (.ops false [⟨some 24,.build [(.i .i64 0),(.i .i64 0)] [],[],none,[]⟩,⟨some 25,.mv,[.t 12],none,[]⟩,⟨none,.store 2,[.t 10,.t 24],none,[0,0]⟩,⟨some 11,.mv,[.t 25],none,[1,2,0,1,2]⟩]) .ret) .skip))) (.seq (.ops false [⟨some 26,.mv,[.t 0],none,[]⟩,⟨some 27,.mv,[.t 1],none,[]⟩,⟨some 28,.load 13 true,[.t 7],none,[]⟩,⟨some 29,.call 54,[.t 26,.t 27,.t 28],none,[0,1,2]⟩,⟨some 30,.mkfn (.func 55) 1,[.t 29],none,[3]⟩,⟨some 13,.mv,[.t 30],none,[4,3,0,1,2,3,4]⟩]) (.seq (.ops false [⟨some 31,.build [(.i .i64 0),(.i .i64 0)] [(0,1),(1,1)],[.c (.i .i64 (-1)),.c (.i .i64 (-1))],none,[]⟩,⟨some 14,.alloc [(.i .i64 0),(.i .i64 0)],[],none,[]⟩,⟨none,.store 2,[.t 14,.t 31],none,[1,0,0,1]⟩]) (.seq (.label) (.seq (.seq (.ops false [⟨some 32,.mv,[.t 3],none,[]⟩,⟨some 15,.mv,[.t 32],none,[0,0]⟩]) (.block 0 (.loop (.seq (.seq (.ops false [⟨some 33,.mv,[.t 15],none,[]⟩,⟨some 34,.mv,[.t 4],none,[]⟩,⟨some 35,.bin .leq,[.t 33,.t 34],none,[0,1]⟩]) (.cond (.t 35) .skip (.exit 0))) (.seq (.block 1 (.block 2 (.seq (.ops false [⟨some 41,.mv,[.t 13],none,[]⟩,⟨some 42,.mv,[.t 15],none,[]⟩,⟨some 43,.callv,[.t 41,.t 42],none,[0,1]⟩,⟨some 44,.not,[.t 43],none,[2]⟩,⟨some 40,.mv,[.t 44],none,[3,2]⟩]) (.cond (.t 40) .skip (.seq (.ops false [⟨some 46,.mv,[.t 15],none,[]⟩,⟨some 47,.fadr 9,[.t 7],none,[]⟩,⟨some 48,.load 1 false,[.t 47],none,[1]⟩,⟨some 49,.bin .lss,[.t 46,.t 48],none,[0,2]⟩,⟨some 45,.mv,[.t 49],none,[3]⟩]) (.cond (.t 45) (.ops false [⟨some 50,.mv,[.t 15],none,[]⟩,⟨some 51,.iadrA 2 1,[.t 14,.c (.i .i64 0)],none,[0]⟩,⟨none,.store 1,[.t 51,.t 50],none,[1,0,0]⟩]) (.seq (.ops false [⟨some 53,.mv,[.t 15],none,[]⟩,⟨some 54,.fadr 9,[.t 7],none,[]⟩,⟨some 55,.load 1 false,[.t 54],none,[1]⟩,⟨some 56,.bin .eql,[.t 53,.t 55],none,[0,2]⟩,⟨some 52,.mv,[.t 56],none,[3]⟩]) (.cond (.t 52) (.seq (.ops false [⟨some 57,.mv,[.t 15],none,[]⟩,⟨some 58,.mv,[.t 15],none,[]⟩,⟨some 59,.build [(.i .i64 0),(.i .i64 0)] [(0,1),(1,1)],[.t 57,.t 58],none,[0,1]⟩,⟨none,.store 2,[.t 10,.t 59],none,[2,0,1,2]⟩,⟨some 11,.mv,[.c (.i .i64 0)],none,[3,0,1,2,3]⟩]) .ret) (.seq (.ops false [⟨some 38,.mv,[.t 15],none,[]⟩,⟨some 39,.iadrA 2 1,[.t 14,.c (.i .i64 1)],none,[0]⟩,⟨none,.store 1,[.t 39,.t 38],none,[1,0,0]⟩]) (.exit 0)))))))))) (.ops false [⟨some 36,.mv,[.t 15],none,[]⟩,⟨some 37,.bin .add,[.t 36,.c (.i .i64 1)],none,[0]⟩,⟨some 15,.mv,[.t 37],none,[1,0,1]⟩])))))) (.seq (.ops false [⟨some 60,.load 2 true,[.t 14],none,[]⟩,⟨none,.store 2,[.t 10,.t 60],none,[0,0]⟩,⟨some 11,.mv,[.c (.i .i64 0)],none,[1,0,1]⟩]) .ret)))))))
def rs53 : List RV := [.cell 10 2 true,.tmp 11]
theorem fact53 : compF Try.prog 25 = some (ac53,rs53,61) := by kernel_rfl
abbrev fitC (ls : List Lim) (m : List Mov) (r : Req) : Int := firstE [bothC ls m, chkReq r]
def fitR (ls : List Lim) (m : List Mov) (r : Req) : Bool := decide (fitC ls m r = 0) && fitsB ls m r
theorem pure51 (ls : List Lim) (m : List Mov) (r : Req) : Pure Try.prog 23 [.sl 11 (ls.map Lim.pv), .sl 7 (m.map Mov.pv), r.pv] (.tup [.b (fitR ls m r), .i .i64 (fitC ls m r)]) := by
  refine pure_by fact51 (by simp) fun hw X hX => ?_
  unfold ac51 rs51
  have qe := @qR; repeat' first | (show Run _ (.cond _ _ _) _ _; refine run_condX (fun hc => ?_) (fun hc => ?_) <;> (try simp only [qH, rng_0] at hc) <;> try contradiction) | (show RunOps _ _ _ _ (⟨_, .call 26, _, _, _⟩ :: _) _ _; refine run_callX (hf := pure97 ls m) (hn := ?_)) | (show RunOps _ _ _ _ (⟨_, .call 52, _, _, _⟩ :: _) _ _; refine run_callX (hf := pure79 r) (hn := ?_)) | (show RunOps _ _ _ _ (⟨_, .call 28, _, _, _⟩ :: _) _ _; refine run_callX (hf := pure83 [_, _]) (hn := ?_)) | (first | refine Stp.h ?_ | (show ∀ K : St → List Ft → Prop, _; intro K hK) | (show runS _ _ _ _ _; first | refine qY (hq := ?_) | refine qZ (hq := ?_)) | (refine hK _ _ ?_; clear hK K) | (refine hK _ _ rfl ?_; clear hK K) | (refine qZ (hq := ?_); try exact trivial) | omega)
  · have e : fitR ls m r = false := by unfold fitR; rw [decide_eq_false hc, Bool.false_and]
    rw [e]; exact .refl _
  · have h1 : bothC ls m = 0 ∧ chkReq r = 0 ∧ True := ⟨(firstE_cons.1 hc).1, (firstE_cons.1 (firstE_cons.1 hc).2).1, trivial⟩
    have h2 := chkReq_0 h1.2.1
    have h0 : fitC ls m r = 0 := hc
    have qe := @qR; repeat' first | (show Run _ (.cond _ _ _) _ _; refine run_condX (fun hc => ?_) (fun hc => ?_) <;> (try simp only [qH, rng_0] at hc) <;> try contradiction) | (show RunOps _ _ _ _ (⟨_, .call 54, _, _, _⟩ :: _) _ _; refine run_callX (hf := pure104 ls m r h1.1 h1.2.1) (hn := ?_)) | (show RunOps _ _ _ _ (⟨_, .call _, _, _, _⟩ :: _) _ _; refine run_callX (hf := pureOpen ls m r r.minute h2.2.1 (by omega)) (hn := ?_)) | (first | refine Stp.h ?_ | (show ∀ K : St → List Ft → Prop, _; intro K hK) | (show runS _ _ _ _ _; first | refine qY (hq := ?_) | refine qZ (hq := ?_)) | (refine hK _ _ ?_; clear hK K) | (refine hK _ _ rfl ?_; clear hK K) | (refine qZ (hq := ?_); try exact trivial) | omega)
    have e : fitR ls m r = fitsB ls m r := by unfold fitR; rw [decide_eq_true h0, Bool.true_and]
    rw [e, h0, at_self]; exact .refl _
def freR (ls : List Lim) (m : List Mov) (r : Req) (a b : Int) : List Int := if seaC ls m r a b = 0 then freL ls m r a b else []
theorem seaC_0 {ls : List Lim} {m : List Mov} {r : Req} {a b : Int} (h : seaC ls m r a b = 0) : bothC ls m = 0 ∧ chkReq r = 0 ∧ 0 ≤ a ∧ a ≤ b ∧ b ≤ 1439 := by
  unfold seaC at h
  have h1 := firstE_cons.1 h
  have h2 := firstE_cons.1 h1.2
  have h3 := firstE_cons.1 h2.2
  have h4 := firstE_cons.1 h3.2
  have h5 := (firstE_cons.1 h4.2).1
  rw [ite_eq0 (by decide)] at h5
  have h6 := rng_0.1 h3.1
  have h7 := rng_0.1 h4.1
  exact ⟨h1.1, h2.1, by omega, by omega, by omega⟩
theorem pure52 (ls : List Lim) (m : List Mov) (r : Req) (a b : Int) : Pure Try.prog 24 [.sl 11 (ls.map Lim.pv), .sl 7 (m.map Mov.pv), r.pv, .i .i64 a, .i .i64 b] (.tup [.sl 1 ((freR ls m r a b).map (.i .i64)), .i .i64 (seaC ls m r a b)]) := by
  refine pure_by fact52 (by simp) fun hw X hX => ?_
  unfold ac52 rs52
  have qe := @qR; repeat' first | (show Run _ (.cond _ _ _) _ _; refine run_condX (fun hc => ?_) (fun hc => ?_) <;> (try simp only [qH, rng_0] at hc) <;> try contradiction) | (show RunOps _ _ _ _ (⟨_, .call 56, _, _, _⟩ :: _) _ _; refine run_callX (hf := pure106 ls m r a b) (hn := ?_)) | (first | refine Stp.h ?_ | (show ∀ K : St → List Ft → Prop, _; intro K hK) | (show runS _ _ _ _ _; first | refine qY (hq := ?_) | refine qZ (hq := ?_)) | (refine hK _ _ ?_; clear hK K) | (refine hK _ _ rfl ?_; clear hK K) | (refine qZ (hq := ?_); try exact trivial) | omega)
  · rw [freR, if_neg hc]; exact weak2 (.nilsl _) (.refl _)
  · have h0 := hc
    have h1 := seaC_0 hc
    have qe := @qR; repeat' first | (show Run _ (.cond _ _ _) _ _; refine run_condX (fun hc => ?_) (fun hc => ?_) <;> (try simp only [qH, rng_0] at hc) <;> try contradiction) | (show RunOps _ _ _ _ (⟨_, .call 54, _, _, _⟩ :: _) _ _; refine run_callX (hf := pure104 ls m r h1.1 h1.2.1) (hn := ?_)) | (first | refine Stp.h ?_ | (show ∀ K : St → List Ft → Prop, _; intro K hK) | (show runS _ _ _ _ _; first | refine qY (hq := ?_) | refine qZ (hq := ?_)) | (refine hK _ _ ?_; clear hK K) | (refine hK _ _ rfl ?_; clear hK K) | (refine qZ (hq := ?_); try exact trivial) | omega)
    refine run_own 100 3 1 [(3, .p (.i .i64 a)), (13, .p (.fn (.func 55) [.ip (.agg ((outK (evA ls m r) 1440).map PV.b)) 0] [])), (14, .row 100 0), (33, .p (.i .i64 (b - a + 1))), (34, .p (.i .i64 0))] [] ?_ ?_
    · simp only [Own, ownEnv, ownObj, nilTo, nilTos, qS, Nat.reduceAdd, Nat.reduceMul, Nat.reduceEqDiff, Nat.reduceLeDiff, reduceIte, reduceCtorEq, Nat.reduceBEq, Nat.reduceLT]
    refine run_loop (κ := Nat) (fun k => ⟨[(3, .p (.i .i64 a)), (13, .p (.fn (.func 55) [.ip (.agg ((outK (evA ls m r) 1440).map PV.b)) 0] [])), (14, .row 100 (freS (fun n => fitsB ls m (r.at n)) a k).length), (33, .p (.i .i64 (b - a + 1))), (34, .p (.i .i64 k))], [(100, .row 3 1 ((freS (fun n => fitsB ls m (r.at n)) a k).map (.i .i64)) false)], [], false⟩) (fun k => k ≤ (b - a + 1).toNat) (fun k => (b - a + 1).toNat - k) 0 ?_ ?_ ?_
    · simp only [qS, Nat.reduceAdd, Nat.reduceMul, Nat.reduceEqDiff, Nat.reduceLeDiff, reduceIte, reduceCtorEq, Nat.reduceBEq, Nat.reduceLT] <;> simp [freS]
    · simp
    · intro k hk
      have hll := freS_len (fun n => fitsB ls m (r.at n)) a k
      have hnx := freS_next (fun n => fitsB ls m (r.at n)) a k
      repeat (first | refine Stp.h ?_ | (show ∀ K : St → List Ft → Prop, _; intro K hK) | (show runS _ _ _ _ _; first | refine qY (hq := ?_) | refine qZ (hq := ?_)) | (refine hK _ _ ?_; clear hK K) | (refine hK _ _ rfl ?_; clear hK K) | (refine qZ (hq := ?_); try exact trivial) | omega)
      (show Run _ (.cond _ _ _) _ _; refine run_condX (fun hc => ?_) (fun hc => ?_) <;> (try simp only [qH, rng_0] at hc) <;> try contradiction)
      · have qe := @qR; repeat' first | (show Run _ (.cond _ _ _) _ _; refine run_condX (fun hc => ?_) (fun hc => ?_) <;> (try simp only [qH, rng_0] at hc) <;> try contradiction) | (show RunOps _ _ _ _ (⟨_, .callv, _, _, _⟩ :: _) _ _; refine run_callVX (hf := pureOpen ls m r (a + k) (by omega) (by omega)) (hn := ?_)) | (first | refine Stp.h ?_ | (show ∀ K : St → List Ft → Prop, _; intro K hK) | (show runS _ _ _ _ _; first | refine qY (hq := ?_) | refine qZ (hq := ?_)) | (refine hK _ _ ?_; clear hK K) | (refine hK _ _ rfl ?_; clear hK K) | (refine qZ (hq := ?_); try exact trivial) | omega)
        · rw [if_pos hc] at hnx
          exact ⟨k + 1, by omega, by omega, ⟨by rw [hnx]; simp, by simp⟩, by rw [hnx]; simp⟩
        · rw [if_neg (by rw [hc]; decide), List.append_nil] at hnx
          exact ⟨k + 1, by omega, by omega, ⟨by rw [hnx], by simp⟩, by rw [hnx]⟩
      · repeat' first | (show Run _ (.cond _ _ _) _ _; refine run_condX (fun hc => ?_) (fun hc => ?_) <;> (try simp only [qH, rng_0] at hc) <;> try contradiction) | (first | refine Stp.h ?_ | (show ∀ K : St → List Ft → Prop, _; intro K hK) | (show runS _ _ _ _ _; first | refine qY (hq := ?_) | refine qZ (hq := ?_)) | (refine hK _ _ ?_; clear hK K) | (refine hK _ _ rfl ?_; clear hK K) | (refine qZ (hq := ?_); try exact trivial) | omega)
        have e : k = (b - a + 1).toNat := by omega
        subst e; rw [freR, if_pos h0, h0]; exact .refl _
theorem freS_ge {p : Int → Bool} {a : Int} {k : Nat} {f : Int} (h : f ∈ freS p a k) : a ≤ f ∧ f < a + k := by
  obtain ⟨j, hj, h⟩ := List.mem_flatMap.1 h
  have := List.mem_range.1 hj
  split at h
  · simp at h; omega
  · cases h
theorem freS_split (p : Int → Bool) (a : Int) {k n : Nat} (h : k < n) : freS p a n = freS p a k ++ ((if p (a + k) then [a + k] else []) ++ freS p (a + k + 1) (n - (k + 1))) := by
  have e : n = k + (1 + (n - (k + 1))) := by omega
  have h1 : ∀ (c : Int) (q : Nat), freS p c q = flatI (fun x => if p x then [x] else []) c q := fun _ _ => rfl
  conv => lhs; rw [e]
  rw [h1, h1, h1, flatI_add, flatI_add]
  congr 2
  simp [flatI]
theorem near_keep {x : Int} : ∀ {R : List Int} {a : Int × Int}, (∀ f ∈ R, x < f) → 0 ≤ a.2 → R.foldl (nearStep x) a = a
  | [], _, _, _ => rfl
  | f :: r, a, h, ha => by
    have hf := h f (by simp)
    rw [List.foldl_cons, nearStep, if_neg (by omega), if_neg (by omega)]
    exact near_keep (fun g hg => h g (by simp [hg])) ha
theorem near_lt {x : Int} {L : List Int} (h : ∀ f ∈ L, f < x) : (nearF L x).2 = -1 := by
  have key : ∀ (L : List Int) (a : Int × Int), (∀ f ∈ L, f < x) → a.2 = -1 → (L.foldl (nearStep x) a).2 = -1 := by
    intro L
    induction L with
    | nil => intro a _ ha; exact ha
    | cons f r ih =>
      intro a hf ha
      have := hf f (by simp)
      rw [List.foldl_cons]
      exact ih _ (fun g hg => hf g (by simp [hg])) (by show (if x ≤ f ∧ a.2 < 0 then f else a.2) = -1; rw [if_neg (by omega)]; exact ha)
  exact key L _ h rfl
theorem near_app {x : Int} (A B : List Int) : nearF (A ++ B) x = B.foldl (nearStep x) (nearF A x) := by rw [nearF, List.foldl_append]; rfl
def neaR (ls : List Lim) (m : List Mov) (r : Req) (a b : Int) : Int × Int := if seaC ls m r a b = 0 then nearF (freL ls m r a b) r.minute else (0, 0)
theorem pure53 (ls : List Lim) (m : List Mov) (r : Req) (a b : Int) : Pure Try.prog 25 [.sl 11 (ls.map Lim.pv), .sl 7 (m.map Mov.pv), r.pv, .i .i64 a, .i .i64 b] (.tup [pair (neaR ls m r a b), .i .i64 (seaC ls m r a b)]) := by
  refine pure_by fact53 (by simp) fun hw X hX => ?_
  unfold ac53 rs53
  have qe := @qR; repeat' first | (show Run _ (.cond _ _ _) _ _; refine run_condX (fun hc => ?_) (fun hc => ?_) <;> (try simp only [qH, rng_0] at hc) <;> try contradiction) | (show RunOps _ _ _ _ (⟨_, .call 56, _, _, _⟩ :: _) _ _; refine run_callX (hf := pure106 ls m r a b) (hn := ?_)) | (first | refine Stp.h ?_ | (show ∀ K : St → List Ft → Prop, _; intro K hK) | (show runS _ _ _ _ _; first | refine qY (hq := ?_) | refine qZ (hq := ?_)) | (refine hK _ _ ?_; clear hK K) | (refine hK _ _ rfl ?_; clear hK K) | (refine qZ (hq := ?_); try exact trivial) | omega)
  · rw [neaR, if_neg hc]; exact .refl _
  · have h0 := hc
    have h1 := seaC_0 hc
    have hz : Int.toNat 1 = 1 := rfl
    have qe := @qR; repeat' first | (show Run _ (.cond _ _ _) _ _; refine run_condX (fun hc => ?_) (fun hc => ?_) <;> (try simp only [qH, rng_0] at hc) <;> try contradiction) | (show RunOps _ _ _ _ (⟨_, .call 54, _, _, _⟩ :: _) _ _; refine run_callX (hf := pure104 ls m r h1.1 h1.2.1) (hn := ?_)) | (first | refine Stp.h ?_ | (show ∀ K : St → List Ft → Prop, _; intro K hK) | (show runS _ _ _ _ _; first | refine qY (hq := ?_) | refine qZ (hq := ?_)) | (refine hK _ _ ?_; clear hK K) | (refine hK _ _ rfl ?_; clear hK K) | (refine qZ (hq := ?_); try exact trivial) | omega)
    generalize hp : (fun n => fitsB ls m (r.at n)) = p
    have hpn : ∀ n, fitsB ls m (r.at n) = p n := fun n => congrFun hp n
    have hN : neaR ls m r a b = nearF (freS p a (b - a + 1).toNat) r.minute := by rw [neaR, if_pos h0, freL, hp]
    rw [hN, h0]
    refine run_loop (κ := Nat) (fun k => ⟨[(4, .p (.i .i64 b)), (7, .lp 7 0), (10, .lp 10 0), (13, .p (.fn (.func 55) [.ip (.agg ((outK (evA ls m r) 1440).map PV.b)) 0] [])), (14, .lp 14 0), (15, .p (.i .i64 (a + k)))], [(7, .box (r.cells.map .p) false), (10, .box [.p (.i .i64 0), .p (.i .i64 0)] false), (14, .box [.p (.i .i64 (nearF (freS p a k) r.minute).1), .p (.i .i64 (nearF (freS p a k) r.minute).2)] false)], [], false⟩) (fun k => k ≤ (b - a + 1).toNat ∧ ∀ f ∈ freS p a k, f < r.minute) (fun k => (b - a + 1).toNat - k) 0 ?_ ?_ ?_
    · simp only [qS, Nat.reduceAdd, Nat.reduceMul, Nat.reduceEqDiff, Nat.reduceLeDiff, reduceIte, reduceCtorEq, Nat.reduceBEq, Nat.reduceLT]
      exact ⟨by simp, rfl⟩
    · simp [freS]
    · intro k hk
      have hnx := freS_next p a k
      have hlt := near_lt hk.2
      repeat (first | refine Stp.h ?_ | (show ∀ K : St → List Ft → Prop, _; intro K hK) | (show runS _ _ _ _ _; first | refine qY (hq := ?_) | refine qZ (hq := ?_)) | (refine hK _ _ ?_; clear hK K) | (refine hK _ _ rfl ?_; clear hK K) | (refine qZ (hq := ?_); try exact trivial) | omega)
      (show Run _ (.cond _ _ _) _ _; refine run_condX (fun hc => ?_) (fun hc => ?_) <;> (try simp only [qH, rng_0] at hc) <;> try contradiction)
      · have hsp := freS_split p a (show k < (b - a + 1).toNat by omega)
        have hrest : ∀ f ∈ freS p (a + k + 1) ((b - a + 1).toNat - (k + 1)), a + k < f := fun f hf => by have := freS_ge hf; omega
        cases hop : p (a + k)
        · rw [hop] at hnx hsp
          simp only [Bool.false_eq_true, if_false, List.append_nil] at hnx
          have hop' : fitsB ls m (r.at (a + k)) = false := (hpn _).trans hop
          have qe := And.intro qR (And.intro @hop' @hz); repeat' first | (show Run _ (.cond _ _ _) _ _; refine run_condX (fun hc => ?_) (fun hc => ?_) <;> (try simp only [qH, rng_0] at hc) <;> try contradiction) | (show RunOps _ _ _ _ (⟨_, .callv, _, _, _⟩ :: _) _ _; refine run_callVX (hf := pureOpen ls m r (a + k) (by omega) (by omega)) (hn := ?_)) | (first | refine Stp.h ?_ | (show ∀ K : St → List Ft → Prop, _; intro K hK) | (show runS _ _ _ _ _; first | refine qY (hq := ?_) | refine qZ (hq := ?_)) | (refine hK _ _ ?_; clear hK K) | (refine hK _ _ rfl ?_; clear hK K) | (refine qZ (hq := ?_); try exact trivial) | omega)
          exact ⟨k + 1, ⟨by omega, by rw [hnx]; exact hk.2⟩, by omega, by simp; omega, by rw [hnx]⟩
        · rw [hop] at hnx hsp
          simp only [if_true] at hnx hsp
          have hop' : fitsB ls m (r.at (a + k)) = true := (hpn _).trans hop
          by_cases h3 : a + k < r.minute
          · have h3' := eq_true h3
            have qe := And.intro qR (And.intro @hop' (And.intro @h3' @hz)); repeat' first | (show Run _ (.cond _ _ _) _ _; refine run_condX (fun hc => ?_) (fun hc => ?_) <;> (try simp only [qH, rng_0] at hc) <;> try contradiction) | (show RunOps _ _ _ _ (⟨_, .callv, _, _, _⟩ :: _) _ _; refine run_callVX (hf := pureOpen ls m r (a + k) (by omega) (by omega)) (hn := ?_)) | (first | refine Stp.h ?_ | (show ∀ K : St → List Ft → Prop, _; intro K hK) | (show runS _ _ _ _ _; first | refine qY (hq := ?_) | refine qZ (hq := ?_)) | (refine hK _ _ ?_; clear hK K) | (refine hK _ _ rfl ?_; clear hK K) | (refine qZ (hq := ?_); try exact trivial) | omega)
            have hns : nearF (freS p a (k + 1)) r.minute = (a + k, (nearF (freS p a k) r.minute).2) := by
              rw [hnx, near_app]
              simp only [List.foldl_cons, List.foldl_nil, nearStep]
              rw [if_pos (by omega), if_neg (by omega)]
            exact ⟨k + 1, ⟨by omega, fun f hf => by
              rw [hnx] at hf
              rcases List.mem_append.1 hf with h | h
              · exact hk.2 f h
              · simp at h; omega⟩, by omega, by simp; omega, by rw [hns]⟩
          · have h3' := eq_false h3
            by_cases h4 : a + k = r.minute
            · have h4' := eq_true h4
              have qe := And.intro qR (And.intro @hop' (And.intro @h3' (And.intro @h4' @hz))); repeat' first | (show Run _ (.cond _ _ _) _ _; refine run_condX (fun hc => ?_) (fun hc => ?_) <;> (try simp only [qH, rng_0] at hc) <;> try contradiction) | (show RunOps _ _ _ _ (⟨_, .callv, _, _, _⟩ :: _) _ _; refine run_callVX (hf := pureOpen ls m r (a + k) (by omega) (by omega)) (hn := ?_)) | (first | refine Stp.h ?_ | (show ∀ K : St → List Ft → Prop, _; intro K hK) | (show runS _ _ _ _ _; first | refine qY (hq := ?_) | refine qZ (hq := ?_)) | (refine hK _ _ ?_; clear hK K) | (refine hK _ _ rfl ?_; clear hK K) | (refine qZ (hq := ?_); try exact trivial) | omega)
              have hns : nearF (freS p a (b - a + 1).toNat) r.minute = (a + k, a + k) := by
                have hst : nearStep r.minute (nearF (freS p a k) r.minute) (a + k) = (a + k, a + k) := by rw [nearStep, if_pos (by omega), if_pos ⟨by omega, by rw [hlt]; decide⟩]
                rw [hsp, near_app, List.singleton_append, List.foldl_cons, hst]
                exact near_keep (fun f hf => by have := hrest f hf; omega) (by simp only; omega)
              rw [hns]; exact .refl _
            · have h4' := eq_false h4
              have qe := And.intro qR (And.intro @hop' (And.intro @h3' (And.intro @h4' @hz))); repeat' first | (show Run _ (.cond _ _ _) _ _; refine run_condX (fun hc => ?_) (fun hc => ?_) <;> (try simp only [qH, rng_0] at hc) <;> try contradiction) | (show RunOps _ _ _ _ (⟨_, .callv, _, _, _⟩ :: _) _ _; refine run_callVX (hf := pureOpen ls m r (a + k) (by omega) (by omega)) (hn := ?_)) | (first | refine Stp.h ?_ | (show ∀ K : St → List Ft → Prop, _; intro K hK) | (show runS _ _ _ _ _; first | refine qY (hq := ?_) | refine qZ (hq := ?_)) | (refine hK _ _ ?_; clear hK K) | (refine hK _ _ rfl ?_; clear hK K) | (refine qZ (hq := ?_); try exact trivial) | omega)
              have hns : nearF (freS p a (b - a + 1).toNat) r.minute = ((nearF (freS p a k) r.minute).1, a + k) := by
                have hst : nearStep r.minute (nearF (freS p a k) r.minute) (a + k) = ((nearF (freS p a k) r.minute).1, a + k) := by rw [nearStep, if_neg (by omega), if_pos ⟨by omega, by rw [hlt]; decide⟩]
                rw [hsp, near_app, List.singleton_append, List.foldl_cons, hst]
                exact near_keep (fun f hf => by have := hrest f hf; omega) (by simp only; omega)
              rw [hns]; exact .refl _
      · have qe := @qR; repeat' first | (show Run _ (.cond _ _ _) _ _; refine run_condX (fun hc => ?_) (fun hc => ?_) <;> (try simp only [qH, rng_0] at hc) <;> try contradiction) | (first | refine Stp.h ?_ | (show ∀ K : St → List Ft → Prop, _; intro K hK) | (show runS _ _ _ _ _; first | refine qY (hq := ?_) | refine qZ (hq := ?_)) | (refine hK _ _ ?_; clear hK K) | (refine hK _ _ rfl ?_; clear hK K) | (refine qZ (hq := ?_); try exact trivial) | omega)
        have e : k = (b - a + 1).toNat := by omega
        subst e
        exact .refl _
end Go.Proofs.Ytcfbdeghmckelaa
namespace Go.Proofs.Ytcfbdeghmckelaa
open Go.RowKit
set_option maxRecDepth 100000
set_option linter.unusedVariables false
set_option linter.unusedSimpArgs false
set_option maxHeartbeats 4000000
def ac77 : AC := .seq (.ops false [⟨some 0,.alloc [(.s (bs [])),(.s (bs [])),(.s (bs [])),(.i .i64 0),(.i .i64 0),(.i .i64 0),(.i .i64 0),(.i .i64 0),(.i .i64 0),(.i .i64 0),(.i .i64 0)],[],none,[]⟩]) (.seq (.ops false [⟨some 1,.build [(.i .i64 0),(.i .i64 0),(.i .i64 0)] [(0,1),(1,1),(2,1)],[.c (.i .i64 2),.c (.i .i64 3),.c (.i .i64 127)],none,[]⟩,⟨some 2,.build [(.s (bs [])),(.s (bs [])),(.s (bs [])),(.i .i64 0),(.i .i64 0),(.i .i64 0),(.i .i64 0),(.i .i64 0),(.i .i64 0),(.i .i64 0),(.i .i64 0)] [(0,1),(1,1),(3,1),(4,1),(5,1),(6,1),(7,3),(10,1)],[.c (.s (bs [100,97,121])),.c (.s (bs [84])),.c (.i .i64 60),.c (.i .i64 30),.c (.i .i64 360),.c (.i .i64 420),.t 1,.c (.i .i64 2)],none,[0]⟩,⟨none,.store 11,[.t 0,.t 2],none,[1,0,1]⟩]) .ret)
def rs77 : List RV := [.cell 0 11 true]
theorem fact77 : compF Try.prog 15 = some (ac77,rs77,3) := by kernel_rfl
def ac78 : AC := .seq (.ops false [⟨some 0,.mv,[.c .nilsl],none,[]⟩]) (.seq (.ops false [⟨some 1,.build [(.i .i64 0),(.s (bs [])),(.s (bs [])),(.i .i64 0),(.i .i64 0),(.i .i64 0),(.s (bs []))] [(0,1),(1,1),(6,1)],[.c (.i .i64 3245),.c (.s (bs [65])),.c (.s (bs [97]))],none,[]⟩,⟨some 2,.build [(.i .i64 0),(.s (bs [])),(.s (bs [])),(.i .i64 0),(.i .i64 0),(.i .i64 0),(.s (bs []))] [(0,1),(1,1),(6,1)],[.c (.i .i64 3280),.c (.s (bs [65])),.c (.s (bs [98]))],none,[]⟩,⟨some 3,.build [(.i .i64 0),(.s (bs [])),(.s (bs [])),(.i .i64 0),(.i .i64 0),(.i .i64 0),(.s (bs []))] [(0,1),(1,1),(6,1)],[.c (.i .i64 3299),.c (.s (bs [65])),.c (.s (bs [99]))],none,[]⟩,⟨some 4,.bslice 57 7 (.agg [(.i .i64 0),(.s (bs [])),(.s (bs [])),(.i .i64 0),(.i .i64 0),(.i .i64 0),(.s (bs []))]) 3 [0,1,2],[.t 1,.t 2,.t 3],none,[0,1,2]⟩,⟨some 0,.mv,[.t 4],none,[3,0,1,2,3]⟩]) .ret)
def rs78 : List RV := [.tmp 0]
theorem fact78 : compF Try.prog 16 = some (ac78,rs78,5) := by kernel_rfl
def ac18 : AC := .seq (.ops false [⟨some 0,.mv,[.c (.b false)],none,[]⟩]) (.seq (.ops false [⟨some 29,.call 15,[],none,[]⟩,⟨some 30,.bslice 39 11 (.agg [(.s (bs [])),(.s (bs [])),(.s (bs [])),(.i .i64 0),(.i .i64 0),(.i .i64 0),(.i .i64 0),(.i .i64 0),(.i .i64 0),(.i .i64 0),(.i .i64 0)]) 1 [0],[.t 29],none,[0]⟩,⟨some 31,.call 16,[],none,[0]⟩,⟨some 1,.mv,[.t 30],none,[1,2,0,1]⟩,⟨some 2,.mv,[.t 31],none,[2,3,0,1,2,3]⟩]) (.seq (.ops false [⟨some 33,.call 15,[],none,[]⟩,⟨some 34,.call 17,[.t 33,.c (.i .i64 2)],none,[0,0]⟩,⟨some 32,.mv,[.t 34],none,[1]⟩,⟨some 35,.ext 0,[.t 32],none,[2]⟩,⟨some 36,.ext 1,[.t 32],none,[2]⟩,⟨some 3,.mv,[.t 35],none,[3,1,0,1,2,3]⟩,⟨some 4,.mv,[.t 36],none,[4,5,0,1,2,3,4,5]⟩]) (.seq (.ops false [⟨some 38,.call 15,[],none,[]⟩,⟨some 39,.mv,[.t 2],none,[]⟩,⟨some 40,.call 18,[.t 38,.t 39,.c (.i .i64 2)],none,[0,1,0]⟩,⟨some 37,.mv,[.t 40],none,[2]⟩,⟨some 41,.ext 0,[.t 37],none,[3]⟩,⟨some 42,.ext 1,[.t 37],none,[3]⟩,⟨some 5,.mv,[.t 41],none,[4,2,0,1,2,3,4]⟩,⟨some 6,.mv,[.t 42],none,[5,6,0,1,2,3,4,5,6]⟩]) (.seq (.ops false [⟨some 44,.call 15,[],none,[]⟩,⟨some 45,.mv,[.t 2],none,[]⟩,⟨some 46,.call 10,[.t 44,.t 45],none,[0,1,0]⟩,⟨some 43,.mv,[.t 46],none,[2]⟩,⟨some 47,.ext 0,[.t 43],none,[3]⟩,⟨some 48,.ext 1,[.t 43],none,[3]⟩,⟨some 7,.alloc [(.i .i64 0),(.i .i64 0),(.i .i64 0)],[],none,[]⟩,⟨none,.store 3,[.t 7,.t 47],none,[6,4,2,0,1,2,3,4,6]⟩,⟨some 8,.mv,[.t 48],none,[5,7,0,1,2,3,4,5,6,7]⟩]) (.seq (.ops false [⟨some 50,.mv,[.t 1],none,[]⟩,⟨some 51,.mv,[.t 2],none,[]⟩,⟨some 52,.call 8,[.t 50,.t 51],none,[0,1]⟩,⟨some 49,.mv,[.t 52],none,[2]⟩,⟨some 53,.ext 0,[.t 49],none,[3]⟩,⟨some 54,.ext 1,[.t 49],none,[3]⟩,⟨some 9,.alloc [(.i .i64 0),(.i .i64 0),(.i .i64 0)],[],none,[]⟩,⟨none,.store 3,[.t 9,.t 53],none,[6,4,2,0,1,2,3,4,6]⟩,⟨some 10,.mv,[.t 54],none,[5,7,0,1,2,3,4,5,6,7]⟩]) (.seq (.ops false [⟨some 56,.mv,[.t 1],none,[]⟩,⟨some 57,.mv,[.t 2],none,[]⟩,⟨some 58,.build [(.i .i64 0),(.s (bs [])),(.s (bs [])),(.i .i64 0),(.i .i64 0),(.i .i64 0),(.s (bs []))] [(0,1),(1,1),(6,1)],[.c (.i .i64 3300),.c (.s (bs [65])),.c (.s (bs [100]))],none,[]⟩,⟨some 59,.call 19,[.t 56,.t 57,.t 58],none,[0,1,2]⟩,⟨some 55,.mv,[.t 59],none,[3]⟩,⟨some 60,.ext 0,[.t 55],none,[4]⟩,⟨some 61,.ext 1,[.t 55],none,[4]⟩,⟨some 11,.mv,[.t 60],none,[5,3,0,1,2,3,4,5]⟩,⟨some 12,.mv,[.t 61],none,[6,7,0,1,2,3,4,5,6,7]⟩]) (.seq (.ops false [⟨some 63,.mv,[.t 1],none,[]⟩,⟨some 64,.mv,[.t 2],none,[]⟩,⟨some 65,.build [(.i .i64 0),(.s (bs [])),(.s (bs [])),(.i .i64 0),(.i .i64 0),(.i .i64 0),(.s (bs []))] [(0,1),(1,1),(6,1)],[.c (.i .i64 3300),.c (.s (bs [65])),.c (.s (bs [100]))],none,[]⟩,⟨some 66,.call 20,[.t 63,.t 64,.t 65],none,[0,1,2]⟩,⟨some 62,.mv,[.t 66],none,[3]⟩,⟨some 67,.ext 0,[.t 62],none,[4]⟩,⟨some 68,.ext 1,[.t 62],none,[4]⟩,⟨some 13,.mv,[.t 67],none,[5,3,0,1,2,3,4,5]⟩,⟨some 14,.mv,[.t 68],none,[6,7,0,1,2,3,4,5,6,7]⟩]) (.seq (.ops false [⟨some 70,.mv,[.t 1],none,[]⟩,⟨some 71,.mv,[.t 2],none,[]⟩,⟨some 72,.build [(.i .i64 0),(.s (bs [])),(.s (bs [])),(.i .i64 0),(.i .i64 0),(.i .i64 0),(.s (bs []))] [(0,1),(1,1),(6,1)],[.c (.i .i64 3360),.c (.s (bs [65])),.c (.s (bs [100]))],none,[]⟩,⟨some 73,.call 19,[.t 70,.t 71,.t 72],none,[0,1,2]⟩,⟨some 69,.mv,[.t 73],none,[3]⟩,⟨some 74,.ext 0,[.t 69],none,[4]⟩,⟨some 75,.ext 1,[.t 69],none,[4]⟩,⟨some 15,.mv,[.t 74],none,[5,3,0,1,2,3,4,5]⟩,⟨some 16,.mv,[.t 75],none,[6,7,0,1,2,3,4,5,6,7]⟩]) (.seq (.seq (.ops false [⟨some 76,.mv,[.t 4],none,[]⟩,⟨some 77,.mv,[.t 6],none,[]⟩,⟨some 78,.bin .add,[.t 76,.t 77],none,[0,1]⟩,⟨some 79,.mv,[.t 8],none,[]⟩,⟨some 80,.bin .add,[.t 78,.t 79],none,[2,3]⟩,⟨some 81,.mv,[.t 10],none,[]⟩,⟨some 82,.bin .add,[.t 80,.t 81],none,[4,5]⟩,⟨some 83,.mv,[.t 12],none,[]⟩,⟨some 84,.bin .add,[.t 82,.t 83],none,[6,7]⟩,⟨some 85,.mv,[.t 14],none,[]⟩,⟨some 86,.bin .add,[.t 84,.t 85],none,[8,9]⟩,⟨some 87,.mv,[.t 16],none,[]⟩,⟨some 88,.bin .add,[.t 86,.t 87],none,[10,11]⟩,⟨some 89,.bin .neq,[.t 88,.c (.i .i64 0)],none,[12]⟩,⟨some 90,.mv,[.t 89],none,[13]⟩,⟨some 91,.mv,[.t 3],some (90,false),[14]⟩,⟨some 92,.bslice 3 1 (.i .i64 0) 3 [0,1,2],[.c (.i .i64 3240),.c (.i .i64 3270),.c (.i .i64 3300)],some (90,false),[14]⟩,⟨some 93,.call 21,[.t 91,.t 92],some (90,false),[15,16,14,14]⟩,⟨some 94,.not,[.t 93],some (90,false),[17,14]⟩,⟨some 95,.pick,[.t 90,.c (.b true),.t 94],none,[14,18]⟩,⟨some 96,.mv,[.t 95],none,[19,17]⟩,⟨some 97,.mv,[.t 5],some (96,false),[20]⟩,⟨some 98,.bslice 3 1 (.i .i64 0) 3 [0,1,2],[.c (.i .i64 3),.c (.i .i64 2),.c (.i .i64 0)],some (96,false),[20]⟩,⟨some 99,.call 21,[.t 97,.t 98],some (96,false),[21,22,20,20]⟩,⟨some 100,.not,[.t 99],some (96,false),[23,20]⟩,⟨some 101,.pick,[.t 96,.c (.b true),.t 100],none,[20,24]⟩,⟨some 102,.mv,[.t 101],none,[25,23]⟩,⟨some 103,.load 3 true,[.t 7],some (102,false),[26]⟩,⟨some 104,.build [(.i .i64 0),(.i .i64 0),(.i .i64 0)] [(1,1),(2,1)],[.c (.i .i64 3240),.c (.i .i64 3)],some (102,false),[26]⟩,⟨some 105,.eq true [1,1,1] true,[.t 103,.t 104],some (102,false),[27,28,26]⟩,⟨some 106,.pick,[.t 102,.c (.b true),.t 105],none,[26,29]⟩,⟨some 107,.mv,[.t 106],none,[30,26]⟩,⟨some 108,.load 3 true,[.t 9],some (107,false),[31]⟩,⟨some 109,.load 3 true,[.t 7],some (107,false),[31]⟩,⟨some 110,.eq true [1,1,1] true,[.t 108,.t 109],some (107,false),[32,33,31]⟩,⟨some 111,.pick,[.t 107,.c (.b true),.t 110],none,[31,34]⟩,⟨some 112,.mv,[.t 111],none,[35,31]⟩,⟨some 113,.mv,[.t 11],some (112,false),[36]⟩,⟨some 114,.bin .neq,[.t 113,.c (.i .i64 0)],some (112,false),[37,36]⟩,⟨some 115,.pick,[.t 112,.c (.b true),.t 114],none,[36,38]⟩,⟨some 116,.mv,[.t 115],none,[39,36]⟩,⟨some 117,.mv,[.t 13],some (116,false),[40]⟩,⟨some 118,.len false,[.t 117],some (116,false),[41,40]⟩,⟨some 119,.bin .neq,[.t 118,.c (.i .i64 1)],some (116,false),[42,40]⟩,⟨some 120,.pick,[.t 116,.c (.b true),.t 119],none,[40,43]⟩,⟨some 121,.mv,[.t 120],none,[44,40]⟩,⟨some 122,.mv,[.t 13],some (121,false),[45]⟩,⟨some 123,.iadrS 3,[.t 122,.c (.i .i64 0)],some (121,false),[46,45]⟩,⟨some 124,.load 3 true,[.t 123],some (121,false),[47,45]⟩,⟨some 125,.build [(.i .i64 0),(.i .i64 0),(.i .i64 0)] [(1,1),(2,1)],[.c (.i .i64 3270),.c (.i .i64 2)],some (121,false),[45]⟩,⟨some 126,.eq true [1,1,1] true,[.t 124,.t 125],some (121,false),[48,49,45]⟩,⟨some 127,.pick,[.t 121,.c (.b true),.t 126],none,[45,50]⟩,⟨some 128,.mv,[.t 127],none,[51,45]⟩,⟨some 129,.mv,[.t 15],some (128,false),[52]⟩,⟨some 130,.bin .neq,[.t 129,.c (.i .i64 999999999)],some (128,false),[53,52]⟩,⟨some 131,.pick,[.t 128,.c (.b true),.t 130],none,[52,54]⟩]) (.cond (.t 131) (.seq (.ops false [⟨some 0,.mv,[.c (.b false)],none,[]⟩]) .ret) .skip)) (.seq (.ops false [⟨some 132,.build [(.i .i64 0),(.i .i64 0),(.i .i64 0)] [(0,1),(1,1),(2,1)],[.c (.i .i64 2),.c (.i .i64 3),.c (.i .i64 127)],none,[]⟩,⟨some 133,.build [(.s (bs [])),(.s (bs [])),(.s (bs [])),(.s (bs [])),(.s (bs [])),(.s (bs [])),(.i .i64 0),(.i .i64 0),(.i .i64 0),(.i .i64 0),(.i .i64 0),(.i .i64 0),(.i .i64 0)] [(0,1),(2,1),(6,3),(9,1)],[.c (.s (bs [120])),.c (.s (bs [65])),.t 132,.c (.i .i64 380)],none,[0]⟩,⟨some 17,.alloc [(.s (bs [])),(.s (bs [])),(.s (bs [])),(.s (bs [])),(.s (bs [])),(.s (bs [])),(.i .i64 0),(.i .i64 0),(.i .i64 0),(.i .i64 0),(.i .i64 0),(.i .i64 0),(.i .i64 0)],[],none,[]⟩,⟨none,.store 13,[.t 17,.t 133],none,[2,1,0,1,2]⟩]) (.seq (.ops false [⟨some 135,.load 13 true,[.t 17],none,[]⟩,⟨some 136,.call 22,[.t 135],none,[0]⟩,⟨some 134,.mv,[.t 136],none,[1]⟩,⟨some 137,.ext 0,[.t 134],none,[2]⟩,⟨some 138,.ext 1,[.t 134],none,[2]⟩,⟨some 18,.mv,[.t 137],none,[3,1,0,1,2,3]⟩,⟨some 19,.mv,[.t 138],none,[4,5,0,1,2,3,4,5]⟩]) (.seq (.ops false [⟨some 140,.mv,[.t 1],none,[]⟩,⟨some 141,.mv,[.t 2],none,[]⟩,⟨some 142,.load 13 true,[.t 17],none,[]⟩,⟨some 143,.call 23,[.t 140,.t 141,.t 142],none,[0,1,2]⟩,⟨some 139,.mv,[.t 143],none,[3]⟩,⟨some 144,.ext 0,[.t 139],none,[4]⟩,⟨some 145,.ext 1,[.t 139],none,[4]⟩,⟨some 20,.mv,[.t 144],none,[5,3,0,1,2,3,4,5]⟩,⟨some 21,.mv,[.t 145],none,[6,7,0,1,2,3,4,5,6,7]⟩]) (.seq (.ops false [⟨some 147,.mv,[.t 1],none,[]⟩,⟨some 148,.mv,[.t 2],none,[]⟩,⟨some 149,.load 13 true,[.t 17],none,[]⟩,⟨some 150,.call 24,[.t 147,.t 148,.t 149,.c (.i .i64 350),.c (.i .i64 450)],none,[0,1,2]⟩,⟨some 146,.mv,[.t 150],none,[3]⟩,⟨some 151,.ext 0,[.t 146],none,[4]⟩,⟨some 152,.ext 1,[.t 146],none,[4]⟩,⟨some 22,.mv,[.t 151],none,[5,3,0,1,2,3,4,5]⟩,⟨some 23,.mv,[.t 152],none,[6,7,0,1,2,3,4,5,6,7]⟩]) (.seq (.ops false [⟨some 154,.mv,[.t 1],none,[]⟩,⟨some 155,.mv,[.t 2],none,[]⟩,⟨some 156,.load 13 true,[.t 17],none,[]⟩,⟨some 157,.call 25,[.t 154,.t 155,.t 156,.c (.i .i64 350),.c (.i .i64 450)],none,[0,1,2]⟩,⟨some 153,.mv,[.t 157],none,[3]⟩,⟨some 158,.ext 0,[.t 153],none,[4]⟩,⟨some 159,.ext 1,[.t 153],none,[4]⟩,⟨some 24,.alloc [(.i .i64 0),(.i .i64 0)],[],none,[]⟩,⟨none,.store 2,[.t 24,.t 158],none,[7,5,3,0,1,2,3,4,5,7]⟩,⟨some 25,.mv,[.t 159],none,[6,8,0,1,2,3,4,5,6,7,8]⟩]) (.seq (.ops false [⟨some 160,.build [(.i .i64 0),(.i .i64 0),(.i .i64 0)] [(0,1),(1,1),(2,1)],[.c (.i .i64 2),.c (.i .i64 2),.c (.i .i64 127)],none,[]⟩,⟨some 161,.build [(.s (bs [])),(.s (bs [])),(.s (bs [])),(.i .i64 0),(.i .i64 0),(.i .i64 0),(.i .i64 0),(.i .i64 0),(.i .i64 0),(.i .i64 0),(.i .i64 0)] [(0,1),(1,1),(3,1),(4,1),(5,1),(6,1),(7,3)],[.c (.s (bs [108,97,116,101])),.c (.s (bs [84])),.c (.i .i64 60),.c (.i .i64 10),.c (.i .i64 1430),.c (.i .i64 1430),.t 160],none,[0]⟩,⟨some 26,.alloc [(.s (bs [])),(.s (bs [])),(.s (bs [])),(.i .i64 0),(.i .i64 0),(.i .i64 0),(.i .i64 0),(.i .i64 0),(.i .i64 0),(.i .i64 0),(.i .i64 0)],[],none,[]⟩,⟨none,.store 11,[.t 26,.t 161],none,[2,1,0,1,2]⟩]) (.seq (.ops false [⟨some 163,.load 11 true,[.t 26],none,[]⟩,⟨some 164,.build [(.i .i64 0),(.s (bs [])),(.s (bs [])),(.i .i64 0),(.i .i64 0),(.i .i64 0),(.s (bs []))] [(0,1),(1,1),(6,1)],[.c (.i .i64 4309),.c (.s (bs [68])),.c (.s (bs [97]))],none,[]⟩,⟨some 165,.build [(.i .i64 0),(.s (bs [])),(.s (bs [])),(.i .i64 0),(.i .i64 0),(.i .i64 0),(.s (bs []))] [(0,1),(1,1),(6,1)],[.c (.i .i64 4310),.c (.s (bs [68])),.c (.s (bs [97]))],none,[]⟩,⟨some 166,.build [(.i .i64 0),(.s (bs [])),(.s (bs [])),(.i .i64 0),(.i .i64 0),(.i .i64 0),(.s (bs []))] [(0,1),(1,1),(6,1)],[.c (.i .i64 4369),.c (.s (bs [68])),.c (.s (bs [97]))],none,[]⟩,⟨some 167,.build [(.i .i64 0),(.s (bs [])),(.s (bs [])),(.i .i64 0),(.i .i64 0),(.i .i64 0),(.s (bs []))] [(0,1),(1,1),(6,1)],[.c (.i .i64 4370),.c (.s (bs [68])),.c (.s (bs [97]))],none,[]⟩,⟨some 168,.bslice 57 7 (.agg [(.i .i64 0),(.s (bs [])),(.s (bs [])),(.i .i64 0),(.i .i64 0),(.i .i64 0),(.s (bs []))]) 4 [0,1,2,3],[.t 164,.t 165,.t 166,.t 167],none,[1,2,3,4]⟩,⟨some 169,.call 9,[.t 163,.t 168,.c (.i .i64 4310)],none,[0,5]⟩,⟨some 162,.mv,[.t 169],none,[6]⟩,⟨some 170,.ext 0,[.t 162],none,[7]⟩,⟨some 171,.ext 1,[.t 162],none,[7]⟩,⟨some 27,.mv,[.t 170],none,[8,6,0,1,2,3,4,5,6,7,8]⟩,⟨some 28,.mv,[.t 171],none,[9,10,0,1,2,3,4,5,6,7,8,9,10]⟩]) (.seq (.ops false [⟨some 172,.mv,[.t 19],none,[]⟩,⟨some 173,.mv,[.t 21],none,[]⟩,⟨some 174,.bin .add,[.t 172,.t 173],none,[0,1]⟩,⟨some 175,.mv,[.t 23],none,[]⟩,⟨some 176,.bin .add,[.t 174,.t 175],none,[2,3]⟩,⟨some 177,.mv,[.t 25],none,[]⟩,⟨some 178,.bin .add,[.t 176,.t 177],none,[4,5]⟩,⟨some 179,.mv,[.t 28],none,[]⟩,⟨some 180,.bin .add,[.t 178,.t 179],none,[6,7]⟩,⟨some 181,.bin .eql,[.t 180,.c (.i .i64 0)],none,[8]⟩,⟨some 182,.mv,[.t 181],none,[9]⟩,⟨some 183,.mv,[.t 18],some (182,true),[10]⟩,⟨some 184,.len false,[.t 183],some (182,true),[11,10]⟩,⟨some 185,.bin .eql,[.t 184,.c (.i .i64 2)],some (182,true),[12,10]⟩,⟨some 186,.pick,[.t 182,.t 185,.c (.b false)],none,[10,13]⟩,⟨some 187,.mv,[.t 186],none,[14,10]⟩,⟨some 188,.mv,[.t 18],some (187,true),[15]⟩,⟨some 189,.iadrS 7,[.t 188,.c (.i .i64 1)],some (187,true),[16,15]⟩,⟨some 190,.fadr 0,[.t 189],some (187,true),[17,15]⟩,⟨some 191,.load 1 false,[.t 190],some (187,true),[18,15]⟩,⟨some 192,.bin .eql,[.t 191,.c (.i .i64 4700)],some (187,true),[19,15]⟩,⟨some 193,.pick,[.t 187,.t 192,.c (.b false)],none,[15,20]⟩,⟨some 194,.mv,[.t 193],none,[21,15]⟩,⟨some 195,.mv,[.t 20],some (194,true),[22]⟩,⟨some 196,.not,[.t 195],some (194,true),[23,22]⟩,⟨some 197,.pick,[.t 194,.t 196,.c (.b false)],none,[22,24]⟩,⟨some 198,.mv,[.t 197],none,[25,22]⟩,⟨some 199,.mv,[.t 22],some (198,true),[26]⟩,⟨some 200,.bslice 3 1 (.i .i64 0) 11 [0,1,2,3,4,5,6,7,8,9,10],[.c (.i .i64 350),.c (.i .i64 351),.c (.i .i64 352),.c (.i .i64 353),.c (.i .i64 354),.c (.i .i64 355),.c (.i .i64 356),.c (.i .i64 357),.c (.i .i64 358),.c (.i .i64 359),.c (.i .i64 450)],some (198,true),[26]⟩,⟨some 201,.call 21,[.t 199,.t 200],some (198,true),[27,28,26,26]⟩,⟨some 202,.pick,[.t 198,.t 201,.c (.b false)],none,[26,29]⟩,⟨some 203,.mv,[.t 202],none,[30,29]⟩,⟨some 204,.load 2 true,[.t 24],some (203,true),[31]⟩,⟨some 205,.build [(.i .i64 0),(.i .i64 0)] [(0,1),(1,1)],[.c (.i .i64 359),.c (.i .i64 450)],some (203,true),[31]⟩,⟨some 206,.eq false [1,1] true,[.t 204,.t 205],some (203,true),[32,33,31]⟩,⟨some 207,.pick,[.t 203,.t 206,.c (.b false)],none,[31,34]⟩,⟨some 208,.mv,[.t 207],none,[35,31]⟩,⟨some 209,.mv,[.t 27],some (208,true),[36]⟩,⟨some 210,.bin .eql,[.t 209,.c (.i .i64 2)],some (208,true),[37,36]⟩,⟨some 211,.pick,[.t 208,.t 210,.c (.b false)],none,[36,38]⟩,⟨some 0,.mv,[.t 211],none,[39,36,0,1,2,3,4,5,6,7,8,9,10,11,12,13,14,15,16,17,18,19,20,21,22,23,24,25,26,27,28,29,30,31,32,33,34,35,36,37,38,39]⟩]) .ret)))))))))))))))))
def rs18 : List RV := [.tmp 0]
theorem fact18 : compF Try.prog 6 = some (ac18,rs18,212) := by kernel_rfl
def dayL : Lim := ⟨bs [100, 97, 121], sT, s0, 60, 30, 360, 420, ⟨2, 3, 127⟩, 2⟩
def mvA (t : Int) (n : UInt8) : Mov := ⟨t, sA, s0, 0, 0, 0, bs [n]⟩
def mvD (t : Int) : Mov := ⟨t, sD, s0, 0, 0, 0, bs [97]⟩
def threeM : List Mov := [mvA 3245 97, mvA 3280 98, mvA 3299 99]
def reqX : Req := ⟨bs [120], s0, sA, s0, s0, s0, ⟨2, 3, 127⟩, 380, 0, 0, 0⟩
def lateL : Lim := ⟨bs [108, 97, 116, 101], sT, s0, 60, 10, 1430, 1430, ⟨2, 2, 127⟩, 0⟩
def lateM : List Mov := [mvD 4309, mvD 4310, mvD 4369, mvD 4370]
theorem pure77 : Pure Try.prog 15 [] dayL.pv := by
  refine pure_by fact77 (by simp) fun hw X hX => ?_
  unfold ac77 rs77
  have qe := @qR; repeat' first | (show Run _ (.cond _ _ _) _ _; refine run_condX (fun hc => ?_) (fun hc => ?_) <;> (try simp only [qH, rng_0] at hc) <;> try contradiction) | (first | refine Stp.h ?_ | (show ∀ K : St → List Ft → Prop, _; intro K hK) | (show runS _ _ _ _ _; first | refine qY (hq := ?_) | refine qZ (hq := ?_)) | (refine hK _ _ ?_; clear hK K) | (refine hK _ _ rfl ?_; clear hK K) | (refine qZ (hq := ?_); try exact trivial) | omega)
  exact .refl _
theorem pure78 : Pure Try.prog 16 [] (.sl 7 (threeM.map Mov.pv)) := by
  refine pure_by fact78 (by simp) fun hw X hX => ?_
  unfold ac78 rs78
  have qe := @qR; repeat' first | (show Run _ (.cond _ _ _) _ _; refine run_condX (fun hc => ?_) (fun hc => ?_) <;> (try simp only [qH, rng_0] at hc) <;> try contradiction) | (first | refine Stp.h ?_ | (show ∀ K : St → List Ft → Prop, _; intro K hK) | (show runS _ _ _ _ _; first | refine qY (hq := ?_) | refine qZ (hq := ?_)) | (refine hK _ _ ?_; clear hK K) | (refine hK _ _ rfl ?_; clear hK K) | (refine qZ (hq := ?_); try exact trivial) | omega)
  exact .refl _
theorem aw27 : begR dayL 2 = [3240, 3270, 3300] ∧ begE dayL 2 = 0 := by decide +kernel
theorem aw28 : tabR dayL threeM 2 = [3, 2, 0] ∧ tabE dayL threeM 2 = 0 := by decide +kernel
theorem aw30 : ((peakR dayL threeM).lim = 0 ∧ (peakR dayL threeM).beg = 3240 ∧ (peakR dayL threeM).cnt = 3) ∧ peakE dayL threeM = 0 := by decide +kernel
theorem aw57 : ((firR [dayL] threeM).lim = 0 ∧ (firR [dayL] threeM).beg = 3240 ∧ (firR [dayL] threeM).cnt = 3) ∧ firE [dayL] threeM = 0 := by decide +kernel
theorem aw43 : roomR [dayL] threeM (mvA 3300 100) = 0 ∧ roomC [dayL] threeM (mvA 3300 100) = 0 := by decide +kernel
theorem aw44 : (fullR [dayL] threeM (mvA 3300 100)).map (fun w => (w.lim, w.beg, w.cnt)) = [(0, 3270, 2)] := by decide +kernel
theorem aw43b : roomR [dayL] threeM (mvA 3360 100) = 999999999 ∧ roomC [dayL] threeM (mvA 3360 100) = 0 := by decide +kernel
theorem aw19 : daysL reqX.per = [2, 3] ∧ chkReq reqX = 0 := by decide +kernel
theorem aw51 : fitR [dayL] threeM reqX = false ∧ fitC [dayL] threeM reqX = 0 := by decide +kernel
theorem aw52 : freR [dayL] threeM reqX 350 450 = [350, 351, 352, 353, 354, 355, 356, 357, 358, 359, 450] ∧ seaC [dayL] threeM reqX 350 450 = 0 := by decide +kernel
theorem aw53 : neaR [dayL] threeM reqX 350 450 = (359, 450) := by decide +kernel
theorem aw29 : cntR lateL lateM 4310 = 2 ∧ cntE lateL lateM 4310 = 0 := by decide +kernel
theorem c27 : Pure Try.prog 17 [dayL.pv, .i .i64 2] (.tup [.sl 1 [.i .i64 3240, .i .i64 3270, .i .i64 3300], .i .i64 0]) := by
  have := pure27 dayL 2
  rw [aw27.1, aw27.2] at this; exact this
theorem c28 : Pure Try.prog 18 [dayL.pv, .sl 7 (threeM.map Mov.pv), .i .i64 2] (.tup [.sl 1 [.i .i64 3, .i .i64 2, .i .i64 0], .i .i64 0]) := by
  have := pure28 dayL threeM 2
  rw [aw28.1, aw28.2] at this; exact this
theorem c30 : Pure Try.prog 10 [dayL.pv, .sl 7 (threeM.map Mov.pv)] (.tup [.agg [.i .i64 0, .i .i64 3240, .i .i64 3], .i .i64 0]) := by
  have := pure30 dayL threeM
  simp only [Win.pv, aw30.1.1, aw30.1.2.1, aw30.1.2.2, aw30.2] at this; exact this
theorem c57 : Pure Try.prog 8 [.sl 11 [dayL.pv], .sl 7 (threeM.map Mov.pv)] (.tup [.agg [.i .i64 0, .i .i64 3240, .i .i64 3], .i .i64 0]) := by
  have := pure57 [dayL] threeM
  simp only [Win.pv, aw57.1.1, aw57.1.2.1, aw57.1.2.2, aw57.2] at this; exact this
theorem c43 : Pure Try.prog 19 [.sl 11 [dayL.pv], .sl 7 (threeM.map Mov.pv), (mvA 3300 100).pv] (.tup [.i .i64 0, .i .i64 0]) := by
  have := pure43 [dayL] threeM (mvA 3300 100)
  rw [aw43.1, aw43.2] at this; exact this
theorem c43b : Pure Try.prog 19 [.sl 11 [dayL.pv], .sl 7 (threeM.map Mov.pv), (mvA 3360 100).pv] (.tup [.i .i64 999999999, .i .i64 0]) := by
  have := pure43 [dayL] threeM (mvA 3360 100)
  rw [aw43b.1, aw43b.2] at this; exact this
theorem c44 : Pure Try.prog 20 [.sl 11 [dayL.pv], .sl 7 (threeM.map Mov.pv), (mvA 3300 100).pv] (.tup [.sl 3 [.agg [.i .i64 0, .i .i64 3270, .i .i64 2]], .i .i64 0]) := by
  have := pure44 [dayL] threeM (mvA 3300 100)
  have e : (fullR [dayL] threeM (mvA 3300 100)).map Win.pv = [.agg [.i .i64 0, .i .i64 3270, .i .i64 2]] := by
    have h := congrArg (List.map fun (x : Int × Int × Int) => PV.agg [.i .i64 x.1, .i .i64 x.2.1, .i .i64 x.2.2]) aw44
    rw [List.map_map] at h; exact h
  rw [e, aw43.2] at this; exact this
def mvX (t : Int) : Mov := ⟨t, sA, s0, 0, 0, 0, bs [120]⟩
theorem c19 : Pure Try.prog 22 [reqX.pv] (.tup [.sl 7 [(mvX 3260).pv, (mvX 4700).pv], .i .i64 0]) := by
  have := pure19 reqX
  have e : movR reqX = [mvX 3260, mvX 4700] := by rw [movR, if_pos aw19.2, movsL, aw19.1]; rfl
  rw [e, aw19.2] at this; exact this
theorem c51 : Pure Try.prog 23 [.sl 11 [dayL.pv], .sl 7 (threeM.map Mov.pv), reqX.pv] (.tup [.b false, .i .i64 0]) := by
  have := pure51 [dayL] threeM reqX
  rw [aw51.1, aw51.2] at this; exact this
theorem c52 : Pure Try.prog 24 [.sl 11 [dayL.pv], .sl 7 (threeM.map Mov.pv), reqX.pv, .i .i64 350, .i .i64 450] (.tup [.sl 1 (([350, 351, 352, 353, 354, 355, 356, 357, 358, 359, 450] : List Int).map (.i .i64)), .i .i64 0]) := by
  have := pure52 [dayL] threeM reqX 350 450
  rw [aw52.1, aw52.2] at this; exact this
theorem c53 : Pure Try.prog 25 [.sl 11 [dayL.pv], .sl 7 (threeM.map Mov.pv), reqX.pv, .i .i64 350, .i .i64 450] (.tup [.agg [.i .i64 359, .i .i64 450], .i .i64 0]) := by
  have := pure53 [dayL] threeM reqX 350 450
  rw [aw53, aw52.2] at this; exact this
theorem c29 : Pure Try.prog 9 [lateL.pv, .sl 7 (lateM.map Mov.pv), .i .i64 4310] (.tup [.i .i64 2, .i .i64 0]) := by
  have := pure29 lateL lateM 4310
  rw [aw29.1, aw29.2] at this; exact this
theorem toNat1 : Int.toNat 1 = 1 := rfl
theorem pure18 : Pure Try.prog 6 [] (.b true) := by
  refine pure_by fact18 (by simp) fun hw X hX => ?_
  unfold ac18 rs18
  have qe := And.intro qR (And.intro @dec_self (And.intro @Int.add_zero @toNat1)); repeat' first | (show Run _ (.cond _ _ _) _ _; refine run_condX (fun hc => ?_) (fun hc => ?_) <;> (try simp only [qH, rng_0] at hc) <;> try contradiction) | (show RunOps _ _ _ _ (⟨_, .call 15, _, _, _⟩ :: _) _ _; refine run_callX (hf := pure77) (hn := ?_)) | (show RunOps _ _ _ _ (⟨_, .call 16, _, _, _⟩ :: _) _ _; refine run_callX (hf := pure78) (hn := ?_)) | (show RunOps _ _ _ _ (⟨_, .call 17, _, _, _⟩ :: _) _ _; refine run_callX (hf := c27) (hn := ?_)) | (show RunOps _ _ _ _ (⟨_, .call 18, _, _, _⟩ :: _) _ _; refine run_callX (hf := c28) (hn := ?_)) | (show RunOps _ _ _ _ (⟨_, .call 10, _, _, _⟩ :: _) _ _; refine run_callX (hf := c30) (hn := ?_)) | (show RunOps _ _ _ _ (⟨_, .call 8, _, _, _⟩ :: _) _ _; refine run_callX (hf := c57) (hn := ?_)) | (show RunOps _ _ _ _ (⟨_, .call 19, _, _, _⟩ :: _) _ _; refine run_callX (hf := c43) (hn := ?_)) | (show RunOps _ _ _ _ (⟨_, .call 19, _, _, _⟩ :: _) _ _; refine run_callX (hf := c43b) (hn := ?_)) | (show RunOps _ _ _ _ (⟨_, .call 20, _, _, _⟩ :: _) _ _; refine run_callBX (hf := c44) (hn := ?_)) | (show RunOps _ _ _ _ (⟨_, .call 22, _, _, _⟩ :: _) _ _; refine run_callX (hf := c19) (hn := ?_)) | (show RunOps _ _ _ _ (⟨_, .call 23, _, _, _⟩ :: _) _ _; refine run_callX (hf := c51) (hn := ?_)) | (show RunOps _ _ _ _ (⟨_, .call 24, _, _, _⟩ :: _) _ _; refine run_callBX (hf := c52) (hn := ?_)) | (show RunOps _ _ _ _ (⟨_, .call 25, _, _, _⟩ :: _) _ _; refine run_callX (hf := c53) (hn := ?_)) | (show RunOps _ _ _ _ (⟨_, .call 9, _, _, _⟩ :: _) _ _; refine run_callX (hf := c29) (hn := ?_)) | (show RunOps _ _ _ _ (⟨_, .call 21, _, _, _⟩ :: _) _ _; refine run_callGX (hf := fun hc => (by first | exact pure41 [3240, 3270, 3300] | (simp only [qH, rng_0] at hc; exact pure41 [3240, 3270, 3300]))) (hn := ?_)) | (show RunOps _ _ _ _ (⟨_, .call 21, _, _, _⟩ :: _) _ _; refine run_callGX (hf := fun hc => (by first | exact pure41 [3, 2, 0] | (simp only [qH, rng_0] at hc; exact pure41 [3, 2, 0]))) (hn := ?_)) | (show RunOps _ _ _ _ (⟨_, .call 21, _, _, _⟩ :: _) _ _; refine run_callGX (hf := fun hc => (by first | exact pure41 [350, 351, 352, 353, 354, 355, 356, 357, 358, 359, 450] | (simp only [qH, rng_0] at hc; exact pure41 [350, 351, 352, 353, 354, 355, 356, 357, 358, 359, 450]))) (hn := ?_)) | (first | refine Stp.h ?_ | (show ∀ K : St → List Ft → Prop, _; intro K hK) | (show runS _ _ _ _ _; first | refine qY (hq := ?_) | refine qZ (hq := ?_)) | (refine hK _ _ ?_; clear hK K) | (refine hK _ _ rfl ?_; clear hK K) | (refine qZ (hq := ?_); try exact trivial) | omega)
  all_goals first | exact weakB (by decide) | decide
end Go.Proofs.Ytcfbdeghmckelaa
namespace Go.Proofs.Ytcfbdeghmckelaa
open Go.ChangeShapes Go.WideShapes Go.ChangeAt Go.RowKit
set_option linter.unusedVariables false
inductive CP where
  | b
  | i (k : IntKind)
  | s
  | sl (ag : Bool) (cs : List CP)
def isAgT (P : Program) (t : TypeId) : Bool := match P.underlying t with | some (.struct _) | some (.array _ _) => true | _ => false
def placesOk (P : Program) (F : TypeId → Option (List CP)) : List (TypeId × Nat) → Nat → Option (List CP)
  | [], _ => some []
  | p :: r, off => if p.2 = off then (F p.1).bind fun c => if P.cellsOf p.1 = c.length then (placesOk P F r (off + c.length)).map (c ++ ·) else none else none
def cellP (P : Program) : Nat → Bool → TypeId → Option (List CP)
  | 0, _, _ => none
  | n + 1, sl, t => match P.underlying t with
    | some .bool => some [.b]
    | some (.int k) => some [.i k]
    | some .string => some [.s]
    | some (.slice e) => if sl then (cellP P n false e).bind fun c => if P.cellsOf e = c.length ∧ (isAgT P e = true ∨ c.length = 1) then some [.sl (isAgT P e) c] else none else none
    | some (.struct fs) => (placesOk P (cellP P n sl) (fs.toList.map fun f => (f.type, f.offset)) 0).bind fun c => if c.length = P.cellsOf t then some c else none
    | some (.array m e) => (placesOk P (cellP P n sl) ((List.range m).map fun i => (e, i * P.cellsOf e)) 0).bind fun c => if c.length = P.cellsOf t then some c else none
    | _ => none
def elemPV (ag : Bool) (l : List PV) : PV := if ag then .agg l else l.headD .any
def FitAll (F : CP → PV → Prop) : List CP → List PV → Prop
  | [], [] => True
  | c :: cs, p :: ps => F c p ∧ FitAll F cs ps
  | _, _ => False
def Fit : Nat → CP → PV → Prop
  | _, .b, p => ∃ x, p = .b x
  | _, .i k, p => ∃ n, p = .i k n
  | _, .s, p => ∃ x, p = .s x
  | 0, .sl _ _, _ => False
  | n + 1, .sl ag cs, p => ∃ xs, p = .sl cs.length xs ∧ ∀ x ∈ xs, ∃ l, x = elemPV ag l ∧ FitAll (Fit n) cs l
theorem FitAll.app {F : CP → PV → Prop} : ∀ {a : List CP} {p : List PV} {b : List CP} {q : List PV}, FitAll F a p → FitAll F b q → FitAll F (a ++ b) (p ++ q)
  | [], [], _, _, _, h => h
  | [], _ :: _, _, _, h, _ => h.elim
  | _ :: _, [], _, _, h, _ => h.elim
  | c :: cs, p :: ps, _, _, h, k => ⟨h.1, FitAll.app h.2 k⟩
theorem FitAll.len {F : CP → PV → Prop} : ∀ {a : List CP} {p : List PV}, FitAll F a p → p.length = a.length
  | [], [], _ => rfl
  | [], _ :: _, h => h.elim
  | _ :: _, [], h => h.elim
  | c :: cs, p :: ps, h => by simp [FitAll.len h.2]
theorem mapM_all {α β : Type} {f : α → Option β} : ∀ {l : List α} {r : List β}, l.mapM f = some r → ∀ x ∈ l, ∃ y, f x = some y
  | [], _, _, x, hx => by cases hx
  | a :: l, r, h, x, hx => by
    rw [List.mapM_cons] at h
    cases ha : f a with
    | none => rw [ha] at h; cases h
    | some y =>
      rw [ha] at h
      simp only [Option.bind_eq_bind, Option.bind_some] at h
      cases hl : l.mapM f with
      | none => rw [hl] at h; cases h
      | some ys =>
        rcases List.mem_cons.1 hx with rfl | hx
        · exact ⟨y, ha⟩
        · exact mapM_all hl x hx
theorem mapM_length {α β : Type} {f : α → Option β} : ∀ {l : List α} {r : List β}, l.mapM f = some r → r.length = l.length
  | [], r, h => by simp at h; subst h; rfl
  | a :: l, r, h => by
    rw [List.mapM_cons] at h
    cases ha : f a with
    | none => rw [ha] at h; cases h
    | some y =>
      rw [ha] at h
      simp only [Option.bind_eq_bind, Option.bind_some] at h
      cases hl : l.mapM f with
      | none => rw [hl] at h; cases h
      | some ys =>
        rw [hl] at h
        simp only [Option.bind_some, Option.pure_def, Option.some.injEq] at h
        subst h
        simp [mapM_length hl]
theorem mapM_at {α β : Type} {f : α → Option β} : ∀ {l : List α} {r : List β}, l.mapM f = some r → ∀ {i : Nat} {x : α}, l[i]? = some x → f x = r[i]?
  | [], r, _, i, x, hx => by simp at hx
  | a :: l, r, h, i, x, hx => by
    rw [List.mapM_cons] at h
    cases ha : f a with
    | none => rw [ha] at h; cases h
    | some y =>
      rw [ha] at h
      simp only [Option.bind_eq_bind, Option.bind_some] at h
      cases hl : l.mapM f with
      | none => rw [hl] at h; cases h
      | some ys =>
        rw [hl] at h
        simp only [Option.bind_some, Option.pure_def, Option.some.injEq] at h
        subst h
        cases i with
        | zero => simp at hx; subst hx; simpa using ha
        | succ i => simpa using mapM_at hl (i := i) (by simpa using hx)
theorem wf_keep {k : IntKind} {n : Int} (h : (Lit.int k n).wf = true) : k.wrap n = n := by
  cases k <;> simp [Lit.wf, IntKind.wrap, IntKind.min, IntKind.max, IntKind.signed, IntKind.bits] at * <;> omega
section
variable {H : Type} {enc : TypeId × Value → H} {P : Program} {w : World} {base : Nat} {sp : Nat → Bool} {held : Bool}
theorem places_rep {fuel n : Nat} {sl : Bool} {B : Nat → Prop} {cs : List Value}
    (ih : ∀ {t : TypeId} {ds : List Value} {x : DataW H × List MemPlace} {c : List CP}, (∀ v ∈ ds, v ∈ cs) → DataW.trod enc P w base sp held fuel t ds = some x → cellP P n sl t = some c → ∃ ps, Reps w B ds ps ∧ FitAll (Fit n) c ps) :
    ∀ (fl : List (TypeId × Nat)) (off : Nat) (c : List CP), (∀ p ∈ fl, ∃ x, DataW.trod enc P w base sp held fuel p.1 ((cs.drop p.2).take (P.cellsOf p.1)) = some x) → placesOk P (cellP P n sl) fl off = some c → off + c.length ≤ cs.length →
      ∃ ps, Reps w B ((cs.drop off).take c.length) ps ∧ FitAll (Fit n) c ps
  | [], off, c, _, h, _ => by
    simp only [placesOk, Option.some.injEq] at h; subst h
    exact ⟨[], by simpa using Reps.nil, trivial⟩
  | p :: r, off, c, hx, h, hl => by
    simp only [placesOk] at h
    split at h
    · rename_i ho
      obtain ⟨c1, h1, h⟩ := Option.bind_eq_some_iff.1 h
      split at h
      · rename_i hc
        obtain ⟨c2, h2, rfl⟩ := Option.map_eq_some_iff.1 h
        obtain ⟨x, hx1⟩ := hx p (by simp)
        rw [ho, hc] at hx1
        obtain ⟨p1, r1, f1⟩ := ih (fun v hv => List.mem_of_mem_drop (List.mem_of_mem_take hv)) hx1 h1
        obtain ⟨p2, r2, f2⟩ := places_rep ih r (off + c1.length) c2 (fun q hq => hx q (by simp [hq])) h2 (by simp at hl; omega)
        refine ⟨p1 ++ p2, ?_, f1.app f2⟩
        have e : (cs.drop off).take (c1 ++ c2).length = (cs.drop off).take c1.length ++ (cs.drop (off + c1.length)).take c2.length := by
          rw [List.length_append, List.take_add, List.drop_drop]
        rw [e]; exact r1.append r2
      · cases h
    · cases h
theorem trod_rep {B : Nat → Prop} : ∀ (n fuel : Nat) (sl : Bool) {t : TypeId} {cs : List Value} {x : DataW H × List MemPlace} {c : List CP},
    DataW.trod enc P w base sp held fuel t cs = some x → cellP P n sl t = some c → (sl = true → ∀ v ∈ cs, ∀ a l k, v = .slice (some a) l k → B a.block ∧ a.spot = none) → ∃ ps, Reps w B cs ps ∧ FitAll (Fit n) c ps
  | 0, _, _, _, _, _, _, _, h, _ => by simp [cellP] at h
  | _ + 1, 0, _, _, _, _, _, h, _, _ => by simp [DataW.trod] at h
  | n + 1, fuel + 1, sl, t, cs, x, c, h, hc, hB => by
    have mono : ∀ {c : List CP} {ps : List PV}, FitAll (Fit n) c ps → FitAll (Fit (n + 1)) c ps := by
      have one : ∀ (m : Nat) (c : CP) (p : PV), Fit m c p → Fit (m + 1) c p := by
        intro m
        induction m with
        | zero => intro c p h; cases c <;> first | exact h | exact h.elim
        | succ m ihm =>
          intro c p h
          cases c with
          | b => exact h
          | i k => exact h
          | s => exact h
          | sl ag cs =>
            obtain ⟨xs, h1, h2⟩ := h
            refine ⟨xs, h1, fun x hx => ?_⟩
            obtain ⟨l, h3, h4⟩ := h2 x hx
            refine ⟨l, h3, ?_⟩
            have : ∀ (a : List CP) (b : List PV), FitAll (Fit m) a b → FitAll (Fit (m + 1)) a b := by
              intro a
              induction a with
              | nil => intro b hb; cases b <;> exact hb
              | cons y r ihr =>
                intro b hb
                cases b with
                | nil => exact hb
                | cons z q => exact ⟨ihm _ _ hb.1, ihr _ hb.2⟩
            exact this _ _ h4
      intro c
      induction c with
      | nil => intro ps h; cases ps <;> exact h
      | cons y r ihr =>
        intro ps h
        cases ps with
        | nil => exact h
        | cons z q => exact ⟨one _ _ _ h.1, ihr h.2⟩
    unfold DataW.trod at h
    unfold cellP at hc
    cases hu : P.underlying t with
    | none => rw [hu] at hc; cases hc
    | some d =>
      rw [hu] at h hc
      match d, h, hc with
      | .bool, h, hc =>
        simp only [Option.some.injEq] at hc; subst hc
        match cs, h with
        | [.bool b], h => exact ⟨[.b b], Reps.cons (.b b) Reps.nil, ⟨b, rfl⟩, trivial⟩
      | .int k, h, hc =>
        simp only [Option.some.injEq] at hc; subst hc
        match cs, h with
        | [.int k' m], h =>
          simp only at h
          split at h
          · rename_i hk
            obtain ⟨rfl, hw⟩ := hk
            exact ⟨[.i k' m], Reps.cons (.i (wf_keep hw)) Reps.nil, ⟨m, rfl⟩, trivial⟩
          · cases h
      | .string, h, hc =>
        simp only [Option.some.injEq] at hc; subst hc
        match cs, h with
        | [.string z], h =>
          simp only at h
          split at h
          · rename_i hk
            exact ⟨[.s z], Reps.cons (.s hk) Reps.nil, ⟨z, rfl⟩, trivial⟩
          · cases h
      | .slice e, h, hc =>
        simp only at hc
        split at hc
        · rename_i hsl
          obtain ⟨ce, h1, hc⟩ := Option.bind_eq_some_iff.1 hc
          split at hc
          · rename_i hce
            simp only [Option.some.injEq] at hc; subst hc
            match cs, h with
            | [.slice none 0 0], h => exact ⟨[.sl ce.length []], Reps.cons .sl0 Reps.nil, ⟨[], rfl, fun x hx => by cases hx⟩, trivial⟩
            | [.slice (some a) len cap], h =>
              simp only at h
              split at h
              · rename_i hb
                obtain ⟨els, h2, _⟩ := Option.bind_eq_some_iff.1 h
                have hBa := hB hsl _ (by simp) a len cap rfl
                have key : ∀ i, i < len → ∃ (us : List Value) (ps : List PV), (∀ j v, us[j]? = some v → w.cell? (a.add (i * ce.length + j)) = some v) ∧ Reps w B us ps ∧ FitAll (Fit n) ce ps := fun i hi => by
                  obtain ⟨y, hy⟩ := mapM_all h2 i (List.mem_range.2 hi)
                  obtain ⟨us, h3, h4⟩ := Option.bind_eq_some_iff.1 hy
                  obtain ⟨ps, h5, h6⟩ := trod_rep (B := B) n fuel false h4 h1 (fun h => by cases h)
                  refine ⟨us, ps, fun j v hv => ?_, h5, h6⟩
                  unfold World.cells? at h3
                  split at h3
                  · have hlen : j < P.cellsOf e := by
                      have e1 : us.length = P.cellsOf e := by
                        have := mapM_length h3
                        simpa using this
                      rw [← e1]; exact (List.getElem?_eq_some_iff.1 hv).1
                    have := mapM_at h3 (List.getElem?_range hlen)
                    rw [hv] at this
                    rw [hce.1] at this
                    rw [← Addr.add_add]; exact this
                  · cases h3
                classical
                let U : Nat → List Value := fun i => if hi : i < len then (key i hi).choose else []
                let PS : Nat → List PV := fun i => if hi : i < len then (key i hi).choose_spec.choose else []
                have hU : ∀ i, i < len → (∀ j v, (U i)[j]? = some v → w.cell? (a.add (i * ce.length + j)) = some v) ∧ Reps w B (U i) (PS i) ∧ FitAll (Fit n) ce (PS i) := fun i hi => by
                  have := (key i hi).choose_spec.choose_spec
                  simp only [U, PS, dif_pos hi]; exact this
                have hcells : ∀ i, i < len → (elemPV (isAgT P e) (PS i)).cells = PS i := fun i hi => by
                  unfold elemPV
                  split
                  · rfl
                  · rename_i hag
                    have hl := (hU i hi).2.2
                    have h1l : ce.length = 1 := hce.2.resolve_left hag
                    obtain ⟨q, rfl⟩ : ∃ q, ce = [q] := List.length_eq_one_iff.1 h1l
                    match hPS : PS i, hl with
                    | [z], hl =>
                      have hz := hl.1
                      simp only [List.headD_cons]
                      cases q with
                      | b => cases n <;> (obtain ⟨_, rfl⟩ := hz; rfl)
                      | i k => cases n <;> (obtain ⟨_, rfl⟩ := hz; rfl)
                      | s => cases n <;> (obtain ⟨_, rfl⟩ := hz; rfl)
                      | sl ag cs =>
                        cases n with
                        | zero => exact hz.elim
                        | succ n => obtain ⟨_, rfl, _⟩ := hz; rfl
                refine ⟨[.sl ce.length ((List.range len).map fun i => elemPV (isAgT P e) (PS i))], Reps.cons (.sl (fun i j => (U i)[j]?.getD undef) hBa.1 hBa.2 (by simp) hb.2.1 hb.2.2 ?_ ?_ ?_) Reps.nil, ⟨_, rfl, fun x hx => ?_⟩, trivial⟩
                · intro i x hx
                  simp only [List.getElem?_map, Option.map_eq_some_iff] at hx
                  obtain ⟨i', hi', rfl⟩ := hx
                  obtain ⟨hi, rfl⟩ := List.getElem?_eq_some_iff.1 hi'
                  simp only [List.length_range, List.getElem_range] at hi ⊢
                  rw [hcells i hi, (hU i hi).2.2.len]
                · intro i x j p hx hp
                  simp only [List.getElem?_map, Option.map_eq_some_iff] at hx
                  obtain ⟨i', hi', rfl⟩ := hx
                  obtain ⟨hi, rfl⟩ := List.getElem?_eq_some_iff.1 hi'
                  simp only [List.length_range, List.getElem_range] at hi hp ⊢
                  rw [hcells i hi] at hp
                  obtain ⟨v, hv, _⟩ := (hU i hi).2.1.get hp
                  rw [hv]; exact (hU i hi).1 j v hv
                · intro i x j p hx hp
                  simp only [List.getElem?_map, Option.map_eq_some_iff] at hx
                  obtain ⟨i', hi', rfl⟩ := hx
                  obtain ⟨hi, rfl⟩ := List.getElem?_eq_some_iff.1 hi'
                  simp only [List.length_range, List.getElem_range] at hi hp ⊢
                  rw [hcells i hi] at hp
                  obtain ⟨v, hv, hr⟩ := (hU i hi).2.1.get hp
                  rw [hv]; exact hr
                · obtain ⟨i, hi, rfl⟩ := List.mem_map.1 hx
                  exact ⟨_, rfl, (hU i (List.mem_range.1 hi)).2.2⟩
              · cases h
          · cases hc
        · cases hc
      | .struct fs, h, hc =>
        simp only at h hc
        obtain ⟨c', h1, hc⟩ := Option.bind_eq_some_iff.1 hc
        split at hc
        · rename_i hl
          simp only [Option.some.injEq] at hc; subst hc
          split at h
          · rename_i hcs
            obtain ⟨xs, h2, _⟩ := Option.map_eq_some_iff.1 h
            obtain ⟨ps, h3, h4⟩ := places_rep (B := B) (cs := cs) (n := n) (sl := sl) (fun hsub hx hc => trod_rep n fuel sl hx hc (fun h v hv => hB h v (hsub v hv))) (fs.toList.map fun f => (f.type, f.offset)) 0 c' (fun p hp => by
              obtain ⟨f, hf, rfl⟩ := List.mem_map.1 hp
              exact mapM_all h2 f hf) h1 (by omega)
            rw [List.drop_zero, hl, ← hcs, List.take_length] at h3
            exact ⟨ps, h3, mono h4⟩
          · cases h
        · cases hc
      | .array m e, h, hc =>
        simp only at h hc
        obtain ⟨c', h1, hc⟩ := Option.bind_eq_some_iff.1 hc
        split at hc
        · rename_i hl
          simp only [Option.some.injEq] at hc; subst hc
          split at h
          · rename_i hcs
            obtain ⟨xs, h2, _⟩ := Option.map_eq_some_iff.1 h
            obtain ⟨ps, h3, h4⟩ := places_rep (B := B) (cs := cs) (n := n) (sl := sl) (fun hsub hx hc => trod_rep n fuel sl hx hc (fun h v hv => hB h v (hsub v hv))) ((List.range m).map fun i => (e, i * P.cellsOf e)) 0 c' (fun p hp => by
              obtain ⟨i, hi, rfl⟩ := List.mem_map.1 hp
              exact mapM_all h2 i hi) h1 (by omega)
            rw [List.drop_zero, hl, ← hcs, List.take_length] at h3
            exact ⟨ps, h3, mono h4⟩
          · cases h
        · cases hc
end
end Go.Proofs.Ytcfbdeghmckelaa
namespace Go.Proofs.Ytcfbdeghmckelaa
open Go.ChangeShapes Go.WideShapes Go.ChangeAt Go.RowKit
set_option linter.unusedVariables false
def parP (P : Program) (n : Nat) (t : TypeId) : Option (Bool × List CP) := (cellP P n true t).bind fun c => if isAgT P t = true ∨ c.length = 1 then some (isAgT P t, c) else none
def FitPar (P : Program) (n : Nat) (t : TypeId) (p : PV) : Prop :=
  (∃ ag c l, parP P n t = some (ag, c) ∧ p = elemPV ag l ∧ FitAll (Fit n) c l) ∧ (∀ e sz xs, P.underlying t = some (.slice e) → p = .sl sz xs → xs.length * P.bytesOf e ≤ reachBytes)
def FitPars (P : Program) (n : Nat) : List TypeId → List PV → Prop
  | [], [] => True
  | t :: ts, p :: ps => FitPar P n t p ∧ FitPars P n ts ps
  | _, _ => False
section
variable {H : Type} {enc : TypeId × Value → H} {P : Program} {W : World}
theorem cell_block {base : Nat} {u : TypeId} {a : Addr} {l k : Nat} (h : Cell.okWide P W .any base u (.slice (some a) l k)) : a.block < W.heap.size ∧ a.spot = none := by
  unfold Cell.okWide at h
  have h2 : Cell.ok P W .any base u (.slice (some a) l k) := by
    split at h
    all_goals first | exact h | (rename_i hv; cases hv)
  unfold Cell.ok at h2
  split at h2
  all_goals first | exact h2.elim | skip
  all_goals rename_i hv
  all_goals first | cases hv | skip
  obtain ⟨_, _, _, hsp, row, cells, hs, _⟩ := h2
  refine ⟨?_, hsp⟩
  unfold World.shape? at hs
  cases hh : W.heap[a.block]? with
  | none => rw [hh] at hs; cases hs
  | some o => exact (Array.getElem?_eq_some_iff.1 hh).1
theorem par_rep {base n : Nat} {t : TypeId} {v : Value} {d : DataW H} {ps : List MemPlace} (hval : Value.okWide P W .any base t v) (h : DataW.Trod enc P W 0 (fun _ => true) true t v d ps) {q : Bool × List CP} (hq : parP P n t = some q)
    (hz : (d.weights P t).all (· ≤ reachBytes) = true) : ∃ p, Rep W (fun b => b < W.heap.size) v p ∧ FitPar P n t p := by
  obtain ⟨fuel, h⟩ := h
  have hq0 := hq
  unfold parP at hq
  obtain ⟨c, hc, hq⟩ := Option.bind_eq_some_iff.1 hq
  split at hq
  · rename_i hl
    simp only [Option.some.injEq] at hq
    subst hq
    unfold isAgT at hl hq0
    have key : ∀ {cs : List Value}, DataW.trod enc P W 0 (fun _ => true) true fuel t cs = some (d, ps) → (∀ v ∈ cs, ∃ u, Cell.okWide P W .any base u v) → ∃ l, Reps W (fun b => b < W.heap.size) cs l ∧ FitAll (Fit n) c l := fun ht hc1 =>
      trod_rep n fuel true ht hc (fun _ v hv a l k e => by
        obtain ⟨u, hu⟩ := hc1 v hv
        subst e
        exact cell_block hu)
    have other : isAgT P t = false → (∃ u, Cell.okWide P W .any base u v) → v.cells.toList = [v] → ∃ p, Rep W (fun b => b < W.heap.size) v p ∧ FitPar P n t p := fun hag hok hcv => by
      rw [hcv] at h
      obtain ⟨l, h1, h2⟩ := key h (fun v' hv => by simp at hv; subst hv; exact hok)
      have hlen := h1.1
      match l, hlen with
      | [p], _ =>
        have hr := h1.2 0 v p rfl rfl
        refine ⟨p, hr, ⟨false, c, [p], ?_, rfl, h2⟩, fun e sz xs hu he => ?_⟩
        · rw [hq0]
          have : isAgT P t = false := hag
          unfold isAgT at this
          rw [this]
        · subst he
          cases hr with
          | sl0 => simp
          | sl u h3 h4 h5 h6 h7 h8 h9 h10 =>
            rename_i a len cap hh
            cases fuel with
            | zero => simp [DataW.trod] at h
            | succ fuel =>
              unfold DataW.trod at h
              rw [hu] at h
              simp only at h
              split at h
              · obtain ⟨els, e1, h⟩ := Option.bind_eq_some_iff.1 h
                obtain ⟨rest, e2, h⟩ := Option.map_eq_some_iff.1 h
                injection h with hd _
                subst hd
                have := List.all_eq_true.1 hz ((els.length + rest.length) * P.bytesOf e) (by simp [DataW.weights, hu])
                simp only [decide_eq_true_eq] at this
                have hle : els.length = len := by simpa using mapM_length e1
                rw [h5, ← hle]
                exact Nat.le_trans (Nat.mul_le_mul_right _ (Nat.le_add_right _ _)) this
              · cases h
    unfold Value.okWide at hval
    cases hu : P.underlying t with
    | none => unfold cellP at hc; cases n <;> simp [hu] at hc
    | some desc =>
      have ag : (∃ fs, desc = .struct fs) ∨ (∃ k e, desc = .array k e) ∨ (isAgT P t = false ∧ Cell.okWide P W .any base t v) := by
        unfold isAgT
        rw [hu] at hval ⊢
        cases desc <;> first | exact .inl ⟨_, rfl⟩ | exact .inr (.inl ⟨_, _, rfl⟩) | exact .inr (.inr ⟨rfl, hval⟩)
      have agg : isAgT P t = true → (∃ cs, v = .agg cs ∧ cs.size = P.cellsOf t ∧ Row.okWide P W .any base t cs) → ∃ p, Rep W (fun b => b < W.heap.size) v p ∧ FitPar P n t p := fun hag hcs => by
        obtain ⟨cs, rfl, _, hrow⟩ := hcs
        obtain ⟨l, h1, h2⟩ := key (cs := cs.toList) h (fun v' hv => by
          obtain ⟨ts, _, _, hcell⟩ := hrow
          obtain ⟨i, hi⟩ := List.getElem?_of_mem hv
          obtain ⟨u, _, hk⟩ := hcell i v' (by simpa using hi)
          exact ⟨u, hk⟩)
        refine ⟨.agg l, .agg (by simpa using h1.1) (fun j v' p hv hp => h1.2 j v' p (by simpa using hv) hp), ⟨true, c, l, ?_, rfl, h2⟩, fun e sz xs hu' he => by cases he⟩
        rw [hq0]
        have : isAgT P t = true := hag
        unfold isAgT at this
        rw [this]
      rcases ag with ⟨fs, rfl⟩ | ⟨k, e, rfl⟩ | ⟨hag, hok⟩
      · rw [hu] at hval
        exact agg (by unfold isAgT; rw [hu]) hval
      · rw [hu] at hval
        exact agg (by unfold isAgT; rw [hu]) hval
      · refine other hag ⟨t, hok⟩ ?_
        have : ∀ cs, v ≠ .agg cs := fun cs e => by
          subst e
          unfold Cell.okWide at hok
          have h2 : Cell.ok P W .any base t (.agg cs) := by
            split at hok
            all_goals first | exact hok | (rename_i hv; cases hv)
          unfold Cell.ok at h2
          split at h2
          all_goals first | exact h2.elim | skip
          all_goals (rename_i hv; first | cases hv | skip)
        cases v <;> first | rfl | exact absurd rfl (this _)
  · cases hq
theorem pars_rep {base n : Nat} : ∀ {ts : List TypeId} {vs : List Value} {ds : List (DataW H)} {ps : List MemPlace}, DataW.TrodAll enc P W 0 (fun _ => true) true ts vs ds ps → (∀ (j : Nat) t v, ts[j]? = some t → vs[j]? = some v → Value.okWide P W .any base t v) →
    (∀ t ∈ ts, ∃ q, parP P n t = some q) → (DataW.weightsEach P ts ds).all (· ≤ reachBytes) = true → ∃ l, Reps W (fun b => b < W.heap.size) vs l ∧ FitPars P n ts l
  | [], vs, ds, ps, h, _, _, _ => by
    obtain ⟨rfl, rfl, rfl⟩ := trodAll_nil h
    exact ⟨[], Reps.nil, trivial⟩
  | t :: ts, vs, ds, ps, h, hval, hq, hz => by
    obtain ⟨v, vs1, d, ds1, a, b, rfl, rfl, rfl, h1, h2⟩ := trodAll_cons h
    obtain ⟨q, hq1⟩ := hq t (by simp)
    simp only [DataW.weightsEach, List.all_append, Bool.and_eq_true] at hz
    obtain ⟨p, r1, f1⟩ := par_rep (n := n) (hval 0 t v rfl rfl) h1 hq1 hz.1
    obtain ⟨l, r2, f2⟩ := pars_rep h2 (fun j t v ht hv => hval (j + 1) t v (by simpa using ht) (by simpa using hv)) (fun t ht => hq t (by simp [ht])) hz.2
    exact ⟨p :: l, Reps.cons r1 r2, f1, f2⟩
theorem trodAll_stays (hl : laidOutB P = true) {W' : World} {sp : Nat → Bool} : ∀ {ts : List TypeId} {vs : List Value} {ds : List (DataW H)} {ps : List MemPlace}, ts.all (fun t => P.readableRec t && decide (t < P.types.size)) = true → DataW.TrodAll enc P W 0 (fun _ => true) true ts vs ds ps →
    (∀ x ∈ ps, W.sameAt W' x) → (∀ x ∈ ps, sp x.block = true) → DataW.TrodAll enc P W' 0 sp true ts vs ds ps
  | [], vs, ds, ps, _, h, _, _ => by
    obtain ⟨rfl, rfl, rfl⟩ := trodAll_nil h
    exact h
  | t :: ts, vs, ds, ps, hr, h, hs, hp => by
    obtain ⟨v, vs1, d, ds1, a, b, rfl, rfl, rfl, h1, h2⟩ := trodAll_cons h
    simp only [List.all_cons, Bool.and_eq_true, decide_eq_true_eq] at hr
    exact ⟨a, b, WideElems.Trod_stays hl hr.1.1 hr.1.2 h1 (fun x hx => hs x (by simp [hx])) (fun x hx => hp x (by simp [hx])), trodAll_stays hl hr.2 h2 (fun x hx => hs x (by simp [hx])) (fun x hx => hp x (by simp [hx])), rfl⟩
theorem kept_below {W' : World} (hb : Below W.heap.size W W') (may : MemPlace → Prop) : W.keptBut W' may := by
  refine ⟨hb.os, hb.output, fun i hi => ?_⟩
  rw [hb.block i hi]
  cases hh : W.heap[i]? with
  | none => rfl
  | some o => cases o <;> first | exact ⟨rfl, rfl, rfl, fun _ _ => rfl⟩ | exact .inr ⟨rfl, rfl⟩ | rfl
theorem post_below {f : Func} {s : ChangeSpec} {apart fresh handsOn again : Bool} {W' : World} {args : Array Value} {ds gs : List (DataW H)} {before : List MemPlace} {tb : TypeId} (hl : laidOutB P = true)
    (hrd : f.params.toList.all (fun t => P.readableRec t && decide (t < P.types.size)) = true) (hW : DataW.Whole enc P f.params.toList s.vars apart W args.toList ds gs before) (hv : s.vars = [])
    (hs : s.fn H ds = { results := [.lit (.bool true)], args := ds }) (hr : f.resultTypes = #[tb]) (htb : P.underlying tb = some .bool) (hb : Below W.heap.size W W') : s.post enc P f apart fresh handsOn again W args (.bool true) W' := by
  have hlt : ∀ p ∈ before, p.block < W.heap.size := hW.lt
  have hW0 := hW
  obtain ⟨p, q, hA, hV, rfl, hz, hn⟩ := hW
  rw [hv] at hV
  obtain ⟨rfl, rfl⟩ := trodVars_none hV
  simp only [List.append_nil] at hz hn hlt hW0
  have hres : ∀ (b : Nat) (sp : Nat → Bool) (hd : Bool), DataW.TrodAll enc P W' b sp hd f.resultTypes.toList ((Value.bool true).resultList f.resultTypes.size) [.lit (.bool true)] [] := fun b sp hd => by
    rw [hr]; exact trodAll_cons_mk (shut_bool htb _) trodAll_mk0
  have hargs : ∀ sp : Nat → Bool, (∀ x ∈ p, sp x.block = true) → DataW.TrodAll enc P W' 0 sp true f.params.toList args.toList ds p := fun sp hsp => trodAll_stays hl hrd hA (fun x hx => hb.same (hlt x hx)) hsp
  have hvars : ∀ sp : Nat → Bool, DataW.TrodVars enc P W' sp s.vars ([] : List (DataW H)) [] := fun sp => by rw [hv]; rfl
  refine ⟨ds, [], p, [], p, [], hW0, by rw [List.append_nil, hs]; exact hres _ _ _, by rw [List.append_nil, hs]; exact hargs _ (fun x hx => by simpa using hlt x hx), by rw [List.append_nil, hs]; exact hvars _, World.keptBut_mono (fun x hx => ⟨hx, .inr (.inl hx)⟩) (kept_below hb (· ∈ p)), fun _ => ?_⟩
  refine ⟨fun j t r h1 h2 => ?_, [.lit (.bool true)] ++ ds, [], p, ⟨[] ++ p, [], trodAll_append (hargs _ (fun _ _ => rfl)) (hres _ _ _), hvars _, by simp, ?_, ?_⟩, fun x hx _ => hx⟩
  · rw [hr] at h1 h2
    cases j with
    | zero =>
      simp [Value.resultList] at h1 h2
      subst h1; subst h2
      exact okWide_bool_mk htb _
    | succ j => simp at h1
  · intro b off hp
    have := hz b off hp
    unfold World.frozen? at this ⊢
    have e : W'.heap[b]? = W.heap[b]? := hb.block b (hlt _ hp)
    simp only at this ⊢
    rw [e]
    exact this
  · intro ha; exact hn ha
end
theorem law_contract {C : Checked} {f : FuncId} {fn : Func} {s : ChangeSpec} {n : Nat} {tb : TypeId} (hl : laidOutB C.prog = true) (hrd : fn.params.toList.all (fun t => C.prog.readableRec t && decide (t < C.prog.types.size)) = true)
    (hv : s.vars = []) (hs : ∀ (H : Type) (ds : List (DataW H)), ds.length = fn.params.size → s.fn H ds = { results := [.lit (.bool true)], args := ds }) (hr : fn.resultTypes = #[tb]) (htb : C.prog.underlying tb = some .bool)
    (hq : fn.params.toList.all (fun t => (parP C.prog n t).isSome) = true) (hp : ∀ ps, FitPars C.prog n fn.params.toList ps → Pure C.prog f ps (.b true))
    {H : Type} {enc : TypeId × Value → H} {apart fresh handsOn again : Bool} (W : World) (base : Nat) (args : Array Value) (ds gs : List (DataW H)) (before : List MemPlace)
    (hval : ∀ (j : Nat) t v, fn.params[j]? = some t → args[j]? = some v → Value.okWide C.prog W .any base t v) (hW : DataW.Whole enc C.prog fn.params.toList s.vars apart W args.toList ds gs before)
    (hz : (DataW.weightsEach C.prog (fn.params.toList ++ s.plain.varTypes C.prog) (ds ++ gs)).all (· ≤ reachBytes) = true) :
    Calls C.prog f args W fun e W' => ∃ v, e = .returned v ∧ s.post enc C.prog fn apart fresh handsOn again W args v W' := by
  have hW0 := hW
  obtain ⟨p, q, hA, hV, rfl, _, _⟩ := hW
  have hV' := hV
  rw [hv] at hV'
  obtain ⟨rfl, rfl⟩ := trodVars_none hV'
  have hlen : ∀ {ts : List TypeId} {vs : List Value} {ds : List (DataW H)} {ps : List MemPlace}, DataW.TrodAll enc C.prog W 0 (fun _ => true) true ts vs ds ps → ds.length = ts.length := by
    intro ts
    induction ts with
    | nil => intro vs ds ps h; obtain ⟨rfl, rfl, rfl⟩ := trodAll_nil h; rfl
    | cons t ts ih => intro vs ds ps h; obtain ⟨v, vs1, d, ds1, a, b, rfl, rfl, rfl, h1, h2⟩ := trodAll_cons h; simp [ih h2]
  have hd := hlen hA
  have hz' : (DataW.weightsEach C.prog fn.params.toList ds).all (· ≤ reachBytes) = true := by
    rw [List.append_nil] at hz
    have hsub : ∀ (ts us : List TypeId) (ds : List (DataW H)), ds.length = ts.length → DataW.weightsEach C.prog (ts ++ us) ds = DataW.weightsEach C.prog ts ds := by
      intro ts us
      induction ts with
      | nil => intro ds h; match ds, h with | [], _ => cases us <;> simp [DataW.weightsEach]
      | cons t ts ih => intro ds h; match ds, h with | d :: ds, h => simp only [List.cons_append, DataW.weightsEach]; rw [ih ds (by simpa using h)]
    rw [hsub _ _ _ hd] at hz
    exact hz
  obtain ⟨l, hrep, hfit⟩ := pars_rep (n := n) hA (fun j t v ht hv' => hval j t v (by simpa using ht) (by simpa using hv')) (fun t ht => Option.isSome_iff_exists.1 (List.all_eq_true.1 hq t ht)) hz'
  have := (hp l hfit).2 W (fun b => b < W.heap.size) args.toList (fun b hb => hb) hrep
  refine (show Calls C.prog f args W _ from by simpa using this).mono fun e W' he => ?_
  obtain ⟨u, rfl, hb, hu⟩ := he
  cases hu
  exact ⟨_, rfl, post_below hl hrd hW0 hv (hs H ds (by simpa using hd)) hr htb hb⟩
end Go.Proofs.Ytcfbdeghmckelaa
namespace Go.Proofs.Ytcfbdeghmckelaa
open Go.RowKit
theorem RelC.pub {X : Fx} {C : Ctx} {tr : List (List PV)} {stop : Bool} {a : Act} {w : World} {s : St} (hM : X.MOk) (h : RelC X C s.get s.look tr stop a w) (t : Nat) {pre : Prop} {v v' : PV} {ks : List Nat} (ht : toPV s.look 4 (s.get t) = some (pre, v, ks)) (hp : pre) (hw : Weak v v') :
    ∃ C', RelC X C' ((s.wrs (frzs s.look ks)).set (some t) (.p v')).get ((s.wrs (frzs s.look ks)).set (some t) (.p v')).look tr stop a w := by
  obtain ⟨C', h1, h2, h3⟩ := freezes hM s.look C ks s C h rfl rfl (fun _ h => h) (fun k => .inl rfl) (toPV_keys 4 ht)
  have hr := toPV_rep h (B' := C'.B) h2 4 (h.env t) ht hp h3
  refine ⟨C', ?_⟩
  rw [get_set, look_set]
  refine { h1 with env := fun j => ?_, envs := fun j => ?_ }
  · by_cases e : j = t
    · subst e; simp only [upd_same]; exact .p (hw.rep hr)
    · simp only [upd_ne _ _ e]; exact h1.env j
  · by_cases e : j = t
    · subst e; simp only [upd_same]; exact .p _
    · simp only [upd_ne _ _ e]; exact h1.envs j
theorem run_pub {G : Cfg} {c : AC} {s : St} {Q : APost} (t : Nat) (v' : PV) {pre : Prop} {v : PV} {ks : List Nat} (ht : toPV s.look 4 (s.get t) = some (pre, v, ks)) (hp : pre) (hw : Weak v v')
    (h : Run G c ((s.wrs (frzs s.look ks)).set (some t) (.p v')) Q) : Run G c s Q := by
  intro hG code hc C a w hr
  obtain ⟨C', h'⟩ := hr.pub hG.mok t ht hp hw
  refine h hG code hc C' a w ?_
  rw [(tr_set _ _ _).1, (tr_set _ _ _).2, (tr_wrs _ _).1, (tr_wrs _ _).2]
  exact h'
inductive Pubs : St → St → Prop
  | cov {s s' : St} (h : Cov s s') : Pubs s s'
  | pub {s s' : St} (t : Nat) (v' : PV) {pre : Prop} {v : PV} {ks : List Nat} (ht : toPV s.look 4 (s.get t) = some (pre, v, ks)) (hp : pre) (hw : Weak v v') (h : Pubs ((s.wrs (frzs s.look ks)).set (some t) (.p v')) s') : Pubs s s'
theorem Pubs.rel {X : Fx} {a : Act} {w : World} {s s' : St} (hM : X.MOk) (h : Pubs s s') : ∀ {C : Ctx}, RelC X C s.get s.look s.tr s.stop a w → ∃ C', RelC X C' s'.get s'.look s'.tr s'.stop a w := by
  induction h with
  | cov h => exact fun hr => ⟨_, cov_rel h hr⟩
  | pub t v' ht hp hw _ ih =>
    intro C hr
    obtain ⟨C', h'⟩ := hr.pub hM t ht hp hw
    refine ih (C := C') ?_
    rw [(tr_set _ _ _).1, (tr_set _ _ _).2, (tr_wrs _ _).1, (tr_wrs _ _).2]
    exact h'
theorem Pubs.x {s s' : St} (t : Nat) (v' : PV) {pre : Prop} {v : PV} {ks : List Nat} (h : Pubs ((s.wrs (frzs s.look ks)).set (some t) (.p v')) s')
    (ht : toPV s.look 4 (s.get t) = some (pre, v, ks) := by simp (disch := omega) only [qS, qe, Nat.reduceAdd, Nat.reduceMul, Nat.reduceEqDiff, Nat.reduceLeDiff, reduceIte, reduceCtorEq, Nat.reduceBEq, Nat.reduceLT] <;> rfl)
    (hp : pre := by first | trivial | omega | (simp; done) | (simp (disch := omega) only [qS, qe, Nat.reduceAdd, Nat.reduceMul, Nat.reduceEqDiff, Nat.reduceLeDiff, reduceIte, reduceCtorEq, Nat.reduceBEq, Nat.reduceLT] <;> omega)) (hw : Weak v v' := by first | exact .refl _ | exact .nilsl _) : Pubs s s' := .pub t v' ht hp hw h
theorem run_pubX {G : Cfg} {c : AC} {s : St} {Q : APost} (t : Nat) (v' : PV) {pre : Prop} {v : PV} {ks : List Nat} (h : Run G c ((s.wrs (frzs s.look ks)).set (some t) (.p v')) Q)
    (ht : toPV s.look 4 (s.get t) = some (pre, v, ks) := by simp (disch := omega) only [qS, qe, Nat.reduceAdd, Nat.reduceMul, Nat.reduceEqDiff, Nat.reduceLeDiff, reduceIte, reduceCtorEq, Nat.reduceBEq, Nat.reduceLT] <;> rfl)
    (hp : pre := by first | trivial | omega | (simp; done) | (simp (disch := omega) only [qS, qe, Nat.reduceAdd, Nat.reduceMul, Nat.reduceEqDiff, Nat.reduceLeDiff, reduceIte, reduceCtorEq, Nat.reduceBEq, Nat.reduceLT] <;> omega)) (hw : Weak v v' := by first | exact .refl _ | exact .nilsl _) : Run G c s Q := run_pub t v' ht hp hw h
def LoopEnd {κ : Type} (inv : κ → St) (ok : κ → Prop) (μ : κ → Nat) (k : κ) (s : St) : Prop := ∃ k', ok k' ∧ μ k' < μ k ∧ Pubs s (inv k')
def loopP {κ : Type} (inv : κ → St) (ok : κ → Prop) (μ : κ → Nat) (k : κ) (Q : APost) : APost
  | .normal, s => LoopEnd inv ok μ k s
  | e, s => Q e s
section
variable {κ : Type} (inv : κ → St) (ok : κ → Prop) (μ : κ → Nat) (k : κ) (Q : APost) (s : St)
theorem lpN : loopP inv ok μ k Q .normal s = LoopEnd inv ok μ k s := rfl
theorem lpE (i : Nat) : loopP inv ok μ k Q (.exit i) s = Q (.exit i) s := rfl
theorem lpR : loopP inv ok μ k Q .ret s = Q .ret s := rfl
end
theorem run_loopP {κ : Type} {G : Cfg} {Q : APost} {s : St} {c : AC} (inv : κ → St) (ok : κ → Prop) (μ : κ → Nat) (k0 : κ) (h0 : Pubs s (inv k0)) (hk0 : ok k0) (hbody : ∀ k, ok k → Run G c (inv k) (loopP inv ok μ k Q)) : Run G (.loop c) s Q := by
  intro hG code hc C a w hr
  obtain ⟨C1, hr⟩ := h0.rel hG.mok hr
  cases code <;> simp only [compile, Option.map_eq_some_iff] at hc
  case loop c1 =>
    obtain ⟨x', h1, hc⟩ := hc
    injection hc with e1; subst e1
    obtain ⟨m, hm⟩ := least_of fun a w n => ∃ k C, ok k ∧ μ k = n ∧ RelC G.X C (inv k).get (inv k).look (inv k).tr (inv k).stop a w
    refine wpIn_loop (fun a w => ∃ n k C, ok k ∧ μ k = n ∧ RelC G.X C (inv k).get (inv k).look (inv k).tr (inv k).stop a w) m ⟨_, k0, C1, hk0, rfl, hr⟩ ?_
    intro a w hI
    obtain ⟨⟨k, C, hok, hμ, hr⟩, hmin⟩ := hm a w hI
    refine wpIn_mono (hbody k hok hG c1 h1 C a w hr) ?_
    rintro e a' w' ⟨s', C', hr', hq⟩
    cases e with
    | normal =>
      obtain ⟨k', hok', hlt, hcov⟩ := hq
      obtain ⟨C2, hr2⟩ := hcov.rel hG.mok hr'
      have hex : ∃ n, (fun a w n => ∃ k C, ok k ∧ μ k = n ∧ RelC G.X C (inv k).get (inv k).look (inv k).tr (inv k).stop a w) a' w' n := ⟨_, k', C2, hok', rfl, hr2⟩
      refine ⟨hex, ?_⟩
      have := (hm a' w' hex).2 (μ k') ⟨k', C2, hok', rfl, hr2⟩
      omega
    | exit id => exact ⟨s', C', hr', hq⟩
    | ret => exact ⟨s', C', hr', hq⟩
    | goto l => exact hq.elim
    | panic c => exact hq.elim
    | outgrown => exact hq.elim
  all_goals first | (cases hc; done) | (obtain ⟨_, _, hc⟩ := hc; cases hc; done) | (split at hc <;> cases hc; done)
end Go.Proofs.Ytcfbdeghmckelaa
namespace Go.Proofs.Ytcfbdeghmckelaa
open Go.RowKit Go.ChangeShapes Go.WideShapes Go.ChangeAt
set_option maxRecDepth 100000
set_option linter.unusedVariables false
set_option linter.unusedSimpArgs false
set_option maxHeartbeats 4000000
abbrev iT : CP := .i .i64
def limT : List CP := [.s, .s, .s, iT, iT, iT, iT, iT, iT, iT, iT]
def movT : List CP := [iT, .s, .s, iT, iT, iT, .s]
theorem lim_of {l : List PV} (h : FitAll (Fit 3) limT l) : ∃ L : Lim, l = L.cells := by
  match l, h with
  | [_, _, _, _, _, _, _, _, _, _, _], ⟨⟨a, ha⟩, ⟨b, hb⟩, ⟨c, hc⟩, ⟨d, hd⟩, ⟨e, he⟩, ⟨f, hf⟩, ⟨g, hg⟩, ⟨i, hi⟩, ⟨j, hj⟩, ⟨k, hk⟩, ⟨m, hm⟩, _⟩ =>
    subst ha hb hc hd he hf hg hi hj hk hm
    exact ⟨⟨a, b, c, d, e, f, g, ⟨i, j, k⟩, m⟩, rfl⟩
theorem mov_of {l : List PV} (h : FitAll (Fit 3) movT l) : ∃ M : Mov, .agg l = M.pv := by
  match l, h with
  | [_, _, _, _, _, _, _], ⟨⟨a, ha⟩, ⟨b, hb⟩, ⟨c, hc⟩, ⟨d, hd⟩, ⟨e, he⟩, ⟨f, hf⟩, ⟨g, hg⟩, _⟩ =>
    subst ha hb hc hd he hf hg
    exact ⟨⟨a, b, c, d, e, f, g⟩, rfl⟩
theorem list_of {α : Type} {f : α → PV} : ∀ {xs : List PV}, (∀ x ∈ xs, ∃ a, x = f a) → ∃ L : List α, xs = L.map f
  | [], _ => ⟨[], rfl⟩
  | x :: r, h => by
    obtain ⟨a, rfl⟩ := h x (by simp)
    obtain ⟨L, rfl⟩ := list_of (xs := r) fun y hy => h y (by simp [hy])
    exact ⟨a :: L, rfl⟩
theorem par22 : parP Try.prog 4 22 = some (false, [.sl true limT]) := by kernel_rfl
theorem par23 : parP Try.prog 4 23 = some (false, [.sl true movT]) := by kernel_rfl
theorem und22 : Try.prog.underlying 22 = some (.slice 39) := by kernel_rfl
theorem byt46 : Try.prog.bytesOf 39 = 112 := by kernel_rfl
theorem fit_lims {p : PV} (h : FitPar Try.prog 4 22 p) : ∃ L : List Lim, p = .sl 11 (L.map Lim.pv) ∧ L.length * 112 ≤ 140737488355328 := by
  obtain ⟨⟨ag, c, l, hp, rfl, hl⟩, hb⟩ := h
  rw [par22] at hp
  simp only [Option.some.injEq, Prod.mk.injEq] at hp
  obtain ⟨rfl, rfl⟩ := hp
  match l, hl with
  | [q], ⟨⟨xs, hq, hx⟩, _⟩ =>
    subst hq
    obtain ⟨L, rfl⟩ := list_of (f := Lim.pv) (xs := xs) fun x h => by
      obtain ⟨l, rfl, hf⟩ := hx x h
      obtain ⟨L, rfl⟩ := lim_of hf
      exact ⟨L, rfl⟩
    refine ⟨L, rfl, ?_⟩
    have := hb 39 _ _ und22 rfl
    rw [byt46, List.length_map] at this
    unfold reachBytes at this; omega
theorem fit_movs {p : PV} (h : FitPar Try.prog 4 23 p) : ∃ M : List Mov, p = .sl 7 (M.map Mov.pv) := by
  obtain ⟨⟨ag, c, l, hp, rfl, hl⟩, hb⟩ := h
  rw [par23] at hp
  simp only [Option.some.injEq, Prod.mk.injEq] at hp
  obtain ⟨rfl, rfl⟩ := hp
  match l, hl with
  | [q], ⟨⟨xs, hq, hx⟩, _⟩ =>
    subst hq
    obtain ⟨L, rfl⟩ := list_of (f := Mov.pv) (xs := xs) fun x h => by
      obtain ⟨l, rfl, hf⟩ := hx x h
      exact mov_of hf
    exact ⟨L, rfl⟩
theorem own : ownKnob Try.prog.godebug = none := by kernel_rfl
theorem laid : laidOutB Try.prog = true := by kernel_rfl
theorem und4 : Try.prog.underlying 4 = some .bool := by kernel_rfl
abbrev zs : Value := .string ⟨#[]⟩
abbrev zi : Value := .int .i64 0
end Go.Proofs.Ytcfbdeghmckelaa
namespace Go.Proofs.Ytcfbdeghmckelaa
open Go.RowKit
set_option maxRecDepth 100000
set_option linter.unusedVariables false
set_option linter.unusedSimpArgs false
set_option maxHeartbeats 4000000
theorem flat_const {α β : Type} {f : α → List β} {c : Nat} : ∀ {l : List α}, (∀ x ∈ l, (f x).length = c) → (l.flatMap f).length = l.length * c
  | [], _ => by simp
  | x :: r, h => by
    have h1 := h x (by simp)
    have h2 := flat_const (l := r) fun y hy => h y (by simp [hy])
    simp only [List.flatMap_cons, List.length_append, List.length_cons, Nat.succ_mul]; omega
theorem windows_card {l : Lim} (h : chkLim l = 0) : ((windowsL l).length : Int) = limN l := by
  rw [windows_eq h, limN, if_pos h, flat_const (c := begN l) (fun d _ => by simp [begK])]
  rw [Int.natCast_mul, Int.mul_comm]
theorem exc_short {ls : List Lim} {m : List Mov} {n : Int} (hc : chkLims ls = 0) (hs : shLims ls n = true) : (excW ls m).length ≤ 400 := by
  have hl := chkLims_0 hc
  have hk : ∀ k, k ≤ ls.length → ((excK ls m k).length : Int) ≤ sumK ls k := by
    intro k
    induction k with
    | zero => intro _; simp [excK, sumK]
    | succ k ih =>
      intro hk
      have hx := List.getElem?_eq_getElem (l := ls) (i := k) (by omega)
      have h1 := hl.2 _ (List.mem_of_getElem? hx)
      rw [sumK_next hx, excK, range_next, List.length_append, ← excK, excI, hx]
      have h2 : (excL m k ls[k]).length ≤ (windowsL ls[k]).length * 1 := flat_le fun b _ => by unfold excB; split <;> simp
      have h3 := windows_card h1
      have h4 := ih (by omega)
      simp only
      omega
  have := hk ls.length (Nat.le_refl _)
  unfold shLims at hs
  simp only [Bool.and_eq_true, decide_eq_true_eq] at hs
  unfold excW
  omega
end Go.Proofs.Ytcfbdeghmckelaa
namespace Go.Proofs.Ytcfbdeghmckelaa
open Go.RowKit
set_option maxRecDepth 100000
set_option linter.unusedVariables false
set_option linter.unusedSimpArgs false
set_option maxHeartbeats 2000000
theorem firstE_all {l : List Int} (h : ∀ x ∈ l, x = 0) : firstE l = 0 := by
  induction l with
  | nil => rfl
  | cons x r ih => exact firstE_cons.2 ⟨h x (by simp), ih fun y hy => h y (by simp [hy])⟩
theorem cnt_perm {l : Lim} (h : 0 ≤ l.len) {a b : List Mov} (hp : a.Perm b) (w : Int) : cntAll l a w = cntAll l b w := by
  rw [cnt_filter h, cnt_filter h, (hp.filter _).length_eq]
end Go.Proofs.Ytcfbdeghmckelaa
namespace Go.Proofs.Ytcfbdeghmckelaa
open Go.RowKit
set_option maxRecDepth 100000
set_option linter.unusedVariables false
set_option linter.unusedSimpArgs false
set_option maxHeartbeats 2000000
def Win.add (k : Int) (w : Win) : Win := ⟨w.lim, w.beg, w.cnt + k⟩
end Go.Proofs.Ytcfbdeghmckelaa
namespace Go.Proofs.Ytcfbdeghmckelaa
open Go.RowKit
set_option maxRecDepth 100000
set_option linter.unusedVariables false
set_option linter.unusedSimpArgs false
set_option maxHeartbeats 2000000
theorem win_at {l : Lim} (h : chkLim l = 0) {b : Int} (hb : b ∈ windowsL l) : b ∈ beginsL l (b / 1440) := by
  rw [windows_eq h, List.mem_flatMap] at hb
  obtain ⟨d, hd, hb⟩ := hb
  have hb2 : b ∈ beginsL l d := by rw [beginsL_day h, if_pos hd]; exact hb
  have := beginsL_mem h hb2
  rw [show b / 1440 = d by omega]; exact hb2
theorem win_of {l : Lim} (h : chkLim l = 0) {b d : Int} (hb : b ∈ beginsL l d) : b ∈ windowsL l := by
  rw [beginsL_day h] at hb
  split at hb
  · rename_i hd
    rw [windows_eq h, List.mem_flatMap]; exact ⟨d, hd, hb⟩
  · cases hb
end Go.Proofs.Ytcfbdeghmckelaa
namespace Go.Proofs.Ytcfbdeghmckelaa
open Go.RowKit
set_option maxRecDepth 100000
set_option linter.unusedVariables false
set_option linter.unusedSimpArgs false
set_option maxHeartbeats 4000000
abbrev Mov.cells (m : Mov) : List PV := [.i .i64 m.moment, .s m.kind, .s m.term, .i .i64 m.seats, .i .i64 m.size, .i .i64 m.noise, .s m.name]
theorem weakE {a b : PV} (h : a = b) : Weak a b := h ▸ .refl _
end Go.Proofs.Ytcfbdeghmckelaa
namespace Go.Proofs.Ytcfbdeghmckelaa
open Go.RowKit
set_option maxRecDepth 100000
set_option linter.unusedVariables false
set_option linter.unusedSimpArgs false
set_option maxHeartbeats 2000000
theorem exc_mem {ls : List Lim} {m : List Mov} (h2 : chkMovs m = 0) {w : Win} (hw : w ∈ excW ls m) : -30000 ≤ w.cnt ∧ w.cnt ≤ 30000 := by
  obtain ⟨i, _, hw⟩ := List.mem_flatMap.1 hw
  unfold excI at hw
  split at hw
  · rename_i l _
    obtain ⟨b, _, hw⟩ := List.mem_flatMap.1 hw
    unfold excB at hw
    split at hw
    · rw [List.mem_singleton.1 hw]; exact cnt_bound h2 b
    · cases hw
  · cases hw
end Go.Proofs.Ytcfbdeghmckelaa
namespace Go.Proofs.Ytcfbdeghmckelaa
open Go.RowKit
set_option maxRecDepth 100000
set_option linter.unusedVariables false
set_option linter.unusedSimpArgs false
set_option maxHeartbeats 4000000
def perL (p : Per) : Per := ⟨p.fro + 7, p.to + 7, p.days⟩
def Lim.later (l : Lim) : Lim := ⟨l.name, l.kind, l.term, l.len, l.step, l.fro, l.to, perL l.per, l.most⟩
def Mov.later (m : Mov) : Mov := ⟨m.moment + 10080, m.kind, m.term, m.seats, m.size, m.noise, m.name⟩
def Req.later (r : Req) : Req := ⟨r.name, r.carrier, r.kind, r.term, r.partner, r.link, perL r.per, r.minute, r.seats, r.size, r.noise⟩
theorem chkMov_0 {m : Mov} (h : chkMov m = 0) : 0 ≤ m.moment ∧ m.moment ≤ 143999999 := by
  unfold chkMov at h
  simp only [firstE_cons, rng_0] at h
  omega
theorem allLm (l : List Lim) : l.all ((fun x => x.cells.all PV.one) ∘ Lim.pv) = true := by rw [List.all_eq_true]; intro x _; rfl
end Go.Proofs.Ytcfbdeghmckelaa
namespace Go.Proofs.Ytcfbdeghmckelaa
open Go.RowKit
set_option maxRecDepth 100000
set_option linter.unusedVariables false
set_option linter.unusedSimpArgs false
set_option maxHeartbeats 2000000
theorem firstE_mem : ∀ {l : List Int}, firstE l = 0 → ∀ x ∈ l, x = 0
  | [], _, x, hx => by cases hx
  | a :: r, h, x, hx => by
    obtain ⟨h1, h2⟩ := firstE_cons.1 h
    rcases List.mem_cons.1 hx with rfl | hx
    · exact h1
    · exact firstE_mem h2 x hx
theorem days_later (p : Per) : daysL (perL p) = (daysL p).map (· + 7) := by
  unfold daysL perL
  simp only
  rw [show p.to + 7 - (p.fro + 7) + 1 = p.to - p.fro + 1 by omega, List.map_flatMap]
  refine flat_congr fun k _ => ?_
  rw [show (p.fro + 7 + (k : Int) + 5) % 7 = (p.fro + k + 5) % 7 by omega]
  split
  · simp; omega
  · rfl
theorem begK_later (l : Lim) (d : Int) (k : Nat) : begK l.later (d + 7) k = (begK l d k).map (· + 10080) := by
  unfold begK
  rw [List.map_map]
  refine List.map_congr_left fun n _ => ?_
  simp only [begV, Lim.later, Lim.from_, Function.comp_apply]
  generalize l.step * _ = z
  omega
theorem windows_later {l : Lim} (h : chkLim l = 0) (h' : chkLim l.later = 0) : windowsL l.later = (windowsL l).map (· + 10080) := by
  rw [windows_eq h', windows_eq h, show l.later.per = perL l.per from rfl, days_later, List.flatMap_map, List.map_flatMap]
  exact flat_congr fun d _ => begK_later l d (begN l)
theorem of_later (l : Lim) (m : List Mov) : ofL l.later (m.map Mov.later) = (ofL l m).map (· + 10080) := by
  unfold ofL
  rw [List.filter_map, List.map_map, List.map_map]
  rfl
theorem ltN_shift (L : List Int) (x c : Int) : ltN (L.map (· + c)) (x + c) = ltN L x := by
  unfold ltN
  rw [List.filter_map, List.length_map]
  congr 1
  refine List.filter_congr fun y _ => ?_
  simp only [Function.comp_apply, decide_eq_decide]
  omega
theorem cnt_later (l : Lim) (m : List Mov) (b : Int) : cntAll l.later (m.map Mov.later) (b + 10080) = cntAll l m b := by
  show cntW (ofL l.later (m.map Mov.later)) (b + 10080) l.later.len = cntW (ofL l m) b l.len
  rw [of_later]
  unfold cntW
  rw [show b + 10080 + l.later.len = b + l.len + 10080 by simp only [Lim.later]; omega, ltN_shift, ltN_shift]
def Win.later (w : Win) : Win := ⟨w.lim, w.beg + 10080, w.cnt⟩
theorem exc_later {ls : List Lim} {m : List Mov} (h : ∀ l ∈ ls, chkLim l = 0) (h' : ∀ l ∈ ls, chkLim l.later = 0) : excW (ls.map Lim.later) (m.map Mov.later) = (excW ls m).map Win.later := by
  unfold excW excK
  rw [List.length_map, List.map_flatMap]
  refine flat_congr fun i _ => ?_
  unfold excI
  rw [List.getElem?_map]
  cases hi : ls[i]? with
  | none => rfl
  | some l =>
    have hm := List.mem_of_getElem? hi
    simp only [Option.map_some]
    unfold excL
    rw [windows_later (h l hm) (h' l hm), List.flatMap_map, List.map_flatMap]
    refine flat_congr fun b _ => ?_
    unfold excB
    rw [cnt_later]
    show (if l.most < _ then _ else _) = _
    split <;> rfl
theorem exc_beg {ls : List Lim} {m : List Mov} (h : ∀ l ∈ ls, chkLim l = 0) {w : Win} (hw : w ∈ excW ls m) : 0 ≤ w.beg ∧ w.beg ≤ 144000000 := by
  obtain ⟨i, _, hw⟩ := List.mem_flatMap.1 hw
  unfold excI at hw
  split at hw
  · rename_i l hl
    obtain ⟨b, hb, hw⟩ := List.mem_flatMap.1 hw
    have hc := h l (List.mem_of_getElem? hl)
    have h1 := win_at hc hb
    have h2 := beginsL_mem hc h1
    have h3 := chkPer_0 (chkLim_0 hc).2.2.2.2.2.2.2.1
    unfold excB at hw
    split at hw
    · rw [List.mem_singleton.1 hw]; simp only; omega
    · cases hw
  · cases hw
end Go.Proofs.Ytcfbdeghmckelaa
namespace Go.Proofs.Ytcfbdeghmckelaa
open Go.RowKit
set_option maxRecDepth 100000
set_option linter.unusedVariables false
set_option linter.unusedSimpArgs false
set_option maxHeartbeats 2000000
def Lim.lower (l : Lim) : Lim := ⟨l.name, l.kind, l.term, l.len, l.step, l.fro, l.to, l.per, l.most - 1⟩
theorem lower_chk {l : Lim} (h : chkLim l = 0) (h1 : ¬ l.most = 0) : chkLim l.lower = 0 := by
  have h0 := chkLim_0 h
  unfold chkLim at h ⊢
  simp only [firstE_cons, rng_0] at h ⊢
  refine ⟨h.1, h.2.1, h.2.2.1, h.2.2.2.1, h.2.2.2.2.1, h.2.2.2.2.2.1, h.2.2.2.2.2.2.1, h.2.2.2.2.2.2.2.1, h.2.2.2.2.2.2.2.2.1, ?_, rfl⟩
  simp only [Lim.lower]; omega
theorem atL_mem (n : ByteArray) : ∀ l : List ByteArray, 0 ≤ atL n l ↔ n ∈ l
  | [] => by simp [atL]
  | x :: r => by
    have ih := atL_mem n r
    have := atL_ge n r
    simp only [atL, List.mem_cons]
    by_cases h : x = n
    · rw [if_pos h]; exact ⟨fun _ => .inl h.symm, fun _ => by omega⟩
    · rw [if_neg h]
      by_cases h2 : atL n r < 0
      · rw [if_pos h2]; exact ⟨fun h3 => by omega, fun h3 => h3.elim (fun e => absurd e.symm h) fun e => by have := ih.2 e; omega⟩
      · rw [if_neg h2]; exact ⟨fun _ => .inr (ih.1 (by omega)), fun _ => by omega⟩
abbrev names (l : List Lim) : List ByteArray := l.map Lim.name
theorem chkLims_iff {l : List Lim} : chkLims l = 0 ↔ l.length ≤ 32 ∧ (∀ x ∈ l, chkLim x = 0) ∧ (names l).Nodup := by
  have key : ∀ (i : Nat) (x : Lim), limErr l i x = 0 ↔ chkLim x = 0 ∧ x.name ∉ names (l.take i) := fun i x => by
    unfold limErr
    rw [firstE_cons, firstE_cons, ite_eq0 (show (9 : Int) ≠ 0 by decide), atL_mem]
    exact ⟨fun h => ⟨h.1, h.2.1⟩, fun h => ⟨h.1, h.2, rfl⟩⟩
  constructor
  · intro h
    have h0 := chkLims_0 h
    rw [chkLims, if_neg (by omega)] at h
    refine ⟨h0.1, h0.2, ?_⟩
    unfold List.Nodup names
    rw [List.pairwise_map, List.pairwise_iff_getElem]
    intro i j hi hj hij e
    have := firstE_mem h (limErr l j l[j]) (List.mem_of_getElem? (i := j) (by simp [limErrs, List.getElem?_mapIdx, hj]))
    refine ((key j l[j]).1 this).2 ?_
    rw [← e]
    exact List.mem_map_of_mem (List.mem_of_getElem? (i := i) (by rw [List.getElem?_take, if_pos hij, List.getElem?_eq_getElem hi]))
  · intro ⟨h1, h2, h3⟩
    rw [chkLims, if_neg (by omega)]
    refine firstE_all fun e he => ?_
    obtain ⟨j, hj⟩ := List.getElem?_of_mem he
    simp only [limErrs, List.getElem?_mapIdx, Option.map_eq_some_iff] at hj
    obtain ⟨x, hx, rfl⟩ := hj
    refine (key j x).2 ⟨h2 x (List.mem_of_getElem? hx), fun hm => ?_⟩
    obtain ⟨y, hy, e⟩ := List.mem_map.1 hm
    obtain ⟨i, hi⟩ := List.getElem?_of_mem hy
    rw [List.getElem?_take] at hi
    split at hi
    · rename_i hij
      unfold List.Nodup names at h3
      rw [List.pairwise_map, List.pairwise_iff_getElem] at h3
      obtain ⟨a1, a2⟩ := List.getElem?_eq_some_iff.1 hi
      obtain ⟨b1, b2⟩ := List.getElem?_eq_some_iff.1 hx
      exact h3 i j a1 b1 hij (by rw [a2, b2]; exact e)
    · cases hi
theorem chkLims_sub {l k : List Lim} (h : chkLims l = 0) (hs : k.Sublist l) : chkLims k = 0 := by
  obtain ⟨h1, h2, h3⟩ := chkLims_iff.1 h
  exact chkLims_iff.2 ⟨Nat.le_trans hs.length_le h1, fun x hx => h2 x (hs.subset hx), h3.sublist (hs.map _)⟩
theorem chkLims_set {l : List Lim} {i : Nat} {x y : Lim} (h : chkLims l = 0) (hi : l[i]? = some x) (hy : chkLim y = 0) (hn : y.name = x.name) : chkLims (l.set i y) = 0 := by
  obtain ⟨h1, h2, h3⟩ := chkLims_iff.1 h
  refine chkLims_iff.2 ⟨by rw [List.length_set]; exact h1, fun z hz => ?_, ?_⟩
  · rcases List.mem_or_eq_of_mem_set hz with h | h
    · exact h2 z h
    · rw [h]; exact hy
  · have : names (l.set i y) = names l := by
      unfold names
      rw [List.map_set, hn]
      refine List.ext_getElem? fun j => ?_
      by_cases e : j = i
      · subst e
        have hlt := (List.getElem?_eq_some_iff.1 hi).1
        rw [List.getElem?_set_self (by rw [List.length_map]; exact hlt), List.getElem?_map, hi]; rfl
      · rw [List.getElem?_set_ne (Ne.symm e)]
    rw [this]; exact h3
end Go.Proofs.Ytcfbdeghmckelaa
namespace Go.Proofs.Ytcfbdeghmckelaa
open Go.RowKit
set_option maxRecDepth 100000
set_option linter.unusedVariables false
set_option linter.unusedSimpArgs false
set_option maxHeartbeats 4000000
def smallB (l : List Lim) (m : List Mov) : Bool := ((((decide ((l.length : Int) ≤ 3) && decide ((m.length : Int) ≤ 10)) && shLims l 3) && shMovs m 10) && decide (chkLims l = 0)) && decide (chkMovs m = 0)
def ac60 : AC := .seq (.ops false [⟨some 4,.mv,[.c (.b false)],none,[]⟩]) (.seq (.ops false [⟨some 5,.mv,[.t 0],none,[]⟩,⟨some 6,.len false,[.t 5],none,[0]⟩,⟨some 7,.bin .leq,[.t 6,.c (.i .i64 3)],none,[1]⟩,⟨some 8,.mv,[.t 7],none,[2]⟩,⟨some 9,.mv,[.t 1],some (8,true),[3]⟩,⟨some 10,.len false,[.t 9],some (8,true),[4,3]⟩,⟨some 11,.bin .leq,[.t 10,.c (.i .i64 10)],some (8,true),[5,3]⟩,⟨some 12,.pick,[.t 8,.t 11,.c (.b false)],none,[3,6]⟩,⟨some 13,.mv,[.t 12],none,[7,3]⟩,⟨some 14,.mv,[.t 0],some (13,true),[8]⟩,⟨some 15,.call 11,[.t 14,.c (.i .i64 3)],some (13,true),[9,8,8]⟩,⟨some 16,.pick,[.t 13,.t 15,.c (.b false)],none,[8,10]⟩,⟨some 17,.mv,[.t 16],none,[11,10]⟩,⟨some 18,.mv,[.t 1],some (17,true),[12]⟩,⟨some 19,.call 12,[.t 18,.c (.i .i64 10)],some (17,true),[13,12,12]⟩,⟨some 20,.pick,[.t 17,.t 19,.c (.b false)],none,[12,14]⟩,⟨some 21,.mv,[.t 20],none,[15,14]⟩,⟨some 22,.mv,[.t 0],some (21,true),[16]⟩,⟨some 23,.call 13,[.t 22],some (21,true),[17,16,16]⟩,⟨some 24,.bin .eql,[.t 23,.c (.i .i64 0)],some (21,true),[18,16]⟩,⟨some 25,.pick,[.t 21,.t 24,.c (.b false)],none,[16,19]⟩,⟨some 26,.mv,[.t 25],none,[20,18]⟩,⟨some 27,.mv,[.t 1],some (26,true),[21]⟩,⟨some 28,.call 14,[.t 27],some (26,true),[22,21,21]⟩,⟨some 29,.bin .eql,[.t 28,.c (.i .i64 0)],some (26,true),[23,21]⟩,⟨some 30,.pick,[.t 26,.t 29,.c (.b false)],none,[21,24]⟩,⟨some 4,.mv,[.t 30],none,[25,23,0,1,2,3,4,5,6,7,8,9,10,11,12,13,14,15,16,17,18,19,20,21,22,23,24,25]⟩]) .ret)
def rs60 : List RV := [.tmp 4]
theorem fact60 : compF Try.prog 5 = some (ac60,rs60,31) := by kernel_rfl
theorem pure60 (l : List Lim) (m : List Mov) : Pure Try.prog 5 [.sl 11 (l.map Lim.pv), .sl 7 (m.map Mov.pv)] (.b (smallB l m)) := by
  refine pure_by fact60 (by simp) fun hw X hX => ?_
  unfold ac60 rs60
  have qe := @qR; repeat' first | (show Run _ (.cond _ _ _) _ _; refine run_condX (fun hc => ?_) (fun hc => ?_) <;> (try simp only [qH, rng_0] at hc) <;> try contradiction) | (show RunOps _ _ _ _ (⟨_, .call 11, _, _, _⟩ :: _) _ _; refine run_callGX (hf := fun hc => (by first | exact pure15 l 3 | (simp only [qH, rng_0] at hc; exact pure15 l 3))) (hn := ?_)) | (show RunOps _ _ _ _ (⟨_, .call 12, _, _, _⟩ :: _) _ _; refine run_callGX (hf := fun hc => (by first | exact pure16 m 10 | (simp only [qH, rng_0] at hc; exact pure16 m 10))) (hn := ?_)) | (show RunOps _ _ _ _ (⟨_, .call 13, _, _, _⟩ :: _) _ _; refine run_callGX (hf := fun hc => (by first | exact pure23 l | (simp only [qH, rng_0] at hc; exact pure23 l))) (hn := ?_)) | (show RunOps _ _ _ _ (⟨_, .call 14, _, _, _⟩ :: _) _ _; refine run_callGX (hf := fun hc => (by first | exact pure25 m | (simp only [qH, rng_0] at hc; exact pure25 m))) (hn := ?_)) | (first | refine Stp.h ?_ | (show ∀ K : St → List Ft → Prop, _; intro K hK) | (show runS _ _ _ _ _; first | refine qY (hq := ?_) | refine qZ (hq := ?_)) | (refine hK _ _ ?_; clear hK K) | (refine hK _ _ rfl ?_; clear hK K) | (refine qZ (hq := ?_); try exact trivial) | omega)
  exact .refl _
theorem small_0 {l : List Lim} {m : List Mov} (h : smallB l m = true) : l.length ≤ 3 ∧ m.length ≤ 10 ∧ shLims l 3 = true ∧ shMovs m 10 = true ∧ chkLims l = 0 ∧ chkMovs m = 0 := by
  simp only [smallB, Bool.and_eq_true, decide_eq_true_eq] at h
  obtain ⟨⟨⟨⟨⟨h1, h2⟩, h3⟩, h4⟩, h5⟩, h6⟩ := h
  exact ⟨by omega, by omega, h3, h4, h5, h6⟩
end Go.Proofs.Ytcfbdeghmckelaa
namespace Go.Proofs.Ytcfbdeghmckelaa
open Go.RowKit Go.ChangeShapes Go.WideShapes Go.ChangeAt
set_option maxRecDepth 100000
set_option linter.unusedVariables false
set_option linter.unusedSimpArgs false
set_option maxHeartbeats 4000000
theorem decB_self (x : Bool) : (decide (x = x)) = true := decide_eq_true rfl
end Go.Proofs.Ytcfbdeghmckelaa
