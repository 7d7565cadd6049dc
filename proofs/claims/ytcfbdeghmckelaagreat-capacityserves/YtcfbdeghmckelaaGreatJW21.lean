/- Contracts of functions that the proof uses, shared by the claims of this seat; no statement of its own. Part 27. No conditions. -/
import Derived.Test.YtcfbdeghmckelaaGreatJW17
import Derived.Test.YtcfbdeghmckelaaGreatJR2
set_option linter.all false
namespace Go.Proofs.YtcfbdeghmckelaaGreat
open Go.RowKit
set_option maxRecDepth 100000
set_option linter.unusedVariables false
set_option linter.unusedSimpArgs false
set_option maxHeartbeats 2000000
def ac80 : AC := .seq (.ops false [⟨some 1,.box,[.t 0],none,[]⟩,⟨some 2,.mv,[.c .nilsl],none,[]⟩]) (.seq (.ops false [⟨some 9,.fadr 6,[.t 1],none,[]⟩,⟨some 10,.load 3 true,[.t 9],none,[0]⟩,⟨some 11,.call 126,[.t 10],none,[1]⟩,⟨some 8,.mv,[.t 11],none,[2]⟩,⟨some 12,.ext 0,[.t 8],none,[3]⟩,⟨some 13,.ext 1,[.t 8],none,[3]⟩,⟨some 3,.mv,[.t 12],none,[4,2,0,1,2,3,4]⟩,⟨some 4,.mv,[.t 13],none,[5,6,0,1,2,3,4,5,6]⟩]) (.seq (.ops false [⟨some 5,.mv,[.c .nilsl],none,[]⟩]) (.seq (.seq (.ops false [⟨some 14,.mv,[.t 3],none,[]⟩,⟨some 15,.len false,[.t 14],none,[0]⟩,⟨some 16,.mv,[.c (.i .i64 0)],none,[]⟩]) (.block 0 (.loop (.seq (.ops false [⟨some 17,.bin .lss,[.t 16,.t 15],none,[]⟩]) (.seq (.cond (.t 17) .skip (.exit 0)) (.seq (.block 1 (.seq (.ops false [⟨some 18,.iadrS 1,[.t 14,.t 16],none,[]⟩,⟨some 19,.load 1 false,[.t 18],none,[0]⟩,⟨some 7,.mv,[.t 19],none,[1,0,1]⟩]) (.ops false [⟨some 20,.mv,[.t 5],none,[]⟩,⟨some 21,.mv,[.t 7],none,[]⟩,⟨some 22,.bin .mul,[.c (.i .i64 1440),.t 21],none,[1]⟩,⟨some 23,.fadr 9,[.t 1],none,[]⟩,⟨some 24,.load 1 false,[.t 23],none,[3]⟩,⟨some 25,.bin .add,[.t 22,.t 24],none,[2,4]⟩,⟨some 26,.fadr 2,[.t 1],none,[]⟩,⟨some 27,.load 1 false,[.t 26],none,[6]⟩,⟨some 28,.fadr 3,[.t 1],none,[]⟩,⟨some 29,.load 1 false,[.t 28],none,[8]⟩,⟨some 30,.fadr 10,[.t 1],none,[]⟩,⟨some 31,.load 1 false,[.t 30],none,[10]⟩,⟨some 32,.fadr 11,[.t 1],none,[]⟩,⟨some 33,.load 1 false,[.t 32],none,[12]⟩,⟨some 34,.fadr 12,[.t 1],none,[]⟩,⟨some 35,.load 1 false,[.t 34],none,[14]⟩,⟨some 36,.fadr 0,[.t 1],none,[]⟩,⟨some 37,.load 1 false,[.t 36],none,[16]⟩,⟨some 38,.build [(.i .i64 0),(.s (bs [])),(.s (bs [])),(.i .i64 0),(.i .i64 0),(.i .i64 0),(.s (bs []))] [(0,1),(1,1),(2,1),(3,1),(4,1),(5,1),(6,1)],[.t 25,.t 27,.t 29,.t 31,.t 33,.t 35,.t 37],none,[5,7,9,11,13,15,17]⟩,⟨some 39,.bslice 74 7 (.agg [(.i .i64 0),(.s (bs [])),(.s (bs [])),(.i .i64 0),(.i .i64 0),(.i .i64 0),(.s (bs []))]) 1 [0],[.t 38],none,[18]⟩,⟨some 40,.app 74 7 80,[.t 20,.t 39],none,[0,19]⟩,⟨some 5,.mv,[.t 40],none,[20,20,0,1,2,3,4,5,6,7,8,9,10,11,12,13,14,15,16,17,18,19,20]⟩]))) (.ops false [⟨some 41,.bin .add,[.t 16,.c (.i .i64 1)],none,[]⟩,⟨some 16,.mv,[.t 41],none,[0]⟩]))))))) (.seq (.ops false [⟨some 42,.mv,[.t 5],none,[]⟩,⟨some 2,.mv,[.t 42],none,[0,0]⟩]) .ret))))
def rs80 : List RV := [.tmp 2]
theorem fact80 : compF Tryz.prog 80 = some (ac80,rs80,43) := by kernel_rfl
def ac19 : AC := .seq (.ops false [⟨some 1,.box,[.t 0],none,[]⟩,⟨some 2,.mv,[.c .nilsl],none,[]⟩,⟨some 3,.mv,[.c (.i .i64 0)],none,[1]⟩]) (.seq (.seq (.ops false [⟨some 5,.load 13 true,[.t 1],none,[]⟩,⟨some 6,.call 79,[.t 5],none,[0]⟩,⟨some 4,.mv,[.t 6],none,[1,1,0,1]⟩]) (.seq (.ops false [⟨some 7,.mv,[.t 4],none,[]⟩,⟨some 8,.bin .neq,[.t 7,.c (.i .i64 0)],none,[0]⟩]) (.cond (.t 8) (.seq (.ops false [⟨some 9,.mv,[.t 4],none,[]⟩,⟨some 2,.mv,[.c .nilsl],none,[]⟩,⟨some 3,.mv,[.t 9],none,[0,1,0,1]⟩]) .ret) .skip))) (.seq (.ops false [⟨some 10,.load 13 true,[.t 1],none,[]⟩,⟨some 11,.call 80,[.t 10],none,[0]⟩,⟨some 2,.mv,[.t 11],none,[1,1,0,1]⟩,⟨some 3,.mv,[.c (.i .i64 0)],none,[2,0,1,2]⟩]) .ret))
def rs19 : List RV := [.tmp 2,.tmp 3]
theorem fact19 : compF Tryz.prog 19 = some (ac19,rs19,12) := by kernel_rfl
def ac106 : AC := .seq (.ops false [⟨some 7,.box,[.t 2],none,[]⟩,⟨some 10,.mv,[.c (.i .i64 0)],none,[]⟩]) (.seq (.ops true [⟨some 11,.mv,[.t 0],none,[]⟩,⟨some 12,.mv,[.t 1],none,[]⟩,⟨some 13,.call 97,[.t 11,.t 12],none,[0,1]⟩,⟨some 14,.load 13 true,[.t 7],none,[]⟩,⟨some 15,.call 79,[.t 14],none,[3,2]⟩,⟨some 16,.mv,[.t 3],none,[]⟩,⟨some 17,.call 88,[.t 16,.c (.i .i64 0),.c (.i .i64 1439)],none,[5,4]⟩,⟨some 18,.mv,[.t 4],none,[]⟩,⟨some 19,.call 88,[.t 18,.c (.i .i64 0),.c (.i .i64 1439)],none,[7,6]⟩,⟨some 20,.mv,[.t 3],none,[]⟩,⟨some 21,.mv,[.t 4],none,[]⟩,⟨some 22,.bin .gtr,[.t 20,.t 21],none,[9,10]⟩,⟨some 23,.call 85,[.t 22,.c (.i .i64 11)],none,[11,8]⟩,⟨some 24,.bslice 34 1 (.i .i64 0) 5 [0,1,2,3,4],[.t 13,.t 15,.t 17,.t 19,.t 23],none,[2,4,6,8,12]⟩,⟨some 25,.call 83,[.t 24],none,[13,12]⟩,⟨some 10,.mv,[.t 25],none,[14,14,0,1,2,3,4,5,6,7,8,9,10,11,12,13,14]⟩]) .ret)
def rs106 : List RV := [.tmp 10]
theorem fact106 : compF Tryz.prog 106 = some (ac106,rs106,26) := by kernel_rfl
theorem chkReq_0 {r : Req} (h : chkReq r = 0) : chkPer r.per = 0 ∧ 0 ≤ r.minute ∧ r.minute ≤ 1439 := by
  unfold chkReq at h
  simp only [firstE_cons, rng_0] at h
  exact ⟨h.2.2.2.1, h.2.2.2.2.1⟩
def movOf (r : Req) (d : Int) : Mov := ⟨1440 * d + r.minute, r.kind, r.term, r.seats, r.size, r.noise, r.name⟩
def movsL (r : Req) : List Mov := (daysL r.per).map (movOf r)
theorem pure80 (r : Req) (h : chkReq r = 0) : Pure Tryz.prog 80 [r.pv] (.sl 7 ((movsL r).map Mov.pv)) := by
  have hr := chkReq_0 h
  have hp := chkPer_0 hr.1
  have hdl := daysL_len r.per
  have hdr : daysR r.per = daysL r.per := by rw [daysR, if_pos hr.1]
  refine pure_by fact80 (by simp) fun hw X hX => ?_
  unfold ac80 rs80
  have qe := And.intro qR @hdr; repeat' first | (show Run _ (.cond _ _ _) _ _; refine run_condX (fun hc => ?_) (fun hc => ?_) <;> (try simp only [qH, rng_0] at hc) <;> try contradiction) | (show RunOps _ _ _ _ (⟨_, .call 126, _, _, _⟩ :: _) _ _; refine run_callX (hf := pure126 r.per) (hn := ?_)) | (first | refine Stp.h ?_ | (show ∀ K : St → List Ft → Prop, _; intro K hK) | (show runS _ _ _ _ _; first | refine qY (hq := ?_) | refine qZ (hq := ?_)) | (refine hK _ _ ?_; clear hK K) | (refine hK _ _ rfl ?_; clear hK K) | (refine qZ (hq := ?_); try exact trivial) | omega)
  refine run_own 100 74 7 [(1, .lp 1 0), (5, .row 100 0), (14, .p (.sl 1 ((daysL r.per).map (.i .i64)))), (15, .p (.i .i64 (daysL r.per).length)), (16, .p (.i .i64 0))] [(1, .box ([.s r.name, .s r.carrier, .s r.kind, .s r.term, .s r.partner, .s r.link, .i .i64 r.per.fro, .i .i64 r.per.to, .i .i64 r.per.days, .i .i64 r.minute, .i .i64 r.seats, .i .i64 r.size, .i .i64 r.noise].map .p) false)] ?_ ?_
  · simp only [Own, ownEnv, ownObj, nilTo, nilTos, qS, Nat.reduceAdd, Nat.reduceMul, Nat.reduceEqDiff, Nat.reduceLeDiff, reduceIte, reduceCtorEq, Nat.reduceBEq, Nat.reduceLT]
  refine run_loop (κ := Nat) (fun k => ⟨[(1, .lp 1 0), (5, .row 100 ((daysL r.per).take k).length), (14, .p (.sl 1 ((daysL r.per).map (.i .i64)))), (15, .p (.i .i64 (daysL r.per).length)), (16, .p (.i .i64 k))], [(1, .box ([.s r.name, .s r.carrier, .s r.kind, .s r.term, .s r.partner, .s r.link, .i .i64 r.per.fro, .i .i64 r.per.to, .i .i64 r.per.days, .i .i64 r.minute, .i .i64 r.seats, .i .i64 r.size, .i .i64 r.noise].map .p) false), (100, .row 74 7 ((((daysL r.per).take k).map (movOf r)).map Mov.pv) false)], [], false⟩) (fun k => k ≤ (daysL r.per).length) (fun k => (daysL r.per).length - k) 0 ?_ ?_ ?_
  · simp only [qS, Nat.reduceAdd, Nat.reduceMul, Nat.reduceEqDiff, Nat.reduceLeDiff, reduceIte, reduceCtorEq, Nat.reduceBEq, Nat.reduceLT] <;> simp
  · simp
  · intro k hk
    repeat (first | refine Stp.h ?_ | (show ∀ K : St → List Ft → Prop, _; intro K hK) | (show runS _ _ _ _ _; first | refine qY (hq := ?_) | refine qZ (hq := ?_)) | (refine hK _ _ ?_; clear hK K) | (refine hK _ _ rfl ?_; clear hK K) | (refine qZ (hq := ?_); try exact trivial) | omega)
    (show Run _ (.cond _ _ _) _ _; refine run_condX (fun hc => ?_) (fun hc => ?_) <;> (try simp only [qH, rng_0] at hc) <;> try contradiction)
    · obtain ⟨d, hx⟩ := some_at (i := k) (l := daysL r.per) (by omega)
      have hdm := daysL_mem (List.mem_of_getElem? hx)
      have hlt := take_len hx
      have qe := And.intro qR @hx; repeat' first | (show Run _ (.cond _ _ _) _ _; refine run_condX (fun hc => ?_) (fun hc => ?_) <;> (try simp only [qH, rng_0] at hc) <;> try contradiction) | (first | refine Stp.h ?_ | (show ∀ K : St → List Ft → Prop, _; intro K hK) | (show runS _ _ _ _ _; first | refine qY (hq := ?_) | refine qZ (hq := ?_)) | (refine hK _ _ ?_; clear hK K) | (refine hK _ _ rfl ?_; clear hK K) | (refine qZ (hq := ?_); try exact trivial) | omega)
      exact ⟨k + 1, by omega, by omega, ⟨by rw [List.take_add_one, hx, List.length_append]; rfl, by simp⟩, by rw [take_snoc (movOf r) hx]; simp [movOf]⟩
    · repeat' first | (show Run _ (.cond _ _ _) _ _; refine run_condX (fun hc => ?_) (fun hc => ?_) <;> (try simp only [qH, rng_0] at hc) <;> try contradiction) | (first | refine Stp.h ?_ | (show ∀ K : St → List Ft → Prop, _; intro K hK) | (show runS _ _ _ _ _; first | refine qY (hq := ?_) | refine qZ (hq := ?_)) | (refine hK _ _ ?_; clear hK K) | (refine hK _ _ rfl ?_; clear hK K) | (refine qZ (hq := ?_); try exact trivial) | omega)
      have e : k = (daysL r.per).length := by omega
      subst e; rw [List.take_length]; exact .refl _
def movR (r : Req) : List Mov := if chkReq r = 0 then movsL r else []
theorem pure19 (r : Req) : Pure Tryz.prog 19 [r.pv] (.tup [.sl 7 ((movR r).map Mov.pv), .i .i64 (chkReq r)]) := by
  refine pure_by fact19 (by simp) fun hw X hX => ?_
  unfold ac19 rs19
  have qe := @qR; repeat' first | (show Run _ (.cond _ _ _) _ _; refine run_condX (fun hc => ?_) (fun hc => ?_) <;> (try simp only [qH, rng_0] at hc) <;> try contradiction) | (show RunOps _ _ _ _ (⟨_, .call 79, _, _, _⟩ :: _) _ _; refine run_callX (hf := pure79 r) (hn := ?_)) | (show RunOps _ _ _ _ (⟨_, .call 80, _, _, _⟩ :: _) _ _; refine run_callX (hf := pure80 r hc) (hn := ?_)) | (first | refine Stp.h ?_ | (show ∀ K : St → List Ft → Prop, _; intro K hK) | (show runS _ _ _ _ _; first | refine qY (hq := ?_) | refine qZ (hq := ?_)) | (refine hK _ _ ?_; clear hK K) | (refine hK _ _ rfl ?_; clear hK K) | (refine qZ (hq := ?_); try exact trivial) | omega)
  · rw [movR, if_neg hc]; exact weak2 (.nilsl _) (.refl _)
  · rw [movR, if_pos hc, hc]; exact .refl _
def Req.at (r : Req) (n : Int) : Req := { r with minute := n }
def seaC (ls : List Lim) (m : List Mov) (r : Req) (a b : Int) : Int := firstE [bothC ls m, chkReq r, rng a 0 1439, rng b 0 1439, if b < a then 11 else 0]
theorem pure106 (ls : List Lim) (m : List Mov) (r : Req) (a b : Int) : Pure Tryz.prog 106 [.sl 11 (ls.map Lim.pv), .sl 7 (m.map Mov.pv), r.pv, .i .i64 a, .i .i64 b] (.i .i64 (seaC ls m r a b)) := by
  refine pure_by fact106 (by simp) fun hw X hX => ?_
  unfold ac106 rs106
  have qe := @qR; repeat' first | (show Run _ (.cond _ _ _) _ _; refine run_condX (fun hc => ?_) (fun hc => ?_) <;> (try simp only [qH, rng_0] at hc) <;> try contradiction) | (show RunOps _ _ _ _ (⟨_, .call 97, _, _, _⟩ :: _) _ _; refine run_callX (hf := pure97 ls m) (hn := ?_)) | (show RunOps _ _ _ _ (⟨_, .call 79, _, _, _⟩ :: _) _ _; refine run_callX (hf := pure79 r) (hn := ?_)) | (show RunOps _ _ _ _ (⟨_, .call 88, _, _, _⟩ :: _) _ _; refine run_callX (hf := pure88 _ _ _) (hn := ?_)) | (show RunOps _ _ _ _ (⟨_, .call 85, _, _, _⟩ :: _) _ _; refine run_callX (hf := pure85 _ _) (hn := ?_)) | (show RunOps _ _ _ _ (⟨_, .call 83, _, _, _⟩ :: _) _ _; refine run_callX (hf := pure83 [_, _, _, _, _]) (hn := ?_)) | (first | refine Stp.h ?_ | (show ∀ K : St → List Ft → Prop, _; intro K hK) | (show runS _ _ _ _ _; first | refine qY (hq := ?_) | refine qZ (hq := ?_)) | (refine hK _ _ ?_; clear hK K) | (refine hK _ _ rfl ?_; clear hK K) | (refine qZ (hq := ?_); try exact trivial) | omega)
  exact .refl _
end Go.Proofs.YtcfbdeghmckelaaGreat
