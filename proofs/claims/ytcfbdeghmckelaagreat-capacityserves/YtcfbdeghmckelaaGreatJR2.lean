/- Contracts of functions that the proof uses, shared by the claims of this seat; no statement of its own. Part 22. No conditions. -/
import Derived.Test.YtcfbdeghmckelaaGreatJW4
import Derived.Test.YtcfbdeghmckelaaGreatJW8
import Derived.Test.YtcfbdeghmckelaaGreatJW10
set_option linter.all false
namespace Go.Proofs.YtcfbdeghmckelaaGreat
open Go.RowKit
set_option maxRecDepth 100000
set_option linter.unusedVariables false
set_option linter.unusedSimpArgs false
set_option maxHeartbeats 2000000
def ac26 : AC := .seq (.ops false [⟨some 4,.mv,[.c (.b false)],none,[]⟩]) (.seq (.seq (.ops false [⟨some 6,.mv,[.t 0],none,[]⟩,⟨some 7,.len false,[.t 6],none,[0]⟩,⟨some 8,.mv,[.t 1],none,[]⟩,⟨some 9,.len false,[.t 8],none,[2]⟩,⟨some 10,.bin .neq,[.t 7,.t 9],none,[1,3]⟩]) (.cond (.t 10) (.seq (.ops false [⟨some 4,.mv,[.c (.b false)],none,[]⟩]) .ret) .skip)) (.seq (.seq (.ops false [⟨some 5,.mv,[.c (.i .i64 0)],none,[]⟩]) (.block 0 (.loop (.seq (.seq (.ops false [⟨some 11,.mv,[.t 5],none,[]⟩,⟨some 12,.mv,[.t 0],none,[]⟩,⟨some 13,.len false,[.t 12],none,[1]⟩,⟨some 14,.bin .lss,[.t 11,.t 13],none,[0,2]⟩]) (.cond (.t 14) .skip (.exit 0))) (.seq (.block 1 (.seq (.ops true [⟨some 17,.mv,[.t 0],none,[]⟩,⟨some 18,.mv,[.t 5],none,[]⟩,⟨some 19,.iadrS 7,[.t 17,.t 18],none,[0,1]⟩,⟨some 20,.load 7 true,[.t 19],none,[2]⟩,⟨some 21,.mv,[.t 1],none,[]⟩,⟨some 22,.mv,[.t 5],none,[]⟩,⟨some 23,.iadrS 7,[.t 21,.t 22],none,[4,5]⟩,⟨some 24,.load 7 true,[.t 23],none,[6]⟩,⟨some 25,.eq true [1,2,2,1,1,1,2] true,[.t 20,.t 24],none,[3,7]⟩]) (.cond (.t 25) (.seq (.ops false [⟨some 4,.mv,[.c (.b false)],none,[]⟩]) .ret) .skip))) (.ops false [⟨some 15,.mv,[.t 5],none,[]⟩,⟨some 16,.bin .add,[.t 15,.c (.i .i64 1)],none,[0]⟩,⟨some 5,.mv,[.t 16],none,[1,0,1]⟩])))))) (.seq (.ops false [⟨some 4,.mv,[.c (.b true)],none,[]⟩]) .ret)))
def rs26 : List RV := [.tmp 4]
theorem fact26 : compF Tryz.prog 26 = some (ac26,rs26,26) := by kernel_rfl
theorem Pure.args {P : Program} {f : FuncId} {args args' : List PV} {r : PV} (h : Pure P f args r) (hl : args'.length = args.length) (hw : ∀ (j : Nat) (x y : PV), args'[j]? = some x → args[j]? = some y → Weak x y) : Pure P f args' r :=
  ⟨h.1, fun w B vs hB hr => h.2 w B vs hB ⟨hr.1.trans hl, fun j v p hv hp => by
    have hj : j < args'.length := by rw [hl]; exact (List.getElem?_eq_some_iff.1 hp).1
    exact (hw j _ p (List.getElem?_eq_getElem hj) hp).rep (hr.2 j v _ hv (List.getElem?_eq_getElem hj))⟩⟩
theorem Pure.nil1 {P : Program} {f : FuncId} {sz : Nat} {b r : PV} (h : Pure P f [.sl sz [], b] r) : Pure P f [.nilsl, b] r :=
  h.args rfl fun j x y hx hy => by
    match j with
    | 0 => simp at hx hy; subst hx; subst hy; exact .nilsl _
    | 1 => simp at hx hy; subst hx; subst hy; exact .refl _
    | j + 2 => simp at hx
theorem Pure.nil2 {P : Program} {f : FuncId} {sz : Nat} {a r : PV} (h : Pure P f [a, .sl sz []] r) : Pure P f [a, .nilsl] r :=
  h.args rfl fun j x y hx hy => by
    match j with
    | 0 => simp at hx hy; subst hx; subst hy; exact .refl _
    | 1 => simp at hx hy; subst hx; subst hy; exact .nilsl _
    | j + 2 => simp at hx
theorem flat_le {α β : Type} {f : α → List β} {c : Nat} : ∀ {l : List α}, (∀ x ∈ l, (f x).length ≤ c) → (l.flatMap f).length ≤ l.length * c
  | [], _ => by simp
  | x :: r, h => by
    have h1 := h x (by simp)
    have h2 := flat_le (l := r) fun y hy => h y (by simp [hy])
    simp only [List.flatMap_cons, List.length_append, List.length_cons, Nat.succ_mul]; omega
theorem filter_take {α : Type} {l : List α} {p : α → Bool} {k : Nat} {x : α} (h : l[k]? = some x) : (l.take (k + 1)).filter p = (l.take k).filter p ++ (if p x then [x] else []) := by
  rw [List.take_add_one, h, List.filter_append]
  cases hp : p x <;> simp [List.filter_cons, hp]
theorem filter_tlen {α : Type} {l : List α} {p : α → Bool} {k : Nat} : ((l.take k).filter p).length ≤ l.length := by
  have := List.length_filter_le p (l.take k)
  simp only [List.length_take] at this; omega
theorem decS_self (x : ByteArray) : (decide (x = x)) = true := decide_eq_true rfl
theorem ne_self (x : Int) : (x = x) = True := eq_true rfl
theorem neS_self (x : ByteArray) : (x = x) = True := eq_true rfl
theorem pure41 (l : List Int) : Pure Tryz.prog 41 [.sl 1 (l.map (.i .i64)), .sl 1 (l.map (.i .i64))] (.b true) := by
  refine pure_by fact41 (by simp) fun hw X hX => ?_
  unfold ac41 rs41
  simp only [wfs, PV.wf, List.length_map, maxLen] at hw
  have qe := And.intro @dec_self (And.intro @decS_self (And.intro @ne_self @neS_self)); repeat' first | (show Run _ (.cond _ _ _) _ _; refine run_condX (fun hc => ?_) (fun hc => ?_) <;> (try simp only [qH, rng_0] at hc) <;> try contradiction) | (first | refine Stp.h ?_ | (show ∀ K : St → List Ft → Prop, _; intro K hK) | (show runS _ _ _ _ _; first | refine qY (hq := ?_) | refine qZ (hq := ?_)) | (refine hK _ _ ?_; clear hK K) | (refine hK _ _ rfl ?_; clear hK K) | (refine qZ (hq := ?_); try exact trivial) | omega)
  refine run_loop (κ := Nat) (fun i => ⟨[(0, .p (.sl 1 (l.map (.i .i64)))), (1, .p (.sl 1 (l.map (.i .i64)))), (5, .p (.i .i64 i))], [], [], false⟩) (fun i => i ≤ l.length) (fun i => l.length - i) 0 ?_ ?_ ?_
  · simp only [qS, Nat.reduceAdd, Nat.reduceMul, Nat.reduceEqDiff, Nat.reduceLeDiff, reduceIte, reduceCtorEq, Nat.reduceBEq, Nat.reduceLT] <;> rfl
  · simp
  · intro i hi
    repeat (first | refine Stp.h ?_ | (show ∀ K : St → List Ft → Prop, _; intro K hK) | (show runS _ _ _ _ _; first | refine qY (hq := ?_) | refine qZ (hq := ?_)) | (refine hK _ _ ?_; clear hK K) | (refine hK _ _ rfl ?_; clear hK K) | (refine qZ (hq := ?_); try exact trivial) | omega)
    (show Run _ (.cond _ _ _) _ _; refine run_condX (fun hc => ?_) (fun hc => ?_) <;> (try simp only [qH, rng_0] at hc) <;> try contradiction)
    · obtain ⟨x, hx⟩ := some_at (i := i) (l := l) (by omega)
      have qe := And.intro @hx (And.intro @dec_self (And.intro @decS_self (And.intro @ne_self @neS_self))); repeat' first | (show Run _ (.cond _ _ _) _ _; refine run_condX (fun hc => ?_) (fun hc => ?_) <;> (try simp only [qH, rng_0] at hc) <;> try contradiction) | (first | refine Stp.h ?_ | (show ∀ K : St → List Ft → Prop, _; intro K hK) | (show runS _ _ _ _ _; first | refine qY (hq := ?_) | refine qZ (hq := ?_)) | (refine hK _ _ ?_; clear hK K) | (refine hK _ _ rfl ?_; clear hK K) | (refine qZ (hq := ?_); try exact trivial) | omega)
      exact ⟨i + 1, by omega, by omega, by simp⟩
    · repeat' first | (show Run _ (.cond _ _ _) _ _; refine run_condX (fun hc => ?_) (fun hc => ?_) <;> (try simp only [qH, rng_0] at hc) <;> try contradiction) | (first | refine Stp.h ?_ | (show ∀ K : St → List Ft → Prop, _; intro K hK) | (show runS _ _ _ _ _; first | refine qY (hq := ?_) | refine qZ (hq := ?_)) | (refine hK _ _ ?_; clear hK K) | (refine hK _ _ rfl ?_; clear hK K) | (refine qZ (hq := ?_); try exact trivial) | omega)
      exact .refl _
theorem pure26 (l : List Mov) : Pure Tryz.prog 26 [.sl 7 (l.map Mov.pv), .sl 7 (l.map Mov.pv)] (.b true) := by
  refine pure_by fact26 (by simp) fun hw X hX => ?_
  unfold ac26 rs26
  simp only [wfs, PV.wf, List.length_map, maxLen] at hw
  have qe := And.intro @dec_self (And.intro @decS_self (And.intro @ne_self @neS_self)); repeat' first | (show Run _ (.cond _ _ _) _ _; refine run_condX (fun hc => ?_) (fun hc => ?_) <;> (try simp only [qH, rng_0] at hc) <;> try contradiction) | (first | refine Stp.h ?_ | (show ∀ K : St → List Ft → Prop, _; intro K hK) | (show runS _ _ _ _ _; first | refine qY (hq := ?_) | refine qZ (hq := ?_)) | (refine hK _ _ ?_; clear hK K) | (refine hK _ _ rfl ?_; clear hK K) | (refine qZ (hq := ?_); try exact trivial) | omega)
  refine run_loop (κ := Nat) (fun i => ⟨[(0, .p (.sl 7 (l.map Mov.pv))), (1, .p (.sl 7 (l.map Mov.pv))), (5, .p (.i .i64 i))], [], [], false⟩) (fun i => i ≤ l.length) (fun i => l.length - i) 0 ?_ ?_ ?_
  · simp only [qS, Nat.reduceAdd, Nat.reduceMul, Nat.reduceEqDiff, Nat.reduceLeDiff, reduceIte, reduceCtorEq, Nat.reduceBEq, Nat.reduceLT] <;> rfl
  · simp
  · intro i hi
    repeat (first | refine Stp.h ?_ | (show ∀ K : St → List Ft → Prop, _; intro K hK) | (show runS _ _ _ _ _; first | refine qY (hq := ?_) | refine qZ (hq := ?_)) | (refine hK _ _ ?_; clear hK K) | (refine hK _ _ rfl ?_; clear hK K) | (refine qZ (hq := ?_); try exact trivial) | omega)
    (show Run _ (.cond _ _ _) _ _; refine run_condX (fun hc => ?_) (fun hc => ?_) <;> (try simp only [qH, rng_0] at hc) <;> try contradiction)
    · obtain ⟨x, hx⟩ := some_at (i := i) (l := l) (by omega)
      have qe := And.intro @hx (And.intro @dec_self (And.intro @decS_self (And.intro @ne_self @neS_self))); repeat' first | (show Run _ (.cond _ _ _) _ _; refine run_condX (fun hc => ?_) (fun hc => ?_) <;> (try simp only [qH, rng_0] at hc) <;> try contradiction) | (first | refine Stp.h ?_ | (show ∀ K : St → List Ft → Prop, _; intro K hK) | (show runS _ _ _ _ _; first | refine qY (hq := ?_) | refine qZ (hq := ?_)) | (refine hK _ _ ?_; clear hK K) | (refine hK _ _ rfl ?_; clear hK K) | (refine qZ (hq := ?_); try exact trivial) | omega)
      exact ⟨i + 1, by omega, by omega, by simp⟩
    · repeat' first | (show Run _ (.cond _ _ _) _ _; refine run_condX (fun hc => ?_) (fun hc => ?_) <;> (try simp only [qH, rng_0] at hc) <;> try contradiction) | (first | refine Stp.h ?_ | (show ∀ K : St → List Ft → Prop, _; intro K hK) | (show runS _ _ _ _ _; first | refine qY (hq := ?_) | refine qZ (hq := ?_)) | (refine hK _ _ ?_; clear hK K) | (refine hK _ _ rfl ?_; clear hK K) | (refine qZ (hq := ?_); try exact trivial) | omega)
      exact .refl _
theorem daysL_mem {p : Per} {d : Int} (h : d ∈ daysL p) : p.fro ≤ d ∧ d ≤ p.to ∧ inM p.days ((d + 5) % 7) = true := by
  obtain ⟨k, hk, hd⟩ := List.mem_flatMap.1 h
  split at hd
  · simp at hd; subst hd
    have := List.mem_range.1 hk
    exact ⟨by omega, by omega, by assumption⟩
  · cases hd
theorem hasB_days {p : Per} (h : chkPer p = 0) (d : Int) : hasB p d = decide (d ∈ daysL p) := by
  have hp := chkPer_0 h
  by_cases hm : d ∈ daysL p
  · have := daysL_mem hm
    rw [decide_eq_true hm]
    have he : hasE p d = 0 := by rw [hasE]; simp only [firstE_cons, rng_0]; exact ⟨by assumption, ⟨by omega, by omega⟩, rfl⟩
    simp [hasB, he, hasD, this]
  · rw [decide_eq_false hm]
    cases hb : hasB p d
    · rfl
    · exfalso; apply hm
      simp only [hasB, hasD, Bool.and_eq_true, decide_eq_true_eq] at hb
      refine List.mem_flatMap.2 ⟨(d - p.fro).toNat, List.mem_range.2 (by omega), ?_⟩
      rw [Int.toNat_of_nonneg (by omega), show p.fro + (d - p.fro) = d by omega, if_pos hb.2.2]
      simp
theorem flat_congr {α β : Type} {f g : α → List β} : ∀ {l : List α}, (∀ x ∈ l, f x = g x) → l.flatMap f = l.flatMap g
  | [], _ => rfl
  | x :: r, h => by rw [List.flatMap_cons, List.flatMap_cons, h x (by simp), flat_congr fun y hy => h y (by simp [hy])]
theorem beginsL_day {l : Lim} (h : chkLim l = 0) (d : Int) : beginsL l d = if d ∈ daysL l.per then begK l d (begN l) else [] := by
  have hl := chkLim_0 h
  have hb := hasB_days hl.2.2.2.2.2.2.2.1 d
  by_cases hm : d ∈ daysL l.per
  · have hd := daysL_mem hm
    rw [beginsL, if_pos hm, if_pos]
    rw [decide_eq_true hm] at hb
    simp only [begOk, hb, Bool.not_true, Bool.or_false, Bool.not_eq_true', Bool.or_eq_false_iff, decide_eq_false_iff_not]; omega
  · rw [beginsL, if_neg hm, if_neg]
    rw [decide_eq_false hm] at hb
    simp [begOk, hb]
theorem windows_eq {l : Lim} (h : chkLim l = 0) : windowsL l = (daysL l.per).flatMap fun d => begK l d (begN l) := by
  have hl := chkLim_0 h
  have hp := hl.2.2.2.2.2.2.2.1
  unfold windowsL winK winN daysL
  rw [List.flatMap_assoc]
  refine flat_congr fun k hk => ?_
  have hk := List.mem_range.1 hk
  rw [beginsL_day h]
  have hb := hasB_days hp (l.per.fro + k)
  have hpp := chkPer_0 hp
  have he : hasE l.per (l.per.fro + k) = 0 := by rw [hasE]; simp only [firstE_cons, rng_0]; exact ⟨by assumption, ⟨by omega, by omega⟩, rfl⟩
  have hi : hasB l.per (l.per.fro + k) = inM l.per.days ((l.per.fro + k + 5) % 7) := by
    simp only [hasB, he, hasD, decide_true, Bool.true_and, show l.per.fro ≤ l.per.fro + (k : Int) by omega, show l.per.fro + (k : Int) ≤ l.per.to by omega]
  rw [hi] at hb
  rw [hb]
  simp only [decide_eq_true_eq]
  split <;> simp
end Go.Proofs.YtcfbdeghmckelaaGreat
