/- Contracts of functions that the proof uses, shared by the claims of this seat; no statement of its own. Part 4. No conditions. -/
import Derived.Test.YtcfbdeghmckelaaGreatJ2
import Derived.KernelRfl
import Derived.Test.YtcfbdeghmckelaaGreatChecked
set_option linter.all false
namespace Go.Proofs.YtcfbdeghmckelaaGreat
open Go.RowKit
set_option maxRecDepth 100000
set_option linter.unusedVariables false
set_option linter.unusedSimpArgs false
theorem mixed : Tryz.prog.follows .mixedOrders = true := by kernel_rfl
instance : Mx Tryz.prog := ⟨mixed⟩
section
variable {P : Program} {ts : List (List PV)} {dr : Bool} {K : St → List Ft → Prop} {acc : List Ft} {d : Option Nat} {f : Nat} {args : List AOpd} {gd : Option (Nat × Bool)} {af : List Nat} {r : List RO} {s : St} {vs : List PV} {res : PV}
end
structure Per where
  fro : Int
  to : Int
  days : Int
abbrev Per.pv (p : Per) : PV := .agg [.i .i64 p.fro, .i .i64 p.to, .i .i64 p.days]
def inM (mask wd : Int) : Bool := decide (mask / 2 ^ wd.toNat % 2 = 1)
def rng (n lo hi : Int) : Int := if n < lo ∨ hi < n then 3 else 0
theorem bits_in : ∀ m < 128, ∀ w < 7, (decide (bits .and .i64 (Int.fdiv (Int.ofNat m) (2 ^ (min w 64))) 1 = 1)) = inM (Int.ofNat m) (Int.ofNat w) := by decide +kernel
def firstE : List Int → Int
  | [] => 0
  | e :: r => if e = 0 then firstE r else e
theorem firstE_drop {l : List Int} : ∀ {i : Nat}, (∀ x ∈ l.take i, x = 0) → firstE l = firstE (l.drop i) := by
  induction l with
  | nil => intro i _; simp
  | cons e r ih =>
    intro i h
    cases i with
    | zero => rfl
    | succ i =>
      have he : e = 0 := h e (by simp)
      subst he
      simp only [firstE, if_true, List.drop_succ_cons]
      exact ih fun x hx => h x (by simp [hx])
theorem firstE_at {l : List Int} {i : Nat} {x : Int} (h : ∀ x ∈ l.take i, x = 0) (hx : l[i]? = some x) (hn : x ≠ 0) : firstE l = x := by
  rw [firstE_drop h]
  obtain ⟨hi, rfl⟩ := List.getElem?_eq_some_iff.1 hx
  rw [List.drop_eq_getElem_cons hi, firstE, if_neg hn]
theorem firstE_end {l : List Int} (h : ∀ x ∈ l.take l.length, x = 0) : firstE l = 0 := by
  rw [firstE_drop h, List.drop_length]; rfl
theorem take_all {l : List Int} {i : Nat} {x : Int} (h : ∀ x ∈ l.take i, x = 0) (hx : l[i]? = some x) (h0 : x = 0) : ∀ x ∈ l.take (i + 1), x = 0 := by
  intro y hy
  rw [List.take_add_one, hx] at hy
  rcases List.mem_append.1 hy with hy | hy
  · exact h y hy
  · simp at hy; omega
def chkPer (p : Per) : Int := firstE [rng p.fro 0 99999, rng p.to 0 99999, if p.to < p.fro then 11 else 0, if 400 < p.to - p.fro then 4 else 0, rng p.days 1 127]
theorem rng_0 {n a b : Int} : rng n a b = 0 ↔ a ≤ n ∧ n ≤ b := by
  unfold rng
  split
  · rename_i h; omega
  · rename_i h; omega
theorem firstE_cons {e : Int} {r : List Int} : firstE (e :: r) = 0 ↔ e = 0 ∧ firstE r = 0 := by
  simp only [firstE]; split <;> simp_all
theorem firstE_nil : firstE [] = 0 := rfl
theorem firstE_app {a b : List Int} (h : firstE a = 0) : firstE (a ++ b) = firstE b := by
  induction a with
  | nil => rfl
  | cons e r ih => obtain ⟨h1, h2⟩ := firstE_cons.1 h; subst h1; simp only [List.cons_append, firstE, if_true]; exact ih h2
theorem firstE_app' {a b : List Int} (h : firstE a ≠ 0) : firstE (a ++ b) = firstE a := by
  induction a with
  | nil => exact absurd rfl h
  | cons e r ih =>
    simp only [List.cons_append, firstE] at h ⊢
    split
    · rename_i h0; rw [if_pos h0] at h; exact ih h
    · rfl
theorem ite_eq0 {p : Prop} [Decidable p] {e : Int} (he : e ≠ 0) : (if p then e else 0) = 0 ↔ ¬ p := by by_cases h : p <;> simp [h, he]
theorem chkPer_0 {p : Per} (h : chkPer p = 0) : 0 ≤ p.fro ∧ p.fro ≤ p.to ∧ p.to ≤ 99999 ∧ p.to - p.fro ≤ 400 ∧ 1 ≤ p.days ∧ p.days ≤ 127 := by
  unfold chkPer at h
  simp only [firstE_cons, rng_0, ite_eq0 (show (11 : Int) ≠ 0 by decide), ite_eq0 (show (4 : Int) ≠ 0 by decide)] at h
  omega
def hasD (p : Per) (d : Int) : Bool := decide (p.fro ≤ d) && decide (d ≤ p.to) && inM p.days ((d + 5) % 7)
def daysL (p : Per) : List Int := (List.range (p.to - p.fro + 1).toNat).flatMap fun (k : Nat) => if inM p.days ((p.fro + k + 5) % 7) then [p.fro + k] else []
theorem range_split {α : Type} (f : Nat → List α) {k n : Nat} (h : k < n) : (List.range n).flatMap f = (List.range k).flatMap f ++ (f k ++ (List.range' (k + 1) (n - (k + 1))).flatMap f) := by
  have : List.range n = List.range k ++ (k :: List.range' (k + 1) (n - (k + 1))) := by
    rw [List.range_eq_range', List.range_eq_range', show k :: List.range' (k + 1) (n - (k + 1)) = List.range' (0 + 1 * k) (n - k) by rw [show n - k = (n - (k + 1)) + 1 by omega, List.range'_succ]; simp, List.range'_append, show k + (n - k) = n by omega]
  rw [this]; simp
theorem range_next {α : Type} (f : Nat → List α) (k : Nat) : (List.range (k + 1)).flatMap f = (List.range k).flatMap f ++ f k := by
  rw [List.range_succ]; simp
def ac146 : AC := .seq (.ops false [⟨some 2,.mv,[.c (.i .i64 0)],none,[]⟩]) (.seq (.seq (.ops false [⟨some 5,.mv,[.t 0],none,[]⟩,⟨some 6,.len false,[.t 5],none,[0]⟩,⟨some 7,.mv,[.c (.i .i64 0)],none,[]⟩]) (.block 0 (.loop (.seq (.ops false [⟨some 8,.bin .lss,[.t 7,.t 6],none,[]⟩]) (.seq (.cond (.t 8) .skip (.exit 0)) (.seq (.block 1 (.seq (.ops false [⟨some 9,.iadrS 1,[.t 5,.t 7],none,[]⟩,⟨some 10,.load 1 false,[.t 9],none,[0]⟩,⟨some 4,.mv,[.t 10],none,[1,0,1]⟩]) (.seq (.ops false [⟨some 11,.mv,[.t 4],none,[]⟩,⟨some 12,.bin .neq,[.t 11,.c (.i .i64 0)],none,[0]⟩]) (.cond (.t 12) (.seq (.ops false [⟨some 13,.mv,[.t 4],none,[]⟩,⟨some 2,.mv,[.t 13],none,[0,0]⟩]) .ret) .skip)))) (.ops false [⟨some 14,.bin .add,[.t 7,.c (.i .i64 1)],none,[]⟩,⟨some 7,.mv,[.t 14],none,[0]⟩]))))))) (.seq (.ops false [⟨some 2,.mv,[.c (.i .i64 0)],none,[]⟩]) .ret))
def rs146 : List RV := [.tmp 2]
theorem fact146 : compF Tryz.prog 146 = some (ac146,rs146,15) := by kernel_rfl
def ac147 : AC := .seq (.ops false [⟨some 2,.mv,[.c (.i .i64 0)],none,[]⟩]) (.seq (.ops false [⟨some 3,.mv,[.t 0],none,[]⟩,⟨some 4,.call 149,[.t 3,.c (.i .i64 0),.c (.i .i64 99999)],none,[0]⟩,⟨some 2,.mv,[.t 4],none,[1,1,0,1]⟩]) .ret)
def rs147 : List RV := [.tmp 2]
theorem fact147 : compF Tryz.prog 147 = some (ac147,rs147,5) := by kernel_rfl
def ac148 : AC := .seq (.ops false [⟨some 4,.mv,[.c (.i .i64 0)],none,[]⟩]) (.seq (.seq (.ops false [⟨some 5,.mv,[.t 0],none,[]⟩]) (.cond (.t 5) (.seq (.ops false [⟨some 6,.mv,[.t 1],none,[]⟩,⟨some 4,.mv,[.t 6],none,[0,0]⟩]) .ret) .skip)) (.seq (.ops false [⟨some 4,.mv,[.c (.i .i64 0)],none,[]⟩]) .ret))
def rs148 : List RV := [.tmp 4]
theorem fact148 : compF Tryz.prog 148 = some (ac148,rs148,7) := by kernel_rfl
def ac149 : AC := .seq (.ops false [⟨some 6,.mv,[.c (.i .i64 0)],none,[]⟩]) (.seq (.ops false [⟨some 7,.mv,[.t 0],none,[]⟩,⟨some 8,.mv,[.t 1],none,[]⟩,⟨some 9,.bin .lss,[.t 7,.t 8],none,[0,1]⟩,⟨some 10,.mv,[.t 9],none,[2]⟩,⟨some 11,.mv,[.t 0],some (10,false),[3]⟩,⟨some 12,.mv,[.t 2],some (10,false),[3]⟩,⟨some 13,.bin .gtr,[.t 11,.t 12],some (10,false),[4,5,3]⟩,⟨some 14,.pick,[.t 10,.c (.b true),.t 13],none,[3,6]⟩,⟨some 15,.call 148,[.t 14,.c (.i .i64 3)],none,[7,3]⟩,⟨some 6,.mv,[.t 15],none,[8,8,0,1,2,3,4,5,6,7,8]⟩]) .ret)
def rs149 : List RV := [.tmp 6]
theorem fact149 : compF Tryz.prog 149 = some (ac149,rs149,16) := by kernel_rfl
def ac161 : AC := .seq (.ops false [⟨some 4,.mv,[.c (.b false)],none,[]⟩]) (.seq (.ops false [⟨some 5,.mv,[.t 0],none,[]⟩,⟨some 6,.mv,[.t 1],none,[]⟩,⟨some 7,.bin .shr,[.t 5,.t 6],none,[0,1]⟩,⟨some 8,.bin .and,[.t 7,.c (.i .i64 1)],none,[2]⟩,⟨some 9,.bin .eql,[.t 8,.c (.i .i64 1)],none,[3]⟩,⟨some 4,.mv,[.t 9],none,[4,0,1,2,3,4]⟩]) .ret)
def rs161 : List RV := [.tmp 4]
theorem fact161 : compF Tryz.prog 161 = some (ac161,rs161,10) := by kernel_rfl
def ac162 : AC := .seq (.ops false [⟨some 2,.mv,[.c (.i .i64 0)],none,[]⟩]) (.seq (.ops false [⟨some 3,.mv,[.t 0],none,[]⟩,⟨some 4,.bin .add,[.t 3,.c (.i .i64 5)],none,[0]⟩,⟨some 5,.bin .rem,[.t 4,.c (.i .i64 7)],none,[1]⟩,⟨some 2,.mv,[.t 5],none,[2,0,1,2]⟩]) .ret)
def rs162 : List RV := [.tmp 2]
theorem fact162 : compF Tryz.prog 162 = some (ac162,rs162,6) := by kernel_rfl
theorem pure148 (b : Bool) (e : Int) : Pure Tryz.prog 148 [.b b, .i .i64 e] (.i .i64 (if b then e else 0)) := by
  refine pure_by fact148 (by simp) fun hw X hX => ?_
  unfold ac148 rs148
  repeat' first | (show Run _ (.cond _ _ _) _ _; refine run_condX (fun hc => ?_) (fun hc => ?_) <;> (try simp only [qH, rng_0] at hc) <;> try contradiction) | (first | refine Stp.h ?_ | (show ∀ K : St → List Ft → Prop, _; intro K hK) | (show runS _ _ _ _ _; first | refine qY (hq := ?_) | refine qZ (hq := ?_)) | (refine hK _ _ ?_; clear hK K) | (refine hK _ _ rfl ?_; clear hK K) | (refine qZ (hq := ?_); try exact trivial) | omega)
  all_goals (subst hc; exact .refl _)
theorem pure149 (n a b : Int) : Pure Tryz.prog 149 [.i .i64 n, .i .i64 a, .i .i64 b] (.i .i64 (rng n a b)) := by
  refine pure_by fact149 (by simp) fun hw X hX => ?_
  unfold ac149 rs149
  repeat' first | (show Run _ (.cond _ _ _) _ _; refine run_condX (fun hc => ?_) (fun hc => ?_) <;> (try simp only [qH, rng_0] at hc) <;> try contradiction) | (show RunOps _ _ _ _ (⟨_, .call 148, _, _, _⟩ :: _) _ _; refine run_callX (hf := pure148 _ _) (hn := ?_)) | (first | refine Stp.h ?_ | (show ∀ K : St → List Ft → Prop, _; intro K hK) | (show runS _ _ _ _ _; first | refine qY (hq := ?_) | refine qZ (hq := ?_)) | (refine hK _ _ ?_; clear hK K) | (refine hK _ _ rfl ?_; clear hK K) | (refine qZ (hq := ?_); try exact trivial) | omega)
  simp only [rng, Bool.or_eq_true, decide_eq_true_eq]; exact .refl _
theorem pure147 (n : Int) : Pure Tryz.prog 147 [.i .i64 n] (.i .i64 (rng n 0 99999)) := by
  refine pure_by fact147 (by simp) fun hw X hX => ?_
  unfold ac147 rs147
  repeat' first | (show Run _ (.cond _ _ _) _ _; refine run_condX (fun hc => ?_) (fun hc => ?_) <;> (try simp only [qH, rng_0] at hc) <;> try contradiction) | (show RunOps _ _ _ _ (⟨_, .call 149, _, _, _⟩ :: _) _ _; refine run_callX (hf := pure149 _ _ _) (hn := ?_)) | (first | refine Stp.h ?_ | (show ∀ K : St → List Ft → Prop, _; intro K hK) | (show runS _ _ _ _ _; first | refine qY (hq := ?_) | refine qZ (hq := ?_)) | (refine hK _ _ ?_; clear hK K) | (refine hK _ _ rfl ?_; clear hK K) | (refine qZ (hq := ?_); try exact trivial) | omega)
  exact .refl _
theorem pure161 (m w : Int) (h0 : 0 ≤ m) (h1 : m < 128) (h2 : 0 ≤ w) (h3 : w < 7) : Pure Tryz.prog 161 [.i .i64 m, .i .i64 w] (.b (inM m w)) := by
  refine pure_by fact161 (by simp) fun hw X hX => ?_
  unfold ac161 rs161
  repeat' first | (show Run _ (.cond _ _ _) _ _; refine run_condX (fun hc => ?_) (fun hc => ?_) <;> (try simp only [qH, rng_0] at hc) <;> try contradiction) | (first | refine Stp.h ?_ | (show ∀ K : St → List Ft → Prop, _; intro K hK) | (show runS _ _ _ _ _; first | refine qY (hq := ?_) | refine qZ (hq := ?_)) | (refine hK _ _ ?_; clear hK K) | (refine hK _ _ rfl ?_; clear hK K) | (refine qZ (hq := ?_); try exact trivial) | omega)
  have := bits_in m.toNat (by omega) w.toNat (by omega)
  simp only [Int.ofNat_eq_natCast, Int.toNat_of_nonneg h0, Int.toNat_of_nonneg h2] at this
  show Weak (.b (decide (bits .and .i64 (m.fdiv (2 ^ min w.toNat 64)) 1 = 1))) _
  rw [this]; exact .refl _
theorem pure162 (d : Int) (h0 : 0 ≤ d) (h1 : d ≤ 99999) : Pure Tryz.prog 162 [.i .i64 d] (.i .i64 ((d + 5) % 7)) := by
  refine pure_by fact162 (by simp) fun hw X hX => ?_
  unfold ac162 rs162
  repeat' first | (show Run _ (.cond _ _ _) _ _; refine run_condX (fun hc => ?_) (fun hc => ?_) <;> (try simp only [qH, rng_0] at hc) <;> try contradiction) | (first | refine Stp.h ?_ | (show ∀ K : St → List Ft → Prop, _; intro K hK) | (show runS _ _ _ _ _; first | refine qY (hq := ?_) | refine qZ (hq := ?_)) | (refine hK _ _ ?_; clear hK K) | (refine hK _ _ rfl ?_; clear hK K) | (refine qZ (hq := ?_); try exact trivial) | omega)
  rw [Int.tmod_eq_emod_of_nonneg (by omega)]
  exact .refl _
theorem pure146 (l : List Int) : Pure Tryz.prog 146 [.sl 1 (l.map (.i .i64))] (.i .i64 (firstE l)) := by
  refine pure_by fact146 (by simp) fun hw X hX => ?_
  unfold ac146 rs146
  simp only [wfs, PV.wf, List.length_map, maxLen] at hw
  repeat' first | (show Run _ (.cond _ _ _) _ _; refine run_condX (fun hc => ?_) (fun hc => ?_) <;> (try simp only [qH, rng_0] at hc) <;> try contradiction) | (first | refine Stp.h ?_ | (show ∀ K : St → List Ft → Prop, _; intro K hK) | (show runS _ _ _ _ _; first | refine qY (hq := ?_) | refine qZ (hq := ?_)) | (refine hK _ _ ?_; clear hK K) | (refine hK _ _ rfl ?_; clear hK K) | (refine qZ (hq := ?_); try exact trivial) | omega)
  refine run_loop (κ := Nat) (fun i => ⟨[(5, .p (.sl 1 (l.map (.i .i64)))), (6, .p (.i .i64 l.length)), (7, .p (.i .i64 i))], [], [], false⟩) (fun i => i ≤ l.length ∧ ∀ x ∈ l.take i, x = 0) (fun i => l.length - i) 0 ?_ ?_ ?_
  · simp only [qS, Nat.reduceAdd, Nat.reduceMul, Nat.reduceEqDiff, Nat.reduceLeDiff, reduceIte, reduceCtorEq, Nat.reduceBEq, Nat.reduceLT] <;> rfl
  · simp
  · intro i hi
    repeat (first | refine Stp.h ?_ | (show ∀ K : St → List Ft → Prop, _; intro K hK) | (show runS _ _ _ _ _; first | refine qY (hq := ?_) | refine qZ (hq := ?_)) | (refine hK _ _ ?_; clear hK K) | (refine hK _ _ rfl ?_; clear hK K) | (refine qZ (hq := ?_); try exact trivial) | omega)
    (show Run _ (.cond _ _ _) _ _; refine run_condX (fun hc => ?_) (fun hc => ?_) <;> (try simp only [qH, rng_0] at hc) <;> try contradiction)
    · obtain ⟨x, hx⟩ := some_at (i := i) (l := l) (by omega)
      have qe := @hx; repeat' first | (show Run _ (.cond _ _ _) _ _; refine run_condX (fun hc => ?_) (fun hc => ?_) <;> (try simp only [qH, rng_0] at hc) <;> try contradiction) | (first | refine Stp.h ?_ | (show ∀ K : St → List Ft → Prop, _; intro K hK) | (show runS _ _ _ _ _; first | refine qY (hq := ?_) | refine qZ (hq := ?_)) | (refine hK _ _ ?_; clear hK K) | (refine hK _ _ rfl ?_; clear hK K) | (refine qZ (hq := ?_); try exact trivial) | omega)
      · rw [firstE_at hi.2 hx hc]; exact .refl _
      · exact ⟨i + 1, ⟨by omega, take_all hi.2 hx hc⟩, by omega, by simp⟩
    · repeat' first | (show Run _ (.cond _ _ _) _ _; refine run_condX (fun hc => ?_) (fun hc => ?_) <;> (try simp only [qH, rng_0] at hc) <;> try contradiction) | (first | refine Stp.h ?_ | (show ∀ K : St → List Ft → Prop, _; intro K hK) | (show runS _ _ _ _ _; first | refine qY (hq := ?_) | refine qZ (hq := ?_)) | (refine hK _ _ ?_; clear hK K) | (refine hK _ _ rfl ?_; clear hK K) | (refine qZ (hq := ?_); try exact trivial) | omega)
      have e : i = l.length := by omega
      subst e
      rw [firstE_end hi.2]; exact .refl _
def ac124 : AC := .seq (.ops false [⟨some 1,.box,[.t 0],none,[]⟩,⟨some 2,.mv,[.c (.i .i64 0)],none,[]⟩]) (.seq (.seq (.ops true [⟨some 4,.fadr 0,[.t 1],none,[]⟩,⟨some 5,.load 1 false,[.t 4],none,[0]⟩,⟨some 6,.call 147,[.t 5],none,[1]⟩,⟨some 7,.fadr 1,[.t 1],none,[]⟩,⟨some 8,.load 1 false,[.t 7],none,[3]⟩,⟨some 9,.call 147,[.t 8],none,[4,2]⟩,⟨some 10,.bslice 34 1 (.i .i64 0) 2 [0,1],[.t 6,.t 9],none,[2,5]⟩,⟨some 11,.call 146,[.t 10],none,[6,5]⟩,⟨some 3,.mv,[.t 11],none,[7,7,0,1,2,3,4,5,6,7]⟩]) (.seq (.ops false [⟨some 12,.mv,[.t 3],none,[]⟩,⟨some 13,.bin .neq,[.t 12,.c (.i .i64 0)],none,[0]⟩]) (.cond (.t 13) (.seq (.ops false [⟨some 14,.mv,[.t 3],none,[]⟩,⟨some 2,.mv,[.t 14],none,[0,0]⟩]) .ret) .skip))) (.seq (.ops true [⟨some 15,.fadr 1,[.t 1],none,[]⟩,⟨some 16,.load 1 false,[.t 15],none,[0]⟩,⟨some 17,.fadr 0,[.t 1],none,[]⟩,⟨some 18,.load 1 false,[.t 17],none,[2]⟩,⟨some 19,.bin .lss,[.t 16,.t 18],none,[1,3]⟩,⟨some 20,.call 148,[.t 19,.c (.i .i64 11)],none,[4]⟩,⟨some 21,.fadr 1,[.t 1],none,[]⟩,⟨some 22,.load 1 false,[.t 21],none,[6]⟩,⟨some 23,.fadr 0,[.t 1],none,[]⟩,⟨some 24,.load 1 false,[.t 23],none,[8]⟩,⟨some 25,.bin .sub,[.t 22,.t 24],none,[7,9]⟩,⟨some 26,.bin .gtr,[.t 25,.c (.i .i64 400)],none,[10]⟩,⟨some 27,.call 148,[.t 26,.c (.i .i64 4)],none,[11,5]⟩,⟨some 28,.fadr 2,[.t 1],none,[]⟩,⟨some 29,.load 1 false,[.t 28],none,[13]⟩,⟨some 30,.call 149,[.t 29,.c (.i .i64 1),.c (.i .i64 127)],none,[14,12]⟩,⟨some 31,.bslice 34 1 (.i .i64 0) 3 [0,1,2],[.t 20,.t 27,.t 30],none,[5,12,15]⟩,⟨some 32,.call 146,[.t 31],none,[16,15]⟩,⟨some 2,.mv,[.t 32],none,[17,17,0,1,2,3,4,5,6,7,8,9,10,11,12,13,14,15,16,17]⟩]) .ret))
def rs124 : List RV := [.tmp 2]
theorem fact124 : compF Tryz.prog 124 = some (ac124,rs124,33) := by kernel_rfl
def ac156 : AC := .seq (.ops false [⟨some 2,.box,[.t 0],none,[]⟩,⟨some 4,.mv,[.c (.b false)],none,[]⟩]) (.seq (.ops true [⟨some 5,.mv,[.t 1],none,[]⟩,⟨some 6,.fadr 0,[.t 2],none,[]⟩,⟨some 7,.load 1 false,[.t 6],none,[1]⟩,⟨some 8,.bin .geq,[.t 5,.t 7],none,[0,2]⟩,⟨some 9,.mv,[.t 8],none,[3]⟩,⟨some 10,.mv,[.t 1],some (9,true),[4]⟩,⟨some 11,.fadr 1,[.t 2],some (9,true),[4]⟩,⟨some 12,.load 1 false,[.t 11],some (9,true),[6,4]⟩,⟨some 13,.bin .leq,[.t 10,.t 12],some (9,true),[5,7,4]⟩,⟨some 14,.pick,[.t 9,.t 13,.c (.b false)],none,[4,8]⟩,⟨some 15,.mv,[.t 14],none,[9,4]⟩,⟨some 16,.fadr 2,[.t 2],some (15,true),[10]⟩,⟨some 17,.load 1 false,[.t 16],some (15,true),[11,10]⟩,⟨some 18,.mv,[.t 1],some (15,true),[10]⟩,⟨some 19,.call 162,[.t 18],some (15,true),[13,10,10]⟩,⟨some 20,.call 161,[.t 17,.t 19],some (15,true),[12,14,14,10]⟩,⟨some 21,.pick,[.t 15,.t 20,.c (.b false)],none,[10,15]⟩,⟨some 4,.mv,[.t 21],none,[16,15,0,1,2,3,4,5,6,7,8,9,10,11,12,13,14,15,16]⟩]) .ret)
def rs156 : List RV := [.tmp 4]
theorem fact156 : compF Tryz.prog 156 = some (ac156,rs156,22) := by kernel_rfl
theorem pure124 (p : Per) : Pure Tryz.prog 124 [p.pv] (.i .i64 (chkPer p)) := by
  refine pure_by fact124 (by simp) fun hw X hX => ?_
  unfold ac124 rs124
  have qe := @qR; repeat' first | (show Run _ (.cond _ _ _) _ _; refine run_condX (fun hc => ?_) (fun hc => ?_) <;> (try simp only [qH, rng_0] at hc) <;> try contradiction) | (show RunOps _ _ _ _ (⟨_, .call 147, _, _, _⟩ :: _) _ _; refine run_callX (hf := pure147 _) (hn := ?_)) | (show RunOps _ _ _ _ (⟨_, .call 146, _, _, _⟩ :: _) _ _; refine run_callX (hf := pure146 [_, _]) (hn := ?_)) | (first | refine Stp.h ?_ | (show ∀ K : St → List Ft → Prop, _; intro K hK) | (show runS _ _ _ _ _; first | refine qY (hq := ?_) | refine qZ (hq := ?_)) | (refine hK _ _ ?_; clear hK K) | (refine hK _ _ rfl ?_; clear hK K) | (refine qZ (hq := ?_); try exact trivial) | omega)
  · have : chkPer p = firstE ([rng p.fro 0 99999, rng p.to 0 99999] ++ [if p.to < p.fro then 11 else 0, if 400 < p.to - p.fro then 4 else 0, rng p.days 1 127]) := rfl
    rw [this, firstE_app' hc]; exact .refl _
  · have h1 := hc
    simp only [firstE_cons, rng_0] at h1
    have qe := @qR; repeat' first | (show Run _ (.cond _ _ _) _ _; refine run_condX (fun hc => ?_) (fun hc => ?_) <;> (try simp only [qH, rng_0] at hc) <;> try contradiction) | (show RunOps _ _ _ _ (⟨_, .call 148, _, _, _⟩ :: _) _ _; refine run_callX (hf := pure148 _ _) (hn := ?_)) | (show RunOps _ _ _ _ (⟨_, .call 149, _, _, _⟩ :: _) _ _; refine run_callX (hf := pure149 _ _ _) (hn := ?_)) | (show RunOps _ _ _ _ (⟨_, .call 146, _, _, _⟩ :: _) _ _; refine run_callX (hf := pure146 [_, _, _]) (hn := ?_)) | (first | refine Stp.h ?_ | (show ∀ K : St → List Ft → Prop, _; intro K hK) | (show runS _ _ _ _ _; first | refine qY (hq := ?_) | refine qZ (hq := ?_)) | (refine hK _ _ ?_; clear hK K) | (refine hK _ _ rfl ?_; clear hK K) | (refine qZ (hq := ?_); try exact trivial) | omega)
    have : chkPer p = firstE ([rng p.fro 0 99999, rng p.to 0 99999] ++ [if p.to < p.fro then 11 else 0, if 400 < p.to - p.fro then 4 else 0, rng p.days 1 127]) := rfl
    rw [this, firstE_app hc]; exact .refl _
theorem pure156 (p : Per) (d : Int) (h0 : 0 ≤ d) (h1 : d ≤ 99999) (h2 : 0 ≤ p.days) (h3 : p.days < 128) : Pure Tryz.prog 156 [p.pv, .i .i64 d] (.b (hasD p d)) := by
  refine pure_by fact156 (by simp) fun hw X hX => ?_
  unfold ac156 rs156
  have qe := @qR; repeat' first | (show Run _ (.cond _ _ _) _ _; refine run_condX (fun hc => ?_) (fun hc => ?_) <;> (try simp only [qH, rng_0] at hc) <;> try contradiction) | (show RunOps _ _ _ _ (⟨_, .call 162, _, _, _⟩ :: _) _ _; refine run_callGX (hf := fun hc => (by first | exact pure162 _ h0 h1 | (simp only [qH, rng_0] at hc; exact pure162 _ h0 h1))) (hn := ?_)) | (show RunOps _ _ _ _ (⟨_, .call 161, _, _, _⟩ :: _) _ _; refine run_callGX (hf := fun hc => (by first | exact pure161 p.days ((d + 5) % 7) h2 h3 (by omega) (by omega) | (simp only [qH, rng_0] at hc; exact pure161 p.days ((d + 5) % 7) h2 h3 (by omega) (by omega)))) (hn := ?_)) | (first | refine Stp.h ?_ | (show ∀ K : St → List Ft → Prop, _; intro K hK) | (show runS _ _ _ _ _; first | refine qY (hq := ?_) | refine qZ (hq := ?_)) | (refine hK _ _ ?_; clear hK K) | (refine hK _ _ rfl ?_; clear hK K) | (refine qZ (hq := ?_); try exact trivial) | omega)
  all_goals exact .refl _
theorem take_snoc {α β : Type} {l : List α} {k : Nat} {d : α} (f : α → β) (h : l[k]? = some d) : (l.take (k + 1)).map f = (l.take k).map f ++ [f d] := by
  rw [List.take_add_one, h]; simp
theorem take_len {α : Type} {l : List α} {k : Nat} {d : α} (h : l[k]? = some d) : (l.take k).length = k := by
  have := (List.getElem?_eq_some_iff.1 h).1
  simp; omega
theorem daysL_len (p : Per) : (daysL p).length ≤ (p.to - p.fro + 1).toNat := by
  unfold daysL
  generalize (p.to - p.fro + 1).toNat = n
  induction n with
  | zero => simp
  | succ n ih => rw [range_next, List.length_append]; split <;> simp only [List.length_cons, List.length_nil] <;> omega
end Go.Proofs.YtcfbdeghmckelaaGreat
