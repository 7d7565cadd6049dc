/- Contracts of functions that the proof uses, shared by the claims of this seat; no statement of its own. Part 40. No conditions. -/
import Derived.Test.YtcfbdeghmckelaaGreatJW26
set_option linter.all false
namespace Go.Proofs.YtcfbdeghmckelaaGreat
open Go.RowKit
set_option maxRecDepth 100000
set_option linter.unusedVariables false
set_option linter.unusedSimpArgs false
set_option maxHeartbeats 2000000
theorem mul_tmod_self (s n b : Int) (h : b = s * n) : b.tmod s = 0 := by subst h; exact Int.mul_tmod_right s n
theorem beg_at {l : Lim} (h : chkLim l = 0) {d b : Int} {i : Nat} (hd : d ∈ daysL l.per) (hb : (beginsL l d)[i]? = some b) : b = begV l d i ∧ i < begN l := by
  rw [beginsL_day h, if_pos hd] at hb
  have hi := (List.getElem?_eq_some_iff.1 hb).1
  simp only [begK, List.length_map, List.length_range] at hi
  simp only [begK, List.getElem?_map, List.getElem?_range hi, Option.map_some, Option.some.injEq] at hb
  exact ⟨hb.symm, hi⟩
theorem beg_facts {l : Lim} (h : chkLim l = 0) {d b : Int} {i : Nat} (hd : d ∈ daysL l.per) (hb : (beginsL l d)[i]? = some b) : 1440 * d ≤ b ∧ b < 1440 * d + 1440 ∧ (b.tmod 1440).tmod l.step = 0 := by
  obtain ⟨rfl, hi⟩ := beg_at h hd hb
  have hbd := beg_bound h hi
  have hl := chkLim_0 h
  have hp := chkPer_0 hl.2.2.2.2.2.2.2.1
  have hdm := daysL_mem hd
  unfold begV
  refine ⟨by omega, by omega, ?_⟩
  have e : (1440 * d + l.step * (l.from_ + i)).tmod 1440 = l.step * (l.from_ + i) := by
    rw [Int.tmod_eq_emod_of_nonneg (by omega)]; omega
  rw [e]; exact mul_tmod_self _ _ _ rfl
theorem beg_step {l : Lim} (h : chkLim l = 0) {d b c : Int} {i : Nat} (hd : d ∈ daysL l.per) (hb : (beginsL l d)[i]? = some b) (hc : (beginsL l d)[i + 1]? = some c) : c = b + l.step := by
  obtain ⟨rfl, hi⟩ := beg_at h hd hb
  obtain ⟨rfl, hi⟩ := beg_at h hd hc
  unfold begV
  have : l.step * (l.from_ + ((i + 1 : Nat) : Int)) = l.step * (l.from_ + i) + l.step := by
    rw [show l.from_ + ((i + 1 : Nat) : Int) = (l.from_ + i) + 1 by omega, Int.mul_add, Int.mul_one]
  omega
theorem cnt_merge {l : Lim} (h : 0 ≤ l.len) (m o : List Mov) (b : Int) : cntAll l (mergeM befM m o) b = cntAll l m b + cntAll l o b := by
  rw [cnt_perm h (merge_perm befM m o), cnt_app h]
theorem cnt_range {l : Lim} (h : 0 ≤ l.len) (m : List Mov) (b : Int) : 0 ≤ cntAll l m b ∧ cntAll l m b ≤ m.length := by
  rw [cnt_filter h]
  have := List.length_filter_le (inW l b) m
  omega
def chg (l : Lim) (a b : Int) (y : Mov) : Int :=
  if countsL l y.kind y.term = true then (if (a + l.len ≤ y.moment ∧ y.moment < b + l.len) ∧ b ≤ y.moment then 1 else 0) - (if (a ≤ y.moment ∧ y.moment < b) ∧ y.moment < a + l.len then 1 else 0) else 0
def chgS (l : Lim) (a b : Int) (m : List Mov) : Int := m.foldl (fun s y => s + chg l a b y) 0
theorem chg_fold (l : Lim) (a b : Int) : ∀ (m : List Mov) (s : Int), m.foldl (fun s y => s + chg l a b y) s = s + chgS l a b m
  | [], s => by simp [chgS]
  | y :: r, s => by
    rw [List.foldl_cons, chg_fold l a b r (s + chg l a b y)]
    show _ = s + (y :: r).foldl _ 0
    rw [List.foldl_cons, chg_fold l a b r (0 + chg l a b y)]; omega
theorem chgS_next {l : Lim} {a b : Int} {m : List Mov} {i : Nat} {y : Mov} (h : m[i]? = some y) : chgS l a b (m.take (i + 1)) = chgS l a b (m.take i) + chg l a b y := by
  rw [chgS, List.take_add_one, h, List.foldl_append]; rfl
theorem cnt_chg {l : Lim} (hl : 0 ≤ l.len) {a b : Int} (hab : a ≤ b) : ∀ m : List Mov, cntAll l m b - cntAll l m a = chgS l a b m
  | [] => by rw [cnt_filter hl, cnt_filter hl]; rfl
  | y :: r => by
    have ih := cnt_chg hl hab r
    rw [chgS, List.foldl_cons, chg_fold, ← ih]
    rw [cnt_filter hl, cnt_filter hl, cnt_filter hl, cnt_filter hl]
    rw [List.filter_cons, List.filter_cons]
    have e : ∀ w, inW l w y = (countsL l y.kind y.term && (decide (w ≤ y.moment) && decide (y.moment < w + l.len))) := fun _ => rfl
    rw [e, e]
    unfold chg
    cases countsL l y.kind y.term
    · simp
    · simp only [Bool.true_and, if_true, Bool.and_eq_true, decide_eq_true_eq]
      split <;> split <;> (try simp only [List.length_cons]) <;> split <;> split <;> omega
theorem chgS_bound (l : Lim) (a b : Int) : ∀ m : List Mov, -(m.length : Int) ≤ chgS l a b m ∧ chgS l a b m ≤ m.length
  | [] => by simp [chgS]
  | y :: r => by
    have ih := chgS_bound l a b r
    rw [chgS, List.foldl_cons, chg_fold]
    have : -1 ≤ chg l a b y ∧ chg l a b y ≤ 1 := by unfold chg; (repeat' split) <;> omega
    simp only [List.length_cons]; omega
theorem pk_day {l : Lim} {m : List Mov} {L M : List Int} : pkF l m (L ++ M) = M.foldl (pkStep l m) (pkF l m L) := by rw [pkF, pkF, List.foldl_append]
theorem windows_days {l : Lim} (h : chkLim l = 0) : windowsL l = (daysL l.per).flatMap (beginsL l) := by
  rw [windows_eq h]
  refine flat_congr fun d hd => ?_
  rw [beginsL_day h, if_pos hd]
end Go.Proofs.YtcfbdeghmckelaaGreat
