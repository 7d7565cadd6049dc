/- Contracts of functions that the proof uses, shared by the claims of this seat; no statement of its own. Part 35. No conditions. -/
import Derived.Test.YtcfbdeghmckelaaGreatJR3
import Derived.Test.YtcfbdeghmckelaaGreatJW21
set_option linter.all false
namespace Go.Proofs.YtcfbdeghmckelaaGreat
open Go.RowKit
set_option maxRecDepth 100000
set_option linter.unusedVariables false
set_option linter.unusedSimpArgs false
set_option maxHeartbeats 2000000
def insAt (bef : Mov → Mov → Bool) (x : Mov) (out : List Mov) : Nat → Nat
  | 0 => 0
  | n + 1 => match out[n]? with
    | some y => if bef x y then insAt bef x out n else n + 1
    | none => n + 1
def insM (bef : Mov → Mov → Bool) (out : List Mov) (x : Mov) : List Mov := out.take (insAt bef x out out.length) ++ x :: out.drop (insAt bef x out out.length)
def mergeM (bef : Mov → Mov → Bool) (a b : List Mov) : List Mov := (a ++ b).foldl (insM bef) []
theorem insAt_le (bef : Mov → Mov → Bool) (x : Mov) (out : List Mov) : ∀ n, insAt bef x out n ≤ n
  | 0 => Nat.le_refl _
  | n + 1 => by
    have := insAt_le bef x out n
    simp only [insAt]; (repeat' split) <;> omega
theorem insAt_ge (bef : Mov → Mov → Bool) (x : Mov) (out : List Mov) : ∀ n i, insAt bef x out n ≤ i → i < n → ∃ y, out[i]? = some y ∧ bef x y = true
  | 0, i, _, h => by omega
  | n + 1, i, h, hi => by
    simp only [insAt] at h
    split at h
    · rename_i y hy
      split at h
      · by_cases e : i = n
        · subst e; exact ⟨y, hy, by assumption⟩
        · exact insAt_ge bef x out n i h (by omega)
      · omega
    · omega
theorem insAt_last (bef : Mov → Mov → Bool) (x : Mov) (out : List Mov) : ∀ n k y, insAt bef x out n = k + 1 → out[k]? = some y → bef x y = false
  | 0, _, _, h, _ => by cases h
  | n + 1, k, y, h, hy => by
    simp only [insAt] at h
    split at h
    · rename_i z hz
      split at h
      · exact insAt_last bef x out n k y h hy
      · have e : n = k := by omega
        subst e
        rw [hz] at hy
        cases hy
        rename_i hb
        simpa using hb
    · rename_i hz
      have e : n = k := by omega
      subst e
      rw [hz] at hy; cases hy
theorem insM_perm (bef : Mov → Mov → Bool) (out : List Mov) (x : Mov) : (insM bef out x).Perm (x :: out) := by
  unfold insM
  refine List.perm_middle.trans ?_
  rw [List.take_append_drop]
theorem foldl_perm (bef : Mov → Mov → Bool) : ∀ (l out : List Mov), (l.foldl (insM bef) out).Perm (out ++ l)
  | [], out => by simp
  | x :: l, out => by
    refine (foldl_perm bef l (insM bef out x)).trans ?_
    refine ((insM_perm bef out x).append_right l).trans ?_
    simpa using (List.perm_middle (a := x) (l₁ := out) (l₂ := l)).symm
theorem merge_perm (bef : Mov → Mov → Bool) (a b : List Mov) : (mergeM bef a b).Perm (a ++ b) := by
  simpa [mergeM] using foldl_perm bef (a ++ b) []
abbrev sortedM (l : List Mov) : Prop := l.Pairwise fun x y => x.moment ≤ y.moment
theorem insM_sorted {bef : Mov → Mov → Bool} (h1 : ∀ a b, bef a b = true → a.moment ≤ b.moment) (h2 : ∀ a b, bef a b = false → b.moment ≤ a.moment) {out : List Mov} (h : sortedM out) (x : Mov) : sortedM (insM bef out x) := by
  unfold insM
  generalize hk : insAt bef x out out.length = k
  have hkl := insAt_le bef x out out.length
  rw [hk] at hkl
  have hge := insAt_ge bef x out out.length
  have hla := insAt_last bef x out out.length
  rw [hk] at hge hla
  have hs : sortedM (out.take k ++ out.drop k) := by rw [List.take_append_drop]; exact h
  have hs := List.pairwise_append.1 hs
  have hdrop : ∀ y ∈ out.drop k, x.moment ≤ y.moment := fun y hy => by
    obtain ⟨i, hi⟩ := List.getElem?_of_mem hy
    rw [List.getElem?_drop] at hi
    have hlt := (List.getElem?_eq_some_iff.1 hi).1
    obtain ⟨z, hz, hb⟩ := hge (k + i) (by omega) hlt
    rw [hi] at hz; cases hz
    exact h1 _ _ hb
  have htake : ∀ y ∈ out.take k, y.moment ≤ x.moment := fun y hy => by
    cases k with
    | zero => simp at hy
    | succ k =>
      obtain ⟨z, hz⟩ : ∃ z, out[k]? = some z := ⟨_, List.getElem?_eq_getElem (by omega)⟩
      have hb := h2 _ _ (hla k z rfl hz)
      obtain ⟨i, hi⟩ := List.getElem?_of_mem hy
      have hik : i < k + 1 := by
        have := (List.getElem?_eq_some_iff.1 hi).1
        simp only [List.length_take] at this; omega
      rw [List.getElem?_take, if_pos hik] at hi
      by_cases e : i = k
      · subst e; rw [hz] at hi; cases hi; exact hb
      · have hlt := (List.getElem?_eq_some_iff.1 hi).1
        have := List.pairwise_iff_getElem.1 h i k hlt (by omega) (by omega)
        rw [List.getElem?_eq_getElem hlt] at hi
        rw [List.getElem?_eq_getElem (by omega)] at hz
        have e1 := Option.some.inj hi
        have e2 := Option.some.inj hz
        rw [e1, e2] at this
        omega
  refine List.pairwise_append.2 ⟨hs.1, List.pairwise_cons.2 ⟨hdrop, hs.2.1⟩, fun a ha b hb => ?_⟩
  rcases List.mem_cons.1 hb with rfl | hb
  · exact htake a ha
  · exact hs.2.2 a ha b hb
theorem foldl_sorted {bef : Mov → Mov → Bool} (h1 : ∀ a b, bef a b = true → a.moment ≤ b.moment) (h2 : ∀ a b, bef a b = false → b.moment ≤ a.moment) : ∀ (l out : List Mov), sortedM out → sortedM (l.foldl (insM bef) out)
  | [], _, h => h
  | x :: l, _, h => foldl_sorted h1 h2 l _ (insM_sorted h1 h2 h x)
theorem merge_sorted {bef : Mov → Mov → Bool} (h1 : ∀ a b, bef a b = true → a.moment ≤ b.moment) (h2 : ∀ a b, bef a b = false → b.moment ≤ a.moment) (a b : List Mov) : sortedM (mergeM bef a b) := foldl_sorted h1 h2 _ _ List.Pairwise.nil
theorem firstE_all {l : List Int} (h : ∀ x ∈ l, x = 0) : firstE l = 0 := by
  induction l with
  | nil => rfl
  | cons x r ih => exact firstE_cons.2 ⟨h x (by simp), ih fun y hy => h y (by simp [hy])⟩
theorem chkMovs_of {m : List Mov} (hn : m.length ≤ 30000) (hc : ∀ x ∈ m, chkMov x = 0) (hs : sortedM m) : chkMovs m = 0 := by
  rw [chkMovs, if_neg (by omega)]
  refine firstE_all fun e he => ?_
  obtain ⟨i, hi⟩ := List.getElem?_of_mem he
  simp only [movErrs, List.getElem?_mapIdx, Option.map_eq_some_iff] at hi
  obtain ⟨x, hx, rfl⟩ := hi
  refine firstE_cons.2 ⟨hc x (List.mem_of_getElem? hx), firstE_cons.2 ⟨if_neg fun hh => ?_, rfl⟩⟩
  have hlt := (List.getElem?_eq_some_iff.1 hx).1
  have := List.pairwise_iff_getElem.1 hs (i - 1) i (by omega) hlt (by omega)
  rw [List.getElem?_eq_getElem (by omega), Option.getD_some] at hh
  rw [List.getElem?_eq_getElem hlt] at hx
  rw [Option.some.inj hx] at this
  omega
theorem cnt_perm {l : Lim} (h : 0 ≤ l.len) {a b : List Mov} (hp : a.Perm b) (w : Int) : cntAll l a w = cntAll l b w := by
  rw [cnt_filter h, cnt_filter h, (hp.filter _).length_eq]
theorem cnt_app {l : Lim} (h : 0 ≤ l.len) (a b : List Mov) (w : Int) : cntAll l (a ++ b) w = cntAll l a w + cntAll l b w := by
  rw [cnt_filter h, cnt_filter h, cnt_filter h, List.filter_append, List.length_append]; omega
end Go.Proofs.YtcfbdeghmckelaaGreat
