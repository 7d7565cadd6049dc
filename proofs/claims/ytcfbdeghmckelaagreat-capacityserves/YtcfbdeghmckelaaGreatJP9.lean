/- Contracts of functions that the proof uses, shared by the claims of this seat; no statement of its own. Part 47. No conditions. -/
import Derived.Test.YtcfbdeghmckelaaGreatJW25
import Derived.Test.YtcfbdeghmckelaaGreatJP3
import Derived.Test.YtcfbdeghmckelaaGreatJP8
set_option linter.all false
namespace Go.Proofs.YtcfbdeghmckelaaGreat
open Go.RowKit
set_option maxRecDepth 100000
set_option linter.unusedVariables false
set_option linter.unusedSimpArgs false
set_option maxHeartbeats 2000000
theorem days_sorted (p : Per) : (daysL p).Pairwise fun a b => a < b := by
  unfold daysL
  generalize (p.to - p.fro + 1).toNat = n
  induction n with
  | zero => simp
  | succ n ih =>
    rw [List.range_succ, List.flatMap_append, List.pairwise_append]
    refine ⟨ih, ?_, ?_⟩
    · simp only [List.flatMap_cons, List.flatMap_nil, List.append_nil]; split <;> simp
    · intro a ha b hb
      obtain ⟨k, hk, ha⟩ := List.mem_flatMap.1 ha
      have hk := List.mem_range.1 hk
      simp only [List.flatMap_cons, List.flatMap_nil, List.append_nil] at hb
      split at ha
      · split at hb
        · simp at ha hb; omega
        · cases hb
      · cases ha
theorem movs_mem {r : Req} {o : Mov} (h : o ∈ movsL r) : ∃ d, d ∈ daysL r.per ∧ o = movOf r d := by
  obtain ⟨d, hd, rfl⟩ := List.mem_map.1 h; exact ⟨d, hd, rfl⟩
theorem chkReq_parts {r : Req} (h : chkReq r = 0) {d : Int} (hd : d ∈ daysL r.per) : chkMov (movOf r d) = 0 := by
  have hp := chkPer_0 (chkReq_0 h).1
  have hm := chkReq_0 h
  have hdm := daysL_mem hd
  unfold chkReq at h
  unfold chkMov
  simp only [firstE_cons, rng_0] at h ⊢
  simp only [movOf]
  refine ⟨by omega, ?_⟩
  simp only [h, true_and, and_true]
theorem movs_ok {r : Req} (h : chkReq r = 0) (h8 : r.per.to - r.per.fro < 8) : chkMovs (movsL r) = 0 ∧ (movsL r).length ≤ 8 := by
  have hl : (movsL r).length ≤ 8 := by
    have := daysL_len r.per
    simp only [movsL, List.length_map]; omega
  refine ⟨chkMovs_of (by omega) (fun x hx => ?_) ?_, hl⟩
  · obtain ⟨d, hd, rfl⟩ := movs_mem hx
    exact chkReq_parts h hd
  · unfold movsL
    refine (List.pairwise_map).2 ((days_sorted r.per).imp fun {a b} hab => ?_)
    simp only [movOf]; omega
theorem own_count {l : Lim} (h : chkLim l = 0) (r : Req) (b : Int) : cntAll l (movsL r) b ≤ 1 := by
  have hl := chkLim_0 h
  rw [cnt_filter (by omega)]
  have hs : ((movsL r).filter (inW l b)).Pairwise fun x y => x.moment + 1440 ≤ y.moment := by
    refine List.Pairwise.filter _ ?_
    unfold movsL
    refine (List.pairwise_map).2 ((days_sorted r.per).imp fun {a b} hab => ?_)
    simp only [movOf]; omega
  have hm : ∀ x ∈ (movsL r).filter (inW l b), b ≤ x.moment ∧ x.moment < b + l.len := fun x hx => by
    have := (List.mem_filter.1 hx).2
    simp only [inW, Bool.and_eq_true, decide_eq_true_eq] at this; exact this.2
  revert hs hm
  generalize (movsL r).filter (inW l b) = L
  intro hs hm
  match L, hs, hm with
  | [], _, _ => simp
  | [_], _, _ => simp
  | x :: y :: L, hs, hm =>
    have h1 := (List.pairwise_cons.1 hs).1 y (by simp)
    have h2 := hm x (by simp)
    have h3 := hm y (by simp)
    omega
theorem own_in {l : Lim} (h : chkLim l = 0) {r : Req} {b : Int} (hc : 0 < cntAll l (movsL r) b) : ∃ o ∈ movsL r, inW l b o = true := by
  have hl := chkLim_0 h
  rw [cnt_filter (by omega)] at hc
  obtain ⟨o, ho⟩ := List.exists_mem_of_length_pos (l := (movsL r).filter (inW l b)) (by omega)
  have := List.mem_filter.1 ho
  exact ⟨o, this.1, this.2⟩
theorem fits_room {ls : List Lim} {m : List Mov} {r : Req} (hf : fitsB ls m r = true) {o : Mov} (ho : o ∈ movsL r) : 1 ≤ roomL ls m o := by
  have := List.all_eq_true.1 hf o ho
  simp only [Bool.not_eq_true', decide_eq_false_iff_not] at this; omega
theorem exc_fits {ls : List Lim} {m : List Mov} {r : Req} (hl : ∀ l ∈ ls, chkLim l = 0) (hf : fitsB ls m r = true) : excW ls (mergeM befM m (movsL r)) = excW ls m := by
  unfold excW excK
  refine flat_congr fun i _ => ?_
  unfold excI
  split
  · rename_i l hi
    have hm := List.mem_of_getElem? hi
    have hlm := hl l hm
    have hll := chkLim_0 hlm
    unfold excL
    refine flat_congr fun b hb => ?_
    unfold excB
    rw [cnt_merge (by omega)]
    have h1 := own_count hlm r b
    have h0 := (cnt_range (l := l) (by omega) (movsL r) b).1
    by_cases hz : cntAll l (movsL r) b = 0
    · rw [hz, Int.add_zero]
    · obtain ⟨o, ho, hw⟩ := own_in (r := r) (b := b) hlm (by omega)
      have hr := fits_room hf ho
      have ha := ar_mem (m := m) hi hlm hb hw
      have c := (roomK_char ls (arW ls m o) 999999999).1.2 _ ha
      have e : mostAt ls (i : Int) = l.most := by simp only [mostAt, Int.toNat_natCast, hi]
      have e1 : roomL ls m o = (arW ls m o).foldl (roomStep ls) 999999999 := rfl
      rw [← e1] at c
      simp only [e] at c
      rw [if_neg (by omega), if_neg (by omega)]
  · rfl
def keepN (n : ByteArray) (x : Mov) : Bool := !decide (x.name = n)
theorem ins_drop {n : ByteArray} {x : Mov} (h : keepN n x = false) (out : List Mov) : (insM befM out x).filter (keepN n) = out.filter (keepN n) := by
  unfold insM
  rw [List.filter_append, List.filter_cons, h]
  simp only [Bool.false_eq_true, if_false]
  rw [← List.filter_append, List.take_append_drop]
theorem fold_drop {n : ByteArray} : ∀ (L out : List Mov), (∀ x ∈ L, keepN n x = false) → (L.foldl (insM befM) out).filter (keepN n) = out.filter (keepN n)
  | [], _, _ => rfl
  | x :: L, out, h => by
    rw [List.foldl_cons, fold_drop L _ fun y hy => h y (by simp [hy]), ins_drop (h x (by simp))]
theorem merge_drop {r : Req} (m : List Mov) : (mergeM befM m (movsL r)).filter (keepN r.name) = (mergeM befM m []).filter (keepN r.name) := by
  unfold mergeM
  rw [List.foldl_append, List.append_nil]
  refine fold_drop _ _ fun x hx => ?_
  obtain ⟨d, _, rfl⟩ := movs_mem hx
  simp [keepN, movOf]
theorem merge_nil_perm (m : List Mov) : (mergeM befM m []).Perm m := by have := merge_perm befM m []; rwa [List.append_nil] at this
theorem drop_len {r : Req} (m : List Mov) : ((mergeM befM m (movsL r)).filter (keepN r.name)).length = (m.filter (keepN r.name)).length := by
  rw [merge_drop, ((merge_nil_perm m).filter _).length_eq]
theorem drop_all {r : Req} {m : List Mov} (h : (m.filter (keepN r.name)).length = m.length) : (mergeM befM m (movsL r)).filter (keepN r.name) = mergeM befM m [] := by
  rw [merge_drop]
  refine List.filter_eq_self.2 fun x hx => ?_
  have hx := (merge_nil_perm m).mem_iff.1 hx
  exact List.filter_eq_self.1 (List.filter_sublist.eq_of_length h) x hx
theorem freS_at {p : Int → Bool} {a : Int} {k n : Nat} (hk : k < n) : ((freS p a n)[(freS p a k).length]? = some (a + k) ↔ p (a + k) = true) := by
  rw [freS_split p a hk, List.getElem?_append_right (Nat.le_refl _), Nat.sub_self]
  cases hp : p (a + k)
  · simp only [Bool.false_eq_true, if_false, List.nil_append, iff_false]
    intro h
    have := freS_ge (List.mem_of_getElem? h)
    omega
  · simp
end Go.Proofs.YtcfbdeghmckelaaGreat
