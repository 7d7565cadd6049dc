/- The statement CapacityExact is proved: as many movements as there is room for may be added, each time the room is one less, and adding within the room exceeds no window anew. No conditions. -/
import Derived.Test.YtcfbdeghmckelaaGreatJ4
set_option linter.all false
namespace Go.Proofs.YtcfbdeghmckelaaGreat
open Go.RowKit
set_option maxRecDepth 100000
set_option linter.unusedVariables false
set_option linter.unusedSimpArgs false
set_option maxHeartbeats 2000000
def insAt (bef : Mov → Mov → Bool) (x : Mov) (out : List Mov) : Nat → Nat
  | 0 => 0
  | n + 1 => match out[n]? with
    | some y => if bef x y then insAt bef x out n else n + 1
    | none => n + 1
def insM (bef : Mov → Mov → Bool) (out : List Mov) (x : Mov) : List Mov := out.take (insAt bef x out out.length) ++ x :: out.drop (insAt bef x out out.length)
def mergeM (bef : Mov → Mov → Bool) (a b : List Mov) : List Mov := (a ++ b).foldl (insM bef) []
theorem insAt_le (bef : Mov → Mov → Bool) (x : Mov) (out : List Mov) : ∀ n, insAt bef x out n ≤ n
  | 0 => Nat.le_refl _
  | n + 1 => by
    have := insAt_le bef x out n
    simp only [insAt]; (repeat' split) <;> omega
theorem insAt_ge (bef : Mov → Mov → Bool) (x : Mov) (out : List Mov) : ∀ n i, insAt bef x out n ≤ i → i < n → ∃ y, out[i]? = some y ∧ bef x y = true
  | 0, i, _, h => by omega
  | n + 1, i, h, hi => by
    simp only [insAt] at h
    split at h
    · rename_i y hy
      split at h
      · by_cases e : i = n
        · subst e; exact ⟨y, hy, by assumption⟩
        · exact insAt_ge bef x out n i h (by omega)
      · omega
    · omega
theorem insAt_last (bef : Mov → Mov → Bool) (x : Mov) (out : List Mov) : ∀ n k y, insAt bef x out n = k + 1 → out[k]? = some y → bef x y = false
  | 0, _, _, h, _ => by cases h
  | n + 1, k, y, h, hy => by
    simp only [insAt] at h
    split at h
    · rename_i z hz
      split at h
      · exact insAt_last bef x out n k y h hy
      · have e : n = k := by omega
        subst e
        rw [hz] at hy
        cases hy
        rename_i hb
        simpa using hb
    · rename_i hz
      have e : n = k := by omega
      subst e
      rw [hz] at hy; cases hy
theorem insM_perm (bef : Mov → Mov → Bool) (out : List Mov) (x : Mov) : (insM bef out x).Perm (x :: out) := by
  unfold insM
  refine List.perm_middle.trans ?_
  rw [List.take_append_drop]
theorem foldl_perm (bef : Mov → Mov → Bool) : ∀ (l out : List Mov), (l.foldl (insM bef) out).Perm (out ++ l)
  | [], out => by simp
  | x :: l, out => by
    refine (foldl_perm bef l (insM bef out x)).trans ?_
    refine ((insM_perm bef out x).append_right l).trans ?_
    simpa using (List.perm_middle (a := x) (l₁ := out) (l₂ := l)).symm
theorem merge_perm (bef : Mov → Mov → Bool) (a b : List Mov) : (mergeM bef a b).Perm (a ++ b) := by
  simpa [mergeM] using foldl_perm bef (a ++ b) []
abbrev sortedM (l : List Mov) : Prop := l.Pairwise fun x y => x.moment ≤ y.moment
theorem insM_sorted {bef : Mov → Mov → Bool} (h1 : ∀ a b, bef a b = true → a.moment ≤ b.moment) (h2 : ∀ a b, bef a b = false → b.moment ≤ a.moment) {out : List Mov} (h : sortedM out) (x : Mov) : sortedM (insM bef out x) := by
  unfold insM
  generalize hk : insAt bef x out out.length = k
  have hkl := insAt_le bef x out out.length
  rw [hk] at hkl
  have hge := insAt_ge bef x out out.length
  have hla := insAt_last bef x out out.length
  rw [hk] at hge hla
  have hs : sortedM (out.take k ++ out.drop k) := by rw [List.take_append_drop]; exact h
  have hs := List.pairwise_append.1 hs
  have hdrop : ∀ y ∈ out.drop k, x.moment ≤ y.moment := fun y hy => by
    obtain ⟨i, hi⟩ := List.getElem?_of_mem hy
    rw [List.getElem?_drop] at hi
    have hlt := (List.getElem?_eq_some_iff.1 hi).1
    obtain ⟨z, hz, hb⟩ := hge (k + i) (by omega) hlt
    rw [hi] at hz; cases hz
    exact h1 _ _ hb
  have htake : ∀ y ∈ out.take k, y.moment ≤ x.moment := fun y hy => by
    cases k with
    | zero => simp at hy
    | succ k =>
      obtain ⟨z, hz⟩ : ∃ z, out[k]? = some z := ⟨_, List.getElem?_eq_getElem (by omega)⟩
      have hb := h2 _ _ (hla k z rfl hz)
      obtain ⟨i, hi⟩ := List.getElem?_of_mem hy
      have hik : i < k + 1 := by
        have := (List.getElem?_eq_some_iff.1 hi).1
        simp only [List.length_take] at this; omega
      rw [List.getElem?_take, if_pos hik] at hi
      by_cases e : i = k
      · subst e; rw [hz] at hi; cases hi; exact hb
      · have hlt := (List.getElem?_eq_some_iff.1 hi).1
        have := List.pairwise_iff_getElem.1 h i k hlt (by omega) (by omega)
        rw [List.getElem?_eq_getElem hlt] at hi
        rw [List.getElem?_eq_getElem (by omega)] at hz
        have e1 := Option.some.inj hi
        have e2 := Option.some.inj hz
        rw [e1, e2] at this
        omega
  refine List.pairwise_append.2 ⟨hs.1, List.pairwise_cons.2 ⟨hdrop, hs.2.1⟩, fun a ha b hb => ?_⟩
  rcases List.mem_cons.1 hb with rfl | hb
  · exact htake a ha
  · exact hs.2.2 a ha b hb
theorem foldl_sorted {bef : Mov → Mov → Bool} (h1 : ∀ a b, bef a b = true → a.moment ≤ b.moment) (h2 : ∀ a b, bef a b = false → b.moment ≤ a.moment) : ∀ (l out : List Mov), sortedM out → sortedM (l.foldl (insM bef) out)
  | [], _, h => h
  | x :: l, _, h => foldl_sorted h1 h2 l _ (insM_sorted h1 h2 h x)
theorem merge_sorted {bef : Mov → Mov → Bool} (h1 : ∀ a b, bef a b = true → a.moment ≤ b.moment) (h2 : ∀ a b, bef a b = false → b.moment ≤ a.moment) (a b : List Mov) : sortedM (mergeM bef a b) := foldl_sorted h1 h2 _ _ List.Pairwise.nil
theorem firstE_all {l : List Int} (h : ∀ x ∈ l, x = 0) : firstE l = 0 := by
  induction l with
  | nil => rfl
  | cons x r ih => exact firstE_cons.2 ⟨h x (by simp), ih fun y hy => h y (by simp [hy])⟩
theorem chkMovs_of {m : List Mov} (hn : m.length ≤ 30000) (hc : ∀ x ∈ m, chkMov x = 0) (hs : sortedM m) : chkMovs m = 0 := by
  rw [chkMovs, if_neg (by omega)]
  refine firstE_all fun e he => ?_
  obtain ⟨i, hi⟩ := List.getElem?_of_mem he
  simp only [movErrs, List.getElem?_mapIdx, Option.map_eq_some_iff] at hi
  obtain ⟨x, hx, rfl⟩ := hi
  refine firstE_cons.2 ⟨hc x (List.mem_of_getElem? hx), firstE_cons.2 ⟨if_neg fun hh => ?_, rfl⟩⟩
  have hlt := (List.getElem?_eq_some_iff.1 hx).1
  have := List.pairwise_iff_getElem.1 hs (i - 1) i (by omega) hlt (by omega)
  rw [List.getElem?_eq_getElem (by omega), Option.getD_some] at hh
  rw [List.getElem?_eq_getElem hlt] at hx
  rw [Option.some.inj hx] at this
  omega
theorem cnt_perm {l : Lim} (h : 0 ≤ l.len) {a b : List Mov} (hp : a.Perm b) (w : Int) : cntAll l a w = cntAll l b w := by
  rw [cnt_filter h, cnt_filter h, (hp.filter _).length_eq]
theorem cnt_app {l : Lim} (h : 0 ≤ l.len) (a b : List Mov) (w : Int) : cntAll l (a ++ b) w = cntAll l a w + cntAll l b w := by
  rw [cnt_filter h, cnt_filter h, cnt_filter h, List.filter_append, List.length_append]; omega
theorem cnt_rep {l : Lim} (h : 0 ≤ l.len) (o : Mov) (k : Nat) (w : Int) : cntAll l (List.replicate k o) w = if inW l w o then (k : Int) else 0 := by
  rw [cnt_filter h]
  split
  · rename_i e; rw [List.filter_replicate_of_pos e, List.length_replicate]
  · rename_i e; rw [List.filter_replicate_of_neg e]; rfl
end Go.Proofs.YtcfbdeghmckelaaGreat
namespace Go.Proofs.YtcfbdeghmckelaaGreat
open Go.RowKit
set_option maxRecDepth 100000
set_option linter.unusedVariables false
set_option linter.unusedSimpArgs false
set_option maxHeartbeats 2000000
def Win.add (k : Int) (w : Win) : Win := ⟨w.lim, w.beg, w.cnt + k⟩
def Adds (ls : List Lim) (m m' : List Mov) (o : Mov) (k : Int) : Prop := ∀ l ∈ ls, ∀ b, cntAll l m' b = cntAll l m b + if inW l b o then k else 0
theorem arL_add {m m' : List Mov} {o : Mov} {k : Int} {l : Lim} (h : ∀ b, cntAll l m' b = cntAll l m b + if inW l b o then k else 0) (i : Nat) : arL m' o i l = (arL m o i l).map (Win.add k) := by
  unfold arL
  split
  · rename_i hc
    rw [List.map_flatMap]
    refine flat_congr fun e _ => ?_
    unfold arX arD
    rw [List.map_flatMap]
    refine flat_congr fun b _ => ?_
    unfold arB
    split
    · rename_i hb
      rw [h b, if_pos (by simp only [inW, hc, Bool.true_and, Bool.and_eq_true, decide_eq_true_eq]; exact hb)]
      rfl
    · rfl
  · rfl
theorem arW_add {ls : List Lim} {m m' : List Mov} {o : Mov} {k : Int} (h : Adds ls m m' o k) : arW ls m' o = (arW ls m o).map (Win.add k) := by
  unfold arW arK
  rw [List.map_flatMap]
  refine flat_congr fun i _ => ?_
  unfold arI
  split
  · rename_i l hl; exact arL_add (h l (List.mem_of_getElem? hl)) i
  · rfl
theorem roomK_char (ls : List Lim) : ∀ (W : List Win) (a : Int), (W.foldl (roomStep ls) a ≤ a ∧ ∀ w ∈ W, W.foldl (roomStep ls) a ≤ max 0 (mostAt ls w.lim - w.cnt)) ∧ (W.foldl (roomStep ls) a = a ∨ ∃ w ∈ W, W.foldl (roomStep ls) a = max 0 (mostAt ls w.lim - w.cnt))
  | [], a => ⟨⟨Int.le_refl _, fun w hw => by cases hw⟩, .inl rfl⟩
  | x :: r, a => by
    obtain ⟨⟨h1, h2⟩, h3⟩ := roomK_char ls r (roomStep ls a x)
    rw [List.foldl_cons]
    have e : roomStep ls a x = min a (max 0 (mostAt ls x.lim - x.cnt)) := rfl
    refine ⟨⟨by omega, fun w hw => ?_⟩, ?_⟩
    · rcases List.mem_cons.1 hw with rfl | hw
      · omega
      · exact h2 w hw
    · rcases h3 with h3 | ⟨w, hw, h3⟩
      · by_cases c : a ≤ max 0 (mostAt ls x.lim - x.cnt)
        · exact .inl (by omega)
        · exact .inr ⟨x, by simp, by omega⟩
      · exact .inr ⟨w, by simp [hw], h3⟩
theorem room_add {ls : List Lim} {m m' : List Mov} {o : Mov} {k : Int} (h : Adds ls m m' o k) (hk : 0 ≤ k) (h1 : k ≤ roomL ls m o) (h2 : roomL ls m o < 999999999) : roomL ls m' o = roomL ls m o - k := by
  have c1 := roomK_char ls (arW ls m o) 999999999
  have c2 := roomK_char ls (arW ls m' o) 999999999
  rw [arW_add h] at c2
  have e1 : roomL ls m o = (arW ls m o).foldl (roomStep ls) 999999999 := rfl
  have e2 : roomL ls m' o = ((arW ls m o).map (Win.add k)).foldl (roomStep ls) 999999999 := by rw [← arW_add h]; rfl
  rw [← e1] at c1
  rw [← e2] at c2
  obtain ⟨⟨a1, a2⟩, a3⟩ := c1
  obtain ⟨⟨b1, b2⟩, b3⟩ := c2
  obtain ⟨w, hw, a3⟩ := a3.resolve_left (by omega)
  have b2w := b2 (Win.add k w) (List.mem_map_of_mem hw)
  simp only [Win.add] at b2w
  rcases b3 with b3 | ⟨v, hv, b3⟩
  · omega
  · obtain ⟨u, hu, rfl⟩ := List.mem_map.1 hv
    have := a2 u hu
    simp only [Win.add] at b3
    omega
theorem full_zero {ls : List Lim} {m : List Mov} {o : Mov} : roomL ls m o = 0 ↔ fullL ls m o ≠ [] := by
  obtain ⟨⟨a1, a2⟩, a3⟩ := roomK_char ls (arW ls m o) 999999999
  have e1 : roomL ls m o = (arW ls m o).foldl (roomStep ls) 999999999 := rfl
  rw [← e1] at a1 a2 a3
  constructor
  · intro h hn
    obtain ⟨w, hw, a3⟩ := a3.resolve_left (by omega)
    have : w ∈ fullL ls m o := List.mem_filter.2 ⟨hw, by simp only [decide_eq_true_eq]; omega⟩
    rw [hn] at this; cases this
  · intro h
    obtain ⟨w, hw⟩ := List.exists_mem_of_ne_nil _ h
    have hw := List.mem_filter.1 hw
    have := a2 w hw.1
    simp only [decide_eq_true_eq] at hw
    rcases a3 with a3 | ⟨v, _, a3⟩ <;> omega
end Go.Proofs.YtcfbdeghmckelaaGreat
namespace Go.Proofs.YtcfbdeghmckelaaGreat
open Go.RowKit
set_option maxRecDepth 100000
set_option linter.unusedVariables false
set_option linter.unusedSimpArgs false
set_option maxHeartbeats 2000000
theorem win_at {l : Lim} (h : chkLim l = 0) {b : Int} (hb : b ∈ windowsL l) : b ∈ beginsL l (b / 1440) := by
  rw [windows_eq h, List.mem_flatMap] at hb
  obtain ⟨d, hd, hb⟩ := hb
  have hb2 : b ∈ beginsL l d := by rw [beginsL_day h, if_pos hd]; exact hb
  have := beginsL_mem h hb2
  rw [show b / 1440 = d by omega]; exact hb2
theorem win_of {l : Lim} (h : chkLim l = 0) {b d : Int} (hb : b ∈ beginsL l d) : b ∈ windowsL l := by
  rw [beginsL_day h] at hb
  split at hb
  · rename_i hd
    rw [windows_eq h, List.mem_flatMap]; exact ⟨d, hd, hb⟩
  · cases hb
theorem ar_mem {ls : List Lim} {m : List Mov} {o : Mov} {i : Nat} {l : Lim} {b : Int} (hi : ls[i]? = some l) (h : chkLim l = 0) (hb : b ∈ windowsL l) (hw : inW l b o = true) : (⟨i, b, cntAll l m b⟩ : Win) ∈ arW ls m o := by
  have hl := chkLim_0 h
  have hlt := (List.getElem?_eq_some_iff.1 hi).1
  simp only [inW, Bool.and_eq_true, decide_eq_true_eq] at hw
  have hd := win_at h hb
  unfold arW arK
  refine List.mem_flatMap.2 ⟨i, List.mem_range.2 hlt, ?_⟩
  unfold arI
  rw [hi]
  simp only
  unfold arL
  rw [if_pos hw.1]
  refine List.mem_flatMap.2 ⟨(b / 1440 - o.moment / 1440 + 1).toNat, List.mem_range.2 (by omega), ?_⟩
  unfold arX arD
  refine List.mem_flatMap.2 ⟨b, ?_, ?_⟩
  · rw [show o.moment / 1440 - 1 + ((b / 1440 - o.moment / 1440 + 1).toNat : Int) = b / 1440 by omega]; exact hd
  · unfold arB; rw [if_pos hw.2]; simp
theorem exc_same {ls : List Lim} {m m' : List Mov} {o : Mov} {k : Int} (hl : ∀ l ∈ ls, chkLim l = 0) (h : Adds ls m m' o k) (hk : 0 ≤ k) (h1 : k ≤ roomL ls m o) : (excW ls m').map (fun w => (w.lim, w.beg)) = (excW ls m).map (fun w => (w.lim, w.beg)) := by
  unfold excW excK
  rw [List.map_flatMap, List.map_flatMap]
  refine flat_congr fun i _ => ?_
  unfold excI
  split
  · rename_i l hi
    have hm := List.mem_of_getElem? hi
    unfold excL
    rw [List.map_flatMap, List.map_flatMap]
    refine flat_congr fun b hb => ?_
    unfold excB
    rw [h l hm b]
    by_cases hw : inW l b o = true
    · have ha := ar_mem (m := m) hi (hl l hm) hb hw
      have c := (roomK_char ls (arW ls m o) 999999999).1.2 _ ha
      have e : mostAt ls (i : Int) = l.most := by simp only [mostAt, Int.toNat_natCast, hi]
      have e1 : roomL ls m o = (arW ls m o).foldl (roomStep ls) 999999999 := rfl
      rw [← e1] at c
      simp only [e] at c
      rw [if_pos hw]
      by_cases hx : l.most < cntAll l m b
      · rw [if_pos (by omega), if_pos hx]; rfl
      · rw [if_neg (by omega), if_neg hx]
    · rw [if_neg hw, Int.add_zero]
  · rfl
theorem exc_over {ls : List Lim} {m m' : List Mov} {o : Mov} (hl : ∀ l ∈ ls, chkLim l = 0) (h : Adds ls m m' o 1) {w : Win} (hw : w ∈ fullL ls m o) : w.add 1 ∈ excW ls m' := by
  have hw := List.mem_filter.1 hw
  obtain ⟨i, l, h1, h2, h3, h4, h5, h6, e, he, hb⟩ := arW_at hw.1
  have hm := List.mem_of_getElem? h2
  have hlt := (List.getElem?_eq_some_iff.1 h2).1
  have hf := hw.2
  simp only [decide_eq_true_eq, h1, mostAt, Int.toNat_natCast, h2] at hf
  unfold excW excK
  refine List.mem_flatMap.2 ⟨i, List.mem_range.2 hlt, ?_⟩
  unfold excI
  rw [h2]
  simp only
  unfold excL
  refine List.mem_flatMap.2 ⟨w.beg, win_of (hl l hm) hb, ?_⟩
  have hin : inW l w.beg o = true := by simp only [inW, h4, Bool.true_and, Bool.and_eq_true, decide_eq_true_eq]; exact ⟨h5, h6⟩
  unfold excB
  rw [h l hm, if_pos hin, if_pos (by omega), List.mem_singleton, Win.add, h1, h3]
end Go.Proofs.YtcfbdeghmckelaaGreat
namespace Go.Proofs.YtcfbdeghmckelaaGreat
open Go.RowKit
theorem RelC.pub {X : Fx} {C : Ctx} {tr : List (List PV)} {stop : Bool} {a : Act} {w : World} {s : St} (hM : X.MOk) (h : RelC X C s.get s.look tr stop a w) (t : Nat) {pre : Prop} {v v' : PV} {ks : List Nat} (ht : toPV s.look 4 (s.get t) = some (pre, v, ks)) (hp : pre) (hw : Weak v v') :
    ∃ C', RelC X C' ((s.wrs (frzs s.look ks)).set (some t) (.p v')).get ((s.wrs (frzs s.look ks)).set (some t) (.p v')).look tr stop a w := by
  obtain ⟨C', h1, h2, h3⟩ := freezes hM s.look C ks s C h rfl rfl (fun _ h => h) (fun k => .inl rfl) (toPV_keys 4 ht)
  have hr := toPV_rep h (B' := C'.B) h2 4 (h.env t) ht hp h3
  refine ⟨C', ?_⟩
  rw [get_set, look_set]
  refine { h1 with env := fun j => ?_, envs := fun j => ?_ }
  · by_cases e : j = t
    · subst e; simp only [upd_same]; exact .p (hw.rep hr)
    · simp only [upd_ne _ _ e]; exact h1.env j
  · by_cases e : j = t
    · subst e; simp only [upd_same]; exact .p _
    · simp only [upd_ne _ _ e]; exact h1.envs j
theorem run_pub {G : Cfg} {c : AC} {s : St} {Q : APost} (t : Nat) (v' : PV) {pre : Prop} {v : PV} {ks : List Nat} (ht : toPV s.look 4 (s.get t) = some (pre, v, ks)) (hp : pre) (hw : Weak v v')
    (h : Run G c ((s.wrs (frzs s.look ks)).set (some t) (.p v')) Q) : Run G c s Q := by
  intro hG code hc C a w hr
  obtain ⟨C', h'⟩ := hr.pub hG.mok t ht hp hw
  refine h hG code hc C' a w ?_
  rw [(tr_set _ _ _).1, (tr_set _ _ _).2, (tr_wrs _ _).1, (tr_wrs _ _).2]
  exact h'
inductive Pubs : St → St → Prop
  | cov {s s' : St} (h : Cov s s') : Pubs s s'
  | pub {s s' : St} (t : Nat) (v' : PV) {pre : Prop} {v : PV} {ks : List Nat} (ht : toPV s.look 4 (s.get t) = some (pre, v, ks)) (hp : pre) (hw : Weak v v') (h : Pubs ((s.wrs (frzs s.look ks)).set (some t) (.p v')) s') : Pubs s s'
theorem Pubs.rel {X : Fx} {a : Act} {w : World} {s s' : St} (hM : X.MOk) (h : Pubs s s') : ∀ {C : Ctx}, RelC X C s.get s.look s.tr s.stop a w → ∃ C', RelC X C' s'.get s'.look s'.tr s'.stop a w := by
  induction h with
  | cov h => exact fun hr => ⟨_, cov_rel h hr⟩
  | pub t v' ht hp hw _ ih =>
    intro C hr
    obtain ⟨C', h'⟩ := hr.pub hM t ht hp hw
    refine ih (C := C') ?_
    rw [(tr_set _ _ _).1, (tr_set _ _ _).2, (tr_wrs _ _).1, (tr_wrs _ _).2]
    exact h'
theorem Pubs.x {s s' : St} (t : Nat) (v' : PV) {pre : Prop} {v : PV} {ks : List Nat} (h : Pubs ((s.wrs (frzs s.look ks)).set (some t) (.p v')) s')
    (ht : toPV s.look 4 (s.get t) = some (pre, v, ks) := by simp (disch := omega) only [qS, qe, Nat.reduceAdd, Nat.reduceMul, Nat.reduceEqDiff, Nat.reduceLeDiff, reduceIte, reduceCtorEq, Nat.reduceBEq, Nat.reduceLT] <;> rfl)
    (hp : pre := by first | trivial | omega | (simp; done) | (simp (disch := omega) only [qS, qe, Nat.reduceAdd, Nat.reduceMul, Nat.reduceEqDiff, Nat.reduceLeDiff, reduceIte, reduceCtorEq, Nat.reduceBEq, Nat.reduceLT] <;> omega)) (hw : Weak v v' := by first | exact .refl _ | exact .nilsl _) : Pubs s s' := .pub t v' ht hp hw h
theorem run_pubX {G : Cfg} {c : AC} {s : St} {Q : APost} (t : Nat) (v' : PV) {pre : Prop} {v : PV} {ks : List Nat} (h : Run G c ((s.wrs (frzs s.look ks)).set (some t) (.p v')) Q)
    (ht : toPV s.look 4 (s.get t) = some (pre, v, ks) := by simp (disch := omega) only [qS, qe, Nat.reduceAdd, Nat.reduceMul, Nat.reduceEqDiff, Nat.reduceLeDiff, reduceIte, reduceCtorEq, Nat.reduceBEq, Nat.reduceLT] <;> rfl)
    (hp : pre := by first | trivial | omega | (simp; done) | (simp (disch := omega) only [qS, qe, Nat.reduceAdd, Nat.reduceMul, Nat.reduceEqDiff, Nat.reduceLeDiff, reduceIte, reduceCtorEq, Nat.reduceBEq, Nat.reduceLT] <;> omega)) (hw : Weak v v' := by first | exact .refl _ | exact .nilsl _) : Run G c s Q := run_pub t v' ht hp hw h
def LoopEnd {κ : Type} (inv : κ → St) (ok : κ → Prop) (μ : κ → Nat) (k : κ) (s : St) : Prop := ∃ k', ok k' ∧ μ k' < μ k ∧ Pubs s (inv k')
def loopP {κ : Type} (inv : κ → St) (ok : κ → Prop) (μ : κ → Nat) (k : κ) (Q : APost) : APost
  | .normal, s => LoopEnd inv ok μ k s
  | e, s => Q e s
section
variable {κ : Type} (inv : κ → St) (ok : κ → Prop) (μ : κ → Nat) (k : κ) (Q : APost) (s : St)
theorem lpN : loopP inv ok μ k Q .normal s = LoopEnd inv ok μ k s := rfl
theorem lpE (i : Nat) : loopP inv ok μ k Q (.exit i) s = Q (.exit i) s := rfl
theorem lpR : loopP inv ok μ k Q .ret s = Q .ret s := rfl
end
theorem run_loopP {κ : Type} {G : Cfg} {Q : APost} {s : St} {c : AC} (inv : κ → St) (ok : κ → Prop) (μ : κ → Nat) (k0 : κ) (h0 : Pubs s (inv k0)) (hk0 : ok k0) (hbody : ∀ k, ok k → Run G c (inv k) (loopP inv ok μ k Q)) : Run G (.loop c) s Q := by
  intro hG code hc C a w hr
  obtain ⟨C1, hr⟩ := h0.rel hG.mok hr
  cases code <;> simp only [compile, Option.map_eq_some_iff] at hc
  case loop c1 =>
    obtain ⟨x', h1, hc⟩ := hc
    injection hc with e1; subst e1
    obtain ⟨m, hm⟩ := least_of fun a w n => ∃ k C, ok k ∧ μ k = n ∧ RelC G.X C (inv k).get (inv k).look (inv k).tr (inv k).stop a w
    refine wpIn_loop (fun a w => ∃ n k C, ok k ∧ μ k = n ∧ RelC G.X C (inv k).get (inv k).look (inv k).tr (inv k).stop a w) m ⟨_, k0, C1, hk0, rfl, hr⟩ ?_
    intro a w hI
    obtain ⟨⟨k, C, hok, hμ, hr⟩, hmin⟩ := hm a w hI
    refine wpIn_mono (hbody k hok hG c1 h1 C a w hr) ?_
    rintro e a' w' ⟨s', C', hr', hq⟩
    cases e with
    | normal =>
      obtain ⟨k', hok', hlt, hcov⟩ := hq
      obtain ⟨C2, hr2⟩ := hcov.rel hG.mok hr'
      have hex : ∃ n, (fun a w n => ∃ k C, ok k ∧ μ k = n ∧ RelC G.X C (inv k).get (inv k).look (inv k).tr (inv k).stop a w) a' w' n := ⟨_, k', C2, hok', rfl, hr2⟩
      refine ⟨hex, ?_⟩
      have := (hm a' w' hex).2 (μ k') ⟨k', C2, hok', rfl, hr2⟩
      omega
    | exit id => exact ⟨s', C', hr', hq⟩
    | ret => exact ⟨s', C', hr', hq⟩
    | goto l => exact hq.elim
    | panic c => exact hq.elim
    | outgrown => exact hq.elim
  all_goals first | (cases hc; done) | (obtain ⟨_, _, hc⟩ := hc; cases hc; done) | (split at hc <;> cases hc; done)
end Go.Proofs.YtcfbdeghmckelaaGreat
namespace Go.Proofs.YtcfbdeghmckelaaGreat
open Go.RowKit
set_option maxRecDepth 100000
set_option linter.unusedVariables false
set_option linter.unusedSimpArgs false
set_option maxHeartbeats 4000000
def befM (a b : Mov) : Bool := if a.moment = b.moment then (if a.kind = b.kind then Op.bytesLess a.name.toList b.name.toList else Op.bytesLess a.kind.toList b.kind.toList) else decide (a.moment < b.moment)
def mgK (l : List Mov) (k : Nat) : List Mov := (l.take k).foldl (insM befM) []
theorem mgK_len {l : List Mov} {k : Nat} (h : k ≤ l.length) : (mgK l k).length = k := by
  have := (foldl_perm befM (l.take k) []).length_eq
  rw [mgK, this]; simp; omega
theorem mgK_next {l : List Mov} {k : Nat} {x : Mov} (h : l[k]? = some x) : mgK l (k + 1) = insM befM (mgK l k) x := by
  rw [mgK, List.take_add_one, h, List.foldl_append]; rfl
theorem allMv (l : List Mov) : l.all ((fun x => x.cells.all PV.one) ∘ Mov.pv) = true := by rw [List.all_eq_true]; intro x _; rfl
theorem allTk {l : List PV} {n : Nat} (h : l.all (fun x => x.cells.all PV.one) = true) : (l.take n).all (fun x => x.cells.all PV.one) = true := by rw [List.all_eq_true] at h ⊢; exact fun x hx => h x (List.mem_of_mem_take hx)
theorem allDr {l : List PV} {n : Nat} (h : l.all (fun x => x.cells.all PV.one) = true) : (l.drop n).all (fun x => x.cells.all PV.one) = true := by rw [List.all_eq_true] at h ⊢; exact fun x hx => h x (List.mem_of_mem_drop hx)
abbrev Mov.cells (m : Mov) : List PV := [.i .i64 m.moment, .s m.kind, .s m.term, .i .i64 m.seats, .i .i64 m.size, .i .i64 m.noise, .s m.name]
theorem weakE {a b : PV} (h : a = b) : Weak a b := h ▸ .refl _
def ac121 : AC := .seq (.ops false [⟨some 2,.box,[.t 0],none,[]⟩,⟨some 3,.box,[.t 1],none,[]⟩,⟨some 4,.mv,[.c (.b false)],none,[]⟩]) (.seq (.seq (.ops false [⟨some 5,.fadr 0,[.t 2],none,[]⟩,⟨some 6,.load 1 false,[.t 5],none,[0]⟩,⟨some 7,.fadr 0,[.t 3],none,[]⟩,⟨some 8,.load 1 false,[.t 7],none,[2]⟩,⟨some 9,.bin .neq,[.t 6,.t 8],none,[1,3]⟩]) (.cond (.t 9) (.seq (.ops false [⟨some 10,.fadr 0,[.t 2],none,[]⟩,⟨some 11,.load 1 false,[.t 10],none,[0]⟩,⟨some 12,.fadr 0,[.t 3],none,[]⟩,⟨some 13,.load 1 false,[.t 12],none,[2]⟩,⟨some 14,.bin .lss,[.t 11,.t 13],none,[1,3]⟩,⟨some 4,.mv,[.t 14],none,[4,0,1,2,3,4]⟩]) .ret) .skip)) (.seq (.seq (.ops false [⟨some 15,.fadr 1,[.t 2],none,[]⟩,⟨some 16,.load 1 false,[.t 15],none,[0]⟩,⟨some 17,.fadr 1,[.t 3],none,[]⟩,⟨some 18,.load 1 false,[.t 17],none,[2]⟩,⟨some 19,.bin .neq,[.t 16,.t 18],none,[1,3]⟩]) (.cond (.t 19) (.seq (.ops false [⟨some 20,.fadr 1,[.t 2],none,[]⟩,⟨some 21,.load 1 false,[.t 20],none,[0]⟩,⟨some 22,.fadr 1,[.t 3],none,[]⟩,⟨some 23,.load 1 false,[.t 22],none,[2]⟩,⟨some 24,.bin .lss,[.t 21,.t 23],none,[1,3]⟩,⟨some 4,.mv,[.t 24],none,[4,0,1,2,3,4]⟩]) .ret) .skip)) (.seq (.ops false [⟨some 25,.fadr 6,[.t 2],none,[]⟩,⟨some 26,.load 1 false,[.t 25],none,[0]⟩,⟨some 27,.fadr 6,[.t 3],none,[]⟩,⟨some 28,.load 1 false,[.t 27],none,[2]⟩,⟨some 29,.bin .lss,[.t 26,.t 28],none,[1,3]⟩,⟨some 4,.mv,[.t 29],none,[4,0,1,2,3,4]⟩]) .ret)))
def rs121 : List RV := [.tmp 4]
theorem fact121 : compF Tryz.prog 121 = some (ac121,rs121,30) := by kernel_rfl
def ac69 : AC := .seq (.ops false [⟨some 4,.mv,[.c .nilsl],none,[]⟩]) (.seq (.ops false [⟨some 9,.bslice 74 7 (.agg [(.i .i64 0),(.s (bs [])),(.s (bs [])),(.i .i64 0),(.i .i64 0),(.i .i64 0),(.s (bs []))]) 0 [],[],none,[]⟩,⟨some 10,.mv,[.t 0],none,[]⟩,⟨some 11,.app 74 7 80,[.t 9,.t 10],none,[0,1]⟩,⟨some 12,.mv,[.t 1],none,[]⟩,⟨some 13,.app 74 7 80,[.t 11,.t 12],none,[2,3,2]⟩,⟨some 5,.mv,[.t 13],none,[4,4,0,1,2,3,4]⟩]) (.seq (.ops false [⟨some 6,.mv,[.c .nilsl],none,[]⟩]) (.seq (.seq (.ops false [⟨some 7,.mv,[.c (.i .i64 0)],none,[]⟩]) (.block 0 (.loop (.seq (.seq (.ops false [⟨some 14,.mv,[.t 7],none,[]⟩,⟨some 15,.mv,[.t 5],none,[]⟩,⟨some 16,.len false,[.t 15],none,[1]⟩,⟨some 17,.bin .lss,[.t 14,.t 16],none,[0,2]⟩]) (.cond (.t 17) .skip (.exit 0))) (.seq (.block 1 (.seq (.ops false [⟨some 20,.mv,[.t 6],none,[]⟩,⟨some 21,.len false,[.t 20],none,[0]⟩,⟨some 8,.mv,[.t 21],none,[1,0,1]⟩]) (.seq (.block 2 (.loop (.seq (.seq (.ops true [⟨some 22,.mv,[.t 8],none,[]⟩,⟨some 23,.bin .gtr,[.t 22,.c (.i .i64 0)],none,[0]⟩,⟨some 24,.mv,[.t 23],none,[1]⟩,⟨some 25,.mv,[.t 5],some (24,true),[2]⟩,⟨some 26,.mv,[.t 7],some (24,true),[2]⟩,⟨some 27,.iadrS 7,[.t 25,.t 26],some (24,true),[3,4,2]⟩,⟨some 28,.load 7 true,[.t 27],some (24,true),[5,2]⟩,⟨some 29,.mv,[.t 6],some (24,true),[2]⟩,⟨some 30,.mv,[.t 8],some (24,true),[2]⟩,⟨some 31,.bin .sub,[.t 30,.c (.i .i64 1)],some (24,true),[8,2]⟩,⟨some 32,.iadrS 7,[.t 29,.t 31],some (24,true),[7,9,2]⟩,⟨some 33,.load 7 true,[.t 32],some (24,true),[10,2]⟩,⟨some 34,.call 121,[.t 28,.t 33],some (24,true),[6,11,2,2]⟩,⟨some 35,.pick,[.t 24,.t 34,.c (.b false)],none,[2,12]⟩]) (.cond (.t 35) .skip (.exit 2))) (.block 3 (.ops false [⟨some 36,.mv,[.t 8],none,[]⟩,⟨some 37,.bin .sub,[.t 36,.c (.i .i64 1)],none,[0]⟩,⟨some 8,.mv,[.t 37],none,[1,0,1]⟩]))))) (.ops true [⟨some 38,.bslice 74 7 (.agg [(.i .i64 0),(.s (bs [])),(.s (bs [])),(.i .i64 0),(.i .i64 0),(.i .i64 0),(.s (bs []))]) 0 [],[],none,[]⟩,⟨some 39,.mv,[.t 6],none,[]⟩,⟨some 40,.mv,[.t 8],none,[]⟩,⟨some 41,.sliceL 7 false true,[.t 39,.t 40],none,[1,2]⟩,⟨some 42,.app 74 7 80,[.t 38,.t 41],none,[0,3]⟩,⟨some 43,.mv,[.t 5],none,[]⟩,⟨some 44,.mv,[.t 7],none,[]⟩,⟨some 45,.iadrS 7,[.t 43,.t 44],none,[5,6]⟩,⟨some 46,.load 7 true,[.t 45],none,[7]⟩,⟨some 47,.bslice 74 7 (.agg [(.i .i64 0),(.s (bs [])),(.s (bs [])),(.i .i64 0),(.i .i64 0),(.i .i64 0),(.s (bs []))]) 1 [0],[.t 46],none,[8]⟩,⟨some 48,.app 74 7 80,[.t 42,.t 47],none,[4,9,4]⟩,⟨some 49,.mv,[.t 6],none,[]⟩,⟨some 50,.mv,[.t 8],none,[]⟩,⟨some 51,.sliceL 7 true false,[.t 49,.t 50],none,[11,12]⟩,⟨some 52,.app 74 7 80,[.t 48,.t 51],none,[10,13,10]⟩,⟨some 6,.mv,[.t 52],none,[14,14,0,1,2,3,4,5,6,7,8,9,10,11,12,13,14]⟩])))) (.ops false [⟨some 18,.mv,[.t 7],none,[]⟩,⟨some 19,.bin .add,[.t 18,.c (.i .i64 1)],none,[0]⟩,⟨some 7,.mv,[.t 19],none,[1,0,1]⟩])))))) (.seq (.ops false [⟨some 53,.mv,[.t 6],none,[]⟩,⟨some 4,.mv,[.t 53],none,[0,0]⟩]) .ret))))
def rs69 : List RV := [.tmp 4]
theorem fact69 : compF Tryz.prog 69 = some (ac69,rs69,54) := by kernel_rfl
def ac61 : AC := .seq (.ops false [⟨some 4,.box,[.t 1],none,[]⟩,⟨some 6,.mv,[.c .nilsl],none,[]⟩]) (.seq (.ops false [⟨some 7,.mv,[.c .nilsl],none,[]⟩]) (.seq (.seq (.ops false [⟨some 8,.mv,[.t 2],none,[]⟩,⟨some 9,.mv,[.c (.i .i64 0)],none,[]⟩]) (.block 0 (.loop (.seq (.ops false [⟨some 10,.bin .lss,[.t 9,.t 8],none,[]⟩]) (.seq (.cond (.t 10) .skip (.exit 0)) (.seq (.block 1 (.ops false [⟨some 11,.mv,[.t 7],none,[]⟩,⟨some 12,.load 7 true,[.t 4],none,[]⟩,⟨some 13,.bslice 74 7 (.agg [(.i .i64 0),(.s (bs [])),(.s (bs [])),(.i .i64 0),(.i .i64 0),(.i .i64 0),(.s (bs []))]) 1 [0],[.t 12],none,[1]⟩,⟨some 14,.app 74 7 80,[.t 11,.t 13],none,[0,2]⟩,⟨some 7,.mv,[.t 14],none,[3,3,0,1,2,3]⟩])) (.ops false [⟨some 15,.bin .add,[.t 9,.c (.i .i64 1)],none,[]⟩,⟨some 9,.mv,[.t 15],none,[0]⟩]))))))) (.seq (.ops false [⟨some 16,.mv,[.t 0],none,[]⟩,⟨some 17,.mv,[.t 7],none,[]⟩,⟨some 18,.call 69,[.t 16,.t 17],none,[0,1]⟩,⟨some 6,.mv,[.t 18],none,[2,2,0,1,2]⟩]) .ret)))
def rs61 : List RV := [.tmp 6]
theorem fact61 : compF Tryz.prog 61 = some (ac61,rs61,19) := by kernel_rfl
theorem pure121 (a b : Mov) : Pure Tryz.prog 121 [a.pv, b.pv] (.b (befM a b)) := by
  refine pure_by fact121 (by simp) fun hw X hX => ?_
  unfold ac121 rs121
  by_cases h1 : a.moment = b.moment
  · by_cases h2 : a.kind = b.kind
    · have h1' := eq_true h1
      have h2' := eq_true h2
      have qe := And.intro @h1' @h2'; repeat' first | (show Run _ (.cond _ _ _) _ _; refine run_condX (fun hc => ?_) (fun hc => ?_) <;> (try simp only [qH, rng_0] at hc) <;> try contradiction) | (first | refine Stp.h ?_ | (show ∀ K : St → List Ft → Prop, _; intro K hK) | (show runS _ _ _ _ _; first | refine qY (hq := ?_) | refine qZ (hq := ?_)) | (refine hK _ _ ?_; clear hK K) | (refine hK _ _ rfl ?_; clear hK K) | (refine qZ (hq := ?_); try exact trivial) | omega)
      rw [befM, if_pos h1, if_pos h2]; exact .refl _
    · have h1' := eq_true h1
      have h2' := eq_false h2
      have qe := And.intro @h1' @h2'; repeat' first | (show Run _ (.cond _ _ _) _ _; refine run_condX (fun hc => ?_) (fun hc => ?_) <;> (try simp only [qH, rng_0] at hc) <;> try contradiction) | (first | refine Stp.h ?_ | (show ∀ K : St → List Ft → Prop, _; intro K hK) | (show runS _ _ _ _ _; first | refine qY (hq := ?_) | refine qZ (hq := ?_)) | (refine hK _ _ ?_; clear hK K) | (refine hK _ _ rfl ?_; clear hK K) | (refine qZ (hq := ?_); try exact trivial) | omega)
      rw [befM, if_pos h1, if_neg h2]; exact .refl _
  · have h1' := eq_false h1
    have qe := @h1'; repeat' first | (show Run _ (.cond _ _ _) _ _; refine run_condX (fun hc => ?_) (fun hc => ?_) <;> (try simp only [qH, rng_0] at hc) <;> try contradiction) | (first | refine Stp.h ?_ | (show ∀ K : St → List Ft → Prop, _; intro K hK) | (show runS _ _ _ _ _; first | refine qY (hq := ?_) | refine qZ (hq := ?_)) | (refine hK _ _ ?_; clear hK K) | (refine hK _ _ rfl ?_; clear hK K) | (refine qZ (hq := ?_); try exact trivial) | omega)
    rw [befM, if_neg h1]; exact .refl _
theorem ins_stop {x : Mov} {out : List Mov} {q : Nat} {y : Mov} (hy : out[q]? = some y) (hb : befM x y = false) : insAt befM x out (q + 1) = q + 1 := by
  simp only [insAt, hy]; rw [if_neg (by simp [hb])]
theorem ins_go {x : Mov} {out : List Mov} {q : Nat} {y : Mov} (hy : out[q]? = some y) (hb : befM x y = true) : insAt befM x out (q + 1) = insAt befM x out q := by
  simp only [insAt, hy]; rw [if_pos hb]
theorem ins_pv {l : List Mov} {k q : Nat} {x : Mov} (hx : l[k]? = some x) (h : q = insAt befM x (mgK l k) k) : ((mgK l k).map Mov.pv).take q ++ x.pv :: ((mgK l k).map Mov.pv).drop q = (mgK l (k + 1)).map Mov.pv := by
  have hk : k ≤ l.length := Nat.le_of_lt (List.getElem?_eq_some_iff.1 hx).1
  rw [mgK_next hx, insM, mgK_len hk, ← h]; simp
theorem mgT {l : List Mov} {k q : Nat} (hk : k ≤ l.length) (hq : q ≤ k) : (((mgK l k).map Mov.pv).take q).length = q ∧ (((mgK l k).map Mov.pv).drop q).length = k - q ∧ ((((mgK l k).map Mov.pv).take q).all (fun x => x.cells.all PV.one) = true) = True ∧ ((((mgK l k).map Mov.pv).drop q).all (fun x => x.cells.all PV.one) = true) = True := by
  have h := mgK_len hk
  have ha : ((mgK l k).map Mov.pv).all (fun x => x.cells.all PV.one) = true := by rw [List.all_map]; exact allMv _
  exact ⟨by simp; omega, by simp; omega, eq_true (allTk ha), eq_true (allDr ha)⟩
theorem pure69 (a b : List Mov) (hn : a.length + b.length ≤ 1000000) : Pure Tryz.prog 69 [.sl 7 (a.map Mov.pv), .sl 7 (b.map Mov.pv)] (.sl 7 ((mergeM befM a b).map Mov.pv)) := by
  refine pure_by fact69 (by simp) fun hw X hX => ?_
  unfold ac69 rs69
  have hl : (a ++ b).length = a.length + b.length := List.length_append
  have hA := fun l => eq_true (allMv l)
  have qe := And.intro qR @hA; repeat' first | (show Run _ (.cond _ _ _) _ _; refine run_condX (fun hc => ?_) (fun hc => ?_) <;> (try simp only [qH, rng_0] at hc) <;> try contradiction) | (first | refine Stp.h ?_ | (show ∀ K : St → List Ft → Prop, _; intro K hK) | (show runS _ _ _ _ _; first | refine qY (hq := ?_) | refine qZ (hq := ?_)) | (refine hK _ _ ?_; clear hK K) | (refine hK _ _ rfl ?_; clear hK K) | (refine qZ (hq := ?_); try exact trivial) | omega)
  refine run_loopP (κ := Nat) (fun k => ⟨[(5, .p (.sl 7 ((a ++ b).map Mov.pv))), (6, .p (.sl 7 ((mgK (a ++ b) k).map Mov.pv))), (7, .p (.i .i64 k))], [], [], false⟩) (fun k => k ≤ (a ++ b).length) (fun k => (a ++ b).length - k) 0 ?_ ?_ ?_
  · refine .x 5 (.sl 7 ((a ++ b).map Mov.pv)) ?_ (hw := weakE (by simp))
    refine .x 6 (.sl 7 []) ?_
    exact .cov (by simp only [qS, Nat.reduceAdd, Nat.reduceMul, Nat.reduceEqDiff, Nat.reduceLeDiff, reduceIte, reduceCtorEq, Nat.reduceBEq, Nat.reduceLT] <;> simp [mgK])
  · simp
  · intro k hk
    have hkl := mgK_len hk
    by_cases hlt : k < (a ++ b).length
    · obtain ⟨x, hx⟩ := some_at (i := k) (l := a ++ b) (by omega)
      have qe := And.intro qR (And.intro @hA (And.intro @hx (And.intro @hkl @hl))); repeat' first | (show Run _ (.cond _ _ _) _ _; refine run_condX (fun hc => ?_) (fun hc => ?_) <;> (try simp only [qH, rng_0] at hc) <;> try contradiction) | (first | refine Stp.h ?_ | (show ∀ K : St → List Ft → Prop, _; intro K hK) | (show runS _ _ _ _ _; first | refine qY (hq := ?_) | refine qZ (hq := ?_)) | (refine hK _ _ ?_; clear hK K) | (refine hK _ _ rfl ?_; clear hK K) | (refine qZ (hq := ?_); try exact trivial) | omega)
      refine run_loop (κ := Nat) (fun q => ⟨[(5, .p (.sl 7 ((a ++ b).map Mov.pv))), (6, .p (.sl 7 ((mgK (a ++ b) k).map Mov.pv))), (7, .p (.i .i64 k)), (8, .p (.i .i64 q))], [], [], false⟩) (fun q => q ≤ k ∧ insAt befM x (mgK (a ++ b) k) q = insAt befM x (mgK (a ++ b) k) k) (fun q => q) k ?_ ?_ ?_
      · simp only [qS, Nat.reduceAdd, Nat.reduceMul, Nat.reduceEqDiff, Nat.reduceLeDiff, reduceIte, reduceCtorEq, Nat.reduceBEq, Nat.reduceLT] <;> simp
      · simp
      · intro q hq
        cases q with
        | zero =>
          obtain ⟨hT1, hT2, hT3, hT4⟩ := mgT (l := a ++ b) (k := k) (q := 0) (by omega) (by omega)
          have i0 : (0 < ((0 : Nat) : Int)) = False := eq_false (by omega)
          have qe := And.intro qR (And.intro @hA (And.intro @hx (And.intro @i0 (And.intro @hT1 (And.intro @hT2 (And.intro @hT3 (And.intro @hT4 (And.intro @hkl (And.intro @hl (And.intro @lpN (And.intro @lpE @lpR))))))))))); repeat' first | (show Run _ (.cond _ _ _) _ _; refine run_condX (fun hc => ?_) (fun hc => ?_) <;> (try simp only [qH, rng_0] at hc) <;> try contradiction) | (show RunOps _ _ _ _ (⟨_, .call _, _, _, _⟩ :: _) _ _; refine run_callGX (hf := fun hc => (by first | exact (absurd hc (by decide) : Pure Tryz.prog 121 _ (.b false)) | (simp only [qH, rng_0] at hc; exact (absurd hc (by decide) : Pure Tryz.prog 121 _ (.b false))))) (hn := ?_)) | (first | refine Stp.h ?_ | (show ∀ K : St → List Ft → Prop, _; intro K hK) | (show runS _ _ _ _ _; first | refine qY (hq := ?_) | refine qZ (hq := ?_)) | (refine hK _ _ ?_; clear hK K) | (refine hK _ _ rfl ?_; clear hK K) | (refine qZ (hq := ?_); try exact trivial) | omega)
          refine ⟨k + 1, by omega, by dsimp only; omega, .x 6 (.sl 7 ((mgK (a ++ b) (k + 1)).map Mov.pv)) ?_ (hw := weakE (by rw [← ins_pv hx (show 0 = _ from hq.2)]; simp))⟩
          exact .cov (by simp only [qS, Nat.reduceAdd, Nat.reduceMul, Nat.reduceEqDiff, Nat.reduceLeDiff, reduceIte, reduceCtorEq, Nat.reduceBEq, Nat.reduceLT] <;> simp)
        | succ q =>
          obtain ⟨y, hy⟩ := some_at (i := q) (l := mgK (a ++ b) k) (by omega)
          have i0 : (0 < ((q + 1 : Nat) : Int)) = True := eq_true (by omega)
          have i1 : ((q + 1 : Nat) : Int) - 1 = (q : Int) := by omega
          obtain ⟨hT1, hT2, hT3, hT4⟩ := mgT (l := a ++ b) (k := k) (q := q + 1) (by omega) (by omega)
          cases hb : befM x y with
          | true =>
            have h0 := ins_go hy hb
            have qe := And.intro qR (And.intro @hA (And.intro @hx (And.intro @hy (And.intro @hb (And.intro @i0 (And.intro @i1 (And.intro @hT1 (And.intro @hT2 (And.intro @hT3 (And.intro @hT4 (And.intro @hkl (And.intro @hl (And.intro @lpN (And.intro @lpE @lpR)))))))))))))); repeat' first | (show Run _ (.cond _ _ _) _ _; refine run_condX (fun hc => ?_) (fun hc => ?_) <;> (try simp only [qH, rng_0] at hc) <;> try contradiction) | (show RunOps _ _ _ _ (⟨_, .call 121, _, _, _⟩ :: _) _ _; refine run_callGX (hf := fun hc => (by first | exact pure121 x y | (simp only [qH, rng_0] at hc; exact pure121 x y))) (hn := ?_)) | (first | refine Stp.h ?_ | (show ∀ K : St → List Ft → Prop, _; intro K hK) | (show runS _ _ _ _ _; first | refine qY (hq := ?_) | refine qZ (hq := ?_)) | (refine hK _ _ ?_; clear hK K) | (refine hK _ _ rfl ?_; clear hK K) | (refine qZ (hq := ?_); try exact trivial) | omega)
            exact ⟨q, ⟨by omega, by rw [← h0]; exact hq.2⟩, by omega, rfl⟩
          | false =>
            have h0 := ins_stop hy hb
            have qe := And.intro qR (And.intro @hA (And.intro @hx (And.intro @hy (And.intro @hb (And.intro @i0 (And.intro @i1 (And.intro @hT1 (And.intro @hT2 (And.intro @hT3 (And.intro @hT4 (And.intro @hkl (And.intro @hl (And.intro @lpN (And.intro @lpE @lpR)))))))))))))); repeat' first | (show Run _ (.cond _ _ _) _ _; refine run_condX (fun hc => ?_) (fun hc => ?_) <;> (try simp only [qH, rng_0] at hc) <;> try contradiction) | (show RunOps _ _ _ _ (⟨_, .call 121, _, _, _⟩ :: _) _ _; refine run_callGX (hf := fun hc => (by first | exact pure121 x y | (simp only [qH, rng_0] at hc; exact pure121 x y))) (hn := ?_)) | (first | refine Stp.h ?_ | (show ∀ K : St → List Ft → Prop, _; intro K hK) | (show runS _ _ _ _ _; first | refine qY (hq := ?_) | refine qZ (hq := ?_)) | (refine hK _ _ ?_; clear hK K) | (refine hK _ _ rfl ?_; clear hK K) | (refine qZ (hq := ?_); try exact trivial) | omega)
            refine ⟨k + 1, by omega, by dsimp only; omega, .x 6 (.sl 7 ((mgK (a ++ b) (k + 1)).map Mov.pv)) ?_ (hw := weakE (by rw [← ins_pv hx (h0.symm.trans hq.2)]; simp))⟩
            exact .cov (by simp only [qS, Nat.reduceAdd, Nat.reduceMul, Nat.reduceEqDiff, Nat.reduceLeDiff, reduceIte, reduceCtorEq, Nat.reduceBEq, Nat.reduceLT] <;> simp)
    · have qe := And.intro qR (And.intro @hA (And.intro @hkl (And.intro @hl (And.intro @lpN (And.intro @lpE @lpR))))); repeat' first | (show Run _ (.cond _ _ _) _ _; refine run_condX (fun hc => ?_) (fun hc => ?_) <;> (try simp only [qH, rng_0] at hc) <;> try contradiction) | (first | refine Stp.h ?_ | (show ∀ K : St → List Ft → Prop, _; intro K hK) | (show runS _ _ _ _ _; first | refine qY (hq := ?_) | refine qZ (hq := ?_)) | (refine hK _ _ ?_; clear hK K) | (refine hK _ _ rfl ?_; clear hK K) | (refine qZ (hq := ?_); try exact trivial) | omega)
      have e : k = (a ++ b).length := by omega
      have e2 : mgK (a ++ b) (a ++ b).length = mergeM befM a b := by rw [mgK, List.take_length]; rfl
      subst e; rw [e2]; exact .refl _
theorem pure61 (m : List Mov) (o : Mov) (k : Nat) (hn : m.length + k ≤ 1000000) : Pure Tryz.prog 61 [.sl 7 (m.map Mov.pv), o.pv, .i .i64 k] (.sl 7 ((mergeM befM m (List.replicate k o)).map Mov.pv)) := by
  refine pure_by fact61 (by simp) fun hw X hX => ?_
  unfold ac61 rs61
  have qe := @qR; repeat' first | (show Run _ (.cond _ _ _) _ _; refine run_condX (fun hc => ?_) (fun hc => ?_) <;> (try simp only [qH, rng_0] at hc) <;> try contradiction) | (first | refine Stp.h ?_ | (show ∀ K : St → List Ft → Prop, _; intro K hK) | (show runS _ _ _ _ _; first | refine qY (hq := ?_) | refine qZ (hq := ?_)) | (refine hK _ _ ?_; clear hK K) | (refine hK _ _ rfl ?_; clear hK K) | (refine qZ (hq := ?_); try exact trivial) | omega)
  refine run_own 100 74 7 [(0, .p (.sl 7 (m.map Mov.pv))), (4, .lp 4 0), (7, .row 100 0), (8, .p (.i .i64 k)), (9, .p (.i .i64 0))] [(4, .box (o.cells.map .p) false)] ?_ ?_
  · simp only [Own, ownEnv, ownObj, nilTo, nilTos, qS, Nat.reduceAdd, Nat.reduceMul, Nat.reduceEqDiff, Nat.reduceLeDiff, reduceIte, reduceCtorEq, Nat.reduceBEq, Nat.reduceLT]
  refine run_loop (κ := Nat) (fun j => ⟨[(0, .p (.sl 7 (m.map Mov.pv))), (4, .lp 4 0), (7, .row 100 j), (8, .p (.i .i64 k)), (9, .p (.i .i64 j))], [(4, .box (o.cells.map .p) false), (100, .row 74 7 ((List.replicate j o).map Mov.pv) false)], [], false⟩) (fun j => j ≤ k) (fun j => k - j) 0 ?_ ?_ ?_
  · simp only [qS, Nat.reduceAdd, Nat.reduceMul, Nat.reduceEqDiff, Nat.reduceLeDiff, reduceIte, reduceCtorEq, Nat.reduceBEq, Nat.reduceLT] <;> simp
  · simp
  · intro j hj
    by_cases hlt : j < k
    · have qe := And.intro qR @List.length_replicate.{0}; repeat' first | (show Run _ (.cond _ _ _) _ _; refine run_condX (fun hc => ?_) (fun hc => ?_) <;> (try simp only [qH, rng_0] at hc) <;> try contradiction) | (first | refine Stp.h ?_ | (show ∀ K : St → List Ft → Prop, _; intro K hK) | (show runS _ _ _ _ _; first | refine qY (hq := ?_) | refine qZ (hq := ?_)) | (refine hK _ _ ?_; clear hK K) | (refine hK _ _ rfl ?_; clear hK K) | (refine qZ (hq := ?_); try exact trivial) | omega)
      exact ⟨j + 1, by omega, by omega, ⟨rfl, by simp⟩, by simp [List.replicate_succ']⟩
    · have e : j = k := by omega
      have qe := And.intro qR @List.length_replicate.{0}; repeat' first | (show Run _ (.cond _ _ _) _ _; refine run_condX (fun hc => ?_) (fun hc => ?_) <;> (try simp only [qH, rng_0] at hc) <;> try contradiction) | (show RunOps _ _ _ _ (⟨_, .call 69, _, _, _⟩ :: _) _ _; refine run_callBX (hf := pure69 m (List.replicate j o) (by rw [List.length_replicate]; omega)) (hn := ?_)) | (first | refine Stp.h ?_ | (show ∀ K : St → List Ft → Prop, _; intro K hK) | (show runS _ _ _ _ _; first | refine qY (hq := ?_) | refine qZ (hq := ?_)) | (refine hK _ _ ?_; clear hK K) | (refine hK _ _ rfl ?_; clear hK K) | (refine qZ (hq := ?_); try exact trivial) | omega)
      subst e; exact .refl _
end Go.Proofs.YtcfbdeghmckelaaGreat
namespace Go.Proofs.YtcfbdeghmckelaaGreat
open Go.RowKit
set_option maxRecDepth 100000
set_option linter.unusedVariables false
set_option linter.unusedSimpArgs false
set_option maxHeartbeats 2000000
def withM (m : List Mov) (o : Mov) (k : Nat) : List Mov := mergeM befM m (List.replicate k o)
theorem bef1 {a b : Mov} (h : befM a b = true) : a.moment ≤ b.moment := by
  unfold befM at h; split at h
  · omega
  · simp only [decide_eq_true_eq] at h; omega
theorem bef0 {a b : Mov} (h : befM a b = false) : b.moment ≤ a.moment := by
  unfold befM at h; split at h
  · omega
  · simp only [decide_eq_false_iff_not] at h; omega
theorem merge_ok {a b : List Mov} (ha : ∀ x ∈ a, chkMov x = 0) (hb : ∀ x ∈ b, chkMov x = 0) (hn : a.length + b.length ≤ 30000) : chkMovs (mergeM befM a b) = 0 ∧ (mergeM befM a b).length = a.length + b.length := by
  have hp := merge_perm befM a b
  have hlen : (mergeM befM a b).length = a.length + b.length := by rw [hp.length_eq, List.length_append]
  refine ⟨chkMovs_of (by omega) (fun x hx => ?_) (merge_sorted (fun _ _ h => bef1 h) (fun _ _ h => bef0 h) a b), hlen⟩
  rcases List.mem_append.1 (hp.mem_iff.1 hx) with h | h
  · exact ha x h
  · exact hb x h
theorem with_ok {m : List Mov} {o : Mov} (hm : chkMovs m = 0) (hn : m.length ≤ 10) (ho : chkMov o = 0) {k : Nat} (hk : k ≤ 10) : chkMovs (withM m o k) = 0 ∧ (withM m o k).length = m.length + k := by
  have := merge_ok (a := m) (b := List.replicate k o) (chkMovs_0 hm).2.1 (fun x hx => by rw [List.eq_of_mem_replicate hx]; exact ho) (by rw [List.length_replicate]; omega)
  rw [List.length_replicate] at this
  exact this
theorem with_cnt {l : Lim} (h : 0 ≤ l.len) (m : List Mov) (o : Mov) (k : Nat) (b : Int) : cntAll l (withM m o k) b = cntAll l m b + if inW l b o then (k : Int) else 0 := by
  rw [withM, cnt_perm h (merge_perm befM m _), cnt_app h, cnt_rep h]
theorem with_adds {ls : List Lim} (hl : ∀ l ∈ ls, chkLim l = 0) (m : List Mov) (o : Mov) (k : Nat) : Adds ls m (withM m o k) o k := fun l h b => with_cnt (by have := chkLim_0 (hl l h); omega) m o k b
theorem with_one {ls : List Lim} (hl : ∀ l ∈ ls, chkLim l = 0) (m : List Mov) (o : Mov) (k : Nat) : Adds ls (withM m o k) (withM m o (k + 1)) o 1 := fun l h b => by
  have h0 : 0 ≤ l.len := by have := chkLim_0 (hl l h); omega
  rw [with_cnt h0, with_cnt h0]
  split
  · rw [Int.natCast_succ]; omega
  · omega
theorem room_pos {ls : List Lim} {m : List Mov} {o : Mov} : 0 ≤ roomL ls m o ∧ roomL ls m o ≤ 999999999 := by
  obtain ⟨⟨a1, a2⟩, a3⟩ := roomK_char ls (arW ls m o) 999999999
  have e1 : roomL ls m o = (arW ls m o).foldl (roomStep ls) 999999999 := rfl
  rw [← e1] at a1 a2 a3
  rcases a3 with a3 | ⟨w, _, a3⟩ <;> omega
theorem same_at {a b : List Win} (h : a.map (fun w => (w.lim, w.beg)) = b.map (fun w => (w.lim, w.beg))) {i : Nat} {x : Win} (hx : a[i]? = some x) : ∃ y, b[i]? = some y ∧ x.lim = y.lim ∧ x.beg = y.beg := by
  have h1 := congrArg (fun l => l[i]?) h
  simp only [List.getElem?_map, hx, Option.map_some] at h1
  cases hb : b[i]? with
  | none => rw [hb] at h1; cases h1
  | some y =>
    rw [hb] at h1
    simp only [Option.map_some, Option.some.injEq, Prod.mk.injEq] at h1
    exact ⟨y, rfl, h1⟩
theorem exc_mem {ls : List Lim} {m : List Mov} (h2 : chkMovs m = 0) {w : Win} (hw : w ∈ excW ls m) : -30000 ≤ w.cnt ∧ w.cnt ≤ 30000 := by
  obtain ⟨i, _, hw⟩ := List.mem_flatMap.1 hw
  unfold excI at hw
  split at hw
  · rename_i l _
    obtain ⟨b, _, hw⟩ := List.mem_flatMap.1 hw
    unfold excB at hw
    split at hw
    · rw [List.mem_singleton.1 hw]; exact cnt_bound h2 b
    · cases hw
  · cases hw
theorem full_mem {ls : List Lim} {m : List Mov} {o : Mov} (h2 : chkMovs m = 0) {w : Win} (hw : w ∈ fullL ls m o) : -30000 ≤ w.cnt ∧ w.cnt ≤ 30000 := by
  obtain ⟨i, l, _, _, h, _⟩ := arW_at (List.mem_filter.1 hw).1
  rw [h]; exact cnt_bound h2 _
end Go.Proofs.YtcfbdeghmckelaaGreat
namespace Go.Proofs.YtcfbdeghmckelaaGreat
open Go.RowKit
set_option maxRecDepth 100000
set_option linter.unusedVariables false
set_option linter.unusedSimpArgs false
set_option maxHeartbeats 4000000
def smallB (l : List Lim) (m : List Mov) : Bool := ((((decide ((l.length : Int) ≤ 3) && decide ((m.length : Int) ≤ 10)) && shLims l 3) && shMovs m 10) && decide (chkLims l = 0)) && decide (chkMovs m = 0)
def ac60 : AC := .seq (.ops false [⟨some 4,.mv,[.c (.b false)],none,[]⟩]) (.seq (.ops false [⟨some 5,.mv,[.t 0],none,[]⟩,⟨some 6,.len false,[.t 5],none,[0]⟩,⟨some 7,.bin .leq,[.t 6,.c (.i .i64 3)],none,[1]⟩,⟨some 8,.mv,[.t 7],none,[2]⟩,⟨some 9,.mv,[.t 1],some (8,true),[3]⟩,⟨some 10,.len false,[.t 9],some (8,true),[4,3]⟩,⟨some 11,.bin .leq,[.t 10,.c (.i .i64 10)],some (8,true),[5,3]⟩,⟨some 12,.pick,[.t 8,.t 11,.c (.b false)],none,[3,6]⟩,⟨some 13,.mv,[.t 12],none,[7,3]⟩,⟨some 14,.mv,[.t 0],some (13,true),[8]⟩,⟨some 15,.call 15,[.t 14,.c (.i .i64 3)],some (13,true),[9,8,8]⟩,⟨some 16,.pick,[.t 13,.t 15,.c (.b false)],none,[8,10]⟩,⟨some 17,.mv,[.t 16],none,[11,10]⟩,⟨some 18,.mv,[.t 1],some (17,true),[12]⟩,⟨some 19,.call 16,[.t 18,.c (.i .i64 10)],some (17,true),[13,12,12]⟩,⟨some 20,.pick,[.t 17,.t 19,.c (.b false)],none,[12,14]⟩,⟨some 21,.mv,[.t 20],none,[15,14]⟩,⟨some 22,.mv,[.t 0],some (21,true),[16]⟩,⟨some 23,.call 23,[.t 22],some (21,true),[17,16,16]⟩,⟨some 24,.bin .eql,[.t 23,.c (.i .i64 0)],some (21,true),[18,16]⟩,⟨some 25,.pick,[.t 21,.t 24,.c (.b false)],none,[16,19]⟩,⟨some 26,.mv,[.t 25],none,[20,18]⟩,⟨some 27,.mv,[.t 1],some (26,true),[21]⟩,⟨some 28,.call 25,[.t 27],some (26,true),[22,21,21]⟩,⟨some 29,.bin .eql,[.t 28,.c (.i .i64 0)],some (26,true),[23,21]⟩,⟨some 30,.pick,[.t 26,.t 29,.c (.b false)],none,[21,24]⟩,⟨some 4,.mv,[.t 30],none,[25,23,0,1,2,3,4,5,6,7,8,9,10,11,12,13,14,15,16,17,18,19,20,21,22,23,24,25]⟩]) .ret)
def rs60 : List RV := [.tmp 4]
theorem fact60 : compF Tryz.prog 60 = some (ac60,rs60,31) := by kernel_rfl
theorem pure60 (l : List Lim) (m : List Mov) : Pure Tryz.prog 60 [.sl 11 (l.map Lim.pv), .sl 7 (m.map Mov.pv)] (.b (smallB l m)) := by
  refine pure_by fact60 (by simp) fun hw X hX => ?_
  unfold ac60 rs60
  have qe := @qR; repeat' first | (show Run _ (.cond _ _ _) _ _; refine run_condX (fun hc => ?_) (fun hc => ?_) <;> (try simp only [qH, rng_0] at hc) <;> try contradiction) | (show RunOps _ _ _ _ (⟨_, .call 15, _, _, _⟩ :: _) _ _; refine run_callGX (hf := fun hc => (by first | exact pure15 l 3 | (simp only [qH, rng_0] at hc; exact pure15 l 3))) (hn := ?_)) | (show RunOps _ _ _ _ (⟨_, .call 16, _, _, _⟩ :: _) _ _; refine run_callGX (hf := fun hc => (by first | exact pure16 m 10 | (simp only [qH, rng_0] at hc; exact pure16 m 10))) (hn := ?_)) | (show RunOps _ _ _ _ (⟨_, .call 23, _, _, _⟩ :: _) _ _; refine run_callGX (hf := fun hc => (by first | exact pure23 l | (simp only [qH, rng_0] at hc; exact pure23 l))) (hn := ?_)) | (show RunOps _ _ _ _ (⟨_, .call 25, _, _, _⟩ :: _) _ _; refine run_callGX (hf := fun hc => (by first | exact pure25 m | (simp only [qH, rng_0] at hc; exact pure25 m))) (hn := ?_)) | (first | refine Stp.h ?_ | (show ∀ K : St → List Ft → Prop, _; intro K hK) | (show runS _ _ _ _ _; first | refine qY (hq := ?_) | refine qZ (hq := ?_)) | (refine hK _ _ ?_; clear hK K) | (refine hK _ _ rfl ?_; clear hK K) | (refine qZ (hq := ?_); try exact trivial) | omega)
  exact .refl _
theorem small_0 {l : List Lim} {m : List Mov} (h : smallB l m = true) : l.length ≤ 3 ∧ m.length ≤ 10 ∧ shLims l 3 = true ∧ shMovs m 10 = true ∧ chkLims l = 0 ∧ chkMovs m = 0 := by
  simp only [smallB, Bool.and_eq_true, decide_eq_true_eq] at h
  obtain ⟨⟨⟨⟨⟨h1, h2⟩, h3⟩, h4⟩, h5⟩, h6⟩ := h
  exact ⟨by omega, by omega, h3, h4, h5, h6⟩
end Go.Proofs.YtcfbdeghmckelaaGreat
namespace Go.Proofs.YtcfbdeghmckelaaGreat
open Go.RowKit Go.ChangeShapes Go.WideShapes Go.ChangeAt
set_option maxRecDepth 100000
set_option linter.unusedVariables false
set_option linter.unusedSimpArgs false
set_option maxHeartbeats 4000000
def ac8 : AC := .seq (.ops false [⟨some 5,.box,[.t 2],none,[]⟩,⟨some 6,.mv,[.c (.b false)],none,[]⟩]) (.seq (.ops false [⟨some 35,.mv,[.t 0],none,[]⟩,⟨some 36,.call 14,[.t 35],none,[0]⟩,⟨some 7,.mv,[.t 36],none,[1,1,0,1]⟩]) (.seq (.seq (.ops false [⟨some 37,.mv,[.t 7],none,[]⟩,⟨some 38,.mv,[.t 1],none,[]⟩,⟨some 39,.call 60,[.t 37,.t 38],none,[0,1]⟩,⟨some 40,.not,[.t 39],none,[2]⟩,⟨some 41,.mv,[.t 40],none,[3,2]⟩,⟨some 42,.load 7 true,[.t 5],some (41,false),[4]⟩,⟨some 43,.call 42,[.t 42],some (41,false),[5,4,4]⟩,⟨some 44,.not,[.t 43],some (41,false),[6,4]⟩,⟨some 45,.pick,[.t 41,.c (.b true),.t 44],none,[4,7]⟩,⟨some 46,.mv,[.t 45],none,[8,6]⟩,⟨some 47,.load 7 true,[.t 5],some (46,false),[9]⟩,⟨some 48,.call 45,[.t 47],some (46,false),[10,9,9]⟩,⟨some 49,.bin .neq,[.t 48,.c (.i .i64 0)],some (46,false),[11,9]⟩,⟨some 50,.pick,[.t 46,.c (.b true),.t 49],none,[9,12]⟩]) (.cond (.t 50) (.seq (.ops false [⟨some 51,.call 18,[],none,[]⟩,⟨some 6,.mv,[.t 51],none,[0,0,0]⟩]) .ret) .skip)) (.seq (.ops false [⟨some 53,.mv,[.t 0],none,[]⟩,⟨some 54,.mv,[.t 1],none,[]⟩,⟨some 55,.load 7 true,[.t 5],none,[]⟩,⟨some 56,.call 43,[.t 53,.t 54,.t 55],none,[0,1,2]⟩,⟨some 52,.mv,[.t 56],none,[3]⟩,⟨some 57,.ext 0,[.t 52],none,[4]⟩,⟨some 58,.ext 1,[.t 52],none,[4]⟩,⟨some 8,.mv,[.t 57],none,[5,3,0,1,2,3,4,5]⟩,⟨some 9,.mv,[.t 58],none,[6,7,0,1,2,3,4,5,6,7]⟩]) (.seq (.ops false [⟨some 60,.mv,[.t 0],none,[]⟩,⟨some 61,.mv,[.t 1],none,[]⟩,⟨some 62,.load 7 true,[.t 5],none,[]⟩,⟨some 63,.call 44,[.t 60,.t 61,.t 62],none,[0,1,2]⟩,⟨some 59,.mv,[.t 63],none,[3]⟩,⟨some 64,.ext 0,[.t 59],none,[4]⟩,⟨some 65,.ext 1,[.t 59],none,[4]⟩,⟨some 10,.mv,[.t 64],none,[5,3,0,1,2,3,4,5]⟩,⟨some 11,.mv,[.t 65],none,[6,7,0,1,2,3,4,5,6,7]⟩]) (.seq (.ops false [⟨some 67,.mv,[.t 0],none,[]⟩,⟨some 68,.mv,[.t 1],none,[]⟩,⟨some 69,.call 58,[.t 67,.t 68],none,[0,1]⟩,⟨some 66,.mv,[.t 69],none,[2]⟩,⟨some 70,.ext 0,[.t 66],none,[3]⟩,⟨some 71,.ext 1,[.t 66],none,[3]⟩,⟨some 12,.mv,[.t 70],none,[4,2,0,1,2,3,4]⟩,⟨some 13,.mv,[.t 71],none,[5,6,0,1,2,3,4,5,6]⟩]) (.seq (.seq (.ops false [⟨some 72,.mv,[.t 9],none,[]⟩,⟨some 73,.mv,[.t 11],none,[]⟩,⟨some 74,.bin .add,[.t 72,.t 73],none,[0,1]⟩,⟨some 75,.bin .neq,[.t 74,.c (.i .i64 0)],none,[2]⟩,⟨some 76,.mv,[.t 75],none,[3]⟩,⟨some 77,.mv,[.t 13],some (76,false),[4]⟩,⟨some 78,.bin .neq,[.t 77,.c (.i .i64 0)],some (76,false),[5,4]⟩,⟨some 79,.pick,[.t 76,.c (.b true),.t 78],none,[4,6]⟩,⟨some 80,.mv,[.t 79],none,[7,4]⟩,⟨some 81,.mv,[.t 8],some (80,false),[8]⟩,⟨some 82,.bin .lss,[.t 81,.c (.i .i64 0)],some (80,false),[9,8]⟩,⟨some 83,.pick,[.t 80,.c (.b true),.t 82],none,[8,10]⟩,⟨some 84,.mv,[.t 83],none,[11,8]⟩,⟨some 85,.mv,[.t 8],some (84,false),[12]⟩,⟨some 86,.bin .eql,[.t 85,.c (.i .i64 0)],some (84,false),[13,12]⟩,⟨some 87,.mv,[.t 10],some (84,false),[12]⟩,⟨some 88,.len false,[.t 87],some (84,false),[15,12]⟩,⟨some 89,.bin .gtr,[.t 88,.c (.i .i64 0)],some (84,false),[16,12]⟩,⟨some 90,.eq true [0] false,[.t 86,.t 89],some (84,false),[14,17,12]⟩,⟨some 91,.pick,[.t 84,.c (.b true),.t 90],none,[12,18]⟩]) (.cond (.t 91) (.seq (.ops false [⟨some 6,.mv,[.c (.b false)],none,[]⟩]) .ret) .skip)) (.seq (.seq (.ops false [⟨some 92,.mv,[.t 8],none,[]⟩,⟨some 93,.bin .gtr,[.t 92,.c (.i .i64 6)],none,[0]⟩]) (.cond (.t 93) (.seq (.ops false [⟨some 94,.call 18,[],none,[]⟩,⟨some 6,.mv,[.t 94],none,[0,0,0]⟩]) .ret) .skip)) (.seq (.seq (.ops false [⟨some 95,.mv,[.t 8],none,[]⟩,⟨some 96,.bin .add,[.t 95,.c (.i .i64 1)],none,[0]⟩,⟨some 97,.mv,[.c (.i .i64 0)],none,[]⟩]) (.block 0 (.loop (.seq (.ops false [⟨some 98,.bin .lss,[.t 97,.t 96],none,[]⟩]) (.seq (.cond (.t 98) .skip (.exit 0)) (.seq (.block 1 (.seq (.ops false [⟨some 99,.mv,[.t 97],none,[]⟩,⟨some 14,.mv,[.t 99],none,[0,0]⟩]) (.seq (.ops false [⟨some 100,.mv,[.t 1],none,[]⟩,⟨some 101,.load 7 true,[.t 5],none,[]⟩,⟨some 102,.mv,[.t 14],none,[]⟩,⟨some 103,.call 61,[.t 100,.t 101,.t 102],none,[0,1,2]⟩,⟨some 15,.mv,[.t 103],none,[3,3,0,1,2,3]⟩]) (.seq (.ops false [⟨some 105,.mv,[.t 0],none,[]⟩,⟨some 106,.mv,[.t 15],none,[]⟩,⟨some 107,.load 7 true,[.t 5],none,[]⟩,⟨some 108,.call 43,[.t 105,.t 106,.t 107],none,[0,1,2]⟩,⟨some 104,.mv,[.t 108],none,[3]⟩,⟨some 109,.ext 0,[.t 104],none,[4]⟩,⟨some 110,.ext 1,[.t 104],none,[4]⟩,⟨some 16,.mv,[.t 109],none,[5,3,0,1,2,3,4,5]⟩,⟨some 17,.mv,[.t 110],none,[6,7,0,1,2,3,4,5,6,7]⟩]) (.seq (.ops false [⟨some 112,.mv,[.t 0],none,[]⟩,⟨some 113,.mv,[.t 15],none,[]⟩,⟨some 114,.load 7 true,[.t 5],none,[]⟩,⟨some 115,.call 44,[.t 112,.t 113,.t 114],none,[0,1,2]⟩,⟨some 111,.mv,[.t 115],none,[3]⟩,⟨some 116,.ext 0,[.t 111],none,[4]⟩,⟨some 117,.ext 1,[.t 111],none,[4]⟩,⟨some 18,.mv,[.t 116],none,[5,3,0,1,2,3,4,5]⟩,⟨some 19,.mv,[.t 117],none,[6,7,0,1,2,3,4,5,6,7]⟩]) (.seq (.ops false [⟨some 119,.mv,[.t 0],none,[]⟩,⟨some 120,.mv,[.t 15],none,[]⟩,⟨some 121,.call 58,[.t 119,.t 120],none,[0,1]⟩,⟨some 118,.mv,[.t 121],none,[2]⟩,⟨some 122,.ext 0,[.t 118],none,[3]⟩,⟨some 123,.ext 1,[.t 118],none,[3]⟩,⟨some 20,.mv,[.t 122],none,[4,2,0,1,2,3,4]⟩,⟨some 21,.mv,[.t 123],none,[5,6,0,1,2,3,4,5,6]⟩]) (.seq (.seq (.ops false [⟨some 124,.mv,[.t 17],none,[]⟩,⟨some 125,.mv,[.t 19],none,[]⟩,⟨some 126,.bin .add,[.t 124,.t 125],none,[0,1]⟩,⟨some 127,.mv,[.t 21],none,[]⟩,⟨some 128,.bin .add,[.t 126,.t 127],none,[2,3]⟩,⟨some 129,.bin .neq,[.t 128,.c (.i .i64 0)],none,[4]⟩,⟨some 130,.mv,[.t 129],none,[5]⟩,⟨some 131,.mv,[.t 16],some (130,false),[6]⟩,⟨some 132,.mv,[.t 8],some (130,false),[6]⟩,⟨some 133,.mv,[.t 14],some (130,false),[6]⟩,⟨some 134,.bin .sub,[.t 132,.t 133],some (130,false),[8,9,6]⟩,⟨some 135,.bin .neq,[.t 131,.t 134],some (130,false),[7,10,6]⟩,⟨some 136,.pick,[.t 130,.c (.b true),.t 135],none,[6,11]⟩,⟨some 137,.mv,[.t 136],none,[12,6]⟩,⟨some 138,.mv,[.t 18],some (137,false),[13]⟩,⟨some 139,.len false,[.t 138],some (137,false),[14,13]⟩,⟨some 140,.bin .gtr,[.t 139,.c (.i .i64 0)],some (137,false),[15,13]⟩,⟨some 141,.mv,[.t 14],some (137,false),[13]⟩,⟨some 142,.mv,[.t 8],some (137,false),[13]⟩,⟨some 143,.bin .eql,[.t 141,.t 142],some (137,false),[17,18,13]⟩,⟨some 144,.eq true [0] false,[.t 140,.t 143],some (137,false),[16,19,13]⟩,⟨some 145,.pick,[.t 137,.c (.b true),.t 144],none,[13,20]⟩,⟨some 146,.mv,[.t 145],none,[21,13]⟩,⟨some 147,.mv,[.t 20],some (146,false),[22]⟩,⟨some 148,.len false,[.t 147],some (146,false),[23,22]⟩,⟨some 149,.mv,[.t 12],some (146,false),[22]⟩,⟨some 150,.len false,[.t 149],some (146,false),[25,22]⟩,⟨some 151,.bin .neq,[.t 148,.t 150],some (146,false),[24,26,22]⟩,⟨some 152,.pick,[.t 146,.c (.b true),.t 151],none,[22,27]⟩]) (.cond (.t 152) (.seq (.ops false [⟨some 6,.mv,[.c (.b false)],none,[]⟩]) .ret) .skip)) (.seq (.ops false [⟨some 153,.mv,[.t 20],none,[]⟩,⟨some 154,.len false,[.t 153],none,[0]⟩,⟨some 155,.mv,[.c (.i .i64 0)],none,[]⟩]) (.block 2 (.loop (.seq (.ops false [⟨some 156,.bin .lss,[.t 155,.t 154],none,[]⟩]) (.seq (.cond (.t 156) .skip (.exit 2)) (.seq (.block 3 (.seq (.ops false [⟨some 157,.mv,[.t 155],none,[]⟩,⟨some 22,.mv,[.t 157],none,[0,0]⟩]) (.seq (.ops true [⟨some 158,.mv,[.t 20],none,[]⟩,⟨some 159,.mv,[.t 22],none,[]⟩,⟨some 160,.iadrS 3,[.t 158,.t 159],none,[0,1]⟩,⟨some 161,.fadr 0,[.t 160],none,[2]⟩,⟨some 162,.load 1 false,[.t 161],none,[3]⟩,⟨some 163,.mv,[.t 12],none,[]⟩,⟨some 164,.mv,[.t 22],none,[]⟩,⟨some 165,.iadrS 3,[.t 163,.t 164],none,[5,6]⟩,⟨some 166,.fadr 0,[.t 165],none,[7]⟩,⟨some 167,.load 1 false,[.t 166],none,[8]⟩,⟨some 168,.bin .neq,[.t 162,.t 167],none,[4,9]⟩,⟨some 169,.mv,[.t 168],none,[10]⟩,⟨some 170,.mv,[.t 20],some (169,false),[11]⟩,⟨some 171,.mv,[.t 22],some (169,false),[11]⟩,⟨some 172,.iadrS 3,[.t 170,.t 171],some (169,false),[12,13,11]⟩,⟨some 173,.fadr 1,[.t 172],some (169,false),[14,11]⟩,⟨some 174,.load 1 false,[.t 173],some (169,false),[15,11]⟩,⟨some 175,.mv,[.t 12],some (169,false),[11]⟩,⟨some 176,.mv,[.t 22],some (169,false),[11]⟩,⟨some 177,.iadrS 3,[.t 175,.t 176],some (169,false),[17,18,11]⟩,⟨some 178,.fadr 1,[.t 177],some (169,false),[19,11]⟩,⟨some 179,.load 1 false,[.t 178],some (169,false),[20,11]⟩,⟨some 180,.bin .neq,[.t 174,.t 179],some (169,false),[16,21,11]⟩,⟨some 181,.pick,[.t 169,.c (.b true),.t 180],none,[11,22]⟩]) (.cond (.t 181) (.seq (.ops false [⟨some 6,.mv,[.c (.b false)],none,[]⟩]) .ret) .skip)))) (.ops false [⟨some 182,.bin .add,[.t 155,.c (.i .i64 1)],none,[]⟩,⟨some 155,.mv,[.t 182],none,[0]⟩])))))))))))))) (.ops false [⟨some 183,.bin .add,[.t 97,.c (.i .i64 1)],none,[]⟩,⟨some 97,.mv,[.t 183],none,[0]⟩]))))))) (.seq (.ops false [⟨some 184,.mv,[.t 1],none,[]⟩,⟨some 185,.load 7 true,[.t 5],none,[]⟩,⟨some 186,.mv,[.t 8],none,[]⟩,⟨some 187,.bin .add,[.t 186,.c (.i .i64 1)],none,[2]⟩,⟨some 188,.call 61,[.t 184,.t 185,.t 187],none,[0,1,3]⟩,⟨some 23,.mv,[.t 188],none,[4,4,0,1,2,3,4]⟩]) (.seq (.ops false [⟨some 190,.mv,[.t 0],none,[]⟩,⟨some 191,.mv,[.t 23],none,[]⟩,⟨some 192,.call 58,[.t 190,.t 191],none,[0,1]⟩,⟨some 189,.mv,[.t 192],none,[2]⟩,⟨some 193,.ext 0,[.t 189],none,[3]⟩,⟨some 194,.ext 1,[.t 189],none,[3]⟩,⟨some 24,.mv,[.t 193],none,[4,2,0,1,2,3,4]⟩,⟨some 25,.mv,[.t 194],none,[5,6,0,1,2,3,4,5,6]⟩]) (.seq (.ops false [⟨some 196,.mv,[.t 0],none,[]⟩,⟨some 197,.mv,[.t 23],none,[]⟩,⟨some 198,.call 57,[.t 196,.t 197],none,[0,1]⟩,⟨some 195,.mv,[.t 198],none,[2]⟩,⟨some 199,.ext 0,[.t 195],none,[3]⟩,⟨some 200,.ext 1,[.t 195],none,[3]⟩,⟨some 26,.alloc [(.i .i64 0),(.i .i64 0),(.i .i64 0)],[],none,[]⟩,⟨none,.store 3,[.t 26,.t 199],none,[6,4,2,0,1,2,3,4,6]⟩,⟨some 27,.mv,[.t 200],none,[5,7,0,1,2,3,4,5,6,7]⟩]) (.seq (.seq (.ops false [⟨some 201,.mv,[.t 25],none,[]⟩,⟨some 202,.bin .neq,[.t 201,.c (.i .i64 0)],none,[0]⟩,⟨some 203,.mv,[.t 202],none,[1]⟩,⟨some 204,.mv,[.t 27],some (203,false),[2]⟩,⟨some 205,.bin .neq,[.t 204,.c (.i .i64 0)],some (203,false),[3,2]⟩,⟨some 206,.pick,[.t 203,.c (.b true),.t 205],none,[2,4]⟩,⟨some 207,.mv,[.t 206],none,[5,2]⟩,⟨some 208,.mv,[.t 24],some (207,false),[6]⟩,⟨some 209,.len false,[.t 208],some (207,false),[7,6]⟩,⟨some 210,.bin .eql,[.t 209,.c (.i .i64 0)],some (207,false),[8,6]⟩,⟨some 211,.pick,[.t 207,.c (.b true),.t 210],none,[6,9]⟩]) (.cond (.t 211) (.seq (.ops false [⟨some 6,.mv,[.c (.b false)],none,[]⟩]) .ret) .skip)) (.seq (.ops true [⟨some 213,.mv,[.t 0],none,[]⟩,⟨some 214,.mv,[.t 1],none,[]⟩,⟨some 215,.load 7 true,[.t 5],none,[]⟩,⟨some 216,.mv,[.t 8],none,[]⟩,⟨some 217,.call 61,[.t 214,.t 215,.t 216],none,[1,2,3]⟩,⟨some 218,.load 7 true,[.t 5],none,[]⟩,⟨some 219,.call 44,[.t 213,.t 217,.t 218],none,[0,4,5,4]⟩,⟨some 212,.mv,[.t 219],none,[6]⟩,⟨some 220,.ext 0,[.t 212],none,[7]⟩,⟨some 221,.ext 1,[.t 212],none,[7]⟩,⟨some 28,.mv,[.t 220],none,[8,6,0,1,2,3,4,5,6,7,8]⟩,⟨some 29,.mv,[.t 221],none,[9,10,0,1,2,3,4,5,6,7,8,9,10]⟩]) (.seq (.seq (.ops false [⟨some 222,.mv,[.t 29],none,[]⟩,⟨some 223,.bin .neq,[.t 222,.c (.i .i64 0)],none,[0]⟩,⟨some 224,.mv,[.t 223],none,[1]⟩,⟨some 225,.mv,[.t 28],some (224,false),[2]⟩,⟨some 226,.len false,[.t 225],some (224,false),[3,2]⟩,⟨some 227,.bin .eql,[.t 226,.c (.i .i64 0)],some (224,false),[4,2]⟩,⟨some 228,.pick,[.t 224,.c (.b true),.t 227],none,[2,5]⟩]) (.cond (.t 228) (.seq (.ops false [⟨some 6,.mv,[.c (.b false)],none,[]⟩]) .ret) .skip)) (.seq (.seq (.ops false [⟨some 229,.mv,[.t 28],none,[]⟩,⟨some 230,.len false,[.t 229],none,[0]⟩,⟨some 231,.mv,[.c (.i .i64 0)],none,[]⟩]) (.block 4 (.loop (.seq (.ops false [⟨some 232,.bin .lss,[.t 231,.t 230],none,[]⟩]) (.seq (.cond (.t 232) .skip (.exit 4)) (.seq (.block 5 (.seq (.ops false [⟨some 233,.iadrS 3,[.t 229,.t 231],none,[]⟩,⟨some 234,.load 3 true,[.t 233],none,[0]⟩,⟨some 31,.alloc [(.i .i64 0),(.i .i64 0),(.i .i64 0)],[],none,[]⟩,⟨none,.store 3,[.t 31,.t 234],none,[2,1,0,1,2]⟩]) (.seq (.ops false [⟨some 32,.mv,[.c (.b false)],none,[]⟩]) (.seq (.seq (.ops false [⟨some 235,.mv,[.t 24],none,[]⟩,⟨some 236,.len false,[.t 235],none,[0]⟩,⟨some 237,.mv,[.c (.i .i64 0)],none,[]⟩]) (.block 6 (.loop (.seq (.ops false [⟨some 238,.bin .lss,[.t 237,.t 236],none,[]⟩]) (.seq (.cond (.t 238) .skip (.exit 6)) (.seq (.block 7 (.seq (.ops false [⟨some 239,.iadrS 3,[.t 235,.t 237],none,[]⟩,⟨some 240,.load 3 true,[.t 239],none,[0]⟩,⟨some 34,.alloc [(.i .i64 0),(.i .i64 0),(.i .i64 0)],[],none,[]⟩,⟨none,.store 3,[.t 34,.t 240],none,[2,1,0,1,2]⟩]) (.ops false [⟨some 241,.mv,[.t 32],none,[]⟩,⟨some 242,.mv,[.t 241],none,[0]⟩,⟨some 243,.fadr 0,[.t 34],some (242,false),[1]⟩,⟨some 244,.load 1 false,[.t 243],some (242,false),[2,1]⟩,⟨some 245,.fadr 0,[.t 31],some (242,false),[1]⟩,⟨some 246,.load 1 false,[.t 245],some (242,false),[4,1]⟩,⟨some 247,.bin .eql,[.t 244,.t 246],some (242,false),[3,5,1]⟩,⟨some 248,.mv,[.t 247],some (242,false),[6,1,1]⟩,⟨some 249,.fadr 1,[.t 34],some (248,true),[7]⟩,⟨some 250,.load 1 false,[.t 249],some (248,true),[8,7]⟩,⟨some 251,.fadr 1,[.t 31],some (248,true),[7]⟩,⟨some 252,.load 1 false,[.t 251],some (248,true),[10,7]⟩,⟨some 253,.bin .eql,[.t 250,.t 252],some (248,true),[9,11,7]⟩,⟨some 254,.pick,[.t 248,.t 253,.c (.b false)],some (242,false),[7,12,1]⟩,⟨some 255,.mv,[.t 254],some (242,false),[13,7,1]⟩,⟨some 256,.fadr 2,[.t 34],some (255,true),[14]⟩,⟨some 257,.load 1 false,[.t 256],some (255,true),[15,14]⟩,⟨some 258,.fadr 2,[.t 31],some (255,true),[14]⟩,⟨some 259,.load 1 false,[.t 258],some (255,true),[17,14]⟩,⟨some 260,.bin .add,[.t 259,.c (.i .i64 1)],some (255,true),[18,14]⟩,⟨some 261,.bin .eql,[.t 257,.t 260],some (255,true),[16,19,14]⟩,⟨some 262,.pick,[.t 255,.t 261,.c (.b false)],some (242,false),[14,20,1]⟩,⟨some 263,.pick,[.t 242,.c (.b true),.t 262],none,[1,21]⟩,⟨some 32,.mv,[.t 263],none,[22,14,0,1,2,3,4,5,6,7,8,9,10,11,12,13,14,15,16,17,18,19,20,21,22]⟩]))) (.ops false [⟨some 264,.bin .add,[.t 237,.c (.i .i64 1)],none,[]⟩,⟨some 237,.mv,[.t 264],none,[0]⟩]))))))) (.seq (.ops false [⟨some 265,.mv,[.t 32],none,[]⟩,⟨some 266,.not,[.t 265],none,[0]⟩]) (.cond (.t 266) (.seq (.ops false [⟨some 6,.mv,[.c (.b false)],none,[]⟩]) .ret) .skip)))))) (.ops false [⟨some 267,.bin .add,[.t 231,.c (.i .i64 1)],none,[]⟩,⟨some 231,.mv,[.t 267],none,[0]⟩]))))))) (.seq (.ops false [⟨some 268,.call 18,[],none,[]⟩,⟨some 6,.mv,[.t 268],none,[0,0,0]⟩]) .ret))))))))))))))))
def rs8 : List RV := [.tmp 6]
theorem fact8 : compF Tryz.prog 8 = some (ac8,rs8,269) := by kernel_rfl
theorem pure61' (m : List Mov) (o : Mov) (k : Nat) (z : Int) (hz : z = k) (hn : m.length + k ≤ 1000000) : Pure Tryz.prog 61 [.sl 7 (m.map Mov.pv), o.pv, .i .i64 z] (.sl 7 ((withM m o k).map Mov.pv)) := by subst hz; exact pure61 m o k hn
def nmW (w : Win) (L : List Win) : Bool := L.any fun y => (decide (y.lim = w.lim) && decide (y.beg = w.beg)) && decide (y.cnt = w.cnt + 1)
theorem nmW_next {w y : Win} {L : List Win} {i : Nat} (h : L[i]? = some y) : nmW w (L.take (i + 1)) = (nmW w (L.take i) || ((decide (y.lim = w.lim) && decide (y.beg = w.beg)) && decide (y.cnt = w.cnt + 1))) := by
  rw [nmW, List.take_add_one, h, List.any_append, nmW]; simp
theorem nmW_mem {w : Win} {L : List Win} (h : w.add 1 ∈ L) : nmW w L = true := List.any_eq_true.2 ⟨_, h, by simp [Win.add]⟩
structure WithF (l : List Lim) (m : List Mov) (o : Mov) (k : Nat) : Prop where
  b : bothC l (withM m o k) = 0
  rc : roomC l (withM m o k) o = 0
  F : fullR l (withM m o k) o = fullL l (withM m o k) o
  R : roomR l (withM m o k) o = roomL l (withM m o k) o
  E : exE l (withM m o k) = 0
  X : exR l (withM m o k) = excW l (withM m o k)
  len : (excW l (withM m o k)).length ≤ 400
  m : chkMovs (withM m o k) = 0
theorem withF {l : List Lim} {m : List Mov} {o : Mov} {k : Nat} (g3 : shLims l 3 = true) (g5 : chkLims l = 0) (g6 : chkMovs m = 0) (g2 : m.length ≤ 10) (hc : chkMov o = 0) (hk : k ≤ 10) : WithF l m o k := by
  obtain ⟨h1, h2⟩ := with_ok g6 g2 hc hk
  have hb : bothC l (withM m o k) = 0 := firstE_cons.2 ⟨g5, firstE_cons.2 ⟨h1, rfl⟩⟩
  have hrc : roomC l (withM m o k) o = 0 := firstE_cons.2 ⟨hb, firstE_cons.2 ⟨hc, rfl⟩⟩
  have hx := exc_short (m := withM m o k) g5 g3
  have hE : exE l (withM m o k) = 0 := by rw [exE, if_pos hb, if_neg (by omega)]
  exact ⟨hb, hrc, fullR_p hrc, roomR_p hrc, hE, by rw [exR, if_pos hE], hx, h1⟩
theorem full_dec {l : List Lim} {m : List Mov} {o : Mov} {p : Prop} [Decidable p] (h : roomL l m o = 0 ↔ p) : decide (0 < ((fullL l m o).length : Int)) = decide p := by
  have hz := full_zero (ls := l) (m := m) (o := o)
  have hl : (fullL l m o).length = 0 ↔ fullL l m o = [] := List.length_eq_zero_iff
  by_cases e : p
  · have := hz.1 (h.2 e)
    rw [decide_eq_true e, decide_eq_true]
    have : (fullL l m o).length ≠ 0 := fun e2 => this (hl.1 e2)
    omega
  · have h3 : ¬ fullL l m o ≠ [] := fun h4 => e (h.1 (hz.2 h4))
    rw [decide_eq_false e, decide_eq_false]
    have : (fullL l m o).length = 0 := hl.2 (Classical.not_not.1 h3)
    omega
theorem pure8 (l : List Lim) (m : List Mov) (o : Mov) (hn : l.length * 112 ≤ 140737488355328) : Pure Tryz.prog 8 [.sl 11 (l.map Lim.pv), .sl 7 (m.map Mov.pv), o.pv] (.b true) := by
  refine pure_by fact8 (by simp) fun hw X hX => ?_
  unfold ac8 rs8
  by_cases h : smallB l m = true ∧ shMov o = true ∧ chkMov o = 0
  · obtain ⟨hs, ho, hco⟩ := h
    obtain ⟨g1, g2, g3, g4, g5, g6⟩ := small_0 hs
    have hl := chkLims_0 g5
    have hb : bothC l m = 0 := firstE_cons.2 ⟨g5, firstE_cons.2 ⟨g6, rfl⟩⟩
    have hrc : roomC l m o = 0 := firstE_cons.2 ⟨hb, firstE_cons.2 ⟨hco, rfl⟩⟩
    have hR := roomR_p hrc
    have hF := fullR_p hrc
    have hx := exc_short (m := m) g5 g3
    have hE : exE l m = 0 := by rw [exE, if_pos hb, if_neg (by omega)]
    have hX2 : exR l m = excW l m := by rw [exR, if_pos hE]
    obtain ⟨r1, r2⟩ := room_pos (ls := l) (m := m) (o := o)
    have hzz : decide (roomL l m o = 0) = decide (0 < ((fullL l m o).length : Int)) := (full_dec Iff.rfl).symm
    by_cases h6 : 6 < roomL l m o
    · have h6' := eq_true h6
      have qe := And.intro qR (And.intro @hs (And.intro @ho (And.intro @hco (And.intro @hR (And.intro @hF (And.intro @hrc (And.intro @hX2 (And.intro @hE (And.intro @hzz (And.intro @h6' @dec_self)))))))))); repeat' first | (show Run _ (.cond _ _ _) _ _; refine run_condX (fun hc => ?_) (fun hc => ?_) <;> (try simp only [qH, rng_0] at hc) <;> try contradiction) | (show RunOps _ _ _ _ (⟨_, .call 14, _, _, _⟩ :: _) _ _; refine run_callX (hf := pure14 l hn) (hn := ?_)) | (show RunOps _ _ _ _ (⟨_, .call 60, _, _, _⟩ :: _) _ _; refine run_callX (hf := pure60 l m) (hn := ?_)) | (show RunOps _ _ _ _ (⟨_, .call 42, _, _, _⟩ :: _) _ _; refine run_callGX (hf := fun hc => (by first | exact pure42 o | (simp only [qH, rng_0] at hc; exact pure42 o))) (hn := ?_)) | (show RunOps _ _ _ _ (⟨_, .call 45, _, _, _⟩ :: _) _ _; refine run_callGX (hf := fun hc => (by first | exact pure45 o | (simp only [qH, rng_0] at hc; exact pure45 o))) (hn := ?_)) | (show RunOps _ _ _ _ (⟨_, .call 18, _, _, _⟩ :: _) _ _; refine run_callX (hf := pure18) (hn := ?_)) | (show RunOps _ _ _ _ (⟨_, .call 43, _, _, _⟩ :: _) _ _; refine run_callX (hf := pure43 l m o) (hn := ?_)) | (show RunOps _ _ _ _ (⟨_, .call 44, _, _, _⟩ :: _) _ _; refine run_callX (hf := pure44 l m o) (hn := ?_)) | (show RunOps _ _ _ _ (⟨_, .call 58, _, _, _⟩ :: _) _ _; refine run_callX (hf := pure58 l m) (hn := ?_)) | (first | refine Stp.h ?_ | (show ∀ K : St → List Ft → Prop, _; intro K hK) | (show runS _ _ _ _ _; first | refine qY (hq := ?_) | refine qZ (hq := ?_)) | (refine hK _ _ ?_; clear hK K) | (refine hK _ _ rfl ?_; clear hK K) | (refine qZ (hq := ?_); try exact trivial) | omega)
      all_goals exact .refl _
    · have h6' := eq_false h6
      have qe := And.intro qR (And.intro @hs (And.intro @ho (And.intro @hco (And.intro @hR (And.intro @hF (And.intro @hrc (And.intro @hX2 (And.intro @hE (And.intro @hzz (And.intro @h6' @dec_self)))))))))); repeat' first | (show Run _ (.cond _ _ _) _ _; refine run_condX (fun hc => ?_) (fun hc => ?_) <;> (try simp only [qH, rng_0] at hc) <;> try contradiction) | (show RunOps _ _ _ _ (⟨_, .call 14, _, _, _⟩ :: _) _ _; refine run_callX (hf := pure14 l hn) (hn := ?_)) | (show RunOps _ _ _ _ (⟨_, .call 60, _, _, _⟩ :: _) _ _; refine run_callX (hf := pure60 l m) (hn := ?_)) | (show RunOps _ _ _ _ (⟨_, .call 42, _, _, _⟩ :: _) _ _; refine run_callGX (hf := fun hc => (by first | exact pure42 o | (simp only [qH, rng_0] at hc; exact pure42 o))) (hn := ?_)) | (show RunOps _ _ _ _ (⟨_, .call 45, _, _, _⟩ :: _) _ _; refine run_callGX (hf := fun hc => (by first | exact pure45 o | (simp only [qH, rng_0] at hc; exact pure45 o))) (hn := ?_)) | (show RunOps _ _ _ _ (⟨_, .call 43, _, _, _⟩ :: _) _ _; refine run_callX (hf := pure43 l m o) (hn := ?_)) | (show RunOps _ _ _ _ (⟨_, .call 44, _, _, _⟩ :: _) _ _; refine run_callX (hf := pure44 l m o) (hn := ?_)) | (show RunOps _ _ _ _ (⟨_, .call 58, _, _, _⟩ :: _) _ _; refine run_callX (hf := pure58 l m) (hn := ?_)) | (first | refine Stp.h ?_ | (show ∀ K : St → List Ft → Prop, _; intro K hK) | (show runS _ _ _ _ _; first | refine qY (hq := ?_) | refine qZ (hq := ?_)) | (refine hK _ _ ?_; clear hK K) | (refine hK _ _ rfl ?_; clear hK K) | (refine qZ (hq := ?_); try exact trivial) | omega)
      all_goals first | exact .refl _ | skip
      have hA0 : ∀ k : Nat, k ≤ 10 → WithF l m o k := fun k hk => withF g3 g5 g6 g2 hco hk
      refine run_loop (κ := Nat) (fun k => ⟨[(0, .p (.sl 11 (l.map Lim.pv))), (1, .p (.sl 7 (m.map Mov.pv))), (5, .lp 5 0), (8, .p (.i .i64 (roomL l m o))), (12, .p (.sl 3 ((excW l m).map Win.pv))), (96, .p (.i .i64 (roomL l m o + 1))), (97, .p (.i .i64 k))], [(5, .box (o.cells.map .p) false)], [], false⟩) (fun k => (k : Int) ≤ roomL l m o + 1) (fun k => 10 - k) 0 ?_ ?_ ?_
      · simp only [qS, Nat.reduceAdd, Nat.reduceMul, Nat.reduceEqDiff, Nat.reduceLeDiff, reduceIte, reduceCtorEq, Nat.reduceBEq, Nat.reduceLT] <;> rfl
      · simp; omega
      · intro k hk
        have hk : (k : Int) ≤ roomL l m o + 1 := hk
        by_cases hlt : (k : Int) < roomL l m o + 1
        · have F := hA0 k (by omega)
          have hr := room_add (with_adds hl.2 m o k) (by omega) (by omega) (by omega)
          have hd := full_dec (l := l) (m := withM m o k) (o := o) (p := (k : Int) = roomL l m o) (by rw [hr]; omega)
          have hs2 := exc_same hl.2 (with_adds hl.2 m o k) (by omega) (by omega)
          have hln : (excW l (withM m o k)).length = (excW l m).length := by simpa using congrArg List.length hs2
          have f1 := F.rc; have f2 := F.F; have f3 := F.R; have f4 := F.E; have f5 := F.X; have f6 := F.len
          have qe := And.intro qR (And.intro @f1 (And.intro @f2 (And.intro @f3 (And.intro @f4 (And.intro @f5 (And.intro @hr (And.intro @hd (And.intro @hln @dec_self)))))))); repeat' first | (show Run _ (.cond _ _ _) _ _; refine run_condX (fun hc => ?_) (fun hc => ?_) <;> (try simp only [qH, rng_0] at hc) <;> try contradiction) | (show RunOps _ _ _ _ (⟨_, .call 61, _, _, _⟩ :: _) _ _; refine run_callX (hf := pure61' m o k _ rfl (by omega)) (hn := ?_)) | (show RunOps _ _ _ _ (⟨_, .call 43, _, _, _⟩ :: _) _ _; refine run_callX (hf := pure43 l (withM m o k) o) (hn := ?_)) | (show RunOps _ _ _ _ (⟨_, .call 44, _, _, _⟩ :: _) _ _; refine run_callX (hf := pure44 l (withM m o k) o) (hn := ?_)) | (show RunOps _ _ _ _ (⟨_, .call 58, _, _, _⟩ :: _) _ _; refine run_callX (hf := pure58 l (withM m o k)) (hn := ?_)) | (first | refine Stp.h ?_ | (show ∀ K : St → List Ft → Prop, _; intro K hK) | (show runS _ _ _ _ _; first | refine qY (hq := ?_) | refine qZ (hq := ?_)) | (refine hK _ _ ?_; clear hK K) | (refine hK _ _ rfl ?_; clear hK K) | (refine qZ (hq := ?_); try exact trivial) | omega)
          all_goals first | exact .refl _ | skip
          refine run_loop (κ := Nat) (fun i => ⟨[(0, .p (.sl 11 (l.map Lim.pv))), (1, .p (.sl 7 (m.map Mov.pv))), (5, .lp 5 0), (8, .p (.i .i64 (roomL l m o))), (12, .p (.sl 3 ((excW l m).map Win.pv))), (20, .p (.sl 3 ((excW l (withM m o k)).map Win.pv))), (96, .p (.i .i64 (roomL l m o + 1))), (97, .p (.i .i64 k)), (154, .p (.i .i64 (excW l (withM m o k)).length)), (155, .p (.i .i64 i))], [(5, .box (o.cells.map .p) false)], [], false⟩) (fun i => i ≤ (excW l (withM m o k)).length) (fun i => (excW l (withM m o k)).length - i) 0 ?_ ?_ ?_
          · simp only [qS, Nat.reduceAdd, Nat.reduceMul, Nat.reduceEqDiff, Nat.reduceLeDiff, reduceIte, reduceCtorEq, Nat.reduceBEq, Nat.reduceLT] <;> simp [hln]
          · simp
          · intro i hi
            by_cases hil : i < (excW l (withM m o k)).length
            · obtain ⟨x, hx1⟩ := some_at (i := i) (l := excW l (withM m o k)) hil
              obtain ⟨y, hy1, e1, e2⟩ := same_at hs2 hx1
              have qe := And.intro qR (And.intro @hx1 (And.intro @hy1 (And.intro @e1 (And.intro @e2 (And.intro @hln @dec_self))))); repeat' first | (show Run _ (.cond _ _ _) _ _; refine run_condX (fun hc => ?_) (fun hc => ?_) <;> (try simp only [qH, rng_0] at hc) <;> try contradiction) | (first | refine Stp.h ?_ | (show ∀ K : St → List Ft → Prop, _; intro K hK) | (show runS _ _ _ _ _; first | refine qY (hq := ?_) | refine qZ (hq := ?_)) | (refine hK _ _ ?_; clear hK K) | (refine hK _ _ rfl ?_; clear hK K) | (refine qZ (hq := ?_); try exact trivial) | omega)
              exact ⟨i + 1, by omega, by omega, by simp⟩
            · have qe := And.intro qR @hln; repeat' first | (show Run _ (.cond _ _ _) _ _; refine run_condX (fun hc => ?_) (fun hc => ?_) <;> (try simp only [qH, rng_0] at hc) <;> try contradiction) | (first | refine Stp.h ?_ | (show ∀ K : St → List Ft → Prop, _; intro K hK) | (show runS _ _ _ _ _; first | refine qY (hq := ?_) | refine qZ (hq := ?_)) | (refine hK _ _ ?_; clear hK K) | (refine hK _ _ rfl ?_; clear hK K) | (refine qZ (hq := ?_); try exact trivial) | omega)
              exact ⟨k + 1, by omega, by omega, by simp⟩
        · have e : (k : Int) = roomL l m o + 1 := by omega
          have F := hA0 (k - 1) (by omega)
          have G := hA0 k (by omega)
          have f1 := F.rc; have f2 := F.F
          have g1' := G.E; have g2' := G.X; have g3' := G.b
          have gl := G.len
          have hfl : (fullL l (withM m o (k - 1)) o).length ≤ 92160 := by
            have h1 := arW_len (m := withM m o (k - 1)) (o := o) hl.1 hl.2
            have h2 := List.length_filter_le (fun w => decide (mostAt l w.lim ≤ w.cnt)) (arW l (withM m o (k - 1)) o)
            unfold fullL; omega
          have hz1 : ((k - 1 : Nat) : Int) = roomL l m o := by omega
          have hr := room_add (with_adds hl.2 m o (k - 1)) (by omega) (by omega) (by omega)
          have hfull : fullL l (withM m o (k - 1)) o ≠ [] := full_zero.1 (by rw [hr]; omega)
          have hone := with_one hl.2 m o (k - 1)
          rw [show k - 1 + 1 = k by omega] at hone
          have hmem : ∀ w ∈ fullL l (withM m o (k - 1)) o, w.add 1 ∈ excW l (withM m o k) := fun w hw => exc_over hl.2 hone hw
          obtain ⟨w0, hw0⟩ := List.exists_mem_of_ne_nil _ hfull
          have hxne : excW l (withM m o k) ≠ [] := List.ne_nil_of_mem (hmem w0 hw0)
          have hfE : firE l (withM m o k) = 0 := by
            rw [firE, if_pos G.b]
            cases h : excW l (withM m o k) with
            | nil => exact absurd h hxne
            | cons _ _ => rfl
          have hxz : (((excW l (withM m o k)).length : Int) = 0) = False := eq_false fun h => hxne (List.length_eq_zero_iff.1 (by omega))
          have hfz : (((fullL l (withM m o (k - 1)) o).length : Int) = 0) = False := eq_false fun h => hfull (List.length_eq_zero_iff.1 (by omega))
          have qe := And.intro qR (And.intro @f1 (And.intro @f2 (And.intro @g1' (And.intro @g2' (And.intro @hfE (And.intro @hxz (And.intro @hfz @dec_self))))))); repeat' first | (show Run _ (.cond _ _ _) _ _; refine run_condX (fun hc => ?_) (fun hc => ?_) <;> (try simp only [qH, rng_0] at hc) <;> try contradiction) | (show RunOps _ _ _ _ (⟨_, .call 61, _, _, _⟩ :: _) _ _; refine run_callX (hf := pure61' m o k _ (by omega) (by omega)) (hn := ?_)) | (show RunOps _ _ _ _ (⟨_, .call 61, _, _, _⟩ :: _) _ _; refine run_callX (hf := pure61' m o (k - 1) _ (by omega) (by omega)) (hn := ?_)) | (show RunOps _ _ _ _ (⟨_, .call 44, _, _, _⟩ :: _) _ _; refine run_callX (hf := pure44 l (withM m o (k - 1)) o) (hn := ?_)) | (show RunOps _ _ _ _ (⟨_, .call 58, _, _, _⟩ :: _) _ _; refine run_callX (hf := pure58 l (withM m o k)) (hn := ?_)) | (show RunOps _ _ _ _ (⟨_, .call 57, _, _, _⟩ :: _) _ _; refine run_callX (hf := pure57 l (withM m o k)) (hn := ?_)) | (show RunOps _ _ _ _ (⟨_, .call 18, _, _, _⟩ :: _) _ _; refine run_callX (hf := pure18) (hn := ?_)) | (first | refine Stp.h ?_ | (show ∀ K : St → List Ft → Prop, _; intro K hK) | (show runS _ _ _ _ _; first | refine qY (hq := ?_) | refine qZ (hq := ?_)) | (refine hK _ _ ?_; clear hK K) | (refine hK _ _ rfl ?_; clear hK K) | (refine qZ (hq := ?_); try exact trivial) | omega)
          all_goals first | exact .refl _ | skip
          refine run_loop (κ := Nat) (fun j => ⟨[(24, .p (.sl 3 ((excW l (withM m o k)).map Win.pv))), (229, .p (.sl 3 ((fullL l (withM m o (k - 1)) o).map Win.pv))), (230, .p (.i .i64 (fullL l (withM m o (k - 1)) o).length)), (231, .p (.i .i64 j))], [], [], false⟩) (fun j => j ≤ (fullL l (withM m o (k - 1)) o).length) (fun j => (fullL l (withM m o (k - 1)) o).length - j) 0 ?_ ?_ ?_
          · simp only [qS, Nat.reduceAdd, Nat.reduceMul, Nat.reduceEqDiff, Nat.reduceLeDiff, reduceIte, reduceCtorEq, Nat.reduceBEq, Nat.reduceLT] <;> simp
          · simp
          · intro j hj
            by_cases hjl : j < (fullL l (withM m o (k - 1)) o).length
            · obtain ⟨w, hw1⟩ := some_at (i := j) (l := fullL l (withM m o (k - 1)) o) hjl
              have hwm := List.mem_of_getElem? hw1
              have hwb := full_mem F.m hwm
              have qe := And.intro qR @hw1; repeat' first | (show Run _ (.cond _ _ _) _ _; refine run_condX (fun hc => ?_) (fun hc => ?_) <;> (try simp only [qH, rng_0] at hc) <;> try contradiction) | (first | refine Stp.h ?_ | (show ∀ K : St → List Ft → Prop, _; intro K hK) | (show runS _ _ _ _ _; first | refine qY (hq := ?_) | refine qZ (hq := ?_)) | (refine hK _ _ ?_; clear hK K) | (refine hK _ _ rfl ?_; clear hK K) | (refine qZ (hq := ?_); try exact trivial) | omega)
              refine run_loop (κ := Nat) (fun i => ⟨[(24, .p (.sl 3 ((excW l (withM m o k)).map Win.pv))), (31, .lp 31 0), (32, .p (.b (nmW w ((excW l (withM m o k)).take i)))), (229, .p (.sl 3 ((fullL l (withM m o (k - 1)) o).map Win.pv))), (230, .p (.i .i64 (fullL l (withM m o (k - 1)) o).length)), (231, .p (.i .i64 j)), (235, .p (.sl 3 ((excW l (withM m o k)).map Win.pv))), (236, .p (.i .i64 (excW l (withM m o k)).length)), (237, .p (.i .i64 i))], [(31, .box [.p (.i .i64 w.lim), .p (.i .i64 w.beg), .p (.i .i64 w.cnt)] false)], [], false⟩) (fun i => i ≤ (excW l (withM m o k)).length) (fun i => (excW l (withM m o k)).length - i) 0 ?_ ?_ ?_
              · simp only [qS, Nat.reduceAdd, Nat.reduceMul, Nat.reduceEqDiff, Nat.reduceLeDiff, reduceIte, reduceCtorEq, Nat.reduceBEq, Nat.reduceLT] <;> simp [nmW]
              · simp
              · intro i hi
                by_cases hil : i < (excW l (withM m o k)).length
                · obtain ⟨y, hy1⟩ := some_at (i := i) (l := excW l (withM m o k)) hil
                  have hnx := nmW_next (w := w) hy1
                  have qe := And.intro qR @hy1; repeat' first | (show Run _ (.cond _ _ _) _ _; refine run_condX (fun hc => ?_) (fun hc => ?_) <;> (try simp only [qH, rng_0] at hc) <;> try contradiction) | (first | refine Stp.h ?_ | (show ∀ K : St → List Ft → Prop, _; intro K hK) | (show runS _ _ _ _ _; first | refine qY (hq := ?_) | refine qZ (hq := ?_)) | (refine hK _ _ ?_; clear hK K) | (refine hK _ _ rfl ?_; clear hK K) | (refine qZ (hq := ?_); try exact trivial) | omega)
                  exact ⟨i + 1, by omega, by omega, by rw [hnx], by simp⟩
                · have hN : nmW w ((excW l (withM m o k)).take i) = true := by rw [List.take_of_length_le (by omega)]; exact nmW_mem (hmem w hwm)
                  have qe := And.intro qR @hN; repeat' first | (show Run _ (.cond _ _ _) _ _; refine run_condX (fun hc => ?_) (fun hc => ?_) <;> (try simp only [qH, rng_0] at hc) <;> try contradiction) | (first | refine Stp.h ?_ | (show ∀ K : St → List Ft → Prop, _; intro K hK) | (show runS _ _ _ _ _; first | refine qY (hq := ?_) | refine qZ (hq := ?_)) | (refine hK _ _ ?_; clear hK K) | (refine hK _ _ rfl ?_; clear hK K) | (refine qZ (hq := ?_); try exact trivial) | omega)
                  exact ⟨j + 1, by omega, by omega, by simp⟩
            · have qe := @qR; repeat' first | (show Run _ (.cond _ _ _) _ _; refine run_condX (fun hc => ?_) (fun hc => ?_) <;> (try simp only [qH, rng_0] at hc) <;> try contradiction) | (show RunOps _ _ _ _ (⟨_, .call 18, _, _, _⟩ :: _) _ _; refine run_callX (hf := pure18) (hn := ?_)) | (first | refine Stp.h ?_ | (show ∀ K : St → List Ft → Prop, _; intro K hK) | (show runS _ _ _ _ _; first | refine qY (hq := ?_) | refine qZ (hq := ?_)) | (refine hK _ _ ?_; clear hK K) | (refine hK _ _ rfl ?_; clear hK K) | (refine qZ (hq := ?_); try exact trivial) | omega)
              exact .refl _
  · cases hs : smallB l m with
    | false =>
      have qe := And.intro qR @hs; repeat' first | (show Run _ (.cond _ _ _) _ _; refine run_condX (fun hc => ?_) (fun hc => ?_) <;> (try simp only [qH, rng_0] at hc) <;> try contradiction) | (show RunOps _ _ _ _ (⟨_, .call 14, _, _, _⟩ :: _) _ _; refine run_callX (hf := pure14 l hn) (hn := ?_)) | (show RunOps _ _ _ _ (⟨_, .call 60, _, _, _⟩ :: _) _ _; refine run_callX (hf := pure60 l m) (hn := ?_)) | (show RunOps _ _ _ _ (⟨_, .call 42, _, _, _⟩ :: _) _ _; refine run_callGX (hf := fun hc => (by first | exact pure42 o | (simp only [qH, rng_0] at hc; exact pure42 o))) (hn := ?_)) | (show RunOps _ _ _ _ (⟨_, .call 45, _, _, _⟩ :: _) _ _; refine run_callGX (hf := fun hc => (by first | exact pure45 o | (simp only [qH, rng_0] at hc; exact pure45 o))) (hn := ?_)) | (show RunOps _ _ _ _ (⟨_, .call 18, _, _, _⟩ :: _) _ _; refine run_callX (hf := pure18) (hn := ?_)) | (first | refine Stp.h ?_ | (show ∀ K : St → List Ft → Prop, _; intro K hK) | (show runS _ _ _ _ _; first | refine qY (hq := ?_) | refine qZ (hq := ?_)) | (refine hK _ _ ?_; clear hK K) | (refine hK _ _ rfl ?_; clear hK K) | (refine qZ (hq := ?_); try exact trivial) | omega)
      all_goals exact .refl _
    | true =>
      cases ho : shMov o with
      | false =>
        have qe := And.intro qR (And.intro @hs @ho); repeat' first | (show Run _ (.cond _ _ _) _ _; refine run_condX (fun hc => ?_) (fun hc => ?_) <;> (try simp only [qH, rng_0] at hc) <;> try contradiction) | (show RunOps _ _ _ _ (⟨_, .call 14, _, _, _⟩ :: _) _ _; refine run_callX (hf := pure14 l hn) (hn := ?_)) | (show RunOps _ _ _ _ (⟨_, .call 60, _, _, _⟩ :: _) _ _; refine run_callX (hf := pure60 l m) (hn := ?_)) | (show RunOps _ _ _ _ (⟨_, .call 42, _, _, _⟩ :: _) _ _; refine run_callGX (hf := fun hc => (by first | exact pure42 o | (simp only [qH, rng_0] at hc; exact pure42 o))) (hn := ?_)) | (show RunOps _ _ _ _ (⟨_, .call 45, _, _, _⟩ :: _) _ _; refine run_callGX (hf := fun hc => (by first | exact pure45 o | (simp only [qH, rng_0] at hc; exact pure45 o))) (hn := ?_)) | (show RunOps _ _ _ _ (⟨_, .call 18, _, _, _⟩ :: _) _ _; refine run_callX (hf := pure18) (hn := ?_)) | (first | refine Stp.h ?_ | (show ∀ K : St → List Ft → Prop, _; intro K hK) | (show runS _ _ _ _ _; first | refine qY (hq := ?_) | refine qZ (hq := ?_)) | (refine hK _ _ ?_; clear hK K) | (refine hK _ _ rfl ?_; clear hK K) | (refine qZ (hq := ?_); try exact trivial) | omega)
        all_goals exact .refl _
      | true =>
        have hco : (chkMov o = 0) = False := eq_false fun e => h ⟨hs, ho, e⟩
        have qe := And.intro qR (And.intro @hs (And.intro @ho @hco)); repeat' first | (show Run _ (.cond _ _ _) _ _; refine run_condX (fun hc => ?_) (fun hc => ?_) <;> (try simp only [qH, rng_0] at hc) <;> try contradiction) | (show RunOps _ _ _ _ (⟨_, .call 14, _, _, _⟩ :: _) _ _; refine run_callX (hf := pure14 l hn) (hn := ?_)) | (show RunOps _ _ _ _ (⟨_, .call 60, _, _, _⟩ :: _) _ _; refine run_callX (hf := pure60 l m) (hn := ?_)) | (show RunOps _ _ _ _ (⟨_, .call 42, _, _, _⟩ :: _) _ _; refine run_callGX (hf := fun hc => (by first | exact pure42 o | (simp only [qH, rng_0] at hc; exact pure42 o))) (hn := ?_)) | (show RunOps _ _ _ _ (⟨_, .call 45, _, _, _⟩ :: _) _ _; refine run_callGX (hf := fun hc => (by first | exact pure45 o | (simp only [qH, rng_0] at hc; exact pure45 o))) (hn := ?_)) | (show RunOps _ _ _ _ (⟨_, .call 18, _, _, _⟩ :: _) _ _; refine run_callX (hf := pure18) (hn := ?_)) | (first | refine Stp.h ?_ | (show ∀ K : St → List Ft → Prop, _; intro K hK) | (show runS _ _ _ _ _; first | refine qY (hq := ?_) | refine qZ (hq := ?_)) | (refine hK _ _ ?_; clear hK K) | (refine hK _ _ rfl ?_; clear hK K) | (refine qZ (hq := ?_); try exact trivial) | omega)
        all_goals exact .refl _
theorem lifted8 (os : Os) (started : os.Started) (H : Type) (enc : TypeId × Value → H) : ReturnsInHanded {} Tryz.checked os 8 .any (Rows.capacityExactSpec.pre6 enc Tryz.prog Tryz.f8 Rows.capacityExactRow.domain false) (Rows.capacityExactSpec.post enc Tryz.prog Tryz.f8 false true false false) := by
  refine returnsInHanded_of_change_shaped (C := Tryz.checked) own started (by kernel_rfl) Tryz.func8
    (ChangeSpec.witness6 (enc := enc) (C := Tryz.checked) false ⟨#[], #[.slice none 0 0, .slice none 0 0, .agg #[zi, zs, zs, zi, zi, zi, zs]], []⟩ 8 (by kernel_rfl) (by kernel_rfl) (by kernel_rfl) (by kernel_rfl)) ?_
  intro W base args ds gs before hval hW _ hsz _ _
  refine law_contract (C := Tryz.checked) (n := 4) (tb := 4) laid (by kernel_rfl) rfl (fun H ds hd => ?_) (by kernel_rfl) und4 (by kernel_rfl) (fun ps hps => ?_) W base args ds gs before hval hW hsz
  · match ds, hd with
    | [_, _, _], _ => rfl
  · match ps, hps with
    | [a, b, c], ⟨ha, hb, hc, _⟩ =>
      obtain ⟨l, rfl, hl⟩ := fit_lims ha
      obtain ⟨m, rfl⟩ := fit_movs hb
      obtain ⟨o, rfl⟩ := fit_mov hc
      exact pure8 l m o hl
theorem exact_over : Rows.capacityExactRow.holds Tryz.pinned (OpenSpec.ofChange Rows.capacityExactSpec) :=
  OpenClaim.holds_of_wide 8 Tryz.f8 rfl rfl rfl rfl rfl rfl rfl ⟨rfl, rfl, rfl, rfl, rfl⟩ rfl rfl rfl rfl rfl (by kernel_rfl) Tryz.func8 (by kernel_rfl)
    (of_decide_eq_true (by kernel_rfl)) (by unfold Func.isWrapper; first | (rw [if_pos (by decide +kernel)]; kernel_rfl) | (rw [if_neg (by decide +kernel)]; exact ⟨rfl, rfl⟩))
    (fun os started H enc _ => lifted8 os started H enc)
theorem exact_proved : Rows.CapacityExactSaid := exact_over
end Go.Proofs.YtcfbdeghmckelaaGreat
