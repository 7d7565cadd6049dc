/- The statement CapacityMonotone is proved: the room under two lists of limits is the lesser one, more movements and lower limits never give more room, and a limit put and taken away leaves the limits as they were. No conditions. -/
import Derived.Test.YtcfbdeghmckelaaGreatJ4
set_option linter.all false
namespace Go.Proofs.YtcfbdeghmckelaaGreat
open Go.RowKit Go.ChangeShapes Go.WideShapes Go.ChangeAt
set_option maxRecDepth 100000
set_option linter.unusedVariables false
set_option linter.unusedSimpArgs false
set_option maxHeartbeats 4000000
abbrev seaPV (r : Req) (a b : Int) : PV := .agg [.s r.name, .s r.carrier, .s r.kind, .s r.term, .s r.partner, .s r.link, .i .i64 r.per.fro, .i .i64 r.per.to, .i .i64 r.per.days, .i .i64 r.minute, .i .i64 r.seats, .i .i64 r.size, .i .i64 r.noise, .i .i64 a, .i .i64 b]
theorem decB_self (x : Bool) : (decide (x = x)) = true := decide_eq_true rfl
theorem par88 : parP Tryz.prog 4 88 = some (true, [.s, .s, .s, .s, .s, .s, iT, iT, iT, iT, iT, iT, iT, iT, iT]) := by kernel_rfl
theorem fit_sea {p : PV} (h : FitPar Tryz.prog 4 88 p) : ∃ r a b, p = seaPV r a b := by
  obtain ⟨⟨ag, c, l, hp, rfl, hl⟩, hb⟩ := h
  rw [par88] at hp
  simp only [Option.some.injEq, Prod.mk.injEq] at hp
  obtain ⟨rfl, rfl⟩ := hp
  match l, hl with
  | [_, _, _, _, _, _, _, _, _, _, _, _, _, _, _], ⟨⟨a, ha⟩, ⟨b, hb⟩, ⟨c, hc⟩, ⟨d, hd⟩, ⟨e, he⟩, ⟨f, hf⟩, ⟨g, hg⟩, ⟨i, hi⟩, ⟨j, hj⟩, ⟨k, hk⟩, ⟨m, hm⟩, ⟨n, hn⟩, ⟨o, ho⟩, ⟨q, hq⟩, ⟨s, hs⟩, _⟩ =>
    subst ha hb hc hd he hf hg hi hj hk hm hn ho hq hs
    exact ⟨⟨a, b, c, d, e, f, ⟨g, i, j⟩, k, m, n, o⟩, q, s, rfl⟩
end Go.Proofs.YtcfbdeghmckelaaGreat
namespace Go.Proofs.YtcfbdeghmckelaaGreat
open Go.RowKit
set_option maxRecDepth 100000
set_option linter.unusedVariables false
set_option linter.unusedSimpArgs false
set_option maxHeartbeats 2000000
def insAt (bef : Mov → Mov → Bool) (x : Mov) (out : List Mov) : Nat → Nat
  | 0 => 0
  | n + 1 => match out[n]? with
    | some y => if bef x y then insAt bef x out n else n + 1
    | none => n + 1
def insM (bef : Mov → Mov → Bool) (out : List Mov) (x : Mov) : List Mov := out.take (insAt bef x out out.length) ++ x :: out.drop (insAt bef x out out.length)
def mergeM (bef : Mov → Mov → Bool) (a b : List Mov) : List Mov := (a ++ b).foldl (insM bef) []
theorem insAt_le (bef : Mov → Mov → Bool) (x : Mov) (out : List Mov) : ∀ n, insAt bef x out n ≤ n
  | 0 => Nat.le_refl _
  | n + 1 => by
    have := insAt_le bef x out n
    simp only [insAt]; (repeat' split) <;> omega
theorem insAt_ge (bef : Mov → Mov → Bool) (x : Mov) (out : List Mov) : ∀ n i, insAt bef x out n ≤ i → i < n → ∃ y, out[i]? = some y ∧ bef x y = true
  | 0, i, _, h => by omega
  | n + 1, i, h, hi => by
    simp only [insAt] at h
    split at h
    · rename_i y hy
      split at h
      · by_cases e : i = n
        · subst e; exact ⟨y, hy, by assumption⟩
        · exact insAt_ge bef x out n i h (by omega)
      · omega
    · omega
theorem insAt_last (bef : Mov → Mov → Bool) (x : Mov) (out : List Mov) : ∀ n k y, insAt bef x out n = k + 1 → out[k]? = some y → bef x y = false
  | 0, _, _, h, _ => by cases h
  | n + 1, k, y, h, hy => by
    simp only [insAt] at h
    split at h
    · rename_i z hz
      split at h
      · exact insAt_last bef x out n k y h hy
      · have e : n = k := by omega
        subst e
        rw [hz] at hy
        cases hy
        rename_i hb
        simpa using hb
    · rename_i hz
      have e : n = k := by omega
      subst e
      rw [hz] at hy; cases hy
theorem insM_perm (bef : Mov → Mov → Bool) (out : List Mov) (x : Mov) : (insM bef out x).Perm (x :: out) := by
  unfold insM
  refine List.perm_middle.trans ?_
  rw [List.take_append_drop]
theorem foldl_perm (bef : Mov → Mov → Bool) : ∀ (l out : List Mov), (l.foldl (insM bef) out).Perm (out ++ l)
  | [], out => by simp
  | x :: l, out => by
    refine (foldl_perm bef l (insM bef out x)).trans ?_
    refine ((insM_perm bef out x).append_right l).trans ?_
    simpa using (List.perm_middle (a := x) (l₁ := out) (l₂ := l)).symm
theorem merge_perm (bef : Mov → Mov → Bool) (a b : List Mov) : (mergeM bef a b).Perm (a ++ b) := by
  simpa [mergeM] using foldl_perm bef (a ++ b) []
abbrev sortedM (l : List Mov) : Prop := l.Pairwise fun x y => x.moment ≤ y.moment
theorem insM_sorted {bef : Mov → Mov → Bool} (h1 : ∀ a b, bef a b = true → a.moment ≤ b.moment) (h2 : ∀ a b, bef a b = false → b.moment ≤ a.moment) {out : List Mov} (h : sortedM out) (x : Mov) : sortedM (insM bef out x) := by
  unfold insM
  generalize hk : insAt bef x out out.length = k
  have hkl := insAt_le bef x out out.length
  rw [hk] at hkl
  have hge := insAt_ge bef x out out.length
  have hla := insAt_last bef x out out.length
  rw [hk] at hge hla
  have hs : sortedM (out.take k ++ out.drop k) := by rw [List.take_append_drop]; exact h
  have hs := List.pairwise_append.1 hs
  have hdrop : ∀ y ∈ out.drop k, x.moment ≤ y.moment := fun y hy => by
    obtain ⟨i, hi⟩ := List.getElem?_of_mem hy
    rw [List.getElem?_drop] at hi
    have hlt := (List.getElem?_eq_some_iff.1 hi).1
    obtain ⟨z, hz, hb⟩ := hge (k + i) (by omega) hlt
    rw [hi] at hz; cases hz
    exact h1 _ _ hb
  have htake : ∀ y ∈ out.take k, y.moment ≤ x.moment := fun y hy => by
    cases k with
    | zero => simp at hy
    | succ k =>
      obtain ⟨z, hz⟩ : ∃ z, out[k]? = some z := ⟨_, List.getElem?_eq_getElem (by omega)⟩
      have hb := h2 _ _ (hla k z rfl hz)
      obtain ⟨i, hi⟩ := List.getElem?_of_mem hy
      have hik : i < k + 1 := by
        have := (List.getElem?_eq_some_iff.1 hi).1
        simp only [List.length_take] at this; omega
      rw [List.getElem?_take, if_pos hik] at hi
      by_cases e : i = k
      · subst e; rw [hz] at hi; cases hi; exact hb
      · have hlt := (List.getElem?_eq_some_iff.1 hi).1
        have := List.pairwise_iff_getElem.1 h i k hlt (by omega) (by omega)
        rw [List.getElem?_eq_getElem hlt] at hi
        rw [List.getElem?_eq_getElem (by omega)] at hz
        have e1 := Option.some.inj hi
        have e2 := Option.some.inj hz
        rw [e1, e2] at this
        omega
  refine List.pairwise_append.2 ⟨hs.1, List.pairwise_cons.2 ⟨hdrop, hs.2.1⟩, fun a ha b hb => ?_⟩
  rcases List.mem_cons.1 hb with rfl | hb
  · exact htake a ha
  · exact hs.2.2 a ha b hb
theorem foldl_sorted {bef : Mov → Mov → Bool} (h1 : ∀ a b, bef a b = true → a.moment ≤ b.moment) (h2 : ∀ a b, bef a b = false → b.moment ≤ a.moment) : ∀ (l out : List Mov), sortedM out → sortedM (l.foldl (insM bef) out)
  | [], _, h => h
  | x :: l, _, h => foldl_sorted h1 h2 l _ (insM_sorted h1 h2 h x)
theorem merge_sorted {bef : Mov → Mov → Bool} (h1 : ∀ a b, bef a b = true → a.moment ≤ b.moment) (h2 : ∀ a b, bef a b = false → b.moment ≤ a.moment) (a b : List Mov) : sortedM (mergeM bef a b) := foldl_sorted h1 h2 _ _ List.Pairwise.nil
theorem firstE_all {l : List Int} (h : ∀ x ∈ l, x = 0) : firstE l = 0 := by
  induction l with
  | nil => rfl
  | cons x r ih => exact firstE_cons.2 ⟨h x (by simp), ih fun y hy => h y (by simp [hy])⟩
theorem chkMovs_of {m : List Mov} (hn : m.length ≤ 30000) (hc : ∀ x ∈ m, chkMov x = 0) (hs : sortedM m) : chkMovs m = 0 := by
  rw [chkMovs, if_neg (by omega)]
  refine firstE_all fun e he => ?_
  obtain ⟨i, hi⟩ := List.getElem?_of_mem he
  simp only [movErrs, List.getElem?_mapIdx, Option.map_eq_some_iff] at hi
  obtain ⟨x, hx, rfl⟩ := hi
  refine firstE_cons.2 ⟨hc x (List.mem_of_getElem? hx), firstE_cons.2 ⟨if_neg fun hh => ?_, rfl⟩⟩
  have hlt := (List.getElem?_eq_some_iff.1 hx).1
  have := List.pairwise_iff_getElem.1 hs (i - 1) i (by omega) hlt (by omega)
  rw [List.getElem?_eq_getElem (by omega), Option.getD_some] at hh
  rw [List.getElem?_eq_getElem hlt] at hx
  rw [Option.some.inj hx] at this
  omega
theorem cnt_perm {l : Lim} (h : 0 ≤ l.len) {a b : List Mov} (hp : a.Perm b) (w : Int) : cntAll l a w = cntAll l b w := by
  rw [cnt_filter h, cnt_filter h, (hp.filter _).length_eq]
theorem cnt_app {l : Lim} (h : 0 ≤ l.len) (a b : List Mov) (w : Int) : cntAll l (a ++ b) w = cntAll l a w + cntAll l b w := by
  rw [cnt_filter h, cnt_filter h, cnt_filter h, List.filter_append, List.length_append]; omega
theorem cnt_rep {l : Lim} (h : 0 ≤ l.len) (o : Mov) (k : Nat) (w : Int) : cntAll l (List.replicate k o) w = if inW l w o then (k : Int) else 0 := by
  rw [cnt_filter h]
  split
  · rename_i e; rw [List.filter_replicate_of_pos e, List.length_replicate]
  · rename_i e; rw [List.filter_replicate_of_neg e]; rfl
end Go.Proofs.YtcfbdeghmckelaaGreat
namespace Go.Proofs.YtcfbdeghmckelaaGreat
open Go.RowKit
set_option maxRecDepth 100000
set_option linter.unusedVariables false
set_option linter.unusedSimpArgs false
set_option maxHeartbeats 2000000
def Win.add (k : Int) (w : Win) : Win := ⟨w.lim, w.beg, w.cnt + k⟩
def Adds (ls : List Lim) (m m' : List Mov) (o : Mov) (k : Int) : Prop := ∀ l ∈ ls, ∀ b, cntAll l m' b = cntAll l m b + if inW l b o then k else 0
theorem arL_add {m m' : List Mov} {o : Mov} {k : Int} {l : Lim} (h : ∀ b, cntAll l m' b = cntAll l m b + if inW l b o then k else 0) (i : Nat) : arL m' o i l = (arL m o i l).map (Win.add k) := by
  unfold arL
  split
  · rename_i hc
    rw [List.map_flatMap]
    refine flat_congr fun e _ => ?_
    unfold arX arD
    rw [List.map_flatMap]
    refine flat_congr fun b _ => ?_
    unfold arB
    split
    · rename_i hb
      rw [h b, if_pos (by simp only [inW, hc, Bool.true_and, Bool.and_eq_true, decide_eq_true_eq]; exact hb)]
      rfl
    · rfl
  · rfl
theorem arW_add {ls : List Lim} {m m' : List Mov} {o : Mov} {k : Int} (h : Adds ls m m' o k) : arW ls m' o = (arW ls m o).map (Win.add k) := by
  unfold arW arK
  rw [List.map_flatMap]
  refine flat_congr fun i _ => ?_
  unfold arI
  split
  · rename_i l hl; exact arL_add (h l (List.mem_of_getElem? hl)) i
  · rfl
theorem roomK_char (ls : List Lim) : ∀ (W : List Win) (a : Int), (W.foldl (roomStep ls) a ≤ a ∧ ∀ w ∈ W, W.foldl (roomStep ls) a ≤ max 0 (mostAt ls w.lim - w.cnt)) ∧ (W.foldl (roomStep ls) a = a ∨ ∃ w ∈ W, W.foldl (roomStep ls) a = max 0 (mostAt ls w.lim - w.cnt))
  | [], a => ⟨⟨Int.le_refl _, fun w hw => by cases hw⟩, .inl rfl⟩
  | x :: r, a => by
    obtain ⟨⟨h1, h2⟩, h3⟩ := roomK_char ls r (roomStep ls a x)
    rw [List.foldl_cons]
    have e : roomStep ls a x = min a (max 0 (mostAt ls x.lim - x.cnt)) := rfl
    refine ⟨⟨by omega, fun w hw => ?_⟩, ?_⟩
    · rcases List.mem_cons.1 hw with rfl | hw
      · omega
      · exact h2 w hw
    · rcases h3 with h3 | ⟨w, hw, h3⟩
      · by_cases c : a ≤ max 0 (mostAt ls x.lim - x.cnt)
        · exact .inl (by omega)
        · exact .inr ⟨x, by simp, by omega⟩
      · exact .inr ⟨w, by simp [hw], h3⟩
theorem room_add {ls : List Lim} {m m' : List Mov} {o : Mov} {k : Int} (h : Adds ls m m' o k) (hk : 0 ≤ k) (h1 : k ≤ roomL ls m o) (h2 : roomL ls m o < 999999999) : roomL ls m' o = roomL ls m o - k := by
  have c1 := roomK_char ls (arW ls m o) 999999999
  have c2 := roomK_char ls (arW ls m' o) 999999999
  rw [arW_add h] at c2
  have e1 : roomL ls m o = (arW ls m o).foldl (roomStep ls) 999999999 := rfl
  have e2 : roomL ls m' o = ((arW ls m o).map (Win.add k)).foldl (roomStep ls) 999999999 := by rw [← arW_add h]; rfl
  rw [← e1] at c1
  rw [← e2] at c2
  obtain ⟨⟨a1, a2⟩, a3⟩ := c1
  obtain ⟨⟨b1, b2⟩, b3⟩ := c2
  obtain ⟨w, hw, a3⟩ := a3.resolve_left (by omega)
  have b2w := b2 (Win.add k w) (List.mem_map_of_mem hw)
  simp only [Win.add] at b2w
  rcases b3 with b3 | ⟨v, hv, b3⟩
  · omega
  · obtain ⟨u, hu, rfl⟩ := List.mem_map.1 hv
    have := a2 u hu
    simp only [Win.add] at b3
    omega
theorem full_zero {ls : List Lim} {m : List Mov} {o : Mov} : roomL ls m o = 0 ↔ fullL ls m o ≠ [] := by
  obtain ⟨⟨a1, a2⟩, a3⟩ := roomK_char ls (arW ls m o) 999999999
  have e1 : roomL ls m o = (arW ls m o).foldl (roomStep ls) 999999999 := rfl
  rw [← e1] at a1 a2 a3
  constructor
  · intro h hn
    obtain ⟨w, hw, a3⟩ := a3.resolve_left (by omega)
    have : w ∈ fullL ls m o := List.mem_filter.2 ⟨hw, by simp only [decide_eq_true_eq]; omega⟩
    rw [hn] at this; cases this
  · intro h
    obtain ⟨w, hw⟩ := List.exists_mem_of_ne_nil _ h
    have hw := List.mem_filter.1 hw
    have := a2 w hw.1
    simp only [decide_eq_true_eq] at hw
    rcases a3 with a3 | ⟨v, _, a3⟩ <;> omega
end Go.Proofs.YtcfbdeghmckelaaGreat
namespace Go.Proofs.YtcfbdeghmckelaaGreat
open Go.RowKit
set_option maxRecDepth 100000
set_option linter.unusedVariables false
set_option linter.unusedSimpArgs false
set_option maxHeartbeats 2000000
theorem win_at {l : Lim} (h : chkLim l = 0) {b : Int} (hb : b ∈ windowsL l) : b ∈ beginsL l (b / 1440) := by
  rw [windows_eq h, List.mem_flatMap] at hb
  obtain ⟨d, hd, hb⟩ := hb
  have hb2 : b ∈ beginsL l d := by rw [beginsL_day h, if_pos hd]; exact hb
  have := beginsL_mem h hb2
  rw [show b / 1440 = d by omega]; exact hb2
theorem win_of {l : Lim} (h : chkLim l = 0) {b d : Int} (hb : b ∈ beginsL l d) : b ∈ windowsL l := by
  rw [beginsL_day h] at hb
  split at hb
  · rename_i hd
    rw [windows_eq h, List.mem_flatMap]; exact ⟨d, hd, hb⟩
  · cases hb
theorem ar_mem {ls : List Lim} {m : List Mov} {o : Mov} {i : Nat} {l : Lim} {b : Int} (hi : ls[i]? = some l) (h : chkLim l = 0) (hb : b ∈ windowsL l) (hw : inW l b o = true) : (⟨i, b, cntAll l m b⟩ : Win) ∈ arW ls m o := by
  have hl := chkLim_0 h
  have hlt := (List.getElem?_eq_some_iff.1 hi).1
  simp only [inW, Bool.and_eq_true, decide_eq_true_eq] at hw
  have hd := win_at h hb
  unfold arW arK
  refine List.mem_flatMap.2 ⟨i, List.mem_range.2 hlt, ?_⟩
  unfold arI
  rw [hi]
  simp only
  unfold arL
  rw [if_pos hw.1]
  refine List.mem_flatMap.2 ⟨(b / 1440 - o.moment / 1440 + 1).toNat, List.mem_range.2 (by omega), ?_⟩
  unfold arX arD
  refine List.mem_flatMap.2 ⟨b, ?_, ?_⟩
  · rw [show o.moment / 1440 - 1 + ((b / 1440 - o.moment / 1440 + 1).toNat : Int) = b / 1440 by omega]; exact hd
  · unfold arB; rw [if_pos hw.2]; simp
theorem exc_same {ls : List Lim} {m m' : List Mov} {o : Mov} {k : Int} (hl : ∀ l ∈ ls, chkLim l = 0) (h : Adds ls m m' o k) (hk : 0 ≤ k) (h1 : k ≤ roomL ls m o) : (excW ls m').map (fun w => (w.lim, w.beg)) = (excW ls m).map (fun w => (w.lim, w.beg)) := by
  unfold excW excK
  rw [List.map_flatMap, List.map_flatMap]
  refine flat_congr fun i _ => ?_
  unfold excI
  split
  · rename_i l hi
    have hm := List.mem_of_getElem? hi
    unfold excL
    rw [List.map_flatMap, List.map_flatMap]
    refine flat_congr fun b hb => ?_
    unfold excB
    rw [h l hm b]
    by_cases hw : inW l b o = true
    · have ha := ar_mem (m := m) hi (hl l hm) hb hw
      have c := (roomK_char ls (arW ls m o) 999999999).1.2 _ ha
      have e : mostAt ls (i : Int) = l.most := by simp only [mostAt, Int.toNat_natCast, hi]
      have e1 : roomL ls m o = (arW ls m o).foldl (roomStep ls) 999999999 := rfl
      rw [← e1] at c
      simp only [e] at c
      rw [if_pos hw]
      by_cases hx : l.most < cntAll l m b
      · rw [if_pos (by omega), if_pos hx]; rfl
      · rw [if_neg (by omega), if_neg hx]
    · rw [if_neg hw, Int.add_zero]
  · rfl
theorem exc_over {ls : List Lim} {m m' : List Mov} {o : Mov} (hl : ∀ l ∈ ls, chkLim l = 0) (h : Adds ls m m' o 1) {w : Win} (hw : w ∈ fullL ls m o) : w.add 1 ∈ excW ls m' := by
  have hw := List.mem_filter.1 hw
  obtain ⟨i, l, h1, h2, h3, h4, h5, h6, e, he, hb⟩ := arW_at hw.1
  have hm := List.mem_of_getElem? h2
  have hlt := (List.getElem?_eq_some_iff.1 h2).1
  have hf := hw.2
  simp only [decide_eq_true_eq, h1, mostAt, Int.toNat_natCast, h2] at hf
  unfold excW excK
  refine List.mem_flatMap.2 ⟨i, List.mem_range.2 hlt, ?_⟩
  unfold excI
  rw [h2]
  simp only
  unfold excL
  refine List.mem_flatMap.2 ⟨w.beg, win_of (hl l hm) hb, ?_⟩
  have hin : inW l w.beg o = true := by simp only [inW, h4, Bool.true_and, Bool.and_eq_true, decide_eq_true_eq]; exact ⟨h5, h6⟩
  unfold excB
  rw [h l hm, if_pos hin, if_pos (by omega), List.mem_singleton, Win.add, h1, h3]
end Go.Proofs.YtcfbdeghmckelaaGreat
namespace Go.Proofs.YtcfbdeghmckelaaGreat
open Go.RowKit
theorem RelC.pub {X : Fx} {C : Ctx} {tr : List (List PV)} {stop : Bool} {a : Act} {w : World} {s : St} (hM : X.MOk) (h : RelC X C s.get s.look tr stop a w) (t : Nat) {pre : Prop} {v v' : PV} {ks : List Nat} (ht : toPV s.look 4 (s.get t) = some (pre, v, ks)) (hp : pre) (hw : Weak v v') :
    ∃ C', RelC X C' ((s.wrs (frzs s.look ks)).set (some t) (.p v')).get ((s.wrs (frzs s.look ks)).set (some t) (.p v')).look tr stop a w := by
  obtain ⟨C', h1, h2, h3⟩ := freezes hM s.look C ks s C h rfl rfl (fun _ h => h) (fun k => .inl rfl) (toPV_keys 4 ht)
  have hr := toPV_rep h (B' := C'.B) h2 4 (h.env t) ht hp h3
  refine ⟨C', ?_⟩
  rw [get_set, look_set]
  refine { h1 with env := fun j => ?_, envs := fun j => ?_ }
  · by_cases e : j = t
    · subst e; simp only [upd_same]; exact .p (hw.rep hr)
    · simp only [upd_ne _ _ e]; exact h1.env j
  · by_cases e : j = t
    · subst e; simp only [upd_same]; exact .p _
    · simp only [upd_ne _ _ e]; exact h1.envs j
theorem run_pub {G : Cfg} {c : AC} {s : St} {Q : APost} (t : Nat) (v' : PV) {pre : Prop} {v : PV} {ks : List Nat} (ht : toPV s.look 4 (s.get t) = some (pre, v, ks)) (hp : pre) (hw : Weak v v')
    (h : Run G c ((s.wrs (frzs s.look ks)).set (some t) (.p v')) Q) : Run G c s Q := by
  intro hG code hc C a w hr
  obtain ⟨C', h'⟩ := hr.pub hG.mok t ht hp hw
  refine h hG code hc C' a w ?_
  rw [(tr_set _ _ _).1, (tr_set _ _ _).2, (tr_wrs _ _).1, (tr_wrs _ _).2]
  exact h'
inductive Pubs : St → St → Prop
  | cov {s s' : St} (h : Cov s s') : Pubs s s'
  | pub {s s' : St} (t : Nat) (v' : PV) {pre : Prop} {v : PV} {ks : List Nat} (ht : toPV s.look 4 (s.get t) = some (pre, v, ks)) (hp : pre) (hw : Weak v v') (h : Pubs ((s.wrs (frzs s.look ks)).set (some t) (.p v')) s') : Pubs s s'
theorem Pubs.rel {X : Fx} {a : Act} {w : World} {s s' : St} (hM : X.MOk) (h : Pubs s s') : ∀ {C : Ctx}, RelC X C s.get s.look s.tr s.stop a w → ∃ C', RelC X C' s'.get s'.look s'.tr s'.stop a w := by
  induction h with
  | cov h => exact fun hr => ⟨_, cov_rel h hr⟩
  | pub t v' ht hp hw _ ih =>
    intro C hr
    obtain ⟨C', h'⟩ := hr.pub hM t ht hp hw
    refine ih (C := C') ?_
    rw [(tr_set _ _ _).1, (tr_set _ _ _).2, (tr_wrs _ _).1, (tr_wrs _ _).2]
    exact h'
theorem Pubs.x {s s' : St} (t : Nat) (v' : PV) {pre : Prop} {v : PV} {ks : List Nat} (h : Pubs ((s.wrs (frzs s.look ks)).set (some t) (.p v')) s')
    (ht : toPV s.look 4 (s.get t) = some (pre, v, ks) := by simp (disch := omega) only [qS, qe, Nat.reduceAdd, Nat.reduceMul, Nat.reduceEqDiff, Nat.reduceLeDiff, reduceIte, reduceCtorEq, Nat.reduceBEq, Nat.reduceLT] <;> rfl)
    (hp : pre := by first | trivial | omega | (simp; done) | (simp (disch := omega) only [qS, qe, Nat.reduceAdd, Nat.reduceMul, Nat.reduceEqDiff, Nat.reduceLeDiff, reduceIte, reduceCtorEq, Nat.reduceBEq, Nat.reduceLT] <;> omega)) (hw : Weak v v' := by first | exact .refl _ | exact .nilsl _) : Pubs s s' := .pub t v' ht hp hw h
theorem run_pubX {G : Cfg} {c : AC} {s : St} {Q : APost} (t : Nat) (v' : PV) {pre : Prop} {v : PV} {ks : List Nat} (h : Run G c ((s.wrs (frzs s.look ks)).set (some t) (.p v')) Q)
    (ht : toPV s.look 4 (s.get t) = some (pre, v, ks) := by simp (disch := omega) only [qS, qe, Nat.reduceAdd, Nat.reduceMul, Nat.reduceEqDiff, Nat.reduceLeDiff, reduceIte, reduceCtorEq, Nat.reduceBEq, Nat.reduceLT] <;> rfl)
    (hp : pre := by first | trivial | omega | (simp; done) | (simp (disch := omega) only [qS, qe, Nat.reduceAdd, Nat.reduceMul, Nat.reduceEqDiff, Nat.reduceLeDiff, reduceIte, reduceCtorEq, Nat.reduceBEq, Nat.reduceLT] <;> omega)) (hw : Weak v v' := by first | exact .refl _ | exact .nilsl _) : Run G c s Q := run_pub t v' ht hp hw h
def LoopEnd {κ : Type} (inv : κ → St) (ok : κ → Prop) (μ : κ → Nat) (k : κ) (s : St) : Prop := ∃ k', ok k' ∧ μ k' < μ k ∧ Pubs s (inv k')
def loopP {κ : Type} (inv : κ → St) (ok : κ → Prop) (μ : κ → Nat) (k : κ) (Q : APost) : APost
  | .normal, s => LoopEnd inv ok μ k s
  | e, s => Q e s
section
variable {κ : Type} (inv : κ → St) (ok : κ → Prop) (μ : κ → Nat) (k : κ) (Q : APost) (s : St)
theorem lpN : loopP inv ok μ k Q .normal s = LoopEnd inv ok μ k s := rfl
theorem lpE (i : Nat) : loopP inv ok μ k Q (.exit i) s = Q (.exit i) s := rfl
theorem lpR : loopP inv ok μ k Q .ret s = Q .ret s := rfl
end
theorem run_loopP {κ : Type} {G : Cfg} {Q : APost} {s : St} {c : AC} (inv : κ → St) (ok : κ → Prop) (μ : κ → Nat) (k0 : κ) (h0 : Pubs s (inv k0)) (hk0 : ok k0) (hbody : ∀ k, ok k → Run G c (inv k) (loopP inv ok μ k Q)) : Run G (.loop c) s Q := by
  intro hG code hc C a w hr
  obtain ⟨C1, hr⟩ := h0.rel hG.mok hr
  cases code <;> simp only [compile, Option.map_eq_some_iff] at hc
  case loop c1 =>
    obtain ⟨x', h1, hc⟩ := hc
    injection hc with e1; subst e1
    obtain ⟨m, hm⟩ := least_of fun a w n => ∃ k C, ok k ∧ μ k = n ∧ RelC G.X C (inv k).get (inv k).look (inv k).tr (inv k).stop a w
    refine wpIn_loop (fun a w => ∃ n k C, ok k ∧ μ k = n ∧ RelC G.X C (inv k).get (inv k).look (inv k).tr (inv k).stop a w) m ⟨_, k0, C1, hk0, rfl, hr⟩ ?_
    intro a w hI
    obtain ⟨⟨k, C, hok, hμ, hr⟩, hmin⟩ := hm a w hI
    refine wpIn_mono (hbody k hok hG c1 h1 C a w hr) ?_
    rintro e a' w' ⟨s', C', hr', hq⟩
    cases e with
    | normal =>
      obtain ⟨k', hok', hlt, hcov⟩ := hq
      obtain ⟨C2, hr2⟩ := hcov.rel hG.mok hr'
      have hex : ∃ n, (fun a w n => ∃ k C, ok k ∧ μ k = n ∧ RelC G.X C (inv k).get (inv k).look (inv k).tr (inv k).stop a w) a' w' n := ⟨_, k', C2, hok', rfl, hr2⟩
      refine ⟨hex, ?_⟩
      have := (hm a' w' hex).2 (μ k') ⟨k', C2, hok', rfl, hr2⟩
      omega
    | exit id => exact ⟨s', C', hr', hq⟩
    | ret => exact ⟨s', C', hr', hq⟩
    | goto l => exact hq.elim
    | panic c => exact hq.elim
    | outgrown => exact hq.elim
  all_goals first | (cases hc; done) | (obtain ⟨_, _, hc⟩ := hc; cases hc; done) | (split at hc <;> cases hc; done)
end Go.Proofs.YtcfbdeghmckelaaGreat
namespace Go.Proofs.YtcfbdeghmckelaaGreat
open Go.RowKit
set_option maxRecDepth 100000
set_option linter.unusedVariables false
set_option linter.unusedSimpArgs false
set_option maxHeartbeats 4000000
def befM (a b : Mov) : Bool := if a.moment = b.moment then (if a.kind = b.kind then Op.bytesLess a.name.toList b.name.toList else Op.bytesLess a.kind.toList b.kind.toList) else decide (a.moment < b.moment)
def mgK (l : List Mov) (k : Nat) : List Mov := (l.take k).foldl (insM befM) []
theorem mgK_len {l : List Mov} {k : Nat} (h : k ≤ l.length) : (mgK l k).length = k := by
  have := (foldl_perm befM (l.take k) []).length_eq
  rw [mgK, this]; simp; omega
theorem mgK_next {l : List Mov} {k : Nat} {x : Mov} (h : l[k]? = some x) : mgK l (k + 1) = insM befM (mgK l k) x := by
  rw [mgK, List.take_add_one, h, List.foldl_append]; rfl
theorem allMv (l : List Mov) : l.all ((fun x => x.cells.all PV.one) ∘ Mov.pv) = true := by rw [List.all_eq_true]; intro x _; rfl
theorem allTk {l : List PV} {n : Nat} (h : l.all (fun x => x.cells.all PV.one) = true) : (l.take n).all (fun x => x.cells.all PV.one) = true := by rw [List.all_eq_true] at h ⊢; exact fun x hx => h x (List.mem_of_mem_take hx)
theorem allDr {l : List PV} {n : Nat} (h : l.all (fun x => x.cells.all PV.one) = true) : (l.drop n).all (fun x => x.cells.all PV.one) = true := by rw [List.all_eq_true] at h ⊢; exact fun x hx => h x (List.mem_of_mem_drop hx)
abbrev Mov.cells (m : Mov) : List PV := [.i .i64 m.moment, .s m.kind, .s m.term, .i .i64 m.seats, .i .i64 m.size, .i .i64 m.noise, .s m.name]
theorem weakE {a b : PV} (h : a = b) : Weak a b := h ▸ .refl _
def ac121 : AC := .seq (.ops false [⟨some 2,.box,[.t 0],none,[]⟩,⟨some 3,.box,[.t 1],none,[]⟩,⟨some 4,.mv,[.c (.b false)],none,[]⟩]) (.seq (.seq (.ops false [⟨some 5,.fadr 0,[.t 2],none,[]⟩,⟨some 6,.load 1 false,[.t 5],none,[0]⟩,⟨some 7,.fadr 0,[.t 3],none,[]⟩,⟨some 8,.load 1 false,[.t 7],none,[2]⟩,⟨some 9,.bin .neq,[.t 6,.t 8],none,[1,3]⟩]) (.cond (.t 9) (.seq (.ops false [⟨some 10,.fadr 0,[.t 2],none,[]⟩,⟨some 11,.load 1 false,[.t 10],none,[0]⟩,⟨some 12,.fadr 0,[.t 3],none,[]⟩,⟨some 13,.load 1 false,[.t 12],none,[2]⟩,⟨some 14,.bin .lss,[.t 11,.t 13],none,[1,3]⟩,⟨some 4,.mv,[.t 14],none,[4,0,1,2,3,4]⟩]) .ret) .skip)) (.seq (.seq (.ops false [⟨some 15,.fadr 1,[.t 2],none,[]⟩,⟨some 16,.load 1 false,[.t 15],none,[0]⟩,⟨some 17,.fadr 1,[.t 3],none,[]⟩,⟨some 18,.load 1 false,[.t 17],none,[2]⟩,⟨some 19,.bin .neq,[.t 16,.t 18],none,[1,3]⟩]) (.cond (.t 19) (.seq (.ops false [⟨some 20,.fadr 1,[.t 2],none,[]⟩,⟨some 21,.load 1 false,[.t 20],none,[0]⟩,⟨some 22,.fadr 1,[.t 3],none,[]⟩,⟨some 23,.load 1 false,[.t 22],none,[2]⟩,⟨some 24,.bin .lss,[.t 21,.t 23],none,[1,3]⟩,⟨some 4,.mv,[.t 24],none,[4,0,1,2,3,4]⟩]) .ret) .skip)) (.seq (.ops false [⟨some 25,.fadr 6,[.t 2],none,[]⟩,⟨some 26,.load 1 false,[.t 25],none,[0]⟩,⟨some 27,.fadr 6,[.t 3],none,[]⟩,⟨some 28,.load 1 false,[.t 27],none,[2]⟩,⟨some 29,.bin .lss,[.t 26,.t 28],none,[1,3]⟩,⟨some 4,.mv,[.t 29],none,[4,0,1,2,3,4]⟩]) .ret)))
def rs121 : List RV := [.tmp 4]
theorem fact121 : compF Tryz.prog 121 = some (ac121,rs121,30) := by kernel_rfl
def ac69 : AC := .seq (.ops false [⟨some 4,.mv,[.c .nilsl],none,[]⟩]) (.seq (.ops false [⟨some 9,.bslice 74 7 (.agg [(.i .i64 0),(.s (bs [])),(.s (bs [])),(.i .i64 0),(.i .i64 0),(.i .i64 0),(.s (bs []))]) 0 [],[],none,[]⟩,⟨some 10,.mv,[.t 0],none,[]⟩,⟨some 11,.app 74 7 80,[.t 9,.t 10],none,[0,1]⟩,⟨some 12,.mv,[.t 1],none,[]⟩,⟨some 13,.app 74 7 80,[.t 11,.t 12],none,[2,3,2]⟩,⟨some 5,.mv,[.t 13],none,[4,4,0,1,2,3,4]⟩]) (.seq (.ops false [⟨some 6,.mv,[.c .nilsl],none,[]⟩]) (.seq (.seq (.ops false [⟨some 7,.mv,[.c (.i .i64 0)],none,[]⟩]) (.block 0 (.loop (.seq (.seq (.ops false [⟨some 14,.mv,[.t 7],none,[]⟩,⟨some 15,.mv,[.t 5],none,[]⟩,⟨some 16,.len false,[.t 15],none,[1]⟩,⟨some 17,.bin .lss,[.t 14,.t 16],none,[0,2]⟩]) (.cond (.t 17) .skip (.exit 0))) (.seq (.block 1 (.seq (.ops false [⟨some 20,.mv,[.t 6],none,[]⟩,⟨some 21,.len false,[.t 20],none,[0]⟩,⟨some 8,.mv,[.t 21],none,[1,0,1]⟩]) (.seq (.block 2 (.loop (.seq (.seq (.ops true [⟨some 22,.mv,[.t 8],none,[]⟩,⟨some 23,.bin .gtr,[.t 22,.c (.i .i64 0)],none,[0]⟩,⟨some 24,.mv,[.t 23],none,[1]⟩,⟨some 25,.mv,[.t 5],some (24,true),[2]⟩,⟨some 26,.mv,[.t 7],some (24,true),[2]⟩,⟨some 27,.iadrS 7,[.t 25,.t 26],some (24,true),[3,4,2]⟩,⟨some 28,.load 7 true,[.t 27],some (24,true),[5,2]⟩,⟨some 29,.mv,[.t 6],some (24,true),[2]⟩,⟨some 30,.mv,[.t 8],some (24,true),[2]⟩,⟨some 31,.bin .sub,[.t 30,.c (.i .i64 1)],some (24,true),[8,2]⟩,⟨some 32,.iadrS 7,[.t 29,.t 31],some (24,true),[7,9,2]⟩,⟨some 33,.load 7 true,[.t 32],some (24,true),[10,2]⟩,⟨some 34,.call 121,[.t 28,.t 33],some (24,true),[6,11,2,2]⟩,⟨some 35,.pick,[.t 24,.t 34,.c (.b false)],none,[2,12]⟩]) (.cond (.t 35) .skip (.exit 2))) (.block 3 (.ops false [⟨some 36,.mv,[.t 8],none,[]⟩,⟨some 37,.bin .sub,[.t 36,.c (.i .i64 1)],none,[0]⟩,⟨some 8,.mv,[.t 37],none,[1,0,1]⟩]))))) (.ops true [⟨some 38,.bslice 74 7 (.agg [(.i .i64 0),(.s (bs [])),(.s (bs [])),(.i .i64 0),(.i .i64 0),(.i .i64 0),(.s (bs []))]) 0 [],[],none,[]⟩,⟨some 39,.mv,[.t 6],none,[]⟩,⟨some 40,.mv,[.t 8],none,[]⟩,⟨some 41,.sliceL 7 false true,[.t 39,.t 40],none,[1,2]⟩,⟨some 42,.app 74 7 80,[.t 38,.t 41],none,[0,3]⟩,⟨some 43,.mv,[.t 5],none,[]⟩,⟨some 44,.mv,[.t 7],none,[]⟩,⟨some 45,.iadrS 7,[.t 43,.t 44],none,[5,6]⟩,⟨some 46,.load 7 true,[.t 45],none,[7]⟩,⟨some 47,.bslice 74 7 (.agg [(.i .i64 0),(.s (bs [])),(.s (bs [])),(.i .i64 0),(.i .i64 0),(.i .i64 0),(.s (bs []))]) 1 [0],[.t 46],none,[8]⟩,⟨some 48,.app 74 7 80,[.t 42,.t 47],none,[4,9,4]⟩,⟨some 49,.mv,[.t 6],none,[]⟩,⟨some 50,.mv,[.t 8],none,[]⟩,⟨some 51,.sliceL 7 true false,[.t 49,.t 50],none,[11,12]⟩,⟨some 52,.app 74 7 80,[.t 48,.t 51],none,[10,13,10]⟩,⟨some 6,.mv,[.t 52],none,[14,14,0,1,2,3,4,5,6,7,8,9,10,11,12,13,14]⟩])))) (.ops false [⟨some 18,.mv,[.t 7],none,[]⟩,⟨some 19,.bin .add,[.t 18,.c (.i .i64 1)],none,[0]⟩,⟨some 7,.mv,[.t 19],none,[1,0,1]⟩])))))) (.seq (.ops false [⟨some 53,.mv,[.t 6],none,[]⟩,⟨some 4,.mv,[.t 53],none,[0,0]⟩]) .ret))))
def rs69 : List RV := [.tmp 4]
theorem fact69 : compF Tryz.prog 69 = some (ac69,rs69,54) := by kernel_rfl
def ac61 : AC := .seq (.ops false [⟨some 4,.box,[.t 1],none,[]⟩,⟨some 6,.mv,[.c .nilsl],none,[]⟩]) (.seq (.ops false [⟨some 7,.mv,[.c .nilsl],none,[]⟩]) (.seq (.seq (.ops false [⟨some 8,.mv,[.t 2],none,[]⟩,⟨some 9,.mv,[.c (.i .i64 0)],none,[]⟩]) (.block 0 (.loop (.seq (.ops false [⟨some 10,.bin .lss,[.t 9,.t 8],none,[]⟩]) (.seq (.cond (.t 10) .skip (.exit 0)) (.seq (.block 1 (.ops false [⟨some 11,.mv,[.t 7],none,[]⟩,⟨some 12,.load 7 true,[.t 4],none,[]⟩,⟨some 13,.bslice 74 7 (.agg [(.i .i64 0),(.s (bs [])),(.s (bs [])),(.i .i64 0),(.i .i64 0),(.i .i64 0),(.s (bs []))]) 1 [0],[.t 12],none,[1]⟩,⟨some 14,.app 74 7 80,[.t 11,.t 13],none,[0,2]⟩,⟨some 7,.mv,[.t 14],none,[3,3,0,1,2,3]⟩])) (.ops false [⟨some 15,.bin .add,[.t 9,.c (.i .i64 1)],none,[]⟩,⟨some 9,.mv,[.t 15],none,[0]⟩]))))))) (.seq (.ops false [⟨some 16,.mv,[.t 0],none,[]⟩,⟨some 17,.mv,[.t 7],none,[]⟩,⟨some 18,.call 69,[.t 16,.t 17],none,[0,1]⟩,⟨some 6,.mv,[.t 18],none,[2,2,0,1,2]⟩]) .ret)))
def rs61 : List RV := [.tmp 6]
theorem fact61 : compF Tryz.prog 61 = some (ac61,rs61,19) := by kernel_rfl
theorem pure121 (a b : Mov) : Pure Tryz.prog 121 [a.pv, b.pv] (.b (befM a b)) := by
  refine pure_by fact121 (by simp) fun hw X hX => ?_
  unfold ac121 rs121
  by_cases h1 : a.moment = b.moment
  · by_cases h2 : a.kind = b.kind
    · have h1' := eq_true h1
      have h2' := eq_true h2
      have qe := And.intro @h1' @h2'; repeat' first | (show Run _ (.cond _ _ _) _ _; refine run_condX (fun hc => ?_) (fun hc => ?_) <;> (try simp only [qH, rng_0] at hc) <;> try contradiction) | (first | refine Stp.h ?_ | (show ∀ K : St → List Ft → Prop, _; intro K hK) | (show runS _ _ _ _ _; first | refine qY (hq := ?_) | refine qZ (hq := ?_)) | (refine hK _ _ ?_; clear hK K) | (refine hK _ _ rfl ?_; clear hK K) | (refine qZ (hq := ?_); try exact trivial) | omega)
      rw [befM, if_pos h1, if_pos h2]; exact .refl _
    · have h1' := eq_true h1
      have h2' := eq_false h2
      have qe := And.intro @h1' @h2'; repeat' first | (show Run _ (.cond _ _ _) _ _; refine run_condX (fun hc => ?_) (fun hc => ?_) <;> (try simp only [qH, rng_0] at hc) <;> try contradiction) | (first | refine Stp.h ?_ | (show ∀ K : St → List Ft → Prop, _; intro K hK) | (show runS _ _ _ _ _; first | refine qY (hq := ?_) | refine qZ (hq := ?_)) | (refine hK _ _ ?_; clear hK K) | (refine hK _ _ rfl ?_; clear hK K) | (refine qZ (hq := ?_); try exact trivial) | omega)
      rw [befM, if_pos h1, if_neg h2]; exact .refl _
  · have h1' := eq_false h1
    have qe := @h1'; repeat' first | (show Run _ (.cond _ _ _) _ _; refine run_condX (fun hc => ?_) (fun hc => ?_) <;> (try simp only [qH, rng_0] at hc) <;> try contradiction) | (first | refine Stp.h ?_ | (show ∀ K : St → List Ft → Prop, _; intro K hK) | (show runS _ _ _ _ _; first | refine qY (hq := ?_) | refine qZ (hq := ?_)) | (refine hK _ _ ?_; clear hK K) | (refine hK _ _ rfl ?_; clear hK K) | (refine qZ (hq := ?_); try exact trivial) | omega)
    rw [befM, if_neg h1]; exact .refl _
theorem ins_stop {x : Mov} {out : List Mov} {q : Nat} {y : Mov} (hy : out[q]? = some y) (hb : befM x y = false) : insAt befM x out (q + 1) = q + 1 := by
  simp only [insAt, hy]; rw [if_neg (by simp [hb])]
theorem ins_go {x : Mov} {out : List Mov} {q : Nat} {y : Mov} (hy : out[q]? = some y) (hb : befM x y = true) : insAt befM x out (q + 1) = insAt befM x out q := by
  simp only [insAt, hy]; rw [if_pos hb]
theorem ins_pv {l : List Mov} {k q : Nat} {x : Mov} (hx : l[k]? = some x) (h : q = insAt befM x (mgK l k) k) : ((mgK l k).map Mov.pv).take q ++ x.pv :: ((mgK l k).map Mov.pv).drop q = (mgK l (k + 1)).map Mov.pv := by
  have hk : k ≤ l.length := Nat.le_of_lt (List.getElem?_eq_some_iff.1 hx).1
  rw [mgK_next hx, insM, mgK_len hk, ← h]; simp
theorem mgT {l : List Mov} {k q : Nat} (hk : k ≤ l.length) (hq : q ≤ k) : (((mgK l k).map Mov.pv).take q).length = q ∧ (((mgK l k).map Mov.pv).drop q).length = k - q ∧ ((((mgK l k).map Mov.pv).take q).all (fun x => x.cells.all PV.one) = true) = True ∧ ((((mgK l k).map Mov.pv).drop q).all (fun x => x.cells.all PV.one) = true) = True := by
  have h := mgK_len hk
  have ha : ((mgK l k).map Mov.pv).all (fun x => x.cells.all PV.one) = true := by rw [List.all_map]; exact allMv _
  exact ⟨by simp; omega, by simp; omega, eq_true (allTk ha), eq_true (allDr ha)⟩
theorem pure69 (a b : List Mov) (hn : a.length + b.length ≤ 1000000) : Pure Tryz.prog 69 [.sl 7 (a.map Mov.pv), .sl 7 (b.map Mov.pv)] (.sl 7 ((mergeM befM a b).map Mov.pv)) := by
  refine pure_by fact69 (by simp) fun hw X hX => ?_
  unfold ac69 rs69
  have hl : (a ++ b).length = a.length + b.length := List.length_append
  have hA := fun l => eq_true (allMv l)
  have qe := And.intro qR @hA; repeat' first | (show Run _ (.cond _ _ _) _ _; refine run_condX (fun hc => ?_) (fun hc => ?_) <;> (try simp only [qH, rng_0] at hc) <;> try contradiction) | (first | refine Stp.h ?_ | (show ∀ K : St → List Ft → Prop, _; intro K hK) | (show runS _ _ _ _ _; first | refine qY (hq := ?_) | refine qZ (hq := ?_)) | (refine hK _ _ ?_; clear hK K) | (refine hK _ _ rfl ?_; clear hK K) | (refine qZ (hq := ?_); try exact trivial) | omega)
  refine run_loopP (κ := Nat) (fun k => ⟨[(5, .p (.sl 7 ((a ++ b).map Mov.pv))), (6, .p (.sl 7 ((mgK (a ++ b) k).map Mov.pv))), (7, .p (.i .i64 k))], [], [], false⟩) (fun k => k ≤ (a ++ b).length) (fun k => (a ++ b).length - k) 0 ?_ ?_ ?_
  · refine .x 5 (.sl 7 ((a ++ b).map Mov.pv)) ?_ (hw := weakE (by simp))
    refine .x 6 (.sl 7 []) ?_
    exact .cov (by simp only [qS, Nat.reduceAdd, Nat.reduceMul, Nat.reduceEqDiff, Nat.reduceLeDiff, reduceIte, reduceCtorEq, Nat.reduceBEq, Nat.reduceLT] <;> simp [mgK])
  · simp
  · intro k hk
    have hkl := mgK_len hk
    by_cases hlt : k < (a ++ b).length
    · obtain ⟨x, hx⟩ := some_at (i := k) (l := a ++ b) (by omega)
      have qe := And.intro qR (And.intro @hA (And.intro @hx (And.intro @hkl @hl))); repeat' first | (show Run _ (.cond _ _ _) _ _; refine run_condX (fun hc => ?_) (fun hc => ?_) <;> (try simp only [qH, rng_0] at hc) <;> try contradiction) | (first | refine Stp.h ?_ | (show ∀ K : St → List Ft → Prop, _; intro K hK) | (show runS _ _ _ _ _; first | refine qY (hq := ?_) | refine qZ (hq := ?_)) | (refine hK _ _ ?_; clear hK K) | (refine hK _ _ rfl ?_; clear hK K) | (refine qZ (hq := ?_); try exact trivial) | omega)
      refine run_loop (κ := Nat) (fun q => ⟨[(5, .p (.sl 7 ((a ++ b).map Mov.pv))), (6, .p (.sl 7 ((mgK (a ++ b) k).map Mov.pv))), (7, .p (.i .i64 k)), (8, .p (.i .i64 q))], [], [], false⟩) (fun q => q ≤ k ∧ insAt befM x (mgK (a ++ b) k) q = insAt befM x (mgK (a ++ b) k) k) (fun q => q) k ?_ ?_ ?_
      · simp only [qS, Nat.reduceAdd, Nat.reduceMul, Nat.reduceEqDiff, Nat.reduceLeDiff, reduceIte, reduceCtorEq, Nat.reduceBEq, Nat.reduceLT] <;> simp
      · simp
      · intro q hq
        cases q with
        | zero =>
          obtain ⟨hT1, hT2, hT3, hT4⟩ := mgT (l := a ++ b) (k := k) (q := 0) (by omega) (by omega)
          have i0 : (0 < ((0 : Nat) : Int)) = False := eq_false (by omega)
          have qe := And.intro qR (And.intro @hA (And.intro @hx (And.intro @i0 (And.intro @hT1 (And.intro @hT2 (And.intro @hT3 (And.intro @hT4 (And.intro @hkl (And.intro @hl (And.intro @lpN (And.intro @lpE @lpR))))))))))); repeat' first | (show Run _ (.cond _ _ _) _ _; refine run_condX (fun hc => ?_) (fun hc => ?_) <;> (try simp only [qH, rng_0] at hc) <;> try contradiction) | (show RunOps _ _ _ _ (⟨_, .call _, _, _, _⟩ :: _) _ _; refine run_callGX (hf := fun hc => (by first | exact (absurd hc (by decide) : Pure Tryz.prog 121 _ (.b false)) | (simp only [qH, rng_0] at hc; exact (absurd hc (by decide) : Pure Tryz.prog 121 _ (.b false))))) (hn := ?_)) | (first | refine Stp.h ?_ | (show ∀ K : St → List Ft → Prop, _; intro K hK) | (show runS _ _ _ _ _; first | refine qY (hq := ?_) | refine qZ (hq := ?_)) | (refine hK _ _ ?_; clear hK K) | (refine hK _ _ rfl ?_; clear hK K) | (refine qZ (hq := ?_); try exact trivial) | omega)
          refine ⟨k + 1, by omega, by dsimp only; omega, .x 6 (.sl 7 ((mgK (a ++ b) (k + 1)).map Mov.pv)) ?_ (hw := weakE (by rw [← ins_pv hx (show 0 = _ from hq.2)]; simp))⟩
          exact .cov (by simp only [qS, Nat.reduceAdd, Nat.reduceMul, Nat.reduceEqDiff, Nat.reduceLeDiff, reduceIte, reduceCtorEq, Nat.reduceBEq, Nat.reduceLT] <;> simp)
        | succ q =>
          obtain ⟨y, hy⟩ := some_at (i := q) (l := mgK (a ++ b) k) (by omega)
          have i0 : (0 < ((q + 1 : Nat) : Int)) = True := eq_true (by omega)
          have i1 : ((q + 1 : Nat) : Int) - 1 = (q : Int) := by omega
          obtain ⟨hT1, hT2, hT3, hT4⟩ := mgT (l := a ++ b) (k := k) (q := q + 1) (by omega) (by omega)
          cases hb : befM x y with
          | true =>
            have h0 := ins_go hy hb
            have qe := And.intro qR (And.intro @hA (And.intro @hx (And.intro @hy (And.intro @hb (And.intro @i0 (And.intro @i1 (And.intro @hT1 (And.intro @hT2 (And.intro @hT3 (And.intro @hT4 (And.intro @hkl (And.intro @hl (And.intro @lpN (And.intro @lpE @lpR)))))))))))))); repeat' first | (show Run _ (.cond _ _ _) _ _; refine run_condX (fun hc => ?_) (fun hc => ?_) <;> (try simp only [qH, rng_0] at hc) <;> try contradiction) | (show RunOps _ _ _ _ (⟨_, .call 121, _, _, _⟩ :: _) _ _; refine run_callGX (hf := fun hc => (by first | exact pure121 x y | (simp only [qH, rng_0] at hc; exact pure121 x y))) (hn := ?_)) | (first | refine Stp.h ?_ | (show ∀ K : St → List Ft → Prop, _; intro K hK) | (show runS _ _ _ _ _; first | refine qY (hq := ?_) | refine qZ (hq := ?_)) | (refine hK _ _ ?_; clear hK K) | (refine hK _ _ rfl ?_; clear hK K) | (refine qZ (hq := ?_); try exact trivial) | omega)
            exact ⟨q, ⟨by omega, by rw [← h0]; exact hq.2⟩, by omega, rfl⟩
          | false =>
            have h0 := ins_stop hy hb
            have qe := And.intro qR (And.intro @hA (And.intro @hx (And.intro @hy (And.intro @hb (And.intro @i0 (And.intro @i1 (And.intro @hT1 (And.intro @hT2 (And.intro @hT3 (And.intro @hT4 (And.intro @hkl (And.intro @hl (And.intro @lpN (And.intro @lpE @lpR)))))))))))))); repeat' first | (show Run _ (.cond _ _ _) _ _; refine run_condX (fun hc => ?_) (fun hc => ?_) <;> (try simp only [qH, rng_0] at hc) <;> try contradiction) | (show RunOps _ _ _ _ (⟨_, .call 121, _, _, _⟩ :: _) _ _; refine run_callGX (hf := fun hc => (by first | exact pure121 x y | (simp only [qH, rng_0] at hc; exact pure121 x y))) (hn := ?_)) | (first | refine Stp.h ?_ | (show ∀ K : St → List Ft → Prop, _; intro K hK) | (show runS _ _ _ _ _; first | refine qY (hq := ?_) | refine qZ (hq := ?_)) | (refine hK _ _ ?_; clear hK K) | (refine hK _ _ rfl ?_; clear hK K) | (refine qZ (hq := ?_); try exact trivial) | omega)
            refine ⟨k + 1, by omega, by dsimp only; omega, .x 6 (.sl 7 ((mgK (a ++ b) (k + 1)).map Mov.pv)) ?_ (hw := weakE (by rw [← ins_pv hx (h0.symm.trans hq.2)]; simp))⟩
            exact .cov (by simp only [qS, Nat.reduceAdd, Nat.reduceMul, Nat.reduceEqDiff, Nat.reduceLeDiff, reduceIte, reduceCtorEq, Nat.reduceBEq, Nat.reduceLT] <;> simp)
    · have qe := And.intro qR (And.intro @hA (And.intro @hkl (And.intro @hl (And.intro @lpN (And.intro @lpE @lpR))))); repeat' first | (show Run _ (.cond _ _ _) _ _; refine run_condX (fun hc => ?_) (fun hc => ?_) <;> (try simp only [qH, rng_0] at hc) <;> try contradiction) | (first | refine Stp.h ?_ | (show ∀ K : St → List Ft → Prop, _; intro K hK) | (show runS _ _ _ _ _; first | refine qY (hq := ?_) | refine qZ (hq := ?_)) | (refine hK _ _ ?_; clear hK K) | (refine hK _ _ rfl ?_; clear hK K) | (refine qZ (hq := ?_); try exact trivial) | omega)
      have e : k = (a ++ b).length := by omega
      have e2 : mgK (a ++ b) (a ++ b).length = mergeM befM a b := by rw [mgK, List.take_length]; rfl
      subst e; rw [e2]; exact .refl _
theorem pure61 (m : List Mov) (o : Mov) (k : Nat) (hn : m.length + k ≤ 1000000) : Pure Tryz.prog 61 [.sl 7 (m.map Mov.pv), o.pv, .i .i64 k] (.sl 7 ((mergeM befM m (List.replicate k o)).map Mov.pv)) := by
  refine pure_by fact61 (by simp) fun hw X hX => ?_
  unfold ac61 rs61
  have qe := @qR; repeat' first | (show Run _ (.cond _ _ _) _ _; refine run_condX (fun hc => ?_) (fun hc => ?_) <;> (try simp only [qH, rng_0] at hc) <;> try contradiction) | (first | refine Stp.h ?_ | (show ∀ K : St → List Ft → Prop, _; intro K hK) | (show runS _ _ _ _ _; first | refine qY (hq := ?_) | refine qZ (hq := ?_)) | (refine hK _ _ ?_; clear hK K) | (refine hK _ _ rfl ?_; clear hK K) | (refine qZ (hq := ?_); try exact trivial) | omega)
  refine run_own 100 74 7 [(0, .p (.sl 7 (m.map Mov.pv))), (4, .lp 4 0), (7, .row 100 0), (8, .p (.i .i64 k)), (9, .p (.i .i64 0))] [(4, .box (o.cells.map .p) false)] ?_ ?_
  · simp only [Own, ownEnv, ownObj, nilTo, nilTos, qS, Nat.reduceAdd, Nat.reduceMul, Nat.reduceEqDiff, Nat.reduceLeDiff, reduceIte, reduceCtorEq, Nat.reduceBEq, Nat.reduceLT]
  refine run_loop (κ := Nat) (fun j => ⟨[(0, .p (.sl 7 (m.map Mov.pv))), (4, .lp 4 0), (7, .row 100 j), (8, .p (.i .i64 k)), (9, .p (.i .i64 j))], [(4, .box (o.cells.map .p) false), (100, .row 74 7 ((List.replicate j o).map Mov.pv) false)], [], false⟩) (fun j => j ≤ k) (fun j => k - j) 0 ?_ ?_ ?_
  · simp only [qS, Nat.reduceAdd, Nat.reduceMul, Nat.reduceEqDiff, Nat.reduceLeDiff, reduceIte, reduceCtorEq, Nat.reduceBEq, Nat.reduceLT] <;> simp
  · simp
  · intro j hj
    by_cases hlt : j < k
    · have qe := And.intro qR @List.length_replicate.{0}; repeat' first | (show Run _ (.cond _ _ _) _ _; refine run_condX (fun hc => ?_) (fun hc => ?_) <;> (try simp only [qH, rng_0] at hc) <;> try contradiction) | (first | refine Stp.h ?_ | (show ∀ K : St → List Ft → Prop, _; intro K hK) | (show runS _ _ _ _ _; first | refine qY (hq := ?_) | refine qZ (hq := ?_)) | (refine hK _ _ ?_; clear hK K) | (refine hK _ _ rfl ?_; clear hK K) | (refine qZ (hq := ?_); try exact trivial) | omega)
      exact ⟨j + 1, by omega, by omega, ⟨rfl, by simp⟩, by simp [List.replicate_succ']⟩
    · have e : j = k := by omega
      have qe := And.intro qR @List.length_replicate.{0}; repeat' first | (show Run _ (.cond _ _ _) _ _; refine run_condX (fun hc => ?_) (fun hc => ?_) <;> (try simp only [qH, rng_0] at hc) <;> try contradiction) | (show RunOps _ _ _ _ (⟨_, .call 69, _, _, _⟩ :: _) _ _; refine run_callBX (hf := pure69 m (List.replicate j o) (by rw [List.length_replicate]; omega)) (hn := ?_)) | (first | refine Stp.h ?_ | (show ∀ K : St → List Ft → Prop, _; intro K hK) | (show runS _ _ _ _ _; first | refine qY (hq := ?_) | refine qZ (hq := ?_)) | (refine hK _ _ ?_; clear hK K) | (refine hK _ _ rfl ?_; clear hK K) | (refine qZ (hq := ?_); try exact trivial) | omega)
      subst e; exact .refl _
end Go.Proofs.YtcfbdeghmckelaaGreat
namespace Go.Proofs.YtcfbdeghmckelaaGreat
open Go.RowKit
set_option maxRecDepth 100000
set_option linter.unusedVariables false
set_option linter.unusedSimpArgs false
set_option maxHeartbeats 2000000
def withM (m : List Mov) (o : Mov) (k : Nat) : List Mov := mergeM befM m (List.replicate k o)
theorem bef1 {a b : Mov} (h : befM a b = true) : a.moment ≤ b.moment := by
  unfold befM at h; split at h
  · omega
  · simp only [decide_eq_true_eq] at h; omega
theorem bef0 {a b : Mov} (h : befM a b = false) : b.moment ≤ a.moment := by
  unfold befM at h; split at h
  · omega
  · simp only [decide_eq_false_iff_not] at h; omega
theorem merge_ok {a b : List Mov} (ha : ∀ x ∈ a, chkMov x = 0) (hb : ∀ x ∈ b, chkMov x = 0) (hn : a.length + b.length ≤ 30000) : chkMovs (mergeM befM a b) = 0 ∧ (mergeM befM a b).length = a.length + b.length := by
  have hp := merge_perm befM a b
  have hlen : (mergeM befM a b).length = a.length + b.length := by rw [hp.length_eq, List.length_append]
  refine ⟨chkMovs_of (by omega) (fun x hx => ?_) (merge_sorted (fun _ _ h => bef1 h) (fun _ _ h => bef0 h) a b), hlen⟩
  rcases List.mem_append.1 (hp.mem_iff.1 hx) with h | h
  · exact ha x h
  · exact hb x h
theorem with_ok {m : List Mov} {o : Mov} (hm : chkMovs m = 0) (hn : m.length ≤ 10) (ho : chkMov o = 0) {k : Nat} (hk : k ≤ 10) : chkMovs (withM m o k) = 0 ∧ (withM m o k).length = m.length + k := by
  have := merge_ok (a := m) (b := List.replicate k o) (chkMovs_0 hm).2.1 (fun x hx => by rw [List.eq_of_mem_replicate hx]; exact ho) (by rw [List.length_replicate]; omega)
  rw [List.length_replicate] at this
  exact this
theorem with_cnt {l : Lim} (h : 0 ≤ l.len) (m : List Mov) (o : Mov) (k : Nat) (b : Int) : cntAll l (withM m o k) b = cntAll l m b + if inW l b o then (k : Int) else 0 := by
  rw [withM, cnt_perm h (merge_perm befM m _), cnt_app h, cnt_rep h]
theorem with_adds {ls : List Lim} (hl : ∀ l ∈ ls, chkLim l = 0) (m : List Mov) (o : Mov) (k : Nat) : Adds ls m (withM m o k) o k := fun l h b => with_cnt (by have := chkLim_0 (hl l h); omega) m o k b
theorem with_one {ls : List Lim} (hl : ∀ l ∈ ls, chkLim l = 0) (m : List Mov) (o : Mov) (k : Nat) : Adds ls (withM m o k) (withM m o (k + 1)) o 1 := fun l h b => by
  have h0 : 0 ≤ l.len := by have := chkLim_0 (hl l h); omega
  rw [with_cnt h0, with_cnt h0]
  split
  · rw [Int.natCast_succ]; omega
  · omega
theorem room_pos {ls : List Lim} {m : List Mov} {o : Mov} : 0 ≤ roomL ls m o ∧ roomL ls m o ≤ 999999999 := by
  obtain ⟨⟨a1, a2⟩, a3⟩ := roomK_char ls (arW ls m o) 999999999
  have e1 : roomL ls m o = (arW ls m o).foldl (roomStep ls) 999999999 := rfl
  rw [← e1] at a1 a2 a3
  rcases a3 with a3 | ⟨w, _, a3⟩ <;> omega
theorem same_at {a b : List Win} (h : a.map (fun w => (w.lim, w.beg)) = b.map (fun w => (w.lim, w.beg))) {i : Nat} {x : Win} (hx : a[i]? = some x) : ∃ y, b[i]? = some y ∧ x.lim = y.lim ∧ x.beg = y.beg := by
  have h1 := congrArg (fun l => l[i]?) h
  simp only [List.getElem?_map, hx, Option.map_some] at h1
  cases hb : b[i]? with
  | none => rw [hb] at h1; cases h1
  | some y =>
    rw [hb] at h1
    simp only [Option.map_some, Option.some.injEq, Prod.mk.injEq] at h1
    exact ⟨y, rfl, h1⟩
theorem exc_mem {ls : List Lim} {m : List Mov} (h2 : chkMovs m = 0) {w : Win} (hw : w ∈ excW ls m) : -30000 ≤ w.cnt ∧ w.cnt ≤ 30000 := by
  obtain ⟨i, _, hw⟩ := List.mem_flatMap.1 hw
  unfold excI at hw
  split at hw
  · rename_i l _
    obtain ⟨b, _, hw⟩ := List.mem_flatMap.1 hw
    unfold excB at hw
    split at hw
    · rw [List.mem_singleton.1 hw]; exact cnt_bound h2 b
    · cases hw
  · cases hw
theorem full_mem {ls : List Lim} {m : List Mov} {o : Mov} (h2 : chkMovs m = 0) {w : Win} (hw : w ∈ fullL ls m o) : -30000 ≤ w.cnt ∧ w.cnt ≤ 30000 := by
  obtain ⟨i, l, _, _, h, _⟩ := arW_at (List.mem_filter.1 hw).1
  rw [h]; exact cnt_bound h2 _
end Go.Proofs.YtcfbdeghmckelaaGreat
namespace Go.Proofs.YtcfbdeghmckelaaGreat
open Go.RowKit
set_option maxRecDepth 100000
set_option linter.unusedVariables false
set_option linter.unusedSimpArgs false
set_option maxHeartbeats 4000000
def ac62 : AC := .seq (.ops false [⟨some 5,.box,[.t 2],none,[]⟩,⟨some 6,.mv,[.c .nilsl],none,[]⟩,⟨some 7,.mv,[.c .nilsl],none,[1]⟩,⟨some 8,.alloc [(.s (bs [])),(.s (bs [])),(.s (bs [])),(.s (bs [])),(.s (bs [])),(.s (bs [])),(.i .i64 0),(.i .i64 0),(.i .i64 0),(.i .i64 0),(.i .i64 0),(.i .i64 0),(.i .i64 0)],[],none,[]⟩]) (.seq (.ops false [⟨some 9,.mv,[.c .nilsl],none,[]⟩]) (.seq (.seq (.ops false [⟨some 15,.mv,[.t 0],none,[]⟩,⟨some 16,.len false,[.t 15],none,[0]⟩,⟨some 17,.mv,[.c (.i .i64 0)],none,[]⟩]) (.block 0 (.loop (.seq (.ops false [⟨some 18,.bin .lss,[.t 17,.t 16],none,[]⟩]) (.seq (.cond (.t 18) .skip (.exit 0)) (.seq (.block 1 (.seq (.ops false [⟨some 19,.iadrS 11,[.t 15,.t 17],none,[]⟩,⟨some 20,.load 11 true,[.t 19],none,[0]⟩,⟨some 11,.alloc [(.s (bs [])),(.s (bs [])),(.s (bs [])),(.i .i64 0),(.i .i64 0),(.i .i64 0),(.i .i64 0),(.i .i64 0),(.i .i64 0),(.i .i64 0),(.i .i64 0)],[],none,[]⟩,⟨none,.store 11,[.t 11,.t 20],none,[2,1,0,1,2]⟩]) (.seq (.ops false [⟨some 21,.fadr 7,[.t 11],none,[]⟩,⟨some 22,.fadr 0,[.t 21],none,[0]⟩,⟨some 23,.load 1 false,[.t 22],none,[1]⟩,⟨some 24,.bin .add,[.t 23,.c (.i .i64 7)],none,[2]⟩,⟨some 25,.fadr 7,[.t 11],none,[]⟩,⟨some 26,.fadr 1,[.t 25],none,[4]⟩,⟨some 27,.load 1 false,[.t 26],none,[5]⟩,⟨some 28,.bin .add,[.t 27,.c (.i .i64 7)],none,[6]⟩,⟨some 29,.fadr 7,[.t 11],none,[0,1,2,3,4,5,6]⟩,⟨some 30,.fadr 0,[.t 29],none,[8,0,1,2,3,4,5,6]⟩,⟨none,.store 1,[.t 30,.t 24],none,[9,3,0,1,2,3,4,5,6]⟩,⟨some 31,.fadr 7,[.t 11],none,[0,1,2,3,4,5,6,7,8,9,10]⟩,⟨some 32,.fadr 1,[.t 31],none,[11,0,1,2,3,4,5,6,7,8,9,10]⟩,⟨none,.store 1,[.t 32,.t 28],none,[12,7,10,0,1,2,3,4,5,6,7,8,9,10]⟩]) (.ops false [⟨some 33,.mv,[.t 9],none,[]⟩,⟨some 34,.load 11 true,[.t 11],none,[]⟩,⟨some 35,.bslice 46 11 (.agg [(.s (bs [])),(.s (bs [])),(.s (bs [])),(.i .i64 0),(.i .i64 0),(.i .i64 0),(.i .i64 0),(.i .i64 0),(.i .i64 0),(.i .i64 0),(.i .i64 0)]) 1 [0],[.t 34],none,[1]⟩,⟨some 36,.app 46 11 112,[.t 33,.t 35],none,[0,2]⟩,⟨some 9,.mv,[.t 36],none,[3,3,0,1,2,3]⟩])))) (.ops false [⟨some 37,.bin .add,[.t 17,.c (.i .i64 1)],none,[]⟩,⟨some 17,.mv,[.t 37],none,[0]⟩]))))))) (.seq (.ops false [⟨some 12,.mv,[.c .nilsl],none,[]⟩]) (.seq (.seq (.ops false [⟨some 38,.mv,[.t 1],none,[]⟩,⟨some 39,.len false,[.t 38],none,[0]⟩,⟨some 40,.mv,[.c (.i .i64 0)],none,[]⟩]) (.block 2 (.loop (.seq (.ops false [⟨some 41,.bin .lss,[.t 40,.t 39],none,[]⟩]) (.seq (.cond (.t 41) .skip (.exit 2)) (.seq (.block 3 (.seq (.ops false [⟨some 42,.iadrS 7,[.t 38,.t 40],none,[]⟩,⟨some 43,.load 7 true,[.t 42],none,[0]⟩,⟨some 14,.alloc [(.i .i64 0),(.s (bs [])),(.s (bs [])),(.i .i64 0),(.i .i64 0),(.i .i64 0),(.s (bs []))],[],none,[]⟩,⟨none,.store 7,[.t 14,.t 43],none,[2,1,0,1,2]⟩]) (.seq (.ops false [⟨some 44,.fadr 0,[.t 14],none,[]⟩,⟨some 45,.load 1 false,[.t 44],none,[0]⟩,⟨some 46,.bin .add,[.t 45,.c (.i .i64 10080)],none,[1]⟩,⟨some 47,.fadr 0,[.t 14],none,[0,1,2]⟩,⟨none,.store 1,[.t 47,.t 46],none,[3,2,0,1,2]⟩]) (.ops false [⟨some 48,.mv,[.t 12],none,[]⟩,⟨some 49,.load 7 true,[.t 14],none,[]⟩,⟨some 50,.bslice 74 7 (.agg [(.i .i64 0),(.s (bs [])),(.s (bs [])),(.i .i64 0),(.i .i64 0),(.i .i64 0),(.s (bs []))]) 1 [0],[.t 49],none,[1]⟩,⟨some 51,.app 74 7 80,[.t 48,.t 50],none,[0,2]⟩,⟨some 12,.mv,[.t 51],none,[3,3,0,1,2,3]⟩])))) (.ops false [⟨some 52,.bin .add,[.t 40,.c (.i .i64 1)],none,[]⟩,⟨some 40,.mv,[.t 52],none,[0]⟩]))))))) (.seq (.ops false [⟨some 53,.fadr 6,[.t 5],none,[]⟩,⟨some 54,.fadr 0,[.t 53],none,[0]⟩,⟨some 55,.load 1 false,[.t 54],none,[1]⟩,⟨some 56,.bin .add,[.t 55,.c (.i .i64 7)],none,[2]⟩,⟨some 57,.fadr 6,[.t 5],none,[]⟩,⟨some 58,.fadr 1,[.t 57],none,[4]⟩,⟨some 59,.load 1 false,[.t 58],none,[5]⟩,⟨some 60,.bin .add,[.t 59,.c (.i .i64 7)],none,[6]⟩,⟨some 61,.fadr 6,[.t 5],none,[0,1,2,3,4,5,6]⟩,⟨some 62,.fadr 0,[.t 61],none,[8,0,1,2,3,4,5,6]⟩,⟨none,.store 1,[.t 62,.t 56],none,[9,3,0,1,2,3,4,5,6]⟩,⟨some 63,.fadr 6,[.t 5],none,[0,1,2,3,4,5,6,7,8,9,10]⟩,⟨some 64,.fadr 1,[.t 63],none,[11,0,1,2,3,4,5,6,7,8,9,10]⟩,⟨none,.store 1,[.t 64,.t 60],none,[12,7,10,0,1,2,3,4,5,6,7,8,9,10]⟩]) (.seq (.ops true [⟨some 65,.mv,[.t 9],none,[]⟩,⟨some 66,.mv,[.t 12],none,[]⟩,⟨some 67,.load 13 true,[.t 5],none,[]⟩,⟨some 6,.mv,[.t 65],none,[0,0]⟩,⟨some 7,.mv,[.t 66],none,[1,3,0,1,3]⟩,⟨none,.store 13,[.t 8,.t 67],none,[2,4,0,1,2,3,4]⟩]) .ret))))))
def rs62 : List RV := [.tmp 6,.tmp 7,.cell 8 13 true]
theorem fact62 : compF Tryz.prog 62 = some (ac62,rs62,68) := by kernel_rfl
def ac63 : AC := .seq (.ops false [⟨some 3,.box,[.t 1],none,[]⟩,⟨some 4,.mv,[.c .nilsl],none,[]⟩,⟨some 5,.mv,[.c (.i .i64 0)],none,[1]⟩]) (.seq (.seq (.ops true [⟨some 9,.mv,[.t 0],none,[]⟩,⟨some 10,.call 22,[.t 9],none,[0]⟩,⟨some 11,.load 11 true,[.t 3],none,[]⟩,⟨some 12,.call 84,[.t 11],none,[2,1]⟩,⟨some 13,.bslice 34 1 (.i .i64 0) 2 [0,1],[.t 10,.t 12],none,[1,3]⟩,⟨some 14,.call 83,[.t 13],none,[4,3]⟩,⟨some 6,.mv,[.t 14],none,[5,5,0,1,2,3,4,5]⟩]) (.seq (.ops false [⟨some 15,.mv,[.t 6],none,[]⟩,⟨some 16,.bin .neq,[.t 15,.c (.i .i64 0)],none,[0]⟩]) (.cond (.t 16) (.seq (.ops false [⟨some 17,.mv,[.t 6],none,[]⟩,⟨some 4,.mv,[.c .nilsl],none,[]⟩,⟨some 5,.mv,[.t 17],none,[0,1,0,1]⟩]) .ret) .skip))) (.seq (.ops false [⟨some 18,.mv,[.t 0],none,[]⟩,⟨some 19,.len false,[.t 18],none,[0]⟩,⟨some 20,.mkslice 46 11 112 (.agg [(.s (bs [])),(.s (bs [])),(.s (bs [])),(.i .i64 0),(.i .i64 0),(.i .i64 0),(.i .i64 0),(.i .i64 0),(.i .i64 0),(.i .i64 0),(.i .i64 0)]),[.t 19,.t 19],none,[1,1]⟩,⟨some 7,.mv,[.t 20],none,[2,0,1,2]⟩]) (.seq (.ops false [⟨some 21,.mv,[.t 7],none,[]⟩,⟨some 22,.mv,[.t 0],none,[]⟩,⟨some 23,.copy 11,[.t 21,.t 22],none,[0,1]⟩]) (.seq (.ops false [⟨some 24,.mv,[.t 0],none,[]⟩,⟨some 25,.fadr 0,[.t 3],none,[]⟩,⟨some 26,.load 1 false,[.t 25],none,[1]⟩,⟨some 27,.call 86,[.t 24,.t 26],none,[0,2]⟩,⟨some 8,.mv,[.t 27],none,[3,3,0,1,2,3]⟩]) (.seq (.block 0 (.seq (.ops false [⟨some 33,.mv,[.t 8],none,[]⟩,⟨some 34,.bin .geq,[.t 33,.c (.i .i64 0)],none,[0]⟩,⟨some 32,.mv,[.t 34],none,[1]⟩]) (.cond (.t 32) (.ops false [⟨some 35,.mv,[.t 7],none,[]⟩,⟨some 36,.mv,[.t 8],none,[]⟩,⟨some 37,.load 11 true,[.t 3],none,[]⟩,⟨some 38,.iadrS 11,[.t 35,.t 36],none,[0,1,0,1,2]⟩,⟨none,.store 11,[.t 38,.t 37],none,[3,2,0,1,2]⟩]) (.seq (.ops false [⟨some 40,.mv,[.t 0],none,[]⟩,⟨some 41,.len false,[.t 40],none,[0]⟩,⟨some 42,.bin .eql,[.t 41,.c (.i .i64 32)],none,[1]⟩,⟨some 39,.mv,[.t 42],none,[2]⟩]) (.cond (.t 39) (.seq (.ops false [⟨some 4,.mv,[.c .nilsl],none,[]⟩,⟨some 5,.mv,[.c (.i .i64 5)],none,[0,0]⟩]) .ret) (.ops false [⟨some 28,.mv,[.t 7],none,[]⟩,⟨some 29,.load 11 true,[.t 3],none,[]⟩,⟨some 30,.bslice 46 11 (.agg [(.s (bs [])),(.s (bs [])),(.s (bs [])),(.i .i64 0),(.i .i64 0),(.i .i64 0),(.i .i64 0),(.i .i64 0),(.i .i64 0),(.i .i64 0),(.i .i64 0)]) 1 [0],[.t 29],none,[1]⟩,⟨some 31,.app 46 11 112,[.t 28,.t 30],none,[0,2]⟩,⟨some 7,.mv,[.t 31],none,[3,3,0,1,2,3]⟩])))))) (.seq (.ops false [⟨some 43,.mv,[.t 7],none,[]⟩,⟨some 4,.mv,[.t 43],none,[0,0]⟩,⟨some 5,.mv,[.c (.i .i64 0)],none,[1,0,1]⟩]) .ret))))))
def rs63 : List RV := [.tmp 4,.tmp 5]
theorem fact63 : compF Tryz.prog 63 = some (ac63,rs63,44) := by kernel_rfl
def ac64 : AC := .seq (.ops false [⟨some 3,.box,[.t 1],none,[]⟩,⟨some 4,.mv,[.c .nilsl],none,[]⟩,⟨some 5,.mv,[.c (.i .i64 0)],none,[1]⟩]) (.seq (.seq (.ops true [⟨some 7,.mv,[.t 0],none,[]⟩,⟨some 8,.call 22,[.t 7],none,[0]⟩,⟨some 9,.load 1 false,[.t 3],none,[]⟩,⟨some 10,.call 109,[.t 9],none,[2,1]⟩,⟨some 11,.not,[.t 10],none,[3]⟩,⟨some 12,.call 85,[.t 11,.c (.i .i64 8)],none,[4,3]⟩,⟨some 13,.mv,[.t 0],none,[]⟩,⟨some 14,.load 1 false,[.t 3],none,[]⟩,⟨some 15,.call 86,[.t 13,.t 14],none,[6,7,5]⟩,⟨some 16,.bin .lss,[.t 15,.c (.i .i64 0)],none,[8]⟩,⟨some 17,.call 85,[.t 16,.c (.i .i64 10)],none,[9,8]⟩,⟨some 18,.bslice 34 1 (.i .i64 0) 3 [0,1,2],[.t 8,.t 12,.t 17],none,[1,5,10]⟩,⟨some 19,.call 83,[.t 18],none,[11,10]⟩,⟨some 6,.mv,[.t 19],none,[12,12,0,1,2,3,4,5,6,7,8,9,10,11,12]⟩]) (.seq (.ops false [⟨some 20,.mv,[.t 6],none,[]⟩,⟨some 21,.bin .neq,[.t 20,.c (.i .i64 0)],none,[0]⟩]) (.cond (.t 21) (.seq (.ops false [⟨some 22,.mv,[.t 6],none,[]⟩,⟨some 4,.mv,[.c .nilsl],none,[]⟩,⟨some 5,.mv,[.t 22],none,[0,1,0,1]⟩]) .ret) .skip))) (.seq (.ops false [⟨some 23,.mv,[.t 0],none,[]⟩,⟨some 24,.mkfn (.func 111) 0,[.t 3],none,[]⟩,⟨some 25,.call 110,[.t 23,.t 24],none,[0,1]⟩,⟨some 4,.mv,[.t 25],none,[2,2,0,1,2]⟩,⟨some 5,.mv,[.c (.i .i64 0)],none,[3,0,1,2,3]⟩]) .ret))
def rs64 : List RV := [.tmp 4,.tmp 5]
theorem fact64 : compF Tryz.prog 64 = some (ac64,rs64,26) := by kernel_rfl
def ac110 : AC := .seq (.ops false [⟨some 4,.mv,[.c .nilsl],none,[]⟩]) (.seq (.ops false [⟨some 5,.mv,[.c .nilsl],none,[]⟩]) (.seq (.seq (.ops false [⟨some 8,.mv,[.t 0],none,[]⟩,⟨some 9,.len false,[.t 8],none,[0]⟩,⟨some 10,.mv,[.c (.i .i64 0)],none,[]⟩]) (.block 0 (.loop (.seq (.ops false [⟨some 11,.bin .lss,[.t 10,.t 9],none,[]⟩]) (.seq (.cond (.t 11) .skip (.exit 0)) (.seq (.block 1 (.seq (.ops false [⟨some 12,.iadrS 11,[.t 8,.t 10],none,[]⟩,⟨some 13,.load 11 true,[.t 12],none,[0]⟩,⟨some 7,.alloc [(.s (bs [])),(.s (bs [])),(.s (bs [])),(.i .i64 0),(.i .i64 0),(.i .i64 0),(.i .i64 0),(.i .i64 0),(.i .i64 0),(.i .i64 0),(.i .i64 0)],[],none,[]⟩,⟨none,.store 11,[.t 7,.t 13],none,[2,1,0,1,2]⟩]) (.seq (.ops false [⟨some 14,.mv,[.t 1],none,[]⟩,⟨some 15,.load 11 true,[.t 7],none,[]⟩,⟨some 16,.callv,[.t 14,.t 15],none,[0,1]⟩]) (.cond (.t 16) (.ops false [⟨some 17,.mv,[.t 5],none,[]⟩,⟨some 18,.load 11 true,[.t 7],none,[]⟩,⟨some 19,.bslice 46 11 (.agg [(.s (bs [])),(.s (bs [])),(.s (bs [])),(.i .i64 0),(.i .i64 0),(.i .i64 0),(.i .i64 0),(.i .i64 0),(.i .i64 0),(.i .i64 0),(.i .i64 0)]) 1 [0],[.t 18],none,[1]⟩,⟨some 20,.app 46 11 112,[.t 17,.t 19],none,[0,2]⟩,⟨some 5,.mv,[.t 20],none,[3,3,0,1,2,3]⟩]) .skip)))) (.ops false [⟨some 21,.bin .add,[.t 10,.c (.i .i64 1)],none,[]⟩,⟨some 10,.mv,[.t 21],none,[0]⟩]))))))) (.seq (.ops false [⟨some 22,.mv,[.t 5],none,[]⟩,⟨some 4,.mv,[.t 22],none,[0,0]⟩]) .ret)))
def rs110 : List RV := [.tmp 4]
theorem fact110 : compF Tryz.prog 110 = some (ac110,rs110,23) := by kernel_rfl
def ac111 : AC := .seq (.ops false [⟨some 2,.box,[.t 0],none,[]⟩,⟨some 3,.mv,[.c (.b false)],none,[]⟩]) (.seq (.ops false [⟨some 4,.fadr 0,[.t 2],none,[]⟩,⟨some 5,.load 1 false,[.t 4],none,[0]⟩,⟨some 6,.load 1 false,[.t 1],none,[]⟩,⟨some 7,.bin .neq,[.t 5,.t 6],none,[1,2]⟩,⟨some 3,.mv,[.t 7],none,[3,0,1,2,3]⟩]) .ret)
def rs111 : List RV := [.tmp 3]
theorem fact111 : compF Tryz.prog 111 = some (ac111,rs111,8) := by kernel_rfl
def perL (p : Per) : Per := ⟨p.fro + 7, p.to + 7, p.days⟩
def Lim.later (l : Lim) : Lim := ⟨l.name, l.kind, l.term, l.len, l.step, l.fro, l.to, perL l.per, l.most⟩
def Mov.later (m : Mov) : Mov := ⟨m.moment + 10080, m.kind, m.term, m.seats, m.size, m.noise, m.name⟩
def Req.later (r : Req) : Req := ⟨r.name, r.carrier, r.kind, r.term, r.partner, r.link, perL r.per, r.minute, r.seats, r.size, r.noise⟩
theorem chkMov_0 {m : Mov} (h : chkMov m = 0) : 0 ≤ m.moment ∧ m.moment ≤ 143999999 := by
  unfold chkMov at h
  simp only [firstE_cons, rng_0] at h
  omega
theorem pure62 (l : List Lim) (m : List Mov) (r : Req) (hl : chkLims l = 0) (hm : chkMovs m = 0) (hr : chkReq r = 0) : Pure Tryz.prog 62 [.sl 11 (l.map Lim.pv), .sl 7 (m.map Mov.pv), r.pv] (.tup [.sl 11 ((l.map Lim.later).map Lim.pv), .sl 7 ((m.map Mov.later).map Mov.pv), r.later.pv]) := by
  have hl1 := chkLims_0 hl
  have hm1 := chkMovs_0 hm
  have hp := chkPer_0 (chkReq_0 hr).1
  refine pure_by fact62 (by simp) fun hw X hX => ?_
  unfold ac62 rs62
  have qe := @qR; repeat' first | (show Run _ (.cond _ _ _) _ _; refine run_condX (fun hc => ?_) (fun hc => ?_) <;> (try simp only [qH, rng_0] at hc) <;> try contradiction) | (first | refine Stp.h ?_ | (show ∀ K : St → List Ft → Prop, _; intro K hK) | (show runS _ _ _ _ _; first | refine qY (hq := ?_) | refine qZ (hq := ?_)) | (refine hK _ _ ?_; clear hK K) | (refine hK _ _ rfl ?_; clear hK K) | (refine qZ (hq := ?_); try exact trivial) | omega)
  refine run_own 100 46 11 [(1, .p (.sl 7 (m.map Mov.pv))), (5, .lp 5 0), (8, .lp 8 0), (9, .row 100 0), (15, .p (.sl 11 (l.map Lim.pv))), (16, .p (.i .i64 l.length)), (17, .p (.i .i64 0))] [(5, .box (r.cells.map .p) false), (8, .box [.p (.s (bs [])), .p (.s (bs [])), .p (.s (bs [])), .p (.s (bs [])), .p (.s (bs [])), .p (.s (bs [])), .p (.i .i64 0), .p (.i .i64 0), .p (.i .i64 0), .p (.i .i64 0), .p (.i .i64 0), .p (.i .i64 0), .p (.i .i64 0)] false)] ?_ ?_
  · simp only [Own, ownEnv, ownObj, nilTo, nilTos, qS, Nat.reduceAdd, Nat.reduceMul, Nat.reduceEqDiff, Nat.reduceLeDiff, reduceIte, reduceCtorEq, Nat.reduceBEq, Nat.reduceLT]
  refine run_loop (κ := Nat) (fun k => ⟨[(1, .p (.sl 7 (m.map Mov.pv))), (5, .lp 5 0), (8, .lp 8 0), (9, .row 100 ((l.take k).map Lim.later).length), (15, .p (.sl 11 (l.map Lim.pv))), (16, .p (.i .i64 l.length)), (17, .p (.i .i64 k))], [(5, .box (r.cells.map .p) false), (8, .box [.p (.s (bs [])), .p (.s (bs [])), .p (.s (bs [])), .p (.s (bs [])), .p (.s (bs [])), .p (.s (bs [])), .p (.i .i64 0), .p (.i .i64 0), .p (.i .i64 0), .p (.i .i64 0), .p (.i .i64 0), .p (.i .i64 0), .p (.i .i64 0)] false), (100, .row 46 11 (((l.take k).map Lim.later).map Lim.pv) false)], [], false⟩) (fun k => k ≤ l.length) (fun k => l.length - k) 0 ?_ ?_ ?_
  · simp only [qS, Nat.reduceAdd, Nat.reduceMul, Nat.reduceEqDiff, Nat.reduceLeDiff, reduceIte, reduceCtorEq, Nat.reduceBEq, Nat.reduceLT] <;> simp
  · simp
  · intro k hk
    by_cases hlt : k < l.length
    · obtain ⟨x, hx⟩ := some_at (i := k) (l := l) hlt
      have hx1 := chkPer_0 (chkLim_0 (hl1.2 x (List.mem_of_getElem? hx))).2.2.2.2.2.2.2.1
      have hn := take_snoc Lim.later hx
      have htk := take_len hx
      have qe := And.intro qR (And.intro @hx @htk); repeat' first | (show Run _ (.cond _ _ _) _ _; refine run_condX (fun hc => ?_) (fun hc => ?_) <;> (try simp only [qH, rng_0] at hc) <;> try contradiction) | (first | refine Stp.h ?_ | (show ∀ K : St → List Ft → Prop, _; intro K hK) | (show runS _ _ _ _ _; first | refine qY (hq := ?_) | refine qZ (hq := ?_)) | (refine hK _ _ ?_; clear hK K) | (refine hK _ _ rfl ?_; clear hK K) | (refine qZ (hq := ?_); try exact trivial) | omega)
      exact ⟨k + 1, by omega, by omega, ⟨by rw [List.length_take, Nat.min_eq_left (by omega)], by simp⟩, by rw [hn]; simp [Lim.later, perL]⟩
    · have e : k = l.length := by omega
      have qe := @qR; repeat' first | (show Run _ (.cond _ _ _) _ _; refine run_condX (fun hc => ?_) (fun hc => ?_) <;> (try simp only [qH, rng_0] at hc) <;> try contradiction) | (first | refine Stp.h ?_ | (show ∀ K : St → List Ft → Prop, _; intro K hK) | (show runS _ _ _ _ _; first | refine qY (hq := ?_) | refine qZ (hq := ?_)) | (refine hK _ _ ?_; clear hK K) | (refine hK _ _ rfl ?_; clear hK K) | (refine qZ (hq := ?_); try exact trivial) | omega)
      refine run_own 101 74 7 [(5, .lp 5 0), (8, .lp 8 0), (9, .row 100 ((l.take k).map Lim.later).length), (12, .row 101 0), (38, .p (.sl 7 (m.map Mov.pv))), (39, .p (.i .i64 m.length)), (40, .p (.i .i64 0))] [(5, .box (r.cells.map .p) false), (8, .box [.p (.s (bs [])), .p (.s (bs [])), .p (.s (bs [])), .p (.s (bs [])), .p (.s (bs [])), .p (.s (bs [])), .p (.i .i64 0), .p (.i .i64 0), .p (.i .i64 0), .p (.i .i64 0), .p (.i .i64 0), .p (.i .i64 0), .p (.i .i64 0)] false), (100, .row 46 11 (((l.take k).map Lim.later).map Lim.pv) false)] ?_ ?_
      · simp only [Own, ownEnv, ownObj, nilTo, nilTos, qS, Nat.reduceAdd, Nat.reduceMul, Nat.reduceEqDiff, Nat.reduceLeDiff, reduceIte, reduceCtorEq, Nat.reduceBEq, Nat.reduceLT]
      refine run_loop (κ := Nat) (fun j => ⟨[(5, .lp 5 0), (8, .lp 8 0), (9, .row 100 ((l.take k).map Lim.later).length), (12, .row 101 ((m.take j).map Mov.later).length), (38, .p (.sl 7 (m.map Mov.pv))), (39, .p (.i .i64 m.length)), (40, .p (.i .i64 j))], [(5, .box (r.cells.map .p) false), (8, .box [.p (.s (bs [])), .p (.s (bs [])), .p (.s (bs [])), .p (.s (bs [])), .p (.s (bs [])), .p (.s (bs [])), .p (.i .i64 0), .p (.i .i64 0), .p (.i .i64 0), .p (.i .i64 0), .p (.i .i64 0), .p (.i .i64 0), .p (.i .i64 0)] false), (100, .row 46 11 (((l.take k).map Lim.later).map Lim.pv) false), (101, .row 74 7 (((m.take j).map Mov.later).map Mov.pv) false)], [], false⟩) (fun j => j ≤ m.length) (fun j => m.length - j) 0 ?_ ?_ ?_
      · simp only [qS, Nat.reduceAdd, Nat.reduceMul, Nat.reduceEqDiff, Nat.reduceLeDiff, reduceIte, reduceCtorEq, Nat.reduceBEq, Nat.reduceLT] <;> simp
      · simp
      · intro j hj
        by_cases hjt : j < m.length
        · obtain ⟨y, hy⟩ := some_at (i := j) (l := m) hjt
          have hy1 := chkMov_0 (hm1.2.1 y (List.mem_of_getElem? hy))
          have hn := take_snoc Mov.later hy
          have htk := take_len hy
          have qe := And.intro qR (And.intro @hy @htk); repeat' first | (show Run _ (.cond _ _ _) _ _; refine run_condX (fun hc => ?_) (fun hc => ?_) <;> (try simp only [qH, rng_0] at hc) <;> try contradiction) | (first | refine Stp.h ?_ | (show ∀ K : St → List Ft → Prop, _; intro K hK) | (show runS _ _ _ _ _; first | refine qY (hq := ?_) | refine qZ (hq := ?_)) | (refine hK _ _ ?_; clear hK K) | (refine hK _ _ rfl ?_; clear hK K) | (refine qZ (hq := ?_); try exact trivial) | omega)
          exact ⟨j + 1, by omega, by omega, ⟨by rw [List.length_take, Nat.min_eq_left (by omega)], by simp⟩, by rw [hn]; simp [Mov.later]⟩
        · have e2 : j = m.length := by omega
          have qe := @qR; repeat' first | (show Run _ (.cond _ _ _) _ _; refine run_condX (fun hc => ?_) (fun hc => ?_) <;> (try simp only [qH, rng_0] at hc) <;> try contradiction) | (first | refine Stp.h ?_ | (show ∀ K : St → List Ft → Prop, _; intro K hK) | (show runS _ _ _ _ _; first | refine qY (hq := ?_) | refine qZ (hq := ?_)) | (refine hK _ _ ?_; clear hK K) | (refine hK _ _ rfl ?_; clear hK K) | (refine qZ (hq := ?_); try exact trivial) | omega)
          subst e e2; rw [List.take_length, List.take_length]; exact .refl _
theorem pure111 (l : Lim) (n : ByteArray) : Pure Tryz.prog 111 [l.pv, .ip (.s n) 0] (.b (!decide (l.name = n))) := by
  refine pure_by fact111 (by simp) fun hw X hX => ?_
  unfold ac111 rs111
  repeat' first | (show Run _ (.cond _ _ _) _ _; refine run_condX (fun hc => ?_) (fun hc => ?_) <;> (try simp only [qH, rng_0] at hc) <;> try contradiction) | (first | refine Stp.h ?_ | (show ∀ K : St → List Ft → Prop, _; intro K hK) | (show runS _ _ _ _ _; first | refine qY (hq := ?_) | refine qZ (hq := ?_)) | (refine hK _ _ ?_; clear hK K) | (refine hK _ _ rfl ?_; clear hK K) | (refine qZ (hq := ?_); try exact trivial) | omega)
  exact .refl _
theorem pure110 {f : Nat} {caps : List PV} {L : List Lim} {p : Lim → Bool} (hf : ∀ w ∈ L, Pure Tryz.prog f (w.pv :: caps) (.b (p w))) (hn : L.length ≤ 1000000) : Pure Tryz.prog 110 [.sl 11 (L.map Lim.pv), .fn (.func f) [] caps] (.sl 11 ((L.filter p).map Lim.pv)) := by
  refine pure_by fact110 (by simp) fun hw X hX => ?_
  unfold ac110 rs110
  repeat' first | (show Run _ (.cond _ _ _) _ _; refine run_condX (fun hc => ?_) (fun hc => ?_) <;> (try simp only [qH, rng_0] at hc) <;> try contradiction) | (first | refine Stp.h ?_ | (show ∀ K : St → List Ft → Prop, _; intro K hK) | (show runS _ _ _ _ _; first | refine qY (hq := ?_) | refine qZ (hq := ?_)) | (refine hK _ _ ?_; clear hK K) | (refine hK _ _ rfl ?_; clear hK K) | (refine qZ (hq := ?_); try exact trivial) | omega)
  refine run_own 100 46 11 [(1, .p (.fn (.func f) [] caps)), (5, .row 100 0), (8, .p (.sl 11 (L.map Lim.pv))), (9, .p (.i .i64 L.length)), (10, .p (.i .i64 0))] [] ?_ ?_
  · simp only [Own, ownEnv, ownObj, nilTo, nilTos, qS, Nat.reduceAdd, Nat.reduceMul, Nat.reduceEqDiff, Nat.reduceLeDiff, reduceIte, reduceCtorEq, Nat.reduceBEq, Nat.reduceLT]
  refine run_loop (κ := Nat) (fun k => ⟨[(1, .p (.fn (.func f) [] caps)), (5, .row 100 ((L.take k).filter p).length), (8, .p (.sl 11 (L.map Lim.pv))), (9, .p (.i .i64 L.length)), (10, .p (.i .i64 k))], [(100, .row 46 11 (((L.take k).filter p).map Lim.pv) false)], [], false⟩) (fun k => k ≤ L.length) (fun k => L.length - k) 0 ?_ ?_ ?_
  · simp only [qS, Nat.reduceAdd, Nat.reduceMul, Nat.reduceEqDiff, Nat.reduceLeDiff, reduceIte, reduceCtorEq, Nat.reduceBEq, Nat.reduceLT] <;> simp
  · simp
  · intro k hk
    repeat (first | refine Stp.h ?_ | (show ∀ K : St → List Ft → Prop, _; intro K hK) | (show runS _ _ _ _ _; first | refine qY (hq := ?_) | refine qZ (hq := ?_)) | (refine hK _ _ ?_; clear hK K) | (refine hK _ _ rfl ?_; clear hK K) | (refine qZ (hq := ?_); try exact trivial) | omega)
    (show Run _ (.cond _ _ _) _ _; refine run_condX (fun hc => ?_) (fun hc => ?_) <;> (try simp only [qH, rng_0] at hc) <;> try contradiction)
    · obtain ⟨w, hx⟩ := some_at (i := k) (l := L) (by omega)
      have hnx := filter_take (p := p) hx
      have hfl := filter_tlen (p := p) (l := L) (k := k)
      have qe := And.intro qR @hx; repeat' first | (show Run _ (.cond _ _ _) _ _; refine run_condX (fun hc => ?_) (fun hc => ?_) <;> (try simp only [qH, rng_0] at hc) <;> try contradiction) | (show RunOps _ _ _ _ (⟨_, .callv, _, _, _⟩ :: _) _ _; refine run_callVX (hf := hf w (List.mem_of_getElem? hx)) (hn := ?_)) | (first | refine Stp.h ?_ | (show ∀ K : St → List Ft → Prop, _; intro K hK) | (show runS _ _ _ _ _; first | refine qY (hq := ?_) | refine qZ (hq := ?_)) | (refine hK _ _ ?_; clear hK K) | (refine hK _ _ rfl ?_; clear hK K) | (refine qZ (hq := ?_); try exact trivial) | omega)
      · rw [hc, if_pos rfl] at hnx
        exact ⟨k + 1, by omega, by omega, ⟨by rw [hnx]; simp, by simp⟩, by rw [hnx]; simp⟩
      · rw [hc] at hnx
        exact ⟨k + 1, by omega, by omega, ⟨by rw [hnx]; simp, by simp⟩, by rw [hnx]; simp⟩
    · repeat' first | (show Run _ (.cond _ _ _) _ _; refine run_condX (fun hc => ?_) (fun hc => ?_) <;> (try simp only [qH, rng_0] at hc) <;> try contradiction) | (first | refine Stp.h ?_ | (show ∀ K : St → List Ft → Prop, _; intro K hK) | (show runS _ _ _ _ _; first | refine qY (hq := ?_) | refine qZ (hq := ?_)) | (refine hK _ _ ?_; clear hK K) | (refine hK _ _ rfl ?_; clear hK K) | (refine qZ (hq := ?_); try exact trivial) | omega)
      have e : k = L.length := by omega
      subst e; rw [List.take_length]; exact .refl _
def woutE (l : List Lim) (n : ByteArray) : Int := firstE [chkLims l, nameE n, if atL n (l.map Lim.name) < 0 then 10 else 0]
def woutR (l : List Lim) (n : ByteArray) : List Lim := if woutE l n = 0 then l.filter (fun x => !decide (x.name = n)) else []
theorem pure64 (l : List Lim) (n : ByteArray) (hn : l.length ≤ 1000000) : Pure Tryz.prog 64 [.sl 11 (l.map Lim.pv), .s n] (.tup [.sl 11 ((woutR l n).map Lim.pv), .i .i64 (woutE l n)]) := by
  have he : (if (!isName n) = true then (8 : Int) else 0) = nameE n := by simp [nameE]
  have he2 : (if decide (atL n (l.map Lim.name) < 0) = true then (10 : Int) else 0) = (if atL n (l.map Lim.name) < 0 then 10 else 0) := by simp
  refine pure_by fact64 (by simp) fun hw X hX => ?_
  unfold ac64 rs64
  have qe := And.intro qR (And.intro @he @he2); repeat' first | (show Run _ (.cond _ _ _) _ _; refine run_condX (fun hc => ?_) (fun hc => ?_) <;> (try simp only [qH, rng_0] at hc) <;> try contradiction) | (show RunOps _ _ _ _ (⟨_, .call 22, _, _, _⟩ :: _) _ _; refine run_callX (hf := pure22 l) (hn := ?_)) | (show RunOps _ _ _ _ (⟨_, .call 109, _, _, _⟩ :: _) _ _; refine run_callX (hf := pure109 n) (hn := ?_)) | (show RunOps _ _ _ _ (⟨_, .call 85, _, _, _⟩ :: _) _ _; refine run_callX (hf := pure85 _ _) (hn := ?_)) | (show RunOps _ _ _ _ (⟨_, .call 86, _, _, _⟩ :: _) _ _; refine run_callX (hf := pure86 l n) (hn := ?_)) | (show RunOps _ _ _ _ (⟨_, .call 83, _, _, _⟩ :: _) _ _; refine run_callX (hf := pure83 [_, _, _]) (hn := ?_)) | (show RunOps _ _ _ _ (⟨_, .call 110, _, _, _⟩ :: _) _ _; refine run_callBX (hf := pure110 (fun w _ => pure111 w n) hn) (hn := ?_)) | (first | refine Stp.h ?_ | (show ∀ K : St → List Ft → Prop, _; intro K hK) | (show runS _ _ _ _ _; first | refine qY (hq := ?_) | refine qZ (hq := ?_)) | (refine hK _ _ ?_; clear hK K) | (refine hK _ _ rfl ?_; clear hK K) | (refine qZ (hq := ?_); try exact trivial) | omega)
  · have e : firstE [chkLims l, if isName n = false then 8 else 0, if atL n (l.map Lim.name) < 0 then 10 else 0] = woutE l n := rfl
    rw [e] at hc ⊢
    rw [woutR, if_neg hc]; exact weak2 (.nilsl _) (.refl _)
  · have e : firstE [chkLims l, if isName n = false then 8 else 0, if atL n (l.map Lim.name) < 0 then 10 else 0] = woutE l n := rfl
    rw [e] at hc
    rw [woutR, if_pos hc, hc]; exact .refl _
def putE (l : List Lim) (x : Lim) : Int := if firstE [chkLims l, chkLim x] = 0 then (if 0 ≤ atL x.name (l.map Lim.name) then 0 else if (l.length : Int) = 32 then 5 else 0) else firstE [chkLims l, chkLim x]
def putL (l : List Lim) (x : Lim) : List Lim := if 0 ≤ atL x.name (l.map Lim.name) then l.set (atL x.name (l.map Lim.name)).toNat x else l ++ [x]
def putR (l : List Lim) (x : Lim) : List Lim := if putE l x = 0 then putL l x else []
theorem atL_lt (n : ByteArray) : ∀ l : List ByteArray, atL n l < l.length
  | [] => by simp [atL]
  | x :: r => by have := atL_lt n r; simp only [atL, List.length_cons]; (repeat' split) <;> omega
theorem allLm (l : List Lim) : l.all ((fun x => x.cells.all PV.one) ∘ Lim.pv) = true := by rw [List.all_eq_true]; intro x _; rfl
theorem pure63 (l : List Lim) (x : Lim) : Pure Tryz.prog 63 [.sl 11 (l.map Lim.pv), x.pv] (.tup [.sl 11 ((putR l x).map Lim.pv), .i .i64 (putE l x)]) := by
  refine pure_by fact63 (by simp) fun hw X hX => ?_
  unfold ac63 rs63
  have hat := atL_lt x.name (l.map Lim.name)
  rw [List.length_map] at hat
  have hA := eq_true (allLm l)
  by_cases h0 : firstE [chkLims l, chkLim x] = 0
  · have h0' := eq_true h0
    have hl := chkLims_0 (firstE_cons.1 h0).1
    have hc1 : ((l.map Lim.pv).take l.length) = l.map Lim.pv := by rw [List.take_of_length_le (by simp)]
    by_cases h1 : 0 ≤ atL x.name (l.map Lim.name)
    · have h1' := eq_true h1
      obtain ⟨y, hy⟩ := some_at (i := (atL x.name (l.map Lim.name)).toNat) (l := l) (by omega)
      have qe := And.intro qR (And.intro @hA (And.intro @h0' (And.intro @h1' (And.intro @hc1 (And.intro @hy (And.intro @List.length_replicate.{0} (And.intro @List.drop_replicate.{0} (And.intro @Nat.sub_self @List.replicate_zero.{0})))))))); repeat' first | (show Run _ (.cond _ _ _) _ _; refine run_condX (fun hc => ?_) (fun hc => ?_) <;> (try simp only [qH, rng_0] at hc) <;> try contradiction) | (show RunOps _ _ _ _ (⟨_, .call 22, _, _, _⟩ :: _) _ _; refine run_callX (hf := pure22 l) (hn := ?_)) | (show RunOps _ _ _ _ (⟨_, .call 84, _, _, _⟩ :: _) _ _; refine run_callX (hf := pure84 x) (hn := ?_)) | (show RunOps _ _ _ _ (⟨_, .call 83, _, _, _⟩ :: _) _ _; refine run_callX (hf := pure83 [_, _]) (hn := ?_)) | (show RunOps _ _ _ _ (⟨_, .call 86, _, _, _⟩ :: _) _ _; refine run_callX (hf := pure86 l x.name) (hn := ?_)) | (first | refine Stp.h ?_ | (show ∀ K : St → List Ft → Prop, _; intro K hK) | (show runS _ _ _ _ _; first | refine qY (hq := ?_) | refine qZ (hq := ?_)) | (refine hK _ _ ?_; clear hK K) | (refine hK _ _ rfl ?_; clear hK K) | (refine qZ (hq := ?_); try exact trivial) | omega)
      have hE : putE l x = 0 := by rw [putE, if_pos h0, if_pos h1]
      rw [putR, if_pos hE, hE, putL, if_pos h1, List.map_set]; exact .refl _
    · have h1' := eq_false h1
      by_cases h2 : (l.length : Int) = 32
      · have h2' := eq_true h2
        have qe := And.intro qR (And.intro @hA (And.intro @h0' (And.intro @h1' (And.intro @h2' (And.intro @hc1 (And.intro @List.length_replicate.{0} (And.intro @List.drop_replicate.{0} (And.intro @Nat.sub_self @List.replicate_zero.{0})))))))); repeat' first | (show Run _ (.cond _ _ _) _ _; refine run_condX (fun hc => ?_) (fun hc => ?_) <;> (try simp only [qH, rng_0] at hc) <;> try contradiction) | (show RunOps _ _ _ _ (⟨_, .call 22, _, _, _⟩ :: _) _ _; refine run_callX (hf := pure22 l) (hn := ?_)) | (show RunOps _ _ _ _ (⟨_, .call 84, _, _, _⟩ :: _) _ _; refine run_callX (hf := pure84 x) (hn := ?_)) | (show RunOps _ _ _ _ (⟨_, .call 83, _, _, _⟩ :: _) _ _; refine run_callX (hf := pure83 [_, _]) (hn := ?_)) | (show RunOps _ _ _ _ (⟨_, .call 86, _, _, _⟩ :: _) _ _; refine run_callX (hf := pure86 l x.name) (hn := ?_)) | (first | refine Stp.h ?_ | (show ∀ K : St → List Ft → Prop, _; intro K hK) | (show runS _ _ _ _ _; first | refine qY (hq := ?_) | refine qZ (hq := ?_)) | (refine hK _ _ ?_; clear hK K) | (refine hK _ _ rfl ?_; clear hK K) | (refine qZ (hq := ?_); try exact trivial) | omega)
        have hE : putE l x = 5 := by rw [putE, if_pos h0, if_neg h1, if_pos h2]
        rw [putR, hE, if_neg (by decide)]; exact weak2 (.nilsl _) (.refl _)
      · have h2' := eq_false h2
        have qe := And.intro qR (And.intro @hA (And.intro @h0' (And.intro @h1' (And.intro @h2' (And.intro @hc1 (And.intro @List.length_replicate.{0} (And.intro @List.drop_replicate.{0} (And.intro @Nat.sub_self @List.replicate_zero.{0})))))))); repeat' first | (show Run _ (.cond _ _ _) _ _; refine run_condX (fun hc => ?_) (fun hc => ?_) <;> (try simp only [qH, rng_0] at hc) <;> try contradiction) | (show RunOps _ _ _ _ (⟨_, .call 22, _, _, _⟩ :: _) _ _; refine run_callX (hf := pure22 l) (hn := ?_)) | (show RunOps _ _ _ _ (⟨_, .call 84, _, _, _⟩ :: _) _ _; refine run_callX (hf := pure84 x) (hn := ?_)) | (show RunOps _ _ _ _ (⟨_, .call 83, _, _, _⟩ :: _) _ _; refine run_callX (hf := pure83 [_, _]) (hn := ?_)) | (show RunOps _ _ _ _ (⟨_, .call 86, _, _, _⟩ :: _) _ _; refine run_callX (hf := pure86 l x.name) (hn := ?_)) | (first | refine Stp.h ?_ | (show ∀ K : St → List Ft → Prop, _; intro K hK) | (show runS _ _ _ _ _; first | refine qY (hq := ?_) | refine qZ (hq := ?_)) | (refine hK _ _ ?_; clear hK K) | (refine hK _ _ rfl ?_; clear hK K) | (refine qZ (hq := ?_); try exact trivial) | omega)
        have hE : putE l x = 0 := by rw [putE, if_pos h0, if_neg h1, if_neg h2]
        rw [putR, if_pos hE, hE, putL, if_neg h1, List.map_append]; exact .refl _
  · have h0' := eq_false h0
    have qe := And.intro qR @h0'; repeat' first | (show Run _ (.cond _ _ _) _ _; refine run_condX (fun hc => ?_) (fun hc => ?_) <;> (try simp only [qH, rng_0] at hc) <;> try contradiction) | (show RunOps _ _ _ _ (⟨_, .call 22, _, _, _⟩ :: _) _ _; refine run_callX (hf := pure22 l) (hn := ?_)) | (show RunOps _ _ _ _ (⟨_, .call 84, _, _, _⟩ :: _) _ _; refine run_callX (hf := pure84 x) (hn := ?_)) | (show RunOps _ _ _ _ (⟨_, .call 83, _, _, _⟩ :: _) _ _; refine run_callX (hf := pure83 [_, _]) (hn := ?_)) | (show RunOps _ _ _ _ (⟨_, .call 86, _, _, _⟩ :: _) _ _; refine run_callX (hf := pure86 l x.name) (hn := ?_)) | (first | refine Stp.h ?_ | (show ∀ K : St → List Ft → Prop, _; intro K hK) | (show runS _ _ _ _ _; first | refine qY (hq := ?_) | refine qZ (hq := ?_)) | (refine hK _ _ ?_; clear hK K) | (refine hK _ _ rfl ?_; clear hK K) | (refine qZ (hq := ?_); try exact trivial) | omega)
    have hE : putE l x = firstE [chkLims l, chkLim x] := by rw [putE, if_neg h0]
    rw [putR, hE, if_neg h0]; exact weak2 (.nilsl _) (.refl _)
end Go.Proofs.YtcfbdeghmckelaaGreat
namespace Go.Proofs.YtcfbdeghmckelaaGreat
open Go.RowKit
set_option maxRecDepth 100000
set_option linter.unusedVariables false
set_option linter.unusedSimpArgs false
set_option maxHeartbeats 2000000
theorem firstE_mem : ∀ {l : List Int}, firstE l = 0 → ∀ x ∈ l, x = 0
  | [], _, x, hx => by cases hx
  | a :: r, h, x, hx => by
    obtain ⟨h1, h2⟩ := firstE_cons.1 h
    rcases List.mem_cons.1 hx with rfl | hx
    · exact h1
    · exact firstE_mem h2 x hx
theorem per_later {p : Per} (h : chkPer p = 0) (h9 : p.to ≤ 90000) : chkPer (perL p) = 0 := by
  have hp := chkPer_0 h
  unfold chkPer
  simp only [firstE_cons, rng_0, ite_eq0 (show (11 : Int) ≠ 0 by decide), ite_eq0 (show (4 : Int) ≠ 0 by decide), perL]
  refine ⟨by omega, by omega, by omega, by omega, by omega, rfl⟩
theorem lim_later {l : Lim} (h : chkLim l = 0) (h9 : l.per.to ≤ 90000) : chkLim l.later = 0 := by
  have hp := per_later (chkLim_0 h).2.2.2.2.2.2.2.1 h9
  unfold chkLim at h ⊢
  simp only [firstE_cons] at h ⊢
  exact ⟨h.1, h.2.1, h.2.2.1, h.2.2.2.1, h.2.2.2.2.1, h.2.2.2.2.2.1, h.2.2.2.2.2.2.1, h.2.2.2.2.2.2.2.1, hp, h.2.2.2.2.2.2.2.2.2⟩
theorem lims_later {ls : List Lim} (h : chkLims ls = 0) (h9 : ∀ l ∈ ls, l.per.to ≤ 90000) : chkLims (ls.map Lim.later) = 0 := by
  have h0 := chkLims_0 h
  rw [chkLims, if_neg (by omega)] at h
  rw [chkLims, if_neg (by rw [List.length_map]; omega)]
  refine firstE_all fun e he => ?_
  obtain ⟨i, hi⟩ := List.getElem?_of_mem he
  simp only [limErrs, List.getElem?_mapIdx, Option.map_eq_some_iff, List.getElem?_map] at hi
  obtain ⟨x, ⟨y, hy, rfl⟩, rfl⟩ := hi
  have hz := firstE_mem h (limErr ls i y) (List.mem_of_getElem? (i := i) (by simp only [limErrs, List.getElem?_mapIdx, hy, Option.map_some]))
  have hm := List.mem_of_getElem? hy
  have hn : ((ls.map Lim.later).take i).map Lim.name = (ls.take i).map Lim.name := by rw [← List.map_take, List.map_map]; rfl
  unfold limErr at hz ⊢
  rw [hn]
  exact firstE_cons.2 ⟨lim_later (h0.2 y hm) (h9 y hm), (firstE_cons.1 hz).2⟩
theorem movs_later {m : List Mov} (h : chkMovs m = 0) (h9 : ∀ x ∈ m, x.moment ≤ 129600000) : chkMovs (m.map Mov.later) = 0 := by
  have h0 := chkMovs_0 h
  refine chkMovs_of (by rw [List.length_map]; omega) (fun x hx => ?_) ?_
  · obtain ⟨y, hy, rfl⟩ := List.mem_map.1 hx
    have h1 := h0.2.1 y hy
    have h2 := h9 y hy
    unfold chkMov at h1 ⊢
    simp only [firstE_cons, rng_0] at h1 ⊢
    refine ⟨?_, h1.2.1, h1.2.2.1, h1.2.2.2.1, h1.2.2.2.2⟩
    simp only [Mov.later]; omega
  · have := h0.2.2
    rw [List.pairwise_map] at this
    show List.Pairwise _ _
    rw [List.pairwise_map]
    exact this.imp fun {a b} hab => by simp only [Mov.later]; omega
theorem req_later {r : Req} (h : chkReq r = 0) (h9 : r.per.to ≤ 90000) : chkReq r.later = 0 := by
  have hp := per_later (chkReq_0 h).1 h9
  unfold chkReq at h ⊢
  simp only [firstE_cons] at h ⊢
  exact ⟨h.1, h.2.1, h.2.2.1, hp, h.2.2.2.2⟩
theorem days_later (p : Per) : daysL (perL p) = (daysL p).map (· + 7) := by
  unfold daysL perL
  simp only
  rw [show p.to + 7 - (p.fro + 7) + 1 = p.to - p.fro + 1 by omega, List.map_flatMap]
  refine flat_congr fun k _ => ?_
  rw [show (p.fro + 7 + (k : Int) + 5) % 7 = (p.fro + k + 5) % 7 by omega]
  split
  · simp; omega
  · rfl
theorem begK_later (l : Lim) (d : Int) (k : Nat) : begK l.later (d + 7) k = (begK l d k).map (· + 10080) := by
  unfold begK
  rw [List.map_map]
  refine List.map_congr_left fun n _ => ?_
  simp only [begV, Lim.later, Lim.from_, Function.comp_apply]
  generalize l.step * _ = z
  omega
theorem begins_later {l : Lim} (h : chkLim l = 0) (h' : chkLim l.later = 0) (d : Int) : beginsL l.later (d + 7) = (beginsL l d).map (· + 10080) := by
  rw [beginsL_day h', beginsL_day h]
  have hd : d + 7 ∈ daysL l.later.per ↔ d ∈ daysL l.per := by
    show d + 7 ∈ daysL (perL l.per) ↔ _
    rw [days_later, List.mem_map]
    exact ⟨fun ⟨a, ha, e⟩ => by rw [show d = a by omega]; exact ha, fun h => ⟨d, h, rfl⟩⟩
  by_cases e : d ∈ daysL l.per
  · rw [if_pos (hd.2 e), if_pos e]; exact begK_later l d (begN l)
  · rw [if_neg (fun h => e (hd.1 h)), if_neg e]; rfl
theorem windows_later {l : Lim} (h : chkLim l = 0) (h' : chkLim l.later = 0) : windowsL l.later = (windowsL l).map (· + 10080) := by
  rw [windows_eq h', windows_eq h, show l.later.per = perL l.per from rfl, days_later, List.flatMap_map, List.map_flatMap]
  exact flat_congr fun d _ => begK_later l d (begN l)
theorem of_later (l : Lim) (m : List Mov) : ofL l.later (m.map Mov.later) = (ofL l m).map (· + 10080) := by
  unfold ofL
  rw [List.filter_map, List.map_map, List.map_map]
  rfl
theorem ltN_shift (L : List Int) (x c : Int) : ltN (L.map (· + c)) (x + c) = ltN L x := by
  unfold ltN
  rw [List.filter_map, List.length_map]
  congr 1
  refine List.filter_congr fun y _ => ?_
  simp only [Function.comp_apply, decide_eq_decide]
  omega
theorem cnt_later (l : Lim) (m : List Mov) (b : Int) : cntAll l.later (m.map Mov.later) (b + 10080) = cntAll l m b := by
  show cntW (ofL l.later (m.map Mov.later)) (b + 10080) l.later.len = cntW (ofL l m) b l.len
  rw [of_later]
  unfold cntW
  rw [show b + 10080 + l.later.len = b + l.len + 10080 by simp only [Lim.later]; omega, ltN_shift, ltN_shift]
def Win.later (w : Win) : Win := ⟨w.lim, w.beg + 10080, w.cnt⟩
theorem exc_later {ls : List Lim} {m : List Mov} (h : ∀ l ∈ ls, chkLim l = 0) (h' : ∀ l ∈ ls, chkLim l.later = 0) : excW (ls.map Lim.later) (m.map Mov.later) = (excW ls m).map Win.later := by
  unfold excW excK
  rw [List.length_map, List.map_flatMap]
  refine flat_congr fun i _ => ?_
  unfold excI
  rw [List.getElem?_map]
  cases hi : ls[i]? with
  | none => rfl
  | some l =>
    have hm := List.mem_of_getElem? hi
    simp only [Option.map_some]
    unfold excL
    rw [windows_later (h l hm) (h' l hm), List.flatMap_map, List.map_flatMap]
    refine flat_congr fun b _ => ?_
    unfold excB
    rw [cnt_later]
    show (if l.most < _ then _ else _) = _
    split <;> rfl
theorem ar_later {ls : List Lim} {m : List Mov} {o : Mov} (h : ∀ l ∈ ls, chkLim l = 0) (h' : ∀ l ∈ ls, chkLim l.later = 0) : arW (ls.map Lim.later) (m.map Mov.later) o.later = (arW ls m o).map Win.later := by
  unfold arW arK
  rw [List.length_map, List.map_flatMap]
  refine flat_congr fun i _ => ?_
  unfold arI
  rw [List.getElem?_map]
  cases hi : ls[i]? with
  | none => rfl
  | some l =>
    have hm := List.mem_of_getElem? hi
    simp only [Option.map_some]
    unfold arL
    show (if countsL l o.kind o.term = true then _ else _) = _
    split
    · rw [List.map_flatMap]
      refine flat_congr fun e _ => ?_
      unfold arX arD
      rw [show o.later.moment / 1440 - 1 + (e : Int) = o.moment / 1440 - 1 + e + 7 by simp only [Mov.later]; omega, begins_later (h l hm) (h' l hm), List.flatMap_map, List.map_flatMap]
      refine flat_congr fun b _ => ?_
      unfold arB
      rw [cnt_later]
      by_cases c : b ≤ o.moment ∧ o.moment < b + l.len
      · rw [if_pos c, if_pos (by simp only [Mov.later, Lim.later]; omega)]; rfl
      · rw [if_neg c, if_neg (by simp only [Mov.later, Lim.later]; omega)]; rfl
    · rfl
theorem room_later {ls : List Lim} {m : List Mov} {o : Mov} (h : ∀ l ∈ ls, chkLim l = 0) (h' : ∀ l ∈ ls, chkLim l.later = 0) : roomL (ls.map Lim.later) (m.map Mov.later) o.later = roomL ls m o := by
  unfold roomL roomK
  rw [ar_later h h', List.foldl_map]
  congr 1
  funext a w
  unfold roomStep
  rw [show mostAt (ls.map Lim.later) (Win.later w).lim = mostAt ls w.lim by
    unfold mostAt
    rw [List.getElem?_map]
    show (match (ls[w.lim.toNat]?).map Lim.later with | some l => l.most | none => 0) = _
    cases ls[w.lim.toNat]? <;> rfl]
  rfl
theorem fits_later {ls : List Lim} {m : List Mov} {r : Req} (h : ∀ l ∈ ls, chkLim l = 0) (h' : ∀ l ∈ ls, chkLim l.later = 0) (n : Int) : fitsB (ls.map Lim.later) (m.map Mov.later) (r.later.at n) = fitsB ls m (r.at n) := by
  unfold fitsB movsL
  rw [show (r.later.at n).per = perL (r.at n).per from rfl, days_later, List.map_map, List.all_map, List.all_map]
  congr 1
  funext d
  have e : movOf (r.later.at n) (d + 7) = (movOf (r.at n) d).later := by simp only [movOf, Mov.later, Req.later, Req.at, Mov.mk.injEq, and_self, and_true]; omega
  simp only [Function.comp_apply, e, room_later h h']
theorem fre_later {ls : List Lim} {m : List Mov} {r : Req} (h : ∀ l ∈ ls, chkLim l = 0) (h' : ∀ l ∈ ls, chkLim l.later = 0) (a b : Int) : freL (ls.map Lim.later) (m.map Mov.later) r.later a b = freL ls m r a b := by
  unfold freL
  congr 1
  funext n
  exact fits_later h h' n
theorem exc_beg {ls : List Lim} {m : List Mov} (h : ∀ l ∈ ls, chkLim l = 0) {w : Win} (hw : w ∈ excW ls m) : 0 ≤ w.beg ∧ w.beg ≤ 144000000 := by
  obtain ⟨i, _, hw⟩ := List.mem_flatMap.1 hw
  unfold excI at hw
  split at hw
  · rename_i l hl
    obtain ⟨b, hb, hw⟩ := List.mem_flatMap.1 hw
    have hc := h l (List.mem_of_getElem? hl)
    have h1 := win_at hc hb
    have h2 := beginsL_mem hc h1
    have h3 := chkPer_0 (chkLim_0 hc).2.2.2.2.2.2.2.1
    unfold excB at hw
    split at hw
    · rw [List.mem_singleton.1 hw]; simp only; omega
    · cases hw
  · cases hw
end Go.Proofs.YtcfbdeghmckelaaGreat
namespace Go.Proofs.YtcfbdeghmckelaaGreat
open Go.RowKit
set_option maxRecDepth 100000
set_option linter.unusedVariables false
set_option linter.unusedSimpArgs false
set_option maxHeartbeats 2000000
def Leaves (m : List Mov) (o : Mov) (c : Int) (l : Lim) : Prop := ∀ b ∈ windowsL l, inW l b o = true → c ≤ max 0 (l.most - cntAll l m b)
theorem room_iff {ls : List Lim} {m : List Mov} {o : Mov} (hl : ∀ l ∈ ls, chkLim l = 0) (c : Int) : c ≤ roomL ls m o ↔ c ≤ 999999999 ∧ ∀ l ∈ ls, Leaves m o c l := by
  have h := roomK_char ls (arW ls m o) 999999999
  have e1 : roomL ls m o = (arW ls m o).foldl (roomStep ls) 999999999 := rfl
  rw [← e1] at h
  constructor
  · intro hc
    refine ⟨by omega, fun l hm b hb hw => ?_⟩
    obtain ⟨i, hi⟩ := List.getElem?_of_mem hm
    have := h.1.2 _ (ar_mem (m := m) hi (hl l hm) hb hw)
    rw [show mostAt ls (⟨i, b, cntAll l m b⟩ : Win).lim = l.most by simp only [mostAt, Int.toNat_natCast, hi]] at this
    simp only at this
    omega
  · intro ⟨h1, h2⟩
    rcases h.2 with h3 | ⟨w, hw, h3⟩
    · omega
    · obtain ⟨i, l, e2, hi, e3, e4, e5, e6, e, _, hb⟩ := arW_at hw
      have hm := List.mem_of_getElem? hi
      have := h2 l hm w.beg (win_of (hl l hm) hb) (by simp only [inW, e4, Bool.true_and, Bool.and_eq_true, decide_eq_true_eq]; exact ⟨e5, e6⟩)
      rw [show mostAt ls w.lim = l.most by simp only [mostAt, e2, Int.toNat_natCast, hi], e3] at h3
      omega
theorem room_app {A B : List Lim} {m : List Mov} {o : Mov} (hl : ∀ l ∈ A ++ B, chkLim l = 0) : roomL (A ++ B) m o = min (roomL A m o) (roomL B m o) := by
  have key : ∀ c, c ≤ roomL (A ++ B) m o ↔ c ≤ roomL A m o ∧ c ≤ roomL B m o := fun c => by
    rw [room_iff hl, room_iff fun l h => hl l (List.mem_append_left _ h), room_iff fun l h => hl l (List.mem_append_right _ h)]
    constructor
    · exact fun ⟨h1, h2⟩ => ⟨⟨h1, fun l h => h2 l (List.mem_append_left _ h)⟩, h1, fun l h => h2 l (List.mem_append_right _ h)⟩
    · exact fun ⟨⟨h1, h2⟩, _, h3⟩ => ⟨h1, fun l h => (List.mem_append.1 h).elim (h2 l) (h3 l)⟩
  have h1 := (key (roomL (A ++ B) m o)).1 (Int.le_refl _)
  have h2 := (key (min (roomL A m o) (roomL B m o))).2 ⟨by omega, by omega⟩
  omega
theorem fits_app {A B : List Lim} {m : List Mov} {r : Req} (hl : ∀ l ∈ A ++ B, chkLim l = 0) : fitsB (A ++ B) m r = (fitsB A m r && fitsB B m r) := by
  have h : ∀ o, (!decide (roomL (A ++ B) m o < 1)) = (!decide (roomL A m o < 1) && !decide (roomL B m o < 1)) := fun o => by
    rw [room_app hl]
    by_cases h1 : roomL A m o < 1 <;> by_cases h2 : roomL B m o < 1 <;> simp only [h1, h2, decide_true, decide_false, Bool.not_true, Bool.not_false, Bool.and_self, Bool.and_false, Bool.false_and] <;> simp <;> omega
  unfold fitsB
  induction movsL r with
  | nil => rfl
  | cons o q ih =>
    simp only [List.all_cons]
    rw [ih, h o]
    cases (!decide (roomL A m o < 1)) <;> cases (!decide (roomL B m o < 1)) <;> simp
theorem room_more {ls : List Lim} {m : List Mov} {o : Mov} (hl : ∀ l ∈ ls, chkLim l = 0) : roomL ls (withM m o 1) o ≤ roomL ls m o := by
  rw [room_iff hl]
  have h := (room_iff (m := withM m o 1) (o := o) hl _).1 (Int.le_refl _)
  refine ⟨h.1, fun l hm b hb hw => ?_⟩
  have := h.2 l hm b hb hw
  rw [with_adds hl m o 1 l hm b, if_pos hw] at this
  omega
def Lim.lower (l : Lim) : Lim := ⟨l.name, l.kind, l.term, l.len, l.step, l.fro, l.to, l.per, l.most - 1⟩
theorem lower_chk {l : Lim} (h : chkLim l = 0) (h1 : ¬ l.most = 0) : chkLim l.lower = 0 := by
  have h0 := chkLim_0 h
  unfold chkLim at h ⊢
  simp only [firstE_cons, rng_0] at h ⊢
  refine ⟨h.1, h.2.1, h.2.2.1, h.2.2.2.1, h.2.2.2.2.1, h.2.2.2.2.2.1, h.2.2.2.2.2.2.1, h.2.2.2.2.2.2.2.1, h.2.2.2.2.2.2.2.2.1, ?_, rfl⟩
  simp only [Lim.lower]; omega
theorem lower_room {ls : List Lim} {m : List Mov} {o : Mov} {i : Nat} {x : Lim} (hl : ∀ l ∈ ls, chkLim l = 0) (hi : ls[i]? = some x) (h1 : ¬ x.most = 0) :
    roomL (ls.set i x.lower) m o ≤ roomL ls m o ∧ (roomL ls m o < 999999999 → roomL ls m o - 1 ≤ roomL (ls.set i x.lower) m o) := by
  have hx := List.mem_of_getElem? hi
  have hlt := (List.getElem?_eq_some_iff.1 hi).1
  have hl2 : ∀ l ∈ ls.set i x.lower, chkLim l = 0 := fun l h => by
    rcases List.mem_or_eq_of_mem_set h with h | h
    · exact hl l h
    · rw [h]; exact lower_chk (hl x hx) h1
  constructor
  · have h := (room_iff (m := m) (o := o) hl2 _).1 (Int.le_refl _)
    rw [room_iff hl]
    refine ⟨h.1, fun l hm b hb hw => ?_⟩
    obtain ⟨j, hj⟩ := List.getElem?_of_mem hm
    by_cases e : j = i
    · subst e
      have e2 : x = l := Option.some.inj (hi.symm.trans hj)
      subst e2
      have := h.2 x.lower (List.mem_of_getElem? (i := j) (by rw [List.getElem?_set_self hlt])) b hb hw
      rw [show cntAll x.lower m b = cntAll x m b from rfl, show x.lower.most = x.most - 1 from rfl] at this
      omega
    · exact h.2 l (List.mem_of_getElem? (i := j) (by rw [List.getElem?_set_ne (Ne.symm e)]; exact hj)) b hb hw
  · intro _
    have h := (room_iff (m := m) (o := o) hl _).1 (Int.le_refl _)
    rw [room_iff hl2]
    refine ⟨by omega, fun l hm b hb hw => ?_⟩
    rcases List.mem_or_eq_of_mem_set hm with hm | rfl
    · have := h.2 l hm b hb hw; omega
    · have := h.2 x hx b hb hw
      rw [show cntAll x.lower m b = cntAll x m b from rfl, show x.lower.most = x.most - 1 from rfl]
      omega
theorem atL_mem (n : ByteArray) : ∀ l : List ByteArray, 0 ≤ atL n l ↔ n ∈ l
  | [] => by simp [atL]
  | x :: r => by
    have ih := atL_mem n r
    have := atL_ge n r
    simp only [atL, List.mem_cons]
    by_cases h : x = n
    · rw [if_pos h]; exact ⟨fun _ => .inl h.symm, fun _ => by omega⟩
    · rw [if_neg h]
      by_cases h2 : atL n r < 0
      · rw [if_pos h2]; exact ⟨fun h3 => by omega, fun h3 => h3.elim (fun e => absurd e.symm h) fun e => by have := ih.2 e; omega⟩
      · rw [if_neg h2]; exact ⟨fun _ => .inr (ih.1 (by omega)), fun _ => by omega⟩
abbrev names (l : List Lim) : List ByteArray := l.map Lim.name
theorem chkLims_iff {l : List Lim} : chkLims l = 0 ↔ l.length ≤ 32 ∧ (∀ x ∈ l, chkLim x = 0) ∧ (names l).Nodup := by
  have key : ∀ (i : Nat) (x : Lim), limErr l i x = 0 ↔ chkLim x = 0 ∧ x.name ∉ names (l.take i) := fun i x => by
    unfold limErr
    rw [firstE_cons, firstE_cons, ite_eq0 (show (9 : Int) ≠ 0 by decide), atL_mem]
    exact ⟨fun h => ⟨h.1, h.2.1⟩, fun h => ⟨h.1, h.2, rfl⟩⟩
  constructor
  · intro h
    have h0 := chkLims_0 h
    rw [chkLims, if_neg (by omega)] at h
    refine ⟨h0.1, h0.2, ?_⟩
    unfold List.Nodup names
    rw [List.pairwise_map, List.pairwise_iff_getElem]
    intro i j hi hj hij e
    have := firstE_mem h (limErr l j l[j]) (List.mem_of_getElem? (i := j) (by simp [limErrs, List.getElem?_mapIdx, hj]))
    refine ((key j l[j]).1 this).2 ?_
    rw [← e]
    exact List.mem_map_of_mem (List.mem_of_getElem? (i := i) (by rw [List.getElem?_take, if_pos hij, List.getElem?_eq_getElem hi]))
  · intro ⟨h1, h2, h3⟩
    rw [chkLims, if_neg (by omega)]
    refine firstE_all fun e he => ?_
    obtain ⟨j, hj⟩ := List.getElem?_of_mem he
    simp only [limErrs, List.getElem?_mapIdx, Option.map_eq_some_iff] at hj
    obtain ⟨x, hx, rfl⟩ := hj
    refine (key j x).2 ⟨h2 x (List.mem_of_getElem? hx), fun hm => ?_⟩
    obtain ⟨y, hy, e⟩ := List.mem_map.1 hm
    obtain ⟨i, hi⟩ := List.getElem?_of_mem hy
    rw [List.getElem?_take] at hi
    split at hi
    · rename_i hij
      unfold List.Nodup names at h3
      rw [List.pairwise_map, List.pairwise_iff_getElem] at h3
      obtain ⟨a1, a2⟩ := List.getElem?_eq_some_iff.1 hi
      obtain ⟨b1, b2⟩ := List.getElem?_eq_some_iff.1 hx
      exact h3 i j a1 b1 hij (by rw [a2, b2]; exact e)
    · cases hi
theorem chkLims_sub {l k : List Lim} (h : chkLims l = 0) (hs : k.Sublist l) : chkLims k = 0 := by
  obtain ⟨h1, h2, h3⟩ := chkLims_iff.1 h
  exact chkLims_iff.2 ⟨Nat.le_trans hs.length_le h1, fun x hx => h2 x (hs.subset hx), h3.sublist (hs.map _)⟩
theorem chkLims_set {l : List Lim} {i : Nat} {x y : Lim} (h : chkLims l = 0) (hi : l[i]? = some x) (hy : chkLim y = 0) (hn : y.name = x.name) : chkLims (l.set i y) = 0 := by
  obtain ⟨h1, h2, h3⟩ := chkLims_iff.1 h
  refine chkLims_iff.2 ⟨by rw [List.length_set]; exact h1, fun z hz => ?_, ?_⟩
  · rcases List.mem_or_eq_of_mem_set hz with h | h
    · exact h2 z h
    · rw [h]; exact hy
  · have : names (l.set i y) = names l := by
      unfold names
      rw [List.map_set, hn]
      refine List.ext_getElem? fun j => ?_
      by_cases e : j = i
      · subst e
        have hlt := (List.getElem?_eq_some_iff.1 hi).1
        rw [List.getElem?_set_self (by rw [List.length_map]; exact hlt), List.getElem?_map, hi]; rfl
      · rw [List.getElem?_set_ne (Ne.symm e)]
    rw [this]; exact h3
theorem put_set {l : List Lim} {i : Nat} {x y : Lim} (h : chkLims l = 0) (hi : l[i]? = some x) (hy : chkLim y = 0) (hn : y.name = x.name) : putE l y = 0 ∧ putR l y = l.set i y := by
  obtain ⟨h1, h2, h3⟩ := chkLims_iff.1 h
  have hlt := (List.getElem?_eq_some_iff.1 hi).1
  have hat : atL y.name (l.map Lim.name) = (i : Int) := atL_hit (fun z hz e => by
    obtain ⟨j, hj⟩ := List.getElem?_of_mem hz
    rw [List.getElem?_take] at hj
    split at hj
    · rename_i hji
      unfold List.Nodup names at h3
      rw [List.pairwise_iff_getElem] at h3
      obtain ⟨a1, a2⟩ := List.getElem?_eq_some_iff.1 hj
      refine h3 j i a1 (by rw [List.length_map]; exact hlt) hji ?_
      rw [a2, e, hn, List.getElem_map]
      have := (List.getElem?_eq_some_iff.1 hi).2
      rw [this]
    · cases hj) (by rw [List.getElem?_map, hi, hn]; rfl)
  have e : firstE [chkLims l, chkLim y] = 0 := firstE_cons.2 ⟨h, firstE_cons.2 ⟨hy, rfl⟩⟩
  have hE : putE l y = 0 := by rw [putE, if_pos e, if_pos (by omega)]
  exact ⟨hE, by rw [putR, if_pos hE, putL, if_pos (by omega), hat, Int.toNat_natCast]⟩
theorem put_new {l : List Lim} {y : Lim} (h : chkLims l = 0) (hy : chkLim y = 0) (hn : y.name ∉ names l) (h32 : l.length < 32) : putE l y = 0 ∧ putR l y = l ++ [y] ∧ chkLims (l ++ [y]) = 0 := by
  obtain ⟨h1, h2, h3⟩ := chkLims_iff.1 h
  have e : firstE [chkLims l, chkLim y] = 0 := firstE_cons.2 ⟨h, firstE_cons.2 ⟨hy, rfl⟩⟩
  have hat : ¬ 0 ≤ atL y.name (l.map Lim.name) := fun hh => hn ((atL_mem _ _).1 hh)
  have hE : putE l y = 0 := by rw [putE, if_pos e, if_neg hat, if_neg (by omega)]
  refine ⟨hE, by rw [putR, if_pos hE, putL, if_neg hat], chkLims_iff.2 ⟨by rw [List.length_append]; simp; omega, fun z hz => ?_, ?_⟩⟩
  · rcases List.mem_append.1 hz with h | h
    · exact h2 z h
    · rw [List.mem_singleton.1 h]; exact hy
  · unfold names
    rw [List.map_append, List.nodup_append]
    refine ⟨h3, by simp, fun a ha b hb => ?_⟩
    simp at hb; subst hb
    exact fun e => hn (e ▸ ha)
abbrev sTower : ByteArray := bs [116, 111, 119, 101, 114]
def tower (p : Per) : Lim := ⟨sTower, sT, s0, 1440, 1, 0, 0, p, 0⟩
theorem tower_name : isName sTower = true := by decide +kernel
theorem tower_chk {p : Per} (h : chkPer p = 0) : chkLim (tower p) = 0 := by
  unfold chkLim
  simp only [firstE_cons, rng_0, tower, nameE, kindE, optE, tower_name]
  refine ⟨by simp, by simp, by simp, by omega, by omega, by omega, by omega, by simp, h, by omega, rfl⟩
theorem wout_tower {l : List Lim} {p : Per} (hn : sTower ∉ names l) (hc : chkLims (l ++ [tower p]) = 0) : woutE (l ++ [tower p]) sTower = 0 ∧ woutR (l ++ [tower p]) sTower = l := by
  have hE : woutE (l ++ [tower p]) sTower = 0 := by
    unfold woutE
    refine firstE_cons.2 ⟨hc, firstE_cons.2 ⟨by rw [nameE, tower_name]; rfl, firstE_cons.2 ⟨if_neg ?_, rfl⟩⟩⟩
    have : 0 ≤ atL sTower (List.map Lim.name (l ++ [tower p])) := (atL_mem sTower (names (l ++ [tower p]))).2 (by simp [names, tower])
    omega
  refine ⟨hE, ?_⟩
  rw [woutR, if_pos hE, List.filter_append, List.filter_eq_self.2 (fun x hx => ?_)]
  · simp [tower]
  · have : x.name ≠ sTower := fun e => hn (e ▸ List.mem_map_of_mem hx)
    simp [this]
theorem tower_fits {l : List Lim} {m : List Mov} {r : Req} (hl : ∀ x ∈ l, chkLim x = 0) (hr : chkReq r = 0) (hm : chkMovs m = 0) : fitsB (l ++ [tower r.per]) m r = decide ((movsL r).length = 0) := by
  have hp := chkReq_0 hr
  have ht := tower_chk hp.1
  cases hd : daysL r.per with
  | nil => simp [fitsB, movsL, hd]
  | cons d q =>
    have hmv : movsL r = movOf r d :: q.map (movOf r) := by rw [movsL, hd]; rfl
    have hl2 : ∀ x ∈ l ++ [tower r.per], chkLim x = 0 := fun x hx => by
      rcases List.mem_append.1 hx with h | h
      · exact hl x h
      · rw [List.mem_singleton.1 h]; exact ht
    have hb : 1440 * d ∈ windowsL (tower r.per) := by
      rw [windows_eq ht, List.mem_flatMap]
      refine ⟨d, by show d ∈ daysL r.per; rw [hd]; simp, ?_⟩
      unfold begK
      refine List.mem_map.2 ⟨0, List.mem_range.2 ?_, ?_⟩
      · show 0 < begN (tower r.per)
        show 0 < (max 0 ((0 : Int) / 1 - (0 + 1 - 1) / 1 + 1)).toNat
        decide
      · simp only [begV, Lim.from_, tower]; omega
    have hw : inW (tower r.per) (1440 * d) (movOf r d) = true := by
      have h1 : 1440 * d ≤ 1440 * d + r.minute := by have := hp.2; omega
      have h2 : 1440 * d + r.minute < 1440 * d + 1440 := by have := hp.2; omega
      show ((decide (sT = sT) || decide (sT = r.kind)) && (decide (s0 = s0) || decide (s0 = r.term)) && (decide (1440 * d ≤ 1440 * d + r.minute) && decide (1440 * d + r.minute < 1440 * d + 1440))) = true
      rw [decide_eq_true h1, decide_eq_true h2, decide_eq_true (rfl : sT = sT), decide_eq_true (rfl : s0 = s0)]; rfl
    have hc : 0 ≤ cntAll (tower r.per) m (1440 * d) := by
      rw [cnt_filter (by simp [tower])]; omega
    have hz : roomL (l ++ [tower r.per]) m (movOf r d) < 1 := by
      have h := (room_iff (m := m) (o := movOf r d) hl2 _).1 (Int.le_refl _)
      have := h.2 (tower r.per) (by simp) _ hb hw
      rw [show (tower r.per).most = 0 from rfl] at this
      omega
    rw [fitsB, hmv]
    simp [hz]
end Go.Proofs.YtcfbdeghmckelaaGreat
namespace Go.Proofs.YtcfbdeghmckelaaGreat
open Go.RowKit
set_option maxRecDepth 100000
set_option linter.unusedVariables false
set_option linter.unusedSimpArgs false
set_option maxHeartbeats 4000000
def smallB (l : List Lim) (m : List Mov) : Bool := ((((decide ((l.length : Int) ≤ 3) && decide ((m.length : Int) ≤ 10)) && shLims l 3) && shMovs m 10) && decide (chkLims l = 0)) && decide (chkMovs m = 0)
def ac60 : AC := .seq (.ops false [⟨some 4,.mv,[.c (.b false)],none,[]⟩]) (.seq (.ops false [⟨some 5,.mv,[.t 0],none,[]⟩,⟨some 6,.len false,[.t 5],none,[0]⟩,⟨some 7,.bin .leq,[.t 6,.c (.i .i64 3)],none,[1]⟩,⟨some 8,.mv,[.t 7],none,[2]⟩,⟨some 9,.mv,[.t 1],some (8,true),[3]⟩,⟨some 10,.len false,[.t 9],some (8,true),[4,3]⟩,⟨some 11,.bin .leq,[.t 10,.c (.i .i64 10)],some (8,true),[5,3]⟩,⟨some 12,.pick,[.t 8,.t 11,.c (.b false)],none,[3,6]⟩,⟨some 13,.mv,[.t 12],none,[7,3]⟩,⟨some 14,.mv,[.t 0],some (13,true),[8]⟩,⟨some 15,.call 15,[.t 14,.c (.i .i64 3)],some (13,true),[9,8,8]⟩,⟨some 16,.pick,[.t 13,.t 15,.c (.b false)],none,[8,10]⟩,⟨some 17,.mv,[.t 16],none,[11,10]⟩,⟨some 18,.mv,[.t 1],some (17,true),[12]⟩,⟨some 19,.call 16,[.t 18,.c (.i .i64 10)],some (17,true),[13,12,12]⟩,⟨some 20,.pick,[.t 17,.t 19,.c (.b false)],none,[12,14]⟩,⟨some 21,.mv,[.t 20],none,[15,14]⟩,⟨some 22,.mv,[.t 0],some (21,true),[16]⟩,⟨some 23,.call 23,[.t 22],some (21,true),[17,16,16]⟩,⟨some 24,.bin .eql,[.t 23,.c (.i .i64 0)],some (21,true),[18,16]⟩,⟨some 25,.pick,[.t 21,.t 24,.c (.b false)],none,[16,19]⟩,⟨some 26,.mv,[.t 25],none,[20,18]⟩,⟨some 27,.mv,[.t 1],some (26,true),[21]⟩,⟨some 28,.call 25,[.t 27],some (26,true),[22,21,21]⟩,⟨some 29,.bin .eql,[.t 28,.c (.i .i64 0)],some (26,true),[23,21]⟩,⟨some 30,.pick,[.t 26,.t 29,.c (.b false)],none,[21,24]⟩,⟨some 4,.mv,[.t 30],none,[25,23,0,1,2,3,4,5,6,7,8,9,10,11,12,13,14,15,16,17,18,19,20,21,22,23,24,25]⟩]) .ret)
def rs60 : List RV := [.tmp 4]
theorem fact60 : compF Tryz.prog 60 = some (ac60,rs60,31) := by kernel_rfl
theorem pure60 (l : List Lim) (m : List Mov) : Pure Tryz.prog 60 [.sl 11 (l.map Lim.pv), .sl 7 (m.map Mov.pv)] (.b (smallB l m)) := by
  refine pure_by fact60 (by simp) fun hw X hX => ?_
  unfold ac60 rs60
  have qe := @qR; repeat' first | (show Run _ (.cond _ _ _) _ _; refine run_condX (fun hc => ?_) (fun hc => ?_) <;> (try simp only [qH, rng_0] at hc) <;> try contradiction) | (show RunOps _ _ _ _ (⟨_, .call 15, _, _, _⟩ :: _) _ _; refine run_callGX (hf := fun hc => (by first | exact pure15 l 3 | (simp only [qH, rng_0] at hc; exact pure15 l 3))) (hn := ?_)) | (show RunOps _ _ _ _ (⟨_, .call 16, _, _, _⟩ :: _) _ _; refine run_callGX (hf := fun hc => (by first | exact pure16 m 10 | (simp only [qH, rng_0] at hc; exact pure16 m 10))) (hn := ?_)) | (show RunOps _ _ _ _ (⟨_, .call 23, _, _, _⟩ :: _) _ _; refine run_callGX (hf := fun hc => (by first | exact pure23 l | (simp only [qH, rng_0] at hc; exact pure23 l))) (hn := ?_)) | (show RunOps _ _ _ _ (⟨_, .call 25, _, _, _⟩ :: _) _ _; refine run_callGX (hf := fun hc => (by first | exact pure25 m | (simp only [qH, rng_0] at hc; exact pure25 m))) (hn := ?_)) | (first | refine Stp.h ?_ | (show ∀ K : St → List Ft → Prop, _; intro K hK) | (show runS _ _ _ _ _; first | refine qY (hq := ?_) | refine qZ (hq := ?_)) | (refine hK _ _ ?_; clear hK K) | (refine hK _ _ rfl ?_; clear hK K) | (refine qZ (hq := ?_); try exact trivial) | omega)
  exact .refl _
theorem small_0 {l : List Lim} {m : List Mov} (h : smallB l m = true) : l.length ≤ 3 ∧ m.length ≤ 10 ∧ shLims l 3 = true ∧ shMovs m 10 = true ∧ chkLims l = 0 ∧ chkMovs m = 0 := by
  simp only [smallB, Bool.and_eq_true, decide_eq_true_eq] at h
  obtain ⟨⟨⟨⟨⟨h1, h2⟩, h3⟩, h4⟩, h5⟩, h6⟩ := h
  exact ⟨by omega, by omega, h3, h4, h5, h6⟩
end Go.Proofs.YtcfbdeghmckelaaGreat
namespace Go.Proofs.YtcfbdeghmckelaaGreat
open Go.RowKit Go.ChangeShapes Go.WideShapes Go.ChangeAt
set_option maxRecDepth 100000
set_option linter.unusedVariables false
set_option linter.unusedSimpArgs false
set_option maxHeartbeats 4000000
def ac10 : AC := .seq (.ops false [⟨some 5,.box,[.t 2],none,[]⟩,⟨some 6,.mv,[.c (.b false)],none,[]⟩]) (.seq (.ops false [⟨some 42,.mv,[.t 0],none,[]⟩,⟨some 43,.call 14,[.t 42],none,[0]⟩,⟨some 7,.mv,[.t 43],none,[1,1,0,1]⟩]) (.seq (.seq (.ops false [⟨some 44,.mv,[.t 7],none,[]⟩,⟨some 45,.mv,[.t 1],none,[]⟩,⟨some 46,.call 60,[.t 44,.t 45],none,[0,1]⟩,⟨some 47,.not,[.t 46],none,[2]⟩,⟨some 48,.mv,[.t 47],none,[3,2]⟩,⟨some 49,.fadr 0,[.t 5],some (48,false),[4]⟩,⟨some 50,.load 13 true,[.t 49],some (48,false),[5,4]⟩,⟨some 51,.call 17,[.t 50],some (48,false),[6,4,4]⟩,⟨some 52,.not,[.t 51],some (48,false),[7,4]⟩,⟨some 53,.pick,[.t 48,.c (.b true),.t 52],none,[4,8]⟩,⟨some 54,.mv,[.t 53],none,[9,7]⟩,⟨some 55,.fadr 0,[.t 5],some (54,false),[10]⟩,⟨some 56,.load 13 true,[.t 55],some (54,false),[11,10]⟩,⟨some 57,.call 20,[.t 56],some (54,false),[12,10,10]⟩,⟨some 58,.bin .neq,[.t 57,.c (.i .i64 0)],some (54,false),[13,10]⟩,⟨some 59,.pick,[.t 54,.c (.b true),.t 58],none,[10,14]⟩,⟨some 60,.mv,[.t 59],none,[15,13]⟩,⟨some 61,.fadr 0,[.t 5],some (60,false),[16]⟩,⟨some 62,.fadr 6,[.t 61],some (60,false),[17,16]⟩,⟨some 63,.fadr 1,[.t 62],some (60,false),[18,16]⟩,⟨some 64,.load 1 false,[.t 63],some (60,false),[19,16]⟩,⟨some 65,.fadr 0,[.t 5],some (60,false),[16]⟩,⟨some 66,.fadr 6,[.t 65],some (60,false),[21,16]⟩,⟨some 67,.fadr 0,[.t 66],some (60,false),[22,16]⟩,⟨some 68,.load 1 false,[.t 67],some (60,false),[23,16]⟩,⟨some 69,.bin .sub,[.t 64,.t 68],some (60,false),[20,24,16]⟩,⟨some 70,.bin .geq,[.t 69,.c (.i .i64 8)],some (60,false),[25,16]⟩,⟨some 71,.pick,[.t 60,.c (.b true),.t 70],none,[16,26]⟩]) (.cond (.t 71) (.seq (.ops false [⟨some 72,.call 18,[],none,[]⟩,⟨some 6,.mv,[.t 72],none,[0,0,0]⟩]) .ret) .skip)) (.seq (.ops false [⟨some 73,.mv,[.t 0],none,[]⟩,⟨some 74,.len false,[.t 73],none,[0]⟩,⟨some 75,.bin .quo,[.t 74,.c (.i .i64 2)],none,[1]⟩,⟨some 8,.mv,[.t 75],none,[2,0,1,2]⟩]) (.seq (.ops true [⟨some 76,.bslice 46 11 (.agg [(.s (bs [])),(.s (bs [])),(.s (bs [])),(.i .i64 0),(.i .i64 0),(.i .i64 0),(.i .i64 0),(.i .i64 0),(.i .i64 0),(.i .i64 0),(.i .i64 0)]) 0 [],[],none,[]⟩,⟨some 77,.mv,[.t 0],none,[]⟩,⟨some 78,.mv,[.t 8],none,[]⟩,⟨some 79,.sliceL 11 false true,[.t 77,.t 78],none,[1,2]⟩,⟨some 80,.app 46 11 112,[.t 76,.t 79],none,[0,3]⟩,⟨some 81,.bslice 46 11 (.agg [(.s (bs [])),(.s (bs [])),(.s (bs [])),(.i .i64 0),(.i .i64 0),(.i .i64 0),(.i .i64 0),(.i .i64 0),(.i .i64 0),(.i .i64 0),(.i .i64 0)]) 0 [],[],none,[]⟩,⟨some 82,.mv,[.t 0],none,[]⟩,⟨some 83,.mv,[.t 8],none,[]⟩,⟨some 84,.sliceL 11 true false,[.t 82,.t 83],none,[6,7]⟩,⟨some 85,.app 46 11 112,[.t 81,.t 84],none,[5,8,4]⟩,⟨some 9,.mv,[.t 80],none,[4,9,0,1,2,3,4]⟩,⟨some 10,.mv,[.t 85],none,[9,10,0,1,2,3,4,5,6,7,8,9,10]⟩]) (.seq (.ops false [⟨some 86,.fadr 0,[.t 5],none,[]⟩,⟨some 87,.load 13 true,[.t 86],none,[0]⟩,⟨some 88,.call 21,[.t 87],none,[1]⟩,⟨some 11,.mv,[.t 88],none,[2,2,0,1,2]⟩]) (.seq (.ops false [⟨some 90,.mv,[.t 9],none,[]⟩,⟨some 91,.mv,[.t 1],none,[]⟩,⟨some 92,.fadr 0,[.t 5],none,[]⟩,⟨some 93,.load 13 true,[.t 92],none,[2]⟩,⟨some 94,.call 51,[.t 90,.t 91,.t 93],none,[0,1,3]⟩,⟨some 89,.mv,[.t 94],none,[4]⟩,⟨some 95,.ext 0,[.t 89],none,[5]⟩,⟨some 96,.ext 1,[.t 89],none,[5]⟩,⟨some 12,.mv,[.t 95],none,[6,4,0,1,2,3,4,5,6]⟩,⟨some 13,.mv,[.t 96],none,[7,8,0,1,2,3,4,5,6,7,8]⟩]) (.seq (.ops false [⟨some 98,.mv,[.t 10],none,[]⟩,⟨some 99,.mv,[.t 1],none,[]⟩,⟨some 100,.fadr 0,[.t 5],none,[]⟩,⟨some 101,.load 13 true,[.t 100],none,[2]⟩,⟨some 102,.call 51,[.t 98,.t 99,.t 101],none,[0,1,3]⟩,⟨some 97,.mv,[.t 102],none,[4]⟩,⟨some 103,.ext 0,[.t 97],none,[5]⟩,⟨some 104,.ext 1,[.t 97],none,[5]⟩,⟨some 14,.mv,[.t 103],none,[6,4,0,1,2,3,4,5,6]⟩,⟨some 15,.mv,[.t 104],none,[7,8,0,1,2,3,4,5,6,7,8]⟩]) (.seq (.ops false [⟨some 106,.mv,[.t 0],none,[]⟩,⟨some 107,.mv,[.t 1],none,[]⟩,⟨some 108,.fadr 0,[.t 5],none,[]⟩,⟨some 109,.load 13 true,[.t 108],none,[2]⟩,⟨some 110,.call 51,[.t 106,.t 107,.t 109],none,[0,1,3]⟩,⟨some 105,.mv,[.t 110],none,[4]⟩,⟨some 111,.ext 0,[.t 105],none,[5]⟩,⟨some 112,.ext 1,[.t 105],none,[5]⟩,⟨some 16,.mv,[.t 111],none,[6,4,0,1,2,3,4,5,6]⟩,⟨some 17,.mv,[.t 112],none,[7,8,0,1,2,3,4,5,6,7,8]⟩]) (.seq (.seq (.ops false [⟨some 113,.mv,[.t 13],none,[]⟩,⟨some 114,.mv,[.t 15],none,[]⟩,⟨some 115,.bin .add,[.t 113,.t 114],none,[0,1]⟩,⟨some 116,.mv,[.t 17],none,[]⟩,⟨some 117,.bin .add,[.t 115,.t 116],none,[2,3]⟩,⟨some 118,.bin .neq,[.t 117,.c (.i .i64 0)],none,[4]⟩,⟨some 119,.mv,[.t 118],none,[5]⟩,⟨some 120,.mv,[.t 16],some (119,false),[6]⟩,⟨some 121,.mv,[.t 12],some (119,false),[6]⟩,⟨some 122,.mv,[.t 121],some (119,false),[8,6,6]⟩,⟨some 123,.mv,[.t 14],some (122,true),[9]⟩,⟨some 124,.pick,[.t 122,.t 123,.c (.b false)],some (119,false),[9,10,6]⟩,⟨some 125,.eq true [0] false,[.t 120,.t 124],some (119,false),[7,11,6]⟩,⟨some 126,.pick,[.t 119,.c (.b true),.t 125],none,[6,12]⟩]) (.cond (.t 126) (.seq (.ops false [⟨some 6,.mv,[.c (.b false)],none,[]⟩]) .ret) .skip)) (.seq (.seq (.ops false [⟨some 127,.mv,[.t 11],none,[]⟩,⟨some 128,.len false,[.t 127],none,[0]⟩,⟨some 129,.mv,[.c (.i .i64 0)],none,[]⟩]) (.block 0 (.loop (.seq (.ops false [⟨some 130,.bin .lss,[.t 129,.t 128],none,[]⟩]) (.seq (.cond (.t 130) .skip (.exit 0)) (.seq (.block 1 (.seq (.ops false [⟨some 131,.iadrS 7,[.t 127,.t 129],none,[]⟩,⟨some 132,.load 7 true,[.t 131],none,[0]⟩,⟨some 19,.alloc [(.i .i64 0),(.s (bs [])),(.s (bs [])),(.i .i64 0),(.i .i64 0),(.i .i64 0),(.s (bs []))],[],none,[]⟩,⟨none,.store 7,[.t 19,.t 132],none,[2,1,0,1,2]⟩]) (.seq (.ops false [⟨some 134,.mv,[.t 0],none,[]⟩,⟨some 135,.mv,[.t 1],none,[]⟩,⟨some 136,.load 7 true,[.t 19],none,[]⟩,⟨some 137,.call 43,[.t 134,.t 135,.t 136],none,[0,1,2]⟩,⟨some 133,.mv,[.t 137],none,[3]⟩,⟨some 138,.ext 0,[.t 133],none,[4]⟩,⟨some 139,.ext 1,[.t 133],none,[4]⟩,⟨some 20,.mv,[.t 138],none,[5,3,0,1,2,3,4,5]⟩,⟨some 21,.mv,[.t 139],none,[6,7,0,1,2,3,4,5,6,7]⟩]) (.seq (.ops false [⟨some 141,.mv,[.t 9],none,[]⟩,⟨some 142,.mv,[.t 1],none,[]⟩,⟨some 143,.load 7 true,[.t 19],none,[]⟩,⟨some 144,.call 43,[.t 141,.t 142,.t 143],none,[0,1,2]⟩,⟨some 140,.mv,[.t 144],none,[3]⟩,⟨some 145,.ext 0,[.t 140],none,[4]⟩,⟨some 146,.ext 1,[.t 140],none,[4]⟩,⟨some 22,.mv,[.t 145],none,[5,3,0,1,2,3,4,5]⟩,⟨some 23,.mv,[.t 146],none,[6,7,0,1,2,3,4,5,6,7]⟩]) (.seq (.ops false [⟨some 148,.mv,[.t 10],none,[]⟩,⟨some 149,.mv,[.t 1],none,[]⟩,⟨some 150,.load 7 true,[.t 19],none,[]⟩,⟨some 151,.call 43,[.t 148,.t 149,.t 150],none,[0,1,2]⟩,⟨some 147,.mv,[.t 151],none,[3]⟩,⟨some 152,.ext 0,[.t 147],none,[4]⟩,⟨some 153,.ext 1,[.t 147],none,[4]⟩,⟨some 24,.mv,[.t 152],none,[5,3,0,1,2,3,4,5]⟩,⟨some 25,.mv,[.t 153],none,[6,7,0,1,2,3,4,5,6,7]⟩]) (.seq (.ops true [⟨some 155,.mv,[.t 0],none,[]⟩,⟨some 156,.mv,[.t 1],none,[]⟩,⟨some 157,.load 7 true,[.t 19],none,[]⟩,⟨some 158,.call 61,[.t 156,.t 157,.c (.i .i64 1)],none,[1,2]⟩,⟨some 159,.load 7 true,[.t 19],none,[]⟩,⟨some 160,.call 43,[.t 155,.t 158,.t 159],none,[0,3,4,3]⟩,⟨some 154,.mv,[.t 160],none,[5]⟩,⟨some 161,.ext 0,[.t 154],none,[6]⟩,⟨some 162,.ext 1,[.t 154],none,[6]⟩,⟨some 26,.mv,[.t 161],none,[7,5,0,1,2,3,4,5,6,7]⟩,⟨some 27,.mv,[.t 162],none,[8,9,0,1,2,3,4,5,6,7,8,9]⟩]) (.seq (.seq (.ops false [⟨some 163,.mv,[.t 21],none,[]⟩,⟨some 164,.mv,[.t 23],none,[]⟩,⟨some 165,.bin .add,[.t 163,.t 164],none,[0,1]⟩,⟨some 166,.mv,[.t 25],none,[]⟩,⟨some 167,.bin .add,[.t 165,.t 166],none,[2,3]⟩,⟨some 168,.mv,[.t 27],none,[]⟩,⟨some 169,.bin .add,[.t 167,.t 168],none,[4,5]⟩,⟨some 170,.bin .neq,[.t 169,.c (.i .i64 0)],none,[6]⟩,⟨some 171,.mv,[.t 170],none,[7]⟩,⟨some 172,.mv,[.t 20],some (171,false),[8]⟩,⟨some 173,.mv,[.t 22],some (171,false),[8]⟩,⟨some 174,.mv,[.t 24],some (171,false),[8]⟩,⟨some 175,.mn,[.t 173,.t 174],some (171,false),[10,11,8]⟩,⟨some 176,.bin .neq,[.t 172,.t 175],some (171,false),[9,12,8]⟩,⟨some 177,.pick,[.t 171,.c (.b true),.t 176],none,[8,13]⟩,⟨some 178,.mv,[.t 177],none,[14,8]⟩,⟨some 179,.mv,[.t 26],some (178,false),[15]⟩,⟨some 180,.mv,[.t 20],some (178,false),[15]⟩,⟨some 181,.bin .gtr,[.t 179,.t 180],some (178,false),[16,17,15]⟩,⟨some 182,.pick,[.t 178,.c (.b true),.t 181],none,[15,18]⟩]) (.cond (.t 182) (.seq (.ops false [⟨some 6,.mv,[.c (.b false)],none,[]⟩]) .ret) .skip)) (.seq (.ops false [⟨some 183,.mv,[.t 0],none,[]⟩,⟨some 184,.len false,[.t 183],none,[0]⟩,⟨some 185,.mv,[.c (.i .i64 0)],none,[]⟩]) (.block 2 (.loop (.seq (.ops false [⟨some 186,.bin .lss,[.t 185,.t 184],none,[]⟩]) (.seq (.cond (.t 186) .skip (.exit 2)) (.seq (.block 3 (.seq (.ops false [⟨some 187,.mv,[.t 185],none,[]⟩,⟨some 28,.mv,[.t 187],none,[0,0]⟩]) (.seq (.seq (.ops false [⟨some 188,.mv,[.t 0],none,[]⟩,⟨some 189,.mv,[.t 28],none,[]⟩,⟨some 190,.iadrS 11,[.t 188,.t 189],none,[0,1]⟩,⟨some 191,.fadr 10,[.t 190],none,[2]⟩,⟨some 192,.load 1 false,[.t 191],none,[3]⟩,⟨some 193,.bin .eql,[.t 192,.c (.i .i64 0)],none,[4]⟩]) (.cond (.t 193) (.exit 3) .skip)) (.seq (.ops false [⟨some 194,.mv,[.t 0],none,[]⟩,⟨some 195,.mv,[.t 28],none,[]⟩,⟨some 196,.iadrS 11,[.t 194,.t 195],none,[0,1]⟩,⟨some 197,.load 11 true,[.t 196],none,[2]⟩,⟨some 29,.alloc [(.s (bs [])),(.s (bs [])),(.s (bs [])),(.i .i64 0),(.i .i64 0),(.i .i64 0),(.i .i64 0),(.i .i64 0),(.i .i64 0),(.i .i64 0),(.i .i64 0)],[],none,[]⟩,⟨none,.store 11,[.t 29,.t 197],none,[4,3,0,1,2,3,4]⟩]) (.seq (.ops false [⟨some 198,.fadr 10,[.t 29],none,[]⟩,⟨some 199,.load 1 false,[.t 198],none,[0]⟩,⟨some 200,.bin .sub,[.t 199,.c (.i .i64 1)],none,[1]⟩,⟨some 201,.fadr 10,[.t 29],none,[0,1,2]⟩,⟨none,.store 1,[.t 201,.t 200],none,[3,2,0,1,2]⟩]) (.seq (.ops false [⟨some 203,.mv,[.t 0],none,[]⟩,⟨some 204,.load 11 true,[.t 29],none,[]⟩,⟨some 205,.call 63,[.t 203,.t 204],none,[0,1]⟩,⟨some 202,.mv,[.t 205],none,[2]⟩,⟨some 206,.ext 0,[.t 202],none,[3]⟩,⟨some 207,.ext 1,[.t 202],none,[3]⟩,⟨some 30,.mv,[.t 206],none,[4,2,0,1,2,3,4]⟩,⟨some 31,.mv,[.t 207],none,[5,6,0,1,2,3,4,5,6]⟩]) (.seq (.seq (.ops false [⟨some 208,.mv,[.t 31],none,[]⟩,⟨some 209,.bin .neq,[.t 208,.c (.i .i64 0)],none,[0]⟩,⟨some 210,.mv,[.t 209],none,[1]⟩,⟨some 211,.mv,[.t 30],some (210,false),[2]⟩,⟨some 212,.len false,[.t 211],some (210,false),[3,2]⟩,⟨some 213,.mv,[.t 0],some (210,false),[2]⟩,⟨some 214,.len false,[.t 213],some (210,false),[5,2]⟩,⟨some 215,.bin .neq,[.t 212,.t 214],some (210,false),[4,6,2]⟩,⟨some 216,.pick,[.t 210,.c (.b true),.t 215],none,[2,7]⟩]) (.cond (.t 216) (.seq (.ops false [⟨some 6,.mv,[.c (.b false)],none,[]⟩]) .ret) .skip)) (.seq (.ops false [⟨some 218,.mv,[.t 30],none,[]⟩,⟨some 219,.mv,[.t 1],none,[]⟩,⟨some 220,.load 7 true,[.t 19],none,[]⟩,⟨some 221,.call 43,[.t 218,.t 219,.t 220],none,[0,1,2]⟩,⟨some 217,.mv,[.t 221],none,[3]⟩,⟨some 222,.ext 0,[.t 217],none,[4]⟩,⟨some 223,.ext 1,[.t 217],none,[4]⟩,⟨some 32,.mv,[.t 222],none,[5,3,0,1,2,3,4,5]⟩,⟨some 33,.mv,[.t 223],none,[6,7,0,1,2,3,4,5,6,7]⟩]) (.seq (.ops false [⟨some 224,.mv,[.t 33],none,[]⟩,⟨some 225,.bin .neq,[.t 224,.c (.i .i64 0)],none,[0]⟩,⟨some 226,.mv,[.t 225],none,[1]⟩,⟨some 227,.mv,[.t 32],some (226,false),[2]⟩,⟨some 228,.mv,[.t 20],some (226,false),[2]⟩,⟨some 229,.bin .gtr,[.t 227,.t 228],some (226,false),[3,4,2]⟩,⟨some 230,.pick,[.t 226,.c (.b true),.t 229],none,[2,5]⟩,⟨some 231,.mv,[.t 230],none,[6,2]⟩,⟨some 232,.mv,[.t 20],some (231,false),[7]⟩,⟨some 233,.bin .lss,[.t 232,.c (.i .i64 999999999)],some (231,false),[8,7]⟩,⟨some 234,.mv,[.t 233],some (231,false),[9,7,7]⟩,⟨some 235,.mv,[.t 32],some (234,true),[10]⟩,⟨some 236,.mv,[.t 20],some (234,true),[10]⟩,⟨some 237,.bin .sub,[.t 236,.c (.i .i64 1)],some (234,true),[12,10]⟩,⟨some 238,.bin .lss,[.t 235,.t 237],some (234,true),[11,13,10]⟩,⟨some 239,.pick,[.t 234,.t 238,.c (.b false)],some (231,false),[10,14,7]⟩,⟨some 240,.pick,[.t 231,.c (.b true),.t 239],none,[7,15]⟩]) (.cond (.t 240) (.seq (.ops false [⟨some 6,.mv,[.c (.b false)],none,[]⟩]) .ret) .skip)))))))))) (.ops false [⟨some 241,.bin .add,[.t 185,.c (.i .i64 1)],none,[]⟩,⟨some 185,.mv,[.t 241],none,[0]⟩])))))))))))))) (.ops false [⟨some 242,.bin .add,[.t 129,.c (.i .i64 1)],none,[]⟩,⟨some 129,.mv,[.t 242],none,[0]⟩]))))))) (.seq (.ops false [⟨some 243,.fadr 0,[.t 5],none,[]⟩,⟨some 244,.fadr 6,[.t 243],none,[0]⟩,⟨some 245,.load 3 true,[.t 244],none,[1]⟩,⟨some 246,.build [(.s (bs [])),(.s (bs [])),(.s (bs [])),(.i .i64 0),(.i .i64 0),(.i .i64 0),(.i .i64 0),(.i .i64 0),(.i .i64 0),(.i .i64 0),(.i .i64 0)] [(0,1),(1,1),(3,1),(4,1),(5,1),(6,1),(7,3)],[.c (.s (bs [116,111,119,101,114])),.c (.s (bs [84])),.c (.i .i64 1440),.c (.i .i64 1),.c (.i .i64 0),.c (.i .i64 0),.t 245],none,[2]⟩,⟨some 34,.alloc [(.s (bs [])),(.s (bs [])),(.s (bs [])),(.i .i64 0),(.i .i64 0),(.i .i64 0),(.i .i64 0),(.i .i64 0),(.i .i64 0),(.i .i64 0),(.i .i64 0)],[],none,[]⟩,⟨none,.store 11,[.t 34,.t 246],none,[4,3,0,1,2,3,4]⟩]) (.seq (.seq (.ops false [⟨some 247,.mv,[.t 0],none,[]⟩,⟨some 248,.len false,[.t 247],none,[0]⟩,⟨some 249,.mv,[.c (.i .i64 0)],none,[]⟩]) (.block 4 (.loop (.seq (.ops false [⟨some 250,.bin .lss,[.t 249,.t 248],none,[]⟩]) (.seq (.cond (.t 250) .skip (.exit 4)) (.seq (.block 5 (.seq (.ops false [⟨some 251,.mv,[.t 249],none,[]⟩,⟨some 35,.mv,[.t 251],none,[0,0]⟩]) (.seq (.ops true [⟨some 252,.mv,[.t 0],none,[]⟩,⟨some 253,.mv,[.t 35],none,[]⟩,⟨some 254,.iadrS 11,[.t 252,.t 253],none,[0,1]⟩,⟨some 255,.fadr 0,[.t 254],none,[2]⟩,⟨some 256,.load 1 false,[.t 255],none,[3]⟩,⟨some 257,.fadr 0,[.t 34],none,[]⟩,⟨some 258,.load 1 false,[.t 257],none,[5]⟩,⟨some 259,.bin .eql,[.t 256,.t 258],none,[4,6]⟩]) (.cond (.t 259) (.seq (.ops false [⟨some 260,.call 18,[],none,[]⟩,⟨some 6,.mv,[.t 260],none,[0,0,0]⟩]) .ret) .skip)))) (.ops false [⟨some 261,.bin .add,[.t 249,.c (.i .i64 1)],none,[]⟩,⟨some 249,.mv,[.t 261],none,[0]⟩]))))))) (.seq (.ops false [⟨some 263,.mv,[.t 0],none,[]⟩,⟨some 264,.load 11 true,[.t 34],none,[]⟩,⟨some 265,.call 63,[.t 263,.t 264],none,[0,1]⟩,⟨some 262,.mv,[.t 265],none,[2]⟩,⟨some 266,.ext 0,[.t 262],none,[3]⟩,⟨some 267,.ext 1,[.t 262],none,[3]⟩,⟨some 36,.mv,[.t 266],none,[4,2,0,1,2,3,4]⟩,⟨some 37,.mv,[.t 267],none,[5,6,0,1,2,3,4,5,6]⟩]) (.seq (.ops false [⟨some 269,.mv,[.t 36],none,[]⟩,⟨some 270,.fadr 0,[.t 34],none,[]⟩,⟨some 271,.load 1 false,[.t 270],none,[1]⟩,⟨some 272,.call 64,[.t 269,.t 271],none,[0,2]⟩,⟨some 268,.mv,[.t 272],none,[3]⟩,⟨some 273,.ext 0,[.t 268],none,[4]⟩,⟨some 274,.ext 1,[.t 268],none,[4]⟩,⟨some 38,.mv,[.t 273],none,[5,3,0,1,2,3,4,5]⟩,⟨some 39,.mv,[.t 274],none,[6,7,0,1,2,3,4,5,6,7]⟩]) (.seq (.seq (.ops false [⟨some 275,.mv,[.t 37],none,[]⟩,⟨some 276,.mv,[.t 39],none,[]⟩,⟨some 277,.bin .add,[.t 275,.t 276],none,[0,1]⟩,⟨some 278,.bin .neq,[.t 277,.c (.i .i64 0)],none,[2]⟩,⟨some 279,.mv,[.t 278],none,[3]⟩,⟨some 280,.mv,[.t 36],some (279,false),[4]⟩,⟨some 281,.len false,[.t 280],some (279,false),[5,4]⟩,⟨some 282,.mv,[.t 0],some (279,false),[4]⟩,⟨some 283,.len false,[.t 282],some (279,false),[7,4]⟩,⟨some 284,.bin .add,[.t 283,.c (.i .i64 1)],some (279,false),[8,4]⟩,⟨some 285,.bin .neq,[.t 281,.t 284],some (279,false),[6,9,4]⟩,⟨some 286,.pick,[.t 279,.c (.b true),.t 285],none,[4,10]⟩,⟨some 287,.mv,[.t 286],none,[11,4]⟩,⟨some 288,.mv,[.t 38],some (287,false),[12]⟩,⟨some 289,.call 14,[.t 288],some (287,false),[13,12,12]⟩,⟨some 290,.mv,[.t 7],some (287,false),[12]⟩,⟨some 291,.call 65,[.t 289,.t 290],some (287,false),[14,15,14,12]⟩,⟨some 292,.not,[.t 291],some (287,false),[16,12]⟩,⟨some 293,.pick,[.t 287,.c (.b true),.t 292],none,[12,17]⟩]) (.cond (.t 293) (.seq (.ops false [⟨some 6,.mv,[.c (.b false)],none,[]⟩]) .ret) .skip)) (.seq (.ops false [⟨some 295,.mv,[.t 36],none,[]⟩,⟨some 296,.mv,[.t 1],none,[]⟩,⟨some 297,.fadr 0,[.t 5],none,[]⟩,⟨some 298,.load 13 true,[.t 297],none,[2]⟩,⟨some 299,.call 51,[.t 295,.t 296,.t 298],none,[0,1,3]⟩,⟨some 294,.mv,[.t 299],none,[4]⟩,⟨some 300,.ext 0,[.t 294],none,[5]⟩,⟨some 301,.ext 1,[.t 294],none,[5]⟩,⟨some 40,.mv,[.t 300],none,[6,4,0,1,2,3,4,5,6]⟩,⟨some 41,.mv,[.t 301],none,[7,8,0,1,2,3,4,5,6,7,8]⟩]) (.seq (.ops false [⟨some 302,.mv,[.t 41],none,[]⟩,⟨some 303,.bin .eql,[.t 302,.c (.i .i64 0)],none,[0]⟩,⟨some 304,.mv,[.t 303],none,[1]⟩,⟨some 305,.mv,[.t 40],some (304,true),[2]⟩,⟨some 306,.mv,[.t 11],some (304,true),[2]⟩,⟨some 307,.len false,[.t 306],some (304,true),[4,2]⟩,⟨some 308,.bin .eql,[.t 307,.c (.i .i64 0)],some (304,true),[5,2]⟩,⟨some 309,.eq false [0] false,[.t 305,.t 308],some (304,true),[3,6,2]⟩,⟨some 310,.pick,[.t 304,.t 309,.c (.b false)],none,[2,7]⟩,⟨some 311,.mv,[.t 310],none,[8,2]⟩,⟨some 312,.call 18,[],some (311,true),[9,9]⟩,⟨some 313,.pick,[.t 311,.t 312,.c (.b false)],none,[9,10]⟩,⟨some 6,.mv,[.t 313],none,[11,10,0,1,2,3,4,5,6,7,8,9,10,11]⟩]) .ret)))))))))))))))))
def rs10 : List RV := [.tmp 6]
theorem fact10 : compF Tryz.prog 10 = some (ac10,rs10,314) := by kernel_rfl
abbrev seaCl (r : Req) (a b : Int) : List PV := [.s r.name, .s r.carrier, .s r.kind, .s r.term, .s r.partner, .s r.link, .i .i64 r.per.fro, .i .i64 r.per.to, .i .i64 r.per.days, .i .i64 r.minute, .i .i64 r.seats, .i .i64 r.size, .i .i64 r.noise, .i .i64 a, .i .i64 b]
theorem pure61' (m : List Mov) (o : Mov) (k : Nat) (z : Int) (hz : z = k) (hn : m.length + k ≤ 1000000) : Pure Tryz.prog 61 [.sl 7 (m.map Mov.pv), o.pv, .i .i64 z] (.sl 7 ((withM m o k).map Mov.pv)) := by subst hz; exact pure61 m o k hn
theorem movs_ok {r : Req} (hq : chkReq r = 0) {o : Mov} (ho : o ∈ movsL r) : chkMov o = 0 := by
  obtain ⟨d, hd, rfl⟩ := List.mem_map.1 ho
  have h0 := chkReq_0 hq
  have hp := chkPer_0 h0.1
  have hdm := daysL_mem hd
  unfold chkReq at hq
  unfold chkMov
  simp only [firstE_cons] at hq ⊢
  exact ⟨rng_0.2 (by simp only [movOf]; omega), hq.2.1, hq.2.2.1, hq.2.2.2.2.2.1, hq.1, rfl⟩
theorem pure10 (l : List Lim) (m : List Mov) (r : Req) (a b : Int) (hn : l.length * 112 ≤ 140737488355328) : Pure Tryz.prog 10 [.sl 11 (l.map Lim.pv), .sl 7 (m.map Mov.pv), seaPV r a b] (.b true) := by
  refine pure_by fact10 (by simp) fun hw X hX => ?_
  unfold ac10 rs10
  cases hs : smallB l m with
  | false =>
    have qe := And.intro qR @hs; repeat' first | (show Run _ (.cond _ _ _) _ _; refine run_condX (fun hc => ?_) (fun hc => ?_) <;> (try simp only [qH, rng_0] at hc) <;> try contradiction) | (show RunOps _ _ _ _ (⟨_, .call 14, _, _, _⟩ :: _) _ _; refine run_callX (hf := pure14 l hn) (hn := ?_)) | (show RunOps _ _ _ _ (⟨_, .call 60, _, _, _⟩ :: _) _ _; refine run_callX (hf := pure60 l m) (hn := ?_)) | (show RunOps _ _ _ _ (⟨_, .call 17, _, _, _⟩ :: _) _ _; refine run_callGX (hf := fun hc => (by first | exact pure17 r | (simp only [qH, rng_0] at hc; exact pure17 r))) (hn := ?_)) | (show RunOps _ _ _ _ (⟨_, .call 20, _, _, _⟩ :: _) _ _; refine run_callGX (hf := fun hc => (by first | exact pure20 r | (simp only [qH, rng_0] at hc; exact pure20 r))) (hn := ?_)) | (show RunOps _ _ _ _ (⟨_, .call 18, _, _, _⟩ :: _) _ _; refine run_callX (hf := pure18) (hn := ?_)) | (first | refine Stp.h ?_ | (show ∀ K : St → List Ft → Prop, _; intro K hK) | (show runS _ _ _ _ _; first | refine qY (hq := ?_) | refine qZ (hq := ?_)) | (refine hK _ _ ?_; clear hK K) | (refine hK _ _ rfl ?_; clear hK K) | (refine qZ (hq := ?_); try exact trivial) | omega)
    all_goals exact .refl _
  | true =>
    obtain ⟨g1, g2, g3, g4, g5, g6⟩ := small_0 hs
    have hl := chkLims_0 g5
    have hm := chkMovs_0 g6
    by_cases hq : chkReq r = 0
    · have hr := chkReq_0 hq
      have hp := chkPer_0 hr.1
      have hq2 : (l.length : Int).tdiv 2 = ((l.length / 2 : Nat) : Int) := by rw [Int.tdiv_eq_ediv_of_nonneg (by omega)]; omega
      obtain ⟨A, hA⟩ : ∃ A, A = l.take (l.length / 2) := ⟨_, rfl⟩
      obtain ⟨B, hB⟩ : ∃ B, B = l.drop (l.length / 2) := ⟨_, rfl⟩
      have hAB : A ++ B = l := by rw [hA, hB, List.take_append_drop]
      have hA1 : (l.map Lim.pv).take (l.length / 2) = A.map Lim.pv := by rw [hA, List.map_take]
      have hB1 : (l.map Lim.pv).drop (l.length / 2) = B.map Lim.pv := by rw [hB, List.map_drop]
      have cA : chkLims A = 0 := chkLims_sub g5 (hA ▸ List.take_sublist _ _)
      have cB : chkLims B = 0 := chkLims_sub g5 (hB ▸ List.drop_sublist _ _)
      have lA : A.length ≤ 32 := (chkLims_0 cA).1
      have lB : B.length ≤ 32 := (chkLims_0 cB).1
      have hall := fun l => eq_true (allLm l)
      have b1 : bothC l m = 0 := firstE_cons.2 ⟨g5, firstE_cons.2 ⟨g6, rfl⟩⟩
      have bA : bothC A m = 0 := firstE_cons.2 ⟨cA, firstE_cons.2 ⟨g6, rfl⟩⟩
      have bB : bothC B m = 0 := firstE_cons.2 ⟨cB, firstE_cons.2 ⟨g6, rfl⟩⟩
      have fC : ∀ k : List Lim, bothC k m = 0 → fitC k m r = 0 ∧ fitR k m r = fitsB k m r := fun k hk => by
        have h2 : fitC k m r = 0 := firstE_cons.2 ⟨hk, firstE_cons.2 ⟨hq, rfl⟩⟩
        exact ⟨h2, by unfold fitR; rw [decide_eq_true h2, Bool.true_and]⟩
      obtain ⟨c1, d1⟩ := fC l b1
      obtain ⟨c2, d2⟩ := fC A bA
      obtain ⟨c3, d3⟩ := fC B bB
      have hfa : fitsB l m r = (fitsB A m r && fitsB B m r) := by rw [← hAB]; exact fits_app (by rw [hAB]; exact hl.2)
      have hdl := daysL_len r.per
      have hml : (movsL r).length ≤ 1000 := by rw [movsL, List.length_map]; omega
      have qe := And.intro qR (And.intro @hs (And.intro @hq (And.intro @hq2 (And.intro @hA1 (And.intro @hB1 (And.intro @hall (And.intro @c1 (And.intro @c2 (And.intro @c3 (And.intro @d1 (And.intro @d2 (And.intro @d3 (And.intro @hfa (And.intro @dec_self @decB_self)))))))))))))); repeat' first | (show Run _ (.cond _ _ _) _ _; refine run_condX (fun hc => ?_) (fun hc => ?_) <;> (try simp only [qH, rng_0] at hc) <;> try contradiction) | (show RunOps _ _ _ _ (⟨_, .call 14, _, _, _⟩ :: _) _ _; refine run_callX (hf := pure14 l hn) (hn := ?_)) | (show RunOps _ _ _ _ (⟨_, .call 60, _, _, _⟩ :: _) _ _; refine run_callX (hf := pure60 l m) (hn := ?_)) | (show RunOps _ _ _ _ (⟨_, .call 17, _, _, _⟩ :: _) _ _; refine run_callGX (hf := fun hc => (by first | exact pure17 r | (simp only [qH, rng_0] at hc; exact pure17 r))) (hn := ?_)) | (show RunOps _ _ _ _ (⟨_, .call 20, _, _, _⟩ :: _) _ _; refine run_callGX (hf := fun hc => (by first | exact pure20 r | (simp only [qH, rng_0] at hc; exact pure20 r))) (hn := ?_)) | (show RunOps _ _ _ _ (⟨_, .call 18, _, _, _⟩ :: _) _ _; refine run_callX (hf := pure18) (hn := ?_)) | (show RunOps _ _ _ _ (⟨_, .call 21, _, _, _⟩ :: _) _ _; refine run_callX (hf := pure21 r hq) (hn := ?_)) | (show RunOps _ _ _ _ (⟨_, .call 51, _, _, _⟩ :: _) _ _; refine run_callX (hf := pure51 A m r) (hn := ?_)) | (show RunOps _ _ _ _ (⟨_, .call 51, _, _, _⟩ :: _) _ _; refine run_callX (hf := pure51 B m r) (hn := ?_)) | (show RunOps _ _ _ _ (⟨_, .call 51, _, _, _⟩ :: _) _ _; refine run_callX (hf := pure51 l m r) (hn := ?_)) | (first | refine Stp.h ?_ | (show ∀ K : St → List Ft → Prop, _; intro K hK) | (show runS _ _ _ _ _; first | refine qY (hq := ?_) | refine qZ (hq := ?_)) | (refine hK _ _ ?_; clear hK K) | (refine hK _ _ rfl ?_; clear hK K) | (refine qZ (hq := ?_); try exact trivial) | omega)
      · exact .refl _
      refine run_loop (κ := Nat) (fun j => ⟨[(0, .p (.sl 11 (l.map Lim.pv))), (1, .p (.sl 7 (m.map Mov.pv))), (5, .lp 5 0), (7, .p (.sl 11 (l.map Lim.pv))), (9, .row 76 A.length), (10, .row 81 B.length), (11, .p (.sl 7 ((movsL r).map Mov.pv))), (127, .p (.sl 7 ((movsL r).map Mov.pv))), (128, .p (.i .i64 (movsL r).length)), (129, .p (.i .i64 j))], [(5, .box ((seaCl r a b).map .p) false), (76, .row 46 11 (A.map Lim.pv) false), (81, .row 46 11 (B.map Lim.pv) false)], [], false⟩) (fun j => j ≤ (movsL r).length) (fun j => (movsL r).length - j) 0 ?_ ?_ ?_
      · simp only [qS, Nat.reduceAdd, Nat.reduceMul, Nat.reduceEqDiff, Nat.reduceLeDiff, reduceIte, reduceCtorEq, Nat.reduceBEq, Nat.reduceLT] <;> simp
      · simp
      · intro j hj
        by_cases hjl : j < (movsL r).length
        · obtain ⟨o, ho⟩ := some_at (i := j) (l := movsL r) hjl
          have hoc : chkMov o = 0 := movs_ok hq (List.mem_of_getElem? ho)
          have hR : ∀ k : List Lim, bothC k m = 0 → roomC k m o = 0 ∧ roomR k m o = roomL k m o := fun k hk => by
            have h2 : roomC k m o = 0 := firstE_cons.2 ⟨hk, firstE_cons.2 ⟨hoc, rfl⟩⟩
            exact ⟨h2, roomR_p h2⟩
          obtain ⟨e1, e2⟩ := hR l b1
          obtain ⟨e3, e4⟩ := hR A bA
          obtain ⟨e5, e6⟩ := hR B bB
          have w1 := with_ok g6 g2 hoc (k := 1) (by omega)
          have e7 : roomC l (withM m o 1) o = 0 := firstE_cons.2 ⟨firstE_cons.2 ⟨g5, firstE_cons.2 ⟨w1.1, rfl⟩⟩, firstE_cons.2 ⟨hoc, rfl⟩⟩
          have e8 := roomR_p e7
          have hmin : min (roomL A m o) (roomL B m o) = roomL l m o := by rw [← hAB]; exact (room_app (by rw [hAB]; exact hl.2)).symm
          have hgt : (roomL l m o < roomL l (withM m o 1) o) = False := eq_false (by have := room_more (m := m) (o := o) hl.2; omega)
          have qe := And.intro qR (And.intro @ho (And.intro @e1 (And.intro @e2 (And.intro @e3 (And.intro @e4 (And.intro @e5 (And.intro @e6 (And.intro @e7 (And.intro @e8 (And.intro @hmin (And.intro @hgt @dec_self))))))))))); repeat' first | (show Run _ (.cond _ _ _) _ _; refine run_condX (fun hc => ?_) (fun hc => ?_) <;> (try simp only [qH, rng_0] at hc) <;> try contradiction) | (show RunOps _ _ _ _ (⟨_, .call 43, _, _, _⟩ :: _) _ _; refine run_callX (hf := pure43 l m o) (hn := ?_)) | (show RunOps _ _ _ _ (⟨_, .call 43, _, _, _⟩ :: _) _ _; refine run_callX (hf := pure43 A m o) (hn := ?_)) | (show RunOps _ _ _ _ (⟨_, .call 43, _, _, _⟩ :: _) _ _; refine run_callX (hf := pure43 B m o) (hn := ?_)) | (show RunOps _ _ _ _ (⟨_, .call 61, _, _, _⟩ :: _) _ _; refine run_callX (hf := pure61' m o 1 _ rfl (by omega)) (hn := ?_)) | (show RunOps _ _ _ _ (⟨_, .call 43, _, _, _⟩ :: _) _ _; refine run_callX (hf := pure43 l (withM m o 1) o) (hn := ?_)) | (first | refine Stp.h ?_ | (show ∀ K : St → List Ft → Prop, _; intro K hK) | (show runS _ _ _ _ _; first | refine qY (hq := ?_) | refine qZ (hq := ?_)) | (refine hK _ _ ?_; clear hK K) | (refine hK _ _ rfl ?_; clear hK K) | (refine qZ (hq := ?_); try exact trivial) | omega)
          refine run_loop (κ := Nat) (fun i => ⟨[(0, .p (.sl 11 (l.map Lim.pv))), (1, .p (.sl 7 (m.map Mov.pv))), (5, .lp 5 0), (7, .p (.sl 11 (l.map Lim.pv))), (9, .row 76 A.length), (10, .row 81 B.length), (11, .p (.sl 7 ((movsL r).map Mov.pv))), (127, .p (.sl 7 ((movsL r).map Mov.pv))), (128, .p (.i .i64 (movsL r).length)), (129, .p (.i .i64 j)), (19, .lp 19 0), (20, .p (.i .i64 (roomL l m o))), (183, .p (.sl 11 (l.map Lim.pv))), (184, .p (.i .i64 l.length)), (185, .p (.i .i64 i))], [(5, .box ((seaCl r a b).map .p) false), (76, .row 46 11 (A.map Lim.pv) false), (81, .row 46 11 (B.map Lim.pv) false), (19, .box (o.cells.map .p) false)], [], false⟩) (fun i => i ≤ l.length) (fun i => l.length - i) 0 ?_ ?_ ?_
          · simp only [qS, Nat.reduceAdd, Nat.reduceMul, Nat.reduceEqDiff, Nat.reduceLeDiff, reduceIte, reduceCtorEq, Nat.reduceBEq, Nat.reduceLT] <;> simp
          · simp
          · intro i hi
            by_cases hil : i < l.length
            · obtain ⟨x, hx⟩ := some_at (i := i) (l := l) hil
              have hxc := hl.2 x (List.mem_of_getElem? hx)
              have hx0 := chkLim_0 hxc
              by_cases hz : x.most = 0
              · have hz' := eq_true hz
                have qe := And.intro qR (And.intro @hx @hz'); repeat' first | (show Run _ (.cond _ _ _) _ _; refine run_condX (fun hc => ?_) (fun hc => ?_) <;> (try simp only [qH, rng_0] at hc) <;> try contradiction) | (show RunOps _ _ _ _ (⟨_, .call 18, _, _, _⟩ :: _) _ _; refine run_callX (hf := pure18) (hn := ?_)) | (first | refine Stp.h ?_ | (show ∀ K : St → List Ft → Prop, _; intro K hK) | (show runS _ _ _ _ _; first | refine qY (hq := ?_) | refine qZ (hq := ?_)) | (refine hK _ _ ?_; clear hK K) | (refine hK _ _ rfl ?_; clear hK K) | (refine qZ (hq := ?_); try exact trivial) | omega)
                exact ⟨i + 1, by omega, by omega, by simp⟩
              · have hz' := eq_false hz
                have lc := lower_chk hxc hz
                obtain ⟨t1, t2⟩ := put_set (y := x.lower) g5 hx lc rfl
                have tc := chkLims_set (y := x.lower) g5 hx lc rfl
                have t3 : roomC (l.set i x.lower) m o = 0 := firstE_cons.2 ⟨firstE_cons.2 ⟨tc, firstE_cons.2 ⟨g6, rfl⟩⟩, firstE_cons.2 ⟨hoc, rfl⟩⟩
                have t4 := roomR_p t3
                obtain ⟨t5, t6⟩ := lower_room (m := m) (o := o) hl.2 hx hz
                have t5' : (roomL l m o < roomL (l.set i x.lower) m o) = False := eq_false (by omega)
                have hrp := room_pos (ls := l) (m := m) (o := o)
                by_cases h9 : roomL l m o < 999999999
                · have h9' := eq_true h9
                  have t6' : (roomL (l.set i x.lower) m o < roomL l m o - 1) = False := eq_false (by have := t6 h9; omega)
                  have qe := And.intro qR (And.intro @hx (And.intro @hz' (And.intro @t1 (And.intro @t2 (And.intro @t3 (And.intro @t4 (And.intro @t5' (And.intro @h9' (And.intro @t6' @dec_self))))))))); repeat' first | (show Run _ (.cond _ _ _) _ _; refine run_condX (fun hc => ?_) (fun hc => ?_) <;> (try simp only [qH, rng_0] at hc) <;> try contradiction) | (show RunOps _ _ _ _ (⟨_, .call 63, _, _, _⟩ :: _) _ _; refine run_callX (hf := pure63 l x.lower) (hn := ?_)) | (show RunOps _ _ _ _ (⟨_, .call 43, _, _, _⟩ :: _) _ _; refine run_callX (hf := pure43 (l.set i x.lower) m o) (hn := ?_)) | (first | refine Stp.h ?_ | (show ∀ K : St → List Ft → Prop, _; intro K hK) | (show runS _ _ _ _ _; first | refine qY (hq := ?_) | refine qZ (hq := ?_)) | (refine hK _ _ ?_; clear hK K) | (refine hK _ _ rfl ?_; clear hK K) | (refine qZ (hq := ?_); try exact trivial) | omega)
                  exact ⟨i + 1, by omega, by omega, by simp⟩
                · have h9' := eq_false h9
                  have qe := And.intro qR (And.intro @hx (And.intro @hz' (And.intro @t1 (And.intro @t2 (And.intro @t3 (And.intro @t4 (And.intro @t5' (And.intro @h9' @dec_self)))))))); repeat' first | (show Run _ (.cond _ _ _) _ _; refine run_condX (fun hc => ?_) (fun hc => ?_) <;> (try simp only [qH, rng_0] at hc) <;> try contradiction) | (show RunOps _ _ _ _ (⟨_, .call 63, _, _, _⟩ :: _) _ _; refine run_callX (hf := pure63 l x.lower) (hn := ?_)) | (show RunOps _ _ _ _ (⟨_, .call 43, _, _, _⟩ :: _) _ _; refine run_callX (hf := pure43 (l.set i x.lower) m o) (hn := ?_)) | (first | refine Stp.h ?_ | (show ∀ K : St → List Ft → Prop, _; intro K hK) | (show runS _ _ _ _ _; first | refine qY (hq := ?_) | refine qZ (hq := ?_)) | (refine hK _ _ ?_; clear hK K) | (refine hK _ _ rfl ?_; clear hK K) | (refine qZ (hq := ?_); try exact trivial) | omega)
                  exact ⟨i + 1, by omega, by omega, by simp⟩
            · have qe := @qR; repeat' first | (show Run _ (.cond _ _ _) _ _; refine run_condX (fun hc => ?_) (fun hc => ?_) <;> (try simp only [qH, rng_0] at hc) <;> try contradiction) | (show RunOps _ _ _ _ (⟨_, .call 18, _, _, _⟩ :: _) _ _; refine run_callX (hf := pure18) (hn := ?_)) | (first | refine Stp.h ?_ | (show ∀ K : St → List Ft → Prop, _; intro K hK) | (show runS _ _ _ _ _; first | refine qY (hq := ?_) | refine qZ (hq := ?_)) | (refine hK _ _ ?_; clear hK K) | (refine hK _ _ rfl ?_; clear hK K) | (refine qZ (hq := ?_); try exact trivial) | omega)
              exact ⟨j + 1, by omega, by omega, by simp⟩
        · have qe := @qR; repeat' first | (show Run _ (.cond _ _ _) _ _; refine run_condX (fun hc => ?_) (fun hc => ?_) <;> (try simp only [qH, rng_0] at hc) <;> try contradiction) | (show RunOps _ _ _ _ (⟨_, .call 18, _, _, _⟩ :: _) _ _; refine run_callX (hf := pure18) (hn := ?_)) | (first | refine Stp.h ?_ | (show ∀ K : St → List Ft → Prop, _; intro K hK) | (show runS _ _ _ _ _; first | refine qY (hq := ?_) | refine qZ (hq := ?_)) | (refine hK _ _ ?_; clear hK K) | (refine hK _ _ rfl ?_; clear hK K) | (refine qZ (hq := ?_); try exact trivial) | omega)
          refine run_loop (κ := Nat) (fun i => ⟨[(0, .p (.sl 11 (l.map Lim.pv))), (1, .p (.sl 7 (m.map Mov.pv))), (5, .lp 5 0), (7, .p (.sl 11 (l.map Lim.pv))), (11, .p (.sl 7 ((movsL r).map Mov.pv))), (34, .lp 34 0), (247, .p (.sl 11 (l.map Lim.pv))), (248, .p (.i .i64 l.length)), (249, .p (.i .i64 i))], [(5, .box ((seaCl r a b).map .p) false), (34, .box ((tower r.per).cells.map .p) false)], [], false⟩) (fun i => i ≤ l.length ∧ ∀ x ∈ l.take i, x.name ≠ sTower) (fun i => l.length - i) 0 ?_ ?_ ?_
          · simp only [qS, Nat.reduceAdd, Nat.reduceMul, Nat.reduceEqDiff, Nat.reduceLeDiff, reduceIte, reduceCtorEq, Nat.reduceBEq, Nat.reduceLT] <;> simp [tower]
          · simp
          · intro i hi
            by_cases hil : i < l.length
            · obtain ⟨x, hx⟩ := some_at (i := i) (l := l) hil
              have qe := And.intro qR @hx; repeat' first | (show Run _ (.cond _ _ _) _ _; refine run_condX (fun hc => ?_) (fun hc => ?_) <;> (try simp only [qH, rng_0] at hc) <;> try contradiction) | (show RunOps _ _ _ _ (⟨_, .call 18, _, _, _⟩ :: _) _ _; refine run_callX (hf := pure18) (hn := ?_)) | (first | refine Stp.h ?_ | (show ∀ K : St → List Ft → Prop, _; intro K hK) | (show runS _ _ _ _ _; first | refine qY (hq := ?_) | refine qZ (hq := ?_)) | (refine hK _ _ ?_; clear hK K) | (refine hK _ _ rfl ?_; clear hK K) | (refine qZ (hq := ?_); try exact trivial) | omega)
              · exact .refl _
              · refine ⟨i + 1, ⟨by omega, fun y hy => ?_⟩, by omega, by simp⟩
                rw [List.take_add_one, hx] at hy
                rcases List.mem_append.1 hy with hy | hy
                · exact hi.2 y hy
                · simp at hy; subst hy; exact hc
            · have hnn : sTower ∉ names l := fun hh => by
                obtain ⟨x, hx, e⟩ := List.mem_map.1 hh
                exact hi.2 x (by rw [List.take_of_length_le (by omega)]; exact hx) e
              obtain ⟨p1, p2, p3⟩ := put_new g5 (tower_chk hr.1) hnn (by omega)
              obtain ⟨p4, p5⟩ := wout_tower hnn p3
              have p6 := tower_fits (l := l) hl.2 hq g6
              have p7 : ((l ++ [tower r.per]).length : Int) = l.length + 1 := by simp
              obtain ⟨M, hM⟩ : ∃ M, M = l ++ [tower r.per] := ⟨_, rfl⟩
              rw [← hM] at p2 p3 p4 p5 p6 p7
              have bM : bothC M m = 0 := firstE_cons.2 ⟨p3, firstE_cons.2 ⟨g6, rfl⟩⟩
              obtain ⟨c4, d4⟩ := fC M bM
              have p6' : fitsB M m r = decide (((movsL r).length : Int) = 0) := by rw [p6]; simp only [decide_eq_decide]; omega
              have qe := And.intro qR (And.intro @p1 (And.intro @p2 (And.intro @p4 (And.intro @p5 (And.intro @p6' (And.intro @p7 (And.intro @c4 (And.intro @d4 (And.intro @dec_self @decB_self))))))))); repeat' first | (show Run _ (.cond _ _ _) _ _; refine run_condX (fun hc => ?_) (fun hc => ?_) <;> (try simp only [qH, rng_0] at hc) <;> try contradiction) | (show RunOps _ _ _ _ (⟨_, .call 63, _, _, _⟩ :: _) _ _; refine run_callX (hf := pure63 l (tower r.per)) (hn := ?_)) | (show RunOps _ _ _ _ (⟨_, .call 64, _, _, _⟩ :: _) _ _; refine run_callX (hf := pure64 M sTower (by omega)) (hn := ?_)) | (show RunOps _ _ _ _ (⟨_, .call 14, _, _, _⟩ :: _) _ _; refine run_callGX (hf := fun hc => (by first | exact pure14 l hn | (simp only [qH, rng_0] at hc; exact pure14 l hn))) (hn := ?_)) | (show RunOps _ _ _ _ (⟨_, .call 65, _, _, _⟩ :: _) _ _; refine run_callGX (hf := fun hc => (by first | exact pure65 l | (simp only [qH, rng_0] at hc; exact pure65 l))) (hn := ?_)) | (show RunOps _ _ _ _ (⟨_, .call 51, _, _, _⟩ :: _) _ _; refine run_callX (hf := pure51 M m r) (hn := ?_)) | (show RunOps _ _ _ _ (⟨_, .call 18, _, _, _⟩ :: _) _ _; refine run_callGX (hf := fun hc => (by first | exact pure18 | (simp only [qH, rng_0] at hc; exact pure18))) (hn := ?_)) | (first | refine Stp.h ?_ | (show ∀ K : St → List Ft → Prop, _; intro K hK) | (show runS _ _ _ _ _; first | refine qY (hq := ?_) | refine qZ (hq := ?_)) | (refine hK _ _ ?_; clear hK K) | (refine hK _ _ rfl ?_; clear hK K) | (refine qZ (hq := ?_); try exact trivial) | omega)
              all_goals first | exact .refl _
    · have hq' := eq_false hq
      have qe := And.intro qR (And.intro @hs @hq'); repeat' first | (show Run _ (.cond _ _ _) _ _; refine run_condX (fun hc => ?_) (fun hc => ?_) <;> (try simp only [qH, rng_0] at hc) <;> try contradiction) | (show RunOps _ _ _ _ (⟨_, .call 14, _, _, _⟩ :: _) _ _; refine run_callX (hf := pure14 l hn) (hn := ?_)) | (show RunOps _ _ _ _ (⟨_, .call 60, _, _, _⟩ :: _) _ _; refine run_callX (hf := pure60 l m) (hn := ?_)) | (show RunOps _ _ _ _ (⟨_, .call 17, _, _, _⟩ :: _) _ _; refine run_callGX (hf := fun hc => (by first | exact pure17 r | (simp only [qH, rng_0] at hc; exact pure17 r))) (hn := ?_)) | (show RunOps _ _ _ _ (⟨_, .call 20, _, _, _⟩ :: _) _ _; refine run_callGX (hf := fun hc => (by first | exact pure20 r | (simp only [qH, rng_0] at hc; exact pure20 r))) (hn := ?_)) | (show RunOps _ _ _ _ (⟨_, .call 18, _, _, _⟩ :: _) _ _; refine run_callX (hf := pure18) (hn := ?_)) | (first | refine Stp.h ?_ | (show ∀ K : St → List Ft → Prop, _; intro K hK) | (show runS _ _ _ _ _; first | refine qY (hq := ?_) | refine qZ (hq := ?_)) | (refine hK _ _ ?_; clear hK K) | (refine hK _ _ rfl ?_; clear hK K) | (refine qZ (hq := ?_); try exact trivial) | omega)
      all_goals exact .refl _
theorem lifted10 (os : Os) (started : os.Started) (H : Type) (enc : TypeId × Value → H) : ReturnsInHanded {} Tryz.checked os 10 .any (Rows.capacityMonotoneSpec.pre6 enc Tryz.prog Tryz.f10 Rows.capacityMonotoneRow.domain false) (Rows.capacityMonotoneSpec.post enc Tryz.prog Tryz.f10 false true false false) := by
  refine returnsInHanded_of_change_shaped (C := Tryz.checked) own started (by kernel_rfl) Tryz.func10
    (ChangeSpec.witness6 (enc := enc) (C := Tryz.checked) false ⟨#[], #[.slice none 0 0, .slice none 0 0, .agg #[zs, zs, zs, zs, zs, zs, zi, zi, zi, zi, zi, zi, zi, zi, zi]], []⟩ 8 (by kernel_rfl) (by kernel_rfl) (by kernel_rfl) (by kernel_rfl)) ?_
  intro W base args ds gs before hval hW _ hsz _ _
  refine law_contract (C := Tryz.checked) (n := 4) (tb := 4) laid (by kernel_rfl) rfl (fun H ds hd => ?_) (by kernel_rfl) und4 (by kernel_rfl) (fun ps hps => ?_) W base args ds gs before hval hW hsz
  · match ds, hd with
    | [_, _, _], _ => rfl
  · match ps, hps with
    | [p0, p1, p2], ⟨h0, h1, h2, _⟩ =>
      obtain ⟨l, rfl, hl⟩ := fit_lims h0
      obtain ⟨m, rfl⟩ := fit_movs h1
      obtain ⟨r, ra, rb, rfl⟩ := fit_sea h2
      exact pure10 l m r ra rb hl
theorem monotone_over : Rows.capacityMonotoneRow.holds Tryz.pinned (OpenSpec.ofChange Rows.capacityMonotoneSpec) :=
  OpenClaim.holds_of_wide 10 Tryz.f10 rfl rfl rfl rfl rfl rfl rfl ⟨rfl, rfl, rfl, rfl, rfl⟩ rfl rfl rfl rfl rfl (by kernel_rfl) Tryz.func10 (by kernel_rfl)
    (of_decide_eq_true (by kernel_rfl)) (by unfold Func.isWrapper; first | (rw [if_pos (by decide +kernel)]; kernel_rfl) | (rw [if_neg (by decide +kernel)]; exact ⟨rfl, rfl⟩))
    (fun os started H enc _ => lifted10 os started H enc)
theorem monotone_proved : Rows.CapacityMonotoneSaid := monotone_over
end Go.Proofs.YtcfbdeghmckelaaGreat
