/- The statement CapacityLater is proved: seven days later the exceeded windows begin seven days later, and a request fits at the same minutes. No conditions. -/
import Derived.Test.YtcfbdeghmckelaaGreatJ4
set_option linter.all false
namespace Go.Proofs.YtcfbdeghmckelaaGreat
open Go.RowKit Go.ChangeShapes Go.WideShapes Go.ChangeAt
set_option maxRecDepth 100000
set_option linter.unusedVariables false
set_option linter.unusedSimpArgs false
set_option maxHeartbeats 4000000
abbrev seaPV (r : Req) (a b : Int) : PV := .agg [.s r.name, .s r.carrier, .s r.kind, .s r.term, .s r.partner, .s r.link, .i .i64 r.per.fro, .i .i64 r.per.to, .i .i64 r.per.days, .i .i64 r.minute, .i .i64 r.seats, .i .i64 r.size, .i .i64 r.noise, .i .i64 a, .i .i64 b]
theorem decB_self (x : Bool) : (decide (x = x)) = true := decide_eq_true rfl
theorem par88 : parP Tryz.prog 4 88 = some (true, [.s, .s, .s, .s, .s, .s, iT, iT, iT, iT, iT, iT, iT, iT, iT]) := by kernel_rfl
theorem fit_sea {p : PV} (h : FitPar Tryz.prog 4 88 p) : ∃ r a b, p = seaPV r a b := by
  obtain ⟨⟨ag, c, l, hp, rfl, hl⟩, hb⟩ := h
  rw [par88] at hp
  simp only [Option.some.injEq, Prod.mk.injEq] at hp
  obtain ⟨rfl, rfl⟩ := hp
  match l, hl with
  | [_, _, _, _, _, _, _, _, _, _, _, _, _, _, _], ⟨⟨a, ha⟩, ⟨b, hb⟩, ⟨c, hc⟩, ⟨d, hd⟩, ⟨e, he⟩, ⟨f, hf⟩, ⟨g, hg⟩, ⟨i, hi⟩, ⟨j, hj⟩, ⟨k, hk⟩, ⟨m, hm⟩, ⟨n, hn⟩, ⟨o, ho⟩, ⟨q, hq⟩, ⟨s, hs⟩, _⟩ =>
    subst ha hb hc hd he hf hg hi hj hk hm hn ho hq hs
    exact ⟨⟨a, b, c, d, e, f, ⟨g, i, j⟩, k, m, n, o⟩, q, s, rfl⟩
end Go.Proofs.YtcfbdeghmckelaaGreat
namespace Go.Proofs.YtcfbdeghmckelaaGreat
open Go.RowKit
set_option maxRecDepth 100000
set_option linter.unusedVariables false
set_option linter.unusedSimpArgs false
set_option maxHeartbeats 2000000
def insAt (bef : Mov → Mov → Bool) (x : Mov) (out : List Mov) : Nat → Nat
  | 0 => 0
  | n + 1 => match out[n]? with
    | some y => if bef x y then insAt bef x out n else n + 1
    | none => n + 1
def insM (bef : Mov → Mov → Bool) (out : List Mov) (x : Mov) : List Mov := out.take (insAt bef x out out.length) ++ x :: out.drop (insAt bef x out out.length)
def mergeM (bef : Mov → Mov → Bool) (a b : List Mov) : List Mov := (a ++ b).foldl (insM bef) []
theorem insAt_le (bef : Mov → Mov → Bool) (x : Mov) (out : List Mov) : ∀ n, insAt bef x out n ≤ n
  | 0 => Nat.le_refl _
  | n + 1 => by
    have := insAt_le bef x out n
    simp only [insAt]; (repeat' split) <;> omega
theorem insAt_ge (bef : Mov → Mov → Bool) (x : Mov) (out : List Mov) : ∀ n i, insAt bef x out n ≤ i → i < n → ∃ y, out[i]? = some y ∧ bef x y = true
  | 0, i, _, h => by omega
  | n + 1, i, h, hi => by
    simp only [insAt] at h
    split at h
    · rename_i y hy
      split at h
      · by_cases e : i = n
        · subst e; exact ⟨y, hy, by assumption⟩
        · exact insAt_ge bef x out n i h (by omega)
      · omega
    · omega
theorem insAt_last (bef : Mov → Mov → Bool) (x : Mov) (out : List Mov) : ∀ n k y, insAt bef x out n = k + 1 → out[k]? = some y → bef x y = false
  | 0, _, _, h, _ => by cases h
  | n + 1, k, y, h, hy => by
    simp only [insAt] at h
    split at h
    · rename_i z hz
      split at h
      · exact insAt_last bef x out n k y h hy
      · have e : n = k := by omega
        subst e
        rw [hz] at hy
        cases hy
        rename_i hb
        simpa using hb
    · rename_i hz
      have e : n = k := by omega
      subst e
      rw [hz] at hy; cases hy
theorem insM_perm (bef : Mov → Mov → Bool) (out : List Mov) (x : Mov) : (insM bef out x).Perm (x :: out) := by
  unfold insM
  refine List.perm_middle.trans ?_
  rw [List.take_append_drop]
theorem foldl_perm (bef : Mov → Mov → Bool) : ∀ (l out : List Mov), (l.foldl (insM bef) out).Perm (out ++ l)
  | [], out => by simp
  | x :: l, out => by
    refine (foldl_perm bef l (insM bef out x)).trans ?_
    refine ((insM_perm bef out x).append_right l).trans ?_
    simpa using (List.perm_middle (a := x) (l₁ := out) (l₂ := l)).symm
theorem merge_perm (bef : Mov → Mov → Bool) (a b : List Mov) : (mergeM bef a b).Perm (a ++ b) := by
  simpa [mergeM] using foldl_perm bef (a ++ b) []
abbrev sortedM (l : List Mov) : Prop := l.Pairwise fun x y => x.moment ≤ y.moment
theorem insM_sorted {bef : Mov → Mov → Bool} (h1 : ∀ a b, bef a b = true → a.moment ≤ b.moment) (h2 : ∀ a b, bef a b = false → b.moment ≤ a.moment) {out : List Mov} (h : sortedM out) (x : Mov) : sortedM (insM bef out x) := by
  unfold insM
  generalize hk : insAt bef x out out.length = k
  have hkl := insAt_le bef x out out.length
  rw [hk] at hkl
  have hge := insAt_ge bef x out out.length
  have hla := insAt_last bef x out out.length
  rw [hk] at hge hla
  have hs : sortedM (out.take k ++ out.drop k) := by rw [List.take_append_drop]; exact h
  have hs := List.pairwise_append.1 hs
  have hdrop : ∀ y ∈ out.drop k, x.moment ≤ y.moment := fun y hy => by
    obtain ⟨i, hi⟩ := List.getElem?_of_mem hy
    rw [List.getElem?_drop] at hi
    have hlt := (List.getElem?_eq_some_iff.1 hi).1
    obtain ⟨z, hz, hb⟩ := hge (k + i) (by omega) hlt
    rw [hi] at hz; cases hz
    exact h1 _ _ hb
  have htake : ∀ y ∈ out.take k, y.moment ≤ x.moment := fun y hy => by
    cases k with
    | zero => simp at hy
    | succ k =>
      obtain ⟨z, hz⟩ : ∃ z, out[k]? = some z := ⟨_, List.getElem?_eq_getElem (by omega)⟩
      have hb := h2 _ _ (hla k z rfl hz)
      obtain ⟨i, hi⟩ := List.getElem?_of_mem hy
      have hik : i < k + 1 := by
        have := (List.getElem?_eq_some_iff.1 hi).1
        simp only [List.length_take] at this; omega
      rw [List.getElem?_take, if_pos hik] at hi
      by_cases e : i = k
      · subst e; rw [hz] at hi; cases hi; exact hb
      · have hlt := (List.getElem?_eq_some_iff.1 hi).1
        have := List.pairwise_iff_getElem.1 h i k hlt (by omega) (by omega)
        rw [List.getElem?_eq_getElem hlt] at hi
        rw [List.getElem?_eq_getElem (by omega)] at hz
        have e1 := Option.some.inj hi
        have e2 := Option.some.inj hz
        rw [e1, e2] at this
        omega
  refine List.pairwise_append.2 ⟨hs.1, List.pairwise_cons.2 ⟨hdrop, hs.2.1⟩, fun a ha b hb => ?_⟩
  rcases List.mem_cons.1 hb with rfl | hb
  · exact htake a ha
  · exact hs.2.2 a ha b hb
theorem foldl_sorted {bef : Mov → Mov → Bool} (h1 : ∀ a b, bef a b = true → a.moment ≤ b.moment) (h2 : ∀ a b, bef a b = false → b.moment ≤ a.moment) : ∀ (l out : List Mov), sortedM out → sortedM (l.foldl (insM bef) out)
  | [], _, h => h
  | x :: l, _, h => foldl_sorted h1 h2 l _ (insM_sorted h1 h2 h x)
theorem merge_sorted {bef : Mov → Mov → Bool} (h1 : ∀ a b, bef a b = true → a.moment ≤ b.moment) (h2 : ∀ a b, bef a b = false → b.moment ≤ a.moment) (a b : List Mov) : sortedM (mergeM bef a b) := foldl_sorted h1 h2 _ _ List.Pairwise.nil
theorem firstE_all {l : List Int} (h : ∀ x ∈ l, x = 0) : firstE l = 0 := by
  induction l with
  | nil => rfl
  | cons x r ih => exact firstE_cons.2 ⟨h x (by simp), ih fun y hy => h y (by simp [hy])⟩
theorem chkMovs_of {m : List Mov} (hn : m.length ≤ 30000) (hc : ∀ x ∈ m, chkMov x = 0) (hs : sortedM m) : chkMovs m = 0 := by
  rw [chkMovs, if_neg (by omega)]
  refine firstE_all fun e he => ?_
  obtain ⟨i, hi⟩ := List.getElem?_of_mem he
  simp only [movErrs, List.getElem?_mapIdx, Option.map_eq_some_iff] at hi
  obtain ⟨x, hx, rfl⟩ := hi
  refine firstE_cons.2 ⟨hc x (List.mem_of_getElem? hx), firstE_cons.2 ⟨if_neg fun hh => ?_, rfl⟩⟩
  have hlt := (List.getElem?_eq_some_iff.1 hx).1
  have := List.pairwise_iff_getElem.1 hs (i - 1) i (by omega) hlt (by omega)
  rw [List.getElem?_eq_getElem (by omega), Option.getD_some] at hh
  rw [List.getElem?_eq_getElem hlt] at hx
  rw [Option.some.inj hx] at this
  omega
theorem cnt_perm {l : Lim} (h : 0 ≤ l.len) {a b : List Mov} (hp : a.Perm b) (w : Int) : cntAll l a w = cntAll l b w := by
  rw [cnt_filter h, cnt_filter h, (hp.filter _).length_eq]
theorem cnt_app {l : Lim} (h : 0 ≤ l.len) (a b : List Mov) (w : Int) : cntAll l (a ++ b) w = cntAll l a w + cntAll l b w := by
  rw [cnt_filter h, cnt_filter h, cnt_filter h, List.filter_append, List.length_append]; omega
theorem cnt_rep {l : Lim} (h : 0 ≤ l.len) (o : Mov) (k : Nat) (w : Int) : cntAll l (List.replicate k o) w = if inW l w o then (k : Int) else 0 := by
  rw [cnt_filter h]
  split
  · rename_i e; rw [List.filter_replicate_of_pos e, List.length_replicate]
  · rename_i e; rw [List.filter_replicate_of_neg e]; rfl
end Go.Proofs.YtcfbdeghmckelaaGreat
namespace Go.Proofs.YtcfbdeghmckelaaGreat
open Go.RowKit
set_option maxRecDepth 100000
set_option linter.unusedVariables false
set_option linter.unusedSimpArgs false
set_option maxHeartbeats 2000000
def Win.add (k : Int) (w : Win) : Win := ⟨w.lim, w.beg, w.cnt + k⟩
def Adds (ls : List Lim) (m m' : List Mov) (o : Mov) (k : Int) : Prop := ∀ l ∈ ls, ∀ b, cntAll l m' b = cntAll l m b + if inW l b o then k else 0
theorem arL_add {m m' : List Mov} {o : Mov} {k : Int} {l : Lim} (h : ∀ b, cntAll l m' b = cntAll l m b + if inW l b o then k else 0) (i : Nat) : arL m' o i l = (arL m o i l).map (Win.add k) := by
  unfold arL
  split
  · rename_i hc
    rw [List.map_flatMap]
    refine flat_congr fun e _ => ?_
    unfold arX arD
    rw [List.map_flatMap]
    refine flat_congr fun b _ => ?_
    unfold arB
    split
    · rename_i hb
      rw [h b, if_pos (by simp only [inW, hc, Bool.true_and, Bool.and_eq_true, decide_eq_true_eq]; exact hb)]
      rfl
    · rfl
  · rfl
theorem arW_add {ls : List Lim} {m m' : List Mov} {o : Mov} {k : Int} (h : Adds ls m m' o k) : arW ls m' o = (arW ls m o).map (Win.add k) := by
  unfold arW arK
  rw [List.map_flatMap]
  refine flat_congr fun i _ => ?_
  unfold arI
  split
  · rename_i l hl; exact arL_add (h l (List.mem_of_getElem? hl)) i
  · rfl
theorem roomK_char (ls : List Lim) : ∀ (W : List Win) (a : Int), (W.foldl (roomStep ls) a ≤ a ∧ ∀ w ∈ W, W.foldl (roomStep ls) a ≤ max 0 (mostAt ls w.lim - w.cnt)) ∧ (W.foldl (roomStep ls) a = a ∨ ∃ w ∈ W, W.foldl (roomStep ls) a = max 0 (mostAt ls w.lim - w.cnt))
  | [], a => ⟨⟨Int.le_refl _, fun w hw => by cases hw⟩, .inl rfl⟩
  | x :: r, a => by
    obtain ⟨⟨h1, h2⟩, h3⟩ := roomK_char ls r (roomStep ls a x)
    rw [List.foldl_cons]
    have e : roomStep ls a x = min a (max 0 (mostAt ls x.lim - x.cnt)) := rfl
    refine ⟨⟨by omega, fun w hw => ?_⟩, ?_⟩
    · rcases List.mem_cons.1 hw with rfl | hw
      · omega
      · exact h2 w hw
    · rcases h3 with h3 | ⟨w, hw, h3⟩
      · by_cases c : a ≤ max 0 (mostAt ls x.lim - x.cnt)
        · exact .inl (by omega)
        · exact .inr ⟨x, by simp, by omega⟩
      · exact .inr ⟨w, by simp [hw], h3⟩
theorem room_add {ls : List Lim} {m m' : List Mov} {o : Mov} {k : Int} (h : Adds ls m m' o k) (hk : 0 ≤ k) (h1 : k ≤ roomL ls m o) (h2 : roomL ls m o < 999999999) : roomL ls m' o = roomL ls m o - k := by
  have c1 := roomK_char ls (arW ls m o) 999999999
  have c2 := roomK_char ls (arW ls m' o) 999999999
  rw [arW_add h] at c2
  have e1 : roomL ls m o = (arW ls m o).foldl (roomStep ls) 999999999 := rfl
  have e2 : roomL ls m' o = ((arW ls m o).map (Win.add k)).foldl (roomStep ls) 999999999 := by rw [← arW_add h]; rfl
  rw [← e1] at c1
  rw [← e2] at c2
  obtain ⟨⟨a1, a2⟩, a3⟩ := c1
  obtain ⟨⟨b1, b2⟩, b3⟩ := c2
  obtain ⟨w, hw, a3⟩ := a3.resolve_left (by omega)
  have b2w := b2 (Win.add k w) (List.mem_map_of_mem hw)
  simp only [Win.add] at b2w
  rcases b3 with b3 | ⟨v, hv, b3⟩
  · omega
  · obtain ⟨u, hu, rfl⟩ := List.mem_map.1 hv
    have := a2 u hu
    simp only [Win.add] at b3
    omega
theorem full_zero {ls : List Lim} {m : List Mov} {o : Mov} : roomL ls m o = 0 ↔ fullL ls m o ≠ [] := by
  obtain ⟨⟨a1, a2⟩, a3⟩ := roomK_char ls (arW ls m o) 999999999
  have e1 : roomL ls m o = (arW ls m o).foldl (roomStep ls) 999999999 := rfl
  rw [← e1] at a1 a2 a3
  constructor
  · intro h hn
    obtain ⟨w, hw, a3⟩ := a3.resolve_left (by omega)
    have : w ∈ fullL ls m o := List.mem_filter.2 ⟨hw, by simp only [decide_eq_true_eq]; omega⟩
    rw [hn] at this; cases this
  · intro h
    obtain ⟨w, hw⟩ := List.exists_mem_of_ne_nil _ h
    have hw := List.mem_filter.1 hw
    have := a2 w hw.1
    simp only [decide_eq_true_eq] at hw
    rcases a3 with a3 | ⟨v, _, a3⟩ <;> omega
end Go.Proofs.YtcfbdeghmckelaaGreat
namespace Go.Proofs.YtcfbdeghmckelaaGreat
open Go.RowKit
set_option maxRecDepth 100000
set_option linter.unusedVariables false
set_option linter.unusedSimpArgs false
set_option maxHeartbeats 2000000
theorem win_at {l : Lim} (h : chkLim l = 0) {b : Int} (hb : b ∈ windowsL l) : b ∈ beginsL l (b / 1440) := by
  rw [windows_eq h, List.mem_flatMap] at hb
  obtain ⟨d, hd, hb⟩ := hb
  have hb2 : b ∈ beginsL l d := by rw [beginsL_day h, if_pos hd]; exact hb
  have := beginsL_mem h hb2
  rw [show b / 1440 = d by omega]; exact hb2
theorem win_of {l : Lim} (h : chkLim l = 0) {b d : Int} (hb : b ∈ beginsL l d) : b ∈ windowsL l := by
  rw [beginsL_day h] at hb
  split at hb
  · rename_i hd
    rw [windows_eq h, List.mem_flatMap]; exact ⟨d, hd, hb⟩
  · cases hb
theorem ar_mem {ls : List Lim} {m : List Mov} {o : Mov} {i : Nat} {l : Lim} {b : Int} (hi : ls[i]? = some l) (h : chkLim l = 0) (hb : b ∈ windowsL l) (hw : inW l b o = true) : (⟨i, b, cntAll l m b⟩ : Win) ∈ arW ls m o := by
  have hl := chkLim_0 h
  have hlt := (List.getElem?_eq_some_iff.1 hi).1
  simp only [inW, Bool.and_eq_true, decide_eq_true_eq] at hw
  have hd := win_at h hb
  unfold arW arK
  refine List.mem_flatMap.2 ⟨i, List.mem_range.2 hlt, ?_⟩
  unfold arI
  rw [hi]
  simp only
  unfold arL
  rw [if_pos hw.1]
  refine List.mem_flatMap.2 ⟨(b / 1440 - o.moment / 1440 + 1).toNat, List.mem_range.2 (by omega), ?_⟩
  unfold arX arD
  refine List.mem_flatMap.2 ⟨b, ?_, ?_⟩
  · rw [show o.moment / 1440 - 1 + ((b / 1440 - o.moment / 1440 + 1).toNat : Int) = b / 1440 by omega]; exact hd
  · unfold arB; rw [if_pos hw.2]; simp
theorem exc_same {ls : List Lim} {m m' : List Mov} {o : Mov} {k : Int} (hl : ∀ l ∈ ls, chkLim l = 0) (h : Adds ls m m' o k) (hk : 0 ≤ k) (h1 : k ≤ roomL ls m o) : (excW ls m').map (fun w => (w.lim, w.beg)) = (excW ls m).map (fun w => (w.lim, w.beg)) := by
  unfold excW excK
  rw [List.map_flatMap, List.map_flatMap]
  refine flat_congr fun i _ => ?_
  unfold excI
  split
  · rename_i l hi
    have hm := List.mem_of_getElem? hi
    unfold excL
    rw [List.map_flatMap, List.map_flatMap]
    refine flat_congr fun b hb => ?_
    unfold excB
    rw [h l hm b]
    by_cases hw : inW l b o = true
    · have ha := ar_mem (m := m) hi (hl l hm) hb hw
      have c := (roomK_char ls (arW ls m o) 999999999).1.2 _ ha
      have e : mostAt ls (i : Int) = l.most := by simp only [mostAt, Int.toNat_natCast, hi]
      have e1 : roomL ls m o = (arW ls m o).foldl (roomStep ls) 999999999 := rfl
      rw [← e1] at c
      simp only [e] at c
      rw [if_pos hw]
      by_cases hx : l.most < cntAll l m b
      · rw [if_pos (by omega), if_pos hx]; rfl
      · rw [if_neg (by omega), if_neg hx]
    · rw [if_neg hw, Int.add_zero]
  · rfl
theorem exc_over {ls : List Lim} {m m' : List Mov} {o : Mov} (hl : ∀ l ∈ ls, chkLim l = 0) (h : Adds ls m m' o 1) {w : Win} (hw : w ∈ fullL ls m o) : w.add 1 ∈ excW ls m' := by
  have hw := List.mem_filter.1 hw
  obtain ⟨i, l, h1, h2, h3, h4, h5, h6, e, he, hb⟩ := arW_at hw.1
  have hm := List.mem_of_getElem? h2
  have hlt := (List.getElem?_eq_some_iff.1 h2).1
  have hf := hw.2
  simp only [decide_eq_true_eq, h1, mostAt, Int.toNat_natCast, h2] at hf
  unfold excW excK
  refine List.mem_flatMap.2 ⟨i, List.mem_range.2 hlt, ?_⟩
  unfold excI
  rw [h2]
  simp only
  unfold excL
  refine List.mem_flatMap.2 ⟨w.beg, win_of (hl l hm) hb, ?_⟩
  have hin : inW l w.beg o = true := by simp only [inW, h4, Bool.true_and, Bool.and_eq_true, decide_eq_true_eq]; exact ⟨h5, h6⟩
  unfold excB
  rw [h l hm, if_pos hin, if_pos (by omega), List.mem_singleton, Win.add, h1, h3]
end Go.Proofs.YtcfbdeghmckelaaGreat
namespace Go.Proofs.YtcfbdeghmckelaaGreat
open Go.RowKit
theorem RelC.pub {X : Fx} {C : Ctx} {tr : List (List PV)} {stop : Bool} {a : Act} {w : World} {s : St} (hM : X.MOk) (h : RelC X C s.get s.look tr stop a w) (t : Nat) {pre : Prop} {v v' : PV} {ks : List Nat} (ht : toPV s.look 4 (s.get t) = some (pre, v, ks)) (hp : pre) (hw : Weak v v') :
    ∃ C', RelC X C' ((s.wrs (frzs s.look ks)).set (some t) (.p v')).get ((s.wrs (frzs s.look ks)).set (some t) (.p v')).look tr stop a w := by
  obtain ⟨C', h1, h2, h3⟩ := freezes hM s.look C ks s C h rfl rfl (fun _ h => h) (fun k => .inl rfl) (toPV_keys 4 ht)
  have hr := toPV_rep h (B' := C'.B) h2 4 (h.env t) ht hp h3
  refine ⟨C', ?_⟩
  rw [get_set, look_set]
  refine { h1 with env := fun j => ?_, envs := fun j => ?_ }
  · by_cases e : j = t
    · subst e; simp only [upd_same]; exact .p (hw.rep hr)
    · simp only [upd_ne _ _ e]; exact h1.env j
  · by_cases e : j = t
    · subst e; simp only [upd_same]; exact .p _
    · simp only [upd_ne _ _ e]; exact h1.envs j
theorem run_pub {G : Cfg} {c : AC} {s : St} {Q : APost} (t : Nat) (v' : PV) {pre : Prop} {v : PV} {ks : List Nat} (ht : toPV s.look 4 (s.get t) = some (pre, v, ks)) (hp : pre) (hw : Weak v v')
    (h : Run G c ((s.wrs (frzs s.look ks)).set (some t) (.p v')) Q) : Run G c s Q := by
  intro hG code hc C a w hr
  obtain ⟨C', h'⟩ := hr.pub hG.mok t ht hp hw
  refine h hG code hc C' a w ?_
  rw [(tr_set _ _ _).1, (tr_set _ _ _).2, (tr_wrs _ _).1, (tr_wrs _ _).2]
  exact h'
inductive Pubs : St → St → Prop
  | cov {s s' : St} (h : Cov s s') : Pubs s s'
  | pub {s s' : St} (t : Nat) (v' : PV) {pre : Prop} {v : PV} {ks : List Nat} (ht : toPV s.look 4 (s.get t) = some (pre, v, ks)) (hp : pre) (hw : Weak v v') (h : Pubs ((s.wrs (frzs s.look ks)).set (some t) (.p v')) s') : Pubs s s'
theorem Pubs.rel {X : Fx} {a : Act} {w : World} {s s' : St} (hM : X.MOk) (h : Pubs s s') : ∀ {C : Ctx}, RelC X C s.get s.look s.tr s.stop a w → ∃ C', RelC X C' s'.get s'.look s'.tr s'.stop a w := by
  induction h with
  | cov h => exact fun hr => ⟨_, cov_rel h hr⟩
  | pub t v' ht hp hw _ ih =>
    intro C hr
    obtain ⟨C', h'⟩ := hr.pub hM t ht hp hw
    refine ih (C := C') ?_
    rw [(tr_set _ _ _).1, (tr_set _ _ _).2, (tr_wrs _ _).1, (tr_wrs _ _).2]
    exact h'
theorem Pubs.x {s s' : St} (t : Nat) (v' : PV) {pre : Prop} {v : PV} {ks : List Nat} (h : Pubs ((s.wrs (frzs s.look ks)).set (some t) (.p v')) s')
    (ht : toPV s.look 4 (s.get t) = some (pre, v, ks) := by simp (disch := omega) only [qS, qe, Nat.reduceAdd, Nat.reduceMul, Nat.reduceEqDiff, Nat.reduceLeDiff, reduceIte, reduceCtorEq, Nat.reduceBEq, Nat.reduceLT] <;> rfl)
    (hp : pre := by first | trivial | omega | (simp; done) | (simp (disch := omega) only [qS, qe, Nat.reduceAdd, Nat.reduceMul, Nat.reduceEqDiff, Nat.reduceLeDiff, reduceIte, reduceCtorEq, Nat.reduceBEq, Nat.reduceLT] <;> omega)) (hw : Weak v v' := by first | exact .refl _ | exact .nilsl _) : Pubs s s' := .pub t v' ht hp hw h
theorem run_pubX {G : Cfg} {c : AC} {s : St} {Q : APost} (t : Nat) (v' : PV) {pre : Prop} {v : PV} {ks : List Nat} (h : Run G c ((s.wrs (frzs s.look ks)).set (some t) (.p v')) Q)
    (ht : toPV s.look 4 (s.get t) = some (pre, v, ks) := by simp (disch := omega) only [qS, qe, Nat.reduceAdd, Nat.reduceMul, Nat.reduceEqDiff, Nat.reduceLeDiff, reduceIte, reduceCtorEq, Nat.reduceBEq, Nat.reduceLT] <;> rfl)
    (hp : pre := by first | trivial | omega | (simp; done) | (simp (disch := omega) only [qS, qe, Nat.reduceAdd, Nat.reduceMul, Nat.reduceEqDiff, Nat.reduceLeDiff, reduceIte, reduceCtorEq, Nat.reduceBEq, Nat.reduceLT] <;> omega)) (hw : Weak v v' := by first | exact .refl _ | exact .nilsl _) : Run G c s Q := run_pub t v' ht hp hw h
def LoopEnd {κ : Type} (inv : κ → St) (ok : κ → Prop) (μ : κ → Nat) (k : κ) (s : St) : Prop := ∃ k', ok k' ∧ μ k' < μ k ∧ Pubs s (inv k')
def loopP {κ : Type} (inv : κ → St) (ok : κ → Prop) (μ : κ → Nat) (k : κ) (Q : APost) : APost
  | .normal, s => LoopEnd inv ok μ k s
  | e, s => Q e s
section
variable {κ : Type} (inv : κ → St) (ok : κ → Prop) (μ : κ → Nat) (k : κ) (Q : APost) (s : St)
theorem lpN : loopP inv ok μ k Q .normal s = LoopEnd inv ok μ k s := rfl
theorem lpE (i : Nat) : loopP inv ok μ k Q (.exit i) s = Q (.exit i) s := rfl
theorem lpR : loopP inv ok μ k Q .ret s = Q .ret s := rfl
end
theorem run_loopP {κ : Type} {G : Cfg} {Q : APost} {s : St} {c : AC} (inv : κ → St) (ok : κ → Prop) (μ : κ → Nat) (k0 : κ) (h0 : Pubs s (inv k0)) (hk0 : ok k0) (hbody : ∀ k, ok k → Run G c (inv k) (loopP inv ok μ k Q)) : Run G (.loop c) s Q := by
  intro hG code hc C a w hr
  obtain ⟨C1, hr⟩ := h0.rel hG.mok hr
  cases code <;> simp only [compile, Option.map_eq_some_iff] at hc
  case loop c1 =>
    obtain ⟨x', h1, hc⟩ := hc
    injection hc with e1; subst e1
    obtain ⟨m, hm⟩ := least_of fun a w n => ∃ k C, ok k ∧ μ k = n ∧ RelC G.X C (inv k).get (inv k).look (inv k).tr (inv k).stop a w
    refine wpIn_loop (fun a w => ∃ n k C, ok k ∧ μ k = n ∧ RelC G.X C (inv k).get (inv k).look (inv k).tr (inv k).stop a w) m ⟨_, k0, C1, hk0, rfl, hr⟩ ?_
    intro a w hI
    obtain ⟨⟨k, C, hok, hμ, hr⟩, hmin⟩ := hm a w hI
    refine wpIn_mono (hbody k hok hG c1 h1 C a w hr) ?_
    rintro e a' w' ⟨s', C', hr', hq⟩
    cases e with
    | normal =>
      obtain ⟨k', hok', hlt, hcov⟩ := hq
      obtain ⟨C2, hr2⟩ := hcov.rel hG.mok hr'
      have hex : ∃ n, (fun a w n => ∃ k C, ok k ∧ μ k = n ∧ RelC G.X C (inv k).get (inv k).look (inv k).tr (inv k).stop a w) a' w' n := ⟨_, k', C2, hok', rfl, hr2⟩
      refine ⟨hex, ?_⟩
      have := (hm a' w' hex).2 (μ k') ⟨k', C2, hok', rfl, hr2⟩
      omega
    | exit id => exact ⟨s', C', hr', hq⟩
    | ret => exact ⟨s', C', hr', hq⟩
    | goto l => exact hq.elim
    | panic c => exact hq.elim
    | outgrown => exact hq.elim
  all_goals first | (cases hc; done) | (obtain ⟨_, _, hc⟩ := hc; cases hc; done) | (split at hc <;> cases hc; done)
end Go.Proofs.YtcfbdeghmckelaaGreat
namespace Go.Proofs.YtcfbdeghmckelaaGreat
open Go.RowKit
set_option maxRecDepth 100000
set_option linter.unusedVariables false
set_option linter.unusedSimpArgs false
set_option maxHeartbeats 4000000
def befM (a b : Mov) : Bool := if a.moment = b.moment then (if a.kind = b.kind then Op.bytesLess a.name.toList b.name.toList else Op.bytesLess a.kind.toList b.kind.toList) else decide (a.moment < b.moment)
def mgK (l : List Mov) (k : Nat) : List Mov := (l.take k).foldl (insM befM) []
theorem mgK_len {l : List Mov} {k : Nat} (h : k ≤ l.length) : (mgK l k).length = k := by
  have := (foldl_perm befM (l.take k) []).length_eq
  rw [mgK, this]; simp; omega
theorem mgK_next {l : List Mov} {k : Nat} {x : Mov} (h : l[k]? = some x) : mgK l (k + 1) = insM befM (mgK l k) x := by
  rw [mgK, List.take_add_one, h, List.foldl_append]; rfl
theorem allMv (l : List Mov) : l.all ((fun x => x.cells.all PV.one) ∘ Mov.pv) = true := by rw [List.all_eq_true]; intro x _; rfl
theorem allTk {l : List PV} {n : Nat} (h : l.all (fun x => x.cells.all PV.one) = true) : (l.take n).all (fun x => x.cells.all PV.one) = true := by rw [List.all_eq_true] at h ⊢; exact fun x hx => h x (List.mem_of_mem_take hx)
theorem allDr {l : List PV} {n : Nat} (h : l.all (fun x => x.cells.all PV.one) = true) : (l.drop n).all (fun x => x.cells.all PV.one) = true := by rw [List.all_eq_true] at h ⊢; exact fun x hx => h x (List.mem_of_mem_drop hx)
abbrev Mov.cells (m : Mov) : List PV := [.i .i64 m.moment, .s m.kind, .s m.term, .i .i64 m.seats, .i .i64 m.size, .i .i64 m.noise, .s m.name]
theorem weakE {a b : PV} (h : a = b) : Weak a b := h ▸ .refl _
def ac121 : AC := .seq (.ops false [⟨some 2,.box,[.t 0],none,[]⟩,⟨some 3,.box,[.t 1],none,[]⟩,⟨some 4,.mv,[.c (.b false)],none,[]⟩]) (.seq (.seq (.ops false [⟨some 5,.fadr 0,[.t 2],none,[]⟩,⟨some 6,.load 1 false,[.t 5],none,[0]⟩,⟨some 7,.fadr 0,[.t 3],none,[]⟩,⟨some 8,.load 1 false,[.t 7],none,[2]⟩,⟨some 9,.bin .neq,[.t 6,.t 8],none,[1,3]⟩]) (.cond (.t 9) (.seq (.ops false [⟨some 10,.fadr 0,[.t 2],none,[]⟩,⟨some 11,.load 1 false,[.t 10],none,[0]⟩,⟨some 12,.fadr 0,[.t 3],none,[]⟩,⟨some 13,.load 1 false,[.t 12],none,[2]⟩,⟨some 14,.bin .lss,[.t 11,.t 13],none,[1,3]⟩,⟨some 4,.mv,[.t 14],none,[4,0,1,2,3,4]⟩]) .ret) .skip)) (.seq (.seq (.ops false [⟨some 15,.fadr 1,[.t 2],none,[]⟩,⟨some 16,.load 1 false,[.t 15],none,[0]⟩,⟨some 17,.fadr 1,[.t 3],none,[]⟩,⟨some 18,.load 1 false,[.t 17],none,[2]⟩,⟨some 19,.bin .neq,[.t 16,.t 18],none,[1,3]⟩]) (.cond (.t 19) (.seq (.ops false [⟨some 20,.fadr 1,[.t 2],none,[]⟩,⟨some 21,.load 1 false,[.t 20],none,[0]⟩,⟨some 22,.fadr 1,[.t 3],none,[]⟩,⟨some 23,.load 1 false,[.t 22],none,[2]⟩,⟨some 24,.bin .lss,[.t 21,.t 23],none,[1,3]⟩,⟨some 4,.mv,[.t 24],none,[4,0,1,2,3,4]⟩]) .ret) .skip)) (.seq (.ops false [⟨some 25,.fadr 6,[.t 2],none,[]⟩,⟨some 26,.load 1 false,[.t 25],none,[0]⟩,⟨some 27,.fadr 6,[.t 3],none,[]⟩,⟨some 28,.load 1 false,[.t 27],none,[2]⟩,⟨some 29,.bin .lss,[.t 26,.t 28],none,[1,3]⟩,⟨some 4,.mv,[.t 29],none,[4,0,1,2,3,4]⟩]) .ret)))
def rs121 : List RV := [.tmp 4]
theorem fact121 : compF Tryz.prog 121 = some (ac121,rs121,30) := by kernel_rfl
def ac69 : AC := .seq (.ops false [⟨some 4,.mv,[.c .nilsl],none,[]⟩]) (.seq (.ops false [⟨some 9,.bslice 74 7 (.agg [(.i .i64 0),(.s (bs [])),(.s (bs [])),(.i .i64 0),(.i .i64 0),(.i .i64 0),(.s (bs []))]) 0 [],[],none,[]⟩,⟨some 10,.mv,[.t 0],none,[]⟩,⟨some 11,.app 74 7 80,[.t 9,.t 10],none,[0,1]⟩,⟨some 12,.mv,[.t 1],none,[]⟩,⟨some 13,.app 74 7 80,[.t 11,.t 12],none,[2,3,2]⟩,⟨some 5,.mv,[.t 13],none,[4,4,0,1,2,3,4]⟩]) (.seq (.ops false [⟨some 6,.mv,[.c .nilsl],none,[]⟩]) (.seq (.seq (.ops false [⟨some 7,.mv,[.c (.i .i64 0)],none,[]⟩]) (.block 0 (.loop (.seq (.seq (.ops false [⟨some 14,.mv,[.t 7],none,[]⟩,⟨some 15,.mv,[.t 5],none,[]⟩,⟨some 16,.len false,[.t 15],none,[1]⟩,⟨some 17,.bin .lss,[.t 14,.t 16],none,[0,2]⟩]) (.cond (.t 17) .skip (.exit 0))) (.seq (.block 1 (.seq (.ops false [⟨some 20,.mv,[.t 6],none,[]⟩,⟨some 21,.len false,[.t 20],none,[0]⟩,⟨some 8,.mv,[.t 21],none,[1,0,1]⟩]) (.seq (.block 2 (.loop (.seq (.seq (.ops true [⟨some 22,.mv,[.t 8],none,[]⟩,⟨some 23,.bin .gtr,[.t 22,.c (.i .i64 0)],none,[0]⟩,⟨some 24,.mv,[.t 23],none,[1]⟩,⟨some 25,.mv,[.t 5],some (24,true),[2]⟩,⟨some 26,.mv,[.t 7],some (24,true),[2]⟩,⟨some 27,.iadrS 7,[.t 25,.t 26],some (24,true),[3,4,2]⟩,⟨some 28,.load 7 true,[.t 27],some (24,true),[5,2]⟩,⟨some 29,.mv,[.t 6],some (24,true),[2]⟩,⟨some 30,.mv,[.t 8],some (24,true),[2]⟩,⟨some 31,.bin .sub,[.t 30,.c (.i .i64 1)],some (24,true),[8,2]⟩,⟨some 32,.iadrS 7,[.t 29,.t 31],some (24,true),[7,9,2]⟩,⟨some 33,.load 7 true,[.t 32],some (24,true),[10,2]⟩,⟨some 34,.call 121,[.t 28,.t 33],some (24,true),[6,11,2,2]⟩,⟨some 35,.pick,[.t 24,.t 34,.c (.b false)],none,[2,12]⟩]) (.cond (.t 35) .skip (.exit 2))) (.block 3 (.ops false [⟨some 36,.mv,[.t 8],none,[]⟩,⟨some 37,.bin .sub,[.t 36,.c (.i .i64 1)],none,[0]⟩,⟨some 8,.mv,[.t 37],none,[1,0,1]⟩]))))) (.ops true [⟨some 38,.bslice 74 7 (.agg [(.i .i64 0),(.s (bs [])),(.s (bs [])),(.i .i64 0),(.i .i64 0),(.i .i64 0),(.s (bs []))]) 0 [],[],none,[]⟩,⟨some 39,.mv,[.t 6],none,[]⟩,⟨some 40,.mv,[.t 8],none,[]⟩,⟨some 41,.sliceL 7 false true,[.t 39,.t 40],none,[1,2]⟩,⟨some 42,.app 74 7 80,[.t 38,.t 41],none,[0,3]⟩,⟨some 43,.mv,[.t 5],none,[]⟩,⟨some 44,.mv,[.t 7],none,[]⟩,⟨some 45,.iadrS 7,[.t 43,.t 44],none,[5,6]⟩,⟨some 46,.load 7 true,[.t 45],none,[7]⟩,⟨some 47,.bslice 74 7 (.agg [(.i .i64 0),(.s (bs [])),(.s (bs [])),(.i .i64 0),(.i .i64 0),(.i .i64 0),(.s (bs []))]) 1 [0],[.t 46],none,[8]⟩,⟨some 48,.app 74 7 80,[.t 42,.t 47],none,[4,9,4]⟩,⟨some 49,.mv,[.t 6],none,[]⟩,⟨some 50,.mv,[.t 8],none,[]⟩,⟨some 51,.sliceL 7 true false,[.t 49,.t 50],none,[11,12]⟩,⟨some 52,.app 74 7 80,[.t 48,.t 51],none,[10,13,10]⟩,⟨some 6,.mv,[.t 52],none,[14,14,0,1,2,3,4,5,6,7,8,9,10,11,12,13,14]⟩])))) (.ops false [⟨some 18,.mv,[.t 7],none,[]⟩,⟨some 19,.bin .add,[.t 18,.c (.i .i64 1)],none,[0]⟩,⟨some 7,.mv,[.t 19],none,[1,0,1]⟩])))))) (.seq (.ops false [⟨some 53,.mv,[.t 6],none,[]⟩,⟨some 4,.mv,[.t 53],none,[0,0]⟩]) .ret))))
def rs69 : List RV := [.tmp 4]
theorem fact69 : compF Tryz.prog 69 = some (ac69,rs69,54) := by kernel_rfl
def ac61 : AC := .seq (.ops false [⟨some 4,.box,[.t 1],none,[]⟩,⟨some 6,.mv,[.c .nilsl],none,[]⟩]) (.seq (.ops false [⟨some 7,.mv,[.c .nilsl],none,[]⟩]) (.seq (.seq (.ops false [⟨some 8,.mv,[.t 2],none,[]⟩,⟨some 9,.mv,[.c (.i .i64 0)],none,[]⟩]) (.block 0 (.loop (.seq (.ops false [⟨some 10,.bin .lss,[.t 9,.t 8],none,[]⟩]) (.seq (.cond (.t 10) .skip (.exit 0)) (.seq (.block 1 (.ops false [⟨some 11,.mv,[.t 7],none,[]⟩,⟨some 12,.load 7 true,[.t 4],none,[]⟩,⟨some 13,.bslice 74 7 (.agg [(.i .i64 0),(.s (bs [])),(.s (bs [])),(.i .i64 0),(.i .i64 0),(.i .i64 0),(.s (bs []))]) 1 [0],[.t 12],none,[1]⟩,⟨some 14,.app 74 7 80,[.t 11,.t 13],none,[0,2]⟩,⟨some 7,.mv,[.t 14],none,[3,3,0,1,2,3]⟩])) (.ops false [⟨some 15,.bin .add,[.t 9,.c (.i .i64 1)],none,[]⟩,⟨some 9,.mv,[.t 15],none,[0]⟩]))))))) (.seq (.ops false [⟨some 16,.mv,[.t 0],none,[]⟩,⟨some 17,.mv,[.t 7],none,[]⟩,⟨some 18,.call 69,[.t 16,.t 17],none,[0,1]⟩,⟨some 6,.mv,[.t 18],none,[2,2,0,1,2]⟩]) .ret)))
def rs61 : List RV := [.tmp 6]
theorem fact61 : compF Tryz.prog 61 = some (ac61,rs61,19) := by kernel_rfl
theorem pure121 (a b : Mov) : Pure Tryz.prog 121 [a.pv, b.pv] (.b (befM a b)) := by
  refine pure_by fact121 (by simp) fun hw X hX => ?_
  unfold ac121 rs121
  by_cases h1 : a.moment = b.moment
  · by_cases h2 : a.kind = b.kind
    · have h1' := eq_true h1
      have h2' := eq_true h2
      have qe := And.intro @h1' @h2'; repeat' first | (show Run _ (.cond _ _ _) _ _; refine run_condX (fun hc => ?_) (fun hc => ?_) <;> (try simp only [qH, rng_0] at hc) <;> try contradiction) | (first | refine Stp.h ?_ | (show ∀ K : St → List Ft → Prop, _; intro K hK) | (show runS _ _ _ _ _; first | refine qY (hq := ?_) | refine qZ (hq := ?_)) | (refine hK _ _ ?_; clear hK K) | (refine hK _ _ rfl ?_; clear hK K) | (refine qZ (hq := ?_); try exact trivial) | omega)
      rw [befM, if_pos h1, if_pos h2]; exact .refl _
    · have h1' := eq_true h1
      have h2' := eq_false h2
      have qe := And.intro @h1' @h2'; repeat' first | (show Run _ (.cond _ _ _) _ _; refine run_condX (fun hc => ?_) (fun hc => ?_) <;> (try simp only [qH, rng_0] at hc) <;> try contradiction) | (first | refine Stp.h ?_ | (show ∀ K : St → List Ft → Prop, _; intro K hK) | (show runS _ _ _ _ _; first | refine qY (hq := ?_) | refine qZ (hq := ?_)) | (refine hK _ _ ?_; clear hK K) | (refine hK _ _ rfl ?_; clear hK K) | (refine qZ (hq := ?_); try exact trivial) | omega)
      rw [befM, if_pos h1, if_neg h2]; exact .refl _
  · have h1' := eq_false h1
    have qe := @h1'; repeat' first | (show Run _ (.cond _ _ _) _ _; refine run_condX (fun hc => ?_) (fun hc => ?_) <;> (try simp only [qH, rng_0] at hc) <;> try contradiction) | (first | refine Stp.h ?_ | (show ∀ K : St → List Ft → Prop, _; intro K hK) | (show runS _ _ _ _ _; first | refine qY (hq := ?_) | refine qZ (hq := ?_)) | (refine hK _ _ ?_; clear hK K) | (refine hK _ _ rfl ?_; clear hK K) | (refine qZ (hq := ?_); try exact trivial) | omega)
    rw [befM, if_neg h1]; exact .refl _
theorem ins_stop {x : Mov} {out : List Mov} {q : Nat} {y : Mov} (hy : out[q]? = some y) (hb : befM x y = false) : insAt befM x out (q + 1) = q + 1 := by
  simp only [insAt, hy]; rw [if_neg (by simp [hb])]
theorem ins_go {x : Mov} {out : List Mov} {q : Nat} {y : Mov} (hy : out[q]? = some y) (hb : befM x y = true) : insAt befM x out (q + 1) = insAt befM x out q := by
  simp only [insAt, hy]; rw [if_pos hb]
theorem ins_pv {l : List Mov} {k q : Nat} {x : Mov} (hx : l[k]? = some x) (h : q = insAt befM x (mgK l k) k) : ((mgK l k).map Mov.pv).take q ++ x.pv :: ((mgK l k).map Mov.pv).drop q = (mgK l (k + 1)).map Mov.pv := by
  have hk : k ≤ l.length := Nat.le_of_lt (List.getElem?_eq_some_iff.1 hx).1
  rw [mgK_next hx, insM, mgK_len hk, ← h]; simp
theorem mgT {l : List Mov} {k q : Nat} (hk : k ≤ l.length) (hq : q ≤ k) : (((mgK l k).map Mov.pv).take q).length = q ∧ (((mgK l k).map Mov.pv).drop q).length = k - q ∧ ((((mgK l k).map Mov.pv).take q).all (fun x => x.cells.all PV.one) = true) = True ∧ ((((mgK l k).map Mov.pv).drop q).all (fun x => x.cells.all PV.one) = true) = True := by
  have h := mgK_len hk
  have ha : ((mgK l k).map Mov.pv).all (fun x => x.cells.all PV.one) = true := by rw [List.all_map]; exact allMv _
  exact ⟨by simp; omega, by simp; omega, eq_true (allTk ha), eq_true (allDr ha)⟩
theorem pure69 (a b : List Mov) (hn : a.length + b.length ≤ 1000000) : Pure Tryz.prog 69 [.sl 7 (a.map Mov.pv), .sl 7 (b.map Mov.pv)] (.sl 7 ((mergeM befM a b).map Mov.pv)) := by
  refine pure_by fact69 (by simp) fun hw X hX => ?_
  unfold ac69 rs69
  have hl : (a ++ b).length = a.length + b.length := List.length_append
  have hA := fun l => eq_true (allMv l)
  have qe := And.intro qR @hA; repeat' first | (show Run _ (.cond _ _ _) _ _; refine run_condX (fun hc => ?_) (fun hc => ?_) <;> (try simp only [qH, rng_0] at hc) <;> try contradiction) | (first | refine Stp.h ?_ | (show ∀ K : St → List Ft → Prop, _; intro K hK) | (show runS _ _ _ _ _; first | refine qY (hq := ?_) | refine qZ (hq := ?_)) | (refine hK _ _ ?_; clear hK K) | (refine hK _ _ rfl ?_; clear hK K) | (refine qZ (hq := ?_); try exact trivial) | omega)
  refine run_loopP (κ := Nat) (fun k => ⟨[(5, .p (.sl 7 ((a ++ b).map Mov.pv))), (6, .p (.sl 7 ((mgK (a ++ b) k).map Mov.pv))), (7, .p (.i .i64 k))], [], [], false⟩) (fun k => k ≤ (a ++ b).length) (fun k => (a ++ b).length - k) 0 ?_ ?_ ?_
  · refine .x 5 (.sl 7 ((a ++ b).map Mov.pv)) ?_ (hw := weakE (by simp))
    refine .x 6 (.sl 7 []) ?_
    exact .cov (by simp only [qS, Nat.reduceAdd, Nat.reduceMul, Nat.reduceEqDiff, Nat.reduceLeDiff, reduceIte, reduceCtorEq, Nat.reduceBEq, Nat.reduceLT] <;> simp [mgK])
  · simp
  · intro k hk
    have hkl := mgK_len hk
    by_cases hlt : k < (a ++ b).length
    · obtain ⟨x, hx⟩ := some_at (i := k) (l := a ++ b) (by omega)
      have qe := And.intro qR (And.intro @hA (And.intro @hx (And.intro @hkl @hl))); repeat' first | (show Run _ (.cond _ _ _) _ _; refine run_condX (fun hc => ?_) (fun hc => ?_) <;> (try simp only [qH, rng_0] at hc) <;> try contradiction) | (first | refine Stp.h ?_ | (show ∀ K : St → List Ft → Prop, _; intro K hK) | (show runS _ _ _ _ _; first | refine qY (hq := ?_) | refine qZ (hq := ?_)) | (refine hK _ _ ?_; clear hK K) | (refine hK _ _ rfl ?_; clear hK K) | (refine qZ (hq := ?_); try exact trivial) | omega)
      refine run_loop (κ := Nat) (fun q => ⟨[(5, .p (.sl 7 ((a ++ b).map Mov.pv))), (6, .p (.sl 7 ((mgK (a ++ b) k).map Mov.pv))), (7, .p (.i .i64 k)), (8, .p (.i .i64 q))], [], [], false⟩) (fun q => q ≤ k ∧ insAt befM x (mgK (a ++ b) k) q = insAt befM x (mgK (a ++ b) k) k) (fun q => q) k ?_ ?_ ?_
      · simp only [qS, Nat.reduceAdd, Nat.reduceMul, Nat.reduceEqDiff, Nat.reduceLeDiff, reduceIte, reduceCtorEq, Nat.reduceBEq, Nat.reduceLT] <;> simp
      · simp
      · intro q hq
        cases q with
        | zero =>
          obtain ⟨hT1, hT2, hT3, hT4⟩ := mgT (l := a ++ b) (k := k) (q := 0) (by omega) (by omega)
          have i0 : (0 < ((0 : Nat) : Int)) = False := eq_false (by omega)
          have qe := And.intro qR (And.intro @hA (And.intro @hx (And.intro @i0 (And.intro @hT1 (And.intro @hT2 (And.intro @hT3 (And.intro @hT4 (And.intro @hkl (And.intro @hl (And.intro @lpN (And.intro @lpE @lpR))))))))))); repeat' first | (show Run _ (.cond _ _ _) _ _; refine run_condX (fun hc => ?_) (fun hc => ?_) <;> (try simp only [qH, rng_0] at hc) <;> try contradiction) | (show RunOps _ _ _ _ (⟨_, .call _, _, _, _⟩ :: _) _ _; refine run_callGX (hf := fun hc => (by first | exact (absurd hc (by decide) : Pure Tryz.prog 121 _ (.b false)) | (simp only [qH, rng_0] at hc; exact (absurd hc (by decide) : Pure Tryz.prog 121 _ (.b false))))) (hn := ?_)) | (first | refine Stp.h ?_ | (show ∀ K : St → List Ft → Prop, _; intro K hK) | (show runS _ _ _ _ _; first | refine qY (hq := ?_) | refine qZ (hq := ?_)) | (refine hK _ _ ?_; clear hK K) | (refine hK _ _ rfl ?_; clear hK K) | (refine qZ (hq := ?_); try exact trivial) | omega)
          refine ⟨k + 1, by omega, by dsimp only; omega, .x 6 (.sl 7 ((mgK (a ++ b) (k + 1)).map Mov.pv)) ?_ (hw := weakE (by rw [← ins_pv hx (show 0 = _ from hq.2)]; simp))⟩
          exact .cov (by simp only [qS, Nat.reduceAdd, Nat.reduceMul, Nat.reduceEqDiff, Nat.reduceLeDiff, reduceIte, reduceCtorEq, Nat.reduceBEq, Nat.reduceLT] <;> simp)
        | succ q =>
          obtain ⟨y, hy⟩ := some_at (i := q) (l := mgK (a ++ b) k) (by omega)
          have i0 : (0 < ((q + 1 : Nat) : Int)) = True := eq_true (by omega)
          have i1 : ((q + 1 : Nat) : Int) - 1 = (q : Int) := by omega
          obtain ⟨hT1, hT2, hT3, hT4⟩ := mgT (l := a ++ b) (k := k) (q := q + 1) (by omega) (by omega)
          cases hb : befM x y with
          | true =>
            have h0 := ins_go hy hb
            have qe := And.intro qR (And.intro @hA (And.intro @hx (And.intro @hy (And.intro @hb (And.intro @i0 (And.intro @i1 (And.intro @hT1 (And.intro @hT2 (And.intro @hT3 (And.intro @hT4 (And.intro @hkl (And.intro @hl (And.intro @lpN (And.intro @lpE @lpR)))))))))))))); repeat' first | (show Run _ (.cond _ _ _) _ _; refine run_condX (fun hc => ?_) (fun hc => ?_) <;> (try simp only [qH, rng_0] at hc) <;> try contradiction) | (show RunOps _ _ _ _ (⟨_, .call 121, _, _, _⟩ :: _) _ _; refine run_callGX (hf := fun hc => (by first | exact pure121 x y | (simp only [qH, rng_0] at hc; exact pure121 x y))) (hn := ?_)) | (first | refine Stp.h ?_ | (show ∀ K : St → List Ft → Prop, _; intro K hK) | (show runS _ _ _ _ _; first | refine qY (hq := ?_) | refine qZ (hq := ?_)) | (refine hK _ _ ?_; clear hK K) | (refine hK _ _ rfl ?_; clear hK K) | (refine qZ (hq := ?_); try exact trivial) | omega)
            exact ⟨q, ⟨by omega, by rw [← h0]; exact hq.2⟩, by omega, rfl⟩
          | false =>
            have h0 := ins_stop hy hb
            have qe := And.intro qR (And.intro @hA (And.intro @hx (And.intro @hy (And.intro @hb (And.intro @i0 (And.intro @i1 (And.intro @hT1 (And.intro @hT2 (And.intro @hT3 (And.intro @hT4 (And.intro @hkl (And.intro @hl (And.intro @lpN (And.intro @lpE @lpR)))))))))))))); repeat' first | (show Run _ (.cond _ _ _) _ _; refine run_condX (fun hc => ?_) (fun hc => ?_) <;> (try simp only [qH, rng_0] at hc) <;> try contradiction) | (show RunOps _ _ _ _ (⟨_, .call 121, _, _, _⟩ :: _) _ _; refine run_callGX (hf := fun hc => (by first | exact pure121 x y | (simp only [qH, rng_0] at hc; exact pure121 x y))) (hn := ?_)) | (first | refine Stp.h ?_ | (show ∀ K : St → List Ft → Prop, _; intro K hK) | (show runS _ _ _ _ _; first | refine qY (hq := ?_) | refine qZ (hq := ?_)) | (refine hK _ _ ?_; clear hK K) | (refine hK _ _ rfl ?_; clear hK K) | (refine qZ (hq := ?_); try exact trivial) | omega)
            refine ⟨k + 1, by omega, by dsimp only; omega, .x 6 (.sl 7 ((mgK (a ++ b) (k + 1)).map Mov.pv)) ?_ (hw := weakE (by rw [← ins_pv hx (h0.symm.trans hq.2)]; simp))⟩
            exact .cov (by simp only [qS, Nat.reduceAdd, Nat.reduceMul, Nat.reduceEqDiff, Nat.reduceLeDiff, reduceIte, reduceCtorEq, Nat.reduceBEq, Nat.reduceLT] <;> simp)
    · have qe := And.intro qR (And.intro @hA (And.intro @hkl (And.intro @hl (And.intro @lpN (And.intro @lpE @lpR))))); repeat' first | (show Run _ (.cond _ _ _) _ _; refine run_condX (fun hc => ?_) (fun hc => ?_) <;> (try simp only [qH, rng_0] at hc) <;> try contradiction) | (first | refine Stp.h ?_ | (show ∀ K : St → List Ft → Prop, _; intro K hK) | (show runS _ _ _ _ _; first | refine qY (hq := ?_) | refine qZ (hq := ?_)) | (refine hK _ _ ?_; clear hK K) | (refine hK _ _ rfl ?_; clear hK K) | (refine qZ (hq := ?_); try exact trivial) | omega)
      have e : k = (a ++ b).length := by omega
      have e2 : mgK (a ++ b) (a ++ b).length = mergeM befM a b := by rw [mgK, List.take_length]; rfl
      subst e; rw [e2]; exact .refl _
theorem pure61 (m : List Mov) (o : Mov) (k : Nat) (hn : m.length + k ≤ 1000000) : Pure Tryz.prog 61 [.sl 7 (m.map Mov.pv), o.pv, .i .i64 k] (.sl 7 ((mergeM befM m (List.replicate k o)).map Mov.pv)) := by
  refine pure_by fact61 (by simp) fun hw X hX => ?_
  unfold ac61 rs61
  have qe := @qR; repeat' first | (show Run _ (.cond _ _ _) _ _; refine run_condX (fun hc => ?_) (fun hc => ?_) <;> (try simp only [qH, rng_0] at hc) <;> try contradiction) | (first | refine Stp.h ?_ | (show ∀ K : St → List Ft → Prop, _; intro K hK) | (show runS _ _ _ _ _; first | refine qY (hq := ?_) | refine qZ (hq := ?_)) | (refine hK _ _ ?_; clear hK K) | (refine hK _ _ rfl ?_; clear hK K) | (refine qZ (hq := ?_); try exact trivial) | omega)
  refine run_own 100 74 7 [(0, .p (.sl 7 (m.map Mov.pv))), (4, .lp 4 0), (7, .row 100 0), (8, .p (.i .i64 k)), (9, .p (.i .i64 0))] [(4, .box (o.cells.map .p) false)] ?_ ?_
  · simp only [Own, ownEnv, ownObj, nilTo, nilTos, qS, Nat.reduceAdd, Nat.reduceMul, Nat.reduceEqDiff, Nat.reduceLeDiff, reduceIte, reduceCtorEq, Nat.reduceBEq, Nat.reduceLT]
  refine run_loop (κ := Nat) (fun j => ⟨[(0, .p (.sl 7 (m.map Mov.pv))), (4, .lp 4 0), (7, .row 100 j), (8, .p (.i .i64 k)), (9, .p (.i .i64 j))], [(4, .box (o.cells.map .p) false), (100, .row 74 7 ((List.replicate j o).map Mov.pv) false)], [], false⟩) (fun j => j ≤ k) (fun j => k - j) 0 ?_ ?_ ?_
  · simp only [qS, Nat.reduceAdd, Nat.reduceMul, Nat.reduceEqDiff, Nat.reduceLeDiff, reduceIte, reduceCtorEq, Nat.reduceBEq, Nat.reduceLT] <;> simp
  · simp
  · intro j hj
    by_cases hlt : j < k
    · have qe := And.intro qR @List.length_replicate.{0}; repeat' first | (show Run _ (.cond _ _ _) _ _; refine run_condX (fun hc => ?_) (fun hc => ?_) <;> (try simp only [qH, rng_0] at hc) <;> try contradiction) | (first | refine Stp.h ?_ | (show ∀ K : St → List Ft → Prop, _; intro K hK) | (show runS _ _ _ _ _; first | refine qY (hq := ?_) | refine qZ (hq := ?_)) | (refine hK _ _ ?_; clear hK K) | (refine hK _ _ rfl ?_; clear hK K) | (refine qZ (hq := ?_); try exact trivial) | omega)
      exact ⟨j + 1, by omega, by omega, ⟨rfl, by simp⟩, by simp [List.replicate_succ']⟩
    · have e : j = k := by omega
      have qe := And.intro qR @List.length_replicate.{0}; repeat' first | (show Run _ (.cond _ _ _) _ _; refine run_condX (fun hc => ?_) (fun hc => ?_) <;> (try simp only [qH, rng_0] at hc) <;> try contradiction) | (show RunOps _ _ _ _ (⟨_, .call 69, _, _, _⟩ :: _) _ _; refine run_callBX (hf := pure69 m (List.replicate j o) (by rw [List.length_replicate]; omega)) (hn := ?_)) | (first | refine Stp.h ?_ | (show ∀ K : St → List Ft → Prop, _; intro K hK) | (show runS _ _ _ _ _; first | refine qY (hq := ?_) | refine qZ (hq := ?_)) | (refine hK _ _ ?_; clear hK K) | (refine hK _ _ rfl ?_; clear hK K) | (refine qZ (hq := ?_); try exact trivial) | omega)
      subst e; exact .refl _
end Go.Proofs.YtcfbdeghmckelaaGreat
namespace Go.Proofs.YtcfbdeghmckelaaGreat
open Go.RowKit
set_option maxRecDepth 100000
set_option linter.unusedVariables false
set_option linter.unusedSimpArgs false
set_option maxHeartbeats 2000000
def withM (m : List Mov) (o : Mov) (k : Nat) : List Mov := mergeM befM m (List.replicate k o)
theorem bef1 {a b : Mov} (h : befM a b = true) : a.moment ≤ b.moment := by
  unfold befM at h; split at h
  · omega
  · simp only [decide_eq_true_eq] at h; omega
theorem bef0 {a b : Mov} (h : befM a b = false) : b.moment ≤ a.moment := by
  unfold befM at h; split at h
  · omega
  · simp only [decide_eq_false_iff_not] at h; omega
theorem merge_ok {a b : List Mov} (ha : ∀ x ∈ a, chkMov x = 0) (hb : ∀ x ∈ b, chkMov x = 0) (hn : a.length + b.length ≤ 30000) : chkMovs (mergeM befM a b) = 0 ∧ (mergeM befM a b).length = a.length + b.length := by
  have hp := merge_perm befM a b
  have hlen : (mergeM befM a b).length = a.length + b.length := by rw [hp.length_eq, List.length_append]
  refine ⟨chkMovs_of (by omega) (fun x hx => ?_) (merge_sorted (fun _ _ h => bef1 h) (fun _ _ h => bef0 h) a b), hlen⟩
  rcases List.mem_append.1 (hp.mem_iff.1 hx) with h | h
  · exact ha x h
  · exact hb x h
theorem with_ok {m : List Mov} {o : Mov} (hm : chkMovs m = 0) (hn : m.length ≤ 10) (ho : chkMov o = 0) {k : Nat} (hk : k ≤ 10) : chkMovs (withM m o k) = 0 ∧ (withM m o k).length = m.length + k := by
  have := merge_ok (a := m) (b := List.replicate k o) (chkMovs_0 hm).2.1 (fun x hx => by rw [List.eq_of_mem_replicate hx]; exact ho) (by rw [List.length_replicate]; omega)
  rw [List.length_replicate] at this
  exact this
theorem with_cnt {l : Lim} (h : 0 ≤ l.len) (m : List Mov) (o : Mov) (k : Nat) (b : Int) : cntAll l (withM m o k) b = cntAll l m b + if inW l b o then (k : Int) else 0 := by
  rw [withM, cnt_perm h (merge_perm befM m _), cnt_app h, cnt_rep h]
theorem with_adds {ls : List Lim} (hl : ∀ l ∈ ls, chkLim l = 0) (m : List Mov) (o : Mov) (k : Nat) : Adds ls m (withM m o k) o k := fun l h b => with_cnt (by have := chkLim_0 (hl l h); omega) m o k b
theorem with_one {ls : List Lim} (hl : ∀ l ∈ ls, chkLim l = 0) (m : List Mov) (o : Mov) (k : Nat) : Adds ls (withM m o k) (withM m o (k + 1)) o 1 := fun l h b => by
  have h0 : 0 ≤ l.len := by have := chkLim_0 (hl l h); omega
  rw [with_cnt h0, with_cnt h0]
  split
  · rw [Int.natCast_succ]; omega
  · omega
theorem room_pos {ls : List Lim} {m : List Mov} {o : Mov} : 0 ≤ roomL ls m o ∧ roomL ls m o ≤ 999999999 := by
  obtain ⟨⟨a1, a2⟩, a3⟩ := roomK_char ls (arW ls m o) 999999999
  have e1 : roomL ls m o = (arW ls m o).foldl (roomStep ls) 999999999 := rfl
  rw [← e1] at a1 a2 a3
  rcases a3 with a3 | ⟨w, _, a3⟩ <;> omega
theorem same_at {a b : List Win} (h : a.map (fun w => (w.lim, w.beg)) = b.map (fun w => (w.lim, w.beg))) {i : Nat} {x : Win} (hx : a[i]? = some x) : ∃ y, b[i]? = some y ∧ x.lim = y.lim ∧ x.beg = y.beg := by
  have h1 := congrArg (fun l => l[i]?) h
  simp only [List.getElem?_map, hx, Option.map_some] at h1
  cases hb : b[i]? with
  | none => rw [hb] at h1; cases h1
  | some y =>
    rw [hb] at h1
    simp only [Option.map_some, Option.some.injEq, Prod.mk.injEq] at h1
    exact ⟨y, rfl, h1⟩
theorem exc_mem {ls : List Lim} {m : List Mov} (h2 : chkMovs m = 0) {w : Win} (hw : w ∈ excW ls m) : -30000 ≤ w.cnt ∧ w.cnt ≤ 30000 := by
  obtain ⟨i, _, hw⟩ := List.mem_flatMap.1 hw
  unfold excI at hw
  split at hw
  · rename_i l _
    obtain ⟨b, _, hw⟩ := List.mem_flatMap.1 hw
    unfold excB at hw
    split at hw
    · rw [List.mem_singleton.1 hw]; exact cnt_bound h2 b
    · cases hw
  · cases hw
theorem full_mem {ls : List Lim} {m : List Mov} {o : Mov} (h2 : chkMovs m = 0) {w : Win} (hw : w ∈ fullL ls m o) : -30000 ≤ w.cnt ∧ w.cnt ≤ 30000 := by
  obtain ⟨i, l, _, _, h, _⟩ := arW_at (List.mem_filter.1 hw).1
  rw [h]; exact cnt_bound h2 _
end Go.Proofs.YtcfbdeghmckelaaGreat
namespace Go.Proofs.YtcfbdeghmckelaaGreat
open Go.RowKit
set_option maxRecDepth 100000
set_option linter.unusedVariables false
set_option linter.unusedSimpArgs false
set_option maxHeartbeats 4000000
def ac62 : AC := .seq (.ops false [⟨some 5,.box,[.t 2],none,[]⟩,⟨some 6,.mv,[.c .nilsl],none,[]⟩,⟨some 7,.mv,[.c .nilsl],none,[1]⟩,⟨some 8,.alloc [(.s (bs [])),(.s (bs [])),(.s (bs [])),(.s (bs [])),(.s (bs [])),(.s (bs [])),(.i .i64 0),(.i .i64 0),(.i .i64 0),(.i .i64 0),(.i .i64 0),(.i .i64 0),(.i .i64 0)],[],none,[]⟩]) (.seq (.ops false [⟨some 9,.mv,[.c .nilsl],none,[]⟩]) (.seq (.seq (.ops false [⟨some 15,.mv,[.t 0],none,[]⟩,⟨some 16,.len false,[.t 15],none,[0]⟩,⟨some 17,.mv,[.c (.i .i64 0)],none,[]⟩]) (.block 0 (.loop (.seq (.ops false [⟨some 18,.bin .lss,[.t 17,.t 16],none,[]⟩]) (.seq (.cond (.t 18) .skip (.exit 0)) (.seq (.block 1 (.seq (.ops false [⟨some 19,.iadrS 11,[.t 15,.t 17],none,[]⟩,⟨some 20,.load 11 true,[.t 19],none,[0]⟩,⟨some 11,.alloc [(.s (bs [])),(.s (bs [])),(.s (bs [])),(.i .i64 0),(.i .i64 0),(.i .i64 0),(.i .i64 0),(.i .i64 0),(.i .i64 0),(.i .i64 0),(.i .i64 0)],[],none,[]⟩,⟨none,.store 11,[.t 11,.t 20],none,[2,1,0,1,2]⟩]) (.seq (.ops false [⟨some 21,.fadr 7,[.t 11],none,[]⟩,⟨some 22,.fadr 0,[.t 21],none,[0]⟩,⟨some 23,.load 1 false,[.t 22],none,[1]⟩,⟨some 24,.bin .add,[.t 23,.c (.i .i64 7)],none,[2]⟩,⟨some 25,.fadr 7,[.t 11],none,[]⟩,⟨some 26,.fadr 1,[.t 25],none,[4]⟩,⟨some 27,.load 1 false,[.t 26],none,[5]⟩,⟨some 28,.bin .add,[.t 27,.c (.i .i64 7)],none,[6]⟩,⟨some 29,.fadr 7,[.t 11],none,[0,1,2,3,4,5,6]⟩,⟨some 30,.fadr 0,[.t 29],none,[8,0,1,2,3,4,5,6]⟩,⟨none,.store 1,[.t 30,.t 24],none,[9,3,0,1,2,3,4,5,6]⟩,⟨some 31,.fadr 7,[.t 11],none,[0,1,2,3,4,5,6,7,8,9,10]⟩,⟨some 32,.fadr 1,[.t 31],none,[11,0,1,2,3,4,5,6,7,8,9,10]⟩,⟨none,.store 1,[.t 32,.t 28],none,[12,7,10,0,1,2,3,4,5,6,7,8,9,10]⟩]) (.ops false [⟨some 33,.mv,[.t 9],none,[]⟩,⟨some 34,.load 11 true,[.t 11],none,[]⟩,⟨some 35,.bslice 46 11 (.agg [(.s (bs [])),(.s (bs [])),(.s (bs [])),(.i .i64 0),(.i .i64 0),(.i .i64 0),(.i .i64 0),(.i .i64 0),(.i .i64 0),(.i .i64 0),(.i .i64 0)]) 1 [0],[.t 34],none,[1]⟩,⟨some 36,.app 46 11 112,[.t 33,.t 35],none,[0,2]⟩,⟨some 9,.mv,[.t 36],none,[3,3,0,1,2,3]⟩])))) (.ops false [⟨some 37,.bin .add,[.t 17,.c (.i .i64 1)],none,[]⟩,⟨some 17,.mv,[.t 37],none,[0]⟩]))))))) (.seq (.ops false [⟨some 12,.mv,[.c .nilsl],none,[]⟩]) (.seq (.seq (.ops false [⟨some 38,.mv,[.t 1],none,[]⟩,⟨some 39,.len false,[.t 38],none,[0]⟩,⟨some 40,.mv,[.c (.i .i64 0)],none,[]⟩]) (.block 2 (.loop (.seq (.ops false [⟨some 41,.bin .lss,[.t 40,.t 39],none,[]⟩]) (.seq (.cond (.t 41) .skip (.exit 2)) (.seq (.block 3 (.seq (.ops false [⟨some 42,.iadrS 7,[.t 38,.t 40],none,[]⟩,⟨some 43,.load 7 true,[.t 42],none,[0]⟩,⟨some 14,.alloc [(.i .i64 0),(.s (bs [])),(.s (bs [])),(.i .i64 0),(.i .i64 0),(.i .i64 0),(.s (bs []))],[],none,[]⟩,⟨none,.store 7,[.t 14,.t 43],none,[2,1,0,1,2]⟩]) (.seq (.ops false [⟨some 44,.fadr 0,[.t 14],none,[]⟩,⟨some 45,.load 1 false,[.t 44],none,[0]⟩,⟨some 46,.bin .add,[.t 45,.c (.i .i64 10080)],none,[1]⟩,⟨some 47,.fadr 0,[.t 14],none,[0,1,2]⟩,⟨none,.store 1,[.t 47,.t 46],none,[3,2,0,1,2]⟩]) (.ops false [⟨some 48,.mv,[.t 12],none,[]⟩,⟨some 49,.load 7 true,[.t 14],none,[]⟩,⟨some 50,.bslice 74 7 (.agg [(.i .i64 0),(.s (bs [])),(.s (bs [])),(.i .i64 0),(.i .i64 0),(.i .i64 0),(.s (bs []))]) 1 [0],[.t 49],none,[1]⟩,⟨some 51,.app 74 7 80,[.t 48,.t 50],none,[0,2]⟩,⟨some 12,.mv,[.t 51],none,[3,3,0,1,2,3]⟩])))) (.ops false [⟨some 52,.bin .add,[.t 40,.c (.i .i64 1)],none,[]⟩,⟨some 40,.mv,[.t 52],none,[0]⟩]))))))) (.seq (.ops false [⟨some 53,.fadr 6,[.t 5],none,[]⟩,⟨some 54,.fadr 0,[.t 53],none,[0]⟩,⟨some 55,.load 1 false,[.t 54],none,[1]⟩,⟨some 56,.bin .add,[.t 55,.c (.i .i64 7)],none,[2]⟩,⟨some 57,.fadr 6,[.t 5],none,[]⟩,⟨some 58,.fadr 1,[.t 57],none,[4]⟩,⟨some 59,.load 1 false,[.t 58],none,[5]⟩,⟨some 60,.bin .add,[.t 59,.c (.i .i64 7)],none,[6]⟩,⟨some 61,.fadr 6,[.t 5],none,[0,1,2,3,4,5,6]⟩,⟨some 62,.fadr 0,[.t 61],none,[8,0,1,2,3,4,5,6]⟩,⟨none,.store 1,[.t 62,.t 56],none,[9,3,0,1,2,3,4,5,6]⟩,⟨some 63,.fadr 6,[.t 5],none,[0,1,2,3,4,5,6,7,8,9,10]⟩,⟨some 64,.fadr 1,[.t 63],none,[11,0,1,2,3,4,5,6,7,8,9,10]⟩,⟨none,.store 1,[.t 64,.t 60],none,[12,7,10,0,1,2,3,4,5,6,7,8,9,10]⟩]) (.seq (.ops true [⟨some 65,.mv,[.t 9],none,[]⟩,⟨some 66,.mv,[.t 12],none,[]⟩,⟨some 67,.load 13 true,[.t 5],none,[]⟩,⟨some 6,.mv,[.t 65],none,[0,0]⟩,⟨some 7,.mv,[.t 66],none,[1,3,0,1,3]⟩,⟨none,.store 13,[.t 8,.t 67],none,[2,4,0,1,2,3,4]⟩]) .ret))))))
def rs62 : List RV := [.tmp 6,.tmp 7,.cell 8 13 true]
theorem fact62 : compF Tryz.prog 62 = some (ac62,rs62,68) := by kernel_rfl
def ac63 : AC := .seq (.ops false [⟨some 3,.box,[.t 1],none,[]⟩,⟨some 4,.mv,[.c .nilsl],none,[]⟩,⟨some 5,.mv,[.c (.i .i64 0)],none,[1]⟩]) (.seq (.seq (.ops true [⟨some 9,.mv,[.t 0],none,[]⟩,⟨some 10,.call 22,[.t 9],none,[0]⟩,⟨some 11,.load 11 true,[.t 3],none,[]⟩,⟨some 12,.call 84,[.t 11],none,[2,1]⟩,⟨some 13,.bslice 34 1 (.i .i64 0) 2 [0,1],[.t 10,.t 12],none,[1,3]⟩,⟨some 14,.call 83,[.t 13],none,[4,3]⟩,⟨some 6,.mv,[.t 14],none,[5,5,0,1,2,3,4,5]⟩]) (.seq (.ops false [⟨some 15,.mv,[.t 6],none,[]⟩,⟨some 16,.bin .neq,[.t 15,.c (.i .i64 0)],none,[0]⟩]) (.cond (.t 16) (.seq (.ops false [⟨some 17,.mv,[.t 6],none,[]⟩,⟨some 4,.mv,[.c .nilsl],none,[]⟩,⟨some 5,.mv,[.t 17],none,[0,1,0,1]⟩]) .ret) .skip))) (.seq (.ops false [⟨some 18,.mv,[.t 0],none,[]⟩,⟨some 19,.len false,[.t 18],none,[0]⟩,⟨some 20,.mkslice 46 11 112 (.agg [(.s (bs [])),(.s (bs [])),(.s (bs [])),(.i .i64 0),(.i .i64 0),(.i .i64 0),(.i .i64 0),(.i .i64 0),(.i .i64 0),(.i .i64 0),(.i .i64 0)]),[.t 19,.t 19],none,[1,1]⟩,⟨some 7,.mv,[.t 20],none,[2,0,1,2]⟩]) (.seq (.ops false [⟨some 21,.mv,[.t 7],none,[]⟩,⟨some 22,.mv,[.t 0],none,[]⟩,⟨some 23,.copy 11,[.t 21,.t 22],none,[0,1]⟩]) (.seq (.ops false [⟨some 24,.mv,[.t 0],none,[]⟩,⟨some 25,.fadr 0,[.t 3],none,[]⟩,⟨some 26,.load 1 false,[.t 25],none,[1]⟩,⟨some 27,.call 86,[.t 24,.t 26],none,[0,2]⟩,⟨some 8,.mv,[.t 27],none,[3,3,0,1,2,3]⟩]) (.seq (.block 0 (.seq (.ops false [⟨some 33,.mv,[.t 8],none,[]⟩,⟨some 34,.bin .geq,[.t 33,.c (.i .i64 0)],none,[0]⟩,⟨some 32,.mv,[.t 34],none,[1]⟩]) (.cond (.t 32) (.ops false [⟨some 35,.mv,[.t 7],none,[]⟩,⟨some 36,.mv,[.t 8],none,[]⟩,⟨some 37,.load 11 true,[.t 3],none,[]⟩,⟨some 38,.iadrS 11,[.t 35,.t 36],none,[0,1,0,1,2]⟩,⟨none,.store 11,[.t 38,.t 37],none,[3,2,0,1,2]⟩]) (.seq (.ops false [⟨some 40,.mv,[.t 0],none,[]⟩,⟨some 41,.len false,[.t 40],none,[0]⟩,⟨some 42,.bin .eql,[.t 41,.c (.i .i64 32)],none,[1]⟩,⟨some 39,.mv,[.t 42],none,[2]⟩]) (.cond (.t 39) (.seq (.ops false [⟨some 4,.mv,[.c .nilsl],none,[]⟩,⟨some 5,.mv,[.c (.i .i64 5)],none,[0,0]⟩]) .ret) (.ops false [⟨some 28,.mv,[.t 7],none,[]⟩,⟨some 29,.load 11 true,[.t 3],none,[]⟩,⟨some 30,.bslice 46 11 (.agg [(.s (bs [])),(.s (bs [])),(.s (bs [])),(.i .i64 0),(.i .i64 0),(.i .i64 0),(.i .i64 0),(.i .i64 0),(.i .i64 0),(.i .i64 0),(.i .i64 0)]) 1 [0],[.t 29],none,[1]⟩,⟨some 31,.app 46 11 112,[.t 28,.t 30],none,[0,2]⟩,⟨some 7,.mv,[.t 31],none,[3,3,0,1,2,3]⟩])))))) (.seq (.ops false [⟨some 43,.mv,[.t 7],none,[]⟩,⟨some 4,.mv,[.t 43],none,[0,0]⟩,⟨some 5,.mv,[.c (.i .i64 0)],none,[1,0,1]⟩]) .ret))))))
def rs63 : List RV := [.tmp 4,.tmp 5]
theorem fact63 : compF Tryz.prog 63 = some (ac63,rs63,44) := by kernel_rfl
def ac64 : AC := .seq (.ops false [⟨some 3,.box,[.t 1],none,[]⟩,⟨some 4,.mv,[.c .nilsl],none,[]⟩,⟨some 5,.mv,[.c (.i .i64 0)],none,[1]⟩]) (.seq (.seq (.ops true [⟨some 7,.mv,[.t 0],none,[]⟩,⟨some 8,.call 22,[.t 7],none,[0]⟩,⟨some 9,.load 1 false,[.t 3],none,[]⟩,⟨some 10,.call 109,[.t 9],none,[2,1]⟩,⟨some 11,.not,[.t 10],none,[3]⟩,⟨some 12,.call 85,[.t 11,.c (.i .i64 8)],none,[4,3]⟩,⟨some 13,.mv,[.t 0],none,[]⟩,⟨some 14,.load 1 false,[.t 3],none,[]⟩,⟨some 15,.call 86,[.t 13,.t 14],none,[6,7,5]⟩,⟨some 16,.bin .lss,[.t 15,.c (.i .i64 0)],none,[8]⟩,⟨some 17,.call 85,[.t 16,.c (.i .i64 10)],none,[9,8]⟩,⟨some 18,.bslice 34 1 (.i .i64 0) 3 [0,1,2],[.t 8,.t 12,.t 17],none,[1,5,10]⟩,⟨some 19,.call 83,[.t 18],none,[11,10]⟩,⟨some 6,.mv,[.t 19],none,[12,12,0,1,2,3,4,5,6,7,8,9,10,11,12]⟩]) (.seq (.ops false [⟨some 20,.mv,[.t 6],none,[]⟩,⟨some 21,.bin .neq,[.t 20,.c (.i .i64 0)],none,[0]⟩]) (.cond (.t 21) (.seq (.ops false [⟨some 22,.mv,[.t 6],none,[]⟩,⟨some 4,.mv,[.c .nilsl],none,[]⟩,⟨some 5,.mv,[.t 22],none,[0,1,0,1]⟩]) .ret) .skip))) (.seq (.ops false [⟨some 23,.mv,[.t 0],none,[]⟩,⟨some 24,.mkfn (.func 111) 0,[.t 3],none,[]⟩,⟨some 25,.call 110,[.t 23,.t 24],none,[0,1]⟩,⟨some 4,.mv,[.t 25],none,[2,2,0,1,2]⟩,⟨some 5,.mv,[.c (.i .i64 0)],none,[3,0,1,2,3]⟩]) .ret))
def rs64 : List RV := [.tmp 4,.tmp 5]
theorem fact64 : compF Tryz.prog 64 = some (ac64,rs64,26) := by kernel_rfl
def ac110 : AC := .seq (.ops false [⟨some 4,.mv,[.c .nilsl],none,[]⟩]) (.seq (.ops false [⟨some 5,.mv,[.c .nilsl],none,[]⟩]) (.seq (.seq (.ops false [⟨some 8,.mv,[.t 0],none,[]⟩,⟨some 9,.len false,[.t 8],none,[0]⟩,⟨some 10,.mv,[.c (.i .i64 0)],none,[]⟩]) (.block 0 (.loop (.seq (.ops false [⟨some 11,.bin .lss,[.t 10,.t 9],none,[]⟩]) (.seq (.cond (.t 11) .skip (.exit 0)) (.seq (.block 1 (.seq (.ops false [⟨some 12,.iadrS 11,[.t 8,.t 10],none,[]⟩,⟨some 13,.load 11 true,[.t 12],none,[0]⟩,⟨some 7,.alloc [(.s (bs [])),(.s (bs [])),(.s (bs [])),(.i .i64 0),(.i .i64 0),(.i .i64 0),(.i .i64 0),(.i .i64 0),(.i .i64 0),(.i .i64 0),(.i .i64 0)],[],none,[]⟩,⟨none,.store 11,[.t 7,.t 13],none,[2,1,0,1,2]⟩]) (.seq (.ops false [⟨some 14,.mv,[.t 1],none,[]⟩,⟨some 15,.load 11 true,[.t 7],none,[]⟩,⟨some 16,.callv,[.t 14,.t 15],none,[0,1]⟩]) (.cond (.t 16) (.ops false [⟨some 17,.mv,[.t 5],none,[]⟩,⟨some 18,.load 11 true,[.t 7],none,[]⟩,⟨some 19,.bslice 46 11 (.agg [(.s (bs [])),(.s (bs [])),(.s (bs [])),(.i .i64 0),(.i .i64 0),(.i .i64 0),(.i .i64 0),(.i .i64 0),(.i .i64 0),(.i .i64 0),(.i .i64 0)]) 1 [0],[.t 18],none,[1]⟩,⟨some 20,.app 46 11 112,[.t 17,.t 19],none,[0,2]⟩,⟨some 5,.mv,[.t 20],none,[3,3,0,1,2,3]⟩]) .skip)))) (.ops false [⟨some 21,.bin .add,[.t 10,.c (.i .i64 1)],none,[]⟩,⟨some 10,.mv,[.t 21],none,[0]⟩]))))))) (.seq (.ops false [⟨some 22,.mv,[.t 5],none,[]⟩,⟨some 4,.mv,[.t 22],none,[0,0]⟩]) .ret)))
def rs110 : List RV := [.tmp 4]
theorem fact110 : compF Tryz.prog 110 = some (ac110,rs110,23) := by kernel_rfl
def ac111 : AC := .seq (.ops false [⟨some 2,.box,[.t 0],none,[]⟩,⟨some 3,.mv,[.c (.b false)],none,[]⟩]) (.seq (.ops false [⟨some 4,.fadr 0,[.t 2],none,[]⟩,⟨some 5,.load 1 false,[.t 4],none,[0]⟩,⟨some 6,.load 1 false,[.t 1],none,[]⟩,⟨some 7,.bin .neq,[.t 5,.t 6],none,[1,2]⟩,⟨some 3,.mv,[.t 7],none,[3,0,1,2,3]⟩]) .ret)
def rs111 : List RV := [.tmp 3]
theorem fact111 : compF Tryz.prog 111 = some (ac111,rs111,8) := by kernel_rfl
def perL (p : Per) : Per := ⟨p.fro + 7, p.to + 7, p.days⟩
def Lim.later (l : Lim) : Lim := ⟨l.name, l.kind, l.term, l.len, l.step, l.fro, l.to, perL l.per, l.most⟩
def Mov.later (m : Mov) : Mov := ⟨m.moment + 10080, m.kind, m.term, m.seats, m.size, m.noise, m.name⟩
def Req.later (r : Req) : Req := ⟨r.name, r.carrier, r.kind, r.term, r.partner, r.link, perL r.per, r.minute, r.seats, r.size, r.noise⟩
theorem chkMov_0 {m : Mov} (h : chkMov m = 0) : 0 ≤ m.moment ∧ m.moment ≤ 143999999 := by
  unfold chkMov at h
  simp only [firstE_cons, rng_0] at h
  omega
theorem pure62 (l : List Lim) (m : List Mov) (r : Req) (hl : chkLims l = 0) (hm : chkMovs m = 0) (hr : chkReq r = 0) : Pure Tryz.prog 62 [.sl 11 (l.map Lim.pv), .sl 7 (m.map Mov.pv), r.pv] (.tup [.sl 11 ((l.map Lim.later).map Lim.pv), .sl 7 ((m.map Mov.later).map Mov.pv), r.later.pv]) := by
  have hl1 := chkLims_0 hl
  have hm1 := chkMovs_0 hm
  have hp := chkPer_0 (chkReq_0 hr).1
  refine pure_by fact62 (by simp) fun hw X hX => ?_
  unfold ac62 rs62
  have qe := @qR; repeat' first | (show Run _ (.cond _ _ _) _ _; refine run_condX (fun hc => ?_) (fun hc => ?_) <;> (try simp only [qH, rng_0] at hc) <;> try contradiction) | (first | refine Stp.h ?_ | (show ∀ K : St → List Ft → Prop, _; intro K hK) | (show runS _ _ _ _ _; first | refine qY (hq := ?_) | refine qZ (hq := ?_)) | (refine hK _ _ ?_; clear hK K) | (refine hK _ _ rfl ?_; clear hK K) | (refine qZ (hq := ?_); try exact trivial) | omega)
  refine run_own 100 46 11 [(1, .p (.sl 7 (m.map Mov.pv))), (5, .lp 5 0), (8, .lp 8 0), (9, .row 100 0), (15, .p (.sl 11 (l.map Lim.pv))), (16, .p (.i .i64 l.length)), (17, .p (.i .i64 0))] [(5, .box (r.cells.map .p) false), (8, .box [.p (.s (bs [])), .p (.s (bs [])), .p (.s (bs [])), .p (.s (bs [])), .p (.s (bs [])), .p (.s (bs [])), .p (.i .i64 0), .p (.i .i64 0), .p (.i .i64 0), .p (.i .i64 0), .p (.i .i64 0), .p (.i .i64 0), .p (.i .i64 0)] false)] ?_ ?_
  · simp only [Own, ownEnv, ownObj, nilTo, nilTos, qS, Nat.reduceAdd, Nat.reduceMul, Nat.reduceEqDiff, Nat.reduceLeDiff, reduceIte, reduceCtorEq, Nat.reduceBEq, Nat.reduceLT]
  refine run_loop (κ := Nat) (fun k => ⟨[(1, .p (.sl 7 (m.map Mov.pv))), (5, .lp 5 0), (8, .lp 8 0), (9, .row 100 ((l.take k).map Lim.later).length), (15, .p (.sl 11 (l.map Lim.pv))), (16, .p (.i .i64 l.length)), (17, .p (.i .i64 k))], [(5, .box (r.cells.map .p) false), (8, .box [.p (.s (bs [])), .p (.s (bs [])), .p (.s (bs [])), .p (.s (bs [])), .p (.s (bs [])), .p (.s (bs [])), .p (.i .i64 0), .p (.i .i64 0), .p (.i .i64 0), .p (.i .i64 0), .p (.i .i64 0), .p (.i .i64 0), .p (.i .i64 0)] false), (100, .row 46 11 (((l.take k).map Lim.later).map Lim.pv) false)], [], false⟩) (fun k => k ≤ l.length) (fun k => l.length - k) 0 ?_ ?_ ?_
  · simp only [qS, Nat.reduceAdd, Nat.reduceMul, Nat.reduceEqDiff, Nat.reduceLeDiff, reduceIte, reduceCtorEq, Nat.reduceBEq, Nat.reduceLT] <;> simp
  · simp
  · intro k hk
    by_cases hlt : k < l.length
    · obtain ⟨x, hx⟩ := some_at (i := k) (l := l) hlt
      have hx1 := chkPer_0 (chkLim_0 (hl1.2 x (List.mem_of_getElem? hx))).2.2.2.2.2.2.2.1
      have hn := take_snoc Lim.later hx
      have htk := take_len hx
      have qe := And.intro qR (And.intro @hx @htk); repeat' first | (show Run _ (.cond _ _ _) _ _; refine run_condX (fun hc => ?_) (fun hc => ?_) <;> (try simp only [qH, rng_0] at hc) <;> try contradiction) | (first | refine Stp.h ?_ | (show ∀ K : St → List Ft → Prop, _; intro K hK) | (show runS _ _ _ _ _; first | refine qY (hq := ?_) | refine qZ (hq := ?_)) | (refine hK _ _ ?_; clear hK K) | (refine hK _ _ rfl ?_; clear hK K) | (refine qZ (hq := ?_); try exact trivial) | omega)
      exact ⟨k + 1, by omega, by omega, ⟨by rw [List.length_take, Nat.min_eq_left (by omega)], by simp⟩, by rw [hn]; simp [Lim.later, perL]⟩
    · have e : k = l.length := by omega
      have qe := @qR; repeat' first | (show Run _ (.cond _ _ _) _ _; refine run_condX (fun hc => ?_) (fun hc => ?_) <;> (try simp only [qH, rng_0] at hc) <;> try contradiction) | (first | refine Stp.h ?_ | (show ∀ K : St → List Ft → Prop, _; intro K hK) | (show runS _ _ _ _ _; first | refine qY (hq := ?_) | refine qZ (hq := ?_)) | (refine hK _ _ ?_; clear hK K) | (refine hK _ _ rfl ?_; clear hK K) | (refine qZ (hq := ?_); try exact trivial) | omega)
      refine run_own 101 74 7 [(5, .lp 5 0), (8, .lp 8 0), (9, .row 100 ((l.take k).map Lim.later).length), (12, .row 101 0), (38, .p (.sl 7 (m.map Mov.pv))), (39, .p (.i .i64 m.length)), (40, .p (.i .i64 0))] [(5, .box (r.cells.map .p) false), (8, .box [.p (.s (bs [])), .p (.s (bs [])), .p (.s (bs [])), .p (.s (bs [])), .p (.s (bs [])), .p (.s (bs [])), .p (.i .i64 0), .p (.i .i64 0), .p (.i .i64 0), .p (.i .i64 0), .p (.i .i64 0), .p (.i .i64 0), .p (.i .i64 0)] false), (100, .row 46 11 (((l.take k).map Lim.later).map Lim.pv) false)] ?_ ?_
      · simp only [Own, ownEnv, ownObj, nilTo, nilTos, qS, Nat.reduceAdd, Nat.reduceMul, Nat.reduceEqDiff, Nat.reduceLeDiff, reduceIte, reduceCtorEq, Nat.reduceBEq, Nat.reduceLT]
      refine run_loop (κ := Nat) (fun j => ⟨[(5, .lp 5 0), (8, .lp 8 0), (9, .row 100 ((l.take k).map Lim.later).length), (12, .row 101 ((m.take j).map Mov.later).length), (38, .p (.sl 7 (m.map Mov.pv))), (39, .p (.i .i64 m.length)), (40, .p (.i .i64 j))], [(5, .box (r.cells.map .p) false), (8, .box [.p (.s (bs [])), .p (.s (bs [])), .p (.s (bs [])), .p (.s (bs [])), .p (.s (bs [])), .p (.s (bs [])), .p (.i .i64 0), .p (.i .i64 0), .p (.i .i64 0), .p (.i .i64 0), .p (.i .i64 0), .p (.i .i64 0), .p (.i .i64 0)] false), (100, .row 46 11 (((l.take k).map Lim.later).map Lim.pv) false), (101, .row 74 7 (((m.take j).map Mov.later).map Mov.pv) false)], [], false⟩) (fun j => j ≤ m.length) (fun j => m.length - j) 0 ?_ ?_ ?_
      · simp only [qS, Nat.reduceAdd, Nat.reduceMul, Nat.reduceEqDiff, Nat.reduceLeDiff, reduceIte, reduceCtorEq, Nat.reduceBEq, Nat.reduceLT] <;> simp
      · simp
      · intro j hj
        by_cases hjt : j < m.length
        · obtain ⟨y, hy⟩ := some_at (i := j) (l := m) hjt
          have hy1 := chkMov_0 (hm1.2.1 y (List.mem_of_getElem? hy))
          have hn := take_snoc Mov.later hy
          have htk := take_len hy
          have qe := And.intro qR (And.intro @hy @htk); repeat' first | (show Run _ (.cond _ _ _) _ _; refine run_condX (fun hc => ?_) (fun hc => ?_) <;> (try simp only [qH, rng_0] at hc) <;> try contradiction) | (first | refine Stp.h ?_ | (show ∀ K : St → List Ft → Prop, _; intro K hK) | (show runS _ _ _ _ _; first | refine qY (hq := ?_) | refine qZ (hq := ?_)) | (refine hK _ _ ?_; clear hK K) | (refine hK _ _ rfl ?_; clear hK K) | (refine qZ (hq := ?_); try exact trivial) | omega)
          exact ⟨j + 1, by omega, by omega, ⟨by rw [List.length_take, Nat.min_eq_left (by omega)], by simp⟩, by rw [hn]; simp [Mov.later]⟩
        · have e2 : j = m.length := by omega
          have qe := @qR; repeat' first | (show Run _ (.cond _ _ _) _ _; refine run_condX (fun hc => ?_) (fun hc => ?_) <;> (try simp only [qH, rng_0] at hc) <;> try contradiction) | (first | refine Stp.h ?_ | (show ∀ K : St → List Ft → Prop, _; intro K hK) | (show runS _ _ _ _ _; first | refine qY (hq := ?_) | refine qZ (hq := ?_)) | (refine hK _ _ ?_; clear hK K) | (refine hK _ _ rfl ?_; clear hK K) | (refine qZ (hq := ?_); try exact trivial) | omega)
          subst e e2; rw [List.take_length, List.take_length]; exact .refl _
theorem pure111 (l : Lim) (n : ByteArray) : Pure Tryz.prog 111 [l.pv, .ip (.s n) 0] (.b (!decide (l.name = n))) := by
  refine pure_by fact111 (by simp) fun hw X hX => ?_
  unfold ac111 rs111
  repeat' first | (show Run _ (.cond _ _ _) _ _; refine run_condX (fun hc => ?_) (fun hc => ?_) <;> (try simp only [qH, rng_0] at hc) <;> try contradiction) | (first | refine Stp.h ?_ | (show ∀ K : St → List Ft → Prop, _; intro K hK) | (show runS _ _ _ _ _; first | refine qY (hq := ?_) | refine qZ (hq := ?_)) | (refine hK _ _ ?_; clear hK K) | (refine hK _ _ rfl ?_; clear hK K) | (refine qZ (hq := ?_); try exact trivial) | omega)
  exact .refl _
theorem pure110 {f : Nat} {caps : List PV} {L : List Lim} {p : Lim → Bool} (hf : ∀ w ∈ L, Pure Tryz.prog f (w.pv :: caps) (.b (p w))) (hn : L.length ≤ 1000000) : Pure Tryz.prog 110 [.sl 11 (L.map Lim.pv), .fn (.func f) [] caps] (.sl 11 ((L.filter p).map Lim.pv)) := by
  refine pure_by fact110 (by simp) fun hw X hX => ?_
  unfold ac110 rs110
  repeat' first | (show Run _ (.cond _ _ _) _ _; refine run_condX (fun hc => ?_) (fun hc => ?_) <;> (try simp only [qH, rng_0] at hc) <;> try contradiction) | (first | refine Stp.h ?_ | (show ∀ K : St → List Ft → Prop, _; intro K hK) | (show runS _ _ _ _ _; first | refine qY (hq := ?_) | refine qZ (hq := ?_)) | (refine hK _ _ ?_; clear hK K) | (refine hK _ _ rfl ?_; clear hK K) | (refine qZ (hq := ?_); try exact trivial) | omega)
  refine run_own 100 46 11 [(1, .p (.fn (.func f) [] caps)), (5, .row 100 0), (8, .p (.sl 11 (L.map Lim.pv))), (9, .p (.i .i64 L.length)), (10, .p (.i .i64 0))] [] ?_ ?_
  · simp only [Own, ownEnv, ownObj, nilTo, nilTos, qS, Nat.reduceAdd, Nat.reduceMul, Nat.reduceEqDiff, Nat.reduceLeDiff, reduceIte, reduceCtorEq, Nat.reduceBEq, Nat.reduceLT]
  refine run_loop (κ := Nat) (fun k => ⟨[(1, .p (.fn (.func f) [] caps)), (5, .row 100 ((L.take k).filter p).length), (8, .p (.sl 11 (L.map Lim.pv))), (9, .p (.i .i64 L.length)), (10, .p (.i .i64 k))], [(100, .row 46 11 (((L.take k).filter p).map Lim.pv) false)], [], false⟩) (fun k => k ≤ L.length) (fun k => L.length - k) 0 ?_ ?_ ?_
  · simp only [qS, Nat.reduceAdd, Nat.reduceMul, Nat.reduceEqDiff, Nat.reduceLeDiff, reduceIte, reduceCtorEq, Nat.reduceBEq, Nat.reduceLT] <;> simp
  · simp
  · intro k hk
    repeat (first | refine Stp.h ?_ | (show ∀ K : St → List Ft → Prop, _; intro K hK) | (show runS _ _ _ _ _; first | refine qY (hq := ?_) | refine qZ (hq := ?_)) | (refine hK _ _ ?_; clear hK K) | (refine hK _ _ rfl ?_; clear hK K) | (refine qZ (hq := ?_); try exact trivial) | omega)
    (show Run _ (.cond _ _ _) _ _; refine run_condX (fun hc => ?_) (fun hc => ?_) <;> (try simp only [qH, rng_0] at hc) <;> try contradiction)
    · obtain ⟨w, hx⟩ := some_at (i := k) (l := L) (by omega)
      have hnx := filter_take (p := p) hx
      have hfl := filter_tlen (p := p) (l := L) (k := k)
      have qe := And.intro qR @hx; repeat' first | (show Run _ (.cond _ _ _) _ _; refine run_condX (fun hc => ?_) (fun hc => ?_) <;> (try simp only [qH, rng_0] at hc) <;> try contradiction) | (show RunOps _ _ _ _ (⟨_, .callv, _, _, _⟩ :: _) _ _; refine run_callVX (hf := hf w (List.mem_of_getElem? hx)) (hn := ?_)) | (first | refine Stp.h ?_ | (show ∀ K : St → List Ft → Prop, _; intro K hK) | (show runS _ _ _ _ _; first | refine qY (hq := ?_) | refine qZ (hq := ?_)) | (refine hK _ _ ?_; clear hK K) | (refine hK _ _ rfl ?_; clear hK K) | (refine qZ (hq := ?_); try exact trivial) | omega)
      · rw [hc, if_pos rfl] at hnx
        exact ⟨k + 1, by omega, by omega, ⟨by rw [hnx]; simp, by simp⟩, by rw [hnx]; simp⟩
      · rw [hc] at hnx
        exact ⟨k + 1, by omega, by omega, ⟨by rw [hnx]; simp, by simp⟩, by rw [hnx]; simp⟩
    · repeat' first | (show Run _ (.cond _ _ _) _ _; refine run_condX (fun hc => ?_) (fun hc => ?_) <;> (try simp only [qH, rng_0] at hc) <;> try contradiction) | (first | refine Stp.h ?_ | (show ∀ K : St → List Ft → Prop, _; intro K hK) | (show runS _ _ _ _ _; first | refine qY (hq := ?_) | refine qZ (hq := ?_)) | (refine hK _ _ ?_; clear hK K) | (refine hK _ _ rfl ?_; clear hK K) | (refine qZ (hq := ?_); try exact trivial) | omega)
      have e : k = L.length := by omega
      subst e; rw [List.take_length]; exact .refl _
def woutE (l : List Lim) (n : ByteArray) : Int := firstE [chkLims l, nameE n, if atL n (l.map Lim.name) < 0 then 10 else 0]
def woutR (l : List Lim) (n : ByteArray) : List Lim := if woutE l n = 0 then l.filter (fun x => !decide (x.name = n)) else []
theorem pure64 (l : List Lim) (n : ByteArray) (hn : l.length ≤ 1000000) : Pure Tryz.prog 64 [.sl 11 (l.map Lim.pv), .s n] (.tup [.sl 11 ((woutR l n).map Lim.pv), .i .i64 (woutE l n)]) := by
  have he : (if (!isName n) = true then (8 : Int) else 0) = nameE n := by simp [nameE]
  have he2 : (if decide (atL n (l.map Lim.name) < 0) = true then (10 : Int) else 0) = (if atL n (l.map Lim.name) < 0 then 10 else 0) := by simp
  refine pure_by fact64 (by simp) fun hw X hX => ?_
  unfold ac64 rs64
  have qe := And.intro qR (And.intro @he @he2); repeat' first | (show Run _ (.cond _ _ _) _ _; refine run_condX (fun hc => ?_) (fun hc => ?_) <;> (try simp only [qH, rng_0] at hc) <;> try contradiction) | (show RunOps _ _ _ _ (⟨_, .call 22, _, _, _⟩ :: _) _ _; refine run_callX (hf := pure22 l) (hn := ?_)) | (show RunOps _ _ _ _ (⟨_, .call 109, _, _, _⟩ :: _) _ _; refine run_callX (hf := pure109 n) (hn := ?_)) | (show RunOps _ _ _ _ (⟨_, .call 85, _, _, _⟩ :: _) _ _; refine run_callX (hf := pure85 _ _) (hn := ?_)) | (show RunOps _ _ _ _ (⟨_, .call 86, _, _, _⟩ :: _) _ _; refine run_callX (hf := pure86 l n) (hn := ?_)) | (show RunOps _ _ _ _ (⟨_, .call 83, _, _, _⟩ :: _) _ _; refine run_callX (hf := pure83 [_, _, _]) (hn := ?_)) | (show RunOps _ _ _ _ (⟨_, .call 110, _, _, _⟩ :: _) _ _; refine run_callBX (hf := pure110 (fun w _ => pure111 w n) hn) (hn := ?_)) | (first | refine Stp.h ?_ | (show ∀ K : St → List Ft → Prop, _; intro K hK) | (show runS _ _ _ _ _; first | refine qY (hq := ?_) | refine qZ (hq := ?_)) | (refine hK _ _ ?_; clear hK K) | (refine hK _ _ rfl ?_; clear hK K) | (refine qZ (hq := ?_); try exact trivial) | omega)
  · have e : firstE [chkLims l, if isName n = false then 8 else 0, if atL n (l.map Lim.name) < 0 then 10 else 0] = woutE l n := rfl
    rw [e] at hc ⊢
    rw [woutR, if_neg hc]; exact weak2 (.nilsl _) (.refl _)
  · have e : firstE [chkLims l, if isName n = false then 8 else 0, if atL n (l.map Lim.name) < 0 then 10 else 0] = woutE l n := rfl
    rw [e] at hc
    rw [woutR, if_pos hc, hc]; exact .refl _
def putE (l : List Lim) (x : Lim) : Int := if firstE [chkLims l, chkLim x] = 0 then (if 0 ≤ atL x.name (l.map Lim.name) then 0 else if (l.length : Int) = 32 then 5 else 0) else firstE [chkLims l, chkLim x]
def putL (l : List Lim) (x : Lim) : List Lim := if 0 ≤ atL x.name (l.map Lim.name) then l.set (atL x.name (l.map Lim.name)).toNat x else l ++ [x]
def putR (l : List Lim) (x : Lim) : List Lim := if putE l x = 0 then putL l x else []
theorem atL_lt (n : ByteArray) : ∀ l : List ByteArray, atL n l < l.length
  | [] => by simp [atL]
  | x :: r => by have := atL_lt n r; simp only [atL, List.length_cons]; (repeat' split) <;> omega
theorem allLm (l : List Lim) : l.all ((fun x => x.cells.all PV.one) ∘ Lim.pv) = true := by rw [List.all_eq_true]; intro x _; rfl
theorem pure63 (l : List Lim) (x : Lim) : Pure Tryz.prog 63 [.sl 11 (l.map Lim.pv), x.pv] (.tup [.sl 11 ((putR l x).map Lim.pv), .i .i64 (putE l x)]) := by
  refine pure_by fact63 (by simp) fun hw X hX => ?_
  unfold ac63 rs63
  have hat := atL_lt x.name (l.map Lim.name)
  rw [List.length_map] at hat
  have hA := eq_true (allLm l)
  by_cases h0 : firstE [chkLims l, chkLim x] = 0
  · have h0' := eq_true h0
    have hl := chkLims_0 (firstE_cons.1 h0).1
    have hc1 : ((l.map Lim.pv).take l.length) = l.map Lim.pv := by rw [List.take_of_length_le (by simp)]
    by_cases h1 : 0 ≤ atL x.name (l.map Lim.name)
    · have h1' := eq_true h1
      obtain ⟨y, hy⟩ := some_at (i := (atL x.name (l.map Lim.name)).toNat) (l := l) (by omega)
      have qe := And.intro qR (And.intro @hA (And.intro @h0' (And.intro @h1' (And.intro @hc1 (And.intro @hy (And.intro @List.length_replicate.{0} (And.intro @List.drop_replicate.{0} (And.intro @Nat.sub_self @List.replicate_zero.{0})))))))); repeat' first | (show Run _ (.cond _ _ _) _ _; refine run_condX (fun hc => ?_) (fun hc => ?_) <;> (try simp only [qH, rng_0] at hc) <;> try contradiction) | (show RunOps _ _ _ _ (⟨_, .call 22, _, _, _⟩ :: _) _ _; refine run_callX (hf := pure22 l) (hn := ?_)) | (show RunOps _ _ _ _ (⟨_, .call 84, _, _, _⟩ :: _) _ _; refine run_callX (hf := pure84 x) (hn := ?_)) | (show RunOps _ _ _ _ (⟨_, .call 83, _, _, _⟩ :: _) _ _; refine run_callX (hf := pure83 [_, _]) (hn := ?_)) | (show RunOps _ _ _ _ (⟨_, .call 86, _, _, _⟩ :: _) _ _; refine run_callX (hf := pure86 l x.name) (hn := ?_)) | (first | refine Stp.h ?_ | (show ∀ K : St → List Ft → Prop, _; intro K hK) | (show runS _ _ _ _ _; first | refine qY (hq := ?_) | refine qZ (hq := ?_)) | (refine hK _ _ ?_; clear hK K) | (refine hK _ _ rfl ?_; clear hK K) | (refine qZ (hq := ?_); try exact trivial) | omega)
      have hE : putE l x = 0 := by rw [putE, if_pos h0, if_pos h1]
      rw [putR, if_pos hE, hE, putL, if_pos h1, List.map_set]; exact .refl _
    · have h1' := eq_false h1
      by_cases h2 : (l.length : Int) = 32
      · have h2' := eq_true h2
        have qe := And.intro qR (And.intro @hA (And.intro @h0' (And.intro @h1' (And.intro @h2' (And.intro @hc1 (And.intro @List.length_replicate.{0} (And.intro @List.drop_replicate.{0} (And.intro @Nat.sub_self @List.replicate_zero.{0})))))))); repeat' first | (show Run _ (.cond _ _ _) _ _; refine run_condX (fun hc => ?_) (fun hc => ?_) <;> (try simp only [qH, rng_0] at hc) <;> try contradiction) | (show RunOps _ _ _ _ (⟨_, .call 22, _, _, _⟩ :: _) _ _; refine run_callX (hf := pure22 l) (hn := ?_)) | (show RunOps _ _ _ _ (⟨_, .call 84, _, _, _⟩ :: _) _ _; refine run_callX (hf := pure84 x) (hn := ?_)) | (show RunOps _ _ _ _ (⟨_, .call 83, _, _, _⟩ :: _) _ _; refine run_callX (hf := pure83 [_, _]) (hn := ?_)) | (show RunOps _ _ _ _ (⟨_, .call 86, _, _, _⟩ :: _) _ _; refine run_callX (hf := pure86 l x.name) (hn := ?_)) | (first | refine Stp.h ?_ | (show ∀ K : St → List Ft → Prop, _; intro K hK) | (show runS _ _ _ _ _; first | refine qY (hq := ?_) | refine qZ (hq := ?_)) | (refine hK _ _ ?_; clear hK K) | (refine hK _ _ rfl ?_; clear hK K) | (refine qZ (hq := ?_); try exact trivial) | omega)
        have hE : putE l x = 5 := by rw [putE, if_pos h0, if_neg h1, if_pos h2]
        rw [putR, hE, if_neg (by decide)]; exact weak2 (.nilsl _) (.refl _)
      · have h2' := eq_false h2
        have qe := And.intro qR (And.intro @hA (And.intro @h0' (And.intro @h1' (And.intro @h2' (And.intro @hc1 (And.intro @List.length_replicate.{0} (And.intro @List.drop_replicate.{0} (And.intro @Nat.sub_self @List.replicate_zero.{0})))))))); repeat' first | (show Run _ (.cond _ _ _) _ _; refine run_condX (fun hc => ?_) (fun hc => ?_) <;> (try simp only [qH, rng_0] at hc) <;> try contradiction) | (show RunOps _ _ _ _ (⟨_, .call 22, _, _, _⟩ :: _) _ _; refine run_callX (hf := pure22 l) (hn := ?_)) | (show RunOps _ _ _ _ (⟨_, .call 84, _, _, _⟩ :: _) _ _; refine run_callX (hf := pure84 x) (hn := ?_)) | (show RunOps _ _ _ _ (⟨_, .call 83, _, _, _⟩ :: _) _ _; refine run_callX (hf := pure83 [_, _]) (hn := ?_)) | (show RunOps _ _ _ _ (⟨_, .call 86, _, _, _⟩ :: _) _ _; refine run_callX (hf := pure86 l x.name) (hn := ?_)) | (first | refine Stp.h ?_ | (show ∀ K : St → List Ft → Prop, _; intro K hK) | (show runS _ _ _ _ _; first | refine qY (hq := ?_) | refine qZ (hq := ?_)) | (refine hK _ _ ?_; clear hK K) | (refine hK _ _ rfl ?_; clear hK K) | (refine qZ (hq := ?_); try exact trivial) | omega)
        have hE : putE l x = 0 := by rw [putE, if_pos h0, if_neg h1, if_neg h2]
        rw [putR, if_pos hE, hE, putL, if_neg h1, List.map_append]; exact .refl _
  · have h0' := eq_false h0
    have qe := And.intro qR @h0'; repeat' first | (show Run _ (.cond _ _ _) _ _; refine run_condX (fun hc => ?_) (fun hc => ?_) <;> (try simp only [qH, rng_0] at hc) <;> try contradiction) | (show RunOps _ _ _ _ (⟨_, .call 22, _, _, _⟩ :: _) _ _; refine run_callX (hf := pure22 l) (hn := ?_)) | (show RunOps _ _ _ _ (⟨_, .call 84, _, _, _⟩ :: _) _ _; refine run_callX (hf := pure84 x) (hn := ?_)) | (show RunOps _ _ _ _ (⟨_, .call 83, _, _, _⟩ :: _) _ _; refine run_callX (hf := pure83 [_, _]) (hn := ?_)) | (show RunOps _ _ _ _ (⟨_, .call 86, _, _, _⟩ :: _) _ _; refine run_callX (hf := pure86 l x.name) (hn := ?_)) | (first | refine Stp.h ?_ | (show ∀ K : St → List Ft → Prop, _; intro K hK) | (show runS _ _ _ _ _; first | refine qY (hq := ?_) | refine qZ (hq := ?_)) | (refine hK _ _ ?_; clear hK K) | (refine hK _ _ rfl ?_; clear hK K) | (refine qZ (hq := ?_); try exact trivial) | omega)
    have hE : putE l x = firstE [chkLims l, chkLim x] := by rw [putE, if_neg h0]
    rw [putR, hE, if_neg h0]; exact weak2 (.nilsl _) (.refl _)
end Go.Proofs.YtcfbdeghmckelaaGreat
namespace Go.Proofs.YtcfbdeghmckelaaGreat
open Go.RowKit
set_option maxRecDepth 100000
set_option linter.unusedVariables false
set_option linter.unusedSimpArgs false
set_option maxHeartbeats 2000000
theorem firstE_mem : ∀ {l : List Int}, firstE l = 0 → ∀ x ∈ l, x = 0
  | [], _, x, hx => by cases hx
  | a :: r, h, x, hx => by
    obtain ⟨h1, h2⟩ := firstE_cons.1 h
    rcases List.mem_cons.1 hx with rfl | hx
    · exact h1
    · exact firstE_mem h2 x hx
theorem per_later {p : Per} (h : chkPer p = 0) (h9 : p.to ≤ 90000) : chkPer (perL p) = 0 := by
  have hp := chkPer_0 h
  unfold chkPer
  simp only [firstE_cons, rng_0, ite_eq0 (show (11 : Int) ≠ 0 by decide), ite_eq0 (show (4 : Int) ≠ 0 by decide), perL]
  refine ⟨by omega, by omega, by omega, by omega, by omega, rfl⟩
theorem lim_later {l : Lim} (h : chkLim l = 0) (h9 : l.per.to ≤ 90000) : chkLim l.later = 0 := by
  have hp := per_later (chkLim_0 h).2.2.2.2.2.2.2.1 h9
  unfold chkLim at h ⊢
  simp only [firstE_cons] at h ⊢
  exact ⟨h.1, h.2.1, h.2.2.1, h.2.2.2.1, h.2.2.2.2.1, h.2.2.2.2.2.1, h.2.2.2.2.2.2.1, h.2.2.2.2.2.2.2.1, hp, h.2.2.2.2.2.2.2.2.2⟩
theorem lims_later {ls : List Lim} (h : chkLims ls = 0) (h9 : ∀ l ∈ ls, l.per.to ≤ 90000) : chkLims (ls.map Lim.later) = 0 := by
  have h0 := chkLims_0 h
  rw [chkLims, if_neg (by omega)] at h
  rw [chkLims, if_neg (by rw [List.length_map]; omega)]
  refine firstE_all fun e he => ?_
  obtain ⟨i, hi⟩ := List.getElem?_of_mem he
  simp only [limErrs, List.getElem?_mapIdx, Option.map_eq_some_iff, List.getElem?_map] at hi
  obtain ⟨x, ⟨y, hy, rfl⟩, rfl⟩ := hi
  have hz := firstE_mem h (limErr ls i y) (List.mem_of_getElem? (i := i) (by simp only [limErrs, List.getElem?_mapIdx, hy, Option.map_some]))
  have hm := List.mem_of_getElem? hy
  have hn : ((ls.map Lim.later).take i).map Lim.name = (ls.take i).map Lim.name := by rw [← List.map_take, List.map_map]; rfl
  unfold limErr at hz ⊢
  rw [hn]
  exact firstE_cons.2 ⟨lim_later (h0.2 y hm) (h9 y hm), (firstE_cons.1 hz).2⟩
theorem movs_later {m : List Mov} (h : chkMovs m = 0) (h9 : ∀ x ∈ m, x.moment ≤ 129600000) : chkMovs (m.map Mov.later) = 0 := by
  have h0 := chkMovs_0 h
  refine chkMovs_of (by rw [List.length_map]; omega) (fun x hx => ?_) ?_
  · obtain ⟨y, hy, rfl⟩ := List.mem_map.1 hx
    have h1 := h0.2.1 y hy
    have h2 := h9 y hy
    unfold chkMov at h1 ⊢
    simp only [firstE_cons, rng_0] at h1 ⊢
    refine ⟨?_, h1.2.1, h1.2.2.1, h1.2.2.2.1, h1.2.2.2.2⟩
    simp only [Mov.later]; omega
  · have := h0.2.2
    rw [List.pairwise_map] at this
    show List.Pairwise _ _
    rw [List.pairwise_map]
    exact this.imp fun {a b} hab => by simp only [Mov.later]; omega
theorem req_later {r : Req} (h : chkReq r = 0) (h9 : r.per.to ≤ 90000) : chkReq r.later = 0 := by
  have hp := per_later (chkReq_0 h).1 h9
  unfold chkReq at h ⊢
  simp only [firstE_cons] at h ⊢
  exact ⟨h.1, h.2.1, h.2.2.1, hp, h.2.2.2.2⟩
theorem days_later (p : Per) : daysL (perL p) = (daysL p).map (· + 7) := by
  unfold daysL perL
  simp only
  rw [show p.to + 7 - (p.fro + 7) + 1 = p.to - p.fro + 1 by omega, List.map_flatMap]
  refine flat_congr fun k _ => ?_
  rw [show (p.fro + 7 + (k : Int) + 5) % 7 = (p.fro + k + 5) % 7 by omega]
  split
  · simp; omega
  · rfl
theorem begK_later (l : Lim) (d : Int) (k : Nat) : begK l.later (d + 7) k = (begK l d k).map (· + 10080) := by
  unfold begK
  rw [List.map_map]
  refine List.map_congr_left fun n _ => ?_
  simp only [begV, Lim.later, Lim.from_, Function.comp_apply]
  generalize l.step * _ = z
  omega
theorem begins_later {l : Lim} (h : chkLim l = 0) (h' : chkLim l.later = 0) (d : Int) : beginsL l.later (d + 7) = (beginsL l d).map (· + 10080) := by
  rw [beginsL_day h', beginsL_day h]
  have hd : d + 7 ∈ daysL l.later.per ↔ d ∈ daysL l.per := by
    show d + 7 ∈ daysL (perL l.per) ↔ _
    rw [days_later, List.mem_map]
    exact ⟨fun ⟨a, ha, e⟩ => by rw [show d = a by omega]; exact ha, fun h => ⟨d, h, rfl⟩⟩
  by_cases e : d ∈ daysL l.per
  · rw [if_pos (hd.2 e), if_pos e]; exact begK_later l d (begN l)
  · rw [if_neg (fun h => e (hd.1 h)), if_neg e]; rfl
theorem windows_later {l : Lim} (h : chkLim l = 0) (h' : chkLim l.later = 0) : windowsL l.later = (windowsL l).map (· + 10080) := by
  rw [windows_eq h', windows_eq h, show l.later.per = perL l.per from rfl, days_later, List.flatMap_map, List.map_flatMap]
  exact flat_congr fun d _ => begK_later l d (begN l)
theorem of_later (l : Lim) (m : List Mov) : ofL l.later (m.map Mov.later) = (ofL l m).map (· + 10080) := by
  unfold ofL
  rw [List.filter_map, List.map_map, List.map_map]
  rfl
theorem ltN_shift (L : List Int) (x c : Int) : ltN (L.map (· + c)) (x + c) = ltN L x := by
  unfold ltN
  rw [List.filter_map, List.length_map]
  congr 1
  refine List.filter_congr fun y _ => ?_
  simp only [Function.comp_apply, decide_eq_decide]
  omega
theorem cnt_later (l : Lim) (m : List Mov) (b : Int) : cntAll l.later (m.map Mov.later) (b + 10080) = cntAll l m b := by
  show cntW (ofL l.later (m.map Mov.later)) (b + 10080) l.later.len = cntW (ofL l m) b l.len
  rw [of_later]
  unfold cntW
  rw [show b + 10080 + l.later.len = b + l.len + 10080 by simp only [Lim.later]; omega, ltN_shift, ltN_shift]
def Win.later (w : Win) : Win := ⟨w.lim, w.beg + 10080, w.cnt⟩
theorem exc_later {ls : List Lim} {m : List Mov} (h : ∀ l ∈ ls, chkLim l = 0) (h' : ∀ l ∈ ls, chkLim l.later = 0) : excW (ls.map Lim.later) (m.map Mov.later) = (excW ls m).map Win.later := by
  unfold excW excK
  rw [List.length_map, List.map_flatMap]
  refine flat_congr fun i _ => ?_
  unfold excI
  rw [List.getElem?_map]
  cases hi : ls[i]? with
  | none => rfl
  | some l =>
    have hm := List.mem_of_getElem? hi
    simp only [Option.map_some]
    unfold excL
    rw [windows_later (h l hm) (h' l hm), List.flatMap_map, List.map_flatMap]
    refine flat_congr fun b _ => ?_
    unfold excB
    rw [cnt_later]
    show (if l.most < _ then _ else _) = _
    split <;> rfl
theorem ar_later {ls : List Lim} {m : List Mov} {o : Mov} (h : ∀ l ∈ ls, chkLim l = 0) (h' : ∀ l ∈ ls, chkLim l.later = 0) : arW (ls.map Lim.later) (m.map Mov.later) o.later = (arW ls m o).map Win.later := by
  unfold arW arK
  rw [List.length_map, List.map_flatMap]
  refine flat_congr fun i _ => ?_
  unfold arI
  rw [List.getElem?_map]
  cases hi : ls[i]? with
  | none => rfl
  | some l =>
    have hm := List.mem_of_getElem? hi
    simp only [Option.map_some]
    unfold arL
    show (if countsL l o.kind o.term = true then _ else _) = _
    split
    · rw [List.map_flatMap]
      refine flat_congr fun e _ => ?_
      unfold arX arD
      rw [show o.later.moment / 1440 - 1 + (e : Int) = o.moment / 1440 - 1 + e + 7 by simp only [Mov.later]; omega, begins_later (h l hm) (h' l hm), List.flatMap_map, List.map_flatMap]
      refine flat_congr fun b _ => ?_
      unfold arB
      rw [cnt_later]
      by_cases c : b ≤ o.moment ∧ o.moment < b + l.len
      · rw [if_pos c, if_pos (by simp only [Mov.later, Lim.later]; omega)]; rfl
      · rw [if_neg c, if_neg (by simp only [Mov.later, Lim.later]; omega)]; rfl
    · rfl
theorem room_later {ls : List Lim} {m : List Mov} {o : Mov} (h : ∀ l ∈ ls, chkLim l = 0) (h' : ∀ l ∈ ls, chkLim l.later = 0) : roomL (ls.map Lim.later) (m.map Mov.later) o.later = roomL ls m o := by
  unfold roomL roomK
  rw [ar_later h h', List.foldl_map]
  congr 1
  funext a w
  unfold roomStep
  rw [show mostAt (ls.map Lim.later) (Win.later w).lim = mostAt ls w.lim by
    unfold mostAt
    rw [List.getElem?_map]
    show (match (ls[w.lim.toNat]?).map Lim.later with | some l => l.most | none => 0) = _
    cases ls[w.lim.toNat]? <;> rfl]
  rfl
theorem fits_later {ls : List Lim} {m : List Mov} {r : Req} (h : ∀ l ∈ ls, chkLim l = 0) (h' : ∀ l ∈ ls, chkLim l.later = 0) (n : Int) : fitsB (ls.map Lim.later) (m.map Mov.later) (r.later.at n) = fitsB ls m (r.at n) := by
  unfold fitsB movsL
  rw [show (r.later.at n).per = perL (r.at n).per from rfl, days_later, List.map_map, List.all_map, List.all_map]
  congr 1
  funext d
  have e : movOf (r.later.at n) (d + 7) = (movOf (r.at n) d).later := by simp only [movOf, Mov.later, Req.later, Req.at, Mov.mk.injEq, and_self, and_true]; omega
  simp only [Function.comp_apply, e, room_later h h']
theorem fre_later {ls : List Lim} {m : List Mov} {r : Req} (h : ∀ l ∈ ls, chkLim l = 0) (h' : ∀ l ∈ ls, chkLim l.later = 0) (a b : Int) : freL (ls.map Lim.later) (m.map Mov.later) r.later a b = freL ls m r a b := by
  unfold freL
  congr 1
  funext n
  exact fits_later h h' n
theorem exc_beg {ls : List Lim} {m : List Mov} (h : ∀ l ∈ ls, chkLim l = 0) {w : Win} (hw : w ∈ excW ls m) : 0 ≤ w.beg ∧ w.beg ≤ 144000000 := by
  obtain ⟨i, _, hw⟩ := List.mem_flatMap.1 hw
  unfold excI at hw
  split at hw
  · rename_i l hl
    obtain ⟨b, hb, hw⟩ := List.mem_flatMap.1 hw
    have hc := h l (List.mem_of_getElem? hl)
    have h1 := win_at hc hb
    have h2 := beginsL_mem hc h1
    have h3 := chkPer_0 (chkLim_0 hc).2.2.2.2.2.2.2.1
    unfold excB at hw
    split at hw
    · rw [List.mem_singleton.1 hw]; simp only; omega
    · cases hw
  · cases hw
end Go.Proofs.YtcfbdeghmckelaaGreat
namespace Go.Proofs.YtcfbdeghmckelaaGreat
open Go.RowKit
set_option maxRecDepth 100000
set_option linter.unusedVariables false
set_option linter.unusedSimpArgs false
set_option maxHeartbeats 4000000
def smallB (l : List Lim) (m : List Mov) : Bool := ((((decide ((l.length : Int) ≤ 3) && decide ((m.length : Int) ≤ 10)) && shLims l 3) && shMovs m 10) && decide (chkLims l = 0)) && decide (chkMovs m = 0)
def ac60 : AC := .seq (.ops false [⟨some 4,.mv,[.c (.b false)],none,[]⟩]) (.seq (.ops false [⟨some 5,.mv,[.t 0],none,[]⟩,⟨some 6,.len false,[.t 5],none,[0]⟩,⟨some 7,.bin .leq,[.t 6,.c (.i .i64 3)],none,[1]⟩,⟨some 8,.mv,[.t 7],none,[2]⟩,⟨some 9,.mv,[.t 1],some (8,true),[3]⟩,⟨some 10,.len false,[.t 9],some (8,true),[4,3]⟩,⟨some 11,.bin .leq,[.t 10,.c (.i .i64 10)],some (8,true),[5,3]⟩,⟨some 12,.pick,[.t 8,.t 11,.c (.b false)],none,[3,6]⟩,⟨some 13,.mv,[.t 12],none,[7,3]⟩,⟨some 14,.mv,[.t 0],some (13,true),[8]⟩,⟨some 15,.call 15,[.t 14,.c (.i .i64 3)],some (13,true),[9,8,8]⟩,⟨some 16,.pick,[.t 13,.t 15,.c (.b false)],none,[8,10]⟩,⟨some 17,.mv,[.t 16],none,[11,10]⟩,⟨some 18,.mv,[.t 1],some (17,true),[12]⟩,⟨some 19,.call 16,[.t 18,.c (.i .i64 10)],some (17,true),[13,12,12]⟩,⟨some 20,.pick,[.t 17,.t 19,.c (.b false)],none,[12,14]⟩,⟨some 21,.mv,[.t 20],none,[15,14]⟩,⟨some 22,.mv,[.t 0],some (21,true),[16]⟩,⟨some 23,.call 23,[.t 22],some (21,true),[17,16,16]⟩,⟨some 24,.bin .eql,[.t 23,.c (.i .i64 0)],some (21,true),[18,16]⟩,⟨some 25,.pick,[.t 21,.t 24,.c (.b false)],none,[16,19]⟩,⟨some 26,.mv,[.t 25],none,[20,18]⟩,⟨some 27,.mv,[.t 1],some (26,true),[21]⟩,⟨some 28,.call 25,[.t 27],some (26,true),[22,21,21]⟩,⟨some 29,.bin .eql,[.t 28,.c (.i .i64 0)],some (26,true),[23,21]⟩,⟨some 30,.pick,[.t 26,.t 29,.c (.b false)],none,[21,24]⟩,⟨some 4,.mv,[.t 30],none,[25,23,0,1,2,3,4,5,6,7,8,9,10,11,12,13,14,15,16,17,18,19,20,21,22,23,24,25]⟩]) .ret)
def rs60 : List RV := [.tmp 4]
theorem fact60 : compF Tryz.prog 60 = some (ac60,rs60,31) := by kernel_rfl
theorem pure60 (l : List Lim) (m : List Mov) : Pure Tryz.prog 60 [.sl 11 (l.map Lim.pv), .sl 7 (m.map Mov.pv)] (.b (smallB l m)) := by
  refine pure_by fact60 (by simp) fun hw X hX => ?_
  unfold ac60 rs60
  have qe := @qR; repeat' first | (show Run _ (.cond _ _ _) _ _; refine run_condX (fun hc => ?_) (fun hc => ?_) <;> (try simp only [qH, rng_0] at hc) <;> try contradiction) | (show RunOps _ _ _ _ (⟨_, .call 15, _, _, _⟩ :: _) _ _; refine run_callGX (hf := fun hc => (by first | exact pure15 l 3 | (simp only [qH, rng_0] at hc; exact pure15 l 3))) (hn := ?_)) | (show RunOps _ _ _ _ (⟨_, .call 16, _, _, _⟩ :: _) _ _; refine run_callGX (hf := fun hc => (by first | exact pure16 m 10 | (simp only [qH, rng_0] at hc; exact pure16 m 10))) (hn := ?_)) | (show RunOps _ _ _ _ (⟨_, .call 23, _, _, _⟩ :: _) _ _; refine run_callGX (hf := fun hc => (by first | exact pure23 l | (simp only [qH, rng_0] at hc; exact pure23 l))) (hn := ?_)) | (show RunOps _ _ _ _ (⟨_, .call 25, _, _, _⟩ :: _) _ _; refine run_callGX (hf := fun hc => (by first | exact pure25 m | (simp only [qH, rng_0] at hc; exact pure25 m))) (hn := ?_)) | (first | refine Stp.h ?_ | (show ∀ K : St → List Ft → Prop, _; intro K hK) | (show runS _ _ _ _ _; first | refine qY (hq := ?_) | refine qZ (hq := ?_)) | (refine hK _ _ ?_; clear hK K) | (refine hK _ _ rfl ?_; clear hK K) | (refine qZ (hq := ?_); try exact trivial) | omega)
  exact .refl _
theorem small_0 {l : List Lim} {m : List Mov} (h : smallB l m = true) : l.length ≤ 3 ∧ m.length ≤ 10 ∧ shLims l 3 = true ∧ shMovs m 10 = true ∧ chkLims l = 0 ∧ chkMovs m = 0 := by
  simp only [smallB, Bool.and_eq_true, decide_eq_true_eq] at h
  obtain ⟨⟨⟨⟨⟨h1, h2⟩, h3⟩, h4⟩, h5⟩, h6⟩ := h
  exact ⟨by omega, by omega, h3, h4, h5, h6⟩
end Go.Proofs.YtcfbdeghmckelaaGreat
namespace Go.Proofs.YtcfbdeghmckelaaGreat
open Go.RowKit Go.ChangeShapes Go.WideShapes Go.ChangeAt
set_option maxRecDepth 100000
set_option linter.unusedVariables false
set_option linter.unusedSimpArgs false
set_option maxHeartbeats 4000000
def ac9 : AC := .seq (.ops false [⟨some 5,.box,[.t 2],none,[]⟩,⟨some 6,.mv,[.c (.b false)],none,[]⟩]) (.seq (.seq (.ops false [⟨some 23,.mv,[.t 0],none,[]⟩,⟨some 24,.call 14,[.t 23],none,[0]⟩,⟨some 25,.mv,[.t 1],none,[]⟩,⟨some 26,.call 60,[.t 24,.t 25],none,[1,2,1]⟩,⟨some 27,.not,[.t 26],none,[3]⟩,⟨some 28,.mv,[.t 27],none,[4,3]⟩,⟨some 29,.fadr 0,[.t 5],some (28,false),[5]⟩,⟨some 30,.load 13 true,[.t 29],some (28,false),[6,5]⟩,⟨some 31,.call 17,[.t 30],some (28,false),[7,5,5]⟩,⟨some 32,.not,[.t 31],some (28,false),[8,5]⟩,⟨some 33,.pick,[.t 28,.c (.b true),.t 32],none,[5,9]⟩,⟨some 34,.mv,[.t 33],none,[10,8]⟩,⟨some 35,.fadr 0,[.t 5],some (34,false),[11]⟩,⟨some 36,.load 13 true,[.t 35],some (34,false),[12,11]⟩,⟨some 37,.call 20,[.t 36],some (34,false),[13,11,11]⟩,⟨some 38,.bin .neq,[.t 37,.c (.i .i64 0)],some (34,false),[14,11]⟩,⟨some 39,.pick,[.t 34,.c (.b true),.t 38],none,[11,15]⟩,⟨some 40,.mv,[.t 39],none,[16,14]⟩,⟨some 41,.fadr 0,[.t 5],some (40,false),[17]⟩,⟨some 42,.fadr 6,[.t 41],some (40,false),[18,17]⟩,⟨some 43,.fadr 1,[.t 42],some (40,false),[19,17]⟩,⟨some 44,.load 1 false,[.t 43],some (40,false),[20,17]⟩,⟨some 45,.fadr 0,[.t 5],some (40,false),[17]⟩,⟨some 46,.fadr 6,[.t 45],some (40,false),[22,17]⟩,⟨some 47,.fadr 0,[.t 46],some (40,false),[23,17]⟩,⟨some 48,.load 1 false,[.t 47],some (40,false),[24,17]⟩,⟨some 49,.bin .sub,[.t 44,.t 48],some (40,false),[21,25,17]⟩,⟨some 50,.bin .geq,[.t 49,.c (.i .i64 8)],some (40,false),[26,17]⟩,⟨some 51,.pick,[.t 40,.c (.b true),.t 50],none,[17,27]⟩,⟨some 52,.mv,[.t 51],none,[28,17]⟩,⟨some 53,.fadr 0,[.t 5],some (52,false),[29]⟩,⟨some 54,.fadr 6,[.t 53],some (52,false),[30,29]⟩,⟨some 55,.fadr 1,[.t 54],some (52,false),[31,29]⟩,⟨some 56,.load 1 false,[.t 55],some (52,false),[32,29]⟩,⟨some 57,.bin .gtr,[.t 56,.c (.i .i64 90000)],some (52,false),[33,29]⟩,⟨some 58,.pick,[.t 52,.c (.b true),.t 57],none,[29,34]⟩,⟨some 59,.mv,[.t 58],none,[35,29]⟩,⟨some 60,.fadr 13,[.t 5],some (59,false),[36]⟩,⟨some 61,.load 1 false,[.t 60],some (59,false),[37,36]⟩,⟨some 62,.fadr 14,[.t 5],some (59,false),[36]⟩,⟨some 63,.load 1 false,[.t 62],some (59,false),[39,36]⟩,⟨some 64,.call 50,[.t 61,.t 63],some (59,false),[38,40,36,36]⟩,⟨some 65,.bin .neq,[.t 64,.c (.i .i64 0)],some (59,false),[41,36]⟩,⟨some 66,.pick,[.t 59,.c (.b true),.t 65],none,[36,42]⟩,⟨some 67,.mv,[.t 66],none,[43,41]⟩,⟨some 68,.fadr 14,[.t 5],some (67,false),[44]⟩,⟨some 69,.load 1 false,[.t 68],some (67,false),[45,44]⟩,⟨some 70,.fadr 13,[.t 5],some (67,false),[44]⟩,⟨some 71,.load 1 false,[.t 70],some (67,false),[47,44]⟩,⟨some 72,.bin .sub,[.t 69,.t 71],some (67,false),[46,48,44]⟩,⟨some 73,.bin .geq,[.t 72,.c (.i .i64 12)],some (67,false),[49,44]⟩,⟨some 74,.pick,[.t 67,.c (.b true),.t 73],none,[44,50]⟩]) (.cond (.t 74) (.seq (.ops false [⟨some 75,.call 18,[],none,[]⟩,⟨some 6,.mv,[.t 75],none,[0,0,0]⟩]) .ret) .skip)) (.seq (.seq (.ops false [⟨some 76,.mv,[.t 0],none,[]⟩,⟨some 77,.len false,[.t 76],none,[0]⟩,⟨some 78,.mv,[.c (.i .i64 0)],none,[]⟩]) (.block 0 (.loop (.seq (.ops false [⟨some 79,.bin .lss,[.t 78,.t 77],none,[]⟩]) (.seq (.cond (.t 79) .skip (.exit 0)) (.seq (.block 1 (.seq (.ops false [⟨some 80,.iadrS 11,[.t 76,.t 78],none,[]⟩,⟨some 81,.load 11 true,[.t 80],none,[0]⟩,⟨some 8,.alloc [(.s (bs [])),(.s (bs [])),(.s (bs [])),(.i .i64 0),(.i .i64 0),(.i .i64 0),(.i .i64 0),(.i .i64 0),(.i .i64 0),(.i .i64 0),(.i .i64 0)],[],none,[]⟩,⟨none,.store 11,[.t 8,.t 81],none,[2,1,0,1,2]⟩]) (.seq (.ops false [⟨some 82,.fadr 7,[.t 8],none,[]⟩,⟨some 83,.fadr 1,[.t 82],none,[0]⟩,⟨some 84,.load 1 false,[.t 83],none,[1]⟩,⟨some 85,.bin .gtr,[.t 84,.c (.i .i64 90000)],none,[2]⟩]) (.cond (.t 85) (.seq (.ops false [⟨some 86,.call 18,[],none,[]⟩,⟨some 6,.mv,[.t 86],none,[0,0,0]⟩]) .ret) .skip)))) (.ops false [⟨some 87,.bin .add,[.t 78,.c (.i .i64 1)],none,[]⟩,⟨some 78,.mv,[.t 87],none,[0]⟩]))))))) (.seq (.seq (.ops false [⟨some 88,.mv,[.t 1],none,[]⟩,⟨some 89,.len false,[.t 88],none,[0]⟩,⟨some 90,.mv,[.c (.i .i64 0)],none,[]⟩]) (.block 2 (.loop (.seq (.ops false [⟨some 91,.bin .lss,[.t 90,.t 89],none,[]⟩]) (.seq (.cond (.t 91) .skip (.exit 2)) (.seq (.block 3 (.seq (.ops false [⟨some 92,.iadrS 7,[.t 88,.t 90],none,[]⟩,⟨some 93,.load 7 true,[.t 92],none,[0]⟩,⟨some 10,.alloc [(.i .i64 0),(.s (bs [])),(.s (bs [])),(.i .i64 0),(.i .i64 0),(.i .i64 0),(.s (bs []))],[],none,[]⟩,⟨none,.store 7,[.t 10,.t 93],none,[2,1,0,1,2]⟩]) (.seq (.ops false [⟨some 94,.fadr 0,[.t 10],none,[]⟩,⟨some 95,.load 1 false,[.t 94],none,[0]⟩,⟨some 96,.bin .gtr,[.t 95,.c (.i .i64 129600000)],none,[1]⟩]) (.cond (.t 96) (.seq (.ops false [⟨some 97,.call 18,[],none,[]⟩,⟨some 6,.mv,[.t 97],none,[0,0,0]⟩]) .ret) .skip)))) (.ops false [⟨some 98,.bin .add,[.t 90,.c (.i .i64 1)],none,[]⟩,⟨some 90,.mv,[.t 98],none,[0]⟩]))))))) (.seq (.ops false [⟨some 100,.mv,[.t 0],none,[]⟩,⟨some 101,.mv,[.t 1],none,[]⟩,⟨some 102,.fadr 0,[.t 5],none,[]⟩,⟨some 103,.load 13 true,[.t 102],none,[2]⟩,⟨some 104,.call 62,[.t 100,.t 101,.t 103],none,[0,1,3]⟩,⟨some 99,.mv,[.t 104],none,[4]⟩,⟨some 105,.ext 0,[.t 99],none,[5]⟩,⟨some 106,.ext 1,[.t 99],none,[5]⟩,⟨some 107,.ext 2,[.t 99],none,[5]⟩,⟨some 13,.alloc [(.s (bs [])),(.s (bs [])),(.s (bs [])),(.s (bs [])),(.s (bs [])),(.s (bs [])),(.i .i64 0),(.i .i64 0),(.i .i64 0),(.i .i64 0),(.i .i64 0),(.i .i64 0),(.i .i64 0)],[],none,[]⟩,⟨some 11,.mv,[.t 105],none,[6,4,0,1,2,3,4,5,6,9]⟩,⟨some 12,.mv,[.t 106],none,[7,10,0,1,2,3,4,5,6,7,9,10]⟩,⟨none,.store 13,[.t 13,.t 107],none,[9,8,11,0,1,2,3,4,5,6,7,8,9,10,11]⟩]) (.seq (.ops false [⟨some 109,.mv,[.t 0],none,[]⟩,⟨some 110,.mv,[.t 1],none,[]⟩,⟨some 111,.call 58,[.t 109,.t 110],none,[0,1]⟩,⟨some 108,.mv,[.t 111],none,[2]⟩,⟨some 112,.ext 0,[.t 108],none,[3]⟩,⟨some 113,.ext 1,[.t 108],none,[3]⟩,⟨some 14,.mv,[.t 112],none,[4,2,0,1,2,3,4]⟩,⟨some 15,.mv,[.t 113],none,[5,6,0,1,2,3,4,5,6]⟩]) (.seq (.ops false [⟨some 115,.mv,[.t 11],none,[]⟩,⟨some 116,.mv,[.t 12],none,[]⟩,⟨some 117,.call 58,[.t 115,.t 116],none,[0,1]⟩,⟨some 114,.mv,[.t 117],none,[2]⟩,⟨some 118,.ext 0,[.t 114],none,[3]⟩,⟨some 119,.ext 1,[.t 114],none,[3]⟩,⟨some 16,.mv,[.t 118],none,[4,2,0,1,2,3,4]⟩,⟨some 17,.mv,[.t 119],none,[5,6,0,1,2,3,4,5,6]⟩]) (.seq (.ops false [⟨some 121,.mv,[.t 0],none,[]⟩,⟨some 122,.mv,[.t 1],none,[]⟩,⟨some 123,.fadr 0,[.t 5],none,[]⟩,⟨some 124,.load 13 true,[.t 123],none,[2]⟩,⟨some 125,.fadr 13,[.t 5],none,[]⟩,⟨some 126,.load 1 false,[.t 125],none,[4]⟩,⟨some 127,.fadr 14,[.t 5],none,[]⟩,⟨some 128,.load 1 false,[.t 127],none,[6]⟩,⟨some 129,.call 52,[.t 121,.t 122,.t 124,.t 126,.t 128],none,[0,1,3,5,7]⟩,⟨some 120,.mv,[.t 129],none,[8]⟩,⟨some 130,.ext 0,[.t 120],none,[9]⟩,⟨some 131,.ext 1,[.t 120],none,[9]⟩,⟨some 18,.mv,[.t 130],none,[10,8,0,1,2,3,4,5,6,7,8,9,10]⟩,⟨some 19,.mv,[.t 131],none,[11,12,0,1,2,3,4,5,6,7,8,9,10,11,12]⟩]) (.seq (.ops false [⟨some 133,.mv,[.t 11],none,[]⟩,⟨some 134,.mv,[.t 12],none,[]⟩,⟨some 135,.load 13 true,[.t 13],none,[]⟩,⟨some 136,.fadr 13,[.t 5],none,[]⟩,⟨some 137,.load 1 false,[.t 136],none,[3]⟩,⟨some 138,.fadr 14,[.t 5],none,[]⟩,⟨some 139,.load 1 false,[.t 138],none,[5]⟩,⟨some 140,.call 52,[.t 133,.t 134,.t 135,.t 137,.t 139],none,[0,1,2,4,6]⟩,⟨some 132,.mv,[.t 140],none,[7]⟩,⟨some 141,.ext 0,[.t 132],none,[8]⟩,⟨some 142,.ext 1,[.t 132],none,[8]⟩,⟨some 20,.mv,[.t 141],none,[9,7,0,1,2,3,4,5,6,7,8,9]⟩,⟨some 21,.mv,[.t 142],none,[10,11,0,1,2,3,4,5,6,7,8,9,10,11]⟩]) (.seq (.seq (.ops false [⟨some 143,.mv,[.t 15],none,[]⟩,⟨some 144,.mv,[.t 17],none,[]⟩,⟨some 145,.bin .add,[.t 143,.t 144],none,[0,1]⟩,⟨some 146,.mv,[.t 19],none,[]⟩,⟨some 147,.bin .add,[.t 145,.t 146],none,[2,3]⟩,⟨some 148,.mv,[.t 21],none,[]⟩,⟨some 149,.bin .add,[.t 147,.t 148],none,[4,5]⟩,⟨some 150,.bin .neq,[.t 149,.c (.i .i64 0)],none,[6]⟩,⟨some 151,.mv,[.t 150],none,[7]⟩,⟨some 152,.mv,[.t 14],some (151,false),[8]⟩,⟨some 153,.len false,[.t 152],some (151,false),[9,8]⟩,⟨some 154,.mv,[.t 16],some (151,false),[8]⟩,⟨some 155,.len false,[.t 154],some (151,false),[11,8]⟩,⟨some 156,.bin .neq,[.t 153,.t 155],some (151,false),[10,12,8]⟩,⟨some 157,.pick,[.t 151,.c (.b true),.t 156],none,[8,13]⟩,⟨some 158,.mv,[.t 157],none,[14,8]⟩,⟨some 159,.mv,[.t 18],some (158,false),[15]⟩,⟨some 160,.mv,[.t 20],some (158,false),[15]⟩,⟨some 161,.call 41,[.t 159,.t 160],some (158,false),[16,17,15,15]⟩,⟨some 162,.not,[.t 161],some (158,false),[18,15]⟩,⟨some 163,.pick,[.t 158,.c (.b true),.t 162],none,[15,19]⟩]) (.cond (.t 163) (.seq (.ops false [⟨some 6,.mv,[.c (.b false)],none,[]⟩]) .ret) .skip)) (.seq (.seq (.ops false [⟨some 164,.mv,[.t 14],none,[]⟩,⟨some 165,.len false,[.t 164],none,[0]⟩,⟨some 166,.mv,[.c (.i .i64 0)],none,[]⟩]) (.block 4 (.loop (.seq (.ops false [⟨some 167,.bin .lss,[.t 166,.t 165],none,[]⟩]) (.seq (.cond (.t 167) .skip (.exit 4)) (.seq (.block 5 (.seq (.ops false [⟨some 168,.mv,[.t 166],none,[]⟩,⟨some 22,.mv,[.t 168],none,[0,0]⟩]) (.seq (.ops true [⟨some 169,.mv,[.t 16],none,[]⟩,⟨some 170,.mv,[.t 22],none,[]⟩,⟨some 171,.iadrS 3,[.t 169,.t 170],none,[0,1]⟩,⟨some 172,.load 3 true,[.t 171],none,[2]⟩,⟨some 173,.mv,[.t 14],none,[]⟩,⟨some 174,.mv,[.t 22],none,[]⟩,⟨some 175,.iadrS 3,[.t 173,.t 174],none,[4,5]⟩,⟨some 176,.fadr 0,[.t 175],none,[6]⟩,⟨some 177,.load 1 false,[.t 176],none,[7]⟩,⟨some 178,.mv,[.t 14],none,[]⟩,⟨some 179,.mv,[.t 22],none,[]⟩,⟨some 180,.iadrS 3,[.t 178,.t 179],none,[9,10]⟩,⟨some 181,.fadr 1,[.t 180],none,[11]⟩,⟨some 182,.load 1 false,[.t 181],none,[12]⟩,⟨some 183,.bin .add,[.t 182,.c (.i .i64 10080)],none,[13]⟩,⟨some 184,.mv,[.t 14],none,[]⟩,⟨some 185,.mv,[.t 22],none,[]⟩,⟨some 186,.iadrS 3,[.t 184,.t 185],none,[15,16]⟩,⟨some 187,.fadr 2,[.t 186],none,[17]⟩,⟨some 188,.load 1 false,[.t 187],none,[18]⟩,⟨some 189,.build [(.i .i64 0),(.i .i64 0),(.i .i64 0)] [(0,1),(1,1),(2,1)],[.t 177,.t 183,.t 188],none,[8,14,19]⟩,⟨some 190,.eq true [1,1,1] true,[.t 172,.t 189],none,[3,20]⟩]) (.cond (.t 190) (.seq (.ops false [⟨some 6,.mv,[.c (.b false)],none,[]⟩]) .ret) .skip)))) (.ops false [⟨some 191,.bin .add,[.t 166,.c (.i .i64 1)],none,[]⟩,⟨some 166,.mv,[.t 191],none,[0]⟩]))))))) (.seq (.ops false [⟨some 192,.call 18,[],none,[]⟩,⟨some 6,.mv,[.t 192],none,[0,0,0]⟩]) .ret)))))))))))
def rs9 : List RV := [.tmp 6]
theorem fact9 : compF Tryz.prog 9 = some (ac9,rs9,193) := by kernel_rfl
abbrev seaCl (r : Req) (a b : Int) : List PV := [.s r.name, .s r.carrier, .s r.kind, .s r.term, .s r.partner, .s r.link, .i .i64 r.per.fro, .i .i64 r.per.to, .i .i64 r.per.days, .i .i64 r.minute, .i .i64 r.seats, .i .i64 r.size, .i .i64 r.noise, .i .i64 a, .i .i64 b]
theorem sea_ok {l : List Lim} {m : List Mov} {r : Req} {a b : Int} (h : bothC l m = 0) (hq : chkReq r = 0) (h3 : 0 ≤ a ∧ a ≤ 1439 ∧ 0 ≤ b ∧ b ≤ 1439 ∧ a ≤ b) : seaC l m r a b = 0 :=
  firstE_cons.2 ⟨h, firstE_cons.2 ⟨hq, firstE_cons.2 ⟨rng_0.2 (by omega), firstE_cons.2 ⟨rng_0.2 (by omega), firstE_cons.2 ⟨if_neg (by omega), rfl⟩⟩⟩⟩⟩
theorem pure9 (l : List Lim) (m : List Mov) (r : Req) (a b : Int) (hn : l.length * 112 ≤ 140737488355328) : Pure Tryz.prog 9 [.sl 11 (l.map Lim.pv), .sl 7 (m.map Mov.pv), seaPV r a b] (.b true) := by
  refine pure_by fact9 (by simp) fun hw X hX => ?_
  unfold ac9 rs9
  cases hs : smallB l m with
  | false =>
    have qe := And.intro qR @hs; repeat' first | (show Run _ (.cond _ _ _) _ _; refine run_condX (fun hc => ?_) (fun hc => ?_) <;> (try simp only [qH, rng_0] at hc) <;> try contradiction) | (show RunOps _ _ _ _ (⟨_, .call 14, _, _, _⟩ :: _) _ _; refine run_callX (hf := pure14 l hn) (hn := ?_)) | (show RunOps _ _ _ _ (⟨_, .call 60, _, _, _⟩ :: _) _ _; refine run_callX (hf := pure60 l m) (hn := ?_)) | (show RunOps _ _ _ _ (⟨_, .call 17, _, _, _⟩ :: _) _ _; refine run_callGX (hf := fun hc => (by first | exact pure17 r | (simp only [qH, rng_0] at hc; exact pure17 r))) (hn := ?_)) | (show RunOps _ _ _ _ (⟨_, .call 20, _, _, _⟩ :: _) _ _; refine run_callGX (hf := fun hc => (by first | exact pure20 r | (simp only [qH, rng_0] at hc; exact pure20 r))) (hn := ?_)) | (show RunOps _ _ _ _ (⟨_, .call 50, _, _, _⟩ :: _) _ _; refine run_callGX (hf := fun hc => (by first | exact pure50 a b | (simp only [qH, rng_0] at hc; exact pure50 a b))) (hn := ?_)) | (show RunOps _ _ _ _ (⟨_, .call 18, _, _, _⟩ :: _) _ _; refine run_callX (hf := pure18) (hn := ?_)) | (first | refine Stp.h ?_ | (show ∀ K : St → List Ft → Prop, _; intro K hK) | (show runS _ _ _ _ _; first | refine qY (hq := ?_) | refine qZ (hq := ?_)) | (refine hK _ _ ?_; clear hK K) | (refine hK _ _ rfl ?_; clear hK K) | (refine qZ (hq := ?_); try exact trivial) | omega)
    all_goals exact .refl _
  | true =>
    obtain ⟨g1, g2, g3, g4, g5, g6⟩ := small_0 hs
    have hl := chkLims_0 g5
    have hm := chkMovs_0 g6
    by_cases hq : chkReq r = 0
    · have hp := chkPer_0 (chkReq_0 hq).1
      by_cases h3 : minE a b = 0
      · have h3b : 0 ≤ a ∧ a ≤ 1439 ∧ 0 ≤ b ∧ b ≤ 1439 ∧ a ≤ b := by
          have e1 := rng_0.1 (firstE_cons.1 h3).1
          have e2 := rng_0.1 (firstE_cons.1 (firstE_cons.1 h3).2).1
          have e3 := (firstE_cons.1 (firstE_cons.1 (firstE_cons.1 h3).2).2).1
          rw [ite_eq0 (show (11 : Int) ≠ 0 by decide)] at e3
          omega
        have qe := And.intro qR (And.intro @hs (And.intro @hq (And.intro @h3 @dec_self))); repeat' first | (show Run _ (.cond _ _ _) _ _; refine run_condX (fun hc => ?_) (fun hc => ?_) <;> (try simp only [qH, rng_0] at hc) <;> try contradiction) | (show RunOps _ _ _ _ (⟨_, .call 14, _, _, _⟩ :: _) _ _; refine run_callX (hf := pure14 l hn) (hn := ?_)) | (show RunOps _ _ _ _ (⟨_, .call 60, _, _, _⟩ :: _) _ _; refine run_callX (hf := pure60 l m) (hn := ?_)) | (show RunOps _ _ _ _ (⟨_, .call 17, _, _, _⟩ :: _) _ _; refine run_callGX (hf := fun hc => (by first | exact pure17 r | (simp only [qH, rng_0] at hc; exact pure17 r))) (hn := ?_)) | (show RunOps _ _ _ _ (⟨_, .call 20, _, _, _⟩ :: _) _ _; refine run_callGX (hf := fun hc => (by first | exact pure20 r | (simp only [qH, rng_0] at hc; exact pure20 r))) (hn := ?_)) | (show RunOps _ _ _ _ (⟨_, .call 50, _, _, _⟩ :: _) _ _; refine run_callGX (hf := fun hc => (by first | exact pure50 a b | (simp only [qH, rng_0] at hc; exact pure50 a b))) (hn := ?_)) | (show RunOps _ _ _ _ (⟨_, .call 18, _, _, _⟩ :: _) _ _; refine run_callX (hf := pure18) (hn := ?_)) | (first | refine Stp.h ?_ | (show ∀ K : St → List Ft → Prop, _; intro K hK) | (show runS _ _ _ _ _; first | refine qY (hq := ?_) | refine qZ (hq := ?_)) | (refine hK _ _ ?_; clear hK K) | (refine hK _ _ rfl ?_; clear hK K) | (refine qZ (hq := ?_); try exact trivial) | omega)
        · exact .refl _
        refine run_loop (κ := Nat) (fun k => ⟨[(0, .p (.sl 11 (l.map Lim.pv))), (1, .p (.sl 7 (m.map Mov.pv))), (5, .lp 5 0), (76, .p (.sl 11 (l.map Lim.pv))), (77, .p (.i .i64 l.length)), (78, .p (.i .i64 k))], [(5, .box ((seaCl r a b).map .p) false)], [], false⟩) (fun k => k ≤ l.length ∧ ∀ x ∈ l.take k, x.per.to ≤ 90000) (fun k => l.length - k) 0 ?_ ?_ ?_
        · simp only [qS, Nat.reduceAdd, Nat.reduceMul, Nat.reduceEqDiff, Nat.reduceLeDiff, reduceIte, reduceCtorEq, Nat.reduceBEq, Nat.reduceLT] <;> rfl
        · simp
        · intro k hk
          by_cases hkl : k < l.length
          · obtain ⟨x, hx⟩ := some_at (i := k) (l := l) hkl
            have qe := And.intro qR @hx; repeat' first | (show Run _ (.cond _ _ _) _ _; refine run_condX (fun hc => ?_) (fun hc => ?_) <;> (try simp only [qH, rng_0] at hc) <;> try contradiction) | (show RunOps _ _ _ _ (⟨_, .call 18, _, _, _⟩ :: _) _ _; refine run_callX (hf := pure18) (hn := ?_)) | (first | refine Stp.h ?_ | (show ∀ K : St → List Ft → Prop, _; intro K hK) | (show runS _ _ _ _ _; first | refine qY (hq := ?_) | refine qZ (hq := ?_)) | (refine hK _ _ ?_; clear hK K) | (refine hK _ _ rfl ?_; clear hK K) | (refine qZ (hq := ?_); try exact trivial) | omega)
            · exact .refl _
            · refine ⟨k + 1, ⟨by omega, fun y hy => ?_⟩, by omega, by simp⟩
              rw [List.take_add_one, hx] at hy
              rcases List.mem_append.1 hy with hy | hy
              · exact hk.2 y hy
              · simp at hy; subst hy; omega
          · have hto : ∀ x ∈ l, x.per.to ≤ 90000 := fun x hx => hk.2 x (by rw [List.take_of_length_le (by omega)]; exact hx)
            have qe := @qR; repeat' first | (show Run _ (.cond _ _ _) _ _; refine run_condX (fun hc => ?_) (fun hc => ?_) <;> (try simp only [qH, rng_0] at hc) <;> try contradiction) | (show RunOps _ _ _ _ (⟨_, .call 18, _, _, _⟩ :: _) _ _; refine run_callX (hf := pure18) (hn := ?_)) | (first | refine Stp.h ?_ | (show ∀ K : St → List Ft → Prop, _; intro K hK) | (show runS _ _ _ _ _; first | refine qY (hq := ?_) | refine qZ (hq := ?_)) | (refine hK _ _ ?_; clear hK K) | (refine hK _ _ rfl ?_; clear hK K) | (refine qZ (hq := ?_); try exact trivial) | omega)
            refine run_loop (κ := Nat) (fun j => ⟨[(0, .p (.sl 11 (l.map Lim.pv))), (1, .p (.sl 7 (m.map Mov.pv))), (5, .lp 5 0), (88, .p (.sl 7 (m.map Mov.pv))), (89, .p (.i .i64 m.length)), (90, .p (.i .i64 j))], [(5, .box ((seaCl r a b).map .p) false)], [], false⟩) (fun j => j ≤ m.length ∧ ∀ x ∈ m.take j, x.moment ≤ 129600000) (fun j => m.length - j) 0 ?_ ?_ ?_
            · simp only [qS, Nat.reduceAdd, Nat.reduceMul, Nat.reduceEqDiff, Nat.reduceLeDiff, reduceIte, reduceCtorEq, Nat.reduceBEq, Nat.reduceLT] <;> rfl
            · simp
            · intro j hj
              by_cases hjm : j < m.length
              · obtain ⟨x, hx⟩ := some_at (i := j) (l := m) hjm
                have qe := And.intro qR @hx; repeat' first | (show Run _ (.cond _ _ _) _ _; refine run_condX (fun hc => ?_) (fun hc => ?_) <;> (try simp only [qH, rng_0] at hc) <;> try contradiction) | (show RunOps _ _ _ _ (⟨_, .call 18, _, _, _⟩ :: _) _ _; refine run_callX (hf := pure18) (hn := ?_)) | (first | refine Stp.h ?_ | (show ∀ K : St → List Ft → Prop, _; intro K hK) | (show runS _ _ _ _ _; first | refine qY (hq := ?_) | refine qZ (hq := ?_)) | (refine hK _ _ ?_; clear hK K) | (refine hK _ _ rfl ?_; clear hK K) | (refine qZ (hq := ?_); try exact trivial) | omega)
                · exact .refl _
                · refine ⟨j + 1, ⟨by omega, fun y hy => ?_⟩, by omega, by simp⟩
                  rw [List.take_add_one, hx] at hy
                  rcases List.mem_append.1 hy with hy | hy
                  · exact hj.2 y hy
                  · simp at hy; subst hy; omega
              · have hmo : ∀ x ∈ m, x.moment ≤ 129600000 := fun x hx => hj.2 x (by rw [List.take_of_length_le (by omega)]; exact hx)
                have q1 := lims_later g5 hto
                have q2 := movs_later g6 hmo
                have q3 := req_later hq (by omega)
                have hl' : ∀ x ∈ l, chkLim x.later = 0 := fun x hx => lim_later (hl.2 x hx) (hto x hx)
                have b1 : bothC l m = 0 := firstE_cons.2 ⟨g5, firstE_cons.2 ⟨g6, rfl⟩⟩
                have b2 : bothC (l.map Lim.later) (m.map Mov.later) = 0 := firstE_cons.2 ⟨q1, firstE_cons.2 ⟨q2, rfl⟩⟩
                have hx1 := exc_short (m := m) g5 g3
                have x1 := exc_later (m := m) hl.2 hl'
                have e1 : exE l m = 0 := by rw [exE, if_pos b1, if_neg (by omega)]
                have e2 : exE (l.map Lim.later) (m.map Mov.later) = 0 := by rw [exE, if_pos b2, x1, List.length_map, if_neg (by omega)]
                have e3 : exR l m = excW l m := by rw [exR, if_pos e1]
                have e4 : exR (l.map Lim.later) (m.map Mov.later) = (excW l m).map Win.later := by rw [exR, if_pos e2, x1]
                have s1 : seaC l m r a b = 0 := sea_ok b1 hq h3b
                have s2 : seaC (l.map Lim.later) (m.map Mov.later) r.later a b = 0 := sea_ok b2 q3 h3b
                have s3 : freR l m r a b = freL l m r a b := by rw [freR, if_pos s1]
                have s4 : freR (l.map Lim.later) (m.map Mov.later) r.later a b = freL l m r a b := by rw [freR, if_pos s2, fre_later hl.2 hl']
                have qe := And.intro qR (And.intro @e1 (And.intro @e2 (And.intro @e3 (And.intro @e4 (And.intro @s1 (And.intro @s2 (And.intro @s3 (And.intro @s4 @dec_self)))))))); repeat' first | (show Run _ (.cond _ _ _) _ _; refine run_condX (fun hc => ?_) (fun hc => ?_) <;> (try simp only [qH, rng_0] at hc) <;> try contradiction) | (show RunOps _ _ _ _ (⟨_, .call 62, _, _, _⟩ :: _) _ _; refine run_callX (hf := pure62 l m r g5 g6 hq) (hn := ?_)) | (show RunOps _ _ _ _ (⟨_, .call 58, _, _, _⟩ :: _) _ _; refine run_callX (hf := pure58 l m) (hn := ?_)) | (show RunOps _ _ _ _ (⟨_, .call 58, _, _, _⟩ :: _) _ _; refine run_callX (hf := pure58 (l.map Lim.later) (m.map Mov.later)) (hn := ?_)) | (show RunOps _ _ _ _ (⟨_, .call 52, _, _, _⟩ :: _) _ _; refine run_callX (hf := pure52 l m r a b) (hn := ?_)) | (show RunOps _ _ _ _ (⟨_, .call 52, _, _, _⟩ :: _) _ _; refine run_callX (hf := pure52 (l.map Lim.later) (m.map Mov.later) r.later a b) (hn := ?_)) | (show RunOps _ _ _ _ (⟨_, .call 41, _, _, _⟩ :: _) _ _; refine run_callGX (hf := fun hc => (by first | exact pure41 (freL l m r a b) | (simp only [qH, rng_0] at hc; exact pure41 (freL l m r a b)))) (hn := ?_)) | (first | refine Stp.h ?_ | (show ∀ K : St → List Ft → Prop, _; intro K hK) | (show runS _ _ _ _ _; first | refine qY (hq := ?_) | refine qZ (hq := ?_)) | (refine hK _ _ ?_; clear hK K) | (refine hK _ _ rfl ?_; clear hK K) | (refine qZ (hq := ?_); try exact trivial) | omega)
                refine run_loop (κ := Nat) (fun i => ⟨[(14, .p (.sl 3 ((excW l m).map Win.pv))), (16, .p (.sl 3 (((excW l m).map Win.later).map Win.pv))), (165, .p (.i .i64 (excW l m).length)), (166, .p (.i .i64 i))], [], [], false⟩) (fun i => i ≤ (excW l m).length) (fun i => (excW l m).length - i) 0 ?_ ?_ ?_
                · simp only [qS, Nat.reduceAdd, Nat.reduceMul, Nat.reduceEqDiff, Nat.reduceLeDiff, reduceIte, reduceCtorEq, Nat.reduceBEq, Nat.reduceLT] <;> simp
                · simp
                · intro i hi
                  by_cases hil : i < (excW l m).length
                  · obtain ⟨w, hw1⟩ := some_at (i := i) (l := excW l m) hil
                    have hwb := exc_beg hl.2 (List.mem_of_getElem? hw1)
                    have z1 : w.later.lim = w.lim := rfl
                    have z2 : w.later.beg = w.beg + 10080 := rfl
                    have z3 : w.later.cnt = w.cnt := rfl
                    have qe := And.intro qR (And.intro @hw1 (And.intro @z1 (And.intro @z2 (And.intro @z3 @dec_self)))); repeat' first | (show Run _ (.cond _ _ _) _ _; refine run_condX (fun hc => ?_) (fun hc => ?_) <;> (try simp only [qH, rng_0] at hc) <;> try contradiction) | (first | refine Stp.h ?_ | (show ∀ K : St → List Ft → Prop, _; intro K hK) | (show runS _ _ _ _ _; first | refine qY (hq := ?_) | refine qZ (hq := ?_)) | (refine hK _ _ ?_; clear hK K) | (refine hK _ _ rfl ?_; clear hK K) | (refine qZ (hq := ?_); try exact trivial) | omega)
                    exact ⟨i + 1, by omega, by omega, by simp⟩
                  · have qe := @qR; repeat' first | (show Run _ (.cond _ _ _) _ _; refine run_condX (fun hc => ?_) (fun hc => ?_) <;> (try simp only [qH, rng_0] at hc) <;> try contradiction) | (show RunOps _ _ _ _ (⟨_, .call 18, _, _, _⟩ :: _) _ _; refine run_callX (hf := pure18) (hn := ?_)) | (first | refine Stp.h ?_ | (show ∀ K : St → List Ft → Prop, _; intro K hK) | (show runS _ _ _ _ _; first | refine qY (hq := ?_) | refine qZ (hq := ?_)) | (refine hK _ _ ?_; clear hK K) | (refine hK _ _ rfl ?_; clear hK K) | (refine qZ (hq := ?_); try exact trivial) | omega)
                    exact .refl _
      · have h3' := eq_false h3
        have qe := And.intro qR (And.intro @hs (And.intro @hq @h3')); repeat' first | (show Run _ (.cond _ _ _) _ _; refine run_condX (fun hc => ?_) (fun hc => ?_) <;> (try simp only [qH, rng_0] at hc) <;> try contradiction) | (show RunOps _ _ _ _ (⟨_, .call 14, _, _, _⟩ :: _) _ _; refine run_callX (hf := pure14 l hn) (hn := ?_)) | (show RunOps _ _ _ _ (⟨_, .call 60, _, _, _⟩ :: _) _ _; refine run_callX (hf := pure60 l m) (hn := ?_)) | (show RunOps _ _ _ _ (⟨_, .call 17, _, _, _⟩ :: _) _ _; refine run_callGX (hf := fun hc => (by first | exact pure17 r | (simp only [qH, rng_0] at hc; exact pure17 r))) (hn := ?_)) | (show RunOps _ _ _ _ (⟨_, .call 20, _, _, _⟩ :: _) _ _; refine run_callGX (hf := fun hc => (by first | exact pure20 r | (simp only [qH, rng_0] at hc; exact pure20 r))) (hn := ?_)) | (show RunOps _ _ _ _ (⟨_, .call 50, _, _, _⟩ :: _) _ _; refine run_callGX (hf := fun hc => (by first | exact pure50 a b | (simp only [qH, rng_0] at hc; exact pure50 a b))) (hn := ?_)) | (show RunOps _ _ _ _ (⟨_, .call 18, _, _, _⟩ :: _) _ _; refine run_callX (hf := pure18) (hn := ?_)) | (first | refine Stp.h ?_ | (show ∀ K : St → List Ft → Prop, _; intro K hK) | (show runS _ _ _ _ _; first | refine qY (hq := ?_) | refine qZ (hq := ?_)) | (refine hK _ _ ?_; clear hK K) | (refine hK _ _ rfl ?_; clear hK K) | (refine qZ (hq := ?_); try exact trivial) | omega)
        all_goals exact .refl _
    · have hq' := eq_false hq
      have qe := And.intro qR (And.intro @hs @hq'); repeat' first | (show Run _ (.cond _ _ _) _ _; refine run_condX (fun hc => ?_) (fun hc => ?_) <;> (try simp only [qH, rng_0] at hc) <;> try contradiction) | (show RunOps _ _ _ _ (⟨_, .call 14, _, _, _⟩ :: _) _ _; refine run_callX (hf := pure14 l hn) (hn := ?_)) | (show RunOps _ _ _ _ (⟨_, .call 60, _, _, _⟩ :: _) _ _; refine run_callX (hf := pure60 l m) (hn := ?_)) | (show RunOps _ _ _ _ (⟨_, .call 17, _, _, _⟩ :: _) _ _; refine run_callGX (hf := fun hc => (by first | exact pure17 r | (simp only [qH, rng_0] at hc; exact pure17 r))) (hn := ?_)) | (show RunOps _ _ _ _ (⟨_, .call 20, _, _, _⟩ :: _) _ _; refine run_callGX (hf := fun hc => (by first | exact pure20 r | (simp only [qH, rng_0] at hc; exact pure20 r))) (hn := ?_)) | (show RunOps _ _ _ _ (⟨_, .call 50, _, _, _⟩ :: _) _ _; refine run_callGX (hf := fun hc => (by first | exact pure50 a b | (simp only [qH, rng_0] at hc; exact pure50 a b))) (hn := ?_)) | (show RunOps _ _ _ _ (⟨_, .call 18, _, _, _⟩ :: _) _ _; refine run_callX (hf := pure18) (hn := ?_)) | (first | refine Stp.h ?_ | (show ∀ K : St → List Ft → Prop, _; intro K hK) | (show runS _ _ _ _ _; first | refine qY (hq := ?_) | refine qZ (hq := ?_)) | (refine hK _ _ ?_; clear hK K) | (refine hK _ _ rfl ?_; clear hK K) | (refine qZ (hq := ?_); try exact trivial) | omega)
      all_goals exact .refl _
theorem lifted9 (os : Os) (started : os.Started) (H : Type) (enc : TypeId × Value → H) : ReturnsInHanded {} Tryz.checked os 9 .any (Rows.capacityLaterSpec.pre6 enc Tryz.prog Tryz.f9 Rows.capacityLaterRow.domain false) (Rows.capacityLaterSpec.post enc Tryz.prog Tryz.f9 false true false false) := by
  refine returnsInHanded_of_change_shaped (C := Tryz.checked) own started (by kernel_rfl) Tryz.func9
    (ChangeSpec.witness6 (enc := enc) (C := Tryz.checked) false ⟨#[], #[.slice none 0 0, .slice none 0 0, .agg #[zs, zs, zs, zs, zs, zs, zi, zi, zi, zi, zi, zi, zi, zi, zi]], []⟩ 8 (by kernel_rfl) (by kernel_rfl) (by kernel_rfl) (by kernel_rfl)) ?_
  intro W base args ds gs before hval hW _ hsz _ _
  refine law_contract (C := Tryz.checked) (n := 4) (tb := 4) laid (by kernel_rfl) rfl (fun H ds hd => ?_) (by kernel_rfl) und4 (by kernel_rfl) (fun ps hps => ?_) W base args ds gs before hval hW hsz
  · match ds, hd with
    | [_, _, _], _ => rfl
  · match ps, hps with
    | [p0, p1, p2], ⟨h0, h1, h2, _⟩ =>
      obtain ⟨l, rfl, hl⟩ := fit_lims h0
      obtain ⟨m, rfl⟩ := fit_movs h1
      obtain ⟨r, ra, rb, rfl⟩ := fit_sea h2
      exact pure9 l m r ra rb hl
theorem later_over : Rows.capacityLaterRow.holds Tryz.pinned (OpenSpec.ofChange Rows.capacityLaterSpec) :=
  OpenClaim.holds_of_wide 9 Tryz.f9 rfl rfl rfl rfl rfl rfl rfl ⟨rfl, rfl, rfl, rfl, rfl⟩ rfl rfl rfl rfl rfl (by kernel_rfl) Tryz.func9 (by kernel_rfl)
    (of_decide_eq_true (by kernel_rfl)) (by unfold Func.isWrapper; first | (rw [if_pos (by decide +kernel)]; kernel_rfl) | (rw [if_neg (by decide +kernel)]; exact ⟨rfl, rfl⟩))
    (fun os started H enc _ => lifted9 os started H enc)
theorem later_proved : Rows.CapacityLaterSaid := later_over
end Go.Proofs.YtcfbdeghmckelaaGreat
