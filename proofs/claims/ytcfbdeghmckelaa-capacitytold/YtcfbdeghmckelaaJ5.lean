/- The statement CapacityTold is proved: what Excess tells can be read off the counts window by window, in the order of the limits and their windows, and Peak tells the tightest limit. No conditions. -/
import Derived.Test.YtcfbdeghmckelaaJ4
import Derived.Test.YtcfbdeghmckelaaRows
set_option linter.all false
namespace Go.Proofs.Ytcfbdeghmckelaa
open Go.RowKit Go.ChangeShapes Go.WideShapes Go.ChangeAt
set_option maxRecDepth 100000
set_option linter.unusedVariables false
set_option linter.unusedSimpArgs false
set_option maxHeartbeats 4000000
def Lim.withMost (l : Lim) (n : Int) : Lim := ⟨l.name, l.kind, l.term, l.len, l.step, l.fro, l.to, l.per, n⟩
theorem wm_chk {l : Lim} {n : Int} (h : chkLim l = 0) (h0 : 0 ≤ n) (h1 : n ≤ 999999999) : chkLim (l.withMost n) = 0 := by
  unfold chkLim at h ⊢
  simp only [firstE_cons, rng_0] at h ⊢
  exact ⟨h.1, h.2.1, h.2.2.1, h.2.2.2.1, h.2.2.2.2.1, h.2.2.2.2.2.1, h.2.2.2.2.2.2.1, h.2.2.2.2.2.2.2.1, h.2.2.2.2.2.2.2.2.1, ⟨h0, h1⟩, rfl⟩
theorem pk_take {l : Lim} {m : List Mov} {L : List Int} : ∀ k, k ≤ L.length → 0 < k → (pkF l m (L.take k)).1 = true ∧ (∀ b ∈ L.take k, cntAll l m b ≤ (pkF l m (L.take k)).2.2) ∧
    ∃ i b, i < k ∧ L[i]? = some b ∧ (pkF l m (L.take k)).2.1 = b ∧ (pkF l m (L.take k)).2.2 = cntAll l m b ∧ ∀ j c, j < i → L[j]? = some c → cntAll l m c < cntAll l m b
  | 0, _, h => by omega
  | k + 1, hk, _ => by
    obtain ⟨x, hx⟩ := some_at (i := k) (l := L) (by omega)
    have hn := pkF_next (l := l) (m := m) hx
    have ht : L.take (k + 1) = L.take k ++ [x] := by rw [List.take_add_one, hx]; rfl
    rcases Nat.eq_zero_or_pos k with rfl | h0
    · have e : pkF l m (L.take 1) = (true, x, cntAll l m x) := by rw [hn]; rfl
      rw [e]
      refine ⟨rfl, fun b hb => ?_, 0, x, by omega, hx, rfl, rfl, fun j c hj => by omega⟩
      rw [ht] at hb; simp at hb; subst hb; exact Int.le_refl _
    · obtain ⟨h1, h2, i, b, h3, h4, h5, h6, h7⟩ := pk_take (l := l) (m := m) (L := L) k (by omega) h0
      by_cases hc : (pkF l m (L.take k)).2.2 < cntAll l m x
      · have e : pkF l m (L.take (k + 1)) = (true, x, cntAll l m x) := by rw [hn, pkStep, if_pos (.inr hc)]
        rw [e]
        refine ⟨rfl, fun c hb => ?_, k, x, by omega, hx, rfl, rfl, fun j c hj hcj => ?_⟩
        · rw [ht] at hb
          rcases List.mem_append.1 hb with hb | hb
          · have := h2 c hb; simp only; omega
          · simp at hb; subst hb; exact Int.le_refl _
        · have := h2 c (List.mem_of_getElem? (i := j) (by rw [List.getElem?_take, if_pos hj]; exact hcj)); omega
      · have e : pkF l m (L.take (k + 1)) = pkF l m (L.take k) := by rw [hn, pkStep, if_neg (by rw [h1]; simp; omega)]
        rw [e]
        refine ⟨h1, fun c hb => ?_, i, b, by omega, h4, h5, h6, h7⟩
        rw [ht] at hb
        rcases List.mem_append.1 hb with hb | hb
        · exact h2 c hb
        · simp at hb; subst hb; omega
theorem pk_all {l : Lim} {m : List Mov} (h : windowsL l ≠ []) : (pkF l m (windowsL l)).1 = true ∧ (∀ b ∈ windowsL l, cntAll l m b ≤ (pkF l m (windowsL l)).2.2) ∧
    ∃ (i : Nat) (b : Int), (windowsL l)[i]? = some b ∧ (pkF l m (windowsL l)).2.1 = b ∧ (pkF l m (windowsL l)).2.2 = cntAll l m b ∧ ∀ (j : Nat) (c : Int), j < i → (windowsL l)[j]? = some c → cntAll l m c < cntAll l m b := by
  have hl : 0 < (windowsL l).length := List.length_pos_iff.2 h
  have := pk_take (l := l) (m := m) (L := windowsL l) _ (Nat.le_refl _) hl
  rw [List.take_length] at this
  obtain ⟨h1, h2, i, b, _, h3⟩ := this
  exact ⟨h1, h2, i, b, h3⟩
theorem cnt_range {l : Lim} (h : chkLim l = 0) (m : List Mov) (b : Int) : 0 ≤ cntAll l m b ∧ cntAll l m b ≤ m.length := by
  rw [cnt_filter (by have := chkLim_0 h; omega)]
  have := List.length_filter_le (inW l b) m
  omega
theorem pk_range {l : Lim} (h : chkLim l = 0) (m : List Mov) : 0 ≤ (pkF l m (windowsL l)).2.2 ∧ (pkF l m (windowsL l)).2.2 ≤ m.length := by
  by_cases hw : windowsL l = []
  · rw [hw]; simp [pkF]
  · obtain ⟨_, _, i, b, _, _, e, _⟩ := pk_all (m := m) hw
    rw [e]; exact cnt_range h m b
theorem pk_none {l : Lim} {m : List Mov} (h : (pkF l m (windowsL l)).1 = false) : windowsL l = [] := by
  refine Classical.byContradiction fun hw => ?_
  rw [(pk_all (m := m) hw).1] at h; cases h
theorem flat_first {α β : Type} {f : α → List β} {w : β} : ∀ {L : List α} {i : Nat} {b : α}, L[i]? = some b → f b = [w] → (∀ j c, j < i → L[j]? = some c → f c = []) → ∃ r, L.flatMap f = w :: r
  | [], i, b, h, _, _ => by simp at h
  | x :: r, 0, b, h, hf, _ => by simp at h; subst h; exact ⟨r.flatMap f, by rw [List.flatMap_cons, hf]; rfl⟩
  | x :: r, i + 1, b, h, hf, hn => by
    obtain ⟨q, hq⟩ := flat_first (L := r) (i := i) (by simpa using h) hf fun j c hj hc => hn (j + 1) c (by omega) (by simpa using hc)
    exact ⟨q, by rw [List.flatMap_cons, hn 0 x (by omega) rfl, hq]; rfl⟩
theorem tight_first {l : Lim} (h : chkLim l = 0) {m : List Mov} (h1 : (pkF l m (windowsL l)).1 = true) : ∃ r, excW [l.withMost ((pkF l m (windowsL l)).2.2 - 1)] m = ⟨0, (pkF l m (windowsL l)).2.1, (pkF l m (windowsL l)).2.2⟩ :: r := by
  have hw : windowsL l ≠ [] := fun e => by rw [e] at h1; simp [pkF] at h1
  obtain ⟨_, _, i, b, h3, h4, h5, h6⟩ := pk_all (m := m) hw
  obtain ⟨r, hr⟩ := flat_first (f := excB m 0 (l.withMost ((pkF l m (windowsL l)).2.2 - 1))) (w := ⟨0, (pkF l m (windowsL l)).2.1, (pkF l m (windowsL l)).2.2⟩) h3
    (by
      unfold excB
      rw [show cntAll (l.withMost ((pkF l m (windowsL l)).2.2 - 1)) m b = cntAll l m b from rfl, show (l.withMost ((pkF l m (windowsL l)).2.2 - 1)).most = (pkF l m (windowsL l)).2.2 - 1 from rfl, if_pos (by omega), h4, h5]
      rfl)
    (fun j c hj hc => by
      unfold excB
      rw [show cntAll (l.withMost ((pkF l m (windowsL l)).2.2 - 1)) m c = cntAll l m c from rfl, show (l.withMost ((pkF l m (windowsL l)).2.2 - 1)).most = (pkF l m (windowsL l)).2.2 - 1 from rfl, if_neg]
      have := h6 j c hj hc; omega)
  refine ⟨r, ?_⟩
  unfold excW excK
  simp only [List.length_cons, List.length_nil, List.range_succ, List.range_zero, List.nil_append, List.flatMap_cons, List.flatMap_nil, List.append_nil]
  unfold excI
  simp only [List.getElem?_cons_zero]
  exact hr
def rsL (m : List Mov) (l : Lim) : Lim := if (pkF l m (windowsL l)).1 = true then l.withMost (pkF l m (windowsL l)).2.2 else l
theorem rsL_name (m : List Mov) (l : Lim) : (rsL m l).name = l.name := by unfold rsL; split <;> rfl
theorem rsL_chk {m : List Mov} {l : Lim} (h : chkLim l = 0) (hm : m.length ≤ 30000) : chkLim (rsL m l) = 0 := by
  unfold rsL
  split
  · have := pk_range h m; exact wm_chk h this.1 (by omega)
  · exact h
theorem rs_lims {ls : List Lim} {m : List Mov} (h : chkLims ls = 0) (hm : m.length ≤ 30000) : chkLims (ls.map (rsL m)) = 0 := by
  obtain ⟨h1, h2, h3⟩ := chkLims_iff.1 h
  refine chkLims_iff.2 ⟨by rw [List.length_map]; exact h1, fun x hx => ?_, ?_⟩
  · obtain ⟨y, hy, rfl⟩ := List.mem_map.1 hx; exact rsL_chk (h2 y hy) hm
  · have : names (ls.map (rsL m)) = names ls := by
      unfold names; rw [List.map_map]; exact List.map_congr_left fun x _ => rsL_name m x
    rw [this]; exact h3
theorem rs_exc {ls : List Lim} {m : List Mov} (h : ∀ l ∈ ls, chkLim l = 0) : excW (ls.map (rsL m)) m = [] := by
  unfold excW excK
  rw [List.flatMap_eq_nil_iff]
  intro i _
  unfold excI
  rw [List.getElem?_map]
  cases hi : ls[i]? with
  | none => rfl
  | some l =>
    simp only [Option.map_some]
    unfold excL
    rw [List.flatMap_eq_nil_iff]
    intro b hb
    cases hp : (pkF l m (windowsL l)).1 with
    | false =>
      have e : rsL m l = l := by unfold rsL; rw [hp, if_neg (by simp)]
      rw [e, pk_none hp] at hb; cases hb
    | true =>
      have e : rsL m l = l.withMost (pkF l m (windowsL l)).2.2 := by unfold rsL; rw [if_pos hp]
      rw [e] at hb ⊢
      have hb' : b ∈ windowsL l := hb
      have hw : windowsL l ≠ [] := List.ne_nil_of_mem hb'
      have := (pk_all (m := m) hw).2.1 b hb'
      unfold excB
      rw [show cntAll (l.withMost (pkF l m (windowsL l)).2.2) m b = cntAll l m b from rfl, show (l.withMost (pkF l m (windowsL l)).2.2).most = (pkF l m (windowsL l)).2.2 from rfl, if_neg (by omega)]
def rsK (l : List Lim) (m : List Mov) (k : Nat) : List Lim := (l.take k).map (rsL m) ++ l.drop k
theorem rsK_len {l : List Lim} {m : List Mov} {k : Nat} (h : k ≤ l.length) : (rsK l m k).length = l.length := by simp [rsK]; omega
theorem rsK_at {l : List Lim} {m : List Mov} {k : Nat} {x : Lim} (h : l[k]? = some x) : (rsK l m k)[k]? = some x := by
  have hk := (List.getElem?_eq_some_iff.1 h).1
  rw [rsK, List.getElem?_append_right (by rw [List.length_map, List.length_take]; omega)]
  simp only [List.length_map, List.length_take, Nat.min_eq_left (Nat.le_of_lt hk), Nat.sub_self, List.getElem?_drop, Nat.add_zero]
  exact h
theorem rsK_next {l : List Lim} {m : List Mov} {k : Nat} {x : Lim} (h : l[k]? = some x) : (rsK l m k).set k (rsL m x) = rsK l m (k + 1) := by
  have hk := (List.getElem?_eq_some_iff.1 h).1
  have hd : l.drop k = x :: l.drop (k + 1) := by
    rw [List.drop_eq_getElem_cons hk, (List.getElem?_eq_some_iff.1 h).2]
  rw [rsK, rsK, hd, List.set_append_right _ _ (by simp; omega), take_snoc _ h]
  simp [Nat.min_eq_left (Nat.le_of_lt hk)]
theorem rsK_skip {l : List Lim} {m : List Mov} {k : Nat} {x : Lim} (h : l[k]? = some x) (hx : (pkF x m (windowsL x)).1 = false) : rsK l m (k + 1) = rsK l m k := by
  have hk := (List.getElem?_eq_some_iff.1 h).1
  have e : rsL m x = x := by unfold rsL; rw [hx, if_neg (by simp)]
  rw [← rsK_next h, e]
  refine List.ext_getElem? fun j => ?_
  by_cases ej : j = k
  · subst ej; rw [List.getElem?_set_self (by rw [rsK_len (by omega)]; exact hk), rsK_at h]
  · rw [List.getElem?_set_ne (Ne.symm ej)]
theorem rsK_all (l : List Lim) (m : List Mov) : rsK l m l.length = l.map (rsL m) := by simp [rsK]
theorem days_asc (p : Per) : (daysL p).Pairwise (· < ·) := by
  unfold daysL
  rw [List.pairwise_flatMap]
  refine ⟨fun k _ => by split <;> simp, ?_⟩
  refine List.pairwise_lt_range.imp fun {a b} hab x hx y hy => ?_
  split at hx <;> split at hy <;> simp at hx hy
  omega
theorem windows_asc {l : Lim} (h : chkLim l = 0) : (windowsL l).Pairwise (· < ·) := by
  have h0 := chkLim_0 h
  rw [windows_eq h, List.pairwise_flatMap]
  refine ⟨fun d _ => ?_, ?_⟩
  · unfold begK
    rw [List.pairwise_map]
    refine List.pairwise_lt_range.imp fun {a b} hab => ?_
    simp only [begV]
    have : l.step * (l.from_ + a) + l.step * 1 ≤ l.step * (l.from_ + b) := by
      rw [← Int.mul_add]; exact Int.mul_le_mul_of_nonneg_left (by omega) (by omega)
    omega
  · refine (List.Pairwise.and_mem.1 (days_asc l.per)).imp fun {a b} hab x hx y hy => ?_
    have m1 := beginsL_mem h (show x ∈ beginsL l a by rw [beginsL_day h, if_pos hab.1]; exact hx)
    have m2 := beginsL_mem h (show y ∈ beginsL l b by rw [beginsL_day h, if_pos hab.2.1]; exact hy)
    omega
def WinLt (a b : Win) : Prop := a.lim < b.lim ∨ a.lim = b.lim ∧ a.beg < b.beg
theorem exc_asc {ls : List Lim} {m : List Mov} (h : ∀ l ∈ ls, chkLim l = 0) : (excW ls m).Pairwise WinLt := by
  have lim : ∀ i w, w ∈ excI ls m i → w.lim = i := fun i w hw => by
    unfold excI at hw
    split at hw
    · obtain ⟨b, _, hw⟩ := List.mem_flatMap.1 hw
      unfold excB at hw
      split at hw
      · rw [List.mem_singleton.1 hw]
      · cases hw
    · cases hw
  unfold excW excK
  rw [List.pairwise_flatMap]
  refine ⟨fun i _ => ?_, List.pairwise_lt_range.imp fun {a b} hab x hx y hy => .inl ?_⟩
  · unfold excI
    split
    · rename_i l hi
      unfold excL
      rw [List.pairwise_flatMap]
      refine ⟨fun b _ => by unfold excB; split <;> simp, (windows_asc (h l (List.mem_of_getElem? hi))).imp fun {a b} hab x hx y hy => ?_⟩
      unfold excB at hx hy
      split at hx <;> split at hy <;> simp at hx hy
      subst hx hy
      exact .inr ⟨rfl, hab⟩
    · exact .nil
  · rw [lim a x hx, lim b y hy]; omega
theorem exc_at {ls : List Lim} {m : List Mov} {w : Win} (hw : w ∈ excW ls m) : ∃ (i : Nat) (l : Lim), w.lim = i ∧ ls[i]? = some l ∧ w.beg ∈ windowsL l ∧ w.cnt = cntAll l m w.beg ∧ l.most < w.cnt := by
  obtain ⟨i, _, hw⟩ := List.mem_flatMap.1 hw
  unfold excI at hw
  split at hw
  · rename_i l hi
    obtain ⟨b, hb, hw⟩ := List.mem_flatMap.1 hw
    unfold excB at hw
    split at hw
    · rw [List.mem_singleton.1 hw]; exact ⟨i, l, rfl, hi, hb, rfl, by assumption⟩
    · cases hw
  · cases hw
theorem cnt_told {l : Lim} {m : List Mov} {b : Int} (h : chkLim l = 0) (hm : chkMovs m = 0) (hb : b ∈ windowsL l) : cntE l m b = 0 ∧ cntR l m b = cntAll l m b := by
  have h1 := windowsL_mem h hb
  have hc : cntC l m b = 0 := firstE_cons.2 ⟨h, firstE_cons.2 ⟨hm, firstE_cons.2 ⟨rng_0.2 (by omega), rfl⟩⟩⟩
  have hE : cntE l m b = 0 := by rw [cntE, if_pos hc, if_pos (win_at h hb)]
  exact ⟨hE, by rw [cntR, if_pos hE]⟩
def acT3 : AC := .seq (.ops false [⟨some 4,.mv,[.c (.b false)],none,[]⟩]) (.seq (.ops false [⟨some 23,.mv,[.t 0],none,[]⟩,⟨some 24,.call 4,[.t 23],none,[0]⟩,⟨some 5,.mv,[.t 24],none,[1,1,0,1]⟩]) (.seq (.seq (.ops false [⟨some 25,.mv,[.t 5],none,[]⟩,⟨some 26,.mv,[.t 1],none,[]⟩,⟨some 27,.call 5,[.t 25,.t 26],none,[0,1]⟩,⟨some 28,.not,[.t 27],none,[2]⟩]) (.cond (.t 28) (.seq (.ops false [⟨some 29,.call 6,[],none,[]⟩,⟨some 4,.mv,[.t 29],none,[0,0,0]⟩]) .ret) .skip)) (.seq (.ops false [⟨some 31,.mv,[.t 0],none,[]⟩,⟨some 32,.mv,[.t 1],none,[]⟩,⟨some 33,.call 7,[.t 31,.t 32],none,[0,1]⟩,⟨some 30,.mv,[.t 33],none,[2]⟩,⟨some 34,.ext 0,[.t 30],none,[3]⟩,⟨some 35,.ext 1,[.t 30],none,[3]⟩,⟨some 6,.mv,[.t 34],none,[4,2,0,1,2,3,4]⟩,⟨some 7,.mv,[.t 35],none,[5,6,0,1,2,3,4,5,6]⟩]) (.seq (.ops false [⟨some 37,.mv,[.t 0],none,[]⟩,⟨some 38,.mv,[.t 1],none,[]⟩,⟨some 39,.call 8,[.t 37,.t 38],none,[0,1]⟩,⟨some 36,.mv,[.t 39],none,[2]⟩,⟨some 40,.ext 0,[.t 36],none,[3]⟩,⟨some 41,.ext 1,[.t 36],none,[3]⟩,⟨some 8,.alloc [(.i .i64 0),(.i .i64 0),(.i .i64 0)],[],none,[]⟩,⟨none,.store 3,[.t 8,.t 40],none,[6,4,2,0,1,2,3,4,6]⟩,⟨some 9,.mv,[.t 41],none,[5,7,0,1,2,3,4,5,6,7]⟩]) (.seq (.seq (.ops false [⟨some 42,.mv,[.t 7],none,[]⟩,⟨some 43,.bin .neq,[.t 42,.c (.i .i64 0)],none,[0]⟩,⟨some 44,.mv,[.t 43],none,[1]⟩,⟨some 45,.mv,[.t 9],some (44,false),[2]⟩,⟨some 46,.bin .eql,[.t 45,.c (.i .i64 0)],some (44,false),[3,2]⟩,⟨some 47,.mv,[.t 6],some (44,false),[2]⟩,⟨some 48,.len false,[.t 47],some (44,false),[5,2]⟩,⟨some 49,.bin .gtr,[.t 48,.c (.i .i64 0)],some (44,false),[6,2]⟩,⟨some 50,.eq true [0] false,[.t 46,.t 49],some (44,false),[4,7,2]⟩,⟨some 51,.pick,[.t 44,.c (.b true),.t 50],none,[2,8]⟩,⟨some 52,.mv,[.t 51],none,[9,2]⟩,⟨some 53,.mv,[.t 9],some (52,false),[10]⟩,⟨some 54,.bin .neq,[.t 53,.c (.i .i64 0)],some (52,false),[11,10]⟩,⟨some 55,.mv,[.t 54],some (52,false),[12,10,10]⟩,⟨some 56,.mv,[.t 9],some (55,true),[13]⟩,⟨some 57,.bin .neq,[.t 56,.c (.i .i64 7)],some (55,true),[14,13]⟩,⟨some 58,.pick,[.t 55,.t 57,.c (.b false)],some (52,false),[13,15,10]⟩,⟨some 59,.pick,[.t 52,.c (.b true),.t 58],none,[10,16]⟩,⟨some 60,.mv,[.t 59],none,[17,13]⟩,⟨some 61,.mv,[.t 6],some (60,false),[18]⟩,⟨some 62,.len false,[.t 61],some (60,false),[19,18]⟩,⟨some 63,.bin .gtr,[.t 62,.c (.i .i64 400)],some (60,false),[20,18]⟩,⟨some 64,.pick,[.t 60,.c (.b true),.t 63],none,[18,21]⟩]) (.cond (.t 64) (.seq (.ops false [⟨some 4,.mv,[.c (.b false)],none,[]⟩]) .ret) .skip)) (.seq (.seq (.ops false [⟨some 65,.mv,[.t 6],none,[]⟩,⟨some 66,.len false,[.t 65],none,[0]⟩,⟨some 67,.mv,[.c (.i .i64 0)],none,[]⟩]) (.block 0 (.loop (.seq (.ops false [⟨some 68,.bin .lss,[.t 67,.t 66],none,[]⟩]) (.seq (.cond (.t 68) .skip (.exit 0)) (.seq (.block 1 (.seq (.ops false [⟨some 69,.mv,[.t 67],none,[]⟩,⟨some 70,.iadrS 3,[.t 65,.t 67],none,[]⟩,⟨some 71,.load 3 true,[.t 70],none,[1]⟩,⟨some 11,.alloc [(.i .i64 0),(.i .i64 0),(.i .i64 0)],[],none,[]⟩,⟨some 10,.mv,[.t 69],none,[0,0,1,2,3]⟩,⟨none,.store 3,[.t 11,.t 71],none,[3,2,4,0,1,2,3,4]⟩]) (.seq (.seq (.ops true [⟨some 72,.fadr 0,[.t 11],none,[]⟩,⟨some 73,.load 1 false,[.t 72],none,[0]⟩,⟨some 74,.bin .lss,[.t 73,.c (.i .i64 0)],none,[1]⟩,⟨some 75,.mv,[.t 74],none,[2]⟩,⟨some 76,.fadr 0,[.t 11],some (75,false),[3]⟩,⟨some 77,.load 1 false,[.t 76],some (75,false),[4,3]⟩,⟨some 78,.mv,[.t 0],some (75,false),[3]⟩,⟨some 79,.len false,[.t 78],some (75,false),[6,3]⟩,⟨some 80,.bin .geq,[.t 77,.t 79],some (75,false),[5,7,3]⟩,⟨some 81,.pick,[.t 75,.c (.b true),.t 80],none,[3,8]⟩,⟨some 82,.mv,[.t 81],none,[9,3]⟩,⟨some 83,.fadr 2,[.t 11],some (82,false),[10]⟩,⟨some 84,.load 1 false,[.t 83],some (82,false),[11,10]⟩,⟨some 85,.mv,[.t 0],some (82,false),[10]⟩,⟨some 86,.fadr 0,[.t 11],some (82,false),[10]⟩,⟨some 87,.load 1 false,[.t 86],some (82,false),[14,10]⟩,⟨some 88,.iadrS 11,[.t 85,.t 87],some (82,false),[13,15,10]⟩,⟨some 89,.fadr 10,[.t 88],some (82,false),[16,10]⟩,⟨some 90,.load 1 false,[.t 89],some (82,false),[17,10]⟩,⟨some 91,.bin .leq,[.t 84,.t 90],some (82,false),[12,18,10]⟩,⟨some 92,.pick,[.t 82,.c (.b true),.t 91],none,[10,19]⟩,⟨some 93,.mv,[.t 92],none,[20,10]⟩,⟨some 94,.mv,[.t 10],some (93,false),[21]⟩,⟨some 95,.bin .eql,[.t 94,.c (.i .i64 0)],some (93,false),[22,21]⟩,⟨some 96,.mv,[.t 95],some (93,false),[23,21,21]⟩,⟨some 97,.load 3 true,[.t 8],some (96,true),[24]⟩,⟨some 98,.load 3 true,[.t 11],some (96,true),[24]⟩,⟨some 99,.eq true [1,1,1] true,[.t 97,.t 98],some (96,true),[25,26,24]⟩,⟨some 100,.pick,[.t 96,.t 99,.c (.b false)],some (93,false),[24,27,21]⟩,⟨some 101,.pick,[.t 93,.c (.b true),.t 100],none,[21,28]⟩,⟨some 102,.mv,[.t 101],none,[29,24]⟩,⟨some 103,.mv,[.t 10],some (102,false),[30]⟩,⟨some 104,.bin .gtr,[.t 103,.c (.i .i64 0)],some (102,false),[31,30]⟩,⟨some 105,.mv,[.t 104],some (102,false),[32,30,30]⟩,⟨some 106,.fadr 0,[.t 11],some (105,true),[33]⟩,⟨some 107,.load 1 false,[.t 106],some (105,true),[34,33]⟩,⟨some 108,.mv,[.t 6],some (105,true),[33]⟩,⟨some 109,.mv,[.t 10],some (105,true),[33]⟩,⟨some 110,.bin .sub,[.t 109,.c (.i .i64 1)],some (105,true),[37,33]⟩,⟨some 111,.iadrS 3,[.t 108,.t 110],some (105,true),[36,38,33]⟩,⟨some 112,.fadr 0,[.t 111],some (105,true),[39,33]⟩,⟨some 113,.load 1 false,[.t 112],some (105,true),[40,33]⟩,⟨some 114,.bin .lss,[.t 107,.t 113],some (105,true),[35,41,33]⟩,⟨some 115,.mv,[.t 114],some (105,true),[42,33,33]⟩,⟨some 116,.fadr 0,[.t 11],some (115,false),[43]⟩,⟨some 117,.load 1 false,[.t 116],some (115,false),[44,43]⟩,⟨some 118,.mv,[.t 6],some (115,false),[43]⟩,⟨some 119,.mv,[.t 10],some (115,false),[43]⟩,⟨some 120,.bin .sub,[.t 119,.c (.i .i64 1)],some (115,false),[47,43]⟩,⟨some 121,.iadrS 3,[.t 118,.t 120],some (115,false),[46,48,43]⟩,⟨some 122,.fadr 0,[.t 121],some (115,false),[49,43]⟩,⟨some 123,.load 1 false,[.t 122],some (115,false),[50,43]⟩,⟨some 124,.bin .eql,[.t 117,.t 123],some (115,false),[45,51,43]⟩,⟨some 125,.mv,[.t 124],some (115,false),[52,43,43]⟩,⟨some 126,.fadr 1,[.t 11],some (125,true),[53]⟩,⟨some 127,.load 1 false,[.t 126],some (125,true),[54,53]⟩,⟨some 128,.mv,[.t 6],some (125,true),[53]⟩,⟨some 129,.mv,[.t 10],some (125,true),[53]⟩,⟨some 130,.bin .sub,[.t 129,.c (.i .i64 1)],some (125,true),[57,53]⟩,⟨some 131,.iadrS 3,[.t 128,.t 130],some (125,true),[56,58,53]⟩,⟨some 132,.fadr 1,[.t 131],some (125,true),[59,53]⟩,⟨some 133,.load 1 false,[.t 132],some (125,true),[60,53]⟩,⟨some 134,.bin .leq,[.t 127,.t 133],some (125,true),[55,61,53]⟩,⟨some 135,.pick,[.t 125,.t 134,.c (.b false)],some (115,false),[53,62,43]⟩,⟨some 136,.pick,[.t 115,.c (.b true),.t 135],some (105,true),[43,63,33]⟩,⟨some 137,.pick,[.t 105,.t 136,.c (.b false)],some (102,false),[33,64,30]⟩,⟨some 138,.pick,[.t 102,.c (.b true),.t 137],none,[30,65]⟩]) (.cond (.t 138) (.seq (.ops false [⟨some 4,.mv,[.c (.b false)],none,[]⟩]) .ret) .skip)) (.seq (.ops true [⟨some 140,.mv,[.t 0],none,[]⟩,⟨some 141,.fadr 0,[.t 11],none,[]⟩,⟨some 142,.load 1 false,[.t 141],none,[1]⟩,⟨some 143,.iadrS 11,[.t 140,.t 142],none,[0,2]⟩,⟨some 144,.load 11 true,[.t 143],none,[3]⟩,⟨some 145,.mv,[.t 1],none,[]⟩,⟨some 146,.fadr 1,[.t 11],none,[]⟩,⟨some 147,.load 1 false,[.t 146],none,[6]⟩,⟨some 148,.call 9,[.t 144,.t 145,.t 147],none,[4,5,7]⟩,⟨some 139,.mv,[.t 148],none,[8]⟩,⟨some 149,.ext 0,[.t 139],none,[9]⟩,⟨some 150,.ext 1,[.t 139],none,[9]⟩,⟨some 12,.mv,[.t 149],none,[10,8,0,1,2,3,4,5,6,7,8,9,10]⟩,⟨some 13,.mv,[.t 150],none,[11,12,0,1,2,3,4,5,6,7,8,9,10,11,12]⟩]) (.seq (.ops false [⟨some 151,.mv,[.t 13],none,[]⟩,⟨some 152,.bin .neq,[.t 151,.c (.i .i64 0)],none,[0]⟩,⟨some 153,.mv,[.t 152],none,[1]⟩,⟨some 154,.mv,[.t 12],some (153,false),[2]⟩,⟨some 155,.fadr 2,[.t 11],some (153,false),[2]⟩,⟨some 156,.load 1 false,[.t 155],some (153,false),[4,2]⟩,⟨some 157,.bin .neq,[.t 154,.t 156],some (153,false),[3,5,2]⟩,⟨some 158,.pick,[.t 153,.c (.b true),.t 157],none,[2,6]⟩]) (.cond (.t 158) (.seq (.ops false [⟨some 4,.mv,[.c (.b false)],none,[]⟩]) .ret) .skip)))))) (.ops false [⟨some 159,.bin .add,[.t 67,.c (.i .i64 1)],none,[]⟩,⟨some 67,.mv,[.t 159],none,[0]⟩]))))))) (.seq (.ops false [⟨some 160,.bslice 39 11 (.agg [(.s (bs [])),(.s (bs [])),(.s (bs [])),(.i .i64 0),(.i .i64 0),(.i .i64 0),(.i .i64 0),(.i .i64 0),(.i .i64 0),(.i .i64 0),(.i .i64 0)]) 0 [],[],none,[]⟩,⟨some 161,.mv,[.t 0],none,[]⟩,⟨some 162,.app 39 11 112,[.t 160,.t 161],none,[0,1]⟩,⟨some 14,.mv,[.t 162],none,[2,2,0,1,2]⟩]) (.seq (.seq (.ops false [⟨some 163,.mv,[.t 0],none,[]⟩,⟨some 164,.len false,[.t 163],none,[0]⟩,⟨some 165,.mv,[.c (.i .i64 0)],none,[]⟩]) (.block 2 (.loop (.seq (.ops false [⟨some 166,.bin .lss,[.t 165,.t 164],none,[]⟩]) (.seq (.cond (.t 166) .skip (.exit 2)) (.seq (.block 3 (.seq (.ops false [⟨some 167,.mv,[.t 165],none,[]⟩,⟨some 15,.mv,[.t 167],none,[0,0]⟩]) (.seq (.ops false [⟨some 169,.mv,[.t 0],none,[]⟩,⟨some 170,.mv,[.t 15],none,[]⟩,⟨some 171,.iadrS 11,[.t 169,.t 170],none,[0,1]⟩,⟨some 172,.load 11 true,[.t 171],none,[2]⟩,⟨some 173,.mv,[.t 1],none,[]⟩,⟨some 174,.call 10,[.t 172,.t 173],none,[3,4]⟩,⟨some 168,.mv,[.t 174],none,[5]⟩,⟨some 175,.ext 0,[.t 168],none,[6]⟩,⟨some 176,.ext 1,[.t 168],none,[6]⟩,⟨some 16,.alloc [(.i .i64 0),(.i .i64 0),(.i .i64 0)],[],none,[]⟩,⟨none,.store 3,[.t 16,.t 175],none,[9,7,5,0,1,2,3,4,5,6,7,9]⟩,⟨some 17,.mv,[.t 176],none,[8,10,0,1,2,3,4,5,6,7,8,9,10]⟩]) (.seq (.seq (.ops false [⟨some 177,.mv,[.t 17],none,[]⟩,⟨some 178,.bin .eql,[.t 177,.c (.i .i64 7)],none,[0]⟩]) (.cond (.t 178) (.exit 3) .skip)) (.seq (.seq (.ops false [⟨some 179,.mv,[.t 17],none,[]⟩,⟨some 180,.bin .neq,[.t 179,.c (.i .i64 0)],none,[0]⟩,⟨some 181,.mv,[.t 180],none,[1]⟩,⟨some 182,.fadr 2,[.t 16],some (181,false),[2]⟩,⟨some 183,.load 1 false,[.t 182],some (181,false),[3,2]⟩,⟨some 184,.bin .lss,[.t 183,.c (.i .i64 0)],some (181,false),[4,2]⟩,⟨some 185,.pick,[.t 181,.c (.b true),.t 184],none,[2,5]⟩,⟨some 186,.mv,[.t 185],none,[6,2]⟩,⟨some 187,.fadr 2,[.t 16],some (186,false),[7]⟩,⟨some 188,.load 1 false,[.t 187],some (186,false),[8,7]⟩,⟨some 189,.mv,[.t 1],some (186,false),[7]⟩,⟨some 190,.len false,[.t 189],some (186,false),[10,7]⟩,⟨some 191,.bin .gtr,[.t 188,.t 190],some (186,false),[9,11,7]⟩,⟨some 192,.pick,[.t 186,.c (.b true),.t 191],none,[7,12]⟩]) (.cond (.t 192) (.seq (.ops false [⟨some 4,.mv,[.c (.b false)],none,[]⟩]) .ret) .skip)) (.seq (.ops false [⟨some 193,.mv,[.t 14],none,[]⟩,⟨some 194,.mv,[.t 15],none,[]⟩,⟨some 195,.fadr 2,[.t 16],none,[]⟩,⟨some 196,.load 1 false,[.t 195],none,[2]⟩,⟨some 197,.iadrS 11,[.t 193,.t 194],none,[0,1,0,1,2,3]⟩,⟨some 198,.fadr 10,[.t 197],none,[4,0,1,2,3]⟩,⟨none,.store 1,[.t 198,.t 196],none,[5,3,0,1,2,3]⟩]) (.seq (.seq (.ops false [⟨some 199,.fadr 2,[.t 16],none,[]⟩,⟨some 200,.load 1 false,[.t 199],none,[0]⟩,⟨some 201,.bin .eql,[.t 200,.c (.i .i64 0)],none,[1]⟩]) (.cond (.t 201) (.exit 3) .skip)) (.seq (.ops false [⟨some 202,.mv,[.t 0],none,[]⟩,⟨some 203,.mv,[.t 15],none,[]⟩,⟨some 204,.iadrS 11,[.t 202,.t 203],none,[0,1]⟩,⟨some 205,.load 11 true,[.t 204],none,[2]⟩,⟨some 18,.alloc [(.s (bs [])),(.s (bs [])),(.s (bs [])),(.i .i64 0),(.i .i64 0),(.i .i64 0),(.i .i64 0),(.i .i64 0),(.i .i64 0),(.i .i64 0),(.i .i64 0)],[],none,[]⟩,⟨none,.store 11,[.t 18,.t 205],none,[4,3,0,1,2,3,4]⟩]) (.seq (.ops false [⟨some 206,.fadr 2,[.t 16],none,[]⟩,⟨some 207,.load 1 false,[.t 206],none,[0]⟩,⟨some 208,.bin .sub,[.t 207,.c (.i .i64 1)],none,[1]⟩,⟨some 209,.fadr 10,[.t 18],none,[0,1,2]⟩,⟨none,.store 1,[.t 209,.t 208],none,[3,2,0,1,2]⟩]) (.seq (.ops false [⟨some 211,.load 11 true,[.t 18],none,[]⟩,⟨some 212,.bslice 39 11 (.agg [(.s (bs [])),(.s (bs [])),(.s (bs [])),(.i .i64 0),(.i .i64 0),(.i .i64 0),(.i .i64 0),(.i .i64 0),(.i .i64 0),(.i .i64 0),(.i .i64 0)]) 1 [0],[.t 211],none,[0]⟩,⟨some 213,.mv,[.t 1],none,[]⟩,⟨some 214,.call 8,[.t 212,.t 213],none,[1,2]⟩,⟨some 210,.mv,[.t 214],none,[3]⟩,⟨some 215,.ext 0,[.t 210],none,[4]⟩,⟨some 216,.ext 1,[.t 210],none,[4]⟩,⟨some 19,.alloc [(.i .i64 0),(.i .i64 0),(.i .i64 0)],[],none,[]⟩,⟨none,.store 3,[.t 19,.t 215],none,[7,5,3,0,1,2,3,4,5,7]⟩,⟨some 20,.mv,[.t 216],none,[6,8,0,1,2,3,4,5,6,7,8]⟩]) (.seq (.ops false [⟨some 217,.mv,[.t 20],none,[]⟩,⟨some 218,.bin .neq,[.t 217,.c (.i .i64 0)],none,[0]⟩,⟨some 219,.mv,[.t 218],none,[1]⟩,⟨some 220,.load 3 true,[.t 19],some (219,false),[2]⟩,⟨some 221,.load 3 true,[.t 16],some (219,false),[2]⟩,⟨some 222,.eq true [1,1,1] true,[.t 220,.t 221],some (219,false),[3,4,2]⟩,⟨some 223,.pick,[.t 219,.c (.b true),.t 222],none,[2,5]⟩]) (.cond (.t 223) (.seq (.ops false [⟨some 4,.mv,[.c (.b false)],none,[]⟩]) .ret) .skip)))))))))))) (.ops false [⟨some 224,.bin .add,[.t 165,.c (.i .i64 1)],none,[]⟩,⟨some 165,.mv,[.t 224],none,[0]⟩]))))))) (.seq (.ops false [⟨some 226,.mv,[.t 14],none,[]⟩,⟨some 227,.mv,[.t 1],none,[]⟩,⟨some 228,.call 8,[.t 226,.t 227],none,[0,1]⟩,⟨some 225,.mv,[.t 228],none,[2]⟩,⟨some 229,.ext 0,[.t 225],none,[3]⟩,⟨some 230,.ext 1,[.t 225],none,[3]⟩,⟨some 21,.alloc [(.i .i64 0),(.i .i64 0),(.i .i64 0)],[],none,[]⟩,⟨none,.store 3,[.t 21,.t 229],none,[6,4,2,0,1,2,3,4,6]⟩,⟨some 22,.mv,[.t 230],none,[5,7,0,1,2,3,4,5,6,7]⟩]) (.seq (.ops false [⟨some 231,.mv,[.t 22],none,[]⟩,⟨some 232,.bin .eql,[.t 231,.c (.i .i64 7)],none,[0]⟩,⟨some 233,.mv,[.t 232],none,[1]⟩,⟨some 234,.call 6,[],some (233,true),[2,2]⟩,⟨some 235,.pick,[.t 233,.t 234,.c (.b false)],none,[2,3]⟩,⟨some 4,.mv,[.t 235],none,[4,3,0,1,2,3,4]⟩]) .ret))))))))))
def rsT3 : List RV := [.tmp 4]
theorem factT3 : compF Try.prog 3 = some (acT3,rsT3,236) := by kernel_rfl
theorem pureT (l : List Lim) (m : List Mov) (hn : l.length * 112 ≤ 140737488355328) : Pure Try.prog 3 [.sl 11 (l.map Lim.pv), .sl 7 (m.map Mov.pv)] (.b true) := by
  refine pure_by factT3 (by simp) fun hw X hX => ?_
  unfold acT3 rsT3
  cases hs : smallB l m with
  | false =>
    have qe := And.intro qR @hs; repeat' first | (show Run _ (.cond _ _ _) _ _; refine run_condX (fun hc => ?_) (fun hc => ?_) <;> (try simp only [qH, rng_0] at hc) <;> try contradiction) | (show RunOps _ _ _ _ (⟨_, .call 4, _, _, _⟩ :: _) _ _; refine run_callX (hf := pure14 l hn) (hn := ?_)) | (show RunOps _ _ _ _ (⟨_, .call 5, _, _, _⟩ :: _) _ _; refine run_callX (hf := pure60 l m) (hn := ?_)) | (show RunOps _ _ _ _ (⟨_, .call 6, _, _, _⟩ :: _) _ _; refine run_callX (hf := pure18) (hn := ?_)) | (first | refine Stp.h ?_ | (show ∀ K : St → List Ft → Prop, _; intro K hK) | (show runS _ _ _ _ _; first | refine qY (hq := ?_) | refine qZ (hq := ?_)) | (refine hK _ _ ?_; clear hK K) | (refine hK _ _ rfl ?_; clear hK K) | (refine qZ (hq := ?_); try exact trivial) | omega)
    all_goals exact .refl _
  | true =>
    obtain ⟨g1, g2, g3, g4, g5, g6⟩ := small_0 hs
    have hl := chkLims_0 g5
    have hm := chkMovs_0 g6
    have b1 : bothC l m = 0 := firstE_cons.2 ⟨g5, firstE_cons.2 ⟨g6, rfl⟩⟩
    have hx1 := exc_short (m := m) g5 g3
    have e1 : exE l m = 0 := by rw [exE, if_pos b1, if_neg (by omega)]
    have e3 : exR l m = excW l m := by rw [exR, if_pos e1]
    have hasc := exc_asc (m := m) hl.2
    have hall := fun l => eq_true (allLm l)
    have hd : decide (firE l m = 0) = decide (0 < ((excW l m).length : Int)) := by
      rw [firE, if_pos b1]
      cases excW l m with
      | nil => rfl
      | cons w r => first | (simp; done) | (simp; omega)
    have hd7 : decide (firE l m = 7) = !decide (0 < ((excW l m).length : Int)) := by
      rw [firE, if_pos b1]
      cases excW l m with
      | nil => rfl
      | cons w r => first | (simp; done) | (simp; omega)
    have h4 : (400 < ((excW l m).length : Int)) = False := eq_false (by omega)
    have hnn := fun p : Bool => Bool.not_and_self p
    have hnm := fun p : Bool => Bool.and_not_self p
    have qe := And.intro qR (And.intro @hs (And.intro @e1 (And.intro @e3 (And.intro @hd (And.intro @hd7 (And.intro @h4 (And.intro @hnn (And.intro @hnm (And.intro @dec_self @decB_self))))))))); repeat' first | (show Run _ (.cond _ _ _) _ _; refine run_condX (fun hc => ?_) (fun hc => ?_) <;> (try simp only [qH, rng_0] at hc) <;> try contradiction) | (show RunOps _ _ _ _ (⟨_, .call 4, _, _, _⟩ :: _) _ _; refine run_callX (hf := pure14 l hn) (hn := ?_)) | (show RunOps _ _ _ _ (⟨_, .call 5, _, _, _⟩ :: _) _ _; refine run_callX (hf := pure60 l m) (hn := ?_)) | (show RunOps _ _ _ _ (⟨_, .call 7, _, _, _⟩ :: _) _ _; refine run_callX (hf := pure58 l m) (hn := ?_)) | (show RunOps _ _ _ _ (⟨_, .call 8, _, _, _⟩ :: _) _ _; refine run_callX (hf := pure57 l m) (hn := ?_)) | (show RunOps _ _ _ _ (⟨_, .call 6, _, _, _⟩ :: _) _ _; refine run_callX (hf := pure18) (hn := ?_)) | (first | refine Stp.h ?_ | (show ∀ K : St → List Ft → Prop, _; intro K hK) | (show runS _ _ _ _ _; first | refine qY (hq := ?_) | refine qZ (hq := ?_)) | (refine hK _ _ ?_; clear hK K) | (refine hK _ _ rfl ?_; clear hK K) | (refine qZ (hq := ?_); try exact trivial) | omega)
    all_goals first | exact .refl _ | skip
    refine run_loop (κ := Nat) (fun k => ⟨[(0, .p (.sl 11 (l.map Lim.pv))), (1, .p (.sl 7 (m.map Mov.pv))), (6, .p (.sl 3 ((excW l m).map Win.pv))), (8, .lp 8 0), (65, .p (.sl 3 ((excW l m).map Win.pv))), (66, .p (.i .i64 (excW l m).length)), (67, .p (.i .i64 k))], [(8, .box [.p (.i .i64 (firR l m).lim), .p (.i .i64 (firR l m).beg), .p (.i .i64 (firR l m).cnt)] false)], [], false⟩) (fun k => k ≤ (excW l m).length) (fun k => (excW l m).length - k) 0 ?_ ?_ ?_
    · simp only [qS, Nat.reduceAdd, Nat.reduceMul, Nat.reduceEqDiff, Nat.reduceLeDiff, reduceIte, reduceCtorEq, Nat.reduceBEq, Nat.reduceLT] <;> simp
    · simp
    · intro k hk
      by_cases hkl : k < (excW l m).length
      · obtain ⟨w, hw1⟩ := some_at (i := k) (l := excW l m) hkl
        obtain ⟨i, x, hwl, hli, hwb, hwc, hmo⟩ := exc_at (List.mem_of_getElem? hw1)
        have hil := (List.getElem?_eq_some_iff.1 hli).1
        have hxc := hl.2 x (List.mem_of_getElem? hli)
        obtain ⟨c1, c2⟩ := cnt_told hxc g6 hwb
        rw [← hwc] at c2
        have f1 : ((i : Int) < 0) = False := eq_false (by omega)
        have f2 : ((l.length : Int) ≤ i) = False := eq_false (by omega)
        have f3 : (w.cnt ≤ x.most) = False := eq_false (by omega)
        cases k with
        | zero =>
          have i0 : (((0 : Nat) : Int) = 0) = True := eq_true rfl
          have i1 : (0 < ((0 : Nat) : Int)) = False := eq_false (by omega)
          have hf : firR l m = w := by
            rw [firR, if_pos b1]
            cases h : excW l m with
            | nil => rw [h] at hw1; simp at hw1
            | cons v r => rw [h] at hw1; simp at hw1; exact hw1
          have iz : (((0 : Nat) : Int) - 1).toNat = 0 := rfl
          have qe := And.intro qR (And.intro @hw1 (And.intro @hwl (And.intro @hli (And.intro @f1 (And.intro @f2 (And.intro @f3 (And.intro @i0 (And.intro @i1 (And.intro @iz (And.intro @hf (And.intro @c1 (And.intro @c2 @dec_self)))))))))))); repeat' first | (show Run _ (.cond _ _ _) _ _; refine run_condX (fun hc => ?_) (fun hc => ?_) <;> (try simp only [qH, rng_0] at hc) <;> try contradiction) | (show RunOps _ _ _ _ (⟨_, .call 9, _, _, _⟩ :: _) _ _; refine run_callX (hf := pure29 x m w.beg) (hn := ?_)) | (first | refine Stp.h ?_ | (show ∀ K : St → List Ft → Prop, _; intro K hK) | (show runS _ _ _ _ _; first | refine qY (hq := ?_) | refine qZ (hq := ?_)) | (refine hK _ _ ?_; clear hK K) | (refine hK _ _ rfl ?_; clear hK K) | (refine qZ (hq := ?_); try exact trivial) | omega)
          all_goals first | exact ⟨1, by omega, by omega, by first | rfl | simp⟩
        | succ k =>
          have i0 : (((k + 1 : Nat) : Int) = 0) = False := eq_false (by omega)
          have i1 : (0 < ((k + 1 : Nat) : Int)) = True := eq_true (by omega)
          have i2 : ((k + 1 : Nat) : Int) - 1 = (k : Int) := by omega
          obtain ⟨v, hv1⟩ := some_at (i := k) (l := excW l m) (by omega)
          have hvw : WinLt v w := by
            have := List.pairwise_iff_getElem.1 hasc k (k + 1) (by omega) hkl (by omega)
            rw [(List.getElem?_eq_some_iff.1 hv1).2, (List.getElem?_eq_some_iff.1 hw1).2] at this
            exact this
          rcases hvw with hlt | ⟨heq, hlt⟩
          · have f4 : ((i : Int) < v.lim) = False := eq_false (by omega)
            have f5 : ((i : Int) = v.lim) = False := eq_false (by omega)
            have qe := And.intro qR (And.intro @hw1 (And.intro @hv1 (And.intro @hwl (And.intro @hli (And.intro @f1 (And.intro @f2 (And.intro @f3 (And.intro @f4 (And.intro @f5 (And.intro @i0 (And.intro @i1 (And.intro @i2 (And.intro @c1 (And.intro @c2 @dec_self)))))))))))))); repeat' first | (show Run _ (.cond _ _ _) _ _; refine run_condX (fun hc => ?_) (fun hc => ?_) <;> (try simp only [qH, rng_0] at hc) <;> try contradiction) | (show RunOps _ _ _ _ (⟨_, .call 9, _, _, _⟩ :: _) _ _; refine run_callX (hf := pure29 x m w.beg) (hn := ?_)) | (first | refine Stp.h ?_ | (show ∀ K : St → List Ft → Prop, _; intro K hK) | (show runS _ _ _ _ _; first | refine qY (hq := ?_) | refine qZ (hq := ?_)) | (refine hK _ _ ?_; clear hK K) | (refine hK _ _ rfl ?_; clear hK K) | (refine qZ (hq := ?_); try exact trivial) | omega)
            all_goals first | exact ⟨k + 2, by omega, by omega, by simp only [LV.p.injEq, PV.i.injEq, true_and]; omega⟩
          · have f4 : ((i : Int) < v.lim) = False := eq_false (by omega)
            have f5 : ((i : Int) = v.lim) = True := eq_true (by omega)
            have f6 : (w.beg ≤ v.beg) = False := eq_false (by omega)
            have qe := And.intro qR (And.intro @hw1 (And.intro @hv1 (And.intro @hwl (And.intro @hli (And.intro @f1 (And.intro @f2 (And.intro @f3 (And.intro @f4 (And.intro @f5 (And.intro @f6 (And.intro @i0 (And.intro @i1 (And.intro @i2 (And.intro @c1 (And.intro @c2 @dec_self))))))))))))))); repeat' first | (show Run _ (.cond _ _ _) _ _; refine run_condX (fun hc => ?_) (fun hc => ?_) <;> (try simp only [qH, rng_0] at hc) <;> try contradiction) | (show RunOps _ _ _ _ (⟨_, .call 9, _, _, _⟩ :: _) _ _; refine run_callX (hf := pure29 x m w.beg) (hn := ?_)) | (first | refine Stp.h ?_ | (show ∀ K : St → List Ft → Prop, _; intro K hK) | (show runS _ _ _ _ _; first | refine qY (hq := ?_) | refine qZ (hq := ?_)) | (refine hK _ _ ?_; clear hK K) | (refine hK _ _ rfl ?_; clear hK K) | (refine qZ (hq := ?_); try exact trivial) | omega)
            all_goals first | exact ⟨k + 2, by omega, by omega, by simp only [LV.p.injEq, PV.i.injEq, true_and]; omega⟩
      · have qe := And.intro qR @hall; repeat' first | (show Run _ (.cond _ _ _) _ _; refine run_condX (fun hc => ?_) (fun hc => ?_) <;> (try simp only [qH, rng_0] at hc) <;> try contradiction) | (show RunOps _ _ _ _ (⟨_, .call 6, _, _, _⟩ :: _) _ _; refine run_callX (hf := pure18) (hn := ?_)) | (first | refine Stp.h ?_ | (show ∀ K : St → List Ft → Prop, _; intro K hK) | (show runS _ _ _ _ _; first | refine qY (hq := ?_) | refine qZ (hq := ?_)) | (refine hK _ _ ?_; clear hK K) | (refine hK _ _ rfl ?_; clear hK K) | (refine qZ (hq := ?_); try exact trivial) | omega)
        refine run_loop (κ := Nat) (fun k => ⟨[(0, .p (.sl 11 (l.map Lim.pv))), (1, .p (.sl 7 (m.map Mov.pv))), (14, .row 160 l.length), (163, .p (.sl 11 (l.map Lim.pv))), (164, .p (.i .i64 l.length)), (165, .p (.i .i64 k))], [(160, .row 39 11 ((rsK l m k).map Lim.pv) false)], [], false⟩) (fun k => k ≤ l.length) (fun k => l.length - k) 0 ?_ ?_ ?_
        · simp only [qS, Nat.reduceAdd, Nat.reduceMul, Nat.reduceEqDiff, Nat.reduceLeDiff, reduceIte, reduceCtorEq, Nat.reduceBEq, Nat.reduceLT] <;> simp [rsK]
        · simp
        · intro k hk2
          have hrl := rsK_len (l := l) (m := m) hk2
          by_cases hkl2 : k < l.length
          · obtain ⟨x, hx⟩ := some_at (i := k) (l := l) hkl2
            have hxc := hl.2 x (List.mem_of_getElem? hx)
            have hra := rsK_at (m := m) hx
            have hpc : peakC x m = 0 := firstE_cons.2 ⟨hxc, firstE_cons.2 ⟨g6, rfl⟩⟩
            have hpr : peakR x m = ⟨0, (pkF x m (windowsL x)).2.1, (pkF x m (windowsL x)).2.2⟩ := by rw [peakR, if_pos hpc]
            cases hp : (pkF x m (windowsL x)).1 with
            | false =>
              have hpe : peakE x m = 7 := by rw [peakE, if_pos hpc, if_pos hp]
              have qe := And.intro qR (And.intro @hx (And.intro @hpe @dec_self)); repeat' first | (show Run _ (.cond _ _ _) _ _; refine run_condX (fun hc => ?_) (fun hc => ?_) <;> (try simp only [qH, rng_0] at hc) <;> try contradiction) | (show RunOps _ _ _ _ (⟨_, .call 10, _, _, _⟩ :: _) _ _; refine run_callX (hf := pure30 x m) (hn := ?_)) | (first | refine Stp.h ?_ | (show ∀ K : St → List Ft → Prop, _; intro K hK) | (show runS _ _ _ _ _; first | refine qY (hq := ?_) | refine qZ (hq := ?_)) | (refine hK _ _ ?_; clear hK K) | (refine hK _ _ rfl ?_; clear hK K) | (refine qZ (hq := ?_); try exact trivial) | omega)
              all_goals first | exact ⟨k + 1, by omega, by omega, by simp only [LV.p.injEq, PV.i.injEq, true_and]; omega, by rw [rsK_skip hx hp], by rw [rsK_len (by omega)]; exact Nat.le_refl _⟩
            | true =>
              have hpe : peakE x m = 0 := by rw [peakE, if_pos hpc, if_neg (by rw [hp]; simp)]
              have hrg := pk_range hxc m
              obtain ⟨b, hb⟩ : ∃ b, b = (pkF x m (windowsL x)).2.1 := ⟨_, rfl⟩
              obtain ⟨n, hn1⟩ : ∃ n, n = (pkF x m (windowsL x)).2.2 := ⟨_, rfl⟩
              have hrs : rsL m x = x.withMost n := by rw [rsL, if_pos hp, hn1]
              have htf := tight_first hxc hp
              rw [← hb, ← hn1] at hpr htf
              rw [← hn1] at hrg
              have q1 : (peakR x m).lim = 0 := by rw [hpr]
              have q2 : (peakR x m).beg = b := by rw [hpr]
              have q3 : (peakR x m).cnt = n := by rw [hpr]
              have f1 : (n < 0) = False := eq_false (by omega)
              have f2 : ((m.length : Int) < n) = False := eq_false (by omega)
              by_cases hz : n = 0
              · have hz' := eq_true hz
                have qe := And.intro qR (And.intro @hx (And.intro @hra (And.intro @hrl (And.intro @hpe (And.intro @q1 (And.intro @q2 (And.intro @q3 (And.intro @f1 (And.intro @f2 (And.intro @hz' @dec_self)))))))))); repeat' first | (show Run _ (.cond _ _ _) _ _; refine run_condX (fun hc => ?_) (fun hc => ?_) <;> (try simp only [qH, rng_0] at hc) <;> try contradiction) | (show RunOps _ _ _ _ (⟨_, .call 10, _, _, _⟩ :: _) _ _; refine run_callX (hf := pure30 x m) (hn := ?_)) | (first | refine Stp.h ?_ | (show ∀ K : St → List Ft → Prop, _; intro K hK) | (show runS _ _ _ _ _; first | refine qY (hq := ?_) | refine qZ (hq := ?_)) | (refine hK _ _ ?_; clear hK K) | (refine hK _ _ rfl ?_; clear hK K) | (refine qZ (hq := ?_); try exact trivial) | omega)
                all_goals first | exact ⟨k + 1, by omega, by omega, by simp only [LV.p.injEq, PV.i.injEq, true_and]; omega, by rw [← rsK_next hx, hrs, List.map_set]; rfl, by rw [rsK_len (by omega)]; exact Nat.le_refl _⟩
              · have hz' := eq_false hz
                have ht := wm_chk (n := n - 1) hxc (by omega) (by omega)
                have hbt : bothC [x.withMost (n - 1)] m = 0 := firstE_cons.2 ⟨chkLims_iff.2 ⟨by simp, by simpa using ht, by simp [names]⟩, firstE_cons.2 ⟨g6, rfl⟩⟩
                obtain ⟨r, htf⟩ := htf
                have t1 : firE [x.withMost (n - 1)] m = 0 := by rw [firE, if_pos hbt, htf]
                have t2 : firR [x.withMost (n - 1)] m = ⟨0, b, n⟩ := by rw [firR, if_pos hbt, htf]
                have t3 : (firR [x.withMost (n - 1)] m).lim = 0 := by rw [t2]
                have t4 : (firR [x.withMost (n - 1)] m).beg = b := by rw [t2]
                have t5 : (firR [x.withMost (n - 1)] m).cnt = n := by rw [t2]
                have qe := And.intro qR (And.intro @hx (And.intro @hra (And.intro @hrl (And.intro @hpe (And.intro @q1 (And.intro @q2 (And.intro @q3 (And.intro @f1 (And.intro @f2 (And.intro @hz' (And.intro @t1 (And.intro @t3 (And.intro @t4 (And.intro @t5 @dec_self)))))))))))))); repeat' first | (show Run _ (.cond _ _ _) _ _; refine run_condX (fun hc => ?_) (fun hc => ?_) <;> (try simp only [qH, rng_0] at hc) <;> try contradiction) | (show RunOps _ _ _ _ (⟨_, .call 10, _, _, _⟩ :: _) _ _; refine run_callX (hf := pure30 x m) (hn := ?_)) | (show RunOps _ _ _ _ (⟨_, .call 8, _, _, _⟩ :: _) _ _; refine run_callX (hf := pure57 [x.withMost (n - 1)] m) (hn := ?_)) | (first | refine Stp.h ?_ | (show ∀ K : St → List Ft → Prop, _; intro K hK) | (show runS _ _ _ _ _; first | refine qY (hq := ?_) | refine qZ (hq := ?_)) | (refine hK _ _ ?_; clear hK K) | (refine hK _ _ rfl ?_; clear hK K) | (refine qZ (hq := ?_); try exact trivial) | omega)
                all_goals first | exact ⟨k + 1, by omega, by omega, by simp only [LV.p.injEq, PV.i.injEq, true_and]; omega, by rw [← rsK_next hx, hrs, List.map_set]; rfl, by rw [rsK_len (by omega)]; exact Nat.le_refl _⟩
          · have e : k = l.length := by omega
            have hrc : bothC (l.map (rsL m)) m = 0 := firstE_cons.2 ⟨rs_lims g5 hm.1, firstE_cons.2 ⟨g6, rfl⟩⟩
            have hre : firE (rsK l m k) m = 7 := by rw [e, rsK_all, firE, if_pos hrc, rs_exc hl.2]
            have qe := And.intro qR (And.intro @hre (And.intro @hrl @dec_self)); repeat' first | (show Run _ (.cond _ _ _) _ _; refine run_condX (fun hc => ?_) (fun hc => ?_) <;> (try simp only [qH, rng_0] at hc) <;> try contradiction) | (show RunOps _ _ _ _ (⟨_, .call 8, _, _, _⟩ :: _) _ _; refine run_callX (hf := pure57 (rsK l m k) m) (hn := ?_)) | (show RunOps _ _ _ _ (⟨_, .call 6, _, _, _⟩ :: _) _ _; refine run_callGX (hf := fun hc => (by first | exact pure18 | (simp only [qH, rng_0] at hc; exact pure18))) (hn := ?_)) | (first | refine Stp.h ?_ | (show ∀ K : St → List Ft → Prop, _; intro K hK) | (show runS _ _ _ _ _; first | refine qY (hq := ?_) | refine qZ (hq := ?_)) | (refine hK _ _ ?_; clear hK K) | (refine hK _ _ rfl ?_; clear hK K) | (refine qZ (hq := ?_); try exact trivial) | omega)
            all_goals exact .refl _
theorem lifted3 (os : Os) (started : os.Started) (H : Type) (enc : TypeId × Value → H) : ReturnsInHanded {} Try.checked os 3 .any (Rows.capacityToldSpec.pre6 enc Try.prog Try.f3 Rows.capacityToldRow.domain false) (Rows.capacityToldSpec.post enc Try.prog Try.f3 false true false false) := by
  refine returnsInHanded_of_change_shaped (C := Try.checked) own started (by kernel_rfl) Try.func3
    (ChangeSpec.witness6 (enc := enc) (C := Try.checked) false ⟨#[], #[.slice none 0 0, .slice none 0 0], []⟩ 8 (by kernel_rfl) (by kernel_rfl) (by kernel_rfl) (by kernel_rfl)) ?_
  intro W base args ds gs before hval hW _ hsz _ _
  refine law_contract (C := Try.checked) (n := 4) (tb := 4) laid (by kernel_rfl) rfl (fun H ds hd => ?_) (by kernel_rfl) und4 (by kernel_rfl) (fun ps hps => ?_) W base args ds gs before hval hW hsz
  · match ds, hd with
    | [_, _], _ => rfl
  · match ps, hps with
    | [p0, p1], ⟨h0, h1, _⟩ =>
      obtain ⟨l, rfl, hl⟩ := fit_lims h0
      obtain ⟨m, rfl⟩ := fit_movs h1
      exact pureT l m hl
theorem told_over : Rows.capacityToldRow.holds Try.pinned (OpenSpec.ofChange Rows.capacityToldSpec) :=
  OpenClaim.holds_of_wide 3 Try.f3 rfl rfl rfl rfl rfl rfl rfl ⟨rfl, rfl, rfl, rfl, rfl⟩ rfl rfl rfl rfl rfl (by kernel_rfl) Try.func3 (by kernel_rfl)
    (of_decide_eq_true (by kernel_rfl)) (by unfold Func.isWrapper; first | (rw [if_pos (by decide +kernel)]; kernel_rfl) | (rw [if_neg (by decide +kernel)]; exact ⟨rfl, rfl⟩))
    (fun os started H enc _ => lifted3 os started H enc)
theorem told_proved : Rows.CapacityToldSaid := told_over
end Go.Proofs.Ytcfbdeghmckelaa
