/- Contracts of functions that the proof uses, shared by the claims of this seat; no statement of its own. Part 3. No conditions. -/
import Derived.Test.YtcfbdeghmckelaaGreatJ1
set_option linter.all false
namespace Go.Proofs.YtcfbdeghmckelaaGreat
open Go.RowKit
def Rec.ft (x : Rec) : Ft := ⟨x.o.dst.toList, rdT x.o, x.o.dst.getD 0 :: x.wr.map (·.1), x.ro, x.o.after, false⟩
def cfF (x y : Ft) : Bool := meets x.wt y.rt || meets x.wt y.wt || meets x.rt y.wt || meets x.wo y.ro || meets x.wo y.wo || meets x.ro y.wo
def depF (fs : List Ft) : Nat → Nat → Nat → Bool
  | 0, _, _ => false
  | f + 1, i, j => match fs[j]? with
    | some x => x.af.contains i || x.af.any fun m => depF fs f i m
    | none => false
def ylOk (fs : List Ft) (p : Nat) : Bool :=
  ((List.range p).all fun i => (List.range (p + 1)).any fun k => decide (i < k) && match fs[k]? with | some y => y.af.contains i | none => false) &&
  (List.range fs.length).all fun j => decide (j ≤ p) || match fs[j]? with | some y => y.af.any fun e => decide (p ≤ e) | none => false
def drawOkF (fs : List Ft) : Bool :=
  (List.range fs.length).all fun j => match fs[j]? with
    | some y => (y.af.all fun e => decide (e < j)) && if y.yl then ylOk fs j else (List.range j).all fun i => match fs[i]? with
      | some x => x.yl || !cfF x y || depF fs 3 i j
      | none => true
    | none => true
theorem cfF_eq (x y : Rec) : cfF x.ft y.ft = cf x y := rfl
theorem drawOkF_at {fs : List Ft} (h : drawOkF fs = true) {j : Nat} {y : Ft} (hy : fs[j]? = some y) : (∀ e ∈ y.af, e < j) ∧ (y.yl = true → ylOk fs j = true) ∧ (y.yl = false → ∀ i x, i < j → fs[i]? = some x → x.yl = false → cfF x y = true → depF fs 3 i j = true) := by
  have hj : j < fs.length := (List.getElem?_eq_some_iff.1 hy).1
  simp only [drawOkF, List.all_eq_true, List.mem_range] at h
  have := h j hj
  rw [hy] at this
  simp only [Bool.and_eq_true, List.all_eq_true, decide_eq_true_eq] at this
  refine ⟨this.1, fun e => by have := this.2; rwa [if_pos e] at this, fun e i x hi hx hxl hc => ?_⟩
  have := this.2
  rw [if_neg (by simp [e])] at this
  simp only [List.all_eq_true, List.mem_range] at this
  have := this i hi
  rw [hx] at this
  simpa [hxl, hc] using this
theorem depF_lt {fs : List Ft} (hlt : ∀ (j : Nat) (y : Ft), fs[j]? = some y → ∀ e ∈ y.af, e < j) : ∀ (f i j : Nat), depF fs f i j = true → i < j
  | 0, _, _, h => by simp [depF] at h
  | f + 1, i, j, h => by
    simp only [depF] at h
    cases hy : fs[j]? with
    | none => simp [hy] at h
    | some y =>
      simp only [hy, Bool.or_eq_true, List.any_eq_true] at h
      rcases h with h | ⟨m, hm, h⟩
      · exact hlt j y hy i (by simpa using h)
      · have := hlt j y hy m hm; have := depF_lt hlt f i m h; omega
theorem depF_seg {fs : List Ft} {b : Nat} {rs : List Rec} (hlt : ∀ (j : Nat) (y : Ft), fs[j]? = some y → ∀ e ∈ y.af, e < j) (hseg : ∀ (j : Nat) (x : Rec), rs[j]? = some x → fs[b + j]? = some x.ft) : ∀ (f i j : Nat), j < rs.length → depF fs f (b + i) (b + j) = true → dep b rs f i j = true
  | 0, _, _, _, h => by simp [depF] at h
  | f + 1, i, j, hj, h => by
    have hx := List.getElem?_eq_getElem hj
    have hy := hseg j _ hx
    simp only [depF, hy, Bool.or_eq_true, List.any_eq_true] at h
    simp only [dep, hx, Bool.or_eq_true, List.any_eq_true, Bool.and_eq_true, decide_eq_true_eq]
    rcases h with h | ⟨m, hm, h⟩
    · exact .inl h
    · have h1 := hlt _ _ hy m hm
      have h2 := depF_lt hlt f _ m h
      exact .inr ⟨m, hm, by omega, depF_seg hlt hseg f i (m - b) (by omega) (by rw [show b + (m - b) = m by omega]; exact h)⟩
theorem drawOk_seg {fs : List Ft} {b : Nat} {rs : List Rec} (h : drawOkF fs = true) (hseg : ∀ (j : Nat) (x : Rec), rs[j]? = some x → fs[b + j]? = some x.ft) : drawOk b rs = true := by
  have hlt : ∀ (j : Nat) (y : Ft), fs[j]? = some y → ∀ e ∈ y.af, e < j := fun j y hy => (drawOkF_at h hy).1
  simp only [drawOk, List.all_eq_true, List.mem_range]
  intro j hj
  have hx := List.getElem?_eq_getElem hj
  have hy := hseg j _ hx
  rw [hx]
  simp only [Bool.and_eq_true, List.all_eq_true, decide_eq_true_eq, List.mem_range]
  refine ⟨hlt _ _ hy, fun i hi => ?_⟩
  have hxi := List.getElem?_eq_getElem (l := rs) (i := i) (by omega)
  have hyi := hseg i _ hxi
  rw [hxi]
  simp only [Bool.or_eq_true, Bool.not_eq_true']
  cases hc : cf rs[i] rs[j] with
  | false => exact .inl rfl
  | true => exact .inr (depF_seg hlt hseg 3 i j hj ((drawOkF_at h hy).2.2 rfl (b + i) _ (by omega) hyi rfl (by rw [cfF_eq]; exact hc)))
theorem runOps_split {P : Program} {ts : List (List PV)} {K : St → List Ft → Prop} : ∀ {l : List RO} {s : St} {acc : List Ft}, RunOps P ts true K l s acc →
    (∃ rs s', Ch P l s rs s' ∧ K s' ((rs.map Rec.ft).reverse ++ acc)) ∨
    ∃ l1 o l2 rs s1 t ks, l = l1 ++ o :: l2 ∧ Ch P l1 s rs s1 ∧ YOp ts s1 o t ks ∧ ∀ b, RunOps P ts true K l2 (ySt s1 o t ks b) (accY true ((rs.map Rec.ft).reverse ++ acc) o)
  | [], s, acc, h => .inl ⟨[], s, .nil s, by simpa [RunOps] using h⟩
  | o :: r, s, acc, .inl ⟨v, wr, h1, h2⟩ => by
    have e : ∀ rs : List Rec, ((⟨o, v, wr, rdO s o⟩ :: rs : List Rec).map Rec.ft).reverse ++ acc = (rs.map Rec.ft).reverse ++ accU true acc s o wr := fun rs => by simp [accU, ftOf, Rec.ft]
    rcases runOps_split h2 with ⟨rs, s', h3, h4⟩ | ⟨l1, o', l2, rs, s1, t, ks, h3, h4, h5, h6⟩
    · exact .inl ⟨_, s', .cons h1 h3, by rw [e]; exact h4⟩
    · exact .inr ⟨o :: l1, o', l2, _, s1, t, ks, by rw [h3]; rfl, .cons h1 h4, h5, fun b => by rw [e]; exact h6 b⟩
  | o :: r, s, acc, .inr (.inr ⟨h, _⟩) => by cases h
  | o :: r, s, acc, .inr (.inl ⟨t, ks, h1, h2⟩) => .inr ⟨[], o, r, [], s, t, ks, rfl, .nil s, h1, fun b => by simpa using h2 b⟩
theorem runOps_leaf {P : Program} {ts : List (List PV)} {K : St → List Ft → Prop} : ∀ {l : List RO} {s : St} {acc : List Ft}, RunOps P ts true K l s acc →
    ∃ (s' : St) (fs : List Ft), K s' (fs.reverse ++ acc) ∧ fs.length = l.length ∧ ∀ (j : Nat) (o : RO), l[j]? = some o → ∃ y, fs[j]? = some y ∧ y.af = o.after
  | [], s, acc, h => ⟨s, [], by simpa [RunOps] using h, rfl, fun j o hj => by simp at hj⟩
  | o :: r, s, acc, h => by
    have key : ∀ (ft : Ft) (s1 : St), ft.af = o.after → RunOps P ts true K r s1 (ft :: acc) → ∃ (s' : St) (fs : List Ft), K s' (fs.reverse ++ acc) ∧ fs.length = (o :: r).length ∧ ∀ (j : Nat) (o' : RO), (o :: r)[j]? = some o' → ∃ y, fs[j]? = some y ∧ y.af = o'.after := fun ft s1 e h => by
      obtain ⟨s', fs, h1, h2, h3⟩ := runOps_leaf h
      refine ⟨s', ft :: fs, by simpa using h1, by simp [h2], fun j o' hj => ?_⟩
      cases j with
      | zero => simp at hj; subst hj; exact ⟨ft, rfl, e⟩
      | succ j => exact h3 j o' (by simpa using hj)
    rcases h with ⟨v, wr, h1, h2⟩ | ⟨t, ks, h1, h2⟩ | ⟨h, _⟩
    · exact key _ _ rfl h2
    · exact key _ _ rfl (h2 true)
    · cases h
theorem ch_len {P : Program} {l : List RO} {s s' : St} {rs : List Rec} (h : Ch P l s rs s') : rs.length = l.length ∧ ∀ (j : Nat) (o : RO), l[j]? = some o → ∃ x, rs[j]? = some x ∧ x.o = o := by
  induction h with
  | nil => exact ⟨rfl, fun j o hj => by simp at hj⟩
  | @cons o r s s' v wr rs hs hch ih =>
    refine ⟨by simp [ih.1], fun j o' hj => ?_⟩
    cases j with
    | zero => simp at hj; subst hj; exact ⟨_, rfl, rfl⟩
    | succ j => exact ih.2 j o' (by simpa using hj)
theorem draw_all {P : Program} {ts : List (List PV)} {ro : Option Nat} {X : Fx} {ops : Array Oper} (hM : X.MOk) (hy : ts = [] ∨ (YieldsOk P X ts ∧ JClosed X.J X.Jx)) {L : List RO} (hcomp : compOps P X.N ops ops.toList = some L)
    {QX : Exit → Act → World → Prop} : ∀ (n : Nat) (l : List RO) (b : Nat) (s : St) (acc : List Ft), l.length ≤ n → L.drop b = l → b ≤ L.length → acc.length = b → (∀ (j : Nat) (o : RO), j < b → L[j]? = some o → ∃ y : Ft, acc.reverse[j]? = some y ∧ y.af = o.after) →
    RunOps P ts true (fun s acc => drawOkF acc.reverse = true ∧ ∀ C a w, RelC X C s.get s.look s.tr s.stop a w → QX .normal a w) l s acc →
    ∀ (fuel : Nat) (listed : Array Bool) (C : Ctx) (a : Act) (w : World), listed.size = ops.size → left listed ops.size ≤ fuel → (∀ j, listed.getD j false = decide (j < b)) → RelC X C s.get s.look s.tr s.stop a w → wpAnyIn (wideR ro) 0 P .any ops QX fuel listed a w := by
  intro n
  induction n with
  | zero =>
    intro l b s acc hl hLb hbL hacc haf hrun fuel listed C a w hs hle hlisted hr
    have : l = [] := List.eq_nil_of_length_eq_zero (by omega)
    subst this
    obtain ⟨hcl, hcg⟩ := compOps_get hcomp
    have hLe : L.length ≤ b := by have := congrArg List.length hLb; simp at this; omega
    have hsz : ops.size = L.length := by rw [← hcl]; simp
    have hall : ∀ i, i < ops.size → listed.getD i false = true := fun i hi => by
      rw [hlisted]
      simp
      omega
    have hno : Region.ready .any ops listed = [] := List.eq_nil_iff_forall_not_mem.2 fun i hi => by
      obtain ⟨oper, h1, h2, _⟩ := ready_iff.1 hi
      have hlt := (Array.getElem?_eq_some_iff.1 h1).1
      have := hall i hlt
      rw [Array.getD_eq_getD_getElem?, Array.getElem?_eq_getElem (by omega)] at this h2
      simp only [Option.getD_some] at this h2
      rw [this] at h2; cases h2
    have hq := hrun.2 C a w hr
    cases fuel with
    | zero => exact ⟨hno, hq⟩
    | succ fuel => exact ⟨fun _ => hq, fun i hi => by rw [hno] at hi; cases hi⟩
  | succ n ih =>
    intro l b s acc hl hLb hbL hacc haf hrun fuel listed C a w hs hle hlisted hr
    obtain ⟨hcl, hcg⟩ := compOps_get hcomp
    have hn : L.length = ops.size := by rw [← hcl]; simp
    have hLl : ∀ j, l[j]? = L[b + j]? := fun j => by rw [← hLb, List.getElem?_drop]
    have hlen : b + l.length = L.length := by have := congrArg List.length hLb; simp at this; omega
    have hstart : ∀ (rs : List Rec), ∃ (C : Ctx) (σ : St), RelC X C σ.get σ.look σ.tr σ.stop a w ∧ σ.tr = s.tr ∧ σ.stop = s.stop ∧ (∀ k, σ.get k = ov gW rs b (fun j => listed.getD j false) s.get k) ∧ (∀ k, σ.look k = ov oW rs b (fun j => listed.getD j false) s.look k) := fun rs =>
      ⟨C, s, hr, rfl, rfl, fun k => (ov_none fun j hj => by rw [hlisted]; simp; omega).symm, fun k => (ov_none fun j hj => by rw [hlisted]; simp; omega).symm⟩
    have hdown : ∀ (j : Nat) (o : RO), L[j]? = some o → (∀ e ∈ o.after, e < j) → listed.getD j false = true → ∀ e ∈ o.after, listed.getD e false = true := fun j o hj hlt hl e he => by
      rw [hlisted] at hl ⊢
      have := hlt e he
      simp at hl ⊢; omega
    rcases runOps_split hrun with ⟨rs, s', hch, hok, hQ⟩ | ⟨l1, o, l2, rs, s1, t, ks, he, hch, hyo, hrest⟩
    · -- no call of yield any more
      obtain ⟨c1, c2⟩ := ch_len hch
      rw [List.reverse_append, List.reverse_reverse] at hok
      have hseg : ∀ (j : Nat) (x : Rec), rs[j]? = some x → (acc.reverse ++ rs.map Rec.ft)[b + j]? = some x.ft := fun j x hx => by
        rw [List.getElem?_append_right (by simp [hacc])]
        simp [hacc, hx]
      have hF : ∀ (j : Nat) (o : RO), L[j]? = some o → ∃ y : Ft, (acc.reverse ++ rs.map Rec.ft)[j]? = some y ∧ y.af = o.after := fun j o hj => by
        by_cases e : j < b
        · obtain ⟨y, h1, h2⟩ := haf j o e hj
          exact ⟨y, by rw [List.getElem?_append_left (by simp [hacc, e])]; exact h1, h2⟩
        · obtain ⟨x, h1, h2⟩ := c2 (j - b) o (by rw [hLl, show b + (j - b) = j by omega]; exact hj)
          have := hseg _ _ h1
          rw [show b + (j - b) = j by omega] at this
          exact ⟨_, this, by rw [← h2]; rfl⟩
      refine draw_seg hM hch (drawOk_seg hok hseg) hcomp (fun j o hj => by rw [← hLl]; exact hj) (by omega) (fun S _ _ i o hi hLi => ?_) (fun fuel listed C a w h1 h2 h3 h4 => ?_) fuel listed a w hs hle (fun j hj => by rw [hlisted]; simp [hj]) (fun j hj => by rw [hlisted]; simp; omega) (fun j o hj => hdown j o hj fun e he => ?_) (hstart rs)
      · have := (List.getElem?_eq_some_iff.1 hLi).1; omega
      · have hall : ∀ i, i < ops.size → listed.getD i false = true := fun i hi => by rw [h3]; simp; omega
        have hno : Region.ready .any ops listed = [] := List.eq_nil_iff_forall_not_mem.2 fun i hi => by
          obtain ⟨oper, g1, g2, _⟩ := ready_iff.1 hi
          have hlt := (Array.getElem?_eq_some_iff.1 g1).1
          have := hall i hlt
          rw [Array.getD_eq_getD_getElem?, Array.getElem?_eq_getElem (by omega)] at this g2
          simp only [Option.getD_some] at this g2
          rw [this] at g2; cases g2
        have hq := hQ C a w h4
        cases fuel with
        | zero => exact ⟨hno, hq⟩
        | succ fuel => exact ⟨fun _ => hq, fun i hi => by rw [hno] at hi; cases hi⟩
      · obtain ⟨y, k1, k2⟩ := hF j o hj
        exact (drawOkF_at hok k1).1 e (by rw [k2]; exact he)
    · -- up to a call of yield
      subst he
      obtain ⟨c1, c2⟩ := ch_len hch
      obtain ⟨s', fs, ⟨hok, _⟩, hfl, hfa⟩ := runOps_leaf (hrest true)
      let q := b + l1.length
      let fy : Ft := ⟨o.dst.toList, rdT o, [], [], o.after, true⟩
      let F := acc.reverse ++ rs.map Rec.ft ++ fy :: fs
      have hF0 : (fs.reverse ++ accY true ((rs.map Rec.ft).reverse ++ acc) o).reverse = F := by simp [accY, F, fy]
      rw [hF0] at hok
      have hLq : L[q]? = some o := by
        have := hLl l1.length
        rw [← this]; simp
      have hFq : F[q]? = some fy := by
        show (acc.reverse ++ rs.map Rec.ft ++ fy :: fs)[q]? = _
        rw [List.getElem?_append_right (by simp [hacc, c1, q])]
        simp [hacc, c1, q]
      have hseg : ∀ (j : Nat) (x : Rec), rs[j]? = some x → F[b + j]? = some x.ft := fun j x hx => by
        have hj := (List.getElem?_eq_some_iff.1 hx).1
        show (acc.reverse ++ rs.map Rec.ft ++ fy :: fs)[b + j]? = _
        rw [List.getElem?_append_left (by simp [hacc]; omega), List.getElem?_append_right (by simp [hacc])]
        simp [hacc, hx]
      have hF : ∀ (j : Nat) (o' : RO), L[j]? = some o' → ∃ y : Ft, F[j]? = some y ∧ y.af = o'.after := fun j o' hj => by
        by_cases e : j < b
        · obtain ⟨y, h1, h2⟩ := haf j o' e hj
          refine ⟨y, ?_, h2⟩
          show (acc.reverse ++ rs.map Rec.ft ++ fy :: fs)[j]? = _
          rw [List.getElem?_append_left (by simp [hacc]; omega), List.getElem?_append_left (by simp [hacc, e])]
          exact h1
        · by_cases e1 : j < q
          · have : l1[j - b]? = some o' := by
              have h3 := hLl (j - b)
              rw [show b + (j - b) = j by omega, hj, List.getElem?_append_left (by simp only [q] at e1; omega)] at h3
              exact h3
            obtain ⟨x, h1, h2⟩ := c2 (j - b) o' this
            have := hseg _ _ h1
            rw [show b + (j - b) = j by omega] at this
            exact ⟨_, this, by rw [← h2]; rfl⟩
          · by_cases e2 : j = q
            · subst e2; rw [hLq] at hj; injection hj with hj; subst hj; exact ⟨_, hFq, rfl⟩
            · have : l2[j - q - 1]? = some o' := by
                have h3 := hLl (j - b)
                rw [show b + (j - b) = j by omega, hj, List.getElem?_append_right (by simp only [q] at e1; omega), show j - b - l1.length = (j - q - 1) + 1 by simp only [q] at e1 e2 ⊢; omega] at h3
                simpa using h3
              obtain ⟨y, h1, h2⟩ := hfa _ _ this
              refine ⟨y, ?_, h2⟩
              show (acc.reverse ++ rs.map Rec.ft ++ fy :: fs)[j]? = _
              rw [List.getElem?_append_right (by simp [hacc, c1]; simp only [q] at e1; omega)]
              simp only [List.length_append, List.length_reverse, hacc, List.length_map, c1]
              rw [show j - (b + l1.length) = (j - q - 1) + 1 by simp only [q] at e1 e2 ⊢; omega]
              simpa using h1
      have hlt : ∀ (j : Nat) (o' : RO), L[j]? = some o' → ∀ e ∈ o'.after, e < j := fun j o' hj e he => by
        obtain ⟨y, k1, k2⟩ := hF j o' hj
        exact (drawOkF_at hok k1).1 e (by rw [k2]; exact he)
      have hyl := (drawOkF_at hok hFq).2.1 rfl
      simp only [ylOk, Bool.and_eq_true, List.all_eq_true, List.mem_range, List.any_eq_true, decide_eq_true_eq, Bool.or_eq_true] at hyl
      obtain ⟨hbefore, hbehind⟩ := hyl
      have hbehind' : ∀ (j : Nat) (o' : RO), q < j → L[j]? = some o' → ∃ e ∈ o'.after, q ≤ e := fun j o' hqj hj => by
        obtain ⟨y, k1, k2⟩ := hF j o' hj
        have := hbehind j (List.getElem?_eq_some_iff.1 k1).1
        rw [k1] at this
        rcases this with h | h
        · omega
        · simp only [List.any_eq_true, decide_eq_true_eq] at h
          obtain ⟨e, h1, h2⟩ := h
          exact ⟨e, by rw [← k2]; exact h1, h2⟩
      have hbefore' : ∀ i, i < q → ∃ (k : Nat) (o' : RO), i < k ∧ k ≤ q ∧ L[k]? = some o' ∧ i ∈ o'.after := fun i hi => by
        obtain ⟨k, hk, hik, h⟩ := hbefore i hi
        have hkL : k < L.length := by have := (List.getElem?_eq_some_iff.1 hLq).1; omega
        have hLk := List.getElem?_eq_getElem hkL
        obtain ⟨y, k1, k2⟩ := hF k _ hLk
        rw [k1] at h
        exact ⟨k, _, hik, by omega, hLk, by rw [← k2]; simpa using h⟩
      refine draw_seg hM hch (drawOk_seg hok hseg) hcomp (fun j o' hj => ?_) (by have := (List.getElem?_eq_some_iff.1 hLq).1; simp only [q] at this; omega) (fun S hcl h0 i o' hi hLi hS => ?_) (fun fuel listed C a w h1 h2 h3 h4 => ?_) fuel listed a w hs hle (fun j hj => by rw [hlisted]; simp [hj]) (fun j hj => by rw [hlisted]; simp; omega) (fun j o hj => hdown j o hj (hlt j o hj)) (hstart rs)
      · rw [← hLl, List.getElem?_append_left (List.getElem?_eq_some_iff.1 hj).1]; exact hj
      · -- nothing behind is ready before all ahead is done
        have hSq : ∀ e ∈ o.after, S e = true := by
          have key : ∀ (m i : Nat) (o' : RO), i ≤ m → q ≤ i → L[i]? = some o' → (∀ e ∈ o'.after, S e = true) → ∀ e ∈ o.after, S e = true := by
            intro m
            induction m with
            | zero => intro i o' hm hq2 hLi hS2
                      have : i = q := by omega
                      subst this; rw [hLq] at hLi; injection hLi with hLi; subst hLi; exact hS2
            | succ m ihm =>
              intro i o' hm hq2 hLi hS2
              by_cases e : i = q
              · subst e; rw [hLq] at hLi; injection hLi with hLi; subst hLi; exact hS2
              · obtain ⟨e2, h1, h2⟩ := hbehind' i o' (by omega) hLi
                have he2 := hlt i o' hLi e2 h1
                have hLe := List.getElem?_eq_getElem (l := L) (i := e2) (by have := (List.getElem?_eq_some_iff.1 hLi).1; omega)
                exact ihm e2 _ (by omega) h2 hLe (hcl e2 _ hLe (hS2 e2 h1))
          exact key i i o' (Nat.le_refl _) hi hLi hS
        have key : ∀ m j, q - j ≤ m → j < q → S j = true := by
          intro m
          induction m with
          | zero => intro j h1 h2; omega
          | succ m ihm =>
            intro j h1 h2
            obtain ⟨k, o2, g1, g2, g3, g4⟩ := hbefore' j h2
            by_cases e : k = q
            · subst e; rw [hLq] at g3; injection g3 with g3; subst g3; exact hSq j g4
            · exact hcl k o2 g3 (ihm k (by omega) (by omega)) j g4
        exact fun j hj => key (q - j) j (Nat.le_refl _) hj
      · -- the call of yield
        have hqlt : q < ops.size := by rw [← hn]; exact (List.getElem?_eq_some_iff.1 hLq).1
        have hlq : listed.getD q false = false := by rw [h3]; simp [q]
        cases fuel with
        | zero => have := left_zero (Nat.le_zero.1 h2) q hqlt; rw [this] at hlq; cases hlq
        | succ fuel =>
          have hready : ∀ i, i ∈ Region.ready .any ops listed → i = q := fun i hi => by
            obtain ⟨oper, g1, g2, g3⟩ := ready_iff.1 hi
            have hilt := (Array.getElem?_eq_some_iff.1 g1).1
            have hun : listed.getD i false = false := by
              rw [Array.getD_eq_getD_getElem?, Array.getElem?_eq_getElem (by omega)] at g2 ⊢
              exact g2
            rw [h3] at hun
            simp at hun
            obtain ⟨o', hLo, hcx⟩ := hcg i oper (by simpa using g1)
            have haf2 := (after_of (compRO_ok hcx) (listed := fun e => listed.getD e false)).1 g3
            refine Classical.byContradiction fun hne => ?_
            obtain ⟨e, he, hqe⟩ := hbehind' i o' (by simp only [q] at *; omega) hLo
            have := haf2 e he
            rw [h3] at this
            simp at this
            simp only [q] at hqe; omega
          have hoper := Array.getElem?_eq_getElem hqlt
          obtain ⟨o', hLo, hcx⟩ := hcg q _ (by rw [Array.getElem?_toList]; exact hoper)
          rw [hLq] at hLo; injection hLo with hLo; subst hLo
          have hmem : q ∈ Region.ready .any ops listed := ready_iff.2 ⟨_, hoper, by
            rw [Array.getD_eq_getD_getElem?] at hlq ⊢
            rw [Array.getElem?_eq_getElem (by omega)] at hlq ⊢
            exact hlq, (after_of (compRO_ok hcx) (listed := fun e => listed.getD e false)).2 fun e he => by rw [h3]; have := hlt q o hLq e he; simp; simp only [q] at this; omega⟩
          refine ⟨fun hr0 => (by rw [hr0] at hmem; cases hmem), fun i hi => ?_⟩
          have hiq := hready i hi
          subst hiq
          unfold wpOpIn
          rw [hoper]
          rcases hy with hy | ⟨hy, hj⟩
          · obtain ⟨_, _, _, _, _, _, _, _, _, _, _, post, hts⟩ := hyo
            rw [hy] at hts
            simp at hts
          refine yield_sound hyo hcx rfl hM hy hj h4 fun bb C' a' w' h' => ?_
          have e1 : (ySt s1 o t ks bb).tr = s1.tr ++ [t] := (tr_set _ _ _).1
          have e2 : (ySt s1 o t ks bb).stop = !bb := (tr_set _ _ _).2
          rw [← e1, ← e2] at h'
          refine ih l2 (q + 1) _ _ (by simp at hl; omega) ?_ (by rw [hn]; omega) (by simp [accY, hacc, c1, q]; omega) (fun j o' hj hLj => ?_) (hrest bb) fuel _ C' a' w' (by simpa using h1) (by have := left_set hqlt h1 hlq; omega) (fun j => ?_) h'
          · have := congrArg (List.drop (l1.length + 1)) hLb
            rw [List.drop_drop] at this
            rw [show q + 1 = b + (l1.length + 1) by simp only [q]; omega, this]
            simp
          · obtain ⟨y, k1, k2⟩ := hF j o' hLj
            refine ⟨y, ?_, k2⟩
            rw [show (accY true ((rs.map Rec.ft).reverse ++ acc) o).reverse = acc.reverse ++ rs.map Rec.ft ++ [fy] by simp [accY, fy]]
            have : F = (acc.reverse ++ rs.map Rec.ft ++ [fy]) ++ fs := by simp [F]
            rw [this, List.getElem?_append_left (by simp [hacc, c1]; simp only [q] at hj; omega)] at k1
            exact k1
          · rw [getD_set (by omega), h3]
            by_cases e : j = q
            · rw [if_pos e]; subst e; simp
            · rw [if_neg e]; simp only [decide_eq_decide]; simp only [q] at *; omega
theorem run_draw {G : Cfg} {s : St} {Q : APost} {l : List RO} (hm : G.P.follows .mixedOrders = true) (h : ∀ K : St → List Ft → Prop, (∀ s acc, drawOkF acc.reverse = true → Q .normal s → K s acc) → runS true (RunOps G.P G.ts true K) l s []) : Run G (.ops true l) s Q := by
  intro hG code hc C a w hr
  cases code <;> simp only [compile, Option.map_eq_some_iff] at hc
  case region id ops draw =>
    obtain ⟨l', h1, hc⟩ := hc
    injection hc with e1 e2; subst e1; subst e2
    have hrun := run_ops (h (fun s acc => drawOkF acc.reverse = true ∧ ∀ C a w, RelC G.X C s.get s.look s.tr s.stop a w → QQ G Q .normal a w) fun s acc h1 h2 => ⟨h1, fun C a w hr => ⟨s, C, hr, h2⟩⟩)
    have hb : Below w.heap.size w { w with drawn := w.drawn + 1 } := ⟨rfl, rfl, rfl, Nat.le_refl _, fun _ _ => rfl⟩
    have hr1 := hr.grow hb C.B (fun _ h => h) (fun b hb => .inl hb)
    refine wpIn_region_any hm ?_
    refine draw_all hG.mok hG.yok h1 l'.length l' 0 s [] (Nat.le_refl _) rfl (Nat.zero_le _) rfl (fun j o hj => by omega) hrun ops.size _ _ a _ (by simp) ?_ (fun j => ?_) hr1
    · unfold left
      exact Nat.le_trans (List.countP_le_length) (by simp)
    · rw [Array.getD_eq_getD_getElem?]
      by_cases e : j < ops.size
      · rw [Array.getElem?_eq_getElem (by simpa using e)]; simp
      · rw [Array.getElem?_eq_none (by simpa using e)]; simp
  all_goals first | (cases hc; done) | (obtain ⟨_, _, hc⟩ := hc; cases hc; done) | (split at hc <;> cases hc; done)
end Go.Proofs.YtcfbdeghmckelaaGreat
namespace Go.Proofs.YtcfbdeghmckelaaGreat
open Go.RowKit
def nilTo (k : Nat) (q q' : LV) : Prop := q' = q ∨ (q = .p .nilsl ∧ q' = .row k 0)
def nilTos (k : Nat) : List LV → List LV → Prop
  | [], [] => True
  | q :: r, q' :: r' => nilTo k q q' ∧ nilTos k r r'
  | _, _ => False
def ownEnv (k : Nat) (s : St) : List (Nat × LV) → Prop
  | [] => True
  | (t, v) :: r => nilTo k (s.get t) v ∧ ownEnv k s r
def ownObj (k : Nat) (s : St) : List (Nat × LObj) → Prop
  | [] => True
  | (j, .box cs fz) :: r => (match s.look j with | some (.box cs0 fz0) => fz = fz0 ∧ nilTos k cs0 cs | _ => False) ∧ ownObj k s r
  | (j, o) :: r => s.look j = some o ∧ ownObj k s r
def Own (k e sz : Nat) (s : St) (env : List (Nat × LV)) (obj : List (Nat × LObj)) : Prop :=
  0 < sz ∧ s.look k = none ∧ ownEnv k s env ∧ ownObj k s obj ∧ scEnv (oget ((k, .row e sz [] false) :: obj)) env ∧ scObj (oget ((k, .row e sz [] false) :: obj)) obj
theorem nilTos_get {k : Nat} : ∀ {l l' : List LV}, nilTos k l l' → l.length = l'.length ∧ ∀ (j : Nat) (q q' : LV), l[j]? = some q → l'[j]? = some q' → nilTo k q q'
  | [], [], _ => ⟨rfl, fun j q q' h => by simp at h⟩
  | [], _ :: _, h => h.elim
  | _ :: _, [], h => h.elim
  | x :: r, x' :: r', h => by
    obtain ⟨h1, h2⟩ := nilTos_get h.2
    refine ⟨by simp [h1], fun j q q' hq hq' => ?_⟩
    cases j with
    | zero => simp at hq hq'; subst hq; subst hq'; exact h.1
    | succ j => exact h2 j q q' (by simpa using hq) (by simpa using hq')
theorem ownEnv_get {k : Nat} {s : St} : ∀ {l : List (Nat × LV)}, ownEnv k s l → ∀ t, nilTo k (s.get t) (aget l t) ∨ aget l t = .any
  | [], _, t => .inr rfl
  | (j, v) :: r, h, t => by
    simp only [aget]
    split
    · rename_i e; subst e; exact .inl h.1
    · exact ownEnv_get h.2 t
theorem ownObj_look {k : Nat} {s : St} : ∀ {l : List (Nat × LObj)}, ownObj k s l → ∀ j o, oget l j = some o → s.look j = some o ∨ ∃ cs0 cs fz, s.look j = some (.box cs0 fz) ∧ o = .box cs fz ∧ nilTos k cs0 cs
  | [], _, j, o, h => by simp [oget] at h
  | (i, u) :: r, h, j, o, ho => by
    simp only [oget] at ho
    split at ho
    · rename_i e; subst e; injection ho with ho; subst ho
      cases u with
      | box cs fz =>
        have h1 := h.1
        split at h1
        · rename_i cs0 fz0 hl
          obtain ⟨rfl, h2⟩ := h1
          exact .inr ⟨cs0, cs, _, hl, rfl, h2⟩
        · exact h1.elim
      | _ => exact .inl h.1
    · refine ownObj_look ?_ j o ho
      cases u <;> exact h.2
theorem RelC.own {X : Fx} {C : Ctx} {a : Act} {w : World} {s : St} {k e sz : Nat} {env : List (Nat × LV)} {obj : List (Nat × LObj)} (h : RelC X C s.get s.look s.tr s.stop a w) (ho : Own k e sz s env obj) :
    ∃ C', RelC X C' (aget env) (oget ((k, .row e sz [] false) :: obj)) s.tr s.stop a w := by
  obtain ⟨h0, hk, he, hob, hse, hso⟩ := ho
  let v : Value := .slice none 0 0
  have h1 := h.lay (C' := { C with cur := upd C.cur k v }) (d := k) (o := .row e sz [] false) hk rfl rfl rfl rfl rfl (fun _ _ => rfl) (fun j hj => upd_ne _ _ hj) ⟨[], by
      show w.ownsRow 0 e sz (upd C.cur k v k) 0 []
      rw [upd_same]; exact World.ownsRow_nil w 0 e sz, .nil, by simp, h0⟩ trivial rfl (fun b hb => by simp [blk, upd_same, v, Value.ownBlock] at hb)
  let look1 := upd s.look k (some (LObj.row e sz [] false))
  have hnil : ∀ (u : Value) (q q' : LV), nilTo k q q' → RepL w { C with cur := upd C.cur k v } look1 u q → RepL w { C with cur := upd C.cur k v } look1 u q' := fun u q q' hq hr => by
    rcases hq with rfl | ⟨rfl, rfl⟩
    · exact hr
    · have := repl_p_inv hr
      cases this
      exact row_lv (upd_same _ _ _)
  let l' := oget ((k, .row e sz [] false) :: obj)
  have was : ∀ j o, l' j = some o → ∃ o1, look1 j = some o1 ∧ (o1 = o ∨ ∃ cs0 cs fz, o1 = .box cs0 fz ∧ o = .box cs fz ∧ nilTos k cs0 cs) := fun j o hj => by
    simp only [l', oget] at hj
    by_cases ej : j = k
    · subst ej; rw [if_pos rfl] at hj; injection hj with hj; subst hj
      exact ⟨_, upd_same _ _ _, .inl rfl⟩
    · rw [if_neg ej] at hj
      rcases ownObj_look hob j o hj with h2 | ⟨cs0, cs, fz, h2, h3, h4⟩
      · exact ⟨o, by rw [show look1 j = s.look j from upd_ne _ _ ej]; exact h2, .inl rfl⟩
      · exact ⟨_, by rw [show look1 j = s.look j from upd_ne _ _ ej]; exact h2, .inr ⟨cs0, cs, fz, rfl, h3, h4⟩⟩
  have rows : ∀ j e2 s2 xs fz, l' j = some (.row e2 s2 xs fz) → look1 j = some (.row e2 s2 xs fz) := fun j e2 s2 xs fz hj => by
    obtain ⟨o1, h2, rfl | ⟨cs0, cs, fz', _, h4, _⟩⟩ := was j _ hj
    · exact h2
    · cases h4
  have re : ∀ u q, RepL w { C with cur := upd C.cur k v } look1 u q → RepL w { C with cur := upd C.cur k v } l' u q := fun u q hq => by
    induction hq with
    | p h => exact .p h
    | g h h2 ih => exact .g ih h2
    | lp => exact .lp
    | row h => exact .row fun e2 s2 xs fz hj => h e2 s2 xs fz (rows _ _ _ _ _ hj)
    | ep h => exact .ep fun e2 s2 xs fz hj => h e2 s2 xs fz (rows _ _ _ _ _ hj)
    | it => exact .it
    | lm => exact .lm
    | fn h1 h2 _ _ ih1 ih2 => exact .fn h1 h2 ih1 ih2
    | agg h1 _ ih => exact .agg h1 ih
    | yield => exact .yield
    | any u => exact .any u
  have same : ∀ j o, l' j = some o → ∃ o1, look1 j = some o1 ∧ (∀ C2 : Ctx, blk C2 j o1 = blk C2 j o) ∧ o1.frozen = o.frozen := fun j o hj => by
    obtain ⟨o1, h2, rfl | ⟨cs0, cs, fz, rfl, rfl, _⟩⟩ := was j o hj
    · exact ⟨_, h2, fun _ => rfl, rfl⟩
    · exact ⟨_, h2, fun _ => rfl, rfl⟩
  refine ⟨{ C with cur := upd C.cur k v }, { h1 with
    env := fun t => re _ _ ?_
    envs := scEnv_get hse
    obj := fun j o hj => ?_
    objs := fun j o hj => ?_
    sep := fun j o b hj hb => ?_
    dis := fun j j' o o' b hne hj hj' hb hb' => ?_
    marks := h1.marks.same fun r _ _ hnb hnd hno => ⟨rfl, hnb, hnd, fun j o hj hb => ?_⟩
    nn := fun j o b hj hb hf => ?_ }⟩
  · rcases ownEnv_get he t with h2 | h2
    · exact hnil _ _ _ h2 (h1.env t)
    · rw [h2]; exact .any _
  · obtain ⟨o1, h2, rfl | ⟨cs0, cs, fz, rfl, rfl, h3⟩⟩ := was j o hj
    · have := h1.obj j _ h2
      cases o1 with
      | box cs fz =>
        obtain ⟨arr, ty, g1, g2, g3⟩ := this
        exact ⟨arr, ty, g1, g2, fun i u q hu hq => re _ _ (g3 i u q hu hq)⟩
      | _ => exact this
    · obtain ⟨arr, ty, g1, g2, g3⟩ := h1.obj j _ h2
      obtain ⟨f1, f2⟩ := nilTos_get h3
      refine ⟨arr, ty, g1, by omega, fun i u q hu hq => re _ _ ?_⟩
      have hi : i < cs0.length := by rw [f1]; exact (List.getElem?_eq_some_iff.1 hq).1
      exact hnil _ _ _ (f2 i _ _ (List.getElem?_eq_getElem hi) hq) (g3 i u _ hu (List.getElem?_eq_getElem hi))
  · simp only [oget] at hj
    by_cases ej : j = k
    · subst ej; rw [if_pos rfl] at hj; injection hj with hj; subst hj; trivial
    · rw [if_neg ej] at hj
      exact scObj_look hso j o hj
  · obtain ⟨o1, h2, h3, h4⟩ := same j o hj
    rw [← h4]
    exact h1.sep j o1 b h2 (by rw [h3]; exact hb)
  · obtain ⟨o1, h2, h3, _⟩ := same j o hj
    obtain ⟨o2, g2, g3, _⟩ := same j' o' hj'
    exact h1.dis j j' o1 o2 b hne h2 g2 (by rw [h3]; exact hb) (by rw [g3]; exact hb')
  · obtain ⟨o1, h2, h3, _⟩ := same j o hj
    exact hno j o1 h2 (by rw [h3]; exact hb)
  · obtain ⟨o1, h2, h3, h4⟩ := same j o hj
    exact h1.nn j o1 b h2 (by rw [h3]; exact hb) (by rw [h4]; exact hf)
theorem run_own {G : Cfg} {c : AC} {s : St} {Q : APost} (k e sz : Nat) (env : List (Nat × LV)) (obj : List (Nat × LObj)) (ho : Own k e sz s env obj) (h : Run G c ⟨env, (k, .row e sz [] false) :: obj, s.tr, s.stop⟩ Q) : Run G c s Q := by
  intro hG code hc C a w hr
  obtain ⟨C', h'⟩ := hr.own ho
  exact h hG code hc C' a w h'
end Go.Proofs.YtcfbdeghmckelaaGreat
namespace Go.Proofs.YtcfbdeghmckelaaGreat
open Go.RowKit
def Iter (P : Program) (f : Nat) (caps : List PV) (ts : List (List PV)) : Prop :=
  Callable P f ∧ ∀ (w : World) (B : Nat → Prop) (y : Nat) (vs : List Value) (J : List (List PV) → (Nat → Prop) → (Nat → Prop) → World → Prop) (Jx : List (List PV) → (Nat → Prop) → World → Prop) (D O : Nat → Prop),
    (∀ b, B b → b < w.heap.size) → Reps w B vs caps → (∀ b, D b → b < w.heap.size) → (∀ b, O b → ¬ B b ∧ D b) → JClosed J Jx → YieldsAt P y B w.heap.size J Jx ts → J [] D O w →
    Calls P f (.func (.yield y) #[] #[] :: vs).toArray w fun e w' => (∃ u, e = .returned u) ∧ ((∃ D' O', J ts D' O' w') ∨ ∃ pre D', Jx pre D' w')
def iterSt (caps : List PV) : St := ⟨(0, .yield) :: ((caps.zipIdx 1).map fun x => (x.2, .p x.1)), [], [], false⟩
def iterQ (ts : List (List PV)) : APost
  | .normal, s => s.stop = true ∨ s.tr = ts
  | .ret, s => s.stop = true ∨ s.tr = ts
  | .exit _, _ => False
theorem iter_of_run {P : Program} {f : FuncId} {fn : Func} {body : Code} {c : AC} {caps : List PV} {ts : List (List PV)} (hf : P.funcs[f]? = some fn) (hname : (fn.name == "runtime.NumGoroutine") = false) (hb : fn.body = some body)
    (hc : compile P fn.ntmps body = some c) (hrs : compRes P fn.results.toList = some []) (hn : caps.length + 1 ≤ fn.ntmps) (hgb : fn.ntmps ≤ GB)
    (hrun : wfs caps → ∀ X : Fx, X.N = fn.ntmps → Run ⟨P, X, none, ts⟩ c (iterSt caps) (iterQ ts)) : Iter P f caps ts := by
  refine ⟨⟨fn, body, hf, hname, hb⟩, fun w B y vs J Jx D O hB hvs hD hO hcl hy hJ => callsIn_wide.1 (callsIn_of_wp_marks (F := Fence.wide) (n := 0) hf hb trivial ?_ rfl)⟩
  let X : Fx := { w0 := w, B0 := B, B1 := B, M := fun _ => False, O0 := O, D0 := D, Bo := B, no := w.heap.size, N := fn.ntmps, y := y, J := J, Jx := Jx, gv := fun _ => undef, K := [] }
  have hlen := hvs.1
  have hN : ((.func (.yield y) #[] #[] :: vs).toArray ++ Array.replicate (fn.ntmps - (.func (.yield y) #[] #[] :: vs : List Value).toArray.size) undef).size = fn.ntmps := by simp; omega
  have hget : ∀ t, (iterSt caps).get t = if t = 0 then .yield else match caps[t - 1]? with | some v => .p v | none => .any := fun t => by
    have := aget_args caps 1 t
    simp only [iterSt, St.get, aget]
    by_cases e : t = 0
    · rw [if_pos e, if_pos e]
    · rw [if_neg e, if_neg e, this, if_pos (by omega)]
      try rfl
  have h0 : RelC X { B := B, ρ := fun _ => 0, cur := fun _ => undef, y := y, n := w.heap.size, dep := D, own := O } (iterSt caps).get (iterSt caps).look [] false { tmps := (.func (.yield y) #[] #[] :: vs).toArray ++ Array.replicate (fn.ntmps - (.func (.yield y) #[] #[] :: vs : List Value).toArray.size) undef, defers := [] } w :=
    { kx := KeepX.refl _ _
      yy := rfl
      b0 := fun b h => h
      blt := hB
      bold := fun b h _ => h
      borg := fun b h => .inl h
      no0 := Nat.le_refl _
      tsz := hN
      ngb := hgb
      env := fun t => by
        rw [hget]
        by_cases e : t = 0
        · subst e
          rw [if_pos rfl, valAt_lt (by decide)]
          have : ((.func (.yield y) #[] #[] :: vs).toArray ++ Array.replicate (fn.ntmps - (.func (.yield y) #[] #[] :: vs : List Value).toArray.size) undef).getD 0 undef = .func (.yield y) #[] #[] := by
            rw [Array.getD_eq_getD_getElem?, Array.getElem?_append_left (by simp)]
            simp
          show RepL w _ _ (Array.getD _ 0 undef) _
          rw [this]
          exact .yield
        · rw [if_neg e]
          split
          · rename_i v hv
            obtain ⟨u, hu, hr⟩ := hvs.get hv
            have ht : t - 1 < caps.length := (List.getElem?_eq_some_iff.1 hv).1
            rw [valAt_lt (by show t < GB; have : fn.ntmps ≤ GB := hgb; omega)]
            have : ((.func (.yield y) #[] #[] :: vs).toArray ++ Array.replicate (fn.ntmps - (.func (.yield y) #[] #[] :: vs : List Value).toArray.size) undef).getD t undef = u := by
              rw [Array.getD_eq_getD_getElem?, Array.getElem?_append_left (by simp; omega)]
              rw [List.getElem?_toArray, show t = (t - 1) + 1 by omega, List.getElem?_cons_succ, hu]
              rfl
            show RepL w _ _ (Array.getD _ t undef) _
            rw [this]
            exact .p hr
          · exact .any _
      envs := fun t => by
        rw [hget]
        split
        · exact .yield
        · split
          · exact .p _
          · exact .any
      obj := fun k o hk => by simp [iterSt, St.look, oget] at hk
      objs := fun k o hk => by simp [iterSt, St.look, oget] at hk
      sep := fun k o b hk => by simp [iterSt, St.look, oget] at hk
      dis := fun k k' o o' b _ hk => by simp [iterSt, St.look, oget] at hk
      marks := fun p hp => by cases hp
      nle := Nat.le_refl _
      dn := hD
      nn := fun k o b hk => by simp [iterSt, St.look, oget] at hk
      ow := hO
      oold := fun _ h => .inr h
      dold := fun _ h => .inl h
      jj := .inr ⟨w, hJ, Kept.refl _ _⟩ }
  refine wpIn_mono (hrun hvs.wf X rfl ⟨⟨fun b h => h.elim, fun b h => h.elim⟩, .inr ⟨hy, hcl⟩, fun l h => by cases h⟩ body hc _ _ _ h0) ?_
  rintro e a' w' ⟨s', C', hr', hq⟩
  have key : (s'.stop = true ∨ s'.tr = ts) → LeavesInM Fence.wide 0 P fn a'.tmps (fun e w' => (∃ u, e = .returned u) ∧ ((∃ D' O', J ts D' O' w') ∨ ∃ pre D', Jx pre D' w')) a'.defers .returning w' := fun hq => by
    refine leaves_of (ro := none) a'.defers a' w' rfl hr' fun w2 h2 => ?_
    obtain ⟨us, hrun, hus⟩ := results_of (fn := fn) (rs := []) hrs h2 rfl trivial
    refine ⟨_, hrun, ⟨_, rfl⟩, ?_⟩
    rcases h2.jj with hX | ⟨wy, h3, h4⟩
    · exact .inl ⟨D, O, (hX ts D O w2).1⟩
    · cases hs : s'.stop with
      | true =>
        rw [hs, if_pos rfl] at h3
        exact .inr ⟨_, _, hcl.jx _ _ _ _ h3 h4⟩
      | false =>
        rw [hs, if_neg (by simp)] at h3
        rw [hs] at hq
        have hts := hq.resolve_left (by simp)
        rw [hts] at h3
        exact .inl ⟨_, _, hcl.j _ _ _ _ _ h3 h4⟩
  cases e with
  | normal => exact key hq
  | ret => exact key hq
  | exit id => exact hq.elim
  | goto l => exact hq.elim
  | panic c => exact hq.elim
  | outgrown => exact hq.elim
theorem iter_by {P : Program} {f : FuncId} {c : AC} {n : Nat} (h : compF P f = some (c, [], n)) {caps : List PV} {ts : List (List PV)} (hn : caps.length + 1 ≤ n) (hrun : wfs caps → ∀ X : Fx, X.N = n → Run ⟨P, X, none, ts⟩ c (iterSt caps) (iterQ ts)) : Iter P f caps ts := by
  unfold compF at h
  split at h
  · rename_i fn hf
    split at h
    · cases h
    · rename_i hname
      split at h
      · rename_i b hb
        split at h
        · rename_i c' rs' hc hrs
          split at h
          case isFalse => cases h
          rename_i hgb
          injection h with h; injection h with e1 h; injection h with e2 e3
          subst e1; subst e2; subst e3
          exact iter_of_run hf (by simpa using hname) hb hc hrs hn hgb hrun
        · cases h
      · cases h
  · cases h
end Go.Proofs.YtcfbdeghmckelaaGreat
namespace Go.Proofs.YtcfbdeghmckelaaGreat
open Go.RowKit
def mksK (ds : List Deferred) : List (Nat × Obj) := ds.filterMap fun d => match d.target with | .collected r => some (r, .deferred (some [])) | _ => none
def depS (X : Fx) (C : Ctx) (lk : Nat → Option LObj) (b : Nat) : Prop := b < X.w0.heap.size ∨ C.B b ∨ (∃ k o, lk k = some o ∧ blk C k o = some b) ∨ (∃ p ∈ X.K, p.1 = b) ∨ C.dep b
def ownS (l : Nat) (C : Ctx) (lk : Nat → Option LObj) (b : Nat) : Prop := (∃ k o, lk k = some o ∧ o.frozen = false ∧ blk C k o = some b) ∨ b = l ∨ C.own b
section
variable {X : Fx} {C : Ctx} {g : Nat → LV} {lk : Nat → Option LObj} {tr : List (List PV)} {stop : Bool} {a : Act} {w w' : World}
theorem RelC.kept (h : RelC X C g lk tr stop a w) (hd : a.defers = []) (hk : Kept (depS X C lk) w w') : RelC X C g lk tr stop a w' := by
  have hsz := hk.size
  have hB : ∀ b, C.B b → w'.heap[b]? = w.heap[b]? := fun b hb => hk.block b (.inr (.inl hb))
  have hrow : ∀ k e sz xs fz, lk k = some (.row e sz xs fz) → ∃ xs' fz', lk k = some (.row e sz xs' fz') ∧ (xs'.length = xs.length → C.cur k = C.cur k) ∧ xs.length ≤ xs'.length := fun k e sz xs fz hk => ⟨xs, fz, hk, fun _ => rfl, Nat.le_refl _⟩
  have hm := h.marks
  rw [hd] at hm
  exact { h with
    kx := ⟨hk.os.trans h.kx.os, hk.tape.trans h.kx.tape, hk.output.trans h.kx.output, Nat.le_trans h.kx.size hsz, fun b hb hm => (hk.block b (.inl hb)).trans (h.kx.block b hb hm)⟩
    blt := fun b hb => Nat.lt_of_lt_of_le (h.blt b hb) hsz
    env := fun t => (h.env t).same (fun _ h => h) rfl hB (fun _ _ _ => rfl) hrow (h.envs t)
    obj := fun k o hk2 => (h.obj k o hk2).same (fun _ h => h) rfl hB (fun _ _ _ => rfl) hrow hk2 (h.objs k o hk2) rfl (fun b hb => hk.block b (.inr (.inr (.inl ⟨k, o, hk2, hb⟩))))
    sep := fun k o b hk2 hb => by
      obtain ⟨h1, h2, h3, h4⟩ := h.sep k o b hk2 hb
      exact ⟨h1, Nat.lt_of_lt_of_le h2 hsz, h3, h4⟩
    marks := by
      rw [hd]
      exact fun p hp => ⟨(hk.block p.1 (.inr (.inr (.inr (.inl ⟨p, hp, rfl⟩))))).trans (hm p hp).1, (hm p hp).2⟩
    nle := Nat.le_trans h.nle hsz
    jj := h.jj.imp id fun ⟨wy, h1, h2⟩ => ⟨wy, h1, h2.trans (hk.mono fun b hb => .inr (.inr (.inr (.inr hb))))⟩ }
theorem depS_lt (h : RelC X C g lk tr stop a w) : ∀ b, depS X C lk b → b < w.heap.size := fun b hb => by
  rcases hb with hb | hb | ⟨k, o, hk, hb⟩ | ⟨p, hp, rfl⟩ | hb
  · exact Nat.lt_of_lt_of_le hb h.kx.size
  · exact h.blt b hb
  · exact (h.sep k o b hk hb).2.1
  · exact h.marks.lt _ (.inr ⟨p, hp, rfl⟩)
  · exact Nat.lt_of_lt_of_le (h.dn b hb) h.nle
theorem ownS_dep {l : Nat} (h : RelC X C g lk tr stop a w) (hl : ∃ p ∈ X.K, p.1 = l) : ∀ b, ownS l C lk b → ¬ C.B b ∧ depS X C lk b := fun b hb => by
  rcases hb with ⟨k, o, hk, hf, hb⟩ | rfl | hb
  · exact ⟨(h.sep k o b hk hb).2.2.1 hf, .inr (.inr (.inl ⟨k, o, hk, hb⟩))⟩
  · exact ⟨((h.marks.at b (.inr hl)).2).2.1, .inr (.inr (.inr (.inl hl)))⟩
  · exact ⟨(h.ow b hb).1, .inr (.inr (.inr (.inr (h.ow b hb).2)))⟩
theorem mksK_ok : ∀ {ds : List Deferred}, MarksOk w X C lk ds → ∀ p ∈ mksK ds ++ X.K, w.heap[p.1]? = some p.2 ∧ Apart X C lk p.1
  | [], h, p, hp => h p (by simpa [mksK] using hp)
  | d :: ds, h, p, hp => by
    obtain ⟨⟨r, h1, h2, h0, h3, h4, h5⟩, hr⟩ := h
    simp only [mksK, List.filterMap_cons, h1, List.cons_append, List.mem_cons] at hp
    rcases hp with rfl | hp
    · exact ⟨h2, h3⟩
    · exact mksK_ok hr p hp
theorem marks_of_K {w0 w1 : World} {C1 : Ctx} {l1 : Nat → Option LObj} : ∀ {ds : List Deferred}, MarksOk w0 X C lk ds → (∀ p ∈ mksK ds ++ X.K, w1.heap[p.1]? = some p.2 ∧ Apart X C1 l1 p.1) → MarksOk w1 X C1 l1 ds
  | [], h, hk => fun p hp => hk p (by simpa [mksK] using hp)
  | d :: ds, h, hk => by
    obtain ⟨⟨r, h1, h2, h0, h3, h4, h5⟩, hr⟩ := h
    have hk' : ∀ p, p = (r, Obj.deferred (some [])) ∨ p ∈ mksK ds ++ X.K → w1.heap[p.1]? = some p.2 ∧ Apart X C1 l1 p.1 := fun p hp => hk p (by
      simp only [mksK, List.filterMap_cons, h1, List.cons_append, List.mem_cons]; exact hp)
    obtain ⟨k1, k2⟩ := hk' _ (.inl rfl)
    exact ⟨⟨r, h1, k1, h0, k2, h4, h5⟩, marks_of_K hr fun p hp => hk' p (.inr hp)⟩
theorem mksK_mem : ∀ {ds : List Deferred}, MarksOk w X C lk ds → ∀ p ∈ mksK ds ++ X.K, Mk X ds p.1
  | [], _, p, hp => .inr ⟨p, by simpa [mksK] using hp, rfl⟩
  | d :: ds, h, p, hp => by
    obtain ⟨⟨r, h1, _⟩, hr⟩ := h
    simp only [mksK, List.filterMap_cons, h1, List.cons_append, List.mem_cons] at hp
    rcases hp with rfl | hp
    · exact .inl ⟨d, List.mem_cons_self, h1⟩
    · exact (mksK_mem hr p hp).imp (fun ⟨x, hx, he⟩ => ⟨x, List.mem_cons_of_mem _ hx, he⟩) id
def kX (X : Fx) (ds : List Deferred) (l : Nat) (o : Obj) : Fx := { X with K := (l, o) :: (mksK ds ++ X.K) }
theorem RelC.toK (h : RelC X C g lk tr stop a w) {l : Nat} {o : Obj} (hl : w.heap[l]? = some o) (ha : Apart X C lk l) : RelC (kX X a.defers l o) C g lk tr stop { a with defers := [] } w :=
  { kx := h.kx, yy := h.yy, b0 := h.b0, blt := h.blt, bold := h.bold, borg := h.borg, no0 := h.no0, tsz := h.tsz, ngb := h.ngb, env := h.env, envs := h.envs, obj := h.obj, objs := h.objs, sep := h.sep, dis := h.dis, nle := h.nle, dn := h.dn, nn := h.nn, ow := h.ow, oold := h.oold, dold := h.dold, jj := h.jj,
    marks := fun p hp => by
      rcases List.mem_cons.1 hp with rfl | hp
      · exact ⟨hl, ha⟩
      · exact mksK_ok h.marks p hp }
theorem RelC.ofK {ds : List Deferred} {l : Nat} {o : Obj} {tm : Array Value} {w0 : World} {C0 : Ctx} {lk0 : Nat → Option LObj} (h : RelC (kX X ds l o) C g lk tr stop { tmps := tm, defers := [] } w) (hm : MarksOk w0 X C0 lk0 ds) : RelC X C g lk tr stop { tmps := tm, defers := ds } w :=
  { kx := h.kx, yy := h.yy, b0 := h.b0, blt := h.blt, bold := h.bold, borg := h.borg, no0 := h.no0, tsz := h.tsz, ngb := h.ngb, env := h.env, envs := h.envs, obj := h.obj, objs := h.objs, sep := h.sep, dis := h.dis, nle := h.nle, dn := h.dn, nn := h.nn, ow := h.ow, oold := h.oold, dold := h.dold, jj := h.jj,
    marks := marks_of_K hm fun p hp => h.marks p (List.mem_cons_of_mem _ hp) }
theorem MarksOk.k : ∀ {ds : List Deferred}, MarksOk w X C lk ds → KOk w X C lk
  | [], h => h
  | _ :: _, h => MarksOk.k h.2
theorem RelC.setK {l : Nat} {o o' : Obj} {r : List (Nat × Obj)} (h : RelC { X with K := (l, o) :: r } C g lk tr stop a w) (hl : ∀ p ∈ r, p.1 ≠ l) (ho : X.w0.heap.size ≤ l ∨ X.O0 l) :
    RelC { X with K := (l, o') :: r } C g lk tr stop a (w.putObj l o') := by
  have hm := h.marks.k
  obtain ⟨hlw, hla⟩ := hm (l, o) List.mem_cons_self
  have hoth : ∀ b, b ≠ l → (w.putObj l o').heap[b]? = w.heap[b]? := fun b hb => World.putObj_heap_other hb
  have hB : ∀ b, C.B b → (w.putObj l o').heap[b]? = w.heap[b]? := fun b hb => hoth b fun e => hla.2.1 (e ▸ hb)
  have hrow : ∀ k e sz xs fz, lk k = some (.row e sz xs fz) → ∃ xs' fz', lk k = some (.row e sz xs' fz') ∧ (xs'.length = xs.length → C.cur k = C.cur k) ∧ xs.length ≤ xs'.length := fun k e sz xs fz hk => ⟨xs, fz, hk, fun _ => rfl, Nat.le_refl _⟩
  exact {
    kx := ⟨h.kx.os, h.kx.tape, h.kx.output, by simpa using h.kx.size, fun b hb hmm => (hoth b fun e => by
      replace hb : b < X.w0.heap.size := hb
      subst e
      rcases ho with ho | ho
      · omega
      · exact hmm (.inr ho)).trans (h.kx.block b hb hmm)⟩
    yy := h.yy
    b0 := h.b0
    blt := fun b hb => by simpa using h.blt b hb
    bold := h.bold
    borg := h.borg
    no0 := h.no0
    tsz := h.tsz
    ngb := h.ngb
    env := fun t => RepL.same (C := C) (C' := C) (fun _ h => h) rfl hB (fun _ _ _ => rfl) hrow (h.envs t) (h.env t)
    envs := h.envs
    obj := fun k ob hk => ObjRel.same (C := C) (C' := C) (fun _ h => h) rfl hB (fun _ _ _ => rfl) hrow hk (h.objs k ob hk) rfl (fun b hb => hoth b fun e => hla.2.2.2 k ob hk (e ▸ hb)) (h.obj k ob hk)
    objs := h.objs
    sep := fun k ob b hk hb => by simpa using h.sep k ob b hk hb
    dis := h.dis
    marks := by
      have hmm := h.marks
      revert hmm
      generalize a.defers = ds
      intro hmm
      induction ds with
      | nil =>
        intro p hp
        rcases List.mem_cons.1 hp with rfl | hp
        · exact ⟨World.putObj_heap_same (Mk.lt_of hlw), hla⟩
        · obtain ⟨h1, h2⟩ := hm p (List.mem_cons_of_mem _ hp)
          exact ⟨(hoth _ (hl p hp)).trans h1, h2⟩
      | cons d ds ih =>
        obtain ⟨⟨r', g1, g2, g0, g3, g4, g5⟩, gr⟩ := hmm
        exact ⟨⟨r', g1, (hoth r' fun e => g5 (l, o) List.mem_cons_self e.symm).trans g2, g0, g3, g4, fun p hp => by
          rcases List.mem_cons.1 hp with rfl | hp
          · exact g5 (l, o) List.mem_cons_self
          · exact g5 p (List.mem_cons_of_mem _ hp)⟩, ih gr⟩
    nle := by simpa using h.nle
    dn := h.dn
    nn := h.nn
    ow := h.ow
    oold := h.oold
    dold := h.dold
    jj := h.jj.imp id fun ⟨wy, j1, j2⟩ => ⟨wy, j1, j2.trans ⟨rfl, rfl, rfl, by simp, fun b hb => hoth b fun e => hla.2.2.1 (e ▸ hb)⟩⟩ }
def lowE (env : List (Nat × LV)) : List (Nat × LV) := env.filter fun x => decide (x.1 < GB)
def ghosts (env : List (Nat × LV)) : List (Nat × LV) := env.map fun x => (x.1 + GB, x.2)
theorem aget_ghosts : ∀ (env : List (Nat × LV)) (t : Nat), aget (ghosts env) t = if t < GB then .any else aget env (t - GB)
  | [], t => by simp [ghosts, aget]
  | (k, v) :: r, t => by
    have ih := aget_ghosts r t
    simp only [ghosts, List.map_cons, aget] at ih ⊢
    rw [ih]
    by_cases e : t < GB
    · rw [if_pos e, if_pos e, if_neg (by omega)]
    · rw [if_neg e, if_neg e]
      by_cases e2 : t = k + GB
      · rw [if_pos e2, if_pos (by omega)]
      · rw [if_neg e2, if_neg (by omega)]
theorem aget_low : ∀ (env : List (Nat × LV)) (t : Nat), aget (lowE env) t = if t < GB then aget env t else .any
  | [], t => by simp [lowE, aget]
  | (k, v) :: r, t => by
    have ih := aget_low r t
    simp only [lowE, List.filter_cons, aget] at ih ⊢
    by_cases hk : k < GB
    · rw [decide_eq_true hk, if_pos rfl]
      simp only [aget]
      by_cases e : t = k
      · subst e; rw [if_pos rfl, if_pos hk, if_pos rfl]
      · rw [if_neg e, if_neg e]; exact ih
    · rw [decide_eq_false hk]
      simp only [Bool.false_eq_true, if_false]
      rw [ih]
      by_cases e : t < GB
      · rw [if_pos e, if_pos e, if_neg (by omega)]
      · rw [if_neg e, if_neg e]
theorem aget_app_hi : ∀ (l r : List (Nat × LV)) (t : Nat), (∀ x ∈ l, x.1 < GB) → ¬ t < GB → aget (l ++ r) t = aget r t
  | [], r, t, _, _ => rfl
  | (k, v) :: l, r, t, h, ht => by
    have := h (k, v) List.mem_cons_self
    simp only [List.cons_append, aget]
    rw [if_neg (by simp only at this; omega)]
    exact aget_app_hi l r t (fun x hx => h x (List.mem_cons_of_mem _ hx)) ht
theorem aget_app_lo : ∀ (l r : List (Nat × LV)) (t : Nat), (∀ x ∈ r, ¬ x.1 < GB) → t < GB → aget (l ++ r) t = aget l t
  | [], r, t, h, ht => by
    show aget r t = .any
    induction r with
    | nil => rfl
    | cons x r ih =>
      obtain ⟨k, v⟩ := x
      have := h (k, v) List.mem_cons_self
      simp only [aget]
      rw [if_neg (by simp only at this; omega)]
      exact ih fun x hx => h x (List.mem_cons_of_mem _ hx)
  | (k, v) :: l, r, t, h, ht => by
    simp only [List.cons_append, aget]
    split
    · rfl
    · exact aget_app_lo l r t h ht
theorem aget_round (env : List (Nat × LV)) (t : Nat) : aget (lowE env ++ ghosts env) t = if t < GB then aget env t else aget env (t - GB) := by
  by_cases e : t < GB
  · rw [if_pos e, aget_app_lo _ _ _ (fun x hx => ?_) e, aget_low, if_pos e]
    obtain ⟨y, _, rfl⟩ := List.mem_map.1 hx
    simp
  · rw [if_neg e, aget_app_hi _ _ _ (fun x hx => ?_) e, aget_ghosts, if_neg e]
    have := List.mem_filter.1 hx
    simpa using this.2
def rX (X : Fx) (a : Act) (C : Ctx) (lk : Nat → Option LObj) (Bi : Nat → Prop) (l : Nat) (W : World) : Fx :=
  { X with
    w0 := W
    B0 := fun b => C.B b ∨ Bi b
    B1 := fun b => (C.B b ∨ Bi b) ∨ ∃ k o, lk k = some o ∧ o.frozen = false ∧ blk C k o = some b
    M := fun b => ∃ k o, lk k = some o ∧ o.frozen = false ∧ blk C k o = some b
    O0 := fun b => C.own b ∨ b = l
    D0 := C.dep
    gv := fun t => valAt X a (t - GB) }
theorem valAt_round (X : Fx) (a a' : Act) (C : Ctx) (lk : Nat → Option LObj) (Bi : Nat → Prop) (l : Nat) (W : World) (t : Nat) : valAt (rX X a C lk Bi l W) a' (t + GB) = valAt X a t := by
  unfold valAt
  rw [if_neg (by omega)]
  simp only [rX, valAt, Nat.add_sub_cancel]
theorem valAt_roundK (X : Fx) (a a' : Act) (C : Ctx) (lk : Nat → Option LObj) (Bi : Nat → Prop) (l : Nat) (W : World) (r : List (Nat × Obj)) (t : Nat) : valAt { rX X a C lk Bi l W with K := r } a' (t + GB) = valAt X a t := by
  unfold valAt
  rw [if_neg (by omega)]
  simp only [rX, valAt, Nat.add_sub_cancel]
theorem rX_mokK {Bi : Nat → Prop} {l : Nat} {r : List (Nat × Obj)} (hM : X.MOk) (h : RelC X C g lk tr stop a w) : Fx.MOk { rX X a C lk Bi l w with K := r } :=
  ⟨fun b hb => .inr hb, fun b ⟨k, o, hk, hf, hb⟩ => ((h.sep k o b hk hb).1 hf).elim (fun e => .inr (Nat.le_trans h.no0 e)) (hM.m2 b)⟩
theorem round_ok {P : Program} {ts : List (List PV)} {Bi : Nat → Prop} {l : Nat} {r : Loop} {rest : List (Nat × Obj)} (hy : ts = [] ∨ (YieldsAt P X.y X.Bo X.no X.J X.Jx ts ∧ JClosed X.J X.Jx)) (hM : X.MOk) (h : RelC X C g lk tr stop a w) :
    Cfg.Ok ⟨P, { rX X a C lk Bi l w with K := (l, .loop r) :: rest }, some l, ts⟩ where
  mok := rX_mokK hM h
  yok := by unfold YieldsOk; exact hy
  lok := fun l' hl' => by injection hl' with hl'; subst hl'; exact ⟨r, List.mem_cons_self⟩
theorem RelC.enter {env : List (Nat × LV)} {l : Nat} {o : Obj} {r : List (Nat × Obj)} {Bi : Nat → Prop} (hK : X.K = (l, o) :: r) (h : RelC X C (aget env) lk tr stop a w) (hd : a.defers = []) (hBi : ∀ b, Bi b → b < w.heap.size ∧ ¬ ownS l C lk b ∧ (X.Bo b ∨ X.no ≤ b)) (hBk : ∀ p ∈ X.K, ¬ Bi p.1) :
    RelC (rX X a C lk Bi l w) { C with B := fun b => C.B b ∨ Bi b } (aget (lowE env ++ ghosts env)) lk tr stop a w := by
  have hBe : ∀ b, C.B b → (fun b => C.B b ∨ Bi b) b := fun b hb => .inl hb
  have hrow : ∀ k e sz xs fz, lk k = some (.row e sz xs fz) → ∃ xs' fz', lk k = some (.row e sz xs' fz') ∧ (xs'.length = xs.length → C.cur k = C.cur k) ∧ xs.length ≤ xs'.length := fun k e sz xs fz hk => ⟨xs, fz, hk, fun _ => rfl, Nat.le_refl _⟩
  have hblk : ∀ k o, blk { C with B := fun b => C.B b ∨ Bi b } k o = blk C k o := fun k o => by cases o <;> rfl
  have hm := h.marks
  rw [hd] at hm
  exact {
    kx := KeepX.refl _ _
    yy := h.yy
    b0 := fun b hb => hb
    blt := fun b hb => hb.elim (h.blt b) fun e => (hBi b e).1
    bold := fun b hb _ => .inl hb
    borg := fun b hb => hb.elim (h.borg b) fun e => (hBi b e).2.2
    no0 := Nat.le_trans h.no0 h.kx.size
    tsz := h.tsz
    ngb := h.ngb
    env := fun t => by
      rw [aget_round]
      by_cases e : t < GB
      · rw [if_pos e, valAt_lt e]
        have := h.env t
        rw [valAt_lt e] at this
        exact RepL.same (C := C) (C' := { C with B := fun b => C.B b ∨ Bi b }) hBe rfl (fun _ _ => rfl) (fun _ _ _ => rfl) hrow (h.envs t) this
      · rw [if_neg e]
        have h1 := valAt_round X a a C lk Bi l w (t - GB)
        rw [show t - GB + GB = t by omega] at h1
        rw [h1]
        exact RepL.same (C := C) (C' := { C with B := fun b => C.B b ∨ Bi b }) hBe rfl (fun _ _ => rfl) (fun _ _ _ => rfl) hrow (h.envs _) (h.env _)
    envs := fun t => by
      rw [aget_round]
      split
      · exact h.envs t
      · exact h.envs _
    obj := fun k ob hk => ObjRel.same (C := C) (C' := { C with B := fun b => C.B b ∨ Bi b }) hBe rfl (fun _ _ => rfl) (fun _ _ _ => rfl) hrow hk (h.objs k ob hk) rfl (fun _ _ => rfl) (h.obj k ob hk)
    objs := h.objs
    sep := fun k ob b hk hb => by
      rw [hblk] at hb
      obtain ⟨h1, h2, h3, h4⟩ := h.sep k ob b hk hb
      exact ⟨fun hf => .inr ⟨k, ob, hk, hf, hb⟩, h2, fun hf hbb => hbb.elim (h3 hf) fun e => (hBi b e).2.1 (.inl ⟨k, ob, hk, hf, hb⟩), fun hf => .inl (h4 hf)⟩
    dis := fun k k' ob ob' b hne hk hk' hb hb' => h.dis k k' ob ob' b hne hk hk' (by rw [hblk] at hb; exact hb) (by rw [hblk] at hb'; exact hb')
    marks := by
      rw [hd]
      intro p hp
      obtain ⟨h1, h2, h3, h4, h5⟩ := hm p hp
      exact ⟨h1, h2, fun hbb => hbb.elim h3 (hBk p hp), h4, fun k ob hk => by rw [hblk]; exact h5 k ob hk⟩
    nle := h.nle
    dn := h.dn
    nn := fun k ob b hk hb hf => h.nn k ob b hk (by rw [hblk] at hb; exact hb) hf
    ow := fun b hb => ⟨fun hbb => hbb.elim (h.ow b hb).1 fun e => (hBi b e).2.1 (.inr (.inr hb)), (h.ow b hb).2⟩
    oold := fun b hb => .inr (.inl hb)
    dold := fun b hb => .inl hb
    jj := h.jj }
theorem RelC.leave {env : List (Nat × LV)} {l : Nat} {o o' : Obj} {r : List (Nat × Obj)} {Bi : Nat → Prop} {C3 : Ctx} {lk3 : Nat → Option LObj} {tr3 : List (List PV)} {stop3 : Bool} {a3 : Act} {W3 : World} (hM : X.MOk) (hK : X.K = (l, o) :: r) (h : RelC X C (aget env) lk tr stop a w) (hd : a.defers = [])
    (hl : X.w0.heap.size ≤ l) (hBi : ∀ b, Bi b → b < X.w0.heap.size → X.B1 b)
    (h3 : RelC { rX X a C lk Bi l w with K := (l, o') :: r } C3 (aget (ghosts env)) lk3 tr3 stop3 a3 W3) :
    RelC { X with K := (l, o') :: r } C3 (aget env) lk3 tr3 stop3 a W3 ∧ Rnd (depS X C lk) (ownS l C lk) Bi (depS { X with K := (l, o') :: r } C3 lk3) (ownS l C3 lk3) w W3 ∧ (∀ b, C.B b → C3.B b) := by
  have hsz : X.w0.heap.size ≤ w.heap.size := h.kx.size
  have hKe : ∀ b, (∃ p ∈ (l, o') :: r, p.1 = b) ↔ ∃ p ∈ X.K, p.1 = b := fun b => by rw [hK]; simp
  have hM2 : ∀ b, (∃ k ob, lk k = some ob ∧ ob.frozen = false ∧ blk C k ob = some b) → X.w0.heap.size ≤ b ∨ X.M b := fun b ⟨k, ob, hk, hf, hb⟩ => (h.sep k ob b hk hb).1 hf
  have hB1 : ∀ b, C3.B b → b < w.heap.size → C.B b ∨ Bi b ∨ ∃ k ob, lk k = some ob ∧ ob.frozen = false ∧ blk C k ob = some b := fun b hb hlt => by
    rcases h3.bold b hb hlt with (e | e) | e
    · exact .inl e
    · exact .inr (.inl e)
    · exact .inr (.inr e)
  have hsep3 : ∀ k ob b, lk3 k = some ob → blk C3 k ob = some b → ob.frozen = false → w.heap.size ≤ b ∨ ∃ k ob, lk k = some ob ∧ ob.frozen = false ∧ blk C k ob = some b := fun k ob b hk hb hf => (h3.sep k ob b hk hb).1 hf
  have hm3 := h3.marks.k
  refine ⟨{
    kx := ⟨h3.kx.os.trans h.kx.os, h3.kx.tape.trans h.kx.tape, h3.kx.output.trans h.kx.output, Nat.le_trans hsz h3.kx.size, fun b hb hmm => (h3.kx.block b (Nat.lt_of_lt_of_le hb hsz) fun e => by
      replace hb : b < X.w0.heap.size := hb
      rcases e with e | e | e
      · rcases hM2 b e with e | e
        · omega
        · exact hmm (.inl e)
      · rcases h.oold b e with e | e
        · omega
        · exact hmm (.inr e)
      · omega).trans (h.kx.block b hb hmm)⟩
    yy := h3.yy
    b0 := fun b hb => h3.b0 b (.inl (h.b0 b hb))
    blt := h3.blt
    bold := fun b hb hlt => by
      rcases hB1 b hb (by show b < _; have : b < X.w0.heap.size := hlt; omega) with e | e | e
      · exact h.bold b e hlt
      · exact hBi b e hlt
      · rcases hM2 b e with e | e
        · have : b < X.w0.heap.size := hlt; omega
        · exact hM.m1 b e
    borg := h3.borg
    no0 := h.no0
    tsz := h.tsz
    ngb := h.ngb
    env := fun t => by
      have := h3.env (t + GB)
      rw [valAt_roundK, aget_ghosts, if_neg (by omega), Nat.add_sub_cancel] at this
      exact this
    envs := fun t => by
      have := h3.envs (t + GB)
      rw [aget_ghosts, if_neg (by omega), Nat.add_sub_cancel] at this
      exact this
    obj := h3.obj
    objs := h3.objs
    sep := fun k ob b hk hb => by
      obtain ⟨h1, h2, g3, g4⟩ := h3.sep k ob b hk hb
      exact ⟨fun hf => (h1 hf).elim (fun e => .inl (Nat.le_trans hsz e)) (hM2 b), h2, g3, g4⟩
    dis := h3.dis
    marks := by rw [hd]; exact hm3
    nle := h3.nle
    dn := h3.dn
    nn := h3.nn
    ow := h3.ow
    oold := fun b hb => (h3.oold b hb).elim (fun e => .inl (Nat.le_trans hsz e)) fun e => e.elim (h.oold b) fun e => .inl (by subst e; exact hl)
    dold := fun b hb => (h3.dold b hb).elim (fun e => (h.dold b e).imp id (Or.imp id fun e => h3.b0 b (.inl e))) fun e => e.elim (fun e => .inr (.inl (Nat.le_trans hsz e))) fun e => .inr (.inr e)
    jj := h3.jj }, ⟨h3.kx.mono fun b _ e => ?_, fun b hb => ?_, fun b hb => ?_, fun b hb => ?_, fun b hb => ?_⟩, fun b hb => h3.b0 b (.inl hb)⟩
  · rcases e with e | e | e
    · exact .inl e
    · exact .inr (.inr e)
    · exact .inr (.inl e)
  · have hobj : ∀ b, C3.B b → depS X C lk b ∨ w.heap.size ≤ b ∨ Bi b := fun b hb => by
      by_cases hlt : b < w.heap.size
      · rcases hB1 b hb hlt with e | e | ⟨k, ob, h1, h2, h4⟩
        · exact .inl (.inr (.inl e))
        · exact .inr (.inr e)
        · exact .inl (.inr (.inr (.inl ⟨k, ob, h1, h4⟩)))
      · exact .inr (.inl (by omega))
    rcases hb with hb | hb | ⟨k, ob, hk, hb⟩ | hb | hb
    · exact .inl (.inl hb)
    · exact hobj b hb
    · cases hf : ob.frozen with
      | true => exact hobj b ((h3.sep k ob b hk hb).2.2.2 hf)
      | false =>
        rcases hsep3 k ob b hk hb hf with e | ⟨k, ob, h1, h2, h4⟩
        · exact .inr (.inl e)
        · exact .inl (.inr (.inr (.inl ⟨k, ob, h1, h4⟩)))
    · exact .inl (.inr (.inr (.inr (.inl ((hKe b).1 hb)))))
    · rcases h3.dold b hb with e | e | e
      · exact .inl (.inr (.inr (.inr (.inr e))))
      · exact .inr (.inl e)
      · exact hobj b e
  · rcases hb with hb | hb | ⟨k, ob, hk, hb⟩ | ⟨p, hp, rfl⟩ | hb
    · exact Nat.lt_of_lt_of_le (Nat.lt_of_lt_of_le hb hsz) h3.kx.size
    · exact h3.blt b hb
    · exact (h3.sep k ob b hk hb).2.1
    · exact Mk.lt_of (hm3 p hp).1
    · exact Nat.lt_of_lt_of_le (h3.dn b hb) h3.nle
  · rcases hb with ⟨k, ob, hk, hf, hb⟩ | rfl | hb
    · exact (hsep3 k ob b hk hb hf).elim .inr fun e => .inl (.inl e)
    · exact .inl (.inr (.inl rfl))
    · exact (h3.oold b hb).elim .inr fun e => e.elim (fun e => .inl (.inr (.inr e))) fun e => .inl (.inr (.inl e))
  · rcases hb with ⟨k, ob, hk, hf, hb⟩ | rfl | hb
    · exact .inr (.inr (.inl ⟨k, ob, hk, hb⟩))
    · exact .inr (.inr (.inr (.inl ⟨_, List.mem_cons_self, rfl⟩)))
    · exact .inr (.inr (.inr (.inr (h3.ow b hb).2)))
end
end Go.Proofs.YtcfbdeghmckelaaGreat
namespace Go.Proofs.YtcfbdeghmckelaaGreat
open Go.RowKit
def parEnv : List Nat → List PV → List (Nat × LV) → List (Nat × LV)
  | p :: ps, v :: vs, env => parEnv ps vs ((p, .p v) :: env)
  | _, _, env => env
section
variable {X : Fx} {C : Ctx} {g : Nat → LV} {lk : Nat → Option LObj} {tr : List (List PV)} {stop : Bool} {a : Act} {w w' : World} {P : Program}
theorem RelC.puts {ds : List Deferred} : ∀ (ps : List Nat) (vs : List Value) (t : List PV) (env : List (Nat × LV)) (tm : Array Value), RelC X C (aget env) lk tr stop { tmps := tm, defers := ds } w → Reps w C.B vs t → ps.length = t.length → (∀ p ∈ ps, p < X.N) →
    RelC X C (aget (parEnv ps t env)) lk tr stop { tmps := (ps.zip vs).foldl (fun tm x => tm.setIfInBounds x.1 x.2) tm, defers := ds } w
  | [], vs, t, env, tm, h, hv, hl, hp => by simpa [parEnv] using h
  | p :: ps, vs, [], env, tm, h, hv, hl, hp => by simp at hl
  | p :: ps, vs, v :: t, env, tm, h, hv, hl, hp => by
    obtain ⟨u, us, rfl, h1, h2⟩ := hv.cons_inv
    have h3 := h.put (d := p) (v := u) (q := .p v) (hp p List.mem_cons_self) (.p h1) (.p v)
    rw [← aget_cons] at h3
    exact RelC.puts ps us t _ _ h3 h2 (by simpa using hl) fun q hq => hp q (List.mem_cons_of_mem _ hq)
theorem enter_loop {ro : Option Nat} (h : RelC X C g lk tr stop a w) (hlok : ∀ l, ro = some l → ∃ r, (l, Obj.loop r) ∈ X.K) (fn : FuncId) (ps : Array Tmp) (asg body : Code) :
    ∃ (l : Nat) (mark : List Deferred) (W1 : World) (db : Nat), (Instr.enterLoop fn a.tmps ps asg body ro).run P w = .ok (l, mark) W1 ∧
      W1.heap[l]? = some (.loop { state := .ready, pending := none, fn, tmps := a.tmps, params := ps, assign := asg, body, defers := db }) ∧ RelC X C g lk tr stop { a with defers := mark ++ a.defers } W1 ∧ Apart X C lk l ∧ w.heap.size ≤ l ∧ (∀ p ∈ mksK (mark ++ a.defers) ++ X.K, p.1 ≠ l) ∧ Below w.heap.size w W1 := by
  have hapart : ∀ r, w.heap.size ≤ r → Apart X C lk r := fun r hr => ⟨by have := h.no0; have := h.kx.size; omega, fun hb => by have := h.blt r hb; omega, fun hd => by have := h.dn r hd; have := h.nle; omega, fun k o hk hb => by have := (h.sep k o r hk hb).2.1; omega⟩
  cases ro with
  | none =>
    have hb : Below w.heap.size w ((w.alloc (.deferred (some []))).alloc (.loop { state := .ready, pending := none, fn, tmps := a.tmps, params := ps, assign := asg, body, defers := w.heap.size })) :=
      ((Below.refl _ w).alloc (Nat.le_refl _) _).alloc (by simp) _
    have h1 := h.grow hb C.B (fun _ h => h) (fun b hb => .inl hb)
    have hD : ((w.alloc (.deferred (some []))).alloc (.loop { state := .ready, pending := none, fn, tmps := a.tmps, params := ps, assign := asg, body, defers := w.heap.size })).heap[w.heap.size]? = some (.deferred (some [])) :=
      (Below.heap_alloc _ _ _ (by simp)).trans (World.alloc_heap_new w _)
    refine ⟨w.heap.size + 1, [{ target := .collected w.heap.size, args := #[] }], _, w.heap.size, run_enterLoop_outer _ _ _ _ _, ?_, { h1 with marks := ⟨⟨w.heap.size, rfl, hD, h.kx.size, hapart _ (Nat.le_refl _), fun d hd he => ?_, fun p hp he => ?_⟩, h1.marks⟩ }, hapart _ (by omega), by omega, fun p hp he => ?_, hb⟩
    · have := World.alloc_heap_new (w.alloc (.deferred (some []))) (.loop { state := .ready, pending := none, fn, tmps := a.tmps, params := ps, assign := asg, body, defers := w.heap.size })
      rwa [World.size_alloc] at this
    · have := h.marks.lt _ (.inl ⟨d, hd, he⟩); omega
    · have := h.marks.lt p.1 (.inr ⟨p, hp, rfl⟩); omega
    · have : p ∈ (w.heap.size, Obj.deferred (some [])) :: (mksK a.defers ++ X.K) := by
        simpa [mksK] using hp
      rcases List.mem_cons.1 this with rfl | hp
      · simp only at he; omega
      · have := h.marks.lt _ (mksK_mem h.marks p hp); omega
  | some l0 =>
    obtain ⟨r0, hr0⟩ := hlok l0 rfl
    have hl0 := (mksK_ok h.marks _ (List.mem_append_right _ hr0)).1
    have hb : Below w.heap.size w (w.alloc (.loop { state := .ready, pending := none, fn, tmps := a.tmps, params := ps, assign := asg, body, defers := r0.defers })) := (Below.refl _ w).alloc (Nat.le_refl _) _
    have h1 := h.grow hb C.B (fun _ h => h) (fun b hb => .inl hb)
    refine ⟨w.heap.size, [], _, r0.defers, run_enterLoop_inner hl0 _ _ _ _ _, World.alloc_heap_new w _, { h1 with marks := h1.marks }, hapart _ (Nat.le_refl _), Nat.le_refl _, fun p hp he => ?_, hb⟩
    have := h.marks.lt _ (mksK_mem h.marks p hp); omega
attribute [local irreducible] valAt GB
def asgK (K : St → Prop) : APost
  | .normal, s => K s
  | _, _ => False
def roundI (env : List (Nat × LV)) (nx : St) (okn : Prop) (Q : APost) : APost
  | .normal, s => Cov s nx ∧ okn
  | .exit id, s => Cov s ⟨ghosts env, s.obj, s.tr, s.stop⟩ ∧ Q (.exit id) ⟨env, s.obj, s.tr, s.stop⟩
  | .ret, s => Cov s ⟨ghosts env, s.obj, s.tr, s.stop⟩ ∧ Q .ret ⟨env, s.obj, s.tr, s.stop⟩
def roundK (env : List (Nat × LV)) (nx : St) (Q : APost) : APost := roundI env nx True Q
theorem run_rfuncI {X : Fx} {ro : Option Nat} {ts0 : List (List PV)} {s : St} {Q : APost} {fop : AOpd} {params : List Nat} {asg body : AC} {gf : Nat} {caps : List PV} {ts : List (List PV)} (hf : fop.ev s = .p (.fn (.func gf) [] caps)) (hit : Iter P gf caps ts)
    (hlen : ∀ t ∈ ts, t.length = params.length) (hpar : ∀ p ∈ params, p < X.N) (env : List (Nat × LV)) (obj : Nat → List (Nat × LObj)) (T : Nat → List (List PV)) (ok : Nat → Prop) (h0 : Cov s ⟨env, obj 0, T 0, false⟩) (hok0 : ok 0)
    (hround : ∀ (k : Nat) (t : List PV), ts[k]? = some t → ok k → ∀ (X' : Fx) (ro' : Option Nat), X'.N = X.N → Run ⟨P, X', ro', ts0⟩ asg ⟨parEnv params t (lowE env ++ ghosts env), obj k, T k, false⟩
      (asgK fun s1 => ∀ (X' : Fx), X'.N = X.N → Run ⟨P, X', ro', ts0⟩ body s1 (roundI env ⟨ghosts env, obj (k + 1), T (k + 1), false⟩ (ok (k + 1)) Q)))
    (hend : ok ts.length → Q .normal ⟨env, obj ts.length, T ts.length, false⟩) : Run ⟨P, X, ro, ts0⟩ (.rfunc fop params asg body) s Q := by
  intro hG code hc C a w hr
  cases code <;> simp only [compile, Option.map_eq_some_iff] at hc
  case rangeFunc f0 ps asg0 body0 =>
    split at hc
    case h_2 => cases hc
    rename_i f' x' y' hf0 h1 h2
    injection hc with hc; injection hc with e0 e1 e2 e3; subst e0; subst e1; subst e2; subst e3
    have hv := (aopd_eval hr rfl hf0).1
    rw [hf] at hv
    obtain ⟨fs, cs, hfe, hfs, hcs⟩ := rep_fn (repl_p_inv hv)
    have hfs0 : fs = #[] := by simpa using hfs.nil_inv
    subst hfs0
    have hr0 : RelC X C (aget env) (oget (obj 0)) (T 0) false a w := cov_rel h0 hr
    refine wpIn_rangeFunc (F := wideR ro) (n := 0) ?_
    intro fn hfn
    obtain ⟨l, mark, W1, db, henter, hl, R1, hap, hlw, hKl, hbel⟩ := enter_loop (P := P) hr0 hG.lok fn ps asg0 body0
    obtain ⟨rec, hrec⟩ : ∃ rec : LoopState → Option Code → Loop, rec = fun st pe => { state := st, pending := pe, fn, tmps := a.tmps, params := ps, assign := asg0, body := body0, defers := db } := ⟨_, rfl⟩
    obtain ⟨ds, hds⟩ : ∃ ds, ds = mark ++ a.defers := ⟨_, rfl⟩
    rw [← hds] at R1 hKl
    have hl1 : W1.heap[l]? = some (.loop (rec .ready none)) := by rw [hrec]; exact hl
    have hpend : ∀ st pe, (rec st pe).pending = pe := fun st pe => by rw [hrec]
    have hbusy : ∀ (jump : Option Code), ({ ({ rec .ready none with state := .busy } : Loop) with state := if jump.isNone then .ready else .done, pending := jump } : Loop) = rec (if jump.isNone then .ready else .done) jump := fun jump => by rw [hrec]
    let XK : Obj → Fx := fun o => kX X ds l o
    let a1 : Act := { tmps := a.tmps, defers := [] }
    have R1K : RelC (XK (.loop (rec .ready none))) C (aget env) (oget (obj 0)) (T 0) false a1 W1 := R1.toK hl1 hap
    have hlX : X.w0.heap.size ≤ l := Nat.le_trans hr0.kx.size hlw
    have hMK : ∀ o, (XK o).MOk := fun o => ⟨hG.mok.m1, hG.mok.m2⟩
    let J : List (List PV) → (Nat → Prop) → (Nat → Prop) → World → Prop := fun pre D O W => ∃ k C', pre = ts.take k ∧ (k ≤ ts.length ∧ ok k) ∧ RelC (XK (.loop (rec .ready none))) C' (aget env) (oget (obj k)) (T k) false a1 W ∧ D = depS (XK (.loop (rec .ready none))) C' (oget (obj k)) ∧ O = ownS l C' (oget (obj k)) ∧ (∀ b, C.B b → C'.B b)
    let Jx : List (List PV) → (Nat → Prop) → World → Prop := fun pre D W => ∃ (c : Code) (C' : Ctx) (s' : St), RelC (XK (.loop (rec .done (some c)))) C' (aget env) s'.look s'.tr s'.stop a1 W ∧ D = depS (XK (.loop (rec .done (some c)))) C' s'.look ∧
      ((c = .ret ∧ Q .ret ⟨env, s'.obj, s'.tr, s'.stop⟩) ∨ ∃ id, c = .exit id ∧ Q (.exit id) ⟨env, s'.obj, s'.tr, s'.stop⟩)
    have hcl : JClosed J Jx := ⟨fun t D O w w' ⟨k, C', g1, g2, g3, g4, g5, g6⟩ hk => ⟨k, C', g1, g2, g3.kept rfl (by rw [← g4]; exact hk), g4, g5, g6⟩,
      fun t D w w' ⟨c, C', s', g1, g2, g3⟩ hk => ⟨c, C', s', g1.kept rfl (by rw [← g2]; exact hk), g2, g3⟩⟩
    have hK1 : ∀ b, (∃ p ∈ (XK (.loop (rec .ready none))).K, p.1 = b) → b < W1.heap.size ∧ ¬ C.B b := fun b hb => by
      have := R1K.marks.at b (.inr hb)
      exact ⟨this.1, this.2.2.1⟩
    have hres : (resolve a.eval (rangeCall f0 l) 0).run P W1 = .ok { target := .fn (.func gf) cs, args := #[.func (.yield l) #[] #[]] } W1 := by
      have he : a.eval (.const (.func (.yield l) #[] #[])) = .func (.yield l) #[] #[] := rfl
      simp [resolve, rangeCall, hfe, Deferred.ofValue, he]
    obtain ⟨⟨gfn, gc, hg1, hg2, hg3⟩, hit⟩ := hit
    have hinv : (invoke (.fn (.func gf) cs) #[.func (.yield l) #[] #[]]).run P W1 = .ok (.enter gf (.func (.yield l) #[] #[] :: cs.toList).toArray) W1 := by
      have h2' : ¬ gfn.name = "runtime.NumGoroutine" := by simpa using hg2
      simp [invoke, callFunc, hg1, h2', hg3]
    refine ⟨l, mark, W1, _, W1, gf, _, W1, henter, hres, fun _ _ => trivial, hinv, fun h => by simp [wideR, Fence.wide] at h, ?_⟩
    have hBlt : ∀ b, C.B b → b < W1.heap.size := fun b hb => R1.blt b hb
    have hcall := hit W1 C.B l cs.toList J Jx (depS (XK (.loop (rec .ready none))) C (oget (obj 0))) (ownS l C (oget (obj 0))) hBlt (hcs.mono (fun _ h => h) fun b hb => hbel.block b (hr0.blt b hb))
      (depS_lt R1K) (ownS_dep R1K ⟨_, List.mem_cons_self, rfl⟩) hcl ?_ ⟨0, C, by simp, ⟨Nat.zero_le _, hok0⟩, R1K, rfl, rfl, fun _ h => h⟩
    · -- behind the iterator
      have h4 : CallsIn Fence.wide (0 - 1) P gf (.func (.yield l) #[] #[] :: cs.toList).toArray W1 _ := callsIn_wide.2 hcall
      have hKne : ∀ p ∈ mksK ds ++ X.K, p.1 ≠ l := hKl
      have h5 := CallsIn.mono h4 (R' := rangePost (wideR ro) 0 P l (QQ ⟨P, X, ro, ts0⟩ Q) { a with defers := ds }) ?_
      · rw [← hds]; exact h5
      rintro e w' ⟨⟨v, rfl⟩, (⟨D', O', k, C', g1, g2, g3, _, _, _⟩ | ⟨pre, D', c, C', s', g1, _, g3⟩)⟩
      · have hk : k = ts.length := by
          have := congrArg List.length g1
          rw [List.length_take] at this
          have := g2.1
          omega
        subst hk
        have hlw' := ((g3.marks : KOk _ _ _ _) (l, _) List.mem_cons_self).1
        have hend2 := run_endLoop (P := P) hlw' (by rw [hrec]; simp)
        rw [hpend] at hend2
        refine ⟨none, _, hend2, ?_⟩
        exact ⟨⟨env, obj ts.length, T ts.length, false⟩, C', RelC.ofK (g3.setK hKne (.inl hlX)) R1.marks, hend g2.2⟩
      · have hlw' := ((g1.marks : KOk _ _ _ _) (l, _) List.mem_cons_self).1
        have hend2 := run_endLoop (P := P) hlw' (by rw [hrec]; simp)
        rw [hpend] at hend2
        refine ⟨some c, _, hend2, ?_⟩
        rcases g3 with ⟨rfl, hq⟩ | ⟨id, rfl, hq⟩
        · exact wpIn_ret ⟨⟨env, s'.obj, s'.tr, s'.stop⟩, C', RelC.ofK (g1.setK hKne (.inl hlX)) R1.marks, hq⟩
        · exact wpIn_exit ⟨⟨env, s'.obj, s'.tr, s'.stop⟩, C', RelC.ofK (g1.setK hKne (.inl hlX)) R1.marks, hq⟩
    rintro pre t post D O W Bi args hts ⟨k, C', rfl, ⟨hk, hokk⟩, R, rfl, rfl, hCB⟩ hBi hargs
    have htk : ts[k]? = some t := by
      have : (ts.take k).length = k := by rw [List.length_take]; omega
      rw [hts, List.getElem?_append_right (by omega), this, Nat.sub_self]
      rfl
    have htl : t.length = ps.toList.length := hlen t (List.mem_of_getElem? htk)
    have hlW := ((R.marks : KOk _ _ _ _) (l, _) List.mem_cons_self).1
    have hy := run_yield (P := P) (args := args.toArray) hlW (by rw [hrec]; simp; rw [hargs.1, htl]; simp)
    have hBo : ∀ b, Bi b → X.Bo b ∨ X.no ≤ b := fun b hb => (hBi b hb).2.2.elim (R1.borg b) fun e => .inr (by have := R1.no0; have := R1.kx.size; omega)
    have hBk : ∀ p ∈ (XK (.loop (rec .ready none))).K, ¬ Bi p.1 := fun p hp hb => by
      obtain ⟨k1, k2⟩ := hK1 p.1 ⟨p, hp, rfl⟩
      exact (hBi _ hb).2.2.elim k2 fun e => by omega
    have E := R.enter (X := XK (.loop (rec .ready none))) (Bi := Bi) rfl rfl (fun b hb => ⟨(hBi b hb).1, (hBi b hb).2.1, hBo b hb⟩) hBk
    have E2 := RelC.puts (ds := []) ps.toList args t _ _ E (hargs.mono (fun b hb => .inr hb) fun _ _ => rfl) htl.symm (fun p hp => hpar p hp)
    have hfold : ((rec .ready none).params.zip args.toArray).foldl (fun tmps (t, a) => tmps.setIfInBounds t a) (rec .ready none).tmps = (ps.toList.zip args).foldl (fun tm x => tm.setIfInBounds x.1 x.2) a.tmps := by
      rw [hrec, ← Array.foldl_toList, Array.toList_zip]
    have hr1 : (rec .ready none).fn = fn := by rw [hrec]
    have hr2 : (rec .ready none).assign = asg0 := by rw [hrec]
    have hr3 : (rec .ready none).body = body0 := by rw [hrec]
    have hy2 : (Instr.yield l args.toArray).run P W = .ok (.round l fn ((ps.toList.zip args).foldl (fun tm x => tm.setIfInBounds x.1 x.2) a.tmps) asg0 body0) W := by
      rw [← hfold, ← hr1, ← hr2, ← hr3]; exact hy
    refine ⟨fn, _, asg0, body0, hy2, roundIn_of_wpIn trivial ?_⟩
    have hyok : ts0 = [] ∨ (YieldsAt P X.y X.Bo X.no X.J X.Jx ts0 ∧ JClosed X.J X.Jx) := hG.yok
    have hGr : ∀ r : Loop, Cfg.Ok ⟨P, { rX (XK (.loop (rec .ready none))) a1 C' (oget (obj k)) Bi l W with K := (l, .loop r) :: (mksK ds ++ X.K) }, some l, ts0⟩ := fun r => round_ok (X := XK (.loop (rec .ready none))) hyok (hMK _) R
    have hA := hround k t htk hokk { rX (XK (.loop (rec .ready none))) a1 C' (oget (obj k)) Bi l W with K := (l, .loop (rec .ready none)) :: (mksK ds ++ X.K) } (some l) rfl (hGr _) asg0 h1 _ { tmps := (ps.toList.zip args).foldl (fun tm x => tm.setIfInBounds x.1 x.2) a.tmps, defers := [] } W E2
    have hfin : ∀ (jump : Option Code) (C3 : Ctx) (lk3 : Nat → Option LObj) (tr3 : List (List PV)) (st3 : Bool) (a3 : Act) (W3 : World), RelC { rX (XK (.loop (rec .ready none))) a1 C' (oget (obj k)) Bi l W with K := (l, .loop { rec .ready none with state := .busy }) :: (mksK ds ++ X.K) } C3 (aget (ghosts env)) lk3 tr3 st3 a3 W3 →
        ∃ W4, (Instr.endRound l jump).run P W3 = .ok (.bool jump.isNone) W4 ∧ RelC (XK (.loop (rec (if jump.isNone then .ready else .done) jump))) C3 (aget env) lk3 tr3 st3 a1 W4 ∧
          Rnd (depS (XK (.loop (rec .ready none))) C' (oget (obj k))) (ownS l C' (oget (obj k))) Bi (depS (XK (.loop (rec (if jump.isNone then .ready else .done) jump))) C3 lk3) (ownS l C3 lk3) W W4 ∧ (∀ b, C'.B b → C3.B b) := fun jump C3 lk3 tr3 st3 a3 W3 h3 => by
      have hm3 := h3.marks.k
      have hl3 := (hm3 (l, _) List.mem_cons_self).1
      have hend3 := run_endRound (P := P) jump hl3
      have h4 := h3.setK (o' := .loop (rec (if jump.isNone then .ready else .done) jump)) hKl (.inr (.inr rfl))
      obtain ⟨k1, k2, k3⟩ := RelC.leave (X := XK (.loop (rec .ready none))) (hMK _) rfl R rfl hlX (fun b hb hlt => (hBi b hb).2.2.elim (fun e => R1.bold b e hlt) fun e => by have := R1.kx.size; have : b < X.w0.heap.size := hlt; omega) h4
      rw [hbusy] at hend3
      exact ⟨_, hend3, k1, k2, k3⟩
    refine wpIn_mono (F := wideR (some l)) hA ?_
    rintro e aa Wa ⟨sa, Ca, hra, hqa⟩
    cases e with
    | normal =>
      have hla := (hra.marks.k (l, _) List.mem_cons_self).1
      refine ⟨_, run_beginRound hla (by rw [hrec]), ?_⟩
      have hrb := RelC.setK (X := rX (XK (.loop (rec .ready none))) a1 C' (oget (obj k)) Bi l W) (o := .loop (rec .ready none)) (r := mksK ds ++ X.K) hra (o' := .loop { rec .ready none with state := .busy }) hKl (.inr (.inr rfl))
      have hBod := hqa { rX (XK (.loop (rec .ready none))) a1 C' (oget (obj k)) Bi l W with K := (l, .loop { rec .ready none with state := .busy }) :: (mksK ds ++ X.K) } rfl (hGr _) body0 h2 _ aa _ hrb
      refine wpIn_mono (F := wideR (some l)) hBod ?_
      rintro e a3 W3 ⟨s3, C3, h3, hq3⟩
      cases e with
      | normal =>
        have h3' : RelC _ C3 (aget (ghosts env)) (oget (obj (k + 1))) (T (k + 1)) false a3 W3 := cov_rel hq3.1 h3
        obtain ⟨W4, g1, g2, g3, g4⟩ := hfin none C3 _ _ _ a3 W3 h3'
        refine ⟨_, W4, g1, true, rfl, ?_⟩
        rw [if_pos rfl]
        have hk1 : k + 1 ≤ ts.length := (List.getElem?_eq_some_iff.1 htk).1
        exact ⟨_, _, ⟨k + 1, C3, by rw [List.take_add_one, htk]; rfl, ⟨hk1, hq3.2⟩, g2, rfl, rfl, fun b hb => g4 b (hCB b hb)⟩, g3⟩
      | exit id =>
        have h3' : RelC _ C3 (aget (ghosts env)) s3.look s3.tr s3.stop a3 W3 := cov_rel hq3.1 h3
        obtain ⟨W4, g1, g2, g3, g4⟩ := hfin (some (.exit id)) C3 _ _ _ a3 W3 h3'
        refine ⟨_, W4, g1, false, rfl, ?_⟩
        rw [if_neg (by simp)]
        exact ⟨_, ⟨.exit id, C3, s3, g2, rfl, .inr ⟨id, rfl, hq3.2⟩⟩, ⟨g3.kx, g3.d1, g3.d2, fun _ h => h.elim, fun _ h => h.elim⟩⟩
      | ret =>
        have h3' : RelC _ C3 (aget (ghosts env)) s3.look s3.tr s3.stop a3 W3 := cov_rel hq3.1 h3
        obtain ⟨W4, g1, g2, g3, g4⟩ := hfin (some .ret) C3 _ _ _ a3 W3 h3'
        refine ⟨_, W4, g1, false, rfl, ?_⟩
        rw [if_neg (by simp)]
        exact ⟨_, ⟨.ret, C3, s3, g2, rfl, .inl ⟨rfl, hq3.2⟩⟩, ⟨g3.kx, g3.d1, g3.d2, fun _ h => h.elim, fun _ h => h.elim⟩⟩
      | goto l => exact hq3.elim
      | panic c => exact hq3.elim
      | outgrown => exact hq3.elim
    | exit id => exact hqa.elim
    | ret => exact hqa.elim
    | goto l => exact hqa.elim
    | panic c => exact hqa.elim
    | outgrown => exact hqa.elim
  all_goals first | (cases hc; done) | (obtain ⟨_, _, hc⟩ := hc; cases hc; done) | (split at hc <;> cases hc; done)
theorem run_rfunc {X : Fx} {ro : Option Nat} {ts0 : List (List PV)} {s : St} {Q : APost} {fop : AOpd} {params : List Nat} {asg body : AC} {gf : Nat} {caps : List PV} {ts : List (List PV)} (hf : fop.ev s = .p (.fn (.func gf) [] caps)) (hit : Iter P gf caps ts)
    (hlen : ∀ t ∈ ts, t.length = params.length) (hpar : ∀ p ∈ params, p < X.N) (env : List (Nat × LV)) (obj : Nat → List (Nat × LObj)) (T : Nat → List (List PV)) (h0 : Cov s ⟨env, obj 0, T 0, false⟩)
    (hround : ∀ (k : Nat) (t : List PV), ts[k]? = some t → ∀ (X' : Fx) (ro' : Option Nat), X'.N = X.N → Run ⟨P, X', ro', ts0⟩ asg ⟨parEnv params t (lowE env ++ ghosts env), obj k, T k, false⟩
      (asgK fun s1 => ∀ (X' : Fx), X'.N = X.N → Run ⟨P, X', ro', ts0⟩ body s1 (roundK env ⟨ghosts env, obj (k + 1), T (k + 1), false⟩ Q)))
    (hend : Q .normal ⟨env, obj ts.length, T ts.length, false⟩) : Run ⟨P, X, ro, ts0⟩ (.rfunc fop params asg body) s Q :=
  run_rfuncI hf hit hlen hpar env obj T (fun _ => True) h0 trivial (fun k t ht _ => hround k t ht) fun _ => hend
end
end Go.Proofs.YtcfbdeghmckelaaGreat
namespace Go.Proofs.YtcfbdeghmckelaaGreat
open Go.RowKit
set_option linter.defProp false
theorem qx_kn_lp (look : Nat → Option LObj) (k o : Nat) : LV.known look (LV.lp k o) = True := rfl
theorem qx_kn_it (look : Nat → Option LObj) (k : Nat) : LV.known look (LV.it k) = True := rfl
theorem qx_kn_lm (look : Nat → Option LObj) (k : Nat) : LV.known look (LV.lm k) = True := rfl
theorem qx_kn_fn (look : Nat → Option LObj) (f : Fn) (a b : List LV) : LV.known look (LV.fn f a b) = True := rfl
theorem qx_kn_agg (look : Nat → Option LObj) (cs : List LV) : LV.known look (LV.agg cs) = True := rfl
theorem qx_kn_yield (look : Nat → Option LObj)  : LV.known look (LV.yield ) = True := rfl
theorem qx_cells (ys : List PV) : eqCells [] ys = true := rfl
theorem qx_updn {α : Type} (cs : List α) (off : Nat) : updL cs off [] = cs.take off ++ [] ++ cs.drop (off + ([] : List α).length) := rfl
theorem qx_updc {α : Type} (cs : List α) (off : Nat) (a b : α) (r : List α) : updL cs off (a :: b :: r) = cs.take off ++ (a :: b :: r) ++ cs.drop (off + (a :: b :: r).length) := rfl
theorem qx_fillP (cs vs : List PV) : fillP cs [] vs = cs := by cases vs <;> simp [fillP]
theorem qx_fillE (xs vs : List PV) : fillE xs [] vs = xs := by cases vs <;> simp [fillE]
theorem qx_frz (s : ByteArray) (p : Nat) : (LObj.sit s p).freeze = .sit s p := rfl
theorem qx_seqr (G : Cfg) (y : AC) (Q : APost) (s : St) : seqK G y Q .ret s = Q .ret s := rfl
theorem qx_seqe (G : Cfg) (y : AC) (Q : APost) (i : Nat) (s : St) : seqK G y Q (.exit i) s = Q (.exit i) s := rfl
theorem qx_loopr {κ : Type} (inv : κ → St) (ok : κ → Prop) (μ : κ → Nat) (k : κ) (Q : APost) (s : St) : loopK inv ok μ k Q .ret s = Q .ret s := rfl
theorem qx_loope {κ : Type} (inv : κ → St) (ok : κ → Prop) (μ : κ → Nat) (k : κ) (Q : APost) (i : Nat) (s : St) : loopK inv ok μ k Q (.exit i) s = Q (.exit i) s := rfl
theorem qx_tupn : tupOf [] = .tup [] := rfl
theorem qx_tupc (a b : PV) (r : List PV) : tupOf (a :: b :: r) = .tup (a :: b :: r) := rfl
theorem qx_boxn : boxPV [] = .agg [] := rfl
theorem qx_boxc (a b : PV) (r : List PV) : boxPV (a :: b :: r) = .agg (a :: b :: r) := rfl
theorem qx_sc1 (look : Nat → Option LObj) (k : Nat) (e : TypeId) (sz : Nat) (xs : List PV) (f : Bool) (r : List (Nat × LObj)) : scObj look ((k, .row e sz xs f) :: r) = scObj look r := rfl
theorem qx_sc2 (look : Nat → Option LObj) (k : Nat) (s : ByteArray) (p : Nat) (r : List (Nat × LObj)) : scObj look ((k, .sit s p) :: r) = scObj look r := rfl
theorem qx_sc3 (look : Nat → Option LObj) (k : Nat) (es : List (PV × PV)) (f : Bool) (r : List (Nat × LObj)) : scObj look ((k, .mp es f) :: r) = scObj look r := rfl
theorem qx_mf1 (f : Fn) (a b : List LV) (y : Option (List PV)) : mfK f a b none y = some (True, Eff.ofV (LV.fn f a b)) := rfl
theorem qx_mf2 (f : Fn) (a b : List LV) (x : List PV) : mfK f a b (some x) none = some (True, Eff.ofV (LV.fn f a b)) := rfl
theorem qx_lp0 (look : Nat → Option LObj) : lpK look none = [] := rfl
theorem qx_lp1 (look : Nat → Option LObj) (e : TypeId) (sz : Nat) (xs : List PV) (f : Bool) : lpK look (some (.row e sz xs f)) = [] := rfl
theorem qx_lp2 (look : Nat → Option LObj) (s : ByteArray) (p : Nat) : lpK look (some (.sit s p)) = [] := rfl
theorem qx_lp3 (look : Nat → Option LObj) (es : List (PV × PV)) (f : Bool) : lpK look (some (.mp es f)) = [] := rfl
theorem qx_par0 (vs : List PV) (e : List (Nat × LV)) : parEnv [] vs e = e := rfl
theorem qx_par1 (p : Nat) (ps : List Nat) (e : List (Nat × LV)) : parEnv (p :: ps) [] e = e := rfl
theorem qx_asr (K : St → Prop) (s : St) : asgK K .ret s = False := rfl
theorem qx_ase (K : St → Prop) (i : Nat) (s : St) : asgK K (.exit i) s = False := rfl
theorem qx_rd_alloc  (a0 : List PV) (l : List Nat) : rdM (.alloc a0) l = l := rfl
theorem qx_rd_box  (l : List Nat) : rdM (.box) l = l := rfl
theorem qx_rd_build  (a0 : List PV) (a1 : List (Nat × Nat)) (l : List Nat) : rdM (.build a0 a1) l = l := rfl
theorem qx_rd_bslice  (a0 : Nat) (a1 : Nat) (a2 : PV) (a3 : Nat) (a4 : List Nat) (l : List Nat) : rdM (.bslice a0 a1 a2 a3 a4) l = l := rfl
theorem qx_rd_load  (a0 : Nat) (a1 : Bool) (l : List Nat) : rdM (.load a0 a1) l = l := rfl
theorem qx_rd_store  (a0 : Nat) (l : List Nat) : rdM (.store a0) l = l := rfl
theorem qx_rd_nilchk  (l : List Nat) : rdM (.nilchk) l = l := rfl
theorem qx_rd_bin  (a0 : BinOp) (l : List Nat) : rdM (.bin a0) l = l := rfl
theorem qx_rd_eq  (a0 : Bool) (a1 : List Nat) (a2 : Bool) (l : List Nat) : rdM (.eq a0 a1 a2) l = l := rfl
theorem qx_rd_not  (l : List Nat) : rdM (.not) l = l := rfl
theorem qx_rd_neg  (l : List Nat) : rdM (.neg) l = l := rfl
theorem qx_rd_cvt  (a0 : IntKind) (l : List Nat) : rdM (.cvt a0) l = l := rfl
theorem qx_rd_cvs  (l : List Nat) : rdM (.cvs) l = l := rfl
theorem qx_rd_mkfn  (a0 : Fn) (a1 : Nat) (l : List Nat) : rdM (.mkfn a0 a1) l = l := rfl
theorem qx_rd_sliceS  (a0 : Bool) (a1 : Bool) (l : List Nat) : rdM (.sliceS a0 a1) l = l := rfl
theorem qx_rd_sliceL  (a0 : Nat) (a1 : Bool) (a2 : Bool) (l : List Nat) : rdM (.sliceL a0 a1 a2) l = l := rfl
theorem qx_rd_fadr  (a0 : Nat) (l : List Nat) : rdM (.fadr a0) l = l := rfl
theorem qx_rd_fld  (a0 : Nat) (a1 : Nat) (a2 : Bool) (l : List Nat) : rdM (.fld a0 a1 a2) l = l := rfl
theorem qx_rd_idxA  (a0 : Nat) (a1 : Nat) (a2 : Bool) (l : List Nat) : rdM (.idxA a0 a1 a2) l = l := rfl
theorem qx_rd_idxS  (l : List Nat) : rdM (.idxS) l = l := rfl
theorem qx_rd_iadrS  (a0 : Nat) (l : List Nat) : rdM (.iadrS a0) l = l := rfl
theorem qx_rd_iadrA  (a0 : Nat) (a1 : Nat) (l : List Nat) : rdM (.iadrA a0 a1) l = l := rfl
theorem qx_rd_len  (a0 : Bool) (l : List Nat) : rdM (.len a0) l = l := rfl
theorem qx_rd_app  (a0 : Nat) (a1 : Nat) (a2 : Nat) (l : List Nat) : rdM (.app a0 a1 a2) l = l := rfl
theorem qx_rd_mx  (l : List Nat) : rdM (.mx) l = l := rfl
theorem qx_rd_mn  (l : List Nat) : rdM (.mn) l = l := rfl
theorem qx_rd_ext  (a0 : Nat) (l : List Nat) : rdM (.ext a0) l = l := rfl
theorem qx_rd_range  (l : List Nat) : rdM (.range) l = l := rfl
theorem qx_rd_next  (l : List Nat) : rdM (.next) l = l := rfl
theorem qx_rd_mkslice  (a0 : Nat) (a1 : Nat) (a2 : Nat) (a3 : PV) (l : List Nat) : rdM (.mkslice a0 a1 a2 a3) l = l := rfl
theorem qx_rd_copy  (a0 : Nat) (l : List Nat) : rdM (.copy a0) l = l := rfl
theorem qx_rd_mkmap  (l : List Nat) : rdM (.mkmap) l = l := rfl
theorem qx_rd_lkup  (a0 : List Nat) (a1 : Bool) (a2 : PV) (a3 : Bool) (l : List Nat) : rdM (.lkup a0 a1 a2 a3) l = l := rfl
theorem qx_rd_mset  (a0 : List Nat) (a1 : Bool) (l : List Nat) : rdM (.mset a0 a1) l = l := rfl
theorem qx_rd_call  (a0 : Nat) (l : List Nat) : rdM (.call a0) l = l := rfl
theorem qx_rd_callv  (l : List Nat) : rdM (.callv) l = l := rfl
def q0 := And.intro (And.intro (And.intro (And.intro (And.intro @LV.known.eq_1 @LV.known.eq_2) (And.intro @LV.known.eq_3 (And.intro @LV.known.eq_4 @LV.known.eq_5))) (And.intro (And.intro @loadOk.eq_1 @loadV.eq_1) (And.intro @eqOk.eq_1 (And.intro @eqOk.eq_2 @eqOk.eq_3)))) (And.intro (And.intro (And.intro @eqPV.eq_1 @eqPV.eq_2) (And.intro @eqPV.eq_3 (And.intro @eqCells.eq_1 @eqCellsOk.eq_1))) (And.intro (And.intro @eqCellsOk.eq_2 @packL.eq_1) (And.intro @oneL.eq_1 (And.intro @oneL.eq_2 @oneL.eq_3))))) (And.intro (And.intro (And.intro (And.intro @oneL.eq_4 @oneL.eq_5) (And.intro @oneL.eq_6 (And.intro @oneL.eq_7 @oneL.eq_8))) (And.intro (And.intro @updL.eq_1 @fillP.eq_1) (And.intro @fillOk.eq_1 (And.intro @fillOk.eq_2 @fillE.eq_1)))) (And.intro (And.intro (And.intro @fillEOk.eq_1 @fillEOk.eq_2) (And.intro @oneAll.eq_1 (And.intro @List.all_map.{0, 0} @LObj.freeze.eq_1))) (And.intro (And.intro @LObj.freeze.eq_2 @LObj.freeze.eq_3) (And.intro @frzs.eq_1 (And.intro @frzs.eq_2 @argSt.eq_1)))))
def q1 := And.intro (And.intro (And.intro (And.intro (And.intro @List.map.eq_1.{0, 0} @List.map.eq_2.{0, 0}) (And.intro @List.zipIdx.eq_1.{0} (And.intro @List.zipIdx.eq_2.{0} @List.length.eq_1.{0}))) (And.intro (And.intro @List.length.eq_2.{0} @List.take.eq_1.{0}) (And.intro @List.take.eq_2.{0} (And.intro @List.take.eq_3.{0} @List.drop.eq_1.{0})))) (And.intro (And.intro (And.intro @List.drop.eq_2.{0} @List.drop.eq_3.{0}) (And.intro @seqK.eq_1 (And.intro @blockK.eq_1 @blockK.eq_2))) (And.intro (And.intro @blockK.eq_3 (And.intro @loopK.eq_1 @retQ.eq_1)) (And.intro @retQ.eq_2 (And.intro @retQ.eq_3 @RetOk.eq_1))))) (And.intro (And.intro (And.intro (And.intro @resL.eq_1 @resL.eq_2) (And.intro @resL.eq_3 (And.intro @toPVs.eq_1 @toPV.eq_1))) (And.intro (And.intro @toPV.eq_2 @toPV.eq_3) (And.intro @toPV.eq_4 (And.intro @toPV.eq_5 @toPV.eq_6)))) (And.intro (And.intro (And.intro @toPV.eq_7 @toPV.go.eq_1) (And.intro @toPV.go.eq_2 (And.intro @tupOf.eq_1 @boxPV.eq_1))) (And.intro (And.intro @if_true.{0} (And.intro @if_true.{1} @if_false.{0})) (And.intro @if_false.{1} (And.intro @true_and @and_true)))))
def q2 := And.intro (And.intro (And.intro (And.intro (And.intro @and_self @forall_const.{0}) (And.intro @forall_const.{1} (And.intro @Bool.false_eq_true @Bool.true_and))) (And.intro (And.intro @Bool.and_true @Bool.false_and) (And.intro @Bool.and_false (And.intro @Bool.not_true @Bool.not_false)))) (And.intro (And.intro (And.intro @List.getElem?_cons_zero.{0} @List.getElem?_cons_succ.{0}) (And.intro @List.nil_append.{0} (And.intro @List.cons_append.{0} @implies_true.{0}))) (And.intro (And.intro @implies_true.{1} (And.intro @false_implies @imp_self)) (And.intro @Bool.and_self (And.intro @Cov.eq_1 @covEnv.eq_1))))) (And.intro (And.intro (And.intro (And.intro @covEnv.eq_2 @covObj.eq_1) (And.intro @covObj.eq_2 (And.intro @scEnv.eq_1 @scEnv.eq_2))) (And.intro (And.intro @scObj.eq_1 (And.intro @scObj.eq_2 @scP.eq_1)) (And.intro @scP.eq_2 (And.intro @scP.eq_3 @scP.eq_4)))) (And.intro (And.intro (And.intro @scP.eq_5 @scP.eq_6) (And.intro @scP.eq_7 (And.intro @scP.eq_8 @scP.eq_9))) (And.intro (And.intro @scP.eq_10 (And.intro @scP.eq_11 @scPs.eq_1)) (And.intro @scPs.eq_2 (And.intro @ite_self.{0} @ite_self.{1})))))
def q3 := And.intro (And.intro (And.intro (And.intro (And.intro @runOps_nil @Option.map_some.{0, 0}) (And.intro @Option.map_none.{0, 0} (And.intro @Option.toList_some.{0} @Option.toList_none.{0}))) (And.intro (And.intro @Option.getD_some.{0} @Option.getD_none.{0}) (And.intro @Option.isSome_some.{0} (And.intro @Option.isSome_none.{0} @List.getElem?_map.{0, 0})))) (And.intro (And.intro (And.intro @List.length_map.{0, 0} @Int.toNat_natCast) (And.intro @List.getElem?_nil.{0} (And.intro @Int.toNat_zero @decide_true))) (And.intro (And.intro @decide_false @Nat.zero_le) (And.intro @LObj.box.injEq (And.intro @wrap64 @cells_agg))))) (And.intro (And.intro (And.intro (And.intro @cells_b @cells_i) (And.intro @cells_s (And.intro @cells_tup @cells_nilsl))) (And.intro (And.intro @cells_sl @cells_nilp) (And.intro @cells_ip (And.intro @cells_fn @cells_nilf)))) (And.intro (And.intro (And.intro @cells_mp @lcells_p) (And.intro @lcells_agg (And.intro @lcells_lp @lcells_row))) (And.intro (And.intro @lcells_it @lcells_fn) (And.intro @lcells_yield (And.intro @isAgg_agg @isAgg_b)))))
def q4 := And.intro (And.intro (And.intro (And.intro (And.intro @isAgg_i @isAgg_s) (And.intro @isAgg_nilsl (And.intro @isAgg_sl @isAgg_nilp))) (And.intro (And.intro @isAgg_ip @isAgg_fn) (And.intro @isAgg_nilf (And.intro @isAgg_mp @isAny_agg)))) (And.intro (And.intro (And.intro @isAny_b @isAny_i) (And.intro @isAny_s (And.intro @isAny_nilsl @isAny_sl))) (And.intro (And.intro @isAny_nilp @isAny_ip) (And.intro @isAny_fn (And.intro @isAny_nilf @isAny_mp))))) (And.intro (And.intro (And.intro (And.intro @one_b @one_i) (And.intro @one_s (And.intro @one_nilsl @one_sl))) (And.intro (And.intro @one_nilp @one_ip) (And.intro @one_fn (And.intro @one_nilf @un_p)))) (And.intro (And.intro (And.intro @un_g @un_lp) (And.intro @un_row (And.intro @un_ep @un_it))) (And.intro (And.intro @un_fn @un_agg) (And.intro @un_yield (And.intro @cnd_p @cnd_g)))))
def q5 := And.intro (And.intro (And.intro (And.intro (And.intro @cnd_lp @cnd_row) (And.intro @cnd_ep (And.intro @cnd_it @cnd_fn))) (And.intro (And.intro @cnd_agg @cnd_yield) (And.intro @rs_nil (And.intro @rs_mv @rs_mvg)))) (And.intro (And.intro (And.intro @rs_pick @rs_pickg) (And.intro @gOf_v (And.intro @evK_some @evG_some))) (And.intro (And.intro @evK_p @evG_p) (And.intro @evK_v (And.intro @evG_v @mvG_some))))) (And.intro (And.intro (And.intro (And.intro @pkV_b @pkW_b) (And.intro @gdV_p (And.intro @gdV_g @set_mk))) (And.intro (And.intro @set_no @get_mk) (And.intro @look_mk (And.intro @wrs_nil @wrs_none)))) (And.intro (And.intro (And.intro @wrs_some @wrs_cons) (And.intro @ev_t (And.intro @ev_c @aget_c))) (And.intro (And.intro @oget_c @oget_n) (And.intro @oset_c (And.intro @oset_n @raw_nil)))))
def q6 := And.intro (And.intro (And.intro (And.intro (And.intro @raw_cons @uns_nil) (And.intro @uns_cons (And.intro @cnds_nil @cnds_cons))) (And.intro (And.intro @under_p @under_g) (And.intro @eo_alloc (And.intro @eo_box @eo_build)))) (And.intro (And.intro (And.intro @eo_bslice @eo_load_ip) (And.intro @eo_load_lp (And.intro @eo_load_ep @eo_store_lp))) (And.intro (And.intro @eo_store_ep @eo_nil_ip) (And.intro @eo_nil_lp (And.intro @eo_nil_pfn @eo_nil_fn))))) (And.intro (And.intro (And.intro (And.intro @eo_shr @eo_shl) (And.intro @eo_add (And.intro @eo_sub @eo_mul))) (And.intro (And.intro @eo_quo @eo_rem) (And.intro @eo_and (And.intro @eo_or @eo_eql)))) (And.intro (And.intro (And.intro @eo_neq @eo_lss) (And.intro @eo_leq (And.intro @eo_gtr @eo_geq))) (And.intro (And.intro @eo_sadd @eo_seql) (And.intro @eo_sneq (And.intro @eo_slss @eo_sgtr)))))
def q7 := And.intro (And.intro (And.intro (And.intro (And.intro @eo_sleq @eo_sgeq) (And.intro @eo_eq (And.intro @eo_ne @eo_not))) (And.intro (And.intro @eo_neg @eo_cvt) (And.intro @eo_cvs (And.intro @eo_mkfn @eo_sS01)))) (And.intro (And.intro (And.intro @eo_sS10 @eo_sS11) (And.intro @eo_sL01 (And.intro @eo_sL10 @eo_sL11))) (And.intro (And.intro @eo_fadr_ip @eo_fadr_lp) (And.intro @eo_fadr_ep (And.intro @eo_fld_t @eo_fld_f))))) (And.intro (And.intro (And.intro (And.intro @eo_idxA_t @eo_idxA_f) (And.intro @eo_idxS (And.intro @eo_iadrS_sl @eo_iadrS_row))) (And.intro (And.intro @eo_iadrA_ip @eo_iadrA_lp) (And.intro @eo_lenS (And.intro @eo_lenR @eo_lenP)))) (And.intro (And.intro (And.intro @eo_lenN @eo_appN) (And.intro @eo_appR (And.intro @eo_mx @eo_mn))) (And.intro (And.intro @eo_ext @eo_range) (And.intro @el_nil (And.intro @el_sl @el_row)))))
def q8 := And.intro (And.intro (And.intro (And.intro (And.intro @allP_nil @allP_cons) (And.intro @ldLp.eq_1 (And.intro @ldEp.eq_1 @stLp.eq_1))) (And.intro (And.intro @stEp.eq_1 @faEp.eq_1) (And.intro @iaRow.eq_1 (And.intro @lenK.eq_1 @lenK.eq_2)))) (And.intro (And.intro (And.intro @apN.eq_1 @apN.eq_2) (And.intro @apR.eq_1 (And.intro @elRow.eq_1 @bdK.eq_1))) (And.intro (And.intro @bdK.eq_2 @bsK.eq_1) (And.intro @bsK.eq_2 (And.intro @mfK.eq_1 @apC.eq_1))))) (And.intro (And.intro (And.intro (And.intro @apC.eq_2 @rv_alloc) (And.intro @rvg_alloc (And.intro @rv_box @rvg_box))) (And.intro (And.intro @rv_build @rvg_build) (And.intro @rv_bslice (And.intro @rvg_bslice @rv_load)))) (And.intro (And.intro (And.intro @rvg_load @rv_store) (And.intro @rvg_store (And.intro @rv_nilchk @rvg_nilchk))) (And.intro (And.intro @rv_bin @rvg_bin) (And.intro @rv_eq (And.intro @rvg_eq @rv_not)))))
def q9 := And.intro (And.intro (And.intro (And.intro (And.intro @rvg_not @rv_neg) (And.intro @rvg_neg (And.intro @rv_cvt @rvg_cvt))) (And.intro (And.intro @rv_cvs @rvg_cvs) (And.intro @rv_mkfn (And.intro @rvg_mkfn @rv_sliceS)))) (And.intro (And.intro (And.intro @rvg_sliceS @rv_sliceL) (And.intro @rvg_sliceL (And.intro @rv_fadr @rvg_fadr))) (And.intro (And.intro @rv_fld @rvg_fld) (And.intro @rv_idxA (And.intro @rvg_idxA @rv_idxS))))) (And.intro (And.intro (And.intro (And.intro @rvg_idxS @rv_iadrS) (And.intro @rvg_iadrS (And.intro @rv_iadrA @rvg_iadrA))) (And.intro (And.intro @rv_len @rvg_len) (And.intro @rv_app (And.intro @rvg_app @rv_mx)))) (And.intro (And.intro (And.intro @rvg_mx @rv_mn) (And.intro @rvg_mn (And.intro @rv_ext @rvg_ext))) (And.intro (And.intro @rv_range @rvg_range) (And.intro @agC_t (And.intro @agC_f @ogC_t)))))
def q10 := And.intro (And.intro (And.intro (And.intro (And.intro @ogC_f @osC_t) (And.intro @osC_f (And.intro @aget_n @rdT.eq_1))) (And.intro (And.intro @gTmp.eq_1 @gTmp.eq_2) (And.intro @AOpd.tmps.eq_1 (And.intro @AOpd.tmps.eq_2 @List.flatMap_cons.{0, 0})))) (And.intro (And.intro (And.intro @List.flatMap_nil.{0, 0} @accU_f) (And.intro @accU_t (And.intro @ftOf_o @rdM.eq_1))) (And.intro (And.intro @rdM.eq_2 @rdK_nil) (And.intro @rdK_p (And.intro @rdK_g @rdK_row))))) (And.intro (And.intro (And.intro (And.intro @rdK_ep @rdK_it) (And.intro @rdK_lp (And.intro @rdK_fn @rdK_agg))) (And.intro (And.intro @rdK_yield @lpK.eq_1) (And.intro @nxK.eq_1 (And.intro @cpR.eq_1 @lkK.eq_1)))) (And.intro (And.intro (And.intro @lkK.eq_2 @moK.eq_1) (And.intro @msK.eq_1 (And.intro @mget.eq_1 @mget.eq_2))) (And.intro (And.intro @mput.eq_1 @mput.eq_2) (And.intro @keyOk.eq_1 (And.intro @keysOk.eq_1 @keysOk.eq_2)))))
def q11 := And.intro (And.intro (And.intro (And.intro (And.intro @eo_next @eo_mkslice) (And.intro @eo_copy (And.intro @eo_mkmap @eo_lkup))) (And.intro (And.intro @mo_p @mo_lm) (And.intro @eo_mset (And.intro @rdK_lm @rv_next)))) (And.intro (And.intro (And.intro @rvg_next @rv_mkslice) (And.intro @rvg_mkslice (And.intro @rv_copy @rvg_copy))) (And.intro (And.intro @rv_mkmap @rvg_mkmap) (And.intro @rv_lkup (And.intro @rvg_lkup @rv_mset))))) (And.intro (And.intro (And.intro (And.intro @rvg_mset @lcells_lm) (And.intro @un_lm (And.intro @cnd_lm @ySt.eq_1))) (And.intro (And.intro @accY.eq_1 @accY.eq_2) (And.intro @parEnv.eq_1 (And.intro @lowE.eq_1 @ghosts.eq_1)))) (And.intro (And.intro (And.intro @GB.eq_1 @List.filter_cons.{0}) (And.intro @List.filter_nil.{0} (And.intro @roundK.eq_1 @asgK.eq_1))) (And.intro (And.intro @fin_n @fin_s) (And.intro @pk_or (And.intro @pk_and @Bool.decide_eq_true)))))
def q12 := And.intro (And.intro (And.intro (And.intro (And.intro (And.intro @rs_call @rs_isnil) @rs_callv) (And.intro @under_lp (And.intro @under_row @under_ep))) (And.intro (And.intro @under_it @under_lm) (And.intro @under_fn (And.intro @under_agg @under_yield)))) (And.intro (And.intro (And.intro @under_any @dk_p) (And.intro @dk_any (And.intro @dk_yield @dk_row4))) (And.intro (And.intro @dk_lm4 @dk_it4) (And.intro @List.append_nil.{0} (And.intro @Eff.ofV.eq_1 @Eff.ofP.eq_1))))) (And.intro (And.intro (And.intro (And.intro @true_or @or_true) (And.intro @false_or (And.intro @or_false @List.all_cons.{0}))) (And.intro (And.intro @List.all_nil.{0} @List.length_append.{0}) (And.intro @Nat.le_refl (And.intro @Bool.not_not @evG_skip)))) (And.intro (And.intro (And.intro @eo_bin_any1 @eo_bin_any2) (And.intro @eo_bin_any3 (And.intro @eo_bin_any4 @List.set_cons_zero.{0}))) (And.intro (And.intro @List.set_cons_succ.{0} @roundI.eq_1) (And.intro @roundI.eq_2 (And.intro @roundI.eq_3 @qx_kn_lp)))))
def q13 := And.intro (And.intro (And.intro (And.intro (And.intro @qx_kn_it @qx_kn_lm) (And.intro @qx_kn_fn (And.intro @qx_kn_agg @qx_kn_yield))) (And.intro (And.intro @qx_cells @qx_updn) (And.intro @qx_updc (And.intro @qx_fillP @qx_fillE)))) (And.intro (And.intro (And.intro @qx_frz @qx_seqr) (And.intro @qx_seqe (And.intro @qx_loopr @qx_loope))) (And.intro (And.intro @qx_tupn @qx_tupc) (And.intro @qx_boxn (And.intro @qx_boxc @qx_sc1))))) (And.intro (And.intro (And.intro (And.intro @qx_sc2 @qx_sc3) (And.intro @qx_mf1 (And.intro @qx_mf2 @qx_lp0))) (And.intro (And.intro @qx_lp1 @qx_lp2) (And.intro @qx_lp3 (And.intro @qx_par0 @qx_par1)))) (And.intro (And.intro (And.intro @qx_asr @qx_ase) (And.intro @qx_rd_alloc (And.intro @qx_rd_box @qx_rd_build))) (And.intro (And.intro @qx_rd_bslice @qx_rd_load) (And.intro @qx_rd_store (And.intro @qx_rd_nilchk @qx_rd_bin)))))
def q14 := And.intro (And.intro (And.intro (And.intro @qx_rd_eq (And.intro @qx_rd_not @qx_rd_neg)) (And.intro (And.intro @qx_rd_cvt @qx_rd_cvs) (And.intro @qx_rd_mkfn @qx_rd_sliceS))) (And.intro (And.intro @qx_rd_sliceL (And.intro @qx_rd_fadr @qx_rd_fld)) (And.intro (And.intro @qx_rd_idxA @qx_rd_idxS) (And.intro @qx_rd_iadrS @qx_rd_iadrA)))) (And.intro (And.intro (And.intro @qx_rd_len (And.intro @qx_rd_app @qx_rd_mx)) (And.intro (And.intro @qx_rd_mn @qx_rd_ext) (And.intro @qx_rd_range @qx_rd_next))) (And.intro (And.intro @qx_rd_mkslice (And.intro @qx_rd_copy @qx_rd_mkmap)) (And.intro (And.intro @qx_rd_lkup @qx_rd_mset) (And.intro @qx_rd_call @qx_rd_callv))))
def qG := And.intro (And.intro (And.intro @q0 (And.intro @q1 @q2)) (And.intro (And.intro @q3 @q4) (And.intro @q5 @q6))) (And.intro (And.intro (And.intro @q7 @q8) (And.intro @q9 @q10)) (And.intro (And.intro @q11 @q12) (And.intro @q13 @q14)))
def qS := And.intro (And.intro @qG @Bool.not_eq_eq_eq_not) (And.intro @decide_eq_true_eq @Option.some.injEq.{0})
def qR := And.intro (And.intro (And.intro @List.replicate_succ.{0} @List.replicate_zero.{0}) (And.intro @List.set_cons_zero.{0} @List.set_cons_succ.{0})) (And.intro (And.intro @List.length_set.{0} @List.length_replicate.{0}) (And.intro @List.length_cons.{0} @List.length_nil.{0}))
def qH := And.intro (And.intro (And.intro @decide_eq_true_eq (And.intro @decide_eq_false_iff_not @Bool.or_eq_true)) (And.intro (And.intro @Bool.and_eq_true @Bool.or_eq_false_iff) (And.intro @Bool.and_eq_false_imp @Bool.not_eq_true'))) (And.intro (And.intro (And.intro @Bool.not_eq_false' @Bool.not_eq_eq_eq_not) (And.intro @Bool.not_true @Bool.not_false)) (And.intro (And.intro @Int.not_lt @Int.not_le) (And.intro @Decidable.not_not @not_or)))
def qB := And.intro (And.intro @Bool.not_false (And.intro @Bool.not_true @Bool.and_self)) (And.intro (And.intro @Bool.true_and @Bool.and_true) (And.intro @decide_true @decide_false))
end Go.Proofs.YtcfbdeghmckelaaGreat
namespace Go.Proofs.YtcfbdeghmckelaaGreat
open Go.RowKit
set_option linter.unusedVariables false
theorem qe : True := trivial
theorem qZ {p q : Prop} (h : p = q := by simp (disch := omega) only [qS, qe, Nat.reduceAdd, Nat.reduceMul, Nat.reduceEqDiff, Nat.reduceLeDiff, reduceIte, reduceCtorEq, Nat.reduceBEq, Nat.reduceLT] <;> rfl) (hq : q) : p := h.mpr hq
theorem qY {p q side : Prop} (h : p = (side ∧ q) := by simp (disch := omega) only [qS, qe, Nat.reduceAdd, Nat.reduceMul, Nat.reduceEqDiff, Nat.reduceLeDiff, reduceIte, reduceCtorEq, Nat.reduceBEq, Nat.reduceLT, ← and_assoc] <;> rfl)
    (hs : side := by (repeat' apply And.intro) <;> first | omega | trivial | (intro h; (repeat' apply And.intro) <;> first | exact h | omega | (intro h'; simp only [h, h', qB]; done))) (hq : q) : p := h.mpr ⟨hs, hq⟩
section
variable {P : Program} {G : Cfg} {Q : APost} {ts : List (List PV)} {dr : Bool} {K : St → List Ft → Prop} {acc : List Ft} {d : Option Nat} {f : Nat} {args : List AOpd} {gd : Option (Nat × Bool)} {af : List Nat} {r : List RO} {s : St} {vs fs cs : List PV} {res : PV} {c : Bool} {pre : Prop} {ks : List Nat}
theorem run_condX {x y : AC} {o : AOpd} {t : Bool} (h1 : t = true → Run G x s Q) (h2 : t = false → Run G y s Q) (ht : o.ev s = .p (.b t) := by simp (disch := omega) only [qS, qe, Nat.reduceAdd, Nat.reduceMul, Nat.reduceEqDiff, Nat.reduceLeDiff, reduceIte, reduceCtorEq, Nat.reduceBEq, Nat.reduceLT] <;> rfl) : Run G (.cond o x y) s Q := run_cond ht h1 h2
theorem run_callX (hc : gOf s gd = some true := by exact rfl) (ht : toPVs s.look (uns (rawIns s args)) = some (pre, vs, ks) := by simp (disch := omega) only [qS, qe, Nat.reduceAdd, Nat.reduceMul, Nat.reduceEqDiff, Nat.reduceLeDiff, reduceIte, reduceCtorEq, Nat.reduceBEq, Nat.reduceLT] <;> rfl) (hf : Pure P f vs res) (hn : runS dr (RunOps P ts dr K) r (s.set d (fin gd true (.p res))) (accU dr acc s ⟨d, .call f, args, gd, af⟩ []))
    (hp : true = true → cnds (rawIns s args) = true ∧ pre := by intro hc; first | (simp (disch := omega) only [qS, qe, Nat.reduceAdd, Nat.reduceMul, Nat.reduceEqDiff, Nat.reduceLeDiff, reduceIte, reduceCtorEq, Nat.reduceBEq, Nat.reduceLT]; done) | (simp (disch := omega) only [qS, qe, Nat.reduceAdd, Nat.reduceMul, Nat.reduceEqDiff, Nat.reduceLeDiff, reduceIte, reduceCtorEq, Nat.reduceBEq, Nat.reduceLT]; (repeat' apply And.intro) <;> omega) | (simp (disch := omega) only [qS, qe, Nat.reduceAdd, Nat.reduceMul, Nat.reduceEqDiff, Nat.reduceLeDiff, reduceIte, reduceCtorEq, Nat.reduceBEq, Nat.reduceLT] at hc ⊢; (repeat' apply And.intro) <;> first | assumption | omega | simp_all))
    (hfl : res.flat = true ∨ ks = [] := by first | exact .inl rfl | exact .inr rfl) : RunOps P ts dr K (⟨d, .call f, args, gd, af⟩ :: r) s acc := run_callA hf hc ht hp hfl (run_ops hn)
theorem run_callGX (hc : gOf s gd = some c := by first | rfl | (simp (disch := omega) only [qG, qe, Nat.reduceAdd, Nat.reduceMul, Nat.reduceEqDiff, Nat.reduceLeDiff, reduceIte, reduceCtorEq, Nat.reduceBEq, Nat.reduceLT] <;> rfl)) (ht : toPVs s.look (uns (rawIns s args)) = some (pre, vs, ks) := by simp (disch := omega) only [qS, qe, Nat.reduceAdd, Nat.reduceMul, Nat.reduceEqDiff, Nat.reduceLeDiff, reduceIte, reduceCtorEq, Nat.reduceBEq, Nat.reduceLT] <;> rfl) (hf : c = true → Pure P f vs res) (hn : runS dr (RunOps P ts dr K) r (s.set d (fin gd c (.p res))) (accU dr acc s ⟨d, .call f, args, gd, af⟩ []))
    (hp : c = true → cnds (rawIns s args) = true ∧ pre := by intro hc; first | exact absurd hc Bool.false_ne_true | (simp (disch := omega) only [qS, qe, Nat.reduceAdd, Nat.reduceMul, Nat.reduceEqDiff, Nat.reduceLeDiff, reduceIte, reduceCtorEq, Nat.reduceBEq, Nat.reduceLT]; done) | (simp (disch := omega) only [qS, qe, Nat.reduceAdd, Nat.reduceMul, Nat.reduceEqDiff, Nat.reduceLeDiff, reduceIte, reduceCtorEq, Nat.reduceBEq, Nat.reduceLT]; (repeat' apply And.intro) <;> omega) | (simp (disch := omega) only [qS, qe, Nat.reduceAdd, Nat.reduceMul, Nat.reduceEqDiff, Nat.reduceLeDiff, reduceIte, reduceCtorEq, Nat.reduceBEq, Nat.reduceLT] at hc ⊢; (repeat' apply And.intro) <;> first | assumption | omega | simp_all))
    (hfl : res.flat = true ∨ ks = [] := by first | exact .inl rfl | exact .inr rfl) : RunOps P ts dr K (⟨d, .call f, args, gd, af⟩ :: r) s acc := run_callG hf hc ht hp hfl (run_ops hn)
theorem run_callBX (ht : toPVs s.look (uns (rawIns s args)) = some (pre, vs, ks) := by simp (disch := omega) only [qS, qe, Nat.reduceAdd, Nat.reduceMul, Nat.reduceEqDiff, Nat.reduceLeDiff, reduceIte, reduceCtorEq, Nat.reduceBEq, Nat.reduceLT] <;> rfl) (hf : Pure P f vs res) (hn : runS dr (RunOps P ts dr K) r ((s.wrs (frzs s.look ks)).set d (.p res)) (accU dr acc s ⟨d, .call f, args, none, af⟩ (frzs s.look ks)))
    (hp : cnds (rawIns s args) = true ∧ pre := by first | trivial | (simp (disch := omega) only [qS, qe, Nat.reduceAdd, Nat.reduceMul, Nat.reduceEqDiff, Nat.reduceLeDiff, reduceIte, reduceCtorEq, Nat.reduceBEq, Nat.reduceLT]; done) | (simp (disch := omega) only [qS, qe, Nat.reduceAdd, Nat.reduceMul, Nat.reduceEqDiff, Nat.reduceLeDiff, reduceIte, reduceCtorEq, Nat.reduceBEq, Nat.reduceLT]; (repeat' apply And.intro) <;> omega)) : RunOps P ts dr K (⟨d, .call f, args, none, af⟩ :: r) s acc := run_callB hf ht hp (run_ops hn)
theorem run_callVX (hc : gOf s gd = some true := by exact rfl) (ht : toPVs s.look (uns (rawIns s args)) = some (pre, .fn (.func f) fs cs :: vs, ks) := by simp (disch := omega) only [qS, qe, Nat.reduceAdd, Nat.reduceMul, Nat.reduceEqDiff, Nat.reduceLeDiff, reduceIte, reduceCtorEq, Nat.reduceBEq, Nat.reduceLT] <;> rfl) (hf : Pure P f (fs ++ vs ++ cs) res) (hn : runS dr (RunOps P ts dr K) r (s.set d (fin gd true (.p res))) (accU dr acc s ⟨d, .callv, args, gd, af⟩ []))
    (hp1 : cnds (rawIns s args) = true := by simp (disch := omega) only [qS, qe, Nat.reduceAdd, Nat.reduceMul, Nat.reduceEqDiff, Nat.reduceLeDiff, reduceIte, reduceCtorEq, Nat.reduceBEq, Nat.reduceLT]) (hp2 : pre := by first | trivial | (simp (disch := omega) only [qS, qe, Nat.reduceAdd, Nat.reduceMul, Nat.reduceEqDiff, Nat.reduceLeDiff, reduceIte, reduceCtorEq, Nat.reduceBEq, Nat.reduceLT]; done) | (simp (disch := omega) only [qS, qe, Nat.reduceAdd, Nat.reduceMul, Nat.reduceEqDiff, Nat.reduceLeDiff, reduceIte, reduceCtorEq, Nat.reduceBEq, Nat.reduceLT]; (repeat' apply And.intro) <;> omega))
    (hfl : res.flat = true ∨ ks = [] := by first | exact .inl rfl | exact .inr rfl) : RunOps P ts dr K (⟨d, .callv, args, gd, af⟩ :: r) s acc := run_callV hc ht (fun _ => ⟨hp1, hp2, hf⟩) hfl (run_ops hn)
end
class Stp (p : Prop) (q : outParam Prop) : Prop where
  h : q → p
class Mx (P : Program) : Prop where
  h : P.follows .mixedOrders = true
section
variable {G : Cfg} {Q : APost} {s : St} {x y : AC} {i : Nat} {l : List RO}
instance : Stp (Run G (.seq x y) s Q) (Run G x s (seqK G y Q)) := ⟨run_seq⟩
instance : Stp (Run G (.block i x) s Q) (Run G x s (blockK i Q)) := ⟨run_block⟩
instance : Stp (Run G (.scope x) s Q) (Run G x s Q) := ⟨run_scope⟩
instance : Stp (Run G .label s Q) (Q .normal s) := ⟨run_label⟩
instance : Stp (Run G .ret s Q) (Q .ret s) := ⟨run_ret⟩
instance : Stp (Run G (.exit i) s Q) (Q (.exit i) s) := ⟨run_exit⟩
instance : Stp (Run G .skip s Q) (Q .normal s) := ⟨run_skip⟩
instance : Stp (Run G (.ops false l) s Q) (∀ K : St → List Ft → Prop, (∀ s acc, Q .normal s → K s acc) → runS false (RunOps G.P G.ts false K) l s []) := ⟨run_reg⟩
instance [Mx G.P] : Stp (Run G (.ops true l) s Q) (∀ K : St → List Ft → Prop, (∀ s acc, drawOkF acc.reverse = true → Q .normal s → K s acc) → runS true (RunOps G.P G.ts true K) l s []) := ⟨run_draw Mx.h⟩
end
end Go.Proofs.YtcfbdeghmckelaaGreat
namespace Go.Proofs.YtcfbdeghmckelaaGreat
open Go.ChangeShapes Go.WideShapes Go.ChangeAt Go.RowKit
set_option linter.unusedVariables false
inductive CP where
  | b
  | i (k : IntKind)
  | s
  | sl (ag : Bool) (cs : List CP)
def isAgT (P : Program) (t : TypeId) : Bool := match P.underlying t with | some (.struct _) | some (.array _ _) => true | _ => false
def placesOk (P : Program) (F : TypeId → Option (List CP)) : List (TypeId × Nat) → Nat → Option (List CP)
  | [], _ => some []
  | p :: r, off => if p.2 = off then (F p.1).bind fun c => if P.cellsOf p.1 = c.length then (placesOk P F r (off + c.length)).map (c ++ ·) else none else none
def cellP (P : Program) : Nat → Bool → TypeId → Option (List CP)
  | 0, _, _ => none
  | n + 1, sl, t => match P.underlying t with
    | some .bool => some [.b]
    | some (.int k) => some [.i k]
    | some .string => some [.s]
    | some (.slice e) => if sl then (cellP P n false e).bind fun c => if P.cellsOf e = c.length ∧ (isAgT P e = true ∨ c.length = 1) then some [.sl (isAgT P e) c] else none else none
    | some (.struct fs) => (placesOk P (cellP P n sl) (fs.toList.map fun f => (f.type, f.offset)) 0).bind fun c => if c.length = P.cellsOf t then some c else none
    | some (.array m e) => (placesOk P (cellP P n sl) ((List.range m).map fun i => (e, i * P.cellsOf e)) 0).bind fun c => if c.length = P.cellsOf t then some c else none
    | _ => none
def elemPV (ag : Bool) (l : List PV) : PV := if ag then .agg l else l.headD .any
def FitAll (F : CP → PV → Prop) : List CP → List PV → Prop
  | [], [] => True
  | c :: cs, p :: ps => F c p ∧ FitAll F cs ps
  | _, _ => False
def Fit : Nat → CP → PV → Prop
  | _, .b, p => ∃ x, p = .b x
  | _, .i k, p => ∃ n, p = .i k n
  | _, .s, p => ∃ x, p = .s x
  | 0, .sl _ _, _ => False
  | n + 1, .sl ag cs, p => ∃ xs, p = .sl cs.length xs ∧ ∀ x ∈ xs, ∃ l, x = elemPV ag l ∧ FitAll (Fit n) cs l
theorem FitAll.app {F : CP → PV → Prop} : ∀ {a : List CP} {p : List PV} {b : List CP} {q : List PV}, FitAll F a p → FitAll F b q → FitAll F (a ++ b) (p ++ q)
  | [], [], _, _, _, h => h
  | [], _ :: _, _, _, h, _ => h.elim
  | _ :: _, [], _, _, h, _ => h.elim
  | c :: cs, p :: ps, _, _, h, k => ⟨h.1, FitAll.app h.2 k⟩
theorem FitAll.len {F : CP → PV → Prop} : ∀ {a : List CP} {p : List PV}, FitAll F a p → p.length = a.length
  | [], [], _ => rfl
  | [], _ :: _, h => h.elim
  | _ :: _, [], h => h.elim
  | c :: cs, p :: ps, h => by simp [FitAll.len h.2]
theorem mapM_all {α β : Type} {f : α → Option β} : ∀ {l : List α} {r : List β}, l.mapM f = some r → ∀ x ∈ l, ∃ y, f x = some y
  | [], _, _, x, hx => by cases hx
  | a :: l, r, h, x, hx => by
    rw [List.mapM_cons] at h
    cases ha : f a with
    | none => rw [ha] at h; cases h
    | some y =>
      rw [ha] at h
      simp only [Option.bind_eq_bind, Option.bind_some] at h
      cases hl : l.mapM f with
      | none => rw [hl] at h; cases h
      | some ys =>
        rcases List.mem_cons.1 hx with rfl | hx
        · exact ⟨y, ha⟩
        · exact mapM_all hl x hx
theorem mapM_length {α β : Type} {f : α → Option β} : ∀ {l : List α} {r : List β}, l.mapM f = some r → r.length = l.length
  | [], r, h => by simp at h; subst h; rfl
  | a :: l, r, h => by
    rw [List.mapM_cons] at h
    cases ha : f a with
    | none => rw [ha] at h; cases h
    | some y =>
      rw [ha] at h
      simp only [Option.bind_eq_bind, Option.bind_some] at h
      cases hl : l.mapM f with
      | none => rw [hl] at h; cases h
      | some ys =>
        rw [hl] at h
        simp only [Option.bind_some, Option.pure_def, Option.some.injEq] at h
        subst h
        simp [mapM_length hl]
theorem mapM_at {α β : Type} {f : α → Option β} : ∀ {l : List α} {r : List β}, l.mapM f = some r → ∀ {i : Nat} {x : α}, l[i]? = some x → f x = r[i]?
  | [], r, _, i, x, hx => by simp at hx
  | a :: l, r, h, i, x, hx => by
    rw [List.mapM_cons] at h
    cases ha : f a with
    | none => rw [ha] at h; cases h
    | some y =>
      rw [ha] at h
      simp only [Option.bind_eq_bind, Option.bind_some] at h
      cases hl : l.mapM f with
      | none => rw [hl] at h; cases h
      | some ys =>
        rw [hl] at h
        simp only [Option.bind_some, Option.pure_def, Option.some.injEq] at h
        subst h
        cases i with
        | zero => simp at hx; subst hx; simpa using ha
        | succ i => simpa using mapM_at hl (i := i) (by simpa using hx)
theorem wf_keep {k : IntKind} {n : Int} (h : (Lit.int k n).wf = true) : k.wrap n = n := by
  cases k <;> simp [Lit.wf, IntKind.wrap, IntKind.min, IntKind.max, IntKind.signed, IntKind.bits] at * <;> omega
section
variable {H : Type} {enc : TypeId × Value → H} {P : Program} {w : World} {base : Nat} {sp : Nat → Bool} {held : Bool}
theorem places_rep {fuel n : Nat} {sl : Bool} {B : Nat → Prop} {cs : List Value}
    (ih : ∀ {t : TypeId} {ds : List Value} {x : DataW H × List MemPlace} {c : List CP}, (∀ v ∈ ds, v ∈ cs) → DataW.trod enc P w base sp held fuel t ds = some x → cellP P n sl t = some c → ∃ ps, Reps w B ds ps ∧ FitAll (Fit n) c ps) :
    ∀ (fl : List (TypeId × Nat)) (off : Nat) (c : List CP), (∀ p ∈ fl, ∃ x, DataW.trod enc P w base sp held fuel p.1 ((cs.drop p.2).take (P.cellsOf p.1)) = some x) → placesOk P (cellP P n sl) fl off = some c → off + c.length ≤ cs.length →
      ∃ ps, Reps w B ((cs.drop off).take c.length) ps ∧ FitAll (Fit n) c ps
  | [], off, c, _, h, _ => by
    simp only [placesOk, Option.some.injEq] at h; subst h
    exact ⟨[], by simpa using Reps.nil, trivial⟩
  | p :: r, off, c, hx, h, hl => by
    simp only [placesOk] at h
    split at h
    · rename_i ho
      obtain ⟨c1, h1, h⟩ := Option.bind_eq_some_iff.1 h
      split at h
      · rename_i hc
        obtain ⟨c2, h2, rfl⟩ := Option.map_eq_some_iff.1 h
        obtain ⟨x, hx1⟩ := hx p (by simp)
        rw [ho, hc] at hx1
        obtain ⟨p1, r1, f1⟩ := ih (fun v hv => List.mem_of_mem_drop (List.mem_of_mem_take hv)) hx1 h1
        obtain ⟨p2, r2, f2⟩ := places_rep ih r (off + c1.length) c2 (fun q hq => hx q (by simp [hq])) h2 (by simp at hl; omega)
        refine ⟨p1 ++ p2, ?_, f1.app f2⟩
        have e : (cs.drop off).take (c1 ++ c2).length = (cs.drop off).take c1.length ++ (cs.drop (off + c1.length)).take c2.length := by
          rw [List.length_append, List.take_add, List.drop_drop]
        rw [e]; exact r1.append r2
      · cases h
    · cases h
theorem trod_rep {B : Nat → Prop} : ∀ (n fuel : Nat) (sl : Bool) {t : TypeId} {cs : List Value} {x : DataW H × List MemPlace} {c : List CP},
    DataW.trod enc P w base sp held fuel t cs = some x → cellP P n sl t = some c → (sl = true → ∀ v ∈ cs, ∀ a l k, v = .slice (some a) l k → B a.block ∧ a.spot = none) → ∃ ps, Reps w B cs ps ∧ FitAll (Fit n) c ps
  | 0, _, _, _, _, _, _, _, h, _ => by simp [cellP] at h
  | _ + 1, 0, _, _, _, _, _, h, _, _ => by simp [DataW.trod] at h
  | n + 1, fuel + 1, sl, t, cs, x, c, h, hc, hB => by
    have mono : ∀ {c : List CP} {ps : List PV}, FitAll (Fit n) c ps → FitAll (Fit (n + 1)) c ps := by
      have one : ∀ (m : Nat) (c : CP) (p : PV), Fit m c p → Fit (m + 1) c p := by
        intro m
        induction m with
        | zero => intro c p h; cases c <;> first | exact h | exact h.elim
        | succ m ihm =>
          intro c p h
          cases c with
          | b => exact h
          | i k => exact h
          | s => exact h
          | sl ag cs =>
            obtain ⟨xs, h1, h2⟩ := h
            refine ⟨xs, h1, fun x hx => ?_⟩
            obtain ⟨l, h3, h4⟩ := h2 x hx
            refine ⟨l, h3, ?_⟩
            have : ∀ (a : List CP) (b : List PV), FitAll (Fit m) a b → FitAll (Fit (m + 1)) a b := by
              intro a
              induction a with
              | nil => intro b hb; cases b <;> exact hb
              | cons y r ihr =>
                intro b hb
                cases b with
                | nil => exact hb
                | cons z q => exact ⟨ihm _ _ hb.1, ihr _ hb.2⟩
            exact this _ _ h4
      intro c
      induction c with
      | nil => intro ps h; cases ps <;> exact h
      | cons y r ihr =>
        intro ps h
        cases ps with
        | nil => exact h
        | cons z q => exact ⟨one _ _ _ h.1, ihr h.2⟩
    unfold DataW.trod at h
    unfold cellP at hc
    cases hu : P.underlying t with
    | none => rw [hu] at hc; cases hc
    | some d =>
      rw [hu] at h hc
      match d, h, hc with
      | .bool, h, hc =>
        simp only [Option.some.injEq] at hc; subst hc
        match cs, h with
        | [.bool b], h => exact ⟨[.b b], Reps.cons (.b b) Reps.nil, ⟨b, rfl⟩, trivial⟩
      | .int k, h, hc =>
        simp only [Option.some.injEq] at hc; subst hc
        match cs, h with
        | [.int k' m], h =>
          simp only at h
          split at h
          · rename_i hk
            obtain ⟨rfl, hw⟩ := hk
            exact ⟨[.i k' m], Reps.cons (.i (wf_keep hw)) Reps.nil, ⟨m, rfl⟩, trivial⟩
          · cases h
      | .string, h, hc =>
        simp only [Option.some.injEq] at hc; subst hc
        match cs, h with
        | [.string z], h =>
          simp only at h
          split at h
          · rename_i hk
            exact ⟨[.s z], Reps.cons (.s hk) Reps.nil, ⟨z, rfl⟩, trivial⟩
          · cases h
      | .slice e, h, hc =>
        simp only at hc
        split at hc
        · rename_i hsl
          obtain ⟨ce, h1, hc⟩ := Option.bind_eq_some_iff.1 hc
          split at hc
          · rename_i hce
            simp only [Option.some.injEq] at hc; subst hc
            match cs, h with
            | [.slice none 0 0], h => exact ⟨[.sl ce.length []], Reps.cons .sl0 Reps.nil, ⟨[], rfl, fun x hx => by cases hx⟩, trivial⟩
            | [.slice (some a) len cap], h =>
              simp only at h
              split at h
              · rename_i hb
                obtain ⟨els, h2, _⟩ := Option.bind_eq_some_iff.1 h
                have hBa := hB hsl _ (by simp) a len cap rfl
                have key : ∀ i, i < len → ∃ (us : List Value) (ps : List PV), (∀ j v, us[j]? = some v → w.cell? (a.add (i * ce.length + j)) = some v) ∧ Reps w B us ps ∧ FitAll (Fit n) ce ps := fun i hi => by
                  obtain ⟨y, hy⟩ := mapM_all h2 i (List.mem_range.2 hi)
                  obtain ⟨us, h3, h4⟩ := Option.bind_eq_some_iff.1 hy
                  obtain ⟨ps, h5, h6⟩ := trod_rep (B := B) n fuel false h4 h1 (fun h => by cases h)
                  refine ⟨us, ps, fun j v hv => ?_, h5, h6⟩
                  unfold World.cells? at h3
                  split at h3
                  · have hlen : j < P.cellsOf e := by
                      have e1 : us.length = P.cellsOf e := by
                        have := mapM_length h3
                        simpa using this
                      rw [← e1]; exact (List.getElem?_eq_some_iff.1 hv).1
                    have := mapM_at h3 (List.getElem?_range hlen)
                    rw [hv] at this
                    rw [hce.1] at this
                    rw [← Addr.add_add]; exact this
                  · cases h3
                classical
                let U : Nat → List Value := fun i => if hi : i < len then (key i hi).choose else []
                let PS : Nat → List PV := fun i => if hi : i < len then (key i hi).choose_spec.choose else []
                have hU : ∀ i, i < len → (∀ j v, (U i)[j]? = some v → w.cell? (a.add (i * ce.length + j)) = some v) ∧ Reps w B (U i) (PS i) ∧ FitAll (Fit n) ce (PS i) := fun i hi => by
                  have := (key i hi).choose_spec.choose_spec
                  simp only [U, PS, dif_pos hi]; exact this
                have hcells : ∀ i, i < len → (elemPV (isAgT P e) (PS i)).cells = PS i := fun i hi => by
                  unfold elemPV
                  split
                  · rfl
                  · rename_i hag
                    have hl := (hU i hi).2.2
                    have h1l : ce.length = 1 := hce.2.resolve_left hag
                    obtain ⟨q, rfl⟩ : ∃ q, ce = [q] := List.length_eq_one_iff.1 h1l
                    match hPS : PS i, hl with
                    | [z], hl =>
                      have hz := hl.1
                      simp only [List.headD_cons]
                      cases q with
                      | b => cases n <;> (obtain ⟨_, rfl⟩ := hz; rfl)
                      | i k => cases n <;> (obtain ⟨_, rfl⟩ := hz; rfl)
                      | s => cases n <;> (obtain ⟨_, rfl⟩ := hz; rfl)
                      | sl ag cs =>
                        cases n with
                        | zero => exact hz.elim
                        | succ n => obtain ⟨_, rfl, _⟩ := hz; rfl
                refine ⟨[.sl ce.length ((List.range len).map fun i => elemPV (isAgT P e) (PS i))], Reps.cons (.sl (fun i j => (U i)[j]?.getD undef) hBa.1 hBa.2 (by simp) hb.2.1 hb.2.2 ?_ ?_ ?_) Reps.nil, ⟨_, rfl, fun x hx => ?_⟩, trivial⟩
                · intro i x hx
                  simp only [List.getElem?_map, Option.map_eq_some_iff] at hx
                  obtain ⟨i', hi', rfl⟩ := hx
                  obtain ⟨hi, rfl⟩ := List.getElem?_eq_some_iff.1 hi'
                  simp only [List.length_range, List.getElem_range] at hi ⊢
                  rw [hcells i hi, (hU i hi).2.2.len]
                · intro i x j p hx hp
                  simp only [List.getElem?_map, Option.map_eq_some_iff] at hx
                  obtain ⟨i', hi', rfl⟩ := hx
                  obtain ⟨hi, rfl⟩ := List.getElem?_eq_some_iff.1 hi'
                  simp only [List.length_range, List.getElem_range] at hi hp ⊢
                  rw [hcells i hi] at hp
                  obtain ⟨v, hv, _⟩ := (hU i hi).2.1.get hp
                  rw [hv]; exact (hU i hi).1 j v hv
                · intro i x j p hx hp
                  simp only [List.getElem?_map, Option.map_eq_some_iff] at hx
                  obtain ⟨i', hi', rfl⟩ := hx
                  obtain ⟨hi, rfl⟩ := List.getElem?_eq_some_iff.1 hi'
                  simp only [List.length_range, List.getElem_range] at hi hp ⊢
                  rw [hcells i hi] at hp
                  obtain ⟨v, hv, hr⟩ := (hU i hi).2.1.get hp
                  rw [hv]; exact hr
                · obtain ⟨i, hi, rfl⟩ := List.mem_map.1 hx
                  exact ⟨_, rfl, (hU i (List.mem_range.1 hi)).2.2⟩
              · cases h
          · cases hc
        · cases hc
      | .struct fs, h, hc =>
        simp only at h hc
        obtain ⟨c', h1, hc⟩ := Option.bind_eq_some_iff.1 hc
        split at hc
        · rename_i hl
          simp only [Option.some.injEq] at hc; subst hc
          split at h
          · rename_i hcs
            obtain ⟨xs, h2, _⟩ := Option.map_eq_some_iff.1 h
            obtain ⟨ps, h3, h4⟩ := places_rep (B := B) (cs := cs) (n := n) (sl := sl) (fun hsub hx hc => trod_rep n fuel sl hx hc (fun h v hv => hB h v (hsub v hv))) (fs.toList.map fun f => (f.type, f.offset)) 0 c' (fun p hp => by
              obtain ⟨f, hf, rfl⟩ := List.mem_map.1 hp
              exact mapM_all h2 f hf) h1 (by omega)
            rw [List.drop_zero, hl, ← hcs, List.take_length] at h3
            exact ⟨ps, h3, mono h4⟩
          · cases h
        · cases hc
      | .array m e, h, hc =>
        simp only at h hc
        obtain ⟨c', h1, hc⟩ := Option.bind_eq_some_iff.1 hc
        split at hc
        · rename_i hl
          simp only [Option.some.injEq] at hc; subst hc
          split at h
          · rename_i hcs
            obtain ⟨xs, h2, _⟩ := Option.map_eq_some_iff.1 h
            obtain ⟨ps, h3, h4⟩ := places_rep (B := B) (cs := cs) (n := n) (sl := sl) (fun hsub hx hc => trod_rep n fuel sl hx hc (fun h v hv => hB h v (hsub v hv))) ((List.range m).map fun i => (e, i * P.cellsOf e)) 0 c' (fun p hp => by
              obtain ⟨i, hi, rfl⟩ := List.mem_map.1 hp
              exact mapM_all h2 i hi) h1 (by omega)
            rw [List.drop_zero, hl, ← hcs, List.take_length] at h3
            exact ⟨ps, h3, mono h4⟩
          · cases h
        · cases hc
end
end Go.Proofs.YtcfbdeghmckelaaGreat
namespace Go.Proofs.YtcfbdeghmckelaaGreat
open Go.ChangeShapes Go.WideShapes Go.ChangeAt Go.RowKit
set_option linter.unusedVariables false
def parP (P : Program) (n : Nat) (t : TypeId) : Option (Bool × List CP) := (cellP P n true t).bind fun c => if isAgT P t = true ∨ c.length = 1 then some (isAgT P t, c) else none
def FitPar (P : Program) (n : Nat) (t : TypeId) (p : PV) : Prop :=
  (∃ ag c l, parP P n t = some (ag, c) ∧ p = elemPV ag l ∧ FitAll (Fit n) c l) ∧ (∀ e sz xs, P.underlying t = some (.slice e) → p = .sl sz xs → xs.length * P.bytesOf e ≤ reachBytes)
def FitPars (P : Program) (n : Nat) : List TypeId → List PV → Prop
  | [], [] => True
  | t :: ts, p :: ps => FitPar P n t p ∧ FitPars P n ts ps
  | _, _ => False
section
variable {H : Type} {enc : TypeId × Value → H} {P : Program} {W : World}
theorem cell_block {base : Nat} {u : TypeId} {a : Addr} {l k : Nat} (h : Cell.okWide P W .any base u (.slice (some a) l k)) : a.block < W.heap.size ∧ a.spot = none := by
  unfold Cell.okWide at h
  have h2 : Cell.ok P W .any base u (.slice (some a) l k) := by
    split at h
    all_goals first | exact h | (rename_i hv; cases hv)
  unfold Cell.ok at h2
  split at h2
  all_goals first | exact h2.elim | skip
  all_goals rename_i hv
  all_goals first | cases hv | skip
  obtain ⟨_, _, _, hsp, row, cells, hs, _⟩ := h2
  refine ⟨?_, hsp⟩
  unfold World.shape? at hs
  cases hh : W.heap[a.block]? with
  | none => rw [hh] at hs; cases hs
  | some o => exact (Array.getElem?_eq_some_iff.1 hh).1
theorem par_rep {base n : Nat} {t : TypeId} {v : Value} {d : DataW H} {ps : List MemPlace} (hval : Value.okWide P W .any base t v) (h : DataW.Trod enc P W 0 (fun _ => true) true t v d ps) {q : Bool × List CP} (hq : parP P n t = some q)
    (hz : (d.weights P t).all (· ≤ reachBytes) = true) : ∃ p, Rep W (fun b => b < W.heap.size) v p ∧ FitPar P n t p := by
  obtain ⟨fuel, h⟩ := h
  have hq0 := hq
  unfold parP at hq
  obtain ⟨c, hc, hq⟩ := Option.bind_eq_some_iff.1 hq
  split at hq
  · rename_i hl
    simp only [Option.some.injEq] at hq
    subst hq
    unfold isAgT at hl hq0
    have key : ∀ {cs : List Value}, DataW.trod enc P W 0 (fun _ => true) true fuel t cs = some (d, ps) → (∀ v ∈ cs, ∃ u, Cell.okWide P W .any base u v) → ∃ l, Reps W (fun b => b < W.heap.size) cs l ∧ FitAll (Fit n) c l := fun ht hc1 =>
      trod_rep n fuel true ht hc (fun _ v hv a l k e => by
        obtain ⟨u, hu⟩ := hc1 v hv
        subst e
        exact cell_block hu)
    have other : isAgT P t = false → (∃ u, Cell.okWide P W .any base u v) → v.cells.toList = [v] → ∃ p, Rep W (fun b => b < W.heap.size) v p ∧ FitPar P n t p := fun hag hok hcv => by
      rw [hcv] at h
      obtain ⟨l, h1, h2⟩ := key h (fun v' hv => by simp at hv; subst hv; exact hok)
      have hlen := h1.1
      match l, hlen with
      | [p], _ =>
        have hr := h1.2 0 v p rfl rfl
        refine ⟨p, hr, ⟨false, c, [p], ?_, rfl, h2⟩, fun e sz xs hu he => ?_⟩
        · rw [hq0]
          have : isAgT P t = false := hag
          unfold isAgT at this
          rw [this]
        · subst he
          cases hr with
          | sl0 => simp
          | sl u h3 h4 h5 h6 h7 h8 h9 h10 =>
            rename_i a len cap hh
            cases fuel with
            | zero => simp [DataW.trod] at h
            | succ fuel =>
              unfold DataW.trod at h
              rw [hu] at h
              simp only at h
              split at h
              · obtain ⟨els, e1, h⟩ := Option.bind_eq_some_iff.1 h
                obtain ⟨rest, e2, h⟩ := Option.map_eq_some_iff.1 h
                injection h with hd _
                subst hd
                have := List.all_eq_true.1 hz ((els.length + rest.length) * P.bytesOf e) (by simp [DataW.weights, hu])
                simp only [decide_eq_true_eq] at this
                have hle : els.length = len := by simpa using mapM_length e1
                rw [h5, ← hle]
                exact Nat.le_trans (Nat.mul_le_mul_right _ (Nat.le_add_right _ _)) this
              · cases h
    unfold Value.okWide at hval
    cases hu : P.underlying t with
    | none => unfold cellP at hc; cases n <;> simp [hu] at hc
    | some desc =>
      have ag : (∃ fs, desc = .struct fs) ∨ (∃ k e, desc = .array k e) ∨ (isAgT P t = false ∧ Cell.okWide P W .any base t v) := by
        unfold isAgT
        rw [hu] at hval ⊢
        cases desc <;> first | exact .inl ⟨_, rfl⟩ | exact .inr (.inl ⟨_, _, rfl⟩) | exact .inr (.inr ⟨rfl, hval⟩)
      have agg : isAgT P t = true → (∃ cs, v = .agg cs ∧ cs.size = P.cellsOf t ∧ Row.okWide P W .any base t cs) → ∃ p, Rep W (fun b => b < W.heap.size) v p ∧ FitPar P n t p := fun hag hcs => by
        obtain ⟨cs, rfl, _, hrow⟩ := hcs
        obtain ⟨l, h1, h2⟩ := key (cs := cs.toList) h (fun v' hv => by
          obtain ⟨ts, _, _, hcell⟩ := hrow
          obtain ⟨i, hi⟩ := List.getElem?_of_mem hv
          obtain ⟨u, _, hk⟩ := hcell i v' (by simpa using hi)
          exact ⟨u, hk⟩)
        refine ⟨.agg l, .agg (by simpa using h1.1) (fun j v' p hv hp => h1.2 j v' p (by simpa using hv) hp), ⟨true, c, l, ?_, rfl, h2⟩, fun e sz xs hu' he => by cases he⟩
        rw [hq0]
        have : isAgT P t = true := hag
        unfold isAgT at this
        rw [this]
      rcases ag with ⟨fs, rfl⟩ | ⟨k, e, rfl⟩ | ⟨hag, hok⟩
      · rw [hu] at hval
        exact agg (by unfold isAgT; rw [hu]) hval
      · rw [hu] at hval
        exact agg (by unfold isAgT; rw [hu]) hval
      · refine other hag ⟨t, hok⟩ ?_
        have : ∀ cs, v ≠ .agg cs := fun cs e => by
          subst e
          unfold Cell.okWide at hok
          have h2 : Cell.ok P W .any base t (.agg cs) := by
            split at hok
            all_goals first | exact hok | (rename_i hv; cases hv)
          unfold Cell.ok at h2
          split at h2
          all_goals first | exact h2.elim | skip
          all_goals (rename_i hv; first | cases hv | skip)
        cases v <;> first | rfl | exact absurd rfl (this _)
  · cases hq
theorem pars_rep {base n : Nat} : ∀ {ts : List TypeId} {vs : List Value} {ds : List (DataW H)} {ps : List MemPlace}, DataW.TrodAll enc P W 0 (fun _ => true) true ts vs ds ps → (∀ (j : Nat) t v, ts[j]? = some t → vs[j]? = some v → Value.okWide P W .any base t v) →
    (∀ t ∈ ts, ∃ q, parP P n t = some q) → (DataW.weightsEach P ts ds).all (· ≤ reachBytes) = true → ∃ l, Reps W (fun b => b < W.heap.size) vs l ∧ FitPars P n ts l
  | [], vs, ds, ps, h, _, _, _ => by
    obtain ⟨rfl, rfl, rfl⟩ := trodAll_nil h
    exact ⟨[], Reps.nil, trivial⟩
  | t :: ts, vs, ds, ps, h, hval, hq, hz => by
    obtain ⟨v, vs1, d, ds1, a, b, rfl, rfl, rfl, h1, h2⟩ := trodAll_cons h
    obtain ⟨q, hq1⟩ := hq t (by simp)
    simp only [DataW.weightsEach, List.all_append, Bool.and_eq_true] at hz
    obtain ⟨p, r1, f1⟩ := par_rep (n := n) (hval 0 t v rfl rfl) h1 hq1 hz.1
    obtain ⟨l, r2, f2⟩ := pars_rep h2 (fun j t v ht hv => hval (j + 1) t v (by simpa using ht) (by simpa using hv)) (fun t ht => hq t (by simp [ht])) hz.2
    exact ⟨p :: l, Reps.cons r1 r2, f1, f2⟩
theorem trodAll_stays (hl : laidOutB P = true) {W' : World} {sp : Nat → Bool} : ∀ {ts : List TypeId} {vs : List Value} {ds : List (DataW H)} {ps : List MemPlace}, ts.all (fun t => P.readableRec t && decide (t < P.types.size)) = true → DataW.TrodAll enc P W 0 (fun _ => true) true ts vs ds ps →
    (∀ x ∈ ps, W.sameAt W' x) → (∀ x ∈ ps, sp x.block = true) → DataW.TrodAll enc P W' 0 sp true ts vs ds ps
  | [], vs, ds, ps, _, h, _, _ => by
    obtain ⟨rfl, rfl, rfl⟩ := trodAll_nil h
    exact h
  | t :: ts, vs, ds, ps, hr, h, hs, hp => by
    obtain ⟨v, vs1, d, ds1, a, b, rfl, rfl, rfl, h1, h2⟩ := trodAll_cons h
    simp only [List.all_cons, Bool.and_eq_true, decide_eq_true_eq] at hr
    exact ⟨a, b, WideElems.Trod_stays hl hr.1.1 hr.1.2 h1 (fun x hx => hs x (by simp [hx])) (fun x hx => hp x (by simp [hx])), trodAll_stays hl hr.2 h2 (fun x hx => hs x (by simp [hx])) (fun x hx => hp x (by simp [hx])), rfl⟩
theorem kept_below {W' : World} (hb : Below W.heap.size W W') (may : MemPlace → Prop) : W.keptBut W' may := by
  refine ⟨hb.os, hb.output, fun i hi => ?_⟩
  rw [hb.block i hi]
  cases hh : W.heap[i]? with
  | none => rfl
  | some o => cases o <;> first | exact ⟨rfl, rfl, rfl, fun _ _ => rfl⟩ | exact .inr ⟨rfl, rfl⟩ | rfl
theorem post_below {f : Func} {s : ChangeSpec} {apart fresh handsOn again : Bool} {W' : World} {args : Array Value} {ds gs : List (DataW H)} {before : List MemPlace} {tb : TypeId} (hl : laidOutB P = true)
    (hrd : f.params.toList.all (fun t => P.readableRec t && decide (t < P.types.size)) = true) (hW : DataW.Whole enc P f.params.toList s.vars apart W args.toList ds gs before) (hv : s.vars = [])
    (hs : s.fn H ds = { results := [.lit (.bool true)], args := ds }) (hr : f.resultTypes = #[tb]) (htb : P.underlying tb = some .bool) (hb : Below W.heap.size W W') : s.post enc P f apart fresh handsOn again W args (.bool true) W' := by
  have hlt : ∀ p ∈ before, p.block < W.heap.size := hW.lt
  have hW0 := hW
  obtain ⟨p, q, hA, hV, rfl, hz, hn⟩ := hW
  rw [hv] at hV
  obtain ⟨rfl, rfl⟩ := trodVars_none hV
  simp only [List.append_nil] at hz hn hlt hW0
  have hres : ∀ (b : Nat) (sp : Nat → Bool) (hd : Bool), DataW.TrodAll enc P W' b sp hd f.resultTypes.toList ((Value.bool true).resultList f.resultTypes.size) [.lit (.bool true)] [] := fun b sp hd => by
    rw [hr]; exact trodAll_cons_mk (shut_bool htb _) trodAll_mk0
  have hargs : ∀ sp : Nat → Bool, (∀ x ∈ p, sp x.block = true) → DataW.TrodAll enc P W' 0 sp true f.params.toList args.toList ds p := fun sp hsp => trodAll_stays hl hrd hA (fun x hx => hb.same (hlt x hx)) hsp
  have hvars : ∀ sp : Nat → Bool, DataW.TrodVars enc P W' sp s.vars ([] : List (DataW H)) [] := fun sp => by rw [hv]; rfl
  refine ⟨ds, [], p, [], p, [], hW0, by rw [List.append_nil, hs]; exact hres _ _ _, by rw [List.append_nil, hs]; exact hargs _ (fun x hx => by simpa using hlt x hx), by rw [List.append_nil, hs]; exact hvars _, World.keptBut_mono (fun x hx => ⟨hx, .inr (.inl hx)⟩) (kept_below hb (· ∈ p)), fun _ => ?_⟩
  refine ⟨fun j t r h1 h2 => ?_, [.lit (.bool true)] ++ ds, [], p, ⟨[] ++ p, [], trodAll_append (hargs _ (fun _ _ => rfl)) (hres _ _ _), hvars _, by simp, ?_, ?_⟩, fun x hx _ => hx⟩
  · rw [hr] at h1 h2
    cases j with
    | zero =>
      simp [Value.resultList] at h1 h2
      subst h1; subst h2
      exact okWide_bool_mk htb _
    | succ j => simp at h1
  · intro b off hp
    have := hz b off hp
    unfold World.frozen? at this ⊢
    have e : W'.heap[b]? = W.heap[b]? := hb.block b (hlt _ hp)
    simp only at this ⊢
    rw [e]
    exact this
  · intro ha; exact hn ha
end
theorem law_contract {C : Checked} {f : FuncId} {fn : Func} {s : ChangeSpec} {n : Nat} {tb : TypeId} (hl : laidOutB C.prog = true) (hrd : fn.params.toList.all (fun t => C.prog.readableRec t && decide (t < C.prog.types.size)) = true)
    (hv : s.vars = []) (hs : ∀ (H : Type) (ds : List (DataW H)), ds.length = fn.params.size → s.fn H ds = { results := [.lit (.bool true)], args := ds }) (hr : fn.resultTypes = #[tb]) (htb : C.prog.underlying tb = some .bool)
    (hq : fn.params.toList.all (fun t => (parP C.prog n t).isSome) = true) (hp : ∀ ps, FitPars C.prog n fn.params.toList ps → Pure C.prog f ps (.b true))
    {H : Type} {enc : TypeId × Value → H} {apart fresh handsOn again : Bool} (W : World) (base : Nat) (args : Array Value) (ds gs : List (DataW H)) (before : List MemPlace)
    (hval : ∀ (j : Nat) t v, fn.params[j]? = some t → args[j]? = some v → Value.okWide C.prog W .any base t v) (hW : DataW.Whole enc C.prog fn.params.toList s.vars apart W args.toList ds gs before)
    (hz : (DataW.weightsEach C.prog (fn.params.toList ++ s.plain.varTypes C.prog) (ds ++ gs)).all (· ≤ reachBytes) = true) :
    Calls C.prog f args W fun e W' => ∃ v, e = .returned v ∧ s.post enc C.prog fn apart fresh handsOn again W args v W' := by
  have hW0 := hW
  obtain ⟨p, q, hA, hV, rfl, _, _⟩ := hW
  have hV' := hV
  rw [hv] at hV'
  obtain ⟨rfl, rfl⟩ := trodVars_none hV'
  have hlen : ∀ {ts : List TypeId} {vs : List Value} {ds : List (DataW H)} {ps : List MemPlace}, DataW.TrodAll enc C.prog W 0 (fun _ => true) true ts vs ds ps → ds.length = ts.length := by
    intro ts
    induction ts with
    | nil => intro vs ds ps h; obtain ⟨rfl, rfl, rfl⟩ := trodAll_nil h; rfl
    | cons t ts ih => intro vs ds ps h; obtain ⟨v, vs1, d, ds1, a, b, rfl, rfl, rfl, h1, h2⟩ := trodAll_cons h; simp [ih h2]
  have hd := hlen hA
  have hz' : (DataW.weightsEach C.prog fn.params.toList ds).all (· ≤ reachBytes) = true := by
    rw [List.append_nil] at hz
    have hsub : ∀ (ts us : List TypeId) (ds : List (DataW H)), ds.length = ts.length → DataW.weightsEach C.prog (ts ++ us) ds = DataW.weightsEach C.prog ts ds := by
      intro ts us
      induction ts with
      | nil => intro ds h; match ds, h with | [], _ => cases us <;> simp [DataW.weightsEach]
      | cons t ts ih => intro ds h; match ds, h with | d :: ds, h => simp only [List.cons_append, DataW.weightsEach]; rw [ih ds (by simpa using h)]
    rw [hsub _ _ _ hd] at hz
    exact hz
  obtain ⟨l, hrep, hfit⟩ := pars_rep (n := n) hA (fun j t v ht hv' => hval j t v (by simpa using ht) (by simpa using hv')) (fun t ht => Option.isSome_iff_exists.1 (List.all_eq_true.1 hq t ht)) hz'
  have := (hp l hfit).2 W (fun b => b < W.heap.size) args.toList (fun b hb => hb) hrep
  refine (show Calls C.prog f args W _ from by simpa using this).mono fun e W' he => ?_
  obtain ⟨u, rfl, hb, hu⟩ := he
  cases hu
  exact ⟨_, rfl, post_below hl hrd hW0 hv (hs H ds (by simpa using hd)) hr htb hb⟩
end Go.Proofs.YtcfbdeghmckelaaGreat
namespace Go.Proofs.YtcfbdeghmckelaaGreat
open Go.RowKit
theorem RelC.pub {X : Fx} {C : Ctx} {tr : List (List PV)} {stop : Bool} {a : Act} {w : World} {s : St} (hM : X.MOk) (h : RelC X C s.get s.look tr stop a w) (t : Nat) {pre : Prop} {v v' : PV} {ks : List Nat} (ht : toPV s.look 4 (s.get t) = some (pre, v, ks)) (hp : pre) (hw : Weak v v') :
    ∃ C', RelC X C' ((s.wrs (frzs s.look ks)).set (some t) (.p v')).get ((s.wrs (frzs s.look ks)).set (some t) (.p v')).look tr stop a w := by
  obtain ⟨C', h1, h2, h3⟩ := freezes hM s.look C ks s C h rfl rfl (fun _ h => h) (fun k => .inl rfl) (toPV_keys 4 ht)
  have hr := toPV_rep h (B' := C'.B) h2 4 (h.env t) ht hp h3
  refine ⟨C', ?_⟩
  rw [get_set, look_set]
  refine { h1 with env := fun j => ?_, envs := fun j => ?_ }
  · by_cases e : j = t
    · subst e; simp only [upd_same]; exact .p (hw.rep hr)
    · simp only [upd_ne _ _ e]; exact h1.env j
  · by_cases e : j = t
    · subst e; simp only [upd_same]; exact .p _
    · simp only [upd_ne _ _ e]; exact h1.envs j
inductive Pubs : St → St → Prop
  | cov {s s' : St} (h : Cov s s') : Pubs s s'
  | pub {s s' : St} (t : Nat) (v' : PV) {pre : Prop} {v : PV} {ks : List Nat} (ht : toPV s.look 4 (s.get t) = some (pre, v, ks)) (hp : pre) (hw : Weak v v') (h : Pubs ((s.wrs (frzs s.look ks)).set (some t) (.p v')) s') : Pubs s s'
theorem Pubs.rel {X : Fx} {a : Act} {w : World} {s s' : St} (hM : X.MOk) (h : Pubs s s') : ∀ {C : Ctx}, RelC X C s.get s.look s.tr s.stop a w → ∃ C', RelC X C' s'.get s'.look s'.tr s'.stop a w := by
  induction h with
  | cov h => exact fun hr => ⟨_, cov_rel h hr⟩
  | pub t v' ht hp hw _ ih =>
    intro C hr
    obtain ⟨C', h'⟩ := hr.pub hM t ht hp hw
    refine ih (C := C') ?_
    rw [(tr_set _ _ _).1, (tr_set _ _ _).2, (tr_wrs _ _).1, (tr_wrs _ _).2]
    exact h'
theorem Pubs.x {s s' : St} (t : Nat) (v' : PV) {pre : Prop} {v : PV} {ks : List Nat} (h : Pubs ((s.wrs (frzs s.look ks)).set (some t) (.p v')) s')
    (ht : toPV s.look 4 (s.get t) = some (pre, v, ks) := by simp (disch := omega) only [qS, qe, Nat.reduceAdd, Nat.reduceMul, Nat.reduceEqDiff, Nat.reduceLeDiff, reduceIte, reduceCtorEq, Nat.reduceBEq, Nat.reduceLT] <;> rfl)
    (hp : pre := by first | trivial | omega | (simp; done) | (simp (disch := omega) only [qS, qe, Nat.reduceAdd, Nat.reduceMul, Nat.reduceEqDiff, Nat.reduceLeDiff, reduceIte, reduceCtorEq, Nat.reduceBEq, Nat.reduceLT] <;> omega)) (hw : Weak v v' := by first | exact .refl _ | exact .nilsl _) : Pubs s s' := .pub t v' ht hp hw h
def LoopEnd {κ : Type} (inv : κ → St) (ok : κ → Prop) (μ : κ → Nat) (k : κ) (s : St) : Prop := ∃ k', ok k' ∧ μ k' < μ k ∧ Pubs s (inv k')
def loopP {κ : Type} (inv : κ → St) (ok : κ → Prop) (μ : κ → Nat) (k : κ) (Q : APost) : APost
  | .normal, s => LoopEnd inv ok μ k s
  | e, s => Q e s
section
variable {κ : Type} (inv : κ → St) (ok : κ → Prop) (μ : κ → Nat) (k : κ) (Q : APost) (s : St)
theorem lpN : loopP inv ok μ k Q .normal s = LoopEnd inv ok μ k s := rfl
theorem lpE (i : Nat) : loopP inv ok μ k Q (.exit i) s = Q (.exit i) s := rfl
theorem lpR : loopP inv ok μ k Q .ret s = Q .ret s := rfl
end
theorem run_loopP {κ : Type} {G : Cfg} {Q : APost} {s : St} {c : AC} (inv : κ → St) (ok : κ → Prop) (μ : κ → Nat) (k0 : κ) (h0 : Pubs s (inv k0)) (hk0 : ok k0) (hbody : ∀ k, ok k → Run G c (inv k) (loopP inv ok μ k Q)) : Run G (.loop c) s Q := by
  intro hG code hc C a w hr
  obtain ⟨C1, hr⟩ := h0.rel hG.mok hr
  cases code <;> simp only [compile, Option.map_eq_some_iff] at hc
  case loop c1 =>
    obtain ⟨x', h1, hc⟩ := hc
    injection hc with e1; subst e1
    obtain ⟨m, hm⟩ := least_of fun a w n => ∃ k C, ok k ∧ μ k = n ∧ RelC G.X C (inv k).get (inv k).look (inv k).tr (inv k).stop a w
    refine wpIn_loop (fun a w => ∃ n k C, ok k ∧ μ k = n ∧ RelC G.X C (inv k).get (inv k).look (inv k).tr (inv k).stop a w) m ⟨_, k0, C1, hk0, rfl, hr⟩ ?_
    intro a w hI
    obtain ⟨⟨k, C, hok, hμ, hr⟩, hmin⟩ := hm a w hI
    refine wpIn_mono (hbody k hok hG c1 h1 C a w hr) ?_
    rintro e a' w' ⟨s', C', hr', hq⟩
    cases e with
    | normal =>
      obtain ⟨k', hok', hlt, hcov⟩ := hq
      obtain ⟨C2, hr2⟩ := hcov.rel hG.mok hr'
      have hex : ∃ n, (fun a w n => ∃ k C, ok k ∧ μ k = n ∧ RelC G.X C (inv k).get (inv k).look (inv k).tr (inv k).stop a w) a' w' n := ⟨_, k', C2, hok', rfl, hr2⟩
      refine ⟨hex, ?_⟩
      have := (hm a' w' hex).2 (μ k') ⟨k', C2, hok', rfl, hr2⟩
      omega
    | exit id => exact ⟨s', C', hr', hq⟩
    | ret => exact ⟨s', C', hr', hq⟩
    | goto l => exact hq.elim
    | panic c => exact hq.elim
    | outgrown => exact hq.elim
  all_goals first | (cases hc; done) | (obtain ⟨_, _, hc⟩ := hc; cases hc; done) | (split at hc <;> cases hc; done)
end Go.Proofs.YtcfbdeghmckelaaGreat
namespace Go.Proofs.YtcfbdeghmckelaaGreat
open Go.RowKit
def gLV (k : Nat) : LObj → LV
  | .box _ _ => .lp k 0
  | .row _ _ xs _ => .row k xs.length
  | .sit _ _ => .it k
  | .mp _ _ => .lm k
def gV (C : Ctx) (k : Nat) : LObj → Value
  | .row .. => C.cur k
  | .mp .. => .map (some (C.ρ k))
  | _ => .pointer (some ⟨C.ρ k, 0, none⟩)
theorem gLV_rep {w : World} {C : Ctx} {l : Nat → Option LObj} (k : Nat) (o : LObj) : RepL w C l (gV C k o) (gLV k o) := by
  cases o with
  | box => exact .lp
  | row => exact .row fun _ _ _ _ _ _ => rfl
  | sit => exact .it
  | mp => exact .lm
theorem gLV_sc {l : Nat → Option LObj} {k : Nat} {o : LObj} (h : l k = some o) : LV.Sc l (gLV k o) := by
  cases o with
  | box => exact .lp h
  | row => exact .row h (Nat.le_refl _)
  | sit => exact .it h
  | mp => exact .lm h
theorem RepL.sub {w : World} {C C' : Ctx} {l l' : Nat → Option LObj} (hl : ∀ k o, l' k = some o → l k = some o) (hB : ∀ b, C.B b → C'.B b) (hy : C'.y = C.y) (hρ : C'.ρ = C.ρ) (hc : C'.cur = C.cur) {v : Value} {q : LV} (h : RepL w C l v q) : RepL w C' l' v q := by
  induction h with
  | p h => exact .p (h.mono hB fun _ _ => rfl)
  | g _ h2 ih => exact .g ih h2
  | lp => rw [← hρ]; exact .lp
  | row h => exact .row fun e sz xs fz hk hx => by rw [hc]; exact h e sz xs fz (hl _ _ hk) hx
  | ep h => exact .ep fun e sz xs fz hk hx => by rw [hc]; exact h e sz xs fz (hl _ _ hk) hx
  | it => rw [← hρ]; exact .it
  | lm => rw [← hρ]; exact .lm
  | fn h1 h2 _ _ ih1 ih2 => exact .fn h1 h2 ih1 ih2
  | agg h1 _ ih => exact .agg h1 ih
  | yield => rw [← hy]; exact .yield
  | any v => exact .any v
theorem ObjRel.sub {w : World} {C C' : Ctx} {l l' : Nat → Option LObj} (hl : ∀ k o, l' k = some o → l k = some o) (hB : ∀ b, C.B b → C'.B b) (hy : C'.y = C.y) (hρ : C'.ρ = C.ρ) (hc : C'.cur = C.cur) {k : Nat} {o : LObj} (h : ObjRel w C l k o) : ObjRel w C' l' k o := by
  cases o with
  | box cs fz => obtain ⟨arr, ty, h1, h2, h3⟩ := h; exact ⟨arr, ty, by rw [hρ]; exact h1, h2, fun j v q hv hq => (h3 j v q hv hq).sub hl hB hy hρ hc⟩
  | row e sz xs fz => obtain ⟨us, h1, h2, h3⟩ := h; exact ⟨us, by rw [hc]; exact h1, h2.mono hB fun _ _ => rfl, h3⟩
  | sit s pos => show w.heap[C'.ρ k]? = _; rw [hρ]; exact h
  | mp es fz => obtain ⟨ents, clock, h1, h2, h3⟩ := h; exact ⟨ents, clock, by rw [hρ]; exact h1, h2, fun j m kv hm hkv => ⟨(h3 j m kv hm hkv).1.mono hB fun _ _ => rfl, (h3 j m kv hm hkv).2.mono hB fun _ _ => rfl⟩⟩
def ghO (obj : List (Nat × LObj)) : List (Nat × LV) := obj.map fun x => (GB + x.1, gLV x.1 x.2)
def argStL (args : List LV) (obj : List (Nat × LObj)) : St := ⟨(args.zipIdx.map fun x => (x.2, x.1)) ++ ghO obj, obj, [], false⟩
theorem aget_gh (g : Nat) : ∀ (obj : List (Nat × LObj)) (t : Nat), aget (obj.map fun x => (g + x.1, gLV x.1 x.2)) t = if g ≤ t then (match oget obj (t - g) with | some o => gLV (t - g) o | none => .any) else .any
  | [], t => by simp [aget, oget]
  | (k, o) :: r, t => by
    have ih := aget_gh g r t
    simp only [List.map_cons, aget, oget]
    by_cases e : t = g + k
    · subst e; rw [if_pos rfl, if_pos (by omega), Nat.add_sub_cancel_left, if_pos rfl]
    · rw [if_neg e, ih]
      by_cases h : g ≤ t
      · rw [if_pos h, if_pos h, if_neg (by omega)]
      · rw [if_neg h, if_neg h]
theorem aget_ghO (obj : List (Nat × LObj)) (t : Nat) : aget (ghO obj) t = if GB ≤ t then (match oget obj (t - GB) with | some o => gLV (t - GB) o | none => .any) else .any := aget_gh GB obj t
theorem repl_lp_inv {w : World} {C : Ctx} {l : Nat → Option LObj} {v : Value} {k off : Nat} (h : RepL w C l v (.lp k off)) : v = .pointer (some ⟨C.ρ k, off, none⟩) := by cases h; rfl
theorem repl_row_inv {w : World} {C : Ctx} {l : Nat → Option LObj} {v : Value} {k n : Nat} (h : RepL w C l v (.row k n)) : ∀ e sz xs fz, l k = some (.row e sz xs fz) → xs.length = n → v = C.cur k := by cases h; assumption
theorem repl_it_inv {w : World} {C : Ctx} {l : Nat → Option LObj} {v : Value} {k : Nat} (h : RepL w C l v (.it k)) : v = .pointer (some ⟨C.ρ k, 0, none⟩) := by cases h; rfl
theorem repl_lm_inv {w : World} {C : Ctx} {l : Nat → Option LObj} {v : Value} {k : Nat} (h : RepL w C l v (.lm k)) : v = .map (some (C.ρ k)) := by cases h; rfl
theorem aget_argsL (r : List (Nat × LV)) : ∀ (args : List LV) (n t : Nat), n ≤ t → aget ((args.zipIdx n |>.map fun x => (x.2, x.1)) ++ r) t = (match args[t - n]? with | some q => q | none => aget r t)
  | [], n, t, _ => by simp
  | v :: a, n, t, h => by
    simp only [List.zipIdx_cons, List.map_cons, List.cons_append, aget]
    by_cases e : t = n
    · subst e; simp
    · rw [if_neg e, aget_argsL r a (n + 1) t (by omega)]
      have : t - n = (t - (n + 1)) + 1 := by omega
      rw [this]; rfl
def keepO (s : St) : List (Nat × LObj) → Prop
  | [] => True
  | (k, o) :: r => s.look k = some o ∧ o.frozen = false ∧ keepO s r
def keepG (s : St) : List (Nat × LObj) → Prop
  | [] => True
  | (k, o) :: r => s.get (GB + k) = gLV k o ∧ keepG s r
theorem keepO_get {s : St} : ∀ {l : List (Nat × LObj)}, keepO s l → ∀ k o, oget l k = some o → s.look k = some o ∧ o.frozen = false
  | [], _, k, o, h => by simp [oget] at h
  | (j, u) :: r, hk, k, o, h => by
    simp only [oget] at h
    split at h
    · rename_i e; subst e; injection h with h; subst h; exact ⟨hk.1, hk.2.1⟩
    · exact keepO_get hk.2.2 k o h
theorem keepG_get {s : St} : ∀ {l : List (Nat × LObj)}, keepG s l → ∀ k o, oget l k = some o → s.get (GB + k) = gLV k o
  | [], _, k, o, h => by simp [oget] at h
  | (j, u) :: r, hk, k, o, h => by
    simp only [oget] at h
    split at h
    · rename_i e; subst e; injection h with h; subst h; exact hk.1
    · exact keepG_get hk.2 k o h
def RetR (rs : List RV) (res : LV) (obj' : List (Nat × LObj)) (s : St) : Prop :=
  ∃ pre lvs, resL s rs = some (pre, lvs) ∧ pre ∧ ((lvs = [res] ∧ scP (oget obj') res) ∨ ∃ pre2 vs ks v, toPVs s.look lvs = some (pre2, vs, ks) ∧ pre2 ∧ Weak (tupOf vs) v ∧ res = .p v ∧ ∀ k ∈ ks, oget obj' k = none)
def RetA (rs : List RV) (res : LV) (obj obj' : List (Nat × LObj)) (s : St) : Prop := keepO s obj' ∧ keepG s obj ∧ RetR rs res obj' s
def retA (rs : List RV) (res : LV) (obj obj' : List (Nat × LObj)) : APost
  | .normal, s => RetA rs res obj obj' s
  | .ret, s => RetA rs res obj obj' s
  | .exit _, _ => False
def FolL (l : Nat → Option LObj) : List (Nat × LObj) → Prop
  | [] => True
  | (k, o) :: r => (match o, l k with
    | .box _ _, some (.box _ _) => True
    | .row e sz xs _, some (.row e' sz' xs' _) => e' = e ∧ sz' = sz ∧ xs'.length = xs.length
    | .sit _ _, some (.sit _ _) => True
    | .mp _ _, some (.mp _ _) => True
    | _, _ => False) ∧ FolL l r
theorem folL_get {l : Nat → Option LObj} : ∀ {obj : List (Nat × LObj)}, FolL l obj → ∀ k o, oget obj k = some o → ∃ o', l k = some o' ∧ o.Follows o' ∧ ∀ e sz xs f e' sz' xs' f', o = .row e sz xs f → o' = .row e' sz' xs' f' → xs'.length = xs.length
  | [], _, k, o, h => by simp [oget] at h
  | (j, u) :: r, hf, k, o, h => by
    simp only [oget] at h
    split at h
    · rename_i e; subst e; injection h with h; subst h
      have h1 := hf.1
      split at h1
      · rename_i h2; exact ⟨_, h2, trivial, fun _ _ _ _ _ _ _ _ e => by cases e⟩
      · rename_i h2
        obtain ⟨rfl, rfl, h3⟩ := h1
        exact ⟨_, h2, ⟨rfl, rfl, by omega⟩, fun _ _ _ _ _ _ _ _ e1 e2 => by cases e1; cases e2; exact h3⟩
      · rename_i h2; exact ⟨_, h2, trivial, fun _ _ _ _ _ _ _ _ e => by cases e⟩
      · rename_i h2; exact ⟨_, h2, trivial, fun _ _ _ _ _ _ _ _ e => by cases e⟩
      · exact h1.elim
    · exact folL_get hf.2 k o h
def nofz : List (Nat × LObj) → Prop
  | [] => True
  | (_, o) :: r => o.frozen = false ∧ nofz r
theorem nofz_get : ∀ {l : List (Nat × LObj)}, nofz l → ∀ k o, oget l k = some o → o.frozen = false
  | [], _, k, o, h => by simp [oget] at h
  | (j, u) :: r, hk, k, o, h => by
    simp only [oget] at h
    split at h
    · injection h with h; subst h; exact hk.1
    · exact nofz_get hk.2 k o h
attribute [local irreducible] GB
section
variable {P : Program}
def actFx (w : World) (C : Ctx) (obj : List (Nat × LObj)) (N : Nat) : Fx := { w0 := w, B0 := C.B, B1 := fun b => C.B b ∨ blkS C obj b, M := blkS C obj, O0 := fun _ => False, D0 := fun _ => False, Bo := fun b => C.B b ∨ blkS C obj b, no := w.heap.size, N := N, y := C.y, J := fun _ _ _ _ => True, Jx := fun _ _ _ => True, gv := fun t => match oget obj (t - GB) with | some o => gV C (t - GB) o | none => undef, K := [] }
theorem acts_of_run {f : FuncId} {fn : Func} {body : Code} {c : AC} {rs : List RV} {args : List LV} {obj obj' : List (Nat × LObj)} {res : LV} (hf : P.funcs[f]? = some fn) (hname : (fn.name == "runtime.NumGoroutine") = false) (hb : fn.body = some body)
    (hc : compile P fn.ntmps body = some c) (hrs : compRes P fn.results.toList = some rs) (hn : args.length ≤ fn.ntmps) (hgb : fn.ntmps ≤ GB)
    (hsa : scPs (oget obj) args) (hso : scObj (oget obj) obj) (hnf : nofz obj) (hso' : scObj (oget obj') obj') (hfol : FolL (oget obj') obj)
    (hrun : ∀ X : Fx, X.N = fn.ntmps → Run ⟨P, X, none, []⟩ c (argStL args obj) (retA rs res obj obj')) : Acts P f args obj res obj' := by
  refine ⟨⟨fn, body, hf, hname, hb⟩, fun k o hk => ⟨scObj_look hso k o hk, nofz_get hnf k o hk⟩, fun k o hk => ?_, fun w C vs fr hlen hvs => callsIn_wide.1 (callsIn_of_wp_marks (F := Fence.wide) (n := 0) hf hb trivial ?_ rfl)⟩
  · obtain ⟨o', h1, h2, _⟩ := folL_get hfol k o hk; exact ⟨o', h1, h2⟩
  let X := actFx w C obj fn.ntmps
  have hX : X.Triv := fun t D o w => ⟨trivial, trivial⟩
  have hN : (vs.toArray ++ Array.replicate (fn.ntmps - vs.toArray.size) undef).size = fn.ntmps := by simp; omega
  have hget : ∀ t, (argStL args obj).get t = (match args[t]? with | some q => q | none => aget (ghO obj) t) := fun t => by
    have := aget_argsL (ghO obj) args 0 t (Nat.zero_le _)
    simpa [argStL, St.get] using this
  let C0 : Ctx := { C with n := 0, dep := fun _ => False, own := fun _ => False }
  have h0 : RelC X C0 (argStL args obj).get (argStL args obj).look [] false { tmps := vs.toArray ++ Array.replicate (fn.ntmps - vs.toArray.size) undef, defers := [] } w :=
    { kx := KeepX.refl _ _
      yy := rfl
      b0 := fun b h => h
      blt := fr.blt
      bold := fun b h _ => .inl h
      borg := fun b h => .inl (.inl h)
      no0 := Nat.le_refl _
      tsz := hN
      ngb := hgb
      env := fun t => by
        rw [hget]
        split
        · rename_i q hq
          have hta : t < args.length := (List.getElem?_eq_some_iff.1 hq).1
          rw [valAt_lt (Nat.lt_of_lt_of_le (Nat.lt_of_lt_of_le hta hn) hgb)]
          have ht : t < vs.length := by omega
          have : (vs.toArray ++ Array.replicate (fn.ntmps - vs.toArray.size) undef).getD t undef = vs[t] := by
            rw [Array.getD_eq_getD_getElem?, Array.getElem?_append_left (by simpa using ht)]
            simp [ht]
          rw [this]
          exact RepL.sub (C := C) (C' := C0) (l := oget obj) (fun _ _ h => h) (fun _ h => h) rfl rfl rfl (hvs t _ q (List.getElem?_eq_getElem ht) hq)
        · rw [aget_ghO]
          split
          · rename_i hge
            have hv : valAt X { tmps := vs.toArray ++ Array.replicate (fn.ntmps - vs.toArray.size) undef, defers := [] } t = (match oget obj (t - GB) with | some o => gV C (t - GB) o | none => undef) := by
              unfold valAt; rw [if_neg (by omega)]; rfl
            rw [hv]
            split
            · rename_i o ho; exact RepL.sub (C := C) (C' := C0) (l := oget obj) (fun _ _ h => h) (fun _ h => h) rfl rfl rfl (gLV_rep (w := w) (C := C) (l := oget obj) _ o)
            · exact .any _
          · exact .any _
      envs := fun t => by
        rw [hget]
        split
        · rename_i q hq; exact scP_sc _ q (Nat.le_refl _) (scPs_get hsa t q hq)
        · rw [aget_ghO]
          split
          · split
            · rename_i o ho; exact gLV_sc ho
            · exact .any
          · exact .any
      obj := fun k o hk => ObjRel.sub (C := C) (C' := C0) (l := oget obj) (fun _ _ h => h) (fun _ h => h) rfl rfl rfl (fr.ob k o hk)
      objs := fun k o hk => fr.objs k o hk
      sep := fun k o b hk hb => by
        obtain ⟨h1, h2⟩ := fr.sep k o b hk hb
        exact ⟨fun _ => .inr ⟨k, o, hk, hb⟩, h1, fun _ => h2, fun h => by rw [fr.fz k o hk] at h; cases h⟩
      dis := fun k k' o o' b hne hk hk' hb hb' => fr.dis k k' o o' b hne hk hk' hb hb'
      marks := fun p hp => by cases hp
      nle := Nat.zero_le _
      dn := fun _ h => h.elim
      nn := fun k o b hk _ _ h => h.elim
      ow := fun _ h => h.elim
      oold := fun _ h => h.elim
      dold := fun _ h => h.elim
      jj := .inl hX }
  refine wpIn_mono (hrun X rfl ⟨⟨fun b h => .inr h, fun b h => .inl (.inr h)⟩, .inl rfl, fun l h => by cases h⟩ body hc _ _ _ h0) ?_
  rintro e a' w' ⟨s', C', hr', hq⟩
  have key : RetA rs res obj obj' s' → LeavesInM Fence.wide 0 P fn a'.tmps (fun e w' => ∃ u C', e = .returned u ∧ AEnd w C w' C' obj obj' u res) a'.defers .returning w' := fun ⟨hko, hkg, pre, lvs, hl, hp, hres⟩ => by
    refine leaves_of (ro := none) a'.defers a' w' rfl hr' fun w2 h2 => ?_
    obtain ⟨us, hrun, hus⟩ := results_of (fn := fn) hrs h2 hl hp
    refine ⟨_, hrun, ?_⟩
    have sub : ∀ k o, oget obj' k = some o → s'.look k = some o := fun k o hk => (keepO_get hko k o hk).1
    have nfz : ∀ k o, oget obj' k = some o → o.frozen = false := fun k o hk => (keepO_get hko k o hk).2
    have tied : ∀ k o o', oget obj k = some o → oget obj' k = some o' → Tied C' k C k o' := fun k o o' hk hk' => by
      have hg := keepG_get hkg k o hk
      have hv : ∀ a2 : Act, valAt X a2 (GB + k) = gV C k o := fun a2 => by
        unfold valAt; rw [if_neg (by omega)]
        show (match oget obj (GB + k - GB) with | some o => gV C (GB + k - GB) o | none => undef) = _
        rw [Nat.add_sub_cancel_left, hk]
      have he : RepL w2 C' s'.look (gV C k o) (gLV k o) := by
        rw [← hg, ← hv { tmps := a'.tmps, defers := [] }]; exact h2.env (GB + k)
      obtain ⟨o2, f1, f2, f3⟩ := folL_get hfol k o hk
      rw [hk'] at f1; injection f1 with f1; subst f1
      cases o <;> cases o' <;> simp only [LObj.Follows] at f2
      · have h3 := repl_lp_inv he; simp only [gV, Value.pointer.injEq, Option.some.injEq, Addr.mk.injEq] at h3; exact h3.1.symm
      · rename_i e sz xs fz e' sz' xs' fz'
        simp only [gV, gLV] at he
        exact (repl_row_inv he _ _ _ _ (sub _ _ hk') (f3 _ _ _ _ _ _ _ _ rfl rfl)).symm
      · have h3 := repl_it_inv he; simp only [gV, Value.pointer.injEq, Option.some.injEq, Addr.mk.injEq] at h3; exact h3.1.symm
      · have h3 := repl_lm_inv he; simp only [gV, Value.map.injEq, Option.some.injEq] at h3; exact h3.symm
    have tblk : ∀ k o, oget obj k = some o → ∃ o', oget obj' k = some o' ∧ blk C' k o' = blk C k o := fun k o hk => by
      obtain ⟨o', f1, f2, f3⟩ := folL_get hfol k o hk
      have ht := tied k o o' hk f1
      refine ⟨o', f1, ?_⟩
      cases o <;> cases o' <;> simp only [LObj.Follows] at f2 <;> simp only [Tied] at ht <;> simp only [blk, ht]
    have fin : ∀ (ks : List Nat) (u : Value), (∀ k ∈ ks, oget obj' k = none) → RepL w2 { C' with B := fun b => C'.B b ∨ blksOf C' s'.look ks b } (oget obj') u res → LV.Sc (oget obj') res → AEnd w C w2 { C' with B := fun b => C'.B b ∨ blksOf C' s'.look ks b } obj obj' u res := fun ks u hks hrep hsc => by
      have noB : ∀ k o b, oget obj' k = some o → blk C' k o = some b → ¬ (C'.B b ∨ blksOf C' s'.look ks b) := fun k o b hk hb hB => by
        rcases hB with hB | ⟨k2, hk2, o2, h3, h4⟩
        · exact (h2.sep k o b (sub k o hk) hb).2.2.1 (nfz k o hk) hB
        · refine h2.dis k k2 o o2 b (fun e => ?_) (sub k o hk) h3 hb h4
          subst e; rw [hks k hk2] at hk; cases hk
      exact {
        kx := h2.kx.mono fun b _ hb => hb.elim id fun h => h.elim
        fr := {
          blt := fun b hb => hb.elim (h2.blt b) fun ⟨k, _, o, h3, h4⟩ => (h2.sep k o b h3 h4).2.1
          ob := fun k o hk => ObjRel.sub (C := C') (C' := { C' with B := fun b => C'.B b ∨ blksOf C' s'.look ks b }) sub (fun _ h => .inl h) rfl rfl rfl (h2.obj k o (sub k o hk))
          objs := fun k o hk => scObj_look hso' k o hk
          fz := nfz
          sep := fun k o b hk hb => ⟨(h2.sep k o b (sub k o hk) hb).2.1, noB k o b hk hb⟩
          dis := fun k k' o o' b hne hk hk' hb hb' => h2.dis k k' o o' b hne (sub k o hk) (sub k' o' hk') hb hb' }
        b1 := fun b hb => .inl (h2.b0 b hb)
        b2 := fun b hb => by
          by_cases hlt : b < w.heap.size
          · have lent : ∀ k o, oget obj k = some o → blk C k o = some b → False := fun k o hk hbk => by
              obtain ⟨o', f1, f2⟩ := tblk k o hk
              exact noB k o' b f1 (f2.trans hbk) hb
            rcases hb with hb | ⟨k, hk, o, h3, h4⟩
            · rcases h2.bold b hb hlt with h | ⟨k, o, h3, h4⟩
              · exact .inl h
              · exact (lent k o h3 h4).elim
            · obtain ⟨e1, e2, _, e4⟩ := h2.sep k o b h3 h4
              cases hf : o.frozen with
              | true =>
                rcases h2.bold b (e4 hf) hlt with h | ⟨k, o, h3, h4⟩
                · exact .inl h
                · exact (lent k o h3 h4).elim
              | false =>
                rcases e1 hf with h | ⟨k, o, h3, h4⟩
                · exact .inr h
                · exact (lent k o h3 h4).elim
          · exact .inr (by omega)
        y := h2.yy
        fol := fun k o hk => by obtain ⟨o', f1, f2, _⟩ := folL_get hfol k o hk; exact ⟨o', f1, f2⟩
        tied := fun k o o' hk hk' _ => by have := tied k o o' hk hk'; cases o' <;> exact this
        bk := fun k o b hk hb => ((h2.sep k o b (sub k o hk) hb).1 (nfz k o hk)).symm
        rp := hrep
        scr := hsc }
    rcases hres with ⟨rfl, hsc⟩ | ⟨pre2, vs2, ks, v, ht, hp2, hw, rfl, hks⟩
    · match us, hus with
      | [u], hus =>
        refine ⟨u, _, rfl, fin [] u (fun k h => by cases h) ?_ (scP_sc _ res (Nat.le_refl _) hsc)⟩
        exact RepL.sub (C := C') (C' := { C' with B := fun b => C'.B b ∨ blksOf C' s'.look [] b }) sub (fun _ h => .inl h) rfl rfl rfl (hus.2 0 u res rfl rfl).1
      | [], hus => exact absurd hus.1 (by simp)
      | _ :: _ :: _, hus => exact absurd hus.1 (by simp)
    · have hreps := toPVs_rep h2 hus ht hp2
      refine ⟨_, _, rfl, fin ks _ hks (.p (hw.rep ?_)) (.p _)⟩
      match us, vs2, hreps with
      | [], [], _ => exact .tup rfl (fun j v p hv => by simp at hv)
      | [u], [p], h => exact h.2 0 u p rfl rfl
      | u :: v :: us, p :: q :: ps, h =>
        have : (u :: v :: us).toArray.size ≠ 1 := by simp
        rw [dif_neg this]
        exact .tup (by simpa using h.1) (fun j x y hx hy => h.2 j x y (by simpa using hx) hy)
      | [], _ :: _, h => exact absurd h.1 (by simp)
      | _ :: _, [], h => exact absurd h.1 (by simp)
      | [_], _ :: _ :: _, h => exact absurd h.1 (by simp)
      | _ :: _ :: _, [_], h => exact absurd h.1 (by simp)
  cases e with
  | normal => exact key hq
  | ret => exact key hq
  | exit id => exact hq.elim
  | goto l => exact hq.elim
  | panic c => exact hq.elim
  | outgrown => exact hq.elim
theorem acts_of {f : FuncId} {c : AC} {rs : List RV} {n : Nat} (h : compF P f = some (c, rs, n)) {args : List LV} {obj obj' : List (Nat × LObj)} {res : LV} (hn : args.length ≤ n)
    (hsa : scPs (oget obj) args) (hso : scObj (oget obj) obj) (hnf : nofz obj) (hso' : scObj (oget obj') obj') (hfol : FolL (oget obj') obj)
    (hrun : ∀ X : Fx, X.N = n → Run ⟨P, X, none, []⟩ c (argStL args obj) (retA rs res obj obj')) : Acts P f args obj res obj' := by
  unfold compF at h
  split at h
  · rename_i fn hf
    split at h
    · cases h
    · rename_i hname
      split at h
      · rename_i b hb
        split at h
        · rename_i c' rs' hc hrs
          split at h
          case isFalse => cases h
          rename_i hgb
          injection h with h; injection h with e1 h; injection h with e2 e3
          subst e1; subst e2; subst e3
          exact acts_of_run hf (by simpa using hname) hb hc hrs hn hgb hsa hso hnf hso' hfol hrun
        · cases h
      · cases h
  · cases h
end
end Go.Proofs.YtcfbdeghmckelaaGreat
namespace Go.Proofs.YtcfbdeghmckelaaGreat
open Go.RowKit
set_option linter.unusedVariables false
def rn : List (Nat × Nat) → Nat → Nat
  | [], k => k
  | (a, b) :: r, k => match k == a with | true => b | false => rn r k
def lentO (s : St) (m : Nat → Nat) : List (Nat × LObj) → Prop
  | [] => True
  | (k, o) :: r => s.look (m k) = some (o.ren m) ∧ lentO s m r
def newO (s : St) (m : Nat → Nat) (obj : List (Nat × LObj)) : List (Nat × LObj) → Prop
  | [] => True
  | (k, _) :: r => ((oget obj k).isSome = true ∨ s.look (m k) = none) ∧ newO s m obj r
theorem lent_of {s : St} {m : Nat → Nat} {obj obj' : List (Nat × LObj)} (h1 : lentO s m obj) (h2 : newO s m obj obj') (h3 : (obj'.map fun x => m x.1).Nodup) : Lent s m obj obj' where
  old := by
    have key : ∀ l : List (Nat × LObj), lentO s m l → ∀ k o, oget l k = some o → s.look (m k) = some (o.ren m) := by
      intro l
      induction l with
      | nil => intro _ k o h; simp [oget] at h
      | cons x r ih =>
        obtain ⟨j, u⟩ := x
        intro hl k o h
        simp only [oget] at h
        split at h
        · rename_i e; subst e; injection h with h; subst h; exact hl.1
        · exact ih hl.2 k o h
    exact key obj h1
  new := by
    intro k o hk h0
    have key : ∀ l : List (Nat × LObj), newO s m obj l → oget l k = some o → s.look (m k) = none := by
      intro l
      induction l with
      | nil => intro _ h; simp [oget] at h
      | cons x r ih =>
        obtain ⟨j, u⟩ := x
        intro hn h
        simp only [oget] at h
        split at h
        · rename_i e; subst e
          rcases hn.1 with h | h
          · rw [h0] at h; cases h
          · exact h
        · exact ih hn.2 h
    exact key obj' h2 hk
  nd := h3
section
variable {P : Program} {G : Cfg} {Q : APost} {ts : List (List PV)} {dr : Bool} {K : St → List Ft → Prop} {acc : List Ft} {d : Option Nat} {f : Nat} {args : List AOpd} {af : List Nat} {r : List RO} {s : St} {vs : List LV} {res : LV} {obj obj' : List (Nat × LObj)}
theorem run_callSX (l : List (Nat × Nat)) (hf : Acts P f vs obj res obj') (hn : runS dr (RunOps P ts dr K) r ((s.wrs (renO (rn l) obj')).set d (res.ren (rn l))) (accU dr acc s ⟨d, .call f, args, none, af⟩ (renO (rn l) obj')))
    (ha : uns (rawIns s args) = rens (rn l) vs := by simp (disch := omega) only [qS, qe, rn.eq_1, rn.eq_2, lentO.eq_1, lentO.eq_2, newO.eq_1, newO.eq_2, LObj.ren.eq_1, LObj.ren.eq_2, LObj.ren.eq_3, LObj.ren.eq_4, LV.ren.eq_1, LV.ren.eq_3, LV.ren.eq_4, LV.ren.eq_6, LV.ren.eq_7, LV.ren.eq_8, LV.ren.eq_9, LV.ren.eq_10, rens.eq_1, rens.eq_2, renO, keepO.eq_1, keepO.eq_2, keepG.eq_1, keepG.eq_2, gLV.eq_1, gLV.eq_2, gLV.eq_4, argStL, ghO, GB, Nat.reduceAdd, Nat.reduceMul, Nat.reduceEqDiff, Nat.reduceLeDiff, reduceIte, reduceCtorEq, Nat.reduceBEq, Nat.reduceLT] <;> rfl)
    (hp : cnds (rawIns s args) = true := by simp (disch := omega) only [qS, qe, rn.eq_1, rn.eq_2, lentO.eq_1, lentO.eq_2, newO.eq_1, newO.eq_2, LObj.ren.eq_1, LObj.ren.eq_2, LObj.ren.eq_3, LObj.ren.eq_4, LV.ren.eq_1, LV.ren.eq_3, LV.ren.eq_4, LV.ren.eq_6, LV.ren.eq_7, LV.ren.eq_8, LV.ren.eq_9, LV.ren.eq_10, rens.eq_1, rens.eq_2, renO, keepO.eq_1, keepO.eq_2, keepG.eq_1, keepG.eq_2, gLV.eq_1, gLV.eq_2, gLV.eq_4, argStL, ghO, GB, Nat.reduceAdd, Nat.reduceMul, Nat.reduceEqDiff, Nat.reduceLeDiff, reduceIte, reduceCtorEq, Nat.reduceBEq, Nat.reduceLT])
    (h1 : lentO s (rn l) obj := by simp (disch := omega) only [qS, qe, rn.eq_1, rn.eq_2, lentO.eq_1, lentO.eq_2, newO.eq_1, newO.eq_2, LObj.ren.eq_1, LObj.ren.eq_2, LObj.ren.eq_3, LObj.ren.eq_4, LV.ren.eq_1, LV.ren.eq_3, LV.ren.eq_4, LV.ren.eq_6, LV.ren.eq_7, LV.ren.eq_8, LV.ren.eq_9, LV.ren.eq_10, rens.eq_1, rens.eq_2, renO, keepO.eq_1, keepO.eq_2, keepG.eq_1, keepG.eq_2, gLV.eq_1, gLV.eq_2, gLV.eq_4, argStL, ghO, GB, Nat.reduceAdd, Nat.reduceMul, Nat.reduceEqDiff, Nat.reduceLeDiff, reduceIte, reduceCtorEq, Nat.reduceBEq, Nat.reduceLT] <;> (repeat' apply And.intro) <;> first | rfl | trivial)
    (h2 : newO s (rn l) obj obj' := by simp (disch := omega) only [qS, qe, rn.eq_1, rn.eq_2, lentO.eq_1, lentO.eq_2, newO.eq_1, newO.eq_2, LObj.ren.eq_1, LObj.ren.eq_2, LObj.ren.eq_3, LObj.ren.eq_4, LV.ren.eq_1, LV.ren.eq_3, LV.ren.eq_4, LV.ren.eq_6, LV.ren.eq_7, LV.ren.eq_8, LV.ren.eq_9, LV.ren.eq_10, rens.eq_1, rens.eq_2, renO, keepO.eq_1, keepO.eq_2, keepG.eq_1, keepG.eq_2, gLV.eq_1, gLV.eq_2, gLV.eq_4, argStL, ghO, GB, Nat.reduceAdd, Nat.reduceMul, Nat.reduceEqDiff, Nat.reduceLeDiff, reduceIte, reduceCtorEq, Nat.reduceBEq, Nat.reduceLT] <;> (repeat' apply And.intro) <;> first | trivial | exact .inl rfl | exact .inr rfl)
    (h3 : (obj'.map fun x => rn l x.1).Nodup := by first | decide | (simp only [List.map_cons, List.map_nil]; decide) | simp) : RunOps P ts dr K (⟨d, .call f, args, none, af⟩ :: r) s acc :=
  run_callS (rn l) hf ha hp (lent_of h1 h2 h3) (run_ops hn)
theorem run_isnilX {ng : Bool} {x : AOpd} {R : Bool → Prop} (hn : ∀ b : Bool, R b → runS false (RunOps P ts false K) r (s.set d (.p (.b (if ng then !b else b)))) acc)
    (h : NilOk s.look (x.ev s) = some R := by simp (disch := omega) only [qS, qe, Nat.reduceAdd, Nat.reduceMul, Nat.reduceEqDiff, Nat.reduceLeDiff, reduceIte, reduceCtorEq, Nat.reduceBEq, Nat.reduceLT] <;> rfl) : RunOps P ts false K (⟨d, .isnil ng, [x], none, af⟩ :: r) s acc :=
  run_isnil h fun b hb => run_ops (hn b hb)
end
def RetB (rs : List RV) (res : LV) (obj obj' : List (Nat × LObj)) (s : St) : Prop := RetA rs res obj obj' s ∨ ∃ k e sz env o, Own k e sz s env o ∧ RetA rs res obj obj' ⟨env, (k, .row e sz [] false) :: o, s.tr, s.stop⟩
def retB (rs : List RV) (res : LV) (obj obj' : List (Nat × LObj)) : APost
  | .normal, s => RetB rs res obj obj' s
  | .ret, s => RetB rs res obj obj' s
  | .exit _, _ => False
theorem rtN (rs : List RV) (res : LV) (obj obj' : List (Nat × LObj)) (s : St) : retB rs res obj obj' .normal s = RetB rs res obj obj' s := rfl
theorem rtR (rs : List RV) (res : LV) (obj obj' : List (Nat × LObj)) (s : St) : retB rs res obj obj' .ret s = RetB rs res obj obj' s := rfl
theorem acts_by {P : Program} {f : FuncId} {c : AC} {rs : List RV} {n : Nat} (h : compF P f = some (c, rs, n)) {args : List LV} {obj obj' : List (Nat × LObj)} {res : LV} (hn : args.length ≤ n)
    (hsa : scPs (oget obj) args) (hso : scObj (oget obj) obj) (hnf : nofz obj) (hso' : scObj (oget obj') obj') (hfol : FolL (oget obj') obj)
    (hrun : ∀ X : Fx, X.N = n → Run ⟨P, X, none, []⟩ c (argStL args obj) (retB rs res obj obj')) : Acts P f args obj res obj' :=
  acts_of h hn hsa hso hnf hso' hfol fun X hX hG code hc C a w hr =>
    wpIn_mono (hrun X hX hG code hc C a w hr) fun e a1 w1 hq => by
      obtain ⟨s1, C1, h1, h2⟩ := hq
      have key : RetB rs res obj obj' s1 → ∃ s2 C2, RelC X C2 s2.get s2.look s2.tr s2.stop a1 w1 ∧ RetA rs res obj obj' s2 := fun h => by
        rcases h with h | ⟨k, e, sz, env, o, ho, h⟩
        · exact ⟨s1, C1, h1, h⟩
        · obtain ⟨C2, h2⟩ := h1.own ho
          exact ⟨⟨env, (k, .row e sz [] false) :: o, s1.tr, s1.stop⟩, C2, h2, h⟩
      cases e with
      | normal => obtain ⟨s2, C2, h3, h4⟩ := key h2; exact ⟨s2, C2, h3, h4⟩
      | ret => obtain ⟨s2, C2, h3, h4⟩ := key h2; exact ⟨s2, C2, h3, h4⟩
      | exit i => exact h2.elim
      | goto l => exact h2.elim
      | panic c => exact h2.elim
      | outgrown => exact h2.elim
theorem RetA.mk1 {t : Nat} {res : LV} {obj obj' : List (Nat × LObj)} {s : St} (h1 : keepO s obj' := by simp (disch := omega) only [qS, qe, keepO.eq_1, keepO.eq_2, keepG.eq_1, keepG.eq_2, gLV.eq_1, gLV.eq_2, gLV.eq_4, LObj.frozen.eq_1, LObj.frozen.eq_2, LObj.frozen.eq_3, GB, Nat.reduceAdd, Nat.reduceMul, Nat.reduceEqDiff, Nat.reduceLeDiff, reduceIte, reduceCtorEq, Nat.reduceBEq, Nat.reduceLT] <;> (repeat' apply And.intro) <;> first | rfl | trivial | omega) (h2 : keepG s obj := by simp (disch := omega) only [qS, qe, keepO.eq_1, keepO.eq_2, keepG.eq_1, keepG.eq_2, gLV.eq_1, gLV.eq_2, gLV.eq_4, LObj.frozen.eq_1, LObj.frozen.eq_2, LObj.frozen.eq_3, GB, Nat.reduceAdd, Nat.reduceMul, Nat.reduceEqDiff, Nat.reduceLeDiff, reduceIte, reduceCtorEq, Nat.reduceBEq, Nat.reduceLT] <;> (repeat' apply And.intro) <;> first | rfl | trivial | omega) (h3 : s.get t = res := by simp (disch := omega) only [qS, qe, keepO.eq_1, keepO.eq_2, keepG.eq_1, keepG.eq_2, gLV.eq_1, gLV.eq_2, gLV.eq_4, LObj.frozen.eq_1, LObj.frozen.eq_2, LObj.frozen.eq_3, GB, Nat.reduceAdd, Nat.reduceMul, Nat.reduceEqDiff, Nat.reduceLeDiff, reduceIte, reduceCtorEq, Nat.reduceBEq, Nat.reduceLT] <;> (repeat' apply And.intro) <;> first | rfl | trivial | omega) (h4 : scP (oget obj') res := by simp (disch := omega) only [qS, qe, keepO.eq_1, keepO.eq_2, keepG.eq_1, keepG.eq_2, gLV.eq_1, gLV.eq_2, gLV.eq_4, LObj.frozen.eq_1, LObj.frozen.eq_2, LObj.frozen.eq_3, GB, Nat.reduceAdd, Nat.reduceMul, Nat.reduceEqDiff, Nat.reduceLeDiff, reduceIte, reduceCtorEq, Nat.reduceBEq, Nat.reduceLT] <;> (repeat' apply And.intro) <;> first | rfl | trivial | omega) : RetA [.tmp t] res obj obj' s :=
  ⟨h1, h2, True, [res], by simp only [resL, h3]; rfl, trivial, .inl ⟨rfl, h4⟩⟩
theorem RetA.mk0 {obj obj' : List (Nat × LObj)} {s : St} (h1 : keepO s obj' := by simp (disch := omega) only [qS, qe, keepO.eq_1, keepO.eq_2, keepG.eq_1, keepG.eq_2, gLV.eq_1, gLV.eq_2, gLV.eq_4, LObj.frozen.eq_1, LObj.frozen.eq_2, LObj.frozen.eq_3, GB, Nat.reduceAdd, Nat.reduceMul, Nat.reduceEqDiff, Nat.reduceLeDiff, reduceIte, reduceCtorEq, Nat.reduceBEq, Nat.reduceLT] <;> (repeat' apply And.intro) <;> first | rfl | trivial | omega) (h2 : keepG s obj := by simp (disch := omega) only [qS, qe, keepO.eq_1, keepO.eq_2, keepG.eq_1, keepG.eq_2, gLV.eq_1, gLV.eq_2, gLV.eq_4, LObj.frozen.eq_1, LObj.frozen.eq_2, LObj.frozen.eq_3, GB, Nat.reduceAdd, Nat.reduceMul, Nat.reduceEqDiff, Nat.reduceLeDiff, reduceIte, reduceCtorEq, Nat.reduceBEq, Nat.reduceLT] <;> (repeat' apply And.intro) <;> first | rfl | trivial | omega) : RetA [] (.p (.tup [])) obj obj' s :=
  ⟨h1, h2, True, [], rfl, trivial, .inr ⟨True, [], [], .tup [], by simp only [toPVs, toPV.go], trivial, .refl _, rfl, fun k h => by cases h⟩⟩
section
variable (m : Nat → Nat)
theorem rno_nil : renO m [] = [] := rfl
theorem rno_cons (k : Nat) (o : LObj) (r : List (Nat × LObj)) : renO m ((k, o) :: r) = (m k, o.ren m) :: renO m r := rfl
theorem lr_p (v : PV) : (LV.p v).ren m = .p v := by rw [LV.ren]
theorem lr_lp (k o : Nat) : (LV.lp k o).ren m = .lp (m k) o := by rw [LV.ren]
theorem lr_row (k n : Nat) : (LV.row k n).ren m = .row (m k) n := by rw [LV.ren]
theorem lr_ep (k n i o : Nat) : (LV.ep k n i o).ren m = .ep (m k) n i o := by rw [LV.ren]
theorem lr_lm (k : Nat) : (LV.lm k).ren m = .lm (m k) := by rw [LV.ren]
theorem lo_row (e : TypeId) (sz : Nat) (xs : List PV) (fz : Bool) : (LObj.row e sz xs fz).ren m = .row e sz xs fz := rfl
theorem lo_mp (es : List (PV × PV)) (fz : Bool) : (LObj.mp es fz).ren m = .mp es fz := rfl
theorem lo_box (cs : List LV) (fz : Bool) : (LObj.box cs fz).ren m = .box (rens m cs) fz := rfl
theorem rs0 : rens m [] = [] := by rw [rens]
theorem rs1 (q : LV) (r : List LV) : rens m (q :: r) = q.ren m :: rens m r := by rw [rens]
end
theorem rn_nil (k : Nat) : rn [] k = k := rfl
theorem rn_cons (a b : Nat) (r : List (Nat × Nat)) (k : Nat) : rn ((a, b) :: r) k = match k == a with | true => b | false => rn r k := rfl
def qN := And.intro (And.intro (And.intro @rno_nil @rno_cons) (And.intro (And.intro @lr_p @lr_lp) (And.intro @lr_row (And.intro @lr_ep @lr_lm)))) (And.intro (And.intro (And.intro @lo_row @lo_mp) (And.intro @lo_box (And.intro @rs0 @rs1))) (And.intro @rn_nil @rn_cons))
end Go.Proofs.YtcfbdeghmckelaaGreat
