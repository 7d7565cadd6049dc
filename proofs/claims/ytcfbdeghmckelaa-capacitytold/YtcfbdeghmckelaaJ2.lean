/- Contracts of functions that the proof uses, shared by the claims of this seat; no statement of its own. Part 3. No conditions. -/
import Derived.Test.YtcfbdeghmckelaaJ1
set_option linter.all false
namespace Go.Proofs.Ytcfbdeghmckelaa
open Go.RowKit
def nilTo (k : Nat) (q q' : LV) : Prop := q' = q ∨ (q = .p .nilsl ∧ q' = .row k 0)
def nilTos (k : Nat) : List LV → List LV → Prop
  | [], [] => True
  | q :: r, q' :: r' => nilTo k q q' ∧ nilTos k r r'
  | _, _ => False
def ownEnv (k : Nat) (s : St) : List (Nat × LV) → Prop
  | [] => True
  | (t, v) :: r => nilTo k (s.get t) v ∧ ownEnv k s r
def ownObj (k : Nat) (s : St) : List (Nat × LObj) → Prop
  | [] => True
  | (j, .box cs fz) :: r => (match s.look j with | some (.box cs0 fz0) => fz = fz0 ∧ nilTos k cs0 cs | _ => False) ∧ ownObj k s r
  | (j, o) :: r => s.look j = some o ∧ ownObj k s r
def Own (k e sz : Nat) (s : St) (env : List (Nat × LV)) (obj : List (Nat × LObj)) : Prop :=
  0 < sz ∧ s.look k = none ∧ ownEnv k s env ∧ ownObj k s obj ∧ scEnv (oget ((k, .row e sz [] false) :: obj)) env ∧ scObj (oget ((k, .row e sz [] false) :: obj)) obj
theorem nilTos_get {k : Nat} : ∀ {l l' : List LV}, nilTos k l l' → l.length = l'.length ∧ ∀ (j : Nat) (q q' : LV), l[j]? = some q → l'[j]? = some q' → nilTo k q q'
  | [], [], _ => ⟨rfl, fun j q q' h => by simp at h⟩
  | [], _ :: _, h => h.elim
  | _ :: _, [], h => h.elim
  | x :: r, x' :: r', h => by
    obtain ⟨h1, h2⟩ := nilTos_get h.2
    refine ⟨by simp [h1], fun j q q' hq hq' => ?_⟩
    cases j with
    | zero => simp at hq hq'; subst hq; subst hq'; exact h.1
    | succ j => exact h2 j q q' (by simpa using hq) (by simpa using hq')
theorem ownEnv_get {k : Nat} {s : St} : ∀ {l : List (Nat × LV)}, ownEnv k s l → ∀ t, nilTo k (s.get t) (aget l t) ∨ aget l t = .any
  | [], _, t => .inr rfl
  | (j, v) :: r, h, t => by
    simp only [aget]
    split
    · rename_i e; subst e; exact .inl h.1
    · exact ownEnv_get h.2 t
theorem ownObj_look {k : Nat} {s : St} : ∀ {l : List (Nat × LObj)}, ownObj k s l → ∀ j o, oget l j = some o → s.look j = some o ∨ ∃ cs0 cs fz, s.look j = some (.box cs0 fz) ∧ o = .box cs fz ∧ nilTos k cs0 cs
  | [], _, j, o, h => by simp [oget] at h
  | (i, u) :: r, h, j, o, ho => by
    simp only [oget] at ho
    split at ho
    · rename_i e; subst e; injection ho with ho; subst ho
      cases u with
      | box cs fz =>
        have h1 := h.1
        split at h1
        · rename_i cs0 fz0 hl
          obtain ⟨rfl, h2⟩ := h1
          exact .inr ⟨cs0, cs, _, hl, rfl, h2⟩
        · exact h1.elim
      | _ => exact .inl h.1
    · refine ownObj_look ?_ j o ho
      cases u <;> exact h.2
theorem RelC.own {X : Fx} {C : Ctx} {a : Act} {w : World} {s : St} {k e sz : Nat} {env : List (Nat × LV)} {obj : List (Nat × LObj)} (h : RelC X C s.get s.look s.tr s.stop a w) (ho : Own k e sz s env obj) :
    ∃ C', RelC X C' (aget env) (oget ((k, .row e sz [] false) :: obj)) s.tr s.stop a w := by
  obtain ⟨h0, hk, he, hob, hse, hso⟩ := ho
  let v : Value := .slice none 0 0
  have h1 := h.lay (C' := { C with cur := upd C.cur k v }) (d := k) (o := .row e sz [] false) hk rfl rfl rfl rfl rfl (fun _ _ => rfl) (fun j hj => upd_ne _ _ hj) ⟨[], by
      show w.ownsRow 0 e sz (upd C.cur k v k) 0 []
      rw [upd_same]; exact World.ownsRow_nil w 0 e sz, .nil, by simp, h0⟩ trivial rfl (fun b hb => by simp [blk, upd_same, v, Value.ownBlock] at hb)
  let look1 := upd s.look k (some (LObj.row e sz [] false))
  have hnil : ∀ (u : Value) (q q' : LV), nilTo k q q' → RepL w { C with cur := upd C.cur k v } look1 u q → RepL w { C with cur := upd C.cur k v } look1 u q' := fun u q q' hq hr => by
    rcases hq with rfl | ⟨rfl, rfl⟩
    · exact hr
    · have := repl_p_inv hr
      cases this
      exact row_lv (upd_same _ _ _)
  let l' := oget ((k, .row e sz [] false) :: obj)
  have was : ∀ j o, l' j = some o → ∃ o1, look1 j = some o1 ∧ (o1 = o ∨ ∃ cs0 cs fz, o1 = .box cs0 fz ∧ o = .box cs fz ∧ nilTos k cs0 cs) := fun j o hj => by
    simp only [l', oget] at hj
    by_cases ej : j = k
    · subst ej; rw [if_pos rfl] at hj; injection hj with hj; subst hj
      exact ⟨_, upd_same _ _ _, .inl rfl⟩
    · rw [if_neg ej] at hj
      rcases ownObj_look hob j o hj with h2 | ⟨cs0, cs, fz, h2, h3, h4⟩
      · exact ⟨o, by rw [show look1 j = s.look j from upd_ne _ _ ej]; exact h2, .inl rfl⟩
      · exact ⟨_, by rw [show look1 j = s.look j from upd_ne _ _ ej]; exact h2, .inr ⟨cs0, cs, fz, rfl, h3, h4⟩⟩
  have rows : ∀ j e2 s2 xs fz, l' j = some (.row e2 s2 xs fz) → look1 j = some (.row e2 s2 xs fz) := fun j e2 s2 xs fz hj => by
    obtain ⟨o1, h2, rfl | ⟨cs0, cs, fz', _, h4, _⟩⟩ := was j _ hj
    · exact h2
    · cases h4
  have re : ∀ u q, RepL w { C with cur := upd C.cur k v } look1 u q → RepL w { C with cur := upd C.cur k v } l' u q := fun u q hq => by
    induction hq with
    | p h => exact .p h
    | g h h2 ih => exact .g ih h2
    | lp => exact .lp
    | row h => exact .row fun e2 s2 xs fz hj => h e2 s2 xs fz (rows _ _ _ _ _ hj)
    | ep h => exact .ep fun e2 s2 xs fz hj => h e2 s2 xs fz (rows _ _ _ _ _ hj)
    | it => exact .it
    | lm => exact .lm
    | fn h1 h2 _ _ ih1 ih2 => exact .fn h1 h2 ih1 ih2
    | agg h1 _ ih => exact .agg h1 ih
    | yield => exact .yield
    | any u => exact .any u
  have same : ∀ j o, l' j = some o → ∃ o1, look1 j = some o1 ∧ (∀ C2 : Ctx, blk C2 j o1 = blk C2 j o) ∧ o1.frozen = o.frozen := fun j o hj => by
    obtain ⟨o1, h2, rfl | ⟨cs0, cs, fz, rfl, rfl, _⟩⟩ := was j o hj
    · exact ⟨_, h2, fun _ => rfl, rfl⟩
    · exact ⟨_, h2, fun _ => rfl, rfl⟩
  refine ⟨{ C with cur := upd C.cur k v }, { h1 with
    env := fun t => re _ _ ?_
    envs := scEnv_get hse
    obj := fun j o hj => ?_
    objs := fun j o hj => ?_
    sep := fun j o b hj hb => ?_
    dis := fun j j' o o' b hne hj hj' hb hb' => ?_
    marks := h1.marks.same fun r _ _ hnb hnd hno => ⟨rfl, hnb, hnd, fun j o hj hb => ?_⟩
    nn := fun j o b hj hb hf => ?_ }⟩
  · rcases ownEnv_get he t with h2 | h2
    · exact hnil _ _ _ h2 (h1.env t)
    · rw [h2]; exact .any _
  · obtain ⟨o1, h2, rfl | ⟨cs0, cs, fz, rfl, rfl, h3⟩⟩ := was j o hj
    · have := h1.obj j _ h2
      cases o1 with
      | box cs fz =>
        obtain ⟨arr, ty, g1, g2, g3⟩ := this
        exact ⟨arr, ty, g1, g2, fun i u q hu hq => re _ _ (g3 i u q hu hq)⟩
      | _ => exact this
    · obtain ⟨arr, ty, g1, g2, g3⟩ := h1.obj j _ h2
      obtain ⟨f1, f2⟩ := nilTos_get h3
      refine ⟨arr, ty, g1, by omega, fun i u q hu hq => re _ _ ?_⟩
      have hi : i < cs0.length := by rw [f1]; exact (List.getElem?_eq_some_iff.1 hq).1
      exact hnil _ _ _ (f2 i _ _ (List.getElem?_eq_getElem hi) hq) (g3 i u _ hu (List.getElem?_eq_getElem hi))
  · simp only [oget] at hj
    by_cases ej : j = k
    · subst ej; rw [if_pos rfl] at hj; injection hj with hj; subst hj; trivial
    · rw [if_neg ej] at hj
      exact scObj_look hso j o hj
  · obtain ⟨o1, h2, h3, h4⟩ := same j o hj
    rw [← h4]
    exact h1.sep j o1 b h2 (by rw [h3]; exact hb)
  · obtain ⟨o1, h2, h3, _⟩ := same j o hj
    obtain ⟨o2, g2, g3, _⟩ := same j' o' hj'
    exact h1.dis j j' o1 o2 b hne h2 g2 (by rw [h3]; exact hb) (by rw [g3]; exact hb')
  · obtain ⟨o1, h2, h3, _⟩ := same j o hj
    exact hno j o1 h2 (by rw [h3]; exact hb)
  · obtain ⟨o1, h2, h3, h4⟩ := same j o hj
    exact h1.nn j o1 b h2 (by rw [h3]; exact hb) (by rw [h4]; exact hf)
theorem run_own {G : Cfg} {c : AC} {s : St} {Q : APost} (k e sz : Nat) (env : List (Nat × LV)) (obj : List (Nat × LObj)) (ho : Own k e sz s env obj) (h : Run G c ⟨env, (k, .row e sz [] false) :: obj, s.tr, s.stop⟩ Q) : Run G c s Q := by
  intro hG code hc C a w hr
  obtain ⟨C', h'⟩ := hr.own ho
  exact h hG code hc C' a w h'
end Go.Proofs.Ytcfbdeghmckelaa
namespace Go.Proofs.Ytcfbdeghmckelaa
open Go.RowKit
def Iter (P : Program) (f : Nat) (caps : List PV) (ts : List (List PV)) : Prop :=
  Callable P f ∧ ∀ (w : World) (B : Nat → Prop) (y : Nat) (vs : List Value) (J : List (List PV) → (Nat → Prop) → (Nat → Prop) → World → Prop) (Jx : List (List PV) → (Nat → Prop) → World → Prop) (D O : Nat → Prop),
    (∀ b, B b → b < w.heap.size) → Reps w B vs caps → (∀ b, D b → b < w.heap.size) → (∀ b, O b → ¬ B b ∧ D b) → JClosed J Jx → YieldsAt P y B w.heap.size J Jx ts → J [] D O w →
    Calls P f (.func (.yield y) #[] #[] :: vs).toArray w fun e w' => (∃ u, e = .returned u) ∧ ((∃ D' O', J ts D' O' w') ∨ ∃ pre D', Jx pre D' w')
def iterSt (caps : List PV) : St := ⟨(0, .yield) :: ((caps.zipIdx 1).map fun x => (x.2, .p x.1)), [], [], false⟩
def iterQ (ts : List (List PV)) : APost
  | .normal, s => s.stop = true ∨ s.tr = ts
  | .ret, s => s.stop = true ∨ s.tr = ts
  | .exit _, _ => False
theorem iter_of_run {P : Program} {f : FuncId} {fn : Func} {body : Code} {c : AC} {caps : List PV} {ts : List (List PV)} (hf : P.funcs[f]? = some fn) (hname : (fn.name == "runtime.NumGoroutine") = false) (hb : fn.body = some body)
    (hc : compile P fn.ntmps body = some c) (hrs : compRes P fn.results.toList = some []) (hn : caps.length + 1 ≤ fn.ntmps) (hgb : fn.ntmps ≤ GB)
    (hrun : wfs caps → ∀ X : Fx, X.N = fn.ntmps → Run ⟨P, X, none, ts⟩ c (iterSt caps) (iterQ ts)) : Iter P f caps ts := by
  refine ⟨⟨fn, body, hf, hname, hb⟩, fun w B y vs J Jx D O hB hvs hD hO hcl hy hJ => callsIn_wide.1 (callsIn_of_wp_marks (F := Fence.wide) (n := 0) hf hb trivial ?_ rfl)⟩
  let X : Fx := { w0 := w, B0 := B, B1 := B, M := fun _ => False, O0 := O, D0 := D, Bo := B, no := w.heap.size, N := fn.ntmps, y := y, J := J, Jx := Jx, gv := fun _ => undef, K := [] }
  have hlen := hvs.1
  have hN : ((.func (.yield y) #[] #[] :: vs).toArray ++ Array.replicate (fn.ntmps - (.func (.yield y) #[] #[] :: vs : List Value).toArray.size) undef).size = fn.ntmps := by simp; omega
  have hget : ∀ t, (iterSt caps).get t = if t = 0 then .yield else match caps[t - 1]? with | some v => .p v | none => .any := fun t => by
    have := aget_args caps 1 t
    simp only [iterSt, St.get, aget]
    by_cases e : t = 0
    · rw [if_pos e, if_pos e]
    · rw [if_neg e, if_neg e, this, if_pos (by omega)]
      try rfl
  have h0 : RelC X { B := B, ρ := fun _ => 0, cur := fun _ => undef, y := y, n := w.heap.size, dep := D, own := O } (iterSt caps).get (iterSt caps).look [] false { tmps := (.func (.yield y) #[] #[] :: vs).toArray ++ Array.replicate (fn.ntmps - (.func (.yield y) #[] #[] :: vs : List Value).toArray.size) undef, defers := [] } w :=
    { kx := KeepX.refl _ _
      yy := rfl
      b0 := fun b h => h
      blt := hB
      bold := fun b h _ => h
      borg := fun b h => .inl h
      no0 := Nat.le_refl _
      tsz := hN
      ngb := hgb
      env := fun t => by
        rw [hget]
        by_cases e : t = 0
        · subst e
          rw [if_pos rfl, valAt_lt (by decide)]
          have : ((.func (.yield y) #[] #[] :: vs).toArray ++ Array.replicate (fn.ntmps - (.func (.yield y) #[] #[] :: vs : List Value).toArray.size) undef).getD 0 undef = .func (.yield y) #[] #[] := by
            rw [Array.getD_eq_getD_getElem?, Array.getElem?_append_left (by simp)]
            simp
          show RepL w _ _ (Array.getD _ 0 undef) _
          rw [this]
          exact .yield
        · rw [if_neg e]
          split
          · rename_i v hv
            obtain ⟨u, hu, hr⟩ := hvs.get hv
            have ht : t - 1 < caps.length := (List.getElem?_eq_some_iff.1 hv).1
            rw [valAt_lt (by show t < GB; have : fn.ntmps ≤ GB := hgb; omega)]
            have : ((.func (.yield y) #[] #[] :: vs).toArray ++ Array.replicate (fn.ntmps - (.func (.yield y) #[] #[] :: vs : List Value).toArray.size) undef).getD t undef = u := by
              rw [Array.getD_eq_getD_getElem?, Array.getElem?_append_left (by simp; omega)]
              rw [List.getElem?_toArray, show t = (t - 1) + 1 by omega, List.getElem?_cons_succ, hu]
              rfl
            show RepL w _ _ (Array.getD _ t undef) _
            rw [this]
            exact .p hr
          · exact .any _
      envs := fun t => by
        rw [hget]
        split
        · exact .yield
        · split
          · exact .p _
          · exact .any
      obj := fun k o hk => by simp [iterSt, St.look, oget] at hk
      objs := fun k o hk => by simp [iterSt, St.look, oget] at hk
      sep := fun k o b hk => by simp [iterSt, St.look, oget] at hk
      dis := fun k k' o o' b _ hk => by simp [iterSt, St.look, oget] at hk
      marks := fun p hp => by cases hp
      nle := Nat.le_refl _
      dn := hD
      nn := fun k o b hk => by simp [iterSt, St.look, oget] at hk
      ow := hO
      oold := fun _ h => .inr h
      dold := fun _ h => .inl h
      jj := .inr ⟨w, hJ, Kept.refl _ _⟩ }
  refine wpIn_mono (hrun hvs.wf X rfl ⟨⟨fun b h => h.elim, fun b h => h.elim⟩, .inr ⟨hy, hcl⟩, fun l h => by cases h⟩ body hc _ _ _ h0) ?_
  rintro e a' w' ⟨s', C', hr', hq⟩
  have key : (s'.stop = true ∨ s'.tr = ts) → LeavesInM Fence.wide 0 P fn a'.tmps (fun e w' => (∃ u, e = .returned u) ∧ ((∃ D' O', J ts D' O' w') ∨ ∃ pre D', Jx pre D' w')) a'.defers .returning w' := fun hq => by
    refine leaves_of (ro := none) a'.defers a' w' rfl hr' fun w2 h2 => ?_
    obtain ⟨us, hrun, hus⟩ := results_of (fn := fn) (rs := []) hrs h2 rfl trivial
    refine ⟨_, hrun, ⟨_, rfl⟩, ?_⟩
    rcases h2.jj with hX | ⟨wy, h3, h4⟩
    · exact .inl ⟨D, O, (hX ts D O w2).1⟩
    · cases hs : s'.stop with
      | true =>
        rw [hs, if_pos rfl] at h3
        exact .inr ⟨_, _, hcl.jx _ _ _ _ h3 h4⟩
      | false =>
        rw [hs, if_neg (by simp)] at h3
        rw [hs] at hq
        have hts := hq.resolve_left (by simp)
        rw [hts] at h3
        exact .inl ⟨_, _, hcl.j _ _ _ _ _ h3 h4⟩
  cases e with
  | normal => exact key hq
  | ret => exact key hq
  | exit id => exact hq.elim
  | goto l => exact hq.elim
  | panic c => exact hq.elim
  | outgrown => exact hq.elim
theorem iter_by {P : Program} {f : FuncId} {c : AC} {n : Nat} (h : compF P f = some (c, [], n)) {caps : List PV} {ts : List (List PV)} (hn : caps.length + 1 ≤ n) (hrun : wfs caps → ∀ X : Fx, X.N = n → Run ⟨P, X, none, ts⟩ c (iterSt caps) (iterQ ts)) : Iter P f caps ts := by
  unfold compF at h
  split at h
  · rename_i fn hf
    split at h
    · cases h
    · rename_i hname
      split at h
      · rename_i b hb
        split at h
        · rename_i c' rs' hc hrs
          split at h
          case isFalse => cases h
          rename_i hgb
          injection h with h; injection h with e1 h; injection h with e2 e3
          subst e1; subst e2; subst e3
          exact iter_of_run hf (by simpa using hname) hb hc hrs hn hgb hrun
        · cases h
      · cases h
  · cases h
end Go.Proofs.Ytcfbdeghmckelaa
namespace Go.Proofs.Ytcfbdeghmckelaa
open Go.RowKit
def mksK (ds : List Deferred) : List (Nat × Obj) := ds.filterMap fun d => match d.target with | .collected r => some (r, .deferred (some [])) | _ => none
def depS (X : Fx) (C : Ctx) (lk : Nat → Option LObj) (b : Nat) : Prop := b < X.w0.heap.size ∨ C.B b ∨ (∃ k o, lk k = some o ∧ blk C k o = some b) ∨ (∃ p ∈ X.K, p.1 = b) ∨ C.dep b
def ownS (l : Nat) (C : Ctx) (lk : Nat → Option LObj) (b : Nat) : Prop := (∃ k o, lk k = some o ∧ o.frozen = false ∧ blk C k o = some b) ∨ b = l ∨ C.own b
section
variable {X : Fx} {C : Ctx} {g : Nat → LV} {lk : Nat → Option LObj} {tr : List (List PV)} {stop : Bool} {a : Act} {w w' : World}
theorem RelC.kept (h : RelC X C g lk tr stop a w) (hd : a.defers = []) (hk : Kept (depS X C lk) w w') : RelC X C g lk tr stop a w' := by
  have hsz := hk.size
  have hB : ∀ b, C.B b → w'.heap[b]? = w.heap[b]? := fun b hb => hk.block b (.inr (.inl hb))
  have hrow : ∀ k e sz xs fz, lk k = some (.row e sz xs fz) → ∃ xs' fz', lk k = some (.row e sz xs' fz') ∧ (xs'.length = xs.length → C.cur k = C.cur k) ∧ xs.length ≤ xs'.length := fun k e sz xs fz hk => ⟨xs, fz, hk, fun _ => rfl, Nat.le_refl _⟩
  have hm := h.marks
  rw [hd] at hm
  exact { h with
    kx := ⟨hk.os.trans h.kx.os, hk.tape.trans h.kx.tape, hk.output.trans h.kx.output, Nat.le_trans h.kx.size hsz, fun b hb hm => (hk.block b (.inl hb)).trans (h.kx.block b hb hm)⟩
    blt := fun b hb => Nat.lt_of_lt_of_le (h.blt b hb) hsz
    env := fun t => (h.env t).same (fun _ h => h) rfl hB (fun _ _ _ => rfl) hrow (h.envs t)
    obj := fun k o hk2 => (h.obj k o hk2).same (fun _ h => h) rfl hB (fun _ _ _ => rfl) hrow hk2 (h.objs k o hk2) rfl (fun b hb => hk.block b (.inr (.inr (.inl ⟨k, o, hk2, hb⟩))))
    sep := fun k o b hk2 hb => by
      obtain ⟨h1, h2, h3, h4⟩ := h.sep k o b hk2 hb
      exact ⟨h1, Nat.lt_of_lt_of_le h2 hsz, h3, h4⟩
    marks := by
      rw [hd]
      exact fun p hp => ⟨(hk.block p.1 (.inr (.inr (.inr (.inl ⟨p, hp, rfl⟩))))).trans (hm p hp).1, (hm p hp).2⟩
    nle := Nat.le_trans h.nle hsz
    jj := h.jj.imp id fun ⟨wy, h1, h2⟩ => ⟨wy, h1, h2.trans (hk.mono fun b hb => .inr (.inr (.inr (.inr hb))))⟩ }
theorem depS_lt (h : RelC X C g lk tr stop a w) : ∀ b, depS X C lk b → b < w.heap.size := fun b hb => by
  rcases hb with hb | hb | ⟨k, o, hk, hb⟩ | ⟨p, hp, rfl⟩ | hb
  · exact Nat.lt_of_lt_of_le hb h.kx.size
  · exact h.blt b hb
  · exact (h.sep k o b hk hb).2.1
  · exact h.marks.lt _ (.inr ⟨p, hp, rfl⟩)
  · exact Nat.lt_of_lt_of_le (h.dn b hb) h.nle
theorem ownS_dep {l : Nat} (h : RelC X C g lk tr stop a w) (hl : ∃ p ∈ X.K, p.1 = l) : ∀ b, ownS l C lk b → ¬ C.B b ∧ depS X C lk b := fun b hb => by
  rcases hb with ⟨k, o, hk, hf, hb⟩ | rfl | hb
  · exact ⟨(h.sep k o b hk hb).2.2.1 hf, .inr (.inr (.inl ⟨k, o, hk, hb⟩))⟩
  · exact ⟨((h.marks.at b (.inr hl)).2).2.1, .inr (.inr (.inr (.inl hl)))⟩
  · exact ⟨(h.ow b hb).1, .inr (.inr (.inr (.inr (h.ow b hb).2)))⟩
theorem mksK_ok : ∀ {ds : List Deferred}, MarksOk w X C lk ds → ∀ p ∈ mksK ds ++ X.K, w.heap[p.1]? = some p.2 ∧ Apart X C lk p.1
  | [], h, p, hp => h p (by simpa [mksK] using hp)
  | d :: ds, h, p, hp => by
    obtain ⟨⟨r, h1, h2, h0, h3, h4, h5⟩, hr⟩ := h
    simp only [mksK, List.filterMap_cons, h1, List.cons_append, List.mem_cons] at hp
    rcases hp with rfl | hp
    · exact ⟨h2, h3⟩
    · exact mksK_ok hr p hp
theorem marks_of_K {w0 w1 : World} {C1 : Ctx} {l1 : Nat → Option LObj} : ∀ {ds : List Deferred}, MarksOk w0 X C lk ds → (∀ p ∈ mksK ds ++ X.K, w1.heap[p.1]? = some p.2 ∧ Apart X C1 l1 p.1) → MarksOk w1 X C1 l1 ds
  | [], h, hk => fun p hp => hk p (by simpa [mksK] using hp)
  | d :: ds, h, hk => by
    obtain ⟨⟨r, h1, h2, h0, h3, h4, h5⟩, hr⟩ := h
    have hk' : ∀ p, p = (r, Obj.deferred (some [])) ∨ p ∈ mksK ds ++ X.K → w1.heap[p.1]? = some p.2 ∧ Apart X C1 l1 p.1 := fun p hp => hk p (by
      simp only [mksK, List.filterMap_cons, h1, List.cons_append, List.mem_cons]; exact hp)
    obtain ⟨k1, k2⟩ := hk' _ (.inl rfl)
    exact ⟨⟨r, h1, k1, h0, k2, h4, h5⟩, marks_of_K hr fun p hp => hk' p (.inr hp)⟩
theorem mksK_mem : ∀ {ds : List Deferred}, MarksOk w X C lk ds → ∀ p ∈ mksK ds ++ X.K, Mk X ds p.1
  | [], _, p, hp => .inr ⟨p, by simpa [mksK] using hp, rfl⟩
  | d :: ds, h, p, hp => by
    obtain ⟨⟨r, h1, _⟩, hr⟩ := h
    simp only [mksK, List.filterMap_cons, h1, List.cons_append, List.mem_cons] at hp
    rcases hp with rfl | hp
    · exact .inl ⟨d, List.mem_cons_self, h1⟩
    · exact (mksK_mem hr p hp).imp (fun ⟨x, hx, he⟩ => ⟨x, List.mem_cons_of_mem _ hx, he⟩) id
def kX (X : Fx) (ds : List Deferred) (l : Nat) (o : Obj) : Fx := { X with K := (l, o) :: (mksK ds ++ X.K) }
theorem RelC.toK (h : RelC X C g lk tr stop a w) {l : Nat} {o : Obj} (hl : w.heap[l]? = some o) (ha : Apart X C lk l) : RelC (kX X a.defers l o) C g lk tr stop { a with defers := [] } w :=
  { kx := h.kx, yy := h.yy, b0 := h.b0, blt := h.blt, bold := h.bold, borg := h.borg, no0 := h.no0, tsz := h.tsz, ngb := h.ngb, env := h.env, envs := h.envs, obj := h.obj, objs := h.objs, sep := h.sep, dis := h.dis, nle := h.nle, dn := h.dn, nn := h.nn, ow := h.ow, oold := h.oold, dold := h.dold, jj := h.jj,
    marks := fun p hp => by
      rcases List.mem_cons.1 hp with rfl | hp
      · exact ⟨hl, ha⟩
      · exact mksK_ok h.marks p hp }
theorem RelC.ofK {ds : List Deferred} {l : Nat} {o : Obj} {tm : Array Value} {w0 : World} {C0 : Ctx} {lk0 : Nat → Option LObj} (h : RelC (kX X ds l o) C g lk tr stop { tmps := tm, defers := [] } w) (hm : MarksOk w0 X C0 lk0 ds) : RelC X C g lk tr stop { tmps := tm, defers := ds } w :=
  { kx := h.kx, yy := h.yy, b0 := h.b0, blt := h.blt, bold := h.bold, borg := h.borg, no0 := h.no0, tsz := h.tsz, ngb := h.ngb, env := h.env, envs := h.envs, obj := h.obj, objs := h.objs, sep := h.sep, dis := h.dis, nle := h.nle, dn := h.dn, nn := h.nn, ow := h.ow, oold := h.oold, dold := h.dold, jj := h.jj,
    marks := marks_of_K hm fun p hp => h.marks p (List.mem_cons_of_mem _ hp) }
theorem MarksOk.k : ∀ {ds : List Deferred}, MarksOk w X C lk ds → KOk w X C lk
  | [], h => h
  | _ :: _, h => MarksOk.k h.2
theorem RelC.setK {l : Nat} {o o' : Obj} {r : List (Nat × Obj)} (h : RelC { X with K := (l, o) :: r } C g lk tr stop a w) (hl : ∀ p ∈ r, p.1 ≠ l) (ho : X.w0.heap.size ≤ l ∨ X.O0 l) :
    RelC { X with K := (l, o') :: r } C g lk tr stop a (w.putObj l o') := by
  have hm := h.marks.k
  obtain ⟨hlw, hla⟩ := hm (l, o) List.mem_cons_self
  have hoth : ∀ b, b ≠ l → (w.putObj l o').heap[b]? = w.heap[b]? := fun b hb => World.putObj_heap_other hb
  have hB : ∀ b, C.B b → (w.putObj l o').heap[b]? = w.heap[b]? := fun b hb => hoth b fun e => hla.2.1 (e ▸ hb)
  have hrow : ∀ k e sz xs fz, lk k = some (.row e sz xs fz) → ∃ xs' fz', lk k = some (.row e sz xs' fz') ∧ (xs'.length = xs.length → C.cur k = C.cur k) ∧ xs.length ≤ xs'.length := fun k e sz xs fz hk => ⟨xs, fz, hk, fun _ => rfl, Nat.le_refl _⟩
  exact {
    kx := ⟨h.kx.os, h.kx.tape, h.kx.output, by simpa using h.kx.size, fun b hb hmm => (hoth b fun e => by
      replace hb : b < X.w0.heap.size := hb
      subst e
      rcases ho with ho | ho
      · omega
      · exact hmm (.inr ho)).trans (h.kx.block b hb hmm)⟩
    yy := h.yy
    b0 := h.b0
    blt := fun b hb => by simpa using h.blt b hb
    bold := h.bold
    borg := h.borg
    no0 := h.no0
    tsz := h.tsz
    ngb := h.ngb
    env := fun t => RepL.same (C := C) (C' := C) (fun _ h => h) rfl hB (fun _ _ _ => rfl) hrow (h.envs t) (h.env t)
    envs := h.envs
    obj := fun k ob hk => ObjRel.same (C := C) (C' := C) (fun _ h => h) rfl hB (fun _ _ _ => rfl) hrow hk (h.objs k ob hk) rfl (fun b hb => hoth b fun e => hla.2.2.2 k ob hk (e ▸ hb)) (h.obj k ob hk)
    objs := h.objs
    sep := fun k ob b hk hb => by simpa using h.sep k ob b hk hb
    dis := h.dis
    marks := by
      have hmm := h.marks
      revert hmm
      generalize a.defers = ds
      intro hmm
      induction ds with
      | nil =>
        intro p hp
        rcases List.mem_cons.1 hp with rfl | hp
        · exact ⟨World.putObj_heap_same (Mk.lt_of hlw), hla⟩
        · obtain ⟨h1, h2⟩ := hm p (List.mem_cons_of_mem _ hp)
          exact ⟨(hoth _ (hl p hp)).trans h1, h2⟩
      | cons d ds ih =>
        obtain ⟨⟨r', g1, g2, g0, g3, g4, g5⟩, gr⟩ := hmm
        exact ⟨⟨r', g1, (hoth r' fun e => g5 (l, o) List.mem_cons_self e.symm).trans g2, g0, g3, g4, fun p hp => by
          rcases List.mem_cons.1 hp with rfl | hp
          · exact g5 (l, o) List.mem_cons_self
          · exact g5 p (List.mem_cons_of_mem _ hp)⟩, ih gr⟩
    nle := by simpa using h.nle
    dn := h.dn
    nn := h.nn
    ow := h.ow
    oold := h.oold
    dold := h.dold
    jj := h.jj.imp id fun ⟨wy, j1, j2⟩ => ⟨wy, j1, j2.trans ⟨rfl, rfl, rfl, by simp, fun b hb => hoth b fun e => hla.2.2.1 (e ▸ hb)⟩⟩ }
def lowE (env : List (Nat × LV)) : List (Nat × LV) := env.filter fun x => decide (x.1 < GB)
def ghosts (env : List (Nat × LV)) : List (Nat × LV) := env.map fun x => (x.1 + GB, x.2)
theorem aget_ghosts : ∀ (env : List (Nat × LV)) (t : Nat), aget (ghosts env) t = if t < GB then .any else aget env (t - GB)
  | [], t => by simp [ghosts, aget]
  | (k, v) :: r, t => by
    have ih := aget_ghosts r t
    simp only [ghosts, List.map_cons, aget] at ih ⊢
    rw [ih]
    by_cases e : t < GB
    · rw [if_pos e, if_pos e, if_neg (by omega)]
    · rw [if_neg e, if_neg e]
      by_cases e2 : t = k + GB
      · rw [if_pos e2, if_pos (by omega)]
      · rw [if_neg e2, if_neg (by omega)]
theorem aget_low : ∀ (env : List (Nat × LV)) (t : Nat), aget (lowE env) t = if t < GB then aget env t else .any
  | [], t => by simp [lowE, aget]
  | (k, v) :: r, t => by
    have ih := aget_low r t
    simp only [lowE, List.filter_cons, aget] at ih ⊢
    by_cases hk : k < GB
    · rw [decide_eq_true hk, if_pos rfl]
      simp only [aget]
      by_cases e : t = k
      · subst e; rw [if_pos rfl, if_pos hk, if_pos rfl]
      · rw [if_neg e, if_neg e]; exact ih
    · rw [decide_eq_false hk]
      simp only [Bool.false_eq_true, if_false]
      rw [ih]
      by_cases e : t < GB
      · rw [if_pos e, if_pos e, if_neg (by omega)]
      · rw [if_neg e, if_neg e]
theorem aget_app_hi : ∀ (l r : List (Nat × LV)) (t : Nat), (∀ x ∈ l, x.1 < GB) → ¬ t < GB → aget (l ++ r) t = aget r t
  | [], r, t, _, _ => rfl
  | (k, v) :: l, r, t, h, ht => by
    have := h (k, v) List.mem_cons_self
    simp only [List.cons_append, aget]
    rw [if_neg (by simp only at this; omega)]
    exact aget_app_hi l r t (fun x hx => h x (List.mem_cons_of_mem _ hx)) ht
theorem aget_app_lo : ∀ (l r : List (Nat × LV)) (t : Nat), (∀ x ∈ r, ¬ x.1 < GB) → t < GB → aget (l ++ r) t = aget l t
  | [], r, t, h, ht => by
    show aget r t = .any
    induction r with
    | nil => rfl
    | cons x r ih =>
      obtain ⟨k, v⟩ := x
      have := h (k, v) List.mem_cons_self
      simp only [aget]
      rw [if_neg (by simp only at this; omega)]
      exact ih fun x hx => h x (List.mem_cons_of_mem _ hx)
  | (k, v) :: l, r, t, h, ht => by
    simp only [List.cons_append, aget]
    split
    · rfl
    · exact aget_app_lo l r t h ht
theorem aget_round (env : List (Nat × LV)) (t : Nat) : aget (lowE env ++ ghosts env) t = if t < GB then aget env t else aget env (t - GB) := by
  by_cases e : t < GB
  · rw [if_pos e, aget_app_lo _ _ _ (fun x hx => ?_) e, aget_low, if_pos e]
    obtain ⟨y, _, rfl⟩ := List.mem_map.1 hx
    simp
  · rw [if_neg e, aget_app_hi _ _ _ (fun x hx => ?_) e, aget_ghosts, if_neg e]
    have := List.mem_filter.1 hx
    simpa using this.2
def rX (X : Fx) (a : Act) (C : Ctx) (lk : Nat → Option LObj) (Bi : Nat → Prop) (l : Nat) (W : World) : Fx :=
  { X with
    w0 := W
    B0 := fun b => C.B b ∨ Bi b
    B1 := fun b => (C.B b ∨ Bi b) ∨ ∃ k o, lk k = some o ∧ o.frozen = false ∧ blk C k o = some b
    M := fun b => ∃ k o, lk k = some o ∧ o.frozen = false ∧ blk C k o = some b
    O0 := fun b => C.own b ∨ b = l
    D0 := C.dep
    gv := fun t => valAt X a (t - GB) }
theorem valAt_round (X : Fx) (a a' : Act) (C : Ctx) (lk : Nat → Option LObj) (Bi : Nat → Prop) (l : Nat) (W : World) (t : Nat) : valAt (rX X a C lk Bi l W) a' (t + GB) = valAt X a t := by
  unfold valAt
  rw [if_neg (by omega)]
  simp only [rX, valAt, Nat.add_sub_cancel]
theorem valAt_roundK (X : Fx) (a a' : Act) (C : Ctx) (lk : Nat → Option LObj) (Bi : Nat → Prop) (l : Nat) (W : World) (r : List (Nat × Obj)) (t : Nat) : valAt { rX X a C lk Bi l W with K := r } a' (t + GB) = valAt X a t := by
  unfold valAt
  rw [if_neg (by omega)]
  simp only [rX, valAt, Nat.add_sub_cancel]
theorem rX_mokK {Bi : Nat → Prop} {l : Nat} {r : List (Nat × Obj)} (hM : X.MOk) (h : RelC X C g lk tr stop a w) : Fx.MOk { rX X a C lk Bi l w with K := r } :=
  ⟨fun b hb => .inr hb, fun b ⟨k, o, hk, hf, hb⟩ => ((h.sep k o b hk hb).1 hf).elim (fun e => .inr (Nat.le_trans h.no0 e)) (hM.m2 b)⟩
theorem round_ok {P : Program} {ts : List (List PV)} {Bi : Nat → Prop} {l : Nat} {r : Loop} {rest : List (Nat × Obj)} (hy : ts = [] ∨ (YieldsAt P X.y X.Bo X.no X.J X.Jx ts ∧ JClosed X.J X.Jx)) (hM : X.MOk) (h : RelC X C g lk tr stop a w) :
    Cfg.Ok ⟨P, { rX X a C lk Bi l w with K := (l, .loop r) :: rest }, some l, ts⟩ where
  mok := rX_mokK hM h
  yok := by unfold YieldsOk; exact hy
  lok := fun l' hl' => by injection hl' with hl'; subst hl'; exact ⟨r, List.mem_cons_self⟩
theorem RelC.enter {env : List (Nat × LV)} {l : Nat} {o : Obj} {r : List (Nat × Obj)} {Bi : Nat → Prop} (hK : X.K = (l, o) :: r) (h : RelC X C (aget env) lk tr stop a w) (hd : a.defers = []) (hBi : ∀ b, Bi b → b < w.heap.size ∧ ¬ ownS l C lk b ∧ (X.Bo b ∨ X.no ≤ b)) (hBk : ∀ p ∈ X.K, ¬ Bi p.1) :
    RelC (rX X a C lk Bi l w) { C with B := fun b => C.B b ∨ Bi b } (aget (lowE env ++ ghosts env)) lk tr stop a w := by
  have hBe : ∀ b, C.B b → (fun b => C.B b ∨ Bi b) b := fun b hb => .inl hb
  have hrow : ∀ k e sz xs fz, lk k = some (.row e sz xs fz) → ∃ xs' fz', lk k = some (.row e sz xs' fz') ∧ (xs'.length = xs.length → C.cur k = C.cur k) ∧ xs.length ≤ xs'.length := fun k e sz xs fz hk => ⟨xs, fz, hk, fun _ => rfl, Nat.le_refl _⟩
  have hblk : ∀ k o, blk { C with B := fun b => C.B b ∨ Bi b } k o = blk C k o := fun k o => by cases o <;> rfl
  have hm := h.marks
  rw [hd] at hm
  exact {
    kx := KeepX.refl _ _
    yy := h.yy
    b0 := fun b hb => hb
    blt := fun b hb => hb.elim (h.blt b) fun e => (hBi b e).1
    bold := fun b hb _ => .inl hb
    borg := fun b hb => hb.elim (h.borg b) fun e => (hBi b e).2.2
    no0 := Nat.le_trans h.no0 h.kx.size
    tsz := h.tsz
    ngb := h.ngb
    env := fun t => by
      rw [aget_round]
      by_cases e : t < GB
      · rw [if_pos e, valAt_lt e]
        have := h.env t
        rw [valAt_lt e] at this
        exact RepL.same (C := C) (C' := { C with B := fun b => C.B b ∨ Bi b }) hBe rfl (fun _ _ => rfl) (fun _ _ _ => rfl) hrow (h.envs t) this
      · rw [if_neg e]
        have h1 := valAt_round X a a C lk Bi l w (t - GB)
        rw [show t - GB + GB = t by omega] at h1
        rw [h1]
        exact RepL.same (C := C) (C' := { C with B := fun b => C.B b ∨ Bi b }) hBe rfl (fun _ _ => rfl) (fun _ _ _ => rfl) hrow (h.envs _) (h.env _)
    envs := fun t => by
      rw [aget_round]
      split
      · exact h.envs t
      · exact h.envs _
    obj := fun k ob hk => ObjRel.same (C := C) (C' := { C with B := fun b => C.B b ∨ Bi b }) hBe rfl (fun _ _ => rfl) (fun _ _ _ => rfl) hrow hk (h.objs k ob hk) rfl (fun _ _ => rfl) (h.obj k ob hk)
    objs := h.objs
    sep := fun k ob b hk hb => by
      rw [hblk] at hb
      obtain ⟨h1, h2, h3, h4⟩ := h.sep k ob b hk hb
      exact ⟨fun hf => .inr ⟨k, ob, hk, hf, hb⟩, h2, fun hf hbb => hbb.elim (h3 hf) fun e => (hBi b e).2.1 (.inl ⟨k, ob, hk, hf, hb⟩), fun hf => .inl (h4 hf)⟩
    dis := fun k k' ob ob' b hne hk hk' hb hb' => h.dis k k' ob ob' b hne hk hk' (by rw [hblk] at hb; exact hb) (by rw [hblk] at hb'; exact hb')
    marks := by
      rw [hd]
      intro p hp
      obtain ⟨h1, h2, h3, h4, h5⟩ := hm p hp
      exact ⟨h1, h2, fun hbb => hbb.elim h3 (hBk p hp), h4, fun k ob hk => by rw [hblk]; exact h5 k ob hk⟩
    nle := h.nle
    dn := h.dn
    nn := fun k ob b hk hb hf => h.nn k ob b hk (by rw [hblk] at hb; exact hb) hf
    ow := fun b hb => ⟨fun hbb => hbb.elim (h.ow b hb).1 fun e => (hBi b e).2.1 (.inr (.inr hb)), (h.ow b hb).2⟩
    oold := fun b hb => .inr (.inl hb)
    dold := fun b hb => .inl hb
    jj := h.jj }
theorem RelC.leave {env : List (Nat × LV)} {l : Nat} {o o' : Obj} {r : List (Nat × Obj)} {Bi : Nat → Prop} {C3 : Ctx} {lk3 : Nat → Option LObj} {tr3 : List (List PV)} {stop3 : Bool} {a3 : Act} {W3 : World} (hM : X.MOk) (hK : X.K = (l, o) :: r) (h : RelC X C (aget env) lk tr stop a w) (hd : a.defers = [])
    (hl : X.w0.heap.size ≤ l) (hBi : ∀ b, Bi b → b < X.w0.heap.size → X.B1 b)
    (h3 : RelC { rX X a C lk Bi l w with K := (l, o') :: r } C3 (aget (ghosts env)) lk3 tr3 stop3 a3 W3) :
    RelC { X with K := (l, o') :: r } C3 (aget env) lk3 tr3 stop3 a W3 ∧ Rnd (depS X C lk) (ownS l C lk) Bi (depS { X with K := (l, o') :: r } C3 lk3) (ownS l C3 lk3) w W3 ∧ (∀ b, C.B b → C3.B b) := by
  have hsz : X.w0.heap.size ≤ w.heap.size := h.kx.size
  have hKe : ∀ b, (∃ p ∈ (l, o') :: r, p.1 = b) ↔ ∃ p ∈ X.K, p.1 = b := fun b => by rw [hK]; simp
  have hM2 : ∀ b, (∃ k ob, lk k = some ob ∧ ob.frozen = false ∧ blk C k ob = some b) → X.w0.heap.size ≤ b ∨ X.M b := fun b ⟨k, ob, hk, hf, hb⟩ => (h.sep k ob b hk hb).1 hf
  have hB1 : ∀ b, C3.B b → b < w.heap.size → C.B b ∨ Bi b ∨ ∃ k ob, lk k = some ob ∧ ob.frozen = false ∧ blk C k ob = some b := fun b hb hlt => by
    rcases h3.bold b hb hlt with (e | e) | e
    · exact .inl e
    · exact .inr (.inl e)
    · exact .inr (.inr e)
  have hsep3 : ∀ k ob b, lk3 k = some ob → blk C3 k ob = some b → ob.frozen = false → w.heap.size ≤ b ∨ ∃ k ob, lk k = some ob ∧ ob.frozen = false ∧ blk C k ob = some b := fun k ob b hk hb hf => (h3.sep k ob b hk hb).1 hf
  have hm3 := h3.marks.k
  refine ⟨{
    kx := ⟨h3.kx.os.trans h.kx.os, h3.kx.tape.trans h.kx.tape, h3.kx.output.trans h.kx.output, Nat.le_trans hsz h3.kx.size, fun b hb hmm => (h3.kx.block b (Nat.lt_of_lt_of_le hb hsz) fun e => by
      replace hb : b < X.w0.heap.size := hb
      rcases e with e | e | e
      · rcases hM2 b e with e | e
        · omega
        · exact hmm (.inl e)
      · rcases h.oold b e with e | e
        · omega
        · exact hmm (.inr e)
      · omega).trans (h.kx.block b hb hmm)⟩
    yy := h3.yy
    b0 := fun b hb => h3.b0 b (.inl (h.b0 b hb))
    blt := h3.blt
    bold := fun b hb hlt => by
      rcases hB1 b hb (by show b < _; have : b < X.w0.heap.size := hlt; omega) with e | e | e
      · exact h.bold b e hlt
      · exact hBi b e hlt
      · rcases hM2 b e with e | e
        · have : b < X.w0.heap.size := hlt; omega
        · exact hM.m1 b e
    borg := h3.borg
    no0 := h.no0
    tsz := h.tsz
    ngb := h.ngb
    env := fun t => by
      have := h3.env (t + GB)
      rw [valAt_roundK, aget_ghosts, if_neg (by omega), Nat.add_sub_cancel] at this
      exact this
    envs := fun t => by
      have := h3.envs (t + GB)
      rw [aget_ghosts, if_neg (by omega), Nat.add_sub_cancel] at this
      exact this
    obj := h3.obj
    objs := h3.objs
    sep := fun k ob b hk hb => by
      obtain ⟨h1, h2, g3, g4⟩ := h3.sep k ob b hk hb
      exact ⟨fun hf => (h1 hf).elim (fun e => .inl (Nat.le_trans hsz e)) (hM2 b), h2, g3, g4⟩
    dis := h3.dis
    marks := by rw [hd]; exact hm3
    nle := h3.nle
    dn := h3.dn
    nn := h3.nn
    ow := h3.ow
    oold := fun b hb => (h3.oold b hb).elim (fun e => .inl (Nat.le_trans hsz e)) fun e => e.elim (h.oold b) fun e => .inl (by subst e; exact hl)
    dold := fun b hb => (h3.dold b hb).elim (fun e => (h.dold b e).imp id (Or.imp id fun e => h3.b0 b (.inl e))) fun e => e.elim (fun e => .inr (.inl (Nat.le_trans hsz e))) fun e => .inr (.inr e)
    jj := h3.jj }, ⟨h3.kx.mono fun b _ e => ?_, fun b hb => ?_, fun b hb => ?_, fun b hb => ?_, fun b hb => ?_⟩, fun b hb => h3.b0 b (.inl hb)⟩
  · rcases e with e | e | e
    · exact .inl e
    · exact .inr (.inr e)
    · exact .inr (.inl e)
  · have hobj : ∀ b, C3.B b → depS X C lk b ∨ w.heap.size ≤ b ∨ Bi b := fun b hb => by
      by_cases hlt : b < w.heap.size
      · rcases hB1 b hb hlt with e | e | ⟨k, ob, h1, h2, h4⟩
        · exact .inl (.inr (.inl e))
        · exact .inr (.inr e)
        · exact .inl (.inr (.inr (.inl ⟨k, ob, h1, h4⟩)))
      · exact .inr (.inl (by omega))
    rcases hb with hb | hb | ⟨k, ob, hk, hb⟩ | hb | hb
    · exact .inl (.inl hb)
    · exact hobj b hb
    · cases hf : ob.frozen with
      | true => exact hobj b ((h3.sep k ob b hk hb).2.2.2 hf)
      | false =>
        rcases hsep3 k ob b hk hb hf with e | ⟨k, ob, h1, h2, h4⟩
        · exact .inr (.inl e)
        · exact .inl (.inr (.inr (.inl ⟨k, ob, h1, h4⟩)))
    · exact .inl (.inr (.inr (.inr (.inl ((hKe b).1 hb)))))
    · rcases h3.dold b hb with e | e | e
      · exact .inl (.inr (.inr (.inr (.inr e))))
      · exact .inr (.inl e)
      · exact hobj b e
  · rcases hb with hb | hb | ⟨k, ob, hk, hb⟩ | ⟨p, hp, rfl⟩ | hb
    · exact Nat.lt_of_lt_of_le (Nat.lt_of_lt_of_le hb hsz) h3.kx.size
    · exact h3.blt b hb
    · exact (h3.sep k ob b hk hb).2.1
    · exact Mk.lt_of (hm3 p hp).1
    · exact Nat.lt_of_lt_of_le (h3.dn b hb) h3.nle
  · rcases hb with ⟨k, ob, hk, hf, hb⟩ | rfl | hb
    · exact (hsep3 k ob b hk hb hf).elim .inr fun e => .inl (.inl e)
    · exact .inl (.inr (.inl rfl))
    · exact (h3.oold b hb).elim .inr fun e => e.elim (fun e => .inl (.inr (.inr e))) fun e => .inl (.inr (.inl e))
  · rcases hb with ⟨k, ob, hk, hf, hb⟩ | rfl | hb
    · exact .inr (.inr (.inl ⟨k, ob, hk, hb⟩))
    · exact .inr (.inr (.inr (.inl ⟨_, List.mem_cons_self, rfl⟩)))
    · exact .inr (.inr (.inr (.inr (h3.ow b hb).2)))
end
end Go.Proofs.Ytcfbdeghmckelaa
namespace Go.Proofs.Ytcfbdeghmckelaa
open Go.RowKit
def parEnv : List Nat → List PV → List (Nat × LV) → List (Nat × LV)
  | p :: ps, v :: vs, env => parEnv ps vs ((p, .p v) :: env)
  | _, _, env => env
section
variable {X : Fx} {C : Ctx} {g : Nat → LV} {lk : Nat → Option LObj} {tr : List (List PV)} {stop : Bool} {a : Act} {w w' : World} {P : Program}
theorem RelC.puts {ds : List Deferred} : ∀ (ps : List Nat) (vs : List Value) (t : List PV) (env : List (Nat × LV)) (tm : Array Value), RelC X C (aget env) lk tr stop { tmps := tm, defers := ds } w → Reps w C.B vs t → ps.length = t.length → (∀ p ∈ ps, p < X.N) →
    RelC X C (aget (parEnv ps t env)) lk tr stop { tmps := (ps.zip vs).foldl (fun tm x => tm.setIfInBounds x.1 x.2) tm, defers := ds } w
  | [], vs, t, env, tm, h, hv, hl, hp => by simpa [parEnv] using h
  | p :: ps, vs, [], env, tm, h, hv, hl, hp => by simp at hl
  | p :: ps, vs, v :: t, env, tm, h, hv, hl, hp => by
    obtain ⟨u, us, rfl, h1, h2⟩ := hv.cons_inv
    have h3 := h.put (d := p) (v := u) (q := .p v) (hp p List.mem_cons_self) (.p h1) (.p v)
    rw [← aget_cons] at h3
    exact RelC.puts ps us t _ _ h3 h2 (by simpa using hl) fun q hq => hp q (List.mem_cons_of_mem _ hq)
theorem enter_loop {ro : Option Nat} (h : RelC X C g lk tr stop a w) (hlok : ∀ l, ro = some l → ∃ r, (l, Obj.loop r) ∈ X.K) (fn : FuncId) (ps : Array Tmp) (asg body : Code) :
    ∃ (l : Nat) (mark : List Deferred) (W1 : World) (db : Nat), (Instr.enterLoop fn a.tmps ps asg body ro).run P w = .ok (l, mark) W1 ∧
      W1.heap[l]? = some (.loop { state := .ready, pending := none, fn, tmps := a.tmps, params := ps, assign := asg, body, defers := db }) ∧ RelC X C g lk tr stop { a with defers := mark ++ a.defers } W1 ∧ Apart X C lk l ∧ w.heap.size ≤ l ∧ (∀ p ∈ mksK (mark ++ a.defers) ++ X.K, p.1 ≠ l) ∧ Below w.heap.size w W1 := by
  have hapart : ∀ r, w.heap.size ≤ r → Apart X C lk r := fun r hr => ⟨by have := h.no0; have := h.kx.size; omega, fun hb => by have := h.blt r hb; omega, fun hd => by have := h.dn r hd; have := h.nle; omega, fun k o hk hb => by have := (h.sep k o r hk hb).2.1; omega⟩
  cases ro with
  | none =>
    have hb : Below w.heap.size w ((w.alloc (.deferred (some []))).alloc (.loop { state := .ready, pending := none, fn, tmps := a.tmps, params := ps, assign := asg, body, defers := w.heap.size })) :=
      ((Below.refl _ w).alloc (Nat.le_refl _) _).alloc (by simp) _
    have h1 := h.grow hb C.B (fun _ h => h) (fun b hb => .inl hb)
    have hD : ((w.alloc (.deferred (some []))).alloc (.loop { state := .ready, pending := none, fn, tmps := a.tmps, params := ps, assign := asg, body, defers := w.heap.size })).heap[w.heap.size]? = some (.deferred (some [])) :=
      (Below.heap_alloc _ _ _ (by simp)).trans (World.alloc_heap_new w _)
    refine ⟨w.heap.size + 1, [{ target := .collected w.heap.size, args := #[] }], _, w.heap.size, run_enterLoop_outer _ _ _ _ _, ?_, { h1 with marks := ⟨⟨w.heap.size, rfl, hD, h.kx.size, hapart _ (Nat.le_refl _), fun d hd he => ?_, fun p hp he => ?_⟩, h1.marks⟩ }, hapart _ (by omega), by omega, fun p hp he => ?_, hb⟩
    · have := World.alloc_heap_new (w.alloc (.deferred (some []))) (.loop { state := .ready, pending := none, fn, tmps := a.tmps, params := ps, assign := asg, body, defers := w.heap.size })
      rwa [World.size_alloc] at this
    · have := h.marks.lt _ (.inl ⟨d, hd, he⟩); omega
    · have := h.marks.lt p.1 (.inr ⟨p, hp, rfl⟩); omega
    · have : p ∈ (w.heap.size, Obj.deferred (some [])) :: (mksK a.defers ++ X.K) := by
        simpa [mksK] using hp
      rcases List.mem_cons.1 this with rfl | hp
      · simp only at he; omega
      · have := h.marks.lt _ (mksK_mem h.marks p hp); omega
  | some l0 =>
    obtain ⟨r0, hr0⟩ := hlok l0 rfl
    have hl0 := (mksK_ok h.marks _ (List.mem_append_right _ hr0)).1
    have hb : Below w.heap.size w (w.alloc (.loop { state := .ready, pending := none, fn, tmps := a.tmps, params := ps, assign := asg, body, defers := r0.defers })) := (Below.refl _ w).alloc (Nat.le_refl _) _
    have h1 := h.grow hb C.B (fun _ h => h) (fun b hb => .inl hb)
    refine ⟨w.heap.size, [], _, r0.defers, run_enterLoop_inner hl0 _ _ _ _ _, World.alloc_heap_new w _, { h1 with marks := h1.marks }, hapart _ (Nat.le_refl _), Nat.le_refl _, fun p hp he => ?_, hb⟩
    have := h.marks.lt _ (mksK_mem h.marks p hp); omega
attribute [local irreducible] valAt GB
def asgK (K : St → Prop) : APost
  | .normal, s => K s
  | _, _ => False
def roundI (env : List (Nat × LV)) (nx : St) (okn : Prop) (Q : APost) : APost
  | .normal, s => Cov s nx ∧ okn
  | .exit id, s => Cov s ⟨ghosts env, s.obj, s.tr, s.stop⟩ ∧ Q (.exit id) ⟨env, s.obj, s.tr, s.stop⟩
  | .ret, s => Cov s ⟨ghosts env, s.obj, s.tr, s.stop⟩ ∧ Q .ret ⟨env, s.obj, s.tr, s.stop⟩
def roundK (env : List (Nat × LV)) (nx : St) (Q : APost) : APost := roundI env nx True Q
theorem run_rfuncI {X : Fx} {ro : Option Nat} {ts0 : List (List PV)} {s : St} {Q : APost} {fop : AOpd} {params : List Nat} {asg body : AC} {gf : Nat} {caps : List PV} {ts : List (List PV)} (hf : fop.ev s = .p (.fn (.func gf) [] caps)) (hit : Iter P gf caps ts)
    (hlen : ∀ t ∈ ts, t.length = params.length) (hpar : ∀ p ∈ params, p < X.N) (env : List (Nat × LV)) (obj : Nat → List (Nat × LObj)) (T : Nat → List (List PV)) (ok : Nat → Prop) (h0 : Cov s ⟨env, obj 0, T 0, false⟩) (hok0 : ok 0)
    (hround : ∀ (k : Nat) (t : List PV), ts[k]? = some t → ok k → ∀ (X' : Fx) (ro' : Option Nat), X'.N = X.N → Run ⟨P, X', ro', ts0⟩ asg ⟨parEnv params t (lowE env ++ ghosts env), obj k, T k, false⟩
      (asgK fun s1 => ∀ (X' : Fx), X'.N = X.N → Run ⟨P, X', ro', ts0⟩ body s1 (roundI env ⟨ghosts env, obj (k + 1), T (k + 1), false⟩ (ok (k + 1)) Q)))
    (hend : ok ts.length → Q .normal ⟨env, obj ts.length, T ts.length, false⟩) : Run ⟨P, X, ro, ts0⟩ (.rfunc fop params asg body) s Q := by
  intro hG code hc C a w hr
  cases code <;> simp only [compile, Option.map_eq_some_iff] at hc
  case rangeFunc f0 ps asg0 body0 =>
    split at hc
    case h_2 => cases hc
    rename_i f' x' y' hf0 h1 h2
    injection hc with hc; injection hc with e0 e1 e2 e3; subst e0; subst e1; subst e2; subst e3
    have hv := (aopd_eval hr rfl hf0).1
    rw [hf] at hv
    obtain ⟨fs, cs, hfe, hfs, hcs⟩ := rep_fn (repl_p_inv hv)
    have hfs0 : fs = #[] := by simpa using hfs.nil_inv
    subst hfs0
    have hr0 : RelC X C (aget env) (oget (obj 0)) (T 0) false a w := cov_rel h0 hr
    refine wpIn_rangeFunc (F := wideR ro) (n := 0) ?_
    intro fn hfn
    obtain ⟨l, mark, W1, db, henter, hl, R1, hap, hlw, hKl, hbel⟩ := enter_loop (P := P) hr0 hG.lok fn ps asg0 body0
    obtain ⟨rec, hrec⟩ : ∃ rec : LoopState → Option Code → Loop, rec = fun st pe => { state := st, pending := pe, fn, tmps := a.tmps, params := ps, assign := asg0, body := body0, defers := db } := ⟨_, rfl⟩
    obtain ⟨ds, hds⟩ : ∃ ds, ds = mark ++ a.defers := ⟨_, rfl⟩
    rw [← hds] at R1 hKl
    have hl1 : W1.heap[l]? = some (.loop (rec .ready none)) := by rw [hrec]; exact hl
    have hpend : ∀ st pe, (rec st pe).pending = pe := fun st pe => by rw [hrec]
    have hbusy : ∀ (jump : Option Code), ({ ({ rec .ready none with state := .busy } : Loop) with state := if jump.isNone then .ready else .done, pending := jump } : Loop) = rec (if jump.isNone then .ready else .done) jump := fun jump => by rw [hrec]
    let XK : Obj → Fx := fun o => kX X ds l o
    let a1 : Act := { tmps := a.tmps, defers := [] }
    have R1K : RelC (XK (.loop (rec .ready none))) C (aget env) (oget (obj 0)) (T 0) false a1 W1 := R1.toK hl1 hap
    have hlX : X.w0.heap.size ≤ l := Nat.le_trans hr0.kx.size hlw
    have hMK : ∀ o, (XK o).MOk := fun o => ⟨hG.mok.m1, hG.mok.m2⟩
    let J : List (List PV) → (Nat → Prop) → (Nat → Prop) → World → Prop := fun pre D O W => ∃ k C', pre = ts.take k ∧ (k ≤ ts.length ∧ ok k) ∧ RelC (XK (.loop (rec .ready none))) C' (aget env) (oget (obj k)) (T k) false a1 W ∧ D = depS (XK (.loop (rec .ready none))) C' (oget (obj k)) ∧ O = ownS l C' (oget (obj k)) ∧ (∀ b, C.B b → C'.B b)
    let Jx : List (List PV) → (Nat → Prop) → World → Prop := fun pre D W => ∃ (c : Code) (C' : Ctx) (s' : St), RelC (XK (.loop (rec .done (some c)))) C' (aget env) s'.look s'.tr s'.stop a1 W ∧ D = depS (XK (.loop (rec .done (some c)))) C' s'.look ∧
      ((c = .ret ∧ Q .ret ⟨env, s'.obj, s'.tr, s'.stop⟩) ∨ ∃ id, c = .exit id ∧ Q (.exit id) ⟨env, s'.obj, s'.tr, s'.stop⟩)
    have hcl : JClosed J Jx := ⟨fun t D O w w' ⟨k, C', g1, g2, g3, g4, g5, g6⟩ hk => ⟨k, C', g1, g2, g3.kept rfl (by rw [← g4]; exact hk), g4, g5, g6⟩,
      fun t D w w' ⟨c, C', s', g1, g2, g3⟩ hk => ⟨c, C', s', g1.kept rfl (by rw [← g2]; exact hk), g2, g3⟩⟩
    have hK1 : ∀ b, (∃ p ∈ (XK (.loop (rec .ready none))).K, p.1 = b) → b < W1.heap.size ∧ ¬ C.B b := fun b hb => by
      have := R1K.marks.at b (.inr hb)
      exact ⟨this.1, this.2.2.1⟩
    have hres : (resolve a.eval (rangeCall f0 l) 0).run P W1 = .ok { target := .fn (.func gf) cs, args := #[.func (.yield l) #[] #[]] } W1 := by
      have he : a.eval (.const (.func (.yield l) #[] #[])) = .func (.yield l) #[] #[] := rfl
      simp [resolve, rangeCall, hfe, Deferred.ofValue, he]
    obtain ⟨⟨gfn, gc, hg1, hg2, hg3⟩, hit⟩ := hit
    have hinv : (invoke (.fn (.func gf) cs) #[.func (.yield l) #[] #[]]).run P W1 = .ok (.enter gf (.func (.yield l) #[] #[] :: cs.toList).toArray) W1 := by
      have h2' : ¬ gfn.name = "runtime.NumGoroutine" := by simpa using hg2
      simp [invoke, callFunc, hg1, h2', hg3]
    refine ⟨l, mark, W1, _, W1, gf, _, W1, henter, hres, fun _ _ => trivial, hinv, fun h => by simp [wideR, Fence.wide] at h, ?_⟩
    have hBlt : ∀ b, C.B b → b < W1.heap.size := fun b hb => R1.blt b hb
    have hcall := hit W1 C.B l cs.toList J Jx (depS (XK (.loop (rec .ready none))) C (oget (obj 0))) (ownS l C (oget (obj 0))) hBlt (hcs.mono (fun _ h => h) fun b hb => hbel.block b (hr0.blt b hb))
      (depS_lt R1K) (ownS_dep R1K ⟨_, List.mem_cons_self, rfl⟩) hcl ?_ ⟨0, C, by simp, ⟨Nat.zero_le _, hok0⟩, R1K, rfl, rfl, fun _ h => h⟩
    · -- behind the iterator
      have h4 : CallsIn Fence.wide (0 - 1) P gf (.func (.yield l) #[] #[] :: cs.toList).toArray W1 _ := callsIn_wide.2 hcall
      have hKne : ∀ p ∈ mksK ds ++ X.K, p.1 ≠ l := hKl
      have h5 := CallsIn.mono h4 (R' := rangePost (wideR ro) 0 P l (QQ ⟨P, X, ro, ts0⟩ Q) { a with defers := ds }) ?_
      · rw [← hds]; exact h5
      rintro e w' ⟨⟨v, rfl⟩, (⟨D', O', k, C', g1, g2, g3, _, _, _⟩ | ⟨pre, D', c, C', s', g1, _, g3⟩)⟩
      · have hk : k = ts.length := by
          have := congrArg List.length g1
          rw [List.length_take] at this
          have := g2.1
          omega
        subst hk
        have hlw' := ((g3.marks : KOk _ _ _ _) (l, _) List.mem_cons_self).1
        have hend2 := run_endLoop (P := P) hlw' (by rw [hrec]; simp)
        rw [hpend] at hend2
        refine ⟨none, _, hend2, ?_⟩
        exact ⟨⟨env, obj ts.length, T ts.length, false⟩, C', RelC.ofK (g3.setK hKne (.inl hlX)) R1.marks, hend g2.2⟩
      · have hlw' := ((g1.marks : KOk _ _ _ _) (l, _) List.mem_cons_self).1
        have hend2 := run_endLoop (P := P) hlw' (by rw [hrec]; simp)
        rw [hpend] at hend2
        refine ⟨some c, _, hend2, ?_⟩
        rcases g3 with ⟨rfl, hq⟩ | ⟨id, rfl, hq⟩
        · exact wpIn_ret ⟨⟨env, s'.obj, s'.tr, s'.stop⟩, C', RelC.ofK (g1.setK hKne (.inl hlX)) R1.marks, hq⟩
        · exact wpIn_exit ⟨⟨env, s'.obj, s'.tr, s'.stop⟩, C', RelC.ofK (g1.setK hKne (.inl hlX)) R1.marks, hq⟩
    rintro pre t post D O W Bi args hts ⟨k, C', rfl, ⟨hk, hokk⟩, R, rfl, rfl, hCB⟩ hBi hargs
    have htk : ts[k]? = some t := by
      have : (ts.take k).length = k := by rw [List.length_take]; omega
      rw [hts, List.getElem?_append_right (by omega), this, Nat.sub_self]
      rfl
    have htl : t.length = ps.toList.length := hlen t (List.mem_of_getElem? htk)
    have hlW := ((R.marks : KOk _ _ _ _) (l, _) List.mem_cons_self).1
    have hy := run_yield (P := P) (args := args.toArray) hlW (by rw [hrec]; simp; rw [hargs.1, htl]; simp)
    have hBo : ∀ b, Bi b → X.Bo b ∨ X.no ≤ b := fun b hb => (hBi b hb).2.2.elim (R1.borg b) fun e => .inr (by have := R1.no0; have := R1.kx.size; omega)
    have hBk : ∀ p ∈ (XK (.loop (rec .ready none))).K, ¬ Bi p.1 := fun p hp hb => by
      obtain ⟨k1, k2⟩ := hK1 p.1 ⟨p, hp, rfl⟩
      exact (hBi _ hb).2.2.elim k2 fun e => by omega
    have E := R.enter (X := XK (.loop (rec .ready none))) (Bi := Bi) rfl rfl (fun b hb => ⟨(hBi b hb).1, (hBi b hb).2.1, hBo b hb⟩) hBk
    have E2 := RelC.puts (ds := []) ps.toList args t _ _ E (hargs.mono (fun b hb => .inr hb) fun _ _ => rfl) htl.symm (fun p hp => hpar p hp)
    have hfold : ((rec .ready none).params.zip args.toArray).foldl (fun tmps (t, a) => tmps.setIfInBounds t a) (rec .ready none).tmps = (ps.toList.zip args).foldl (fun tm x => tm.setIfInBounds x.1 x.2) a.tmps := by
      rw [hrec, ← Array.foldl_toList, Array.toList_zip]
    have hr1 : (rec .ready none).fn = fn := by rw [hrec]
    have hr2 : (rec .ready none).assign = asg0 := by rw [hrec]
    have hr3 : (rec .ready none).body = body0 := by rw [hrec]
    have hy2 : (Instr.yield l args.toArray).run P W = .ok (.round l fn ((ps.toList.zip args).foldl (fun tm x => tm.setIfInBounds x.1 x.2) a.tmps) asg0 body0) W := by
      rw [← hfold, ← hr1, ← hr2, ← hr3]; exact hy
    refine ⟨fn, _, asg0, body0, hy2, roundIn_of_wpIn trivial ?_⟩
    have hyok : ts0 = [] ∨ (YieldsAt P X.y X.Bo X.no X.J X.Jx ts0 ∧ JClosed X.J X.Jx) := hG.yok
    have hGr : ∀ r : Loop, Cfg.Ok ⟨P, { rX (XK (.loop (rec .ready none))) a1 C' (oget (obj k)) Bi l W with K := (l, .loop r) :: (mksK ds ++ X.K) }, some l, ts0⟩ := fun r => round_ok (X := XK (.loop (rec .ready none))) hyok (hMK _) R
    have hA := hround k t htk hokk { rX (XK (.loop (rec .ready none))) a1 C' (oget (obj k)) Bi l W with K := (l, .loop (rec .ready none)) :: (mksK ds ++ X.K) } (some l) rfl (hGr _) asg0 h1 _ { tmps := (ps.toList.zip args).foldl (fun tm x => tm.setIfInBounds x.1 x.2) a.tmps, defers := [] } W E2
    have hfin : ∀ (jump : Option Code) (C3 : Ctx) (lk3 : Nat → Option LObj) (tr3 : List (List PV)) (st3 : Bool) (a3 : Act) (W3 : World), RelC { rX (XK (.loop (rec .ready none))) a1 C' (oget (obj k)) Bi l W with K := (l, .loop { rec .ready none with state := .busy }) :: (mksK ds ++ X.K) } C3 (aget (ghosts env)) lk3 tr3 st3 a3 W3 →
        ∃ W4, (Instr.endRound l jump).run P W3 = .ok (.bool jump.isNone) W4 ∧ RelC (XK (.loop (rec (if jump.isNone then .ready else .done) jump))) C3 (aget env) lk3 tr3 st3 a1 W4 ∧
          Rnd (depS (XK (.loop (rec .ready none))) C' (oget (obj k))) (ownS l C' (oget (obj k))) Bi (depS (XK (.loop (rec (if jump.isNone then .ready else .done) jump))) C3 lk3) (ownS l C3 lk3) W W4 ∧ (∀ b, C'.B b → C3.B b) := fun jump C3 lk3 tr3 st3 a3 W3 h3 => by
      have hm3 := h3.marks.k
      have hl3 := (hm3 (l, _) List.mem_cons_self).1
      have hend3 := run_endRound (P := P) jump hl3
      have h4 := h3.setK (o' := .loop (rec (if jump.isNone then .ready else .done) jump)) hKl (.inr (.inr rfl))
      obtain ⟨k1, k2, k3⟩ := RelC.leave (X := XK (.loop (rec .ready none))) (hMK _) rfl R rfl hlX (fun b hb hlt => (hBi b hb).2.2.elim (fun e => R1.bold b e hlt) fun e => by have := R1.kx.size; have : b < X.w0.heap.size := hlt; omega) h4
      rw [hbusy] at hend3
      exact ⟨_, hend3, k1, k2, k3⟩
    refine wpIn_mono (F := wideR (some l)) hA ?_
    rintro e aa Wa ⟨sa, Ca, hra, hqa⟩
    cases e with
    | normal =>
      have hla := (hra.marks.k (l, _) List.mem_cons_self).1
      refine ⟨_, run_beginRound hla (by rw [hrec]), ?_⟩
      have hrb := RelC.setK (X := rX (XK (.loop (rec .ready none))) a1 C' (oget (obj k)) Bi l W) (o := .loop (rec .ready none)) (r := mksK ds ++ X.K) hra (o' := .loop { rec .ready none with state := .busy }) hKl (.inr (.inr rfl))
      have hBod := hqa { rX (XK (.loop (rec .ready none))) a1 C' (oget (obj k)) Bi l W with K := (l, .loop { rec .ready none with state := .busy }) :: (mksK ds ++ X.K) } rfl (hGr _) body0 h2 _ aa _ hrb
      refine wpIn_mono (F := wideR (some l)) hBod ?_
      rintro e a3 W3 ⟨s3, C3, h3, hq3⟩
      cases e with
      | normal =>
        have h3' : RelC _ C3 (aget (ghosts env)) (oget (obj (k + 1))) (T (k + 1)) false a3 W3 := cov_rel hq3.1 h3
        obtain ⟨W4, g1, g2, g3, g4⟩ := hfin none C3 _ _ _ a3 W3 h3'
        refine ⟨_, W4, g1, true, rfl, ?_⟩
        rw [if_pos rfl]
        have hk1 : k + 1 ≤ ts.length := (List.getElem?_eq_some_iff.1 htk).1
        exact ⟨_, _, ⟨k + 1, C3, by rw [List.take_add_one, htk]; rfl, ⟨hk1, hq3.2⟩, g2, rfl, rfl, fun b hb => g4 b (hCB b hb)⟩, g3⟩
      | exit id =>
        have h3' : RelC _ C3 (aget (ghosts env)) s3.look s3.tr s3.stop a3 W3 := cov_rel hq3.1 h3
        obtain ⟨W4, g1, g2, g3, g4⟩ := hfin (some (.exit id)) C3 _ _ _ a3 W3 h3'
        refine ⟨_, W4, g1, false, rfl, ?_⟩
        rw [if_neg (by simp)]
        exact ⟨_, ⟨.exit id, C3, s3, g2, rfl, .inr ⟨id, rfl, hq3.2⟩⟩, ⟨g3.kx, g3.d1, g3.d2, fun _ h => h.elim, fun _ h => h.elim⟩⟩
      | ret =>
        have h3' : RelC _ C3 (aget (ghosts env)) s3.look s3.tr s3.stop a3 W3 := cov_rel hq3.1 h3
        obtain ⟨W4, g1, g2, g3, g4⟩ := hfin (some .ret) C3 _ _ _ a3 W3 h3'
        refine ⟨_, W4, g1, false, rfl, ?_⟩
        rw [if_neg (by simp)]
        exact ⟨_, ⟨.ret, C3, s3, g2, rfl, .inl ⟨rfl, hq3.2⟩⟩, ⟨g3.kx, g3.d1, g3.d2, fun _ h => h.elim, fun _ h => h.elim⟩⟩
      | goto l => exact hq3.elim
      | panic c => exact hq3.elim
      | outgrown => exact hq3.elim
    | exit id => exact hqa.elim
    | ret => exact hqa.elim
    | goto l => exact hqa.elim
    | panic c => exact hqa.elim
    | outgrown => exact hqa.elim
  all_goals first | (cases hc; done) | (obtain ⟨_, _, hc⟩ := hc; cases hc; done) | (split at hc <;> cases hc; done)
theorem run_rfunc {X : Fx} {ro : Option Nat} {ts0 : List (List PV)} {s : St} {Q : APost} {fop : AOpd} {params : List Nat} {asg body : AC} {gf : Nat} {caps : List PV} {ts : List (List PV)} (hf : fop.ev s = .p (.fn (.func gf) [] caps)) (hit : Iter P gf caps ts)
    (hlen : ∀ t ∈ ts, t.length = params.length) (hpar : ∀ p ∈ params, p < X.N) (env : List (Nat × LV)) (obj : Nat → List (Nat × LObj)) (T : Nat → List (List PV)) (h0 : Cov s ⟨env, obj 0, T 0, false⟩)
    (hround : ∀ (k : Nat) (t : List PV), ts[k]? = some t → ∀ (X' : Fx) (ro' : Option Nat), X'.N = X.N → Run ⟨P, X', ro', ts0⟩ asg ⟨parEnv params t (lowE env ++ ghosts env), obj k, T k, false⟩
      (asgK fun s1 => ∀ (X' : Fx), X'.N = X.N → Run ⟨P, X', ro', ts0⟩ body s1 (roundK env ⟨ghosts env, obj (k + 1), T (k + 1), false⟩ Q)))
    (hend : Q .normal ⟨env, obj ts.length, T ts.length, false⟩) : Run ⟨P, X, ro, ts0⟩ (.rfunc fop params asg body) s Q :=
  run_rfuncI hf hit hlen hpar env obj T (fun _ => True) h0 trivial (fun k t ht _ => hround k t ht) fun _ => hend
end
end Go.Proofs.Ytcfbdeghmckelaa
namespace Go.Proofs.Ytcfbdeghmckelaa
open Go.RowKit
set_option linter.defProp false
theorem qx_kn_lp (look : Nat → Option LObj) (k o : Nat) : LV.known look (LV.lp k o) = True := rfl
theorem qx_kn_it (look : Nat → Option LObj) (k : Nat) : LV.known look (LV.it k) = True := rfl
theorem qx_kn_lm (look : Nat → Option LObj) (k : Nat) : LV.known look (LV.lm k) = True := rfl
theorem qx_kn_fn (look : Nat → Option LObj) (f : Fn) (a b : List LV) : LV.known look (LV.fn f a b) = True := rfl
theorem qx_kn_agg (look : Nat → Option LObj) (cs : List LV) : LV.known look (LV.agg cs) = True := rfl
theorem qx_kn_yield (look : Nat → Option LObj)  : LV.known look (LV.yield ) = True := rfl
theorem qx_cells (ys : List PV) : eqCells [] ys = true := rfl
theorem qx_updn {α : Type} (cs : List α) (off : Nat) : updL cs off [] = cs.take off ++ [] ++ cs.drop (off + ([] : List α).length) := rfl
theorem qx_updc {α : Type} (cs : List α) (off : Nat) (a b : α) (r : List α) : updL cs off (a :: b :: r) = cs.take off ++ (a :: b :: r) ++ cs.drop (off + (a :: b :: r).length) := rfl
theorem qx_fillP (cs vs : List PV) : fillP cs [] vs = cs := by cases vs <;> simp [fillP]
theorem qx_fillE (xs vs : List PV) : fillE xs [] vs = xs := by cases vs <;> simp [fillE]
theorem qx_frz (s : ByteArray) (p : Nat) : (LObj.sit s p).freeze = .sit s p := rfl
theorem qx_seqr (G : Cfg) (y : AC) (Q : APost) (s : St) : seqK G y Q .ret s = Q .ret s := rfl
theorem qx_seqe (G : Cfg) (y : AC) (Q : APost) (i : Nat) (s : St) : seqK G y Q (.exit i) s = Q (.exit i) s := rfl
theorem qx_loopr {κ : Type} (inv : κ → St) (ok : κ → Prop) (μ : κ → Nat) (k : κ) (Q : APost) (s : St) : loopK inv ok μ k Q .ret s = Q .ret s := rfl
theorem qx_loope {κ : Type} (inv : κ → St) (ok : κ → Prop) (μ : κ → Nat) (k : κ) (Q : APost) (i : Nat) (s : St) : loopK inv ok μ k Q (.exit i) s = Q (.exit i) s := rfl
theorem qx_tupn : tupOf [] = .tup [] := rfl
theorem qx_tupc (a b : PV) (r : List PV) : tupOf (a :: b :: r) = .tup (a :: b :: r) := rfl
theorem qx_boxn : boxPV [] = .agg [] := rfl
theorem qx_boxc (a b : PV) (r : List PV) : boxPV (a :: b :: r) = .agg (a :: b :: r) := rfl
theorem qx_sc1 (look : Nat → Option LObj) (k : Nat) (e : TypeId) (sz : Nat) (xs : List PV) (f : Bool) (r : List (Nat × LObj)) : scObj look ((k, .row e sz xs f) :: r) = scObj look r := rfl
theorem qx_sc2 (look : Nat → Option LObj) (k : Nat) (s : ByteArray) (p : Nat) (r : List (Nat × LObj)) : scObj look ((k, .sit s p) :: r) = scObj look r := rfl
theorem qx_sc3 (look : Nat → Option LObj) (k : Nat) (es : List (PV × PV)) (f : Bool) (r : List (Nat × LObj)) : scObj look ((k, .mp es f) :: r) = scObj look r := rfl
theorem qx_mf1 (f : Fn) (a b : List LV) (y : Option (List PV)) : mfK f a b none y = some (True, Eff.ofV (LV.fn f a b)) := rfl
theorem qx_mf2 (f : Fn) (a b : List LV) (x : List PV) : mfK f a b (some x) none = some (True, Eff.ofV (LV.fn f a b)) := rfl
theorem qx_lp0 (look : Nat → Option LObj) : lpK look none = [] := rfl
theorem qx_lp1 (look : Nat → Option LObj) (e : TypeId) (sz : Nat) (xs : List PV) (f : Bool) : lpK look (some (.row e sz xs f)) = [] := rfl
theorem qx_lp2 (look : Nat → Option LObj) (s : ByteArray) (p : Nat) : lpK look (some (.sit s p)) = [] := rfl
theorem qx_lp3 (look : Nat → Option LObj) (es : List (PV × PV)) (f : Bool) : lpK look (some (.mp es f)) = [] := rfl
theorem qx_par0 (vs : List PV) (e : List (Nat × LV)) : parEnv [] vs e = e := rfl
theorem qx_par1 (p : Nat) (ps : List Nat) (e : List (Nat × LV)) : parEnv (p :: ps) [] e = e := rfl
theorem qx_asr (K : St → Prop) (s : St) : asgK K .ret s = False := rfl
theorem qx_ase (K : St → Prop) (i : Nat) (s : St) : asgK K (.exit i) s = False := rfl
theorem qx_rd_alloc  (a0 : List PV) (l : List Nat) : rdM (.alloc a0) l = l := rfl
theorem qx_rd_box  (l : List Nat) : rdM (.box) l = l := rfl
theorem qx_rd_build  (a0 : List PV) (a1 : List (Nat × Nat)) (l : List Nat) : rdM (.build a0 a1) l = l := rfl
theorem qx_rd_bslice  (a0 : Nat) (a1 : Nat) (a2 : PV) (a3 : Nat) (a4 : List Nat) (l : List Nat) : rdM (.bslice a0 a1 a2 a3 a4) l = l := rfl
theorem qx_rd_load  (a0 : Nat) (a1 : Bool) (l : List Nat) : rdM (.load a0 a1) l = l := rfl
theorem qx_rd_store  (a0 : Nat) (l : List Nat) : rdM (.store a0) l = l := rfl
theorem qx_rd_nilchk  (l : List Nat) : rdM (.nilchk) l = l := rfl
theorem qx_rd_bin  (a0 : BinOp) (l : List Nat) : rdM (.bin a0) l = l := rfl
theorem qx_rd_eq  (a0 : Bool) (a1 : List Nat) (a2 : Bool) (l : List Nat) : rdM (.eq a0 a1 a2) l = l := rfl
theorem qx_rd_not  (l : List Nat) : rdM (.not) l = l := rfl
theorem qx_rd_neg  (l : List Nat) : rdM (.neg) l = l := rfl
theorem qx_rd_cvt  (a0 : IntKind) (l : List Nat) : rdM (.cvt a0) l = l := rfl
theorem qx_rd_cvs  (l : List Nat) : rdM (.cvs) l = l := rfl
theorem qx_rd_mkfn  (a0 : Fn) (a1 : Nat) (l : List Nat) : rdM (.mkfn a0 a1) l = l := rfl
theorem qx_rd_sliceS  (a0 : Bool) (a1 : Bool) (l : List Nat) : rdM (.sliceS a0 a1) l = l := rfl
theorem qx_rd_sliceL  (a0 : Nat) (a1 : Bool) (a2 : Bool) (l : List Nat) : rdM (.sliceL a0 a1 a2) l = l := rfl
theorem qx_rd_fadr  (a0 : Nat) (l : List Nat) : rdM (.fadr a0) l = l := rfl
theorem qx_rd_fld  (a0 : Nat) (a1 : Nat) (a2 : Bool) (l : List Nat) : rdM (.fld a0 a1 a2) l = l := rfl
theorem qx_rd_idxA  (a0 : Nat) (a1 : Nat) (a2 : Bool) (l : List Nat) : rdM (.idxA a0 a1 a2) l = l := rfl
theorem qx_rd_idxS  (l : List Nat) : rdM (.idxS) l = l := rfl
theorem qx_rd_iadrS  (a0 : Nat) (l : List Nat) : rdM (.iadrS a0) l = l := rfl
theorem qx_rd_iadrA  (a0 : Nat) (a1 : Nat) (l : List Nat) : rdM (.iadrA a0 a1) l = l := rfl
theorem qx_rd_len  (a0 : Bool) (l : List Nat) : rdM (.len a0) l = l := rfl
theorem qx_rd_app  (a0 : Nat) (a1 : Nat) (a2 : Nat) (l : List Nat) : rdM (.app a0 a1 a2) l = l := rfl
theorem qx_rd_mx  (l : List Nat) : rdM (.mx) l = l := rfl
theorem qx_rd_mn  (l : List Nat) : rdM (.mn) l = l := rfl
theorem qx_rd_ext  (a0 : Nat) (l : List Nat) : rdM (.ext a0) l = l := rfl
theorem qx_rd_range  (l : List Nat) : rdM (.range) l = l := rfl
theorem qx_rd_next  (l : List Nat) : rdM (.next) l = l := rfl
theorem qx_rd_mkslice  (a0 : Nat) (a1 : Nat) (a2 : Nat) (a3 : PV) (l : List Nat) : rdM (.mkslice a0 a1 a2 a3) l = l := rfl
theorem qx_rd_copy  (a0 : Nat) (l : List Nat) : rdM (.copy a0) l = l := rfl
theorem qx_rd_mkmap  (l : List Nat) : rdM (.mkmap) l = l := rfl
theorem qx_rd_lkup  (a0 : List Nat) (a1 : Bool) (a2 : PV) (a3 : Bool) (l : List Nat) : rdM (.lkup a0 a1 a2 a3) l = l := rfl
theorem qx_rd_mset  (a0 : List Nat) (a1 : Bool) (l : List Nat) : rdM (.mset a0 a1) l = l := rfl
theorem qx_rd_call  (a0 : Nat) (l : List Nat) : rdM (.call a0) l = l := rfl
theorem qx_rd_callv  (l : List Nat) : rdM (.callv) l = l := rfl
def q0 := And.intro (And.intro (And.intro (And.intro (And.intro @LV.known.eq_1 @LV.known.eq_2) (And.intro @LV.known.eq_3 (And.intro @LV.known.eq_4 @LV.known.eq_5))) (And.intro (And.intro @loadOk.eq_1 @loadV.eq_1) (And.intro @eqOk.eq_1 (And.intro @eqOk.eq_2 @eqOk.eq_3)))) (And.intro (And.intro (And.intro @eqPV.eq_1 @eqPV.eq_2) (And.intro @eqPV.eq_3 (And.intro @eqCells.eq_1 @eqCellsOk.eq_1))) (And.intro (And.intro @eqCellsOk.eq_2 @packL.eq_1) (And.intro @oneL.eq_1 (And.intro @oneL.eq_2 @oneL.eq_3))))) (And.intro (And.intro (And.intro (And.intro @oneL.eq_4 @oneL.eq_5) (And.intro @oneL.eq_6 (And.intro @oneL.eq_7 @oneL.eq_8))) (And.intro (And.intro @updL.eq_1 @fillP.eq_1) (And.intro @fillOk.eq_1 (And.intro @fillOk.eq_2 @fillE.eq_1)))) (And.intro (And.intro (And.intro @fillEOk.eq_1 @fillEOk.eq_2) (And.intro @oneAll.eq_1 (And.intro @List.all_map.{0, 0} @LObj.freeze.eq_1))) (And.intro (And.intro @LObj.freeze.eq_2 @LObj.freeze.eq_3) (And.intro @frzs.eq_1 (And.intro @frzs.eq_2 @argSt.eq_1)))))
def q1 := And.intro (And.intro (And.intro (And.intro (And.intro @List.map.eq_1.{0, 0} @List.map.eq_2.{0, 0}) (And.intro @List.zipIdx.eq_1.{0} (And.intro @List.zipIdx.eq_2.{0} @List.length.eq_1.{0}))) (And.intro (And.intro @List.length.eq_2.{0} @List.take.eq_1.{0}) (And.intro @List.take.eq_2.{0} (And.intro @List.take.eq_3.{0} @List.drop.eq_1.{0})))) (And.intro (And.intro (And.intro @List.drop.eq_2.{0} @List.drop.eq_3.{0}) (And.intro @seqK.eq_1 (And.intro @blockK.eq_1 @blockK.eq_2))) (And.intro (And.intro @blockK.eq_3 (And.intro @loopK.eq_1 @retQ.eq_1)) (And.intro @retQ.eq_2 (And.intro @retQ.eq_3 @RetOk.eq_1))))) (And.intro (And.intro (And.intro (And.intro @resL.eq_1 @resL.eq_2) (And.intro @resL.eq_3 (And.intro @toPVs.eq_1 @toPV.eq_1))) (And.intro (And.intro @toPV.eq_2 @toPV.eq_3) (And.intro @toPV.eq_4 (And.intro @toPV.eq_5 @toPV.eq_6)))) (And.intro (And.intro (And.intro @toPV.eq_7 @toPV.go.eq_1) (And.intro @toPV.go.eq_2 (And.intro @tupOf.eq_1 @boxPV.eq_1))) (And.intro (And.intro @if_true.{0} (And.intro @if_true.{1} @if_false.{0})) (And.intro @if_false.{1} (And.intro @true_and @and_true)))))
def q2 := And.intro (And.intro (And.intro (And.intro (And.intro @and_self @forall_const.{0}) (And.intro @forall_const.{1} (And.intro @Bool.false_eq_true @Bool.true_and))) (And.intro (And.intro @Bool.and_true @Bool.false_and) (And.intro @Bool.and_false (And.intro @Bool.not_true @Bool.not_false)))) (And.intro (And.intro (And.intro @List.getElem?_cons_zero.{0} @List.getElem?_cons_succ.{0}) (And.intro @List.nil_append.{0} (And.intro @List.cons_append.{0} @implies_true.{0}))) (And.intro (And.intro @implies_true.{1} (And.intro @false_implies @imp_self)) (And.intro @Bool.and_self (And.intro @Cov.eq_1 @covEnv.eq_1))))) (And.intro (And.intro (And.intro (And.intro @covEnv.eq_2 @covObj.eq_1) (And.intro @covObj.eq_2 (And.intro @scEnv.eq_1 @scEnv.eq_2))) (And.intro (And.intro @scObj.eq_1 (And.intro @scObj.eq_2 @scP.eq_1)) (And.intro @scP.eq_2 (And.intro @scP.eq_3 @scP.eq_4)))) (And.intro (And.intro (And.intro @scP.eq_5 @scP.eq_6) (And.intro @scP.eq_7 (And.intro @scP.eq_8 @scP.eq_9))) (And.intro (And.intro @scP.eq_10 (And.intro @scP.eq_11 @scPs.eq_1)) (And.intro @scPs.eq_2 (And.intro @ite_self.{0} @ite_self.{1})))))
def q3 := And.intro (And.intro (And.intro (And.intro (And.intro @runOps_nil @Option.map_some.{0, 0}) (And.intro @Option.map_none.{0, 0} (And.intro @Option.toList_some.{0} @Option.toList_none.{0}))) (And.intro (And.intro @Option.getD_some.{0} @Option.getD_none.{0}) (And.intro @Option.isSome_some.{0} (And.intro @Option.isSome_none.{0} @List.getElem?_map.{0, 0})))) (And.intro (And.intro (And.intro @List.length_map.{0, 0} @Int.toNat_natCast) (And.intro @List.getElem?_nil.{0} (And.intro @Int.toNat_zero @decide_true))) (And.intro (And.intro @decide_false @Nat.zero_le) (And.intro @LObj.box.injEq (And.intro @wrap64 @cells_agg))))) (And.intro (And.intro (And.intro (And.intro @cells_b @cells_i) (And.intro @cells_s (And.intro @cells_tup @cells_nilsl))) (And.intro (And.intro @cells_sl @cells_nilp) (And.intro @cells_ip (And.intro @cells_fn @cells_nilf)))) (And.intro (And.intro (And.intro @cells_mp @lcells_p) (And.intro @lcells_agg (And.intro @lcells_lp @lcells_row))) (And.intro (And.intro @lcells_it @lcells_fn) (And.intro @lcells_yield (And.intro @isAgg_agg @isAgg_b)))))
def q4 := And.intro (And.intro (And.intro (And.intro (And.intro @isAgg_i @isAgg_s) (And.intro @isAgg_nilsl (And.intro @isAgg_sl @isAgg_nilp))) (And.intro (And.intro @isAgg_ip @isAgg_fn) (And.intro @isAgg_nilf (And.intro @isAgg_mp @isAny_agg)))) (And.intro (And.intro (And.intro @isAny_b @isAny_i) (And.intro @isAny_s (And.intro @isAny_nilsl @isAny_sl))) (And.intro (And.intro @isAny_nilp @isAny_ip) (And.intro @isAny_fn (And.intro @isAny_nilf @isAny_mp))))) (And.intro (And.intro (And.intro (And.intro @one_b @one_i) (And.intro @one_s (And.intro @one_nilsl @one_sl))) (And.intro (And.intro @one_nilp @one_ip) (And.intro @one_fn (And.intro @one_nilf @un_p)))) (And.intro (And.intro (And.intro @un_g @un_lp) (And.intro @un_row (And.intro @un_ep @un_it))) (And.intro (And.intro @un_fn @un_agg) (And.intro @un_yield (And.intro @cnd_p @cnd_g)))))
def q5 := And.intro (And.intro (And.intro (And.intro (And.intro @cnd_lp @cnd_row) (And.intro @cnd_ep (And.intro @cnd_it @cnd_fn))) (And.intro (And.intro @cnd_agg @cnd_yield) (And.intro @rs_nil (And.intro @rs_mv @rs_mvg)))) (And.intro (And.intro (And.intro @rs_pick @rs_pickg) (And.intro @gOf_v (And.intro @evK_some @evG_some))) (And.intro (And.intro @evK_p @evG_p) (And.intro @evK_v (And.intro @evG_v @mvG_some))))) (And.intro (And.intro (And.intro (And.intro @pkV_b @pkW_b) (And.intro @gdV_p (And.intro @gdV_g @set_mk))) (And.intro (And.intro @set_no @get_mk) (And.intro @look_mk (And.intro @wrs_nil @wrs_none)))) (And.intro (And.intro (And.intro @wrs_some @wrs_cons) (And.intro @ev_t (And.intro @ev_c @aget_c))) (And.intro (And.intro @oget_c @oget_n) (And.intro @oset_c (And.intro @oset_n @raw_nil)))))
def q6 := And.intro (And.intro (And.intro (And.intro (And.intro @raw_cons @uns_nil) (And.intro @uns_cons (And.intro @cnds_nil @cnds_cons))) (And.intro (And.intro @under_p @under_g) (And.intro @eo_alloc (And.intro @eo_box @eo_build)))) (And.intro (And.intro (And.intro @eo_bslice @eo_load_ip) (And.intro @eo_load_lp (And.intro @eo_load_ep @eo_store_lp))) (And.intro (And.intro @eo_store_ep @eo_nil_ip) (And.intro @eo_nil_lp (And.intro @eo_nil_pfn @eo_nil_fn))))) (And.intro (And.intro (And.intro (And.intro @eo_shr @eo_shl) (And.intro @eo_add (And.intro @eo_sub @eo_mul))) (And.intro (And.intro @eo_quo @eo_rem) (And.intro @eo_and (And.intro @eo_or @eo_eql)))) (And.intro (And.intro (And.intro @eo_neq @eo_lss) (And.intro @eo_leq (And.intro @eo_gtr @eo_geq))) (And.intro (And.intro @eo_sadd @eo_seql) (And.intro @eo_sneq (And.intro @eo_slss @eo_sgtr)))))
def q7 := And.intro (And.intro (And.intro (And.intro (And.intro @eo_sleq @eo_sgeq) (And.intro @eo_eq (And.intro @eo_ne @eo_not))) (And.intro (And.intro @eo_neg @eo_cvt) (And.intro @eo_cvs (And.intro @eo_mkfn @eo_sS01)))) (And.intro (And.intro (And.intro @eo_sS10 @eo_sS11) (And.intro @eo_sL01 (And.intro @eo_sL10 @eo_sL11))) (And.intro (And.intro @eo_fadr_ip @eo_fadr_lp) (And.intro @eo_fadr_ep (And.intro @eo_fld_t @eo_fld_f))))) (And.intro (And.intro (And.intro (And.intro @eo_idxA_t @eo_idxA_f) (And.intro @eo_idxS (And.intro @eo_iadrS_sl @eo_iadrS_row))) (And.intro (And.intro @eo_iadrA_ip @eo_iadrA_lp) (And.intro @eo_lenS (And.intro @eo_lenR @eo_lenP)))) (And.intro (And.intro (And.intro @eo_lenN @eo_appN) (And.intro @eo_appR (And.intro @eo_mx @eo_mn))) (And.intro (And.intro @eo_ext @eo_range) (And.intro @el_nil (And.intro @el_sl @el_row)))))
def q8 := And.intro (And.intro (And.intro (And.intro (And.intro @allP_nil @allP_cons) (And.intro @ldLp.eq_1 (And.intro @ldEp.eq_1 @stLp.eq_1))) (And.intro (And.intro @stEp.eq_1 @faEp.eq_1) (And.intro @iaRow.eq_1 (And.intro @lenK.eq_1 @lenK.eq_2)))) (And.intro (And.intro (And.intro @apN.eq_1 @apN.eq_2) (And.intro @apR.eq_1 (And.intro @elRow.eq_1 @bdK.eq_1))) (And.intro (And.intro @bdK.eq_2 @bsK.eq_1) (And.intro @bsK.eq_2 (And.intro @mfK.eq_1 @apC.eq_1))))) (And.intro (And.intro (And.intro (And.intro @apC.eq_2 @rv_alloc) (And.intro @rvg_alloc (And.intro @rv_box @rvg_box))) (And.intro (And.intro @rv_build @rvg_build) (And.intro @rv_bslice (And.intro @rvg_bslice @rv_load)))) (And.intro (And.intro (And.intro @rvg_load @rv_store) (And.intro @rvg_store (And.intro @rv_nilchk @rvg_nilchk))) (And.intro (And.intro @rv_bin @rvg_bin) (And.intro @rv_eq (And.intro @rvg_eq @rv_not)))))
def q9 := And.intro (And.intro (And.intro (And.intro (And.intro @rvg_not @rv_neg) (And.intro @rvg_neg (And.intro @rv_cvt @rvg_cvt))) (And.intro (And.intro @rv_cvs @rvg_cvs) (And.intro @rv_mkfn (And.intro @rvg_mkfn @rv_sliceS)))) (And.intro (And.intro (And.intro @rvg_sliceS @rv_sliceL) (And.intro @rvg_sliceL (And.intro @rv_fadr @rvg_fadr))) (And.intro (And.intro @rv_fld @rvg_fld) (And.intro @rv_idxA (And.intro @rvg_idxA @rv_idxS))))) (And.intro (And.intro (And.intro (And.intro @rvg_idxS @rv_iadrS) (And.intro @rvg_iadrS (And.intro @rv_iadrA @rvg_iadrA))) (And.intro (And.intro @rv_len @rvg_len) (And.intro @rv_app (And.intro @rvg_app @rv_mx)))) (And.intro (And.intro (And.intro @rvg_mx @rv_mn) (And.intro @rvg_mn (And.intro @rv_ext @rvg_ext))) (And.intro (And.intro @rv_range @rvg_range) (And.intro @agC_t (And.intro @agC_f @ogC_t)))))
def q10 := And.intro (And.intro (And.intro (And.intro (And.intro @ogC_f @osC_t) (And.intro @osC_f (And.intro @aget_n @rdT.eq_1))) (And.intro (And.intro @gTmp.eq_1 @gTmp.eq_2) (And.intro @AOpd.tmps.eq_1 (And.intro @AOpd.tmps.eq_2 @List.flatMap_cons.{0, 0})))) (And.intro (And.intro (And.intro @List.flatMap_nil.{0, 0} @accU_f) (And.intro @accU_t (And.intro @ftOf_o @rdM.eq_1))) (And.intro (And.intro @rdM.eq_2 @rdK_nil) (And.intro @rdK_p (And.intro @rdK_g @rdK_row))))) (And.intro (And.intro (And.intro (And.intro @rdK_ep @rdK_it) (And.intro @rdK_lp (And.intro @rdK_fn @rdK_agg))) (And.intro (And.intro @rdK_yield @lpK.eq_1) (And.intro @nxK.eq_1 (And.intro @cpR.eq_1 @lkK.eq_1)))) (And.intro (And.intro (And.intro @lkK.eq_2 @moK.eq_1) (And.intro @msK.eq_1 (And.intro @mget.eq_1 @mget.eq_2))) (And.intro (And.intro @mput.eq_1 @mput.eq_2) (And.intro @keyOk.eq_1 (And.intro @keysOk.eq_1 @keysOk.eq_2)))))
def q11 := And.intro (And.intro (And.intro (And.intro (And.intro @eo_next @eo_mkslice) (And.intro @eo_copy (And.intro @eo_mkmap @eo_lkup))) (And.intro (And.intro @mo_p @mo_lm) (And.intro @eo_mset (And.intro @rdK_lm @rv_next)))) (And.intro (And.intro (And.intro @rvg_next @rv_mkslice) (And.intro @rvg_mkslice (And.intro @rv_copy @rvg_copy))) (And.intro (And.intro @rv_mkmap @rvg_mkmap) (And.intro @rv_lkup (And.intro @rvg_lkup @rv_mset))))) (And.intro (And.intro (And.intro (And.intro @rvg_mset @lcells_lm) (And.intro @un_lm (And.intro @cnd_lm @ySt.eq_1))) (And.intro (And.intro @accY.eq_1 @accY.eq_2) (And.intro @parEnv.eq_1 (And.intro @lowE.eq_1 @ghosts.eq_1)))) (And.intro (And.intro (And.intro @GB.eq_1 @List.filter_cons.{0}) (And.intro @List.filter_nil.{0} (And.intro @roundK.eq_1 @asgK.eq_1))) (And.intro (And.intro @fin_n @fin_s) (And.intro @pk_or (And.intro @pk_and @Bool.decide_eq_true)))))
def q12 := And.intro (And.intro (And.intro (And.intro (And.intro @rs_call @rs_callv) (And.intro @under_lp (And.intro @under_row @under_ep))) (And.intro (And.intro @under_it @under_lm) (And.intro @under_fn (And.intro @under_agg @under_yield)))) (And.intro (And.intro (And.intro @under_any @dk_p) (And.intro @dk_any (And.intro @dk_yield @dk_row4))) (And.intro (And.intro @dk_lm4 @dk_it4) (And.intro @List.append_nil.{0} (And.intro @Eff.ofV.eq_1 @Eff.ofP.eq_1))))) (And.intro (And.intro (And.intro (And.intro @true_or @or_true) (And.intro @false_or (And.intro @or_false @List.all_cons.{0}))) (And.intro (And.intro @List.all_nil.{0} @List.length_append.{0}) (And.intro @Nat.le_refl (And.intro @Bool.not_not @evG_skip)))) (And.intro (And.intro (And.intro @eo_bin_any1 @eo_bin_any2) (And.intro @eo_bin_any3 (And.intro @eo_bin_any4 @List.set_cons_zero.{0}))) (And.intro (And.intro @List.set_cons_succ.{0} @roundI.eq_1) (And.intro @roundI.eq_2 (And.intro @roundI.eq_3 @qx_kn_lp)))))
def q13 := And.intro (And.intro (And.intro (And.intro (And.intro @qx_kn_it @qx_kn_lm) (And.intro @qx_kn_fn (And.intro @qx_kn_agg @qx_kn_yield))) (And.intro (And.intro @qx_cells @qx_updn) (And.intro @qx_updc (And.intro @qx_fillP @qx_fillE)))) (And.intro (And.intro (And.intro @qx_frz @qx_seqr) (And.intro @qx_seqe (And.intro @qx_loopr @qx_loope))) (And.intro (And.intro @qx_tupn @qx_tupc) (And.intro @qx_boxn (And.intro @qx_boxc @qx_sc1))))) (And.intro (And.intro (And.intro (And.intro @qx_sc2 @qx_sc3) (And.intro @qx_mf1 (And.intro @qx_mf2 @qx_lp0))) (And.intro (And.intro @qx_lp1 @qx_lp2) (And.intro @qx_lp3 (And.intro @qx_par0 @qx_par1)))) (And.intro (And.intro (And.intro @qx_asr @qx_ase) (And.intro @qx_rd_alloc (And.intro @qx_rd_box @qx_rd_build))) (And.intro (And.intro @qx_rd_bslice @qx_rd_load) (And.intro @qx_rd_store (And.intro @qx_rd_nilchk @qx_rd_bin)))))
def q14 := And.intro (And.intro (And.intro (And.intro @qx_rd_eq (And.intro @qx_rd_not @qx_rd_neg)) (And.intro (And.intro @qx_rd_cvt @qx_rd_cvs) (And.intro @qx_rd_mkfn @qx_rd_sliceS))) (And.intro (And.intro @qx_rd_sliceL (And.intro @qx_rd_fadr @qx_rd_fld)) (And.intro (And.intro @qx_rd_idxA @qx_rd_idxS) (And.intro @qx_rd_iadrS @qx_rd_iadrA)))) (And.intro (And.intro (And.intro @qx_rd_len (And.intro @qx_rd_app @qx_rd_mx)) (And.intro (And.intro @qx_rd_mn @qx_rd_ext) (And.intro @qx_rd_range @qx_rd_next))) (And.intro (And.intro @qx_rd_mkslice (And.intro @qx_rd_copy @qx_rd_mkmap)) (And.intro (And.intro @qx_rd_lkup @qx_rd_mset) (And.intro @qx_rd_call @qx_rd_callv))))
def qG := And.intro (And.intro (And.intro @q0 (And.intro @q1 @q2)) (And.intro (And.intro @q3 @q4) (And.intro @q5 @q6))) (And.intro (And.intro (And.intro @q7 @q8) (And.intro @q9 @q10)) (And.intro (And.intro @q11 @q12) (And.intro @q13 @q14)))
def qS := And.intro (And.intro @qG @Bool.not_eq_eq_eq_not) (And.intro @decide_eq_true_eq @Option.some.injEq.{0})
def qR := And.intro (And.intro (And.intro @List.replicate_succ.{0} @List.replicate_zero.{0}) (And.intro @List.set_cons_zero.{0} @List.set_cons_succ.{0})) (And.intro (And.intro @List.length_set.{0} @List.length_replicate.{0}) (And.intro @List.length_cons.{0} @List.length_nil.{0}))
def qH := And.intro (And.intro (And.intro @decide_eq_true_eq (And.intro @decide_eq_false_iff_not @Bool.or_eq_true)) (And.intro (And.intro @Bool.and_eq_true @Bool.or_eq_false_iff) (And.intro @Bool.and_eq_false_imp @Bool.not_eq_true'))) (And.intro (And.intro (And.intro @Bool.not_eq_false' @Bool.not_eq_eq_eq_not) (And.intro @Bool.not_true @Bool.not_false)) (And.intro (And.intro @Int.not_lt @Int.not_le) (And.intro @Decidable.not_not @not_or)))
def qB := And.intro (And.intro @Bool.not_false (And.intro @Bool.not_true @Bool.and_self)) (And.intro (And.intro @Bool.true_and @Bool.and_true) (And.intro @decide_true @decide_false))
end Go.Proofs.Ytcfbdeghmckelaa
namespace Go.Proofs.Ytcfbdeghmckelaa
open Go.RowKit
set_option linter.unusedVariables false
theorem qe : True := trivial
theorem qZ {p q : Prop} (h : p = q := by simp (disch := omega) only [qS, qe, Nat.reduceAdd, Nat.reduceMul, Nat.reduceEqDiff, Nat.reduceLeDiff, reduceIte, reduceCtorEq, Nat.reduceBEq, Nat.reduceLT] <;> rfl) (hq : q) : p := h.mpr hq
theorem qY {p q side : Prop} (h : p = (side ∧ q) := by simp (disch := omega) only [qS, qe, Nat.reduceAdd, Nat.reduceMul, Nat.reduceEqDiff, Nat.reduceLeDiff, reduceIte, reduceCtorEq, Nat.reduceBEq, Nat.reduceLT, ← and_assoc] <;> rfl)
    (hs : side := by (repeat' apply And.intro) <;> first | omega | trivial | (intro h; (repeat' apply And.intro) <;> first | exact h | omega | (intro h'; simp only [h, h', qB]; done))) (hq : q) : p := h.mpr ⟨hs, hq⟩
section
variable {P : Program} {G : Cfg} {Q : APost} {ts : List (List PV)} {dr : Bool} {K : St → List Ft → Prop} {acc : List Ft} {d : Option Nat} {f : Nat} {args : List AOpd} {gd : Option (Nat × Bool)} {af : List Nat} {r : List RO} {s : St} {vs fs cs : List PV} {res : PV} {c : Bool} {pre : Prop} {ks : List Nat}
theorem run_condX {x y : AC} {o : AOpd} {t : Bool} (h1 : t = true → Run G x s Q) (h2 : t = false → Run G y s Q) (ht : o.ev s = .p (.b t) := by simp (disch := omega) only [qS, qe, Nat.reduceAdd, Nat.reduceMul, Nat.reduceEqDiff, Nat.reduceLeDiff, reduceIte, reduceCtorEq, Nat.reduceBEq, Nat.reduceLT] <;> rfl) : Run G (.cond o x y) s Q := run_cond ht h1 h2
theorem run_callX (hc : gOf s gd = some true := by exact rfl) (ht : toPVs s.look (uns (rawIns s args)) = some (pre, vs, ks) := by simp (disch := omega) only [qS, qe, Nat.reduceAdd, Nat.reduceMul, Nat.reduceEqDiff, Nat.reduceLeDiff, reduceIte, reduceCtorEq, Nat.reduceBEq, Nat.reduceLT] <;> rfl) (hf : Pure P f vs res) (hn : runS dr (RunOps P ts dr K) r (s.set d (fin gd true (.p res))) (accU dr acc s ⟨d, .call f, args, gd, af⟩ []))
    (hp : true = true → cnds (rawIns s args) = true ∧ pre := by intro hc; first | (simp (disch := omega) only [qS, qe, Nat.reduceAdd, Nat.reduceMul, Nat.reduceEqDiff, Nat.reduceLeDiff, reduceIte, reduceCtorEq, Nat.reduceBEq, Nat.reduceLT]; done) | (simp (disch := omega) only [qS, qe, Nat.reduceAdd, Nat.reduceMul, Nat.reduceEqDiff, Nat.reduceLeDiff, reduceIte, reduceCtorEq, Nat.reduceBEq, Nat.reduceLT]; (repeat' apply And.intro) <;> omega) | (simp (disch := omega) only [qS, qe, Nat.reduceAdd, Nat.reduceMul, Nat.reduceEqDiff, Nat.reduceLeDiff, reduceIte, reduceCtorEq, Nat.reduceBEq, Nat.reduceLT] at hc ⊢; (repeat' apply And.intro) <;> first | assumption | omega | simp_all))
    (hfl : res.flat = true ∨ ks = [] := by first | exact .inl rfl | exact .inr rfl) : RunOps P ts dr K (⟨d, .call f, args, gd, af⟩ :: r) s acc := run_callA hf hc ht hp hfl (run_ops hn)
theorem run_callGX (hc : gOf s gd = some c := by first | rfl | (simp (disch := omega) only [qG, qe, Nat.reduceAdd, Nat.reduceMul, Nat.reduceEqDiff, Nat.reduceLeDiff, reduceIte, reduceCtorEq, Nat.reduceBEq, Nat.reduceLT] <;> rfl)) (ht : toPVs s.look (uns (rawIns s args)) = some (pre, vs, ks) := by simp (disch := omega) only [qS, qe, Nat.reduceAdd, Nat.reduceMul, Nat.reduceEqDiff, Nat.reduceLeDiff, reduceIte, reduceCtorEq, Nat.reduceBEq, Nat.reduceLT] <;> rfl) (hf : c = true → Pure P f vs res) (hn : runS dr (RunOps P ts dr K) r (s.set d (fin gd c (.p res))) (accU dr acc s ⟨d, .call f, args, gd, af⟩ []))
    (hp : c = true → cnds (rawIns s args) = true ∧ pre := by intro hc; first | exact absurd hc Bool.false_ne_true | (simp (disch := omega) only [qS, qe, Nat.reduceAdd, Nat.reduceMul, Nat.reduceEqDiff, Nat.reduceLeDiff, reduceIte, reduceCtorEq, Nat.reduceBEq, Nat.reduceLT]; done) | (simp (disch := omega) only [qS, qe, Nat.reduceAdd, Nat.reduceMul, Nat.reduceEqDiff, Nat.reduceLeDiff, reduceIte, reduceCtorEq, Nat.reduceBEq, Nat.reduceLT]; (repeat' apply And.intro) <;> omega) | (simp (disch := omega) only [qS, qe, Nat.reduceAdd, Nat.reduceMul, Nat.reduceEqDiff, Nat.reduceLeDiff, reduceIte, reduceCtorEq, Nat.reduceBEq, Nat.reduceLT] at hc ⊢; (repeat' apply And.intro) <;> first | assumption | omega | simp_all))
    (hfl : res.flat = true ∨ ks = [] := by first | exact .inl rfl | exact .inr rfl) : RunOps P ts dr K (⟨d, .call f, args, gd, af⟩ :: r) s acc := run_callG hf hc ht hp hfl (run_ops hn)
theorem run_callBX (ht : toPVs s.look (uns (rawIns s args)) = some (pre, vs, ks) := by simp (disch := omega) only [qS, qe, Nat.reduceAdd, Nat.reduceMul, Nat.reduceEqDiff, Nat.reduceLeDiff, reduceIte, reduceCtorEq, Nat.reduceBEq, Nat.reduceLT] <;> rfl) (hf : Pure P f vs res) (hn : runS dr (RunOps P ts dr K) r ((s.wrs (frzs s.look ks)).set d (.p res)) (accU dr acc s ⟨d, .call f, args, none, af⟩ (frzs s.look ks)))
    (hp : cnds (rawIns s args) = true ∧ pre := by first | trivial | (simp (disch := omega) only [qS, qe, Nat.reduceAdd, Nat.reduceMul, Nat.reduceEqDiff, Nat.reduceLeDiff, reduceIte, reduceCtorEq, Nat.reduceBEq, Nat.reduceLT]; done) | (simp (disch := omega) only [qS, qe, Nat.reduceAdd, Nat.reduceMul, Nat.reduceEqDiff, Nat.reduceLeDiff, reduceIte, reduceCtorEq, Nat.reduceBEq, Nat.reduceLT]; (repeat' apply And.intro) <;> omega)) : RunOps P ts dr K (⟨d, .call f, args, none, af⟩ :: r) s acc := run_callB hf ht hp (run_ops hn)
theorem run_callVX (hc : gOf s gd = some true := by exact rfl) (ht : toPVs s.look (uns (rawIns s args)) = some (pre, .fn (.func f) fs cs :: vs, ks) := by simp (disch := omega) only [qS, qe, Nat.reduceAdd, Nat.reduceMul, Nat.reduceEqDiff, Nat.reduceLeDiff, reduceIte, reduceCtorEq, Nat.reduceBEq, Nat.reduceLT] <;> rfl) (hf : Pure P f (fs ++ vs ++ cs) res) (hn : runS dr (RunOps P ts dr K) r (s.set d (fin gd true (.p res))) (accU dr acc s ⟨d, .callv, args, gd, af⟩ []))
    (hp1 : cnds (rawIns s args) = true := by simp (disch := omega) only [qS, qe, Nat.reduceAdd, Nat.reduceMul, Nat.reduceEqDiff, Nat.reduceLeDiff, reduceIte, reduceCtorEq, Nat.reduceBEq, Nat.reduceLT]) (hp2 : pre := by first | trivial | (simp (disch := omega) only [qS, qe, Nat.reduceAdd, Nat.reduceMul, Nat.reduceEqDiff, Nat.reduceLeDiff, reduceIte, reduceCtorEq, Nat.reduceBEq, Nat.reduceLT]; done) | (simp (disch := omega) only [qS, qe, Nat.reduceAdd, Nat.reduceMul, Nat.reduceEqDiff, Nat.reduceLeDiff, reduceIte, reduceCtorEq, Nat.reduceBEq, Nat.reduceLT]; (repeat' apply And.intro) <;> omega))
    (hfl : res.flat = true ∨ ks = [] := by first | exact .inl rfl | exact .inr rfl) : RunOps P ts dr K (⟨d, .callv, args, gd, af⟩ :: r) s acc := run_callV hc ht (fun _ => ⟨hp1, hp2, hf⟩) hfl (run_ops hn)
end
class Stp (p : Prop) (q : outParam Prop) : Prop where
  h : q → p
class Mx (P : Program) : Prop where
  h : P.follows .mixedOrders = true
section
variable {G : Cfg} {Q : APost} {s : St} {x y : AC} {i : Nat} {l : List RO}
instance : Stp (Run G (.seq x y) s Q) (Run G x s (seqK G y Q)) := ⟨run_seq⟩
instance : Stp (Run G (.block i x) s Q) (Run G x s (blockK i Q)) := ⟨run_block⟩
instance : Stp (Run G (.scope x) s Q) (Run G x s Q) := ⟨run_scope⟩
instance : Stp (Run G .label s Q) (Q .normal s) := ⟨run_label⟩
instance : Stp (Run G .ret s Q) (Q .ret s) := ⟨run_ret⟩
instance : Stp (Run G (.exit i) s Q) (Q (.exit i) s) := ⟨run_exit⟩
instance : Stp (Run G .skip s Q) (Q .normal s) := ⟨run_skip⟩
instance : Stp (Run G (.ops false l) s Q) (∀ K : St → List Ft → Prop, (∀ s acc, Q .normal s → K s acc) → runS false (RunOps G.P G.ts false K) l s []) := ⟨run_reg⟩
instance [Mx G.P] : Stp (Run G (.ops true l) s Q) (∀ K : St → List Ft → Prop, (∀ s acc, drawOkF acc.reverse = true → Q .normal s → K s acc) → runS true (RunOps G.P G.ts true K) l s []) := ⟨run_draw Mx.h⟩
end
end Go.Proofs.Ytcfbdeghmckelaa
namespace Go.Proofs.Ytcfbdeghmckelaa
open Go.RowKit
set_option maxRecDepth 100000
set_option linter.unusedVariables false
set_option linter.unusedSimpArgs false
theorem mixed : Try.prog.follows .mixedOrders = true := by kernel_rfl
instance : Mx Try.prog := ⟨mixed⟩
section
variable {P : Program} {ts : List (List PV)} {dr : Bool} {K : St → List Ft → Prop} {acc : List Ft} {d : Option Nat} {f : Nat} {args : List AOpd} {gd : Option (Nat × Bool)} {af : List Nat} {r : List RO} {s : St} {vs : List PV} {res : PV}
end
structure Per where
  fro : Int
  to : Int
  days : Int
abbrev Per.pv (p : Per) : PV := .agg [.i .i64 p.fro, .i .i64 p.to, .i .i64 p.days]
def inM (mask wd : Int) : Bool := decide (mask / 2 ^ wd.toNat % 2 = 1)
def rng (n lo hi : Int) : Int := if n < lo ∨ hi < n then 3 else 0
theorem bits_in : ∀ m < 128, ∀ w < 7, (decide (bits .and .i64 (Int.fdiv (Int.ofNat m) (2 ^ (min w 64))) 1 = 1)) = inM (Int.ofNat m) (Int.ofNat w) := by decide +kernel
def firstE : List Int → Int
  | [] => 0
  | e :: r => if e = 0 then firstE r else e
theorem firstE_drop {l : List Int} : ∀ {i : Nat}, (∀ x ∈ l.take i, x = 0) → firstE l = firstE (l.drop i) := by
  induction l with
  | nil => intro i _; simp
  | cons e r ih =>
    intro i h
    cases i with
    | zero => rfl
    | succ i =>
      have he : e = 0 := h e (by simp)
      subst he
      simp only [firstE, if_true, List.drop_succ_cons]
      exact ih fun x hx => h x (by simp [hx])
theorem firstE_at {l : List Int} {i : Nat} {x : Int} (h : ∀ x ∈ l.take i, x = 0) (hx : l[i]? = some x) (hn : x ≠ 0) : firstE l = x := by
  rw [firstE_drop h]
  obtain ⟨hi, rfl⟩ := List.getElem?_eq_some_iff.1 hx
  rw [List.drop_eq_getElem_cons hi, firstE, if_neg hn]
theorem firstE_end {l : List Int} (h : ∀ x ∈ l.take l.length, x = 0) : firstE l = 0 := by
  rw [firstE_drop h, List.drop_length]; rfl
theorem take_all {l : List Int} {i : Nat} {x : Int} (h : ∀ x ∈ l.take i, x = 0) (hx : l[i]? = some x) (h0 : x = 0) : ∀ x ∈ l.take (i + 1), x = 0 := by
  intro y hy
  rw [List.take_add_one, hx] at hy
  rcases List.mem_append.1 hy with hy | hy
  · exact h y hy
  · simp at hy; omega
def chkPer (p : Per) : Int := firstE [rng p.fro 0 99999, rng p.to 0 99999, if p.to < p.fro then 11 else 0, if 400 < p.to - p.fro then 4 else 0, rng p.days 1 127]
theorem rng_0 {n a b : Int} : rng n a b = 0 ↔ a ≤ n ∧ n ≤ b := by
  unfold rng
  split
  · rename_i h; omega
  · rename_i h; omega
theorem firstE_cons {e : Int} {r : List Int} : firstE (e :: r) = 0 ↔ e = 0 ∧ firstE r = 0 := by
  simp only [firstE]; split <;> simp_all
theorem firstE_nil : firstE [] = 0 := rfl
theorem firstE_app {a b : List Int} (h : firstE a = 0) : firstE (a ++ b) = firstE b := by
  induction a with
  | nil => rfl
  | cons e r ih => obtain ⟨h1, h2⟩ := firstE_cons.1 h; subst h1; simp only [List.cons_append, firstE, if_true]; exact ih h2
theorem firstE_app' {a b : List Int} (h : firstE a ≠ 0) : firstE (a ++ b) = firstE a := by
  induction a with
  | nil => exact absurd rfl h
  | cons e r ih =>
    simp only [List.cons_append, firstE] at h ⊢
    split
    · rename_i h0; rw [if_pos h0] at h; exact ih h
    · rfl
theorem ite_eq0 {p : Prop} [Decidable p] {e : Int} (he : e ≠ 0) : (if p then e else 0) = 0 ↔ ¬ p := by by_cases h : p <;> simp [h, he]
theorem chkPer_0 {p : Per} (h : chkPer p = 0) : 0 ≤ p.fro ∧ p.fro ≤ p.to ∧ p.to ≤ 99999 ∧ p.to - p.fro ≤ 400 ∧ 1 ≤ p.days ∧ p.days ≤ 127 := by
  unfold chkPer at h
  simp only [firstE_cons, rng_0, ite_eq0 (show (11 : Int) ≠ 0 by decide), ite_eq0 (show (4 : Int) ≠ 0 by decide)] at h
  omega
def hasD (p : Per) (d : Int) : Bool := decide (p.fro ≤ d) && decide (d ≤ p.to) && inM p.days ((d + 5) % 7)
def daysL (p : Per) : List Int := (List.range (p.to - p.fro + 1).toNat).flatMap fun (k : Nat) => if inM p.days ((p.fro + k + 5) % 7) then [p.fro + k] else []
theorem range_split {α : Type} (f : Nat → List α) {k n : Nat} (h : k < n) : (List.range n).flatMap f = (List.range k).flatMap f ++ (f k ++ (List.range' (k + 1) (n - (k + 1))).flatMap f) := by
  have : List.range n = List.range k ++ (k :: List.range' (k + 1) (n - (k + 1))) := by
    rw [List.range_eq_range', List.range_eq_range', show k :: List.range' (k + 1) (n - (k + 1)) = List.range' (0 + 1 * k) (n - k) by rw [show n - k = (n - (k + 1)) + 1 by omega, List.range'_succ]; simp, List.range'_append, show k + (n - k) = n by omega]
  rw [this]; simp
theorem range_next {α : Type} (f : Nat → List α) (k : Nat) : (List.range (k + 1)).flatMap f = (List.range k).flatMap f ++ f k := by
  rw [List.range_succ]; simp
def ac146 : AC := .seq (.ops false [⟨some 2,.mv,[.c (.i .i64 0)],none,[]⟩]) (.seq (.seq (.ops false [⟨some 5,.mv,[.t 0],none,[]⟩,⟨some 6,.len false,[.t 5],none,[0]⟩,⟨some 7,.mv,[.c (.i .i64 0)],none,[]⟩]) (.block 0 (.loop (.seq (.ops false [⟨some 8,.bin .lss,[.t 7,.t 6],none,[]⟩]) (.seq (.cond (.t 8) .skip (.exit 0)) (.seq (.block 1 (.seq (.ops false [⟨some 9,.iadrS 1,[.t 5,.t 7],none,[]⟩,⟨some 10,.load 1 false,[.t 9],none,[0]⟩,⟨some 4,.mv,[.t 10],none,[1,0,1]⟩]) (.seq (.ops false [⟨some 11,.mv,[.t 4],none,[]⟩,⟨some 12,.bin .neq,[.t 11,.c (.i .i64 0)],none,[0]⟩]) (.cond (.t 12) (.seq (.ops false [⟨some 13,.mv,[.t 4],none,[]⟩,⟨some 2,.mv,[.t 13],none,[0,0]⟩]) .ret) .skip)))) (.ops false [⟨some 14,.bin .add,[.t 7,.c (.i .i64 1)],none,[]⟩,⟨some 7,.mv,[.t 14],none,[0]⟩]))))))) (.seq (.ops false [⟨some 2,.mv,[.c (.i .i64 0)],none,[]⟩]) .ret))
def rs146 : List RV := [.tmp 2]
theorem fact146 : compF Try.prog 83 = some (ac146,rs146,15) := by kernel_rfl
def ac147 : AC := .seq (.ops false [⟨some 2,.mv,[.c (.i .i64 0)],none,[]⟩]) (.seq (.ops false [⟨some 3,.mv,[.t 0],none,[]⟩,⟨some 4,.call 86,[.t 3,.c (.i .i64 0),.c (.i .i64 99999)],none,[0]⟩,⟨some 2,.mv,[.t 4],none,[1,1,0,1]⟩]) .ret)
def rs147 : List RV := [.tmp 2]
theorem fact147 : compF Try.prog 84 = some (ac147,rs147,5) := by kernel_rfl
def ac148 : AC := .seq (.ops false [⟨some 4,.mv,[.c (.i .i64 0)],none,[]⟩]) (.seq (.seq (.ops false [⟨some 5,.mv,[.t 0],none,[]⟩]) (.cond (.t 5) (.seq (.ops false [⟨some 6,.mv,[.t 1],none,[]⟩,⟨some 4,.mv,[.t 6],none,[0,0]⟩]) .ret) .skip)) (.seq (.ops false [⟨some 4,.mv,[.c (.i .i64 0)],none,[]⟩]) .ret))
def rs148 : List RV := [.tmp 4]
theorem fact148 : compF Try.prog 85 = some (ac148,rs148,7) := by kernel_rfl
def ac149 : AC := .seq (.ops false [⟨some 6,.mv,[.c (.i .i64 0)],none,[]⟩]) (.seq (.ops false [⟨some 7,.mv,[.t 0],none,[]⟩,⟨some 8,.mv,[.t 1],none,[]⟩,⟨some 9,.bin .lss,[.t 7,.t 8],none,[0,1]⟩,⟨some 10,.mv,[.t 9],none,[2]⟩,⟨some 11,.mv,[.t 0],some (10,false),[3]⟩,⟨some 12,.mv,[.t 2],some (10,false),[3]⟩,⟨some 13,.bin .gtr,[.t 11,.t 12],some (10,false),[4,5,3]⟩,⟨some 14,.pick,[.t 10,.c (.b true),.t 13],none,[3,6]⟩,⟨some 15,.call 85,[.t 14,.c (.i .i64 3)],none,[7,3]⟩,⟨some 6,.mv,[.t 15],none,[8,8,0,1,2,3,4,5,6,7,8]⟩]) .ret)
def rs149 : List RV := [.tmp 6]
theorem fact149 : compF Try.prog 86 = some (ac149,rs149,16) := by kernel_rfl
def ac161 : AC := .seq (.ops false [⟨some 4,.mv,[.c (.b false)],none,[]⟩]) (.seq (.ops false [⟨some 5,.mv,[.t 0],none,[]⟩,⟨some 6,.mv,[.t 1],none,[]⟩,⟨some 7,.bin .shr,[.t 5,.t 6],none,[0,1]⟩,⟨some 8,.bin .and,[.t 7,.c (.i .i64 1)],none,[2]⟩,⟨some 9,.bin .eql,[.t 8,.c (.i .i64 1)],none,[3]⟩,⟨some 4,.mv,[.t 9],none,[4,0,1,2,3,4]⟩]) .ret)
def rs161 : List RV := [.tmp 4]
theorem fact161 : compF Try.prog 100 = some (ac161,rs161,10) := by kernel_rfl
def ac162 : AC := .seq (.ops false [⟨some 2,.mv,[.c (.i .i64 0)],none,[]⟩]) (.seq (.ops false [⟨some 3,.mv,[.t 0],none,[]⟩,⟨some 4,.bin .add,[.t 3,.c (.i .i64 5)],none,[0]⟩,⟨some 5,.bin .rem,[.t 4,.c (.i .i64 7)],none,[1]⟩,⟨some 2,.mv,[.t 5],none,[2,0,1,2]⟩]) .ret)
def rs162 : List RV := [.tmp 2]
theorem fact162 : compF Try.prog 101 = some (ac162,rs162,6) := by kernel_rfl
theorem pure148 (b : Bool) (e : Int) : Pure Try.prog 85 [.b b, .i .i64 e] (.i .i64 (if b then e else 0)) := by
  refine pure_by fact148 (by simp) fun hw X hX => ?_
  unfold ac148 rs148
  repeat' first | (show Run _ (.cond _ _ _) _ _; refine run_condX (fun hc => ?_) (fun hc => ?_) <;> (try simp only [qH, rng_0] at hc) <;> try contradiction) | (first | refine Stp.h ?_ | (show ∀ K : St → List Ft → Prop, _; intro K hK) | (show runS _ _ _ _ _; first | refine qY (hq := ?_) | refine qZ (hq := ?_)) | (refine hK _ _ ?_; clear hK K) | (refine hK _ _ rfl ?_; clear hK K) | (refine qZ (hq := ?_); try exact trivial) | omega)
  all_goals (subst hc; exact .refl _)
theorem pure149 (n a b : Int) : Pure Try.prog 86 [.i .i64 n, .i .i64 a, .i .i64 b] (.i .i64 (rng n a b)) := by
  refine pure_by fact149 (by simp) fun hw X hX => ?_
  unfold ac149 rs149
  repeat' first | (show Run _ (.cond _ _ _) _ _; refine run_condX (fun hc => ?_) (fun hc => ?_) <;> (try simp only [qH, rng_0] at hc) <;> try contradiction) | (show RunOps _ _ _ _ (⟨_, .call 85, _, _, _⟩ :: _) _ _; refine run_callX (hf := pure148 _ _) (hn := ?_)) | (first | refine Stp.h ?_ | (show ∀ K : St → List Ft → Prop, _; intro K hK) | (show runS _ _ _ _ _; first | refine qY (hq := ?_) | refine qZ (hq := ?_)) | (refine hK _ _ ?_; clear hK K) | (refine hK _ _ rfl ?_; clear hK K) | (refine qZ (hq := ?_); try exact trivial) | omega)
  simp only [rng, Bool.or_eq_true, decide_eq_true_eq]; exact .refl _
theorem pure147 (n : Int) : Pure Try.prog 84 [.i .i64 n] (.i .i64 (rng n 0 99999)) := by
  refine pure_by fact147 (by simp) fun hw X hX => ?_
  unfold ac147 rs147
  repeat' first | (show Run _ (.cond _ _ _) _ _; refine run_condX (fun hc => ?_) (fun hc => ?_) <;> (try simp only [qH, rng_0] at hc) <;> try contradiction) | (show RunOps _ _ _ _ (⟨_, .call 86, _, _, _⟩ :: _) _ _; refine run_callX (hf := pure149 _ _ _) (hn := ?_)) | (first | refine Stp.h ?_ | (show ∀ K : St → List Ft → Prop, _; intro K hK) | (show runS _ _ _ _ _; first | refine qY (hq := ?_) | refine qZ (hq := ?_)) | (refine hK _ _ ?_; clear hK K) | (refine hK _ _ rfl ?_; clear hK K) | (refine qZ (hq := ?_); try exact trivial) | omega)
  exact .refl _
theorem pure161 (m w : Int) (h0 : 0 ≤ m) (h1 : m < 128) (h2 : 0 ≤ w) (h3 : w < 7) : Pure Try.prog 100 [.i .i64 m, .i .i64 w] (.b (inM m w)) := by
  refine pure_by fact161 (by simp) fun hw X hX => ?_
  unfold ac161 rs161
  repeat' first | (show Run _ (.cond _ _ _) _ _; refine run_condX (fun hc => ?_) (fun hc => ?_) <;> (try simp only [qH, rng_0] at hc) <;> try contradiction) | (first | refine Stp.h ?_ | (show ∀ K : St → List Ft → Prop, _; intro K hK) | (show runS _ _ _ _ _; first | refine qY (hq := ?_) | refine qZ (hq := ?_)) | (refine hK _ _ ?_; clear hK K) | (refine hK _ _ rfl ?_; clear hK K) | (refine qZ (hq := ?_); try exact trivial) | omega)
  have := bits_in m.toNat (by omega) w.toNat (by omega)
  simp only [Int.ofNat_eq_natCast, Int.toNat_of_nonneg h0, Int.toNat_of_nonneg h2] at this
  show Weak (.b (decide (bits .and .i64 (m.fdiv (2 ^ min w.toNat 64)) 1 = 1))) _
  rw [this]; exact .refl _
theorem pure162 (d : Int) (h0 : 0 ≤ d) (h1 : d ≤ 99999) : Pure Try.prog 101 [.i .i64 d] (.i .i64 ((d + 5) % 7)) := by
  refine pure_by fact162 (by simp) fun hw X hX => ?_
  unfold ac162 rs162
  repeat' first | (show Run _ (.cond _ _ _) _ _; refine run_condX (fun hc => ?_) (fun hc => ?_) <;> (try simp only [qH, rng_0] at hc) <;> try contradiction) | (first | refine Stp.h ?_ | (show ∀ K : St → List Ft → Prop, _; intro K hK) | (show runS _ _ _ _ _; first | refine qY (hq := ?_) | refine qZ (hq := ?_)) | (refine hK _ _ ?_; clear hK K) | (refine hK _ _ rfl ?_; clear hK K) | (refine qZ (hq := ?_); try exact trivial) | omega)
  rw [Int.tmod_eq_emod_of_nonneg (by omega)]
  exact .refl _
theorem pure146 (l : List Int) : Pure Try.prog 83 [.sl 1 (l.map (.i .i64))] (.i .i64 (firstE l)) := by
  refine pure_by fact146 (by simp) fun hw X hX => ?_
  unfold ac146 rs146
  simp only [wfs, PV.wf, List.length_map, maxLen] at hw
  repeat' first | (show Run _ (.cond _ _ _) _ _; refine run_condX (fun hc => ?_) (fun hc => ?_) <;> (try simp only [qH, rng_0] at hc) <;> try contradiction) | (first | refine Stp.h ?_ | (show ∀ K : St → List Ft → Prop, _; intro K hK) | (show runS _ _ _ _ _; first | refine qY (hq := ?_) | refine qZ (hq := ?_)) | (refine hK _ _ ?_; clear hK K) | (refine hK _ _ rfl ?_; clear hK K) | (refine qZ (hq := ?_); try exact trivial) | omega)
  refine run_loop (κ := Nat) (fun i => ⟨[(5, .p (.sl 1 (l.map (.i .i64)))), (6, .p (.i .i64 l.length)), (7, .p (.i .i64 i))], [], [], false⟩) (fun i => i ≤ l.length ∧ ∀ x ∈ l.take i, x = 0) (fun i => l.length - i) 0 ?_ ?_ ?_
  · simp only [qS, Nat.reduceAdd, Nat.reduceMul, Nat.reduceEqDiff, Nat.reduceLeDiff, reduceIte, reduceCtorEq, Nat.reduceBEq, Nat.reduceLT] <;> rfl
  · simp
  · intro i hi
    repeat (first | refine Stp.h ?_ | (show ∀ K : St → List Ft → Prop, _; intro K hK) | (show runS _ _ _ _ _; first | refine qY (hq := ?_) | refine qZ (hq := ?_)) | (refine hK _ _ ?_; clear hK K) | (refine hK _ _ rfl ?_; clear hK K) | (refine qZ (hq := ?_); try exact trivial) | omega)
    (show Run _ (.cond _ _ _) _ _; refine run_condX (fun hc => ?_) (fun hc => ?_) <;> (try simp only [qH, rng_0] at hc) <;> try contradiction)
    · obtain ⟨x, hx⟩ := some_at (i := i) (l := l) (by omega)
      have qe := @hx; repeat' first | (show Run _ (.cond _ _ _) _ _; refine run_condX (fun hc => ?_) (fun hc => ?_) <;> (try simp only [qH, rng_0] at hc) <;> try contradiction) | (first | refine Stp.h ?_ | (show ∀ K : St → List Ft → Prop, _; intro K hK) | (show runS _ _ _ _ _; first | refine qY (hq := ?_) | refine qZ (hq := ?_)) | (refine hK _ _ ?_; clear hK K) | (refine hK _ _ rfl ?_; clear hK K) | (refine qZ (hq := ?_); try exact trivial) | omega)
      · rw [firstE_at hi.2 hx hc]; exact .refl _
      · exact ⟨i + 1, ⟨by omega, take_all hi.2 hx hc⟩, by omega, by simp⟩
    · repeat' first | (show Run _ (.cond _ _ _) _ _; refine run_condX (fun hc => ?_) (fun hc => ?_) <;> (try simp only [qH, rng_0] at hc) <;> try contradiction) | (first | refine Stp.h ?_ | (show ∀ K : St → List Ft → Prop, _; intro K hK) | (show runS _ _ _ _ _; first | refine qY (hq := ?_) | refine qZ (hq := ?_)) | (refine hK _ _ ?_; clear hK K) | (refine hK _ _ rfl ?_; clear hK K) | (refine qZ (hq := ?_); try exact trivial) | omega)
      have e : i = l.length := by omega
      subst e
      rw [firstE_end hi.2]; exact .refl _
def ac124 : AC := .seq (.ops false [⟨some 1,.box,[.t 0],none,[]⟩,⟨some 2,.mv,[.c (.i .i64 0)],none,[]⟩]) (.seq (.seq (.ops true [⟨some 4,.fadr 0,[.t 1],none,[]⟩,⟨some 5,.load 1 false,[.t 4],none,[0]⟩,⟨some 6,.call 84,[.t 5],none,[1]⟩,⟨some 7,.fadr 1,[.t 1],none,[]⟩,⟨some 8,.load 1 false,[.t 7],none,[3]⟩,⟨some 9,.call 84,[.t 8],none,[4,2]⟩,⟨some 10,.bslice 29 1 (.i .i64 0) 2 [0,1],[.t 6,.t 9],none,[2,5]⟩,⟨some 11,.call 83,[.t 10],none,[6,5]⟩,⟨some 3,.mv,[.t 11],none,[7,7,0,1,2,3,4,5,6,7]⟩]) (.seq (.ops false [⟨some 12,.mv,[.t 3],none,[]⟩,⟨some 13,.bin .neq,[.t 12,.c (.i .i64 0)],none,[0]⟩]) (.cond (.t 13) (.seq (.ops false [⟨some 14,.mv,[.t 3],none,[]⟩,⟨some 2,.mv,[.t 14],none,[0,0]⟩]) .ret) .skip))) (.seq (.ops true [⟨some 15,.fadr 1,[.t 1],none,[]⟩,⟨some 16,.load 1 false,[.t 15],none,[0]⟩,⟨some 17,.fadr 0,[.t 1],none,[]⟩,⟨some 18,.load 1 false,[.t 17],none,[2]⟩,⟨some 19,.bin .lss,[.t 16,.t 18],none,[1,3]⟩,⟨some 20,.call 85,[.t 19,.c (.i .i64 11)],none,[4]⟩,⟨some 21,.fadr 1,[.t 1],none,[]⟩,⟨some 22,.load 1 false,[.t 21],none,[6]⟩,⟨some 23,.fadr 0,[.t 1],none,[]⟩,⟨some 24,.load 1 false,[.t 23],none,[8]⟩,⟨some 25,.bin .sub,[.t 22,.t 24],none,[7,9]⟩,⟨some 26,.bin .gtr,[.t 25,.c (.i .i64 400)],none,[10]⟩,⟨some 27,.call 85,[.t 26,.c (.i .i64 4)],none,[11,5]⟩,⟨some 28,.fadr 2,[.t 1],none,[]⟩,⟨some 29,.load 1 false,[.t 28],none,[13]⟩,⟨some 30,.call 86,[.t 29,.c (.i .i64 1),.c (.i .i64 127)],none,[14,12]⟩,⟨some 31,.bslice 29 1 (.i .i64 0) 3 [0,1,2],[.t 20,.t 27,.t 30],none,[5,12,15]⟩,⟨some 32,.call 83,[.t 31],none,[16,15]⟩,⟨some 2,.mv,[.t 32],none,[17,17,0,1,2,3,4,5,6,7,8,9,10,11,12,13,14,15,16,17]⟩]) .ret))
def rs124 : List RV := [.tmp 2]
theorem fact124 : compF Try.prog 62 = some (ac124,rs124,33) := by kernel_rfl
def ac156 : AC := .seq (.ops false [⟨some 2,.box,[.t 0],none,[]⟩,⟨some 4,.mv,[.c (.b false)],none,[]⟩]) (.seq (.ops true [⟨some 5,.mv,[.t 1],none,[]⟩,⟨some 6,.fadr 0,[.t 2],none,[]⟩,⟨some 7,.load 1 false,[.t 6],none,[1]⟩,⟨some 8,.bin .geq,[.t 5,.t 7],none,[0,2]⟩,⟨some 9,.mv,[.t 8],none,[3]⟩,⟨some 10,.mv,[.t 1],some (9,true),[4]⟩,⟨some 11,.fadr 1,[.t 2],some (9,true),[4]⟩,⟨some 12,.load 1 false,[.t 11],some (9,true),[6,4]⟩,⟨some 13,.bin .leq,[.t 10,.t 12],some (9,true),[5,7,4]⟩,⟨some 14,.pick,[.t 9,.t 13,.c (.b false)],none,[4,8]⟩,⟨some 15,.mv,[.t 14],none,[9,4]⟩,⟨some 16,.fadr 2,[.t 2],some (15,true),[10]⟩,⟨some 17,.load 1 false,[.t 16],some (15,true),[11,10]⟩,⟨some 18,.mv,[.t 1],some (15,true),[10]⟩,⟨some 19,.call 101,[.t 18],some (15,true),[13,10,10]⟩,⟨some 20,.call 100,[.t 17,.t 19],some (15,true),[12,14,14,10]⟩,⟨some 21,.pick,[.t 15,.t 20,.c (.b false)],none,[10,15]⟩,⟨some 4,.mv,[.t 21],none,[16,15,0,1,2,3,4,5,6,7,8,9,10,11,12,13,14,15,16]⟩]) .ret)
def rs156 : List RV := [.tmp 4]
theorem fact156 : compF Try.prog 92 = some (ac156,rs156,22) := by kernel_rfl
theorem pure124 (p : Per) : Pure Try.prog 62 [p.pv] (.i .i64 (chkPer p)) := by
  refine pure_by fact124 (by simp) fun hw X hX => ?_
  unfold ac124 rs124
  have qe := @qR; repeat' first | (show Run _ (.cond _ _ _) _ _; refine run_condX (fun hc => ?_) (fun hc => ?_) <;> (try simp only [qH, rng_0] at hc) <;> try contradiction) | (show RunOps _ _ _ _ (⟨_, .call 84, _, _, _⟩ :: _) _ _; refine run_callX (hf := pure147 _) (hn := ?_)) | (show RunOps _ _ _ _ (⟨_, .call 83, _, _, _⟩ :: _) _ _; refine run_callX (hf := pure146 [_, _]) (hn := ?_)) | (first | refine Stp.h ?_ | (show ∀ K : St → List Ft → Prop, _; intro K hK) | (show runS _ _ _ _ _; first | refine qY (hq := ?_) | refine qZ (hq := ?_)) | (refine hK _ _ ?_; clear hK K) | (refine hK _ _ rfl ?_; clear hK K) | (refine qZ (hq := ?_); try exact trivial) | omega)
  · have : chkPer p = firstE ([rng p.fro 0 99999, rng p.to 0 99999] ++ [if p.to < p.fro then 11 else 0, if 400 < p.to - p.fro then 4 else 0, rng p.days 1 127]) := rfl
    rw [this, firstE_app' hc]; exact .refl _
  · have h1 := hc
    simp only [firstE_cons, rng_0] at h1
    have qe := @qR; repeat' first | (show Run _ (.cond _ _ _) _ _; refine run_condX (fun hc => ?_) (fun hc => ?_) <;> (try simp only [qH, rng_0] at hc) <;> try contradiction) | (show RunOps _ _ _ _ (⟨_, .call 85, _, _, _⟩ :: _) _ _; refine run_callX (hf := pure148 _ _) (hn := ?_)) | (show RunOps _ _ _ _ (⟨_, .call 86, _, _, _⟩ :: _) _ _; refine run_callX (hf := pure149 _ _ _) (hn := ?_)) | (show RunOps _ _ _ _ (⟨_, .call 83, _, _, _⟩ :: _) _ _; refine run_callX (hf := pure146 [_, _, _]) (hn := ?_)) | (first | refine Stp.h ?_ | (show ∀ K : St → List Ft → Prop, _; intro K hK) | (show runS _ _ _ _ _; first | refine qY (hq := ?_) | refine qZ (hq := ?_)) | (refine hK _ _ ?_; clear hK K) | (refine hK _ _ rfl ?_; clear hK K) | (refine qZ (hq := ?_); try exact trivial) | omega)
    have : chkPer p = firstE ([rng p.fro 0 99999, rng p.to 0 99999] ++ [if p.to < p.fro then 11 else 0, if 400 < p.to - p.fro then 4 else 0, rng p.days 1 127]) := rfl
    rw [this, firstE_app hc]; exact .refl _
theorem pure156 (p : Per) (d : Int) (h0 : 0 ≤ d) (h1 : d ≤ 99999) (h2 : 0 ≤ p.days) (h3 : p.days < 128) : Pure Try.prog 92 [p.pv, .i .i64 d] (.b (hasD p d)) := by
  refine pure_by fact156 (by simp) fun hw X hX => ?_
  unfold ac156 rs156
  have qe := @qR; repeat' first | (show Run _ (.cond _ _ _) _ _; refine run_condX (fun hc => ?_) (fun hc => ?_) <;> (try simp only [qH, rng_0] at hc) <;> try contradiction) | (show RunOps _ _ _ _ (⟨_, .call 101, _, _, _⟩ :: _) _ _; refine run_callGX (hf := fun hc => (by first | exact pure162 _ h0 h1 | (simp only [qH, rng_0] at hc; exact pure162 _ h0 h1))) (hn := ?_)) | (show RunOps _ _ _ _ (⟨_, .call 100, _, _, _⟩ :: _) _ _; refine run_callGX (hf := fun hc => (by first | exact pure161 p.days ((d + 5) % 7) h2 h3 (by omega) (by omega) | (simp only [qH, rng_0] at hc; exact pure161 p.days ((d + 5) % 7) h2 h3 (by omega) (by omega)))) (hn := ?_)) | (first | refine Stp.h ?_ | (show ∀ K : St → List Ft → Prop, _; intro K hK) | (show runS _ _ _ _ _; first | refine qY (hq := ?_) | refine qZ (hq := ?_)) | (refine hK _ _ ?_; clear hK K) | (refine hK _ _ rfl ?_; clear hK K) | (refine qZ (hq := ?_); try exact trivial) | omega)
  all_goals exact .refl _
theorem take_snoc {α β : Type} {l : List α} {k : Nat} {d : α} (f : α → β) (h : l[k]? = some d) : (l.take (k + 1)).map f = (l.take k).map f ++ [f d] := by
  rw [List.take_add_one, h]; simp
theorem take_len {α : Type} {l : List α} {k : Nat} {d : α} (h : l[k]? = some d) : (l.take k).length = k := by
  have := (List.getElem?_eq_some_iff.1 h).1
  simp; omega
theorem daysL_len (p : Per) : (daysL p).length ≤ (p.to - p.fro + 1).toNat := by
  unfold daysL
  generalize (p.to - p.fro + 1).toNat = n
  induction n with
  | zero => simp
  | succ n ih => rw [range_next, List.length_append]; split <;> simp only [List.length_cons, List.length_nil] <;> omega
end Go.Proofs.Ytcfbdeghmckelaa
namespace Go.Proofs.Ytcfbdeghmckelaa
open Go.RowKit
set_option maxRecDepth 100000
set_option linter.unusedVariables false
set_option linter.unusedSimpArgs false
abbrev chAt (s : ByteArray) (i : Nat) : Int := ((s[i]?.getD 0).toNat : Int)
def letCh (c : Int) : Bool := decide (65 ≤ c) && decide (c ≤ 90) || decide (97 ≤ c) && decide (c ≤ 122)
def nameCh (i : Nat) (c : Int) : Bool := letCh c || !(decide (i = 0)) && (decide (c = 95) || decide (48 ≤ c) && decide (c ≤ 57))
def isName (s : ByteArray) : Bool := !(decide (s.size = 0) || decide (24 < s.size)) && (List.range s.size).all fun i => nameCh i (chAt s i)
theorem isName_long {s : ByteArray} (h : (s.size : Int) = 0 ∨ 24 < (s.size : Int)) : isName s = false := by
  have : (decide (s.size = 0) || decide (24 < s.size)) = true := by simp only [Bool.or_eq_true, decide_eq_true_eq]; omega
  simp only [isName, this, Bool.not_true, Bool.false_and]
theorem isName_yes {s : ByteArray} {i : Nat} (h : ¬ (s.size : Int) = 0 ∧ (s.size : Int) ≤ 24) (hi : i ≤ s.size ∧ ∀ j < i, nameCh j (chAt s j) = true) (he : ¬ i < s.size) : isName s = true := by
  have : (decide (s.size = 0) || decide (24 < s.size)) = false := by simp only [Bool.or_eq_false_iff, decide_eq_false_iff_not]; omega
  simp only [isName, this, Bool.not_false, Bool.true_and, List.all_eq_true, List.mem_range]
  exact fun j hj => hi.2 j (by omega)
theorem isName_no {s : ByteArray} {i : Nat} (hi : i < s.size) (hn : nameCh i (chAt s i) = false) : isName s = false := by
  cases h : isName s
  · rfl
  · simp only [isName, Bool.and_eq_true, List.all_eq_true, List.mem_range] at h
    rw [h.2 i hi] at hn; exact hn
theorem dec_cases (s : ByteArray) (i : Nat) (h : i < s.size) : ((Utf8.decode s i).1 : Int) = chAt s i ∧ chAt s i < 128 ∧ (Utf8.decode s i).2 = 1 ∨ 128 ≤ ((Utf8.decode s i).1 : Int) ∧ 128 ≤ chAt s i ∧ 1 ≤ (Utf8.decode s i).2 := by
  have e : chAt s i = ((s[i]'h).toNat : Int) := by simp only [chAt, getElem?_pos s i h, Option.getD_some]
  by_cases ha : (s[i]'h).toNat < 128
  · have := decode_ascii s i h ha
    left; rw [this, e]; simp; omega
  · have := decode_high s i h (by omega)
    right; rw [e]; omega
def ac70 : AC := .seq (.ops false [⟨some 2,.mv,[.c (.b false)],none,[]⟩]) (.seq (.seq (.ops false [⟨some 6,.mv,[.t 0],none,[]⟩,⟨some 7,.len true,[.t 6],none,[0]⟩,⟨some 8,.bin .eql,[.t 7,.c (.i .i64 0)],none,[1]⟩,⟨some 9,.mv,[.t 8],none,[2]⟩,⟨some 10,.mv,[.t 0],some (9,false),[3]⟩,⟨some 11,.len true,[.t 10],some (9,false),[4,3]⟩,⟨some 12,.bin .gtr,[.t 11,.c (.i .i64 24)],some (9,false),[5,3]⟩,⟨some 13,.pick,[.t 9,.c (.b true),.t 12],none,[3,6]⟩]) (.cond (.t 13) (.seq (.ops false [⟨some 2,.mv,[.c (.b false)],none,[]⟩]) .ret) .skip)) (.seq (.seq (.ops false [⟨some 3,.mv,[.c (.i .i64 0)],none,[]⟩]) (.block 0 (.loop (.seq (.seq (.ops false [⟨some 14,.mv,[.t 3],none,[]⟩,⟨some 15,.mv,[.t 0],none,[]⟩,⟨some 16,.len true,[.t 15],none,[1]⟩,⟨some 17,.bin .lss,[.t 14,.t 16],none,[0,2]⟩]) (.cond (.t 17) .skip (.exit 0))) (.seq (.block 1 (.seq (.ops false [⟨some 20,.mv,[.t 0],none,[]⟩,⟨some 21,.mv,[.t 3],none,[]⟩,⟨some 22,.idxS,[.t 20,.t 21],none,[0,1]⟩,⟨some 4,.mv,[.t 22],none,[2,0,1,2]⟩]) (.seq (.ops false [⟨some 23,.mv,[.t 4],none,[]⟩,⟨some 24,.bin .geq,[.t 23,.c (.i .u8 97)],none,[0]⟩,⟨some 25,.mv,[.t 24],none,[1]⟩,⟨some 26,.mv,[.t 4],some (25,true),[2]⟩,⟨some 27,.bin .leq,[.t 26,.c (.i .u8 122)],some (25,true),[3,2]⟩,⟨some 28,.pick,[.t 25,.t 27,.c (.b false)],none,[2,4]⟩,⟨some 29,.mv,[.t 28],none,[5,2]⟩,⟨some 30,.mv,[.t 4],some (29,false),[6]⟩,⟨some 31,.bin .geq,[.t 30,.c (.i .u8 65)],some (29,false),[7,6]⟩,⟨some 32,.mv,[.t 31],some (29,false),[8,6,6]⟩,⟨some 33,.mv,[.t 4],some (32,true),[9]⟩,⟨some 34,.bin .leq,[.t 33,.c (.i .u8 90)],some (32,true),[10,9]⟩,⟨some 35,.pick,[.t 32,.t 34,.c (.b false)],some (29,false),[9,11,6]⟩,⟨some 36,.pick,[.t 29,.c (.b true),.t 35],none,[6,12]⟩,⟨some 5,.mv,[.t 36],none,[13,9,0,1,2,3,4,5,6,7,8,9,10,11,12,13]⟩]) (.seq (.ops false [⟨some 37,.mv,[.t 5],none,[]⟩,⟨some 38,.not,[.t 37],none,[0]⟩,⟨some 39,.mv,[.t 38],none,[1]⟩,⟨some 40,.mv,[.t 3],some (39,true),[2]⟩,⟨some 41,.bin .eql,[.t 40,.c (.i .i64 0)],some (39,true),[3,2]⟩,⟨some 42,.mv,[.t 41],some (39,true),[4,2,2]⟩,⟨some 43,.mv,[.t 4],some (42,false),[5]⟩,⟨some 44,.bin .neq,[.t 43,.c (.i .u8 95)],some (42,false),[6,5]⟩,⟨some 45,.mv,[.t 44],some (42,false),[7,5,5]⟩,⟨some 46,.mv,[.t 4],some (45,true),[8]⟩,⟨some 47,.bin .lss,[.t 46,.c (.i .u8 48)],some (45,true),[9,8]⟩,⟨some 48,.mv,[.t 47],some (45,true),[10,8,8]⟩,⟨some 49,.mv,[.t 4],some (48,false),[11]⟩,⟨some 50,.bin .gtr,[.t 49,.c (.i .u8 57)],some (48,false),[12,11]⟩,⟨some 51,.pick,[.t 48,.c (.b true),.t 50],some (45,true),[11,13,8]⟩,⟨some 52,.pick,[.t 45,.t 51,.c (.b false)],some (42,false),[8,14,5]⟩,⟨some 53,.pick,[.t 42,.c (.b true),.t 52],some (39,true),[5,15,2]⟩,⟨some 54,.pick,[.t 39,.t 53,.c (.b false)],none,[2,16]⟩]) (.cond (.t 54) (.seq (.ops false [⟨some 2,.mv,[.c (.b false)],none,[]⟩]) .ret) .skip))))) (.ops false [⟨some 18,.mv,[.t 3],none,[]⟩,⟨some 19,.bin .add,[.t 18,.c (.i .i64 1)],none,[0]⟩,⟨some 3,.mv,[.t 19],none,[1,0,1]⟩])))))) (.seq (.ops false [⟨some 2,.mv,[.c (.b true)],none,[]⟩]) .ret)))
def rs70 : List RV := [.tmp 2]
theorem fact70 : compF Try.prog 68 = some (ac70,rs70,55) := by kernel_rfl
def ac109 : AC := .seq (.ops false [⟨some 2,.mv,[.c (.b false)],none,[]⟩]) (.seq (.seq (.ops false [⟨some 6,.mv,[.t 0],none,[]⟩,⟨some 7,.len true,[.t 6],none,[0]⟩,⟨some 8,.bin .eql,[.t 7,.c (.i .i64 0)],none,[1]⟩,⟨some 9,.mv,[.t 8],none,[2]⟩,⟨some 10,.mv,[.t 0],some (9,false),[3]⟩,⟨some 11,.len true,[.t 10],some (9,false),[4,3]⟩,⟨some 12,.bin .gtr,[.t 11,.c (.i .i64 24)],some (9,false),[5,3]⟩,⟨some 13,.pick,[.t 9,.c (.b true),.t 12],none,[3,6]⟩]) (.cond (.t 13) (.seq (.ops false [⟨some 2,.mv,[.c (.b false)],none,[]⟩]) .ret) .skip)) (.seq (.seq (.ops false [⟨some 14,.mv,[.t 0],none,[]⟩,⟨some 15,.range,[.t 14],none,[0]⟩]) (.block 0 (.loop (.seq (.ops false [⟨some 16,.next,[.t 15],none,[]⟩,⟨some 17,.ext 0,[.t 16],none,[0]⟩]) (.seq (.cond (.t 17) .skip (.exit 0)) (.block 1 (.seq (.ops false [⟨some 18,.ext 1,[.t 16],none,[]⟩,⟨some 19,.ext 2,[.t 16],none,[]⟩,⟨some 3,.mv,[.t 18],none,[0,0]⟩,⟨some 4,.mv,[.t 19],none,[1,2,0,1,2]⟩]) (.seq (.ops false [⟨some 20,.mv,[.t 4],none,[]⟩,⟨some 21,.bin .geq,[.t 20,.c (.i .i32 65)],none,[0]⟩,⟨some 22,.mv,[.t 21],none,[1]⟩,⟨some 23,.mv,[.t 4],some (22,true),[2]⟩,⟨some 24,.bin .leq,[.t 23,.c (.i .i32 90)],some (22,true),[3,2]⟩,⟨some 25,.pick,[.t 22,.t 24,.c (.b false)],none,[2,4]⟩,⟨some 26,.mv,[.t 25],none,[5,2]⟩,⟨some 27,.mv,[.t 4],some (26,false),[6]⟩,⟨some 28,.bin .geq,[.t 27,.c (.i .i32 97)],some (26,false),[7,6]⟩,⟨some 29,.mv,[.t 28],some (26,false),[8,6,6]⟩,⟨some 30,.mv,[.t 4],some (29,true),[9]⟩,⟨some 31,.bin .leq,[.t 30,.c (.i .i32 122)],some (29,true),[10,9]⟩,⟨some 32,.pick,[.t 29,.t 31,.c (.b false)],some (26,false),[9,11,6]⟩,⟨some 33,.pick,[.t 26,.c (.b true),.t 32],none,[6,12]⟩,⟨some 5,.mv,[.t 33],none,[13,9,0,1,2,3,4,5,6,7,8,9,10,11,12,13]⟩]) (.seq (.ops false [⟨some 34,.mv,[.t 5],none,[]⟩,⟨some 35,.not,[.t 34],none,[0]⟩,⟨some 36,.mv,[.t 35],none,[1]⟩,⟨some 37,.mv,[.t 3],some (36,true),[2]⟩,⟨some 38,.bin .eql,[.t 37,.c (.i .i64 0)],some (36,true),[3,2]⟩,⟨some 39,.mv,[.t 38],some (36,true),[4,2,2]⟩,⟨some 40,.mv,[.t 4],some (39,false),[5]⟩,⟨some 41,.bin .neq,[.t 40,.c (.i .i32 95)],some (39,false),[6,5]⟩,⟨some 42,.mv,[.t 41],some (39,false),[7,5,5]⟩,⟨some 43,.mv,[.t 4],some (42,true),[8]⟩,⟨some 44,.bin .lss,[.t 43,.c (.i .i32 48)],some (42,true),[9,8]⟩,⟨some 45,.mv,[.t 44],some (42,true),[10,8,8]⟩,⟨some 46,.mv,[.t 4],some (45,false),[11]⟩,⟨some 47,.bin .gtr,[.t 46,.c (.i .i32 57)],some (45,false),[12,11]⟩,⟨some 48,.pick,[.t 45,.c (.b true),.t 47],some (42,true),[11,13,8]⟩,⟨some 49,.pick,[.t 42,.t 48,.c (.b false)],some (39,false),[8,14,5]⟩,⟨some 50,.pick,[.t 39,.c (.b true),.t 49],some (36,true),[5,15,2]⟩,⟨some 51,.pick,[.t 36,.t 50,.c (.b false)],none,[2,16]⟩]) (.cond (.t 51) (.seq (.ops false [⟨some 2,.mv,[.c (.b false)],none,[]⟩]) .ret) .skip)))))))))) (.seq (.ops false [⟨some 2,.mv,[.c (.b true)],none,[]⟩]) .ret)))
def rs109 : List RV := [.tmp 2]
theorem fact109 : compF Try.prog 60 = some (ac109,rs109,52) := by kernel_rfl
theorem pure70 (x : ByteArray) : Pure Try.prog 68 [.s x] (.b (isName x)) := by
  refine pure_by fact70 (by simp) fun hw X hX => ?_
  unfold ac70 rs70
  simp only [wfs, PV.wf, maxLen] at hw
  repeat' first | (show Run _ (.cond _ _ _) _ _; refine run_condX (fun hc => ?_) (fun hc => ?_) <;> (try simp only [qH, rng_0] at hc) <;> try contradiction) | (first | refine Stp.h ?_ | (show ∀ K : St → List Ft → Prop, _; intro K hK) | (show runS _ _ _ _ _; first | refine qY (hq := ?_) | refine qZ (hq := ?_)) | (refine hK _ _ ?_; clear hK K) | (refine hK _ _ rfl ?_; clear hK K) | (refine qZ (hq := ?_); try exact trivial) | omega)
  · rw [isName_long hc]; exact .refl _
  refine run_loop (κ := Nat) (fun i => ⟨[(0, .p (.s x)), (3, .p (.i .i64 i))], [], [], false⟩) (fun i => i ≤ x.size ∧ ∀ j < i, nameCh j (chAt x j) = true) (fun i => x.size - i) 0 ?_ ?_ ?_
  · simp only [qS, Nat.reduceAdd, Nat.reduceMul, Nat.reduceEqDiff, Nat.reduceLeDiff, reduceIte, reduceCtorEq, Nat.reduceBEq, Nat.reduceLT] <;> rfl
  · simp
  · intro i hi
    repeat' first | (show Run _ (.cond _ _ _) _ _; refine run_condX (fun hc => ?_) (fun hc => ?_) <;> (try simp only [qH, rng_0] at hc) <;> try contradiction) | (first | refine Stp.h ?_ | (show ∀ K : St → List Ft → Prop, _; intro K hK) | (show runS _ _ _ _ _; first | refine qY (hq := ?_) | refine qZ (hq := ?_)) | (refine hK _ _ ?_; clear hK K) | (refine hK _ _ rfl ?_; clear hK K) | (refine qZ (hq := ?_); try exact trivial) | omega)
    · rw [isName_no (i := i) (by omega)]; exact .refl _
      simp only [nameCh, letCh, chAt]; simp; omega
    · refine ⟨i + 1, ⟨by omega, fun j hj => ?_⟩, by omega, by simp⟩
      by_cases e : j = i
      · subst e; simp only [nameCh, letCh, chAt]; simp; omega
      · exact hi.2 j (by omega)
    · rw [isName_yes ‹_› hi (by omega)]; exact .refl _
theorem pure109 (x : ByteArray) : Pure Try.prog 60 [.s x] (.b (isName x)) := by
  refine pure_by fact109 (by simp) fun hw X hX => ?_
  unfold ac109 rs109
  simp only [wfs, PV.wf, maxLen] at hw
  repeat' first | (show Run _ (.cond _ _ _) _ _; refine run_condX (fun hc => ?_) (fun hc => ?_) <;> (try simp only [qH, rng_0] at hc) <;> try contradiction) | (first | refine Stp.h ?_ | (show ∀ K : St → List Ft → Prop, _; intro K hK) | (show runS _ _ _ _ _; first | refine qY (hq := ?_) | refine qZ (hq := ?_)) | (refine hK _ _ ?_; clear hK K) | (refine hK _ _ rfl ?_; clear hK K) | (refine qZ (hq := ?_); try exact trivial) | omega)
  · rw [isName_long hc]; exact .refl _
  refine run_loop (κ := Nat) (fun i => ⟨[(0, .p (.s x)), (15, .it 15)], [(15, .sit x i)], [], false⟩) (fun i => i ≤ x.size ∧ ∀ j < i, nameCh j (chAt x j) = true) (fun i => x.size - i) 0 ?_ ?_ ?_
  · simp only [qS, Nat.reduceAdd, Nat.reduceMul, Nat.reduceEqDiff, Nat.reduceLeDiff, reduceIte, reduceCtorEq, Nat.reduceBEq, Nat.reduceLT] <;> rfl
  · simp
  · intro i hi
    by_cases hlt : i < x.size
    · have qe := And.intro @nextV.eq_1 (And.intro @nextP.eq_1 (And.intro @hlt @maxLen.eq_1)); repeat' first | (show Run _ (.cond _ _ _) _ _; refine run_condX (fun hc => ?_) (fun hc => ?_) <;> (try simp only [qH, rng_0] at hc) <;> try contradiction) | (first | refine Stp.h ?_ | (show ∀ K : St → List Ft → Prop, _; intro K hK) | (show runS _ _ _ _ _; first | refine qY (hq := ?_) | refine qZ (hq := ?_)) | (refine hK _ _ ?_; clear hK K) | (refine hK _ _ rfl ?_; clear hK K) | (refine qZ (hq := ?_); try exact trivial) | omega)
      · rw [isName_no hlt]; exact .refl _
        have := dec_cases x i hlt
        simp only [nameCh, letCh, chAt] at this ⊢; simp; omega
      · have hd := dec_cases x i hlt
        have h1 : chAt x i < 128 ∧ (Utf8.decode x i).2 = 1 := by omega
        refine ⟨i + 1, ⟨by omega, fun j hj => ?_⟩, by omega, by rw [h1.2]⟩
        by_cases e : j = i
        · subst e; simp only [nameCh, letCh, chAt] at hd h1 ⊢; simp; omega
        · exact hi.2 j (by omega)
    · have qe := And.intro @nextV.eq_1 (And.intro @nextP.eq_1 (And.intro @hlt @maxLen.eq_1)); repeat' first | (show Run _ (.cond _ _ _) _ _; refine run_condX (fun hc => ?_) (fun hc => ?_) <;> (try simp only [qH, rng_0] at hc) <;> try contradiction) | (first | refine Stp.h ?_ | (show ∀ K : St → List Ft → Prop, _; intro K hK) | (show runS _ _ _ _ _; first | refine qY (hq := ?_) | refine qZ (hq := ?_)) | (refine hK _ _ ?_; clear hK K) | (refine hK _ _ rfl ?_; clear hK K) | (refine qZ (hq := ?_); try exact trivial) | omega)
      rw [isName_yes ‹_› hi (by omega)]; exact .refl _
end Go.Proofs.Ytcfbdeghmckelaa
namespace Go.Proofs.Ytcfbdeghmckelaa
open Go.RowKit
set_option maxRecDepth 100000
set_option linter.unusedVariables false
set_option linter.unusedSimpArgs false
def dayT (p : Per) (k : Nat) : List (List PV) := if inM p.days ((p.fro + k + 5) % 7) then [[.i .i64 (p.fro + k)]] else []
def daysT (p : Per) (n : Nat) : List (List PV) := (List.range n).flatMap (dayT p)
theorem daysT_eq (p : Per) : daysT p (p.to - p.fro + 1).toNat = (daysL p).map fun d => [.i .i64 d] := by
  simp only [daysT, dayT, daysL, List.map_flatMap]
  congr 1; funext k; simp only [dayT]; split <;> rfl
def ac160 : AC := .seq (.ops false [⟨some 4,.fadr 0,[.t 1],none,[]⟩,⟨some 5,.load 1 false,[.t 4],none,[0]⟩,⟨some 3,.mv,[.t 5],none,[1,0,1]⟩]) (.block 0 (.loop (.seq (.seq (.ops false [⟨some 6,.mv,[.t 3],none,[]⟩,⟨some 7,.fadr 1,[.t 1],none,[]⟩,⟨some 8,.load 1 false,[.t 7],none,[1]⟩,⟨some 9,.bin .leq,[.t 6,.t 8],none,[0,2]⟩]) (.cond (.t 9) .skip (.exit 0))) (.seq (.block 1 (.seq (.ops true [⟨some 12,.fadr 2,[.t 1],none,[]⟩,⟨some 13,.load 1 false,[.t 12],none,[0]⟩,⟨some 14,.mv,[.t 3],none,[]⟩,⟨some 15,.call 101,[.t 14],none,[2]⟩,⟨some 16,.call 100,[.t 13,.t 15],none,[1,3,3]⟩,⟨some 17,.mv,[.t 16],none,[4,4]⟩,⟨some 18,.mv,[.t 0],some (17,true),[5]⟩,⟨some 19,.mv,[.t 3],some (17,true),[5]⟩,⟨some 20,.callv,[.t 18,.t 19],some (17,true),[6,7,5,5]⟩,⟨some 21,.not,[.t 20],some (17,true),[8,5]⟩,⟨some 22,.pick,[.t 17,.t 21,.c (.b false)],none,[5,9]⟩]) (.cond (.t 22) .ret .skip))) (.ops false [⟨some 10,.mv,[.t 3],none,[]⟩,⟨some 11,.bin .add,[.t 10,.c (.i .i64 1)],none,[0]⟩,⟨some 3,.mv,[.t 11],none,[1,0,1]⟩])))))
def rs160 : List RV := []
theorem fact160 : compF Try.prog 102 = some (ac160,rs160,23) := by kernel_rfl
def ac150 : AC := .seq (.ops false [⟨some 3,.box,[.t 1],none,[]⟩,⟨some 4,.mv,[.c .nilsl],none,[]⟩]) (.seq (.ops false [⟨some 5,.alloc [.nilsl],[],none,[]⟩]) (.seq (.seq (.ops false [⟨some 7,.mv,[.t 0],none,[]⟩]) (.block 0 (.rfunc (.t 7) [8] (.ops false [⟨some 6,.mv,[.t 8],none,[]⟩]) (.block 1 (.seq (.ops false [⟨some 9,.load 1 false,[.t 3],none,[]⟩,⟨some 10,.mv,[.t 6],none,[]⟩,⟨some 11,.callv,[.t 9,.t 10],none,[0,1]⟩]) (.cond (.t 11) (.ops false [⟨some 12,.load 1 false,[.t 5],none,[]⟩,⟨some 13,.mv,[.t 6],none,[]⟩,⟨some 14,.bslice 3 1 (.i .i64 0) 1 [0],[.t 13],none,[1]⟩,⟨some 15,.app 3 1 8,[.t 12,.t 14],none,[0,2]⟩,⟨none,.store 1,[.t 5,.t 15],none,[3,3,0,1,2,3]⟩]) .skip)))))) (.seq (.ops false [⟨some 16,.load 1 false,[.t 5],none,[]⟩,⟨some 4,.mv,[.t 16],none,[0,0]⟩]) .ret)))
def rs150 : List RV := [.tmp 4]
theorem fact150 : compF Try.prog 93 = some (ac150,rs150,17) := by kernel_rfl
def ac151 : AC := .seq (.ops false [⟨some 1,.box,[.t 0],none,[]⟩,⟨some 2,.mv,[.c .nilf],none,[]⟩]) (.seq (.ops false [⟨some 3,.mkfn (.func 102) 0,[.t 1],none,[]⟩,⟨some 2,.mv,[.t 3],none,[0,0]⟩]) .ret)
def rs151 : List RV := [.tmp 2]
theorem fact151 : compF Try.prog 94 = some (ac151,rs151,4) := by kernel_rfl
def ac152 : AC := .seq (.ops false [⟨some 2,.mv,[.c (.b false)],none,[]⟩]) (.seq (.ops false [⟨some 2,.mv,[.c (.b true)],none,[]⟩]) .ret)
def rs152 : List RV := [.tmp 2]
theorem fact152 : compF Try.prog 95 = some (ac152,rs152,3) := by kernel_rfl
def ac126 : AC := .seq (.ops false [⟨some 1,.box,[.t 0],none,[]⟩,⟨some 2,.mv,[.c .nilsl],none,[]⟩,⟨some 3,.mv,[.c (.i .i64 0)],none,[1]⟩]) (.seq (.seq (.ops false [⟨some 5,.load 3 true,[.t 1],none,[]⟩,⟨some 6,.call 62,[.t 5],none,[0]⟩,⟨some 4,.mv,[.t 6],none,[1,1,0,1]⟩]) (.seq (.ops false [⟨some 7,.mv,[.t 4],none,[]⟩,⟨some 8,.bin .neq,[.t 7,.c (.i .i64 0)],none,[0]⟩]) (.cond (.t 8) (.seq (.ops false [⟨some 9,.mv,[.t 4],none,[]⟩,⟨some 2,.mv,[.c .nilsl],none,[]⟩,⟨some 3,.mv,[.t 9],none,[0,1,0,1]⟩]) .ret) .skip))) (.seq (.ops false [⟨some 10,.load 3 true,[.t 1],none,[]⟩,⟨some 11,.call 94,[.t 10],none,[0]⟩,⟨some 12,.call 93,[.t 11,.c (.fn (.func 95) [] [])],none,[1,1]⟩,⟨some 2,.mv,[.t 12],none,[2,2,0,1,2]⟩,⟨some 3,.mv,[.c (.i .i64 0)],none,[3,0,1,2,3]⟩]) .ret))
def rs126 : List RV := [.tmp 2,.tmp 3]
theorem fact126 : compF Try.prog 78 = some (ac126,rs126,13) := by kernel_rfl
def ac132 : AC := .seq (.ops false [⟨some 2,.box,[.t 0],none,[]⟩,⟨some 4,.mv,[.c (.b false)],none,[]⟩,⟨some 5,.mv,[.c (.i .i64 0)],none,[1]⟩]) (.seq (.seq (.ops false [⟨some 7,.load 3 true,[.t 2],none,[]⟩,⟨some 8,.call 62,[.t 7],none,[0]⟩,⟨some 9,.mv,[.t 1],none,[]⟩,⟨some 10,.call 84,[.t 9],none,[2,1]⟩,⟨some 11,.bslice 29 1 (.i .i64 0) 2 [0,1],[.t 8,.t 10],none,[1,3]⟩,⟨some 12,.call 83,[.t 11],none,[4,3]⟩,⟨some 6,.mv,[.t 12],none,[5,5,0,1,2,3,4,5]⟩]) (.seq (.ops false [⟨some 13,.mv,[.t 6],none,[]⟩,⟨some 14,.bin .neq,[.t 13,.c (.i .i64 0)],none,[0]⟩]) (.cond (.t 14) (.seq (.ops false [⟨some 15,.mv,[.t 6],none,[]⟩,⟨some 4,.mv,[.c (.b false)],none,[]⟩,⟨some 5,.mv,[.t 15],none,[0,1,0,1]⟩]) .ret) .skip))) (.seq (.ops false [⟨some 16,.load 3 true,[.t 2],none,[]⟩,⟨some 17,.mv,[.t 1],none,[]⟩,⟨some 18,.call 92,[.t 16,.t 17],none,[0,1]⟩,⟨some 4,.mv,[.t 18],none,[2,2,0,1,2]⟩,⟨some 5,.mv,[.c (.i .i64 0)],none,[3,0,1,2,3]⟩]) .ret))
def rs132 : List RV := [.tmp 4,.tmp 5]
theorem fact132 : compF Try.prog 72 = some (ac132,rs132,19) := by kernel_rfl
theorem iter160 (p : Per) (h : chkPer p = 0) : Iter Try.prog 102 [.ip p.pv 0] ((daysL p).map fun d => [.i .i64 d]) := by
  have hp := chkPer_0 h
  rw [← daysT_eq]
  refine iter_by fact160 (by simp) fun hw X hX => ?_
  unfold ac160
  simp only [iterSt]
  repeat' first | (show Run _ (.cond _ _ _) _ _; refine run_condX (fun hc => ?_) (fun hc => ?_) <;> (try simp only [qH, rng_0] at hc) <;> try contradiction) | (first | refine Stp.h ?_ | (show ∀ K : St → List Ft → Prop, _; intro K hK) | (show runS _ _ _ _ _; first | refine qY (hq := ?_) | refine qZ (hq := ?_)) | (refine hK _ _ ?_; clear hK K) | (refine hK _ _ rfl ?_; clear hK K) | (refine qZ (hq := ?_); try exact trivial) | omega)
  refine run_loop (κ := Nat) (fun k => ⟨[(0, .yield), (1, .p (.ip p.pv 0)), (3, .p (.i .i64 (p.fro + k)))], [], daysT p k, false⟩) (fun k => k ≤ (p.to - p.fro + 1).toNat) (fun k => (p.to - p.fro + 1).toNat - k) 0 ?_ ?_ ?_
  · simp only [qS, Nat.reduceAdd, Nat.reduceMul, Nat.reduceEqDiff, Nat.reduceLeDiff, reduceIte, reduceCtorEq, Nat.reduceBEq, Nat.reduceLT] <;> simp [daysT]
  · simp
  · intro k hk
    repeat' first | (show Run _ (.cond _ _ _) _ _; refine run_condX (fun hc => ?_) (fun hc => ?_) <;> (try simp only [qH, rng_0] at hc) <;> try contradiction) | (first | refine Stp.h ?_ | (show ∀ K : St → List Ft → Prop, _; intro K hK) | (show runS _ _ _ _ _; first | refine qY (hq := ?_) | refine qZ (hq := ?_)) | (refine hK _ _ ?_; clear hK K) | (refine hK _ _ rfl ?_; clear hK K) | (refine qZ (hq := ?_); try exact trivial) | omega)
    · have hc' : k < (p.to - p.fro + 1).toNat := by omega
      have hs := range_split (dayT p) hc'
      by_cases hm : inM p.days ((p.fro + k + 5) % 7) = true
      · simp only [dayT, hm, if_true, List.singleton_append] at hs
        have qe := @hm; repeat' first | (show Run _ (.cond _ _ _) _ _; refine run_condX (fun hc => ?_) (fun hc => ?_) <;> (try simp only [qH, rng_0] at hc) <;> try contradiction) | (show RunOps _ _ _ _ (⟨_, .call 101, _, _, _⟩ :: _) _ _; refine run_callX (hf := pure162 _ (by omega) (by omega)) (hn := ?_)) | (show RunOps _ _ _ _ (⟨_, .call 100, _, _, _⟩ :: _) _ _; refine run_callX (hf := pure161 _ _ (by omega) (by omega) (by omega) (by omega)) (hn := ?_)) | (first | refine Stp.h ?_ | (show ∀ K : St → List Ft → Prop, _; intro K hK) | (show runS _ _ _ _ _; first | refine qY (hq := ?_) | refine qZ (hq := ?_)) | (refine hK _ _ ?_; clear hK K) | (refine hK _ _ rfl ?_; clear hK K) | (refine qZ (hq := ?_); try exact trivial) | omega)
        have qe := @hm; (show RunOps _ _ _ _ (⟨_, .callv, _, _, _⟩ :: _) _ _; refine run_yld (by first | rfl | (simp (disch := omega) only [qG, qe, Nat.reduceAdd, Nat.reduceMul, Nat.reduceEqDiff, Nat.reduceLeDiff, reduceIte, reduceCtorEq, Nat.reduceBEq, Nat.reduceLT] <;> rfl)) (by simp (disch := omega) only [qS, qe, Nat.reduceAdd, Nat.reduceMul, Nat.reduceEqDiff, Nat.reduceLeDiff, reduceIte, reduceCtorEq, Nat.reduceBEq, Nat.reduceLT]) (by simp (disch := omega) only [qS, qe, Nat.reduceAdd, Nat.reduceMul, Nat.reduceEqDiff, Nat.reduceLeDiff, reduceIte, reduceCtorEq, Nat.reduceBEq, Nat.reduceLT] <;> rfl) (by simp (disch := omega) only [qS, qe, Nat.reduceAdd, Nat.reduceMul, Nat.reduceEqDiff, Nat.reduceLeDiff, reduceIte, reduceCtorEq, Nat.reduceBEq, Nat.reduceLT]; try trivial) rfl _ (hs) ?_; intro b; (refine run_ops ?_))
        have qe := @hm; repeat' first | (show Run _ (.cond _ _ _) _ _; refine run_condX (fun hc => ?_) (fun hc => ?_) <;> (try simp only [qH, rng_0] at hc) <;> try contradiction) | (first | refine Stp.h ?_ | (show ∀ K : St → List Ft → Prop, _; intro K hK) | (show runS _ _ _ _ _; first | refine qY (hq := ?_) | refine qZ (hq := ?_)) | (refine hK _ _ ?_; clear hK K) | (refine hK _ _ rfl ?_; clear hK K) | (refine qZ (hq := ?_); try exact trivial) | omega)
        · subst hc; exact .inl rfl
        · subst hc; refine ⟨k + 1, by omega, by omega, by simp; omega, ?_, rfl⟩
          simp only [daysT, range_next, dayT, hm]; simp
      · simp only [Bool.not_eq_true] at hm
        have qe := @hm; repeat' first | (show Run _ (.cond _ _ _) _ _; refine run_condX (fun hc => ?_) (fun hc => ?_) <;> (try simp only [qH, rng_0] at hc) <;> try contradiction) | (show RunOps _ _ _ _ (⟨_, .call 101, _, _, _⟩ :: _) _ _; refine run_callX (hf := pure162 _ (by omega) (by omega)) (hn := ?_)) | (show RunOps _ _ _ _ (⟨_, .call 100, _, _, _⟩ :: _) _ _; refine run_callX (hf := pure161 _ _ (by omega) (by omega) (by omega) (by omega)) (hn := ?_)) | (show RunOps _ _ _ _ (⟨_, .callv, _, _, _⟩ :: _) _ _; refine run_callN (q := (.b false)) (by first | rfl | (simp (disch := omega) only [qG, qe, Nat.reduceAdd, Nat.reduceMul, Nat.reduceEqDiff, Nat.reduceLeDiff, reduceIte, reduceCtorEq, Nat.reduceBEq, Nat.reduceLT] <;> rfl)) ?_; (try (refine run_ops ?_))) | (first | refine Stp.h ?_ | (show ∀ K : St → List Ft → Prop, _; intro K hK) | (show runS _ _ _ _ _; first | refine qY (hq := ?_) | refine qZ (hq := ?_)) | (refine hK _ _ ?_; clear hK K) | (refine hK _ _ rfl ?_; clear hK K) | (refine qZ (hq := ?_); try exact trivial) | omega)
        refine ⟨k + 1, by omega, by omega, by simp; omega, ?_⟩
        simp only [daysT, range_next, dayT, hm]; simp
    · repeat' first | (show Run _ (.cond _ _ _) _ _; refine run_condX (fun hc => ?_) (fun hc => ?_) <;> (try simp only [qH, rng_0] at hc) <;> try contradiction) | (first | refine Stp.h ?_ | (show ∀ K : St → List Ft → Prop, _; intro K hK) | (show runS _ _ _ _ _; first | refine qY (hq := ?_) | refine qZ (hq := ?_)) | (refine hK _ _ ?_; clear hK K) | (refine hK _ _ rfl ?_; clear hK K) | (refine qZ (hq := ?_); try exact trivial) | omega)
      have e : k = (p.to - p.fro + 1).toNat := by omega
      subst e; exact .inr rfl
theorem pure152 (d : Int) : Pure Try.prog 95 [.i .i64 d] (.b true) := by
  refine pure_by fact152 (by simp) fun hw X hX => ?_
  unfold ac152 rs152
  repeat' first | (show Run _ (.cond _ _ _) _ _; refine run_condX (fun hc => ?_) (fun hc => ?_) <;> (try simp only [qH, rng_0] at hc) <;> try contradiction) | (first | refine Stp.h ?_ | (show ∀ K : St → List Ft → Prop, _; intro K hK) | (show runS _ _ _ _ _; first | refine qY (hq := ?_) | refine qZ (hq := ?_)) | (refine hK _ _ ?_; clear hK K) | (refine hK _ _ rfl ?_; clear hK K) | (refine qZ (hq := ?_); try exact trivial) | omega)
  exact .refl _
theorem pure151 (p : Per) : Pure Try.prog 94 [p.pv] (.fn (.func 102) [] [.ip p.pv 0]) := by
  refine pure_by fact151 (by simp) fun hw X hX => ?_
  unfold ac151 rs151
  repeat' first | (show Run _ (.cond _ _ _) _ _; refine run_condX (fun hc => ?_) (fun hc => ?_) <;> (try simp only [qH, rng_0] at hc) <;> try contradiction) | (first | refine Stp.h ?_ | (show ∀ K : St → List Ft → Prop, _; intro K hK) | (show runS _ _ _ _ _; first | refine qY (hq := ?_) | refine qZ (hq := ?_)) | (refine hK _ _ ?_; clear hK K) | (refine hK _ _ rfl ?_; clear hK K) | (refine qZ (hq := ?_); try exact trivial) | omega)
  exact .refl _
theorem pure150 (p : Per) (h : chkPer p = 0) : Pure Try.prog 93 [.fn (.func 102) [] [.ip p.pv 0], .fn (.func 95) [] []] (.sl 1 ((daysL p).map (.i .i64))) := by
  refine pure_by fact150 (by simp) fun hw X hX => ?_
  unfold ac150 rs150
  repeat' first | (show Run _ (.cond _ _ _) _ _; refine run_condX (fun hc => ?_) (fun hc => ?_) <;> (try simp only [qH, rng_0] at hc) <;> try contradiction) | (first | refine Stp.h ?_ | (show ∀ K : St → List Ft → Prop, _; intro K hK) | (show runS _ _ _ _ _; first | refine qY (hq := ?_) | refine qZ (hq := ?_)) | (refine hK _ _ ?_; clear hK K) | (refine hK _ _ rfl ?_; clear hK K) | (refine qZ (hq := ?_); try exact trivial) | omega)
  have hp := chkPer_0 h
  have hn := daysL_len p
  refine run_own 100 3 1 [(3, .lp 3 0), (5, .lp 5 0), (7, .p (.fn (.func 102) [] [.ip p.pv 0]))] [(3, .box [.p (.fn (.func 95) [] [])] false), (5, .box [.row 100 0] false)] ?_ ?_
  · simp only [Own, ownEnv, ownObj, nilTo, nilTos, qS, Nat.reduceAdd, Nat.reduceMul, Nat.reduceEqDiff, Nat.reduceLeDiff, reduceIte, reduceCtorEq, Nat.reduceBEq, Nat.reduceLT]
  refine run_rfunc rfl (iter160 p h) ?_ ?_ [(3, .lp 3 0), (5, .lp 5 0), (7, .p (.fn (.func 102) [] [.ip p.pv 0]))] (fun k => [(3, .box [.p (.fn (.func 95) [] [])] false), (5, .box [.row 100 k] false), (100, .row 3 1 (((daysL p).take k).map (.i .i64)) false)]) (fun _ => []) ?_ ?_ ?_
  · simp
  · simp [hX]
  · simp only [qS, Nat.reduceAdd, Nat.reduceMul, Nat.reduceEqDiff, Nat.reduceLeDiff, reduceIte, reduceCtorEq, Nat.reduceBEq, Nat.reduceLT]
  · intro k t ht X' ro' hX'
    simp only [List.getElem?_map, Option.map_eq_some_iff] at ht
    obtain ⟨d, hd, rfl⟩ := ht
    have hl := take_len hd
    have hk := (List.getElem?_eq_some_iff.1 hd).1
    simp only [qS, Nat.reduceAdd, Nat.reduceMul, Nat.reduceEqDiff, Nat.reduceLeDiff, reduceIte, reduceCtorEq, Nat.reduceBEq, Nat.reduceLT]
    repeat' first | (show Run _ (.cond _ _ _) _ _; refine run_condX (fun hc => ?_) (fun hc => ?_) <;> (try simp only [qH, rng_0] at hc) <;> try contradiction) | (first | refine Stp.h ?_ | (show ∀ K : St → List Ft → Prop, _; intro K hK) | (show runS _ _ _ _ _; first | refine qY (hq := ?_) | refine qZ (hq := ?_)) | (refine hK _ _ ?_; clear hK K) | (refine hK _ _ rfl ?_; clear hK K) | (refine qZ (hq := ?_); try exact trivial) | omega)
    intro X1 hX1
    have qe := And.intro qR (And.intro @hl (take_snoc (PV.i .i64) hd)); repeat' first | (show Run _ (.cond _ _ _) _ _; refine run_condX (fun hc => ?_) (fun hc => ?_) <;> (try simp only [qH, rng_0] at hc) <;> try contradiction) | (show RunOps _ _ _ _ (⟨_, .callv, _, _, _⟩ :: _) _ _; refine run_callVX (hf := pure152 _) (hn := ?_)) | (first | refine Stp.h ?_ | (show ∀ K : St → List Ft → Prop, _; intro K hK) | (show runS _ _ _ _ _; first | refine qY (hq := ?_) | refine qZ (hq := ?_)) | (refine hK _ _ ?_; clear hK K) | (refine hK _ _ rfl ?_; clear hK K) | (refine qZ (hq := ?_); try exact trivial) | omega)
  · simp only [List.length_map]
    have qe := @List.take_length.{0}; repeat' first | (show Run _ (.cond _ _ _) _ _; refine run_condX (fun hc => ?_) (fun hc => ?_) <;> (try simp only [qH, rng_0] at hc) <;> try contradiction) | (first | refine Stp.h ?_ | (show ∀ K : St → List Ft → Prop, _; intro K hK) | (show runS _ _ _ _ _; first | refine qY (hq := ?_) | refine qZ (hq := ?_)) | (refine hK _ _ ?_; clear hK K) | (refine hK _ _ rfl ?_; clear hK K) | (refine qZ (hq := ?_); try exact trivial) | omega)
    exact .refl _
theorem weak2 {a b c d : PV} (h1 : Weak a b) (h2 : Weak c d) : Weak (.tup [a, c]) (.tup [b, d]) := by
  refine .tup rfl fun j x y hx hy => ?_
  match j with
  | 0 => simp at hx hy; subst hx; subst hy; exact h1
  | 1 => simp at hx hy; subst hx; subst hy; exact h2
  | j + 2 => simp at hx
def daysR (p : Per) : List Int := if chkPer p = 0 then daysL p else []
theorem pure126 (p : Per) : Pure Try.prog 78 [p.pv] (.tup [.sl 1 ((daysR p).map (.i .i64)), .i .i64 (chkPer p)]) := by
  refine pure_by fact126 (by simp) fun hw X hX => ?_
  unfold ac126 rs126
  repeat' first | (show Run _ (.cond _ _ _) _ _; refine run_condX (fun hc => ?_) (fun hc => ?_) <;> (try simp only [qH, rng_0] at hc) <;> try contradiction) | (show RunOps _ _ _ _ (⟨_, .call 62, _, _, _⟩ :: _) _ _; refine run_callX (hf := pure124 _) (hn := ?_)) | (show RunOps _ _ _ _ (⟨_, .call 94, _, _, _⟩ :: _) _ _; refine run_callX (hf := pure151 _) (hn := ?_)) | (show RunOps _ _ _ _ (⟨_, .call 93, _, _, _⟩ :: _) _ _; refine run_callX (hf := pure150 p hc) (hn := ?_)) | (first | refine Stp.h ?_ | (show ∀ K : St → List Ft → Prop, _; intro K hK) | (show runS _ _ _ _ _; first | refine qY (hq := ?_) | refine qZ (hq := ?_)) | (refine hK _ _ ?_; clear hK K) | (refine hK _ _ rfl ?_; clear hK K) | (refine qZ (hq := ?_); try exact trivial) | omega)
  · rw [daysR, if_neg hc]; exact weak2 (.nilsl _) (.refl _)
  · rw [daysR, if_pos hc, hc]; exact .refl _
def hasE (p : Per) (d : Int) : Int := firstE [chkPer p, rng d 0 99999]
def hasB (p : Per) (d : Int) : Bool := decide (hasE p d = 0) && hasD p d
theorem pure132 (p : Per) (d : Int) : Pure Try.prog 72 [p.pv, .i .i64 d] (.tup [.b (hasB p d), .i .i64 (hasE p d)]) := by
  refine pure_by fact132 (by simp) fun hw X hX => ?_
  unfold ac132 rs132
  have qe := @qR; repeat' first | (show Run _ (.cond _ _ _) _ _; refine run_condX (fun hc => ?_) (fun hc => ?_) <;> (try simp only [qH, rng_0] at hc) <;> try contradiction) | (show RunOps _ _ _ _ (⟨_, .call 62, _, _, _⟩ :: _) _ _; refine run_callX (hf := pure124 _) (hn := ?_)) | (show RunOps _ _ _ _ (⟨_, .call 84, _, _, _⟩ :: _) _ _; refine run_callX (hf := pure147 _) (hn := ?_)) | (show RunOps _ _ _ _ (⟨_, .call 83, _, _, _⟩ :: _) _ _; refine run_callX (hf := pure146 [_, _]) (hn := ?_)) | (first | refine Stp.h ?_ | (show ∀ K : St → List Ft → Prop, _; intro K hK) | (show runS _ _ _ _ _; first | refine qY (hq := ?_) | refine qZ (hq := ?_)) | (refine hK _ _ ?_; clear hK K) | (refine hK _ _ rfl ?_; clear hK K) | (refine qZ (hq := ?_); try exact trivial) | omega)
  · have : hasE p d ≠ 0 := hc
    simp only [hasB, this, decide_false, Bool.false_and]; exact .refl _
  · have h0 : hasE p d = 0 := hc
    have h1 := h0
    simp only [hasE, firstE_cons, rng_0] at h1
    have hp := chkPer_0 h1.1
    repeat' first | (show Run _ (.cond _ _ _) _ _; refine run_condX (fun hc => ?_) (fun hc => ?_) <;> (try simp only [qH, rng_0] at hc) <;> try contradiction) | (show RunOps _ _ _ _ (⟨_, .call 92, _, _, _⟩ :: _) _ _; refine run_callX (hf := pure156 p d (by omega) (by omega) (by omega) (by omega)) (hn := ?_)) | (first | refine Stp.h ?_ | (show ∀ K : St → List Ft → Prop, _; intro K hK) | (show runS _ _ _ _ _; first | refine qY (hq := ?_) | refine qZ (hq := ?_)) | (refine hK _ _ ?_; clear hK K) | (refine hK _ _ rfl ?_; clear hK K) | (refine qZ (hq := ?_); try exact trivial) | omega)
    simp only [hasB, h0, decide_true, Bool.true_and]; exact .refl _
end Go.Proofs.Ytcfbdeghmckelaa
namespace Go.Proofs.Ytcfbdeghmckelaa
open Go.RowKit
set_option maxRecDepth 100000
set_option linter.unusedVariables false
set_option linter.unusedSimpArgs false
def ac82 : AC := .seq (.ops false [⟨some 1,.box,[.t 0],none,[]⟩,⟨some 2,.mv,[.c (.i .i64 0)],none,[]⟩]) (.seq (.seq (.ops false [⟨some 3,.fadr 0,[.t 1],none,[]⟩,⟨some 4,.load 1 false,[.t 3],none,[0]⟩,⟨some 5,.call 88,[.t 4],none,[1]⟩,⟨some 6,.bin .neq,[.t 5,.c (.i .i64 0)],none,[2]⟩,⟨some 7,.mv,[.t 6],none,[3,2]⟩,⟨some 8,.fadr 1,[.t 1],some (7,false),[4]⟩,⟨some 9,.load 1 false,[.t 8],some (7,false),[5,4]⟩,⟨some 10,.call 88,[.t 9],some (7,false),[6,4,4]⟩,⟨some 11,.bin .neq,[.t 10,.c (.i .i64 0)],some (7,false),[7,4]⟩,⟨some 12,.pick,[.t 7,.c (.b true),.t 11],none,[4,8]⟩]) (.cond (.t 12) (.seq (.ops false [⟨some 2,.mv,[.c (.i .i64 3)],none,[]⟩]) .ret) .skip)) (.seq (.seq (.ops false [⟨some 13,.fadr 1,[.t 1],none,[]⟩,⟨some 14,.load 1 false,[.t 13],none,[0]⟩,⟨some 15,.fadr 0,[.t 1],none,[]⟩,⟨some 16,.load 1 false,[.t 15],none,[2]⟩,⟨some 17,.bin .lss,[.t 14,.t 16],none,[1,3]⟩]) (.cond (.t 17) (.seq (.ops false [⟨some 2,.mv,[.c (.i .i64 11)],none,[]⟩]) .ret) .skip)) (.seq (.seq (.ops false [⟨some 18,.fadr 1,[.t 1],none,[]⟩,⟨some 19,.load 1 false,[.t 18],none,[0]⟩,⟨some 20,.fadr 0,[.t 1],none,[]⟩,⟨some 21,.load 1 false,[.t 20],none,[2]⟩,⟨some 22,.bin .sub,[.t 19,.t 21],none,[1,3]⟩,⟨some 23,.bin .gtr,[.t 22,.c (.i .i64 400)],none,[4]⟩]) (.cond (.t 23) (.seq (.ops false [⟨some 2,.mv,[.c (.i .i64 4)],none,[]⟩]) .ret) .skip)) (.seq (.ops false [⟨some 24,.fadr 2,[.t 1],none,[]⟩,⟨some 25,.load 1 false,[.t 24],none,[0]⟩,⟨some 26,.call 89,[.t 25,.c (.i .i64 1),.c (.i .i64 127)],none,[1]⟩,⟨some 2,.mv,[.t 26],none,[2,2,0,1,2]⟩]) .ret))))
def rs82 : List RV := [.tmp 2]
theorem fact82 : compF Try.prog 67 = some (ac82,rs82,27) := by kernel_rfl
def ac118 : AC := .seq (.ops false [⟨some 2,.box,[.t 0],none,[]⟩,⟨some 4,.mv,[.c (.b false)],none,[]⟩]) (.seq (.ops true [⟨some 5,.mv,[.t 1],none,[]⟩,⟨some 6,.fadr 0,[.t 2],none,[]⟩,⟨some 7,.load 1 false,[.t 6],none,[1]⟩,⟨some 8,.bin .geq,[.t 5,.t 7],none,[0,2]⟩,⟨some 9,.mv,[.t 8],none,[3]⟩,⟨some 10,.mv,[.t 1],some (9,true),[4]⟩,⟨some 11,.fadr 1,[.t 2],some (9,true),[4]⟩,⟨some 12,.load 1 false,[.t 11],some (9,true),[6,4]⟩,⟨some 13,.bin .leq,[.t 10,.t 12],some (9,true),[5,7,4]⟩,⟨some 14,.pick,[.t 9,.t 13,.c (.b false)],none,[4,8]⟩,⟨some 15,.mv,[.t 14],none,[9,4]⟩,⟨some 16,.fadr 2,[.t 2],some (15,true),[10]⟩,⟨some 17,.load 1 false,[.t 16],some (15,true),[11,10]⟩,⟨some 18,.mv,[.t 1],some (15,true),[10]⟩,⟨some 19,.call 91,[.t 18],some (15,true),[13,10,10]⟩,⟨some 20,.call 90,[.t 17,.t 19],some (15,true),[12,14,14,10]⟩,⟨some 21,.pick,[.t 15,.t 20,.c (.b false)],none,[10,15]⟩,⟨some 4,.mv,[.t 21],none,[16,15,0,1,2,3,4,5,6,7,8,9,10,11,12,13,14,15,16]⟩]) .ret)
def rs118 : List RV := [.tmp 4]
theorem fact118 : compF Try.prog 71 = some (ac118,rs118,22) := by kernel_rfl
def ac144 : AC := .seq (.ops false [⟨some 4,.mv,[.c (.b false)],none,[]⟩]) (.seq (.seq (.ops false [⟨some 5,.mv,[.c (.i .i64 0)],none,[]⟩]) (.block 0 (.loop (.seq (.seq (.ops false [⟨some 6,.mv,[.t 5],none,[]⟩,⟨some 7,.mv,[.t 1],none,[]⟩,⟨some 8,.bin .lss,[.t 6,.t 7],none,[0,1]⟩]) (.cond (.t 8) .skip (.exit 0))) (.seq (.block 1 (.ops false [⟨some 11,.mv,[.t 0],none,[]⟩,⟨some 12,.bin .quo,[.t 11,.c (.i .i64 2)],none,[0]⟩,⟨some 0,.mv,[.t 12],none,[1,0,1]⟩])) (.ops false [⟨some 9,.mv,[.t 5],none,[]⟩,⟨some 10,.bin .add,[.t 9,.c (.i .i64 1)],none,[0]⟩,⟨some 5,.mv,[.t 10],none,[1,0,1]⟩])))))) (.seq (.ops false [⟨some 13,.mv,[.t 0],none,[]⟩,⟨some 14,.bin .rem,[.t 13,.c (.i .i64 2)],none,[0]⟩,⟨some 15,.bin .eql,[.t 14,.c (.i .i64 1)],none,[1]⟩,⟨some 4,.mv,[.t 15],none,[2,0,1,2]⟩]) .ret))
def rs144 : List RV := [.tmp 4]
theorem fact144 : compF Try.prog 90 = some (ac144,rs144,16) := by kernel_rfl
def ac145 : AC := .seq (.ops false [⟨some 2,.mv,[.c (.i .i64 0)],none,[]⟩]) (.seq (.ops false [⟨some 3,.mv,[.t 0],none,[]⟩,⟨some 4,.bin .add,[.t 3,.c (.i .i64 5)],none,[0]⟩,⟨some 5,.bin .rem,[.t 4,.c (.i .i64 7)],none,[1]⟩,⟨some 2,.mv,[.t 5],none,[2,0,1,2]⟩]) .ret)
def rs145 : List RV := [.tmp 2]
theorem fact145 : compF Try.prog 91 = some (ac145,rs145,6) := by kernel_rfl
def ac127 : AC := .seq (.ops false [⟨some 2,.mv,[.c (.i .i64 0)],none,[]⟩]) (.seq (.ops false [⟨some 3,.mv,[.t 0],none,[]⟩,⟨some 4,.call 89,[.t 3,.c (.i .i64 0),.c (.i .i64 99999)],none,[0]⟩,⟨some 2,.mv,[.t 4],none,[1,1,0,1]⟩]) .ret)
def rs127 : List RV := [.tmp 2]
theorem fact127 : compF Try.prog 88 = some (ac127,rs127,5) := by kernel_rfl
def ac128 : AC := .seq (.ops false [⟨some 6,.mv,[.c (.i .i64 0)],none,[]⟩]) (.seq (.seq (.ops false [⟨some 7,.mv,[.t 0],none,[]⟩,⟨some 8,.mv,[.t 1],none,[]⟩,⟨some 9,.bin .lss,[.t 7,.t 8],none,[0,1]⟩,⟨some 10,.mv,[.t 9],none,[2]⟩,⟨some 11,.mv,[.t 0],some (10,false),[3]⟩,⟨some 12,.mv,[.t 2],some (10,false),[3]⟩,⟨some 13,.bin .gtr,[.t 11,.t 12],some (10,false),[4,5,3]⟩,⟨some 14,.pick,[.t 10,.c (.b true),.t 13],none,[3,6]⟩]) (.cond (.t 14) (.seq (.ops false [⟨some 6,.mv,[.c (.i .i64 3)],none,[]⟩]) .ret) .skip)) (.seq (.ops false [⟨some 6,.mv,[.c (.i .i64 0)],none,[]⟩]) .ret))
def rs128 : List RV := [.tmp 6]
theorem fact128 : compF Try.prog 89 = some (ac128,rs128,15) := by kernel_rfl
def ac67 : AC := .seq (.ops false [⟨some 1,.box,[.t 0],none,[]⟩,⟨some 2,.mv,[.c .nilsl],none,[]⟩]) (.seq (.ops false [⟨some 3,.mv,[.c .nilsl],none,[]⟩]) (.seq (.seq (.ops false [⟨some 5,.fadr 0,[.t 1],none,[]⟩,⟨some 6,.load 1 false,[.t 5],none,[0]⟩,⟨some 4,.mv,[.t 6],none,[1,0,1]⟩]) (.block 0 (.loop (.seq (.seq (.ops false [⟨some 7,.mv,[.t 4],none,[]⟩,⟨some 8,.fadr 1,[.t 1],none,[]⟩,⟨some 9,.load 1 false,[.t 8],none,[1]⟩,⟨some 10,.bin .leq,[.t 7,.t 9],none,[0,2]⟩]) (.cond (.t 10) .skip (.exit 0))) (.seq (.block 1 (.seq (.ops false [⟨some 13,.load 3 true,[.t 1],none,[]⟩,⟨some 14,.mv,[.t 4],none,[]⟩,⟨some 15,.call 71,[.t 13,.t 14],none,[0,1]⟩]) (.cond (.t 15) (.ops false [⟨some 16,.mv,[.t 3],none,[]⟩,⟨some 17,.mv,[.t 4],none,[]⟩,⟨some 18,.bslice 3 1 (.i .i64 0) 1 [0],[.t 17],none,[1]⟩,⟨some 19,.app 3 1 8,[.t 16,.t 18],none,[0,2]⟩,⟨some 3,.mv,[.t 19],none,[3,3,0,1,2,3]⟩]) .skip))) (.ops false [⟨some 11,.mv,[.t 4],none,[]⟩,⟨some 12,.bin .add,[.t 11,.c (.i .i64 1)],none,[0]⟩,⟨some 4,.mv,[.t 12],none,[1,0,1]⟩])))))) (.seq (.ops false [⟨some 20,.mv,[.t 3],none,[]⟩,⟨some 2,.mv,[.t 20],none,[0,0]⟩]) .ret)))
def rs67 : List RV := [.tmp 2]
theorem fact67 : compF Try.prog 40 = some (ac67,rs67,21) := by kernel_rfl
def ac41 : AC := .seq (.ops false [⟨some 4,.mv,[.c (.b false)],none,[]⟩]) (.seq (.seq (.ops false [⟨some 6,.mv,[.t 0],none,[]⟩,⟨some 7,.len false,[.t 6],none,[0]⟩,⟨some 8,.mv,[.t 1],none,[]⟩,⟨some 9,.len false,[.t 8],none,[2]⟩,⟨some 10,.bin .neq,[.t 7,.t 9],none,[1,3]⟩]) (.cond (.t 10) (.seq (.ops false [⟨some 4,.mv,[.c (.b false)],none,[]⟩]) .ret) .skip)) (.seq (.seq (.ops false [⟨some 5,.mv,[.c (.i .i64 0)],none,[]⟩]) (.block 0 (.loop (.seq (.seq (.ops false [⟨some 11,.mv,[.t 5],none,[]⟩,⟨some 12,.mv,[.t 0],none,[]⟩,⟨some 13,.len false,[.t 12],none,[1]⟩,⟨some 14,.bin .lss,[.t 11,.t 13],none,[0,2]⟩]) (.cond (.t 14) .skip (.exit 0))) (.seq (.block 1 (.seq (.ops true [⟨some 17,.mv,[.t 0],none,[]⟩,⟨some 18,.mv,[.t 5],none,[]⟩,⟨some 19,.iadrS 1,[.t 17,.t 18],none,[0,1]⟩,⟨some 20,.load 1 false,[.t 19],none,[2]⟩,⟨some 21,.mv,[.t 1],none,[]⟩,⟨some 22,.mv,[.t 5],none,[]⟩,⟨some 23,.iadrS 1,[.t 21,.t 22],none,[4,5]⟩,⟨some 24,.load 1 false,[.t 23],none,[6]⟩,⟨some 25,.bin .neq,[.t 20,.t 24],none,[3,7]⟩]) (.cond (.t 25) (.seq (.ops false [⟨some 4,.mv,[.c (.b false)],none,[]⟩]) .ret) .skip))) (.ops false [⟨some 15,.mv,[.t 5],none,[]⟩,⟨some 16,.bin .add,[.t 15,.c (.i .i64 1)],none,[0]⟩,⟨some 5,.mv,[.t 16],none,[1,0,1]⟩])))))) (.seq (.ops false [⟨some 4,.mv,[.c (.b true)],none,[]⟩]) .ret)))
def rs41 : List RV := [.tmp 4]
theorem fact41 : compF Try.prog 21 = some (ac41,rs41,26) := by kernel_rfl
theorem pure128 (n a b : Int) : Pure Try.prog 89 [.i .i64 n, .i .i64 a, .i .i64 b] (.i .i64 (rng n a b)) := by
  refine pure_by fact128 (by simp) fun hw X hX => ?_
  unfold ac128 rs128
  repeat' first | (show Run _ (.cond _ _ _) _ _; refine run_condX (fun hc => ?_) (fun hc => ?_) <;> (try simp only [qH, rng_0] at hc) <;> try contradiction) | (first | refine Stp.h ?_ | (show ∀ K : St → List Ft → Prop, _; intro K hK) | (show runS _ _ _ _ _; first | refine qY (hq := ?_) | refine qZ (hq := ?_)) | (refine hK _ _ ?_; clear hK K) | (refine hK _ _ rfl ?_; clear hK K) | (refine qZ (hq := ?_); try exact trivial) | omega)
  · rw [rng, if_pos hc]; exact .refl _
  · rw [rng_0.2 hc]; exact .refl _
theorem pure127 (n : Int) : Pure Try.prog 88 [.i .i64 n] (.i .i64 (rng n 0 99999)) := by
  refine pure_by fact127 (by simp) fun hw X hX => ?_
  unfold ac127 rs127
  repeat' first | (show Run _ (.cond _ _ _) _ _; refine run_condX (fun hc => ?_) (fun hc => ?_) <;> (try simp only [qH, rng_0] at hc) <;> try contradiction) | (show RunOps _ _ _ _ (⟨_, .call 89, _, _, _⟩ :: _) _ _; refine run_callX (hf := pure128 _ _ _) (hn := ?_)) | (first | refine Stp.h ?_ | (show ∀ K : St → List Ft → Prop, _; intro K hK) | (show runS _ _ _ _ _; first | refine qY (hq := ?_) | refine qZ (hq := ?_)) | (refine hK _ _ ?_; clear hK K) | (refine hK _ _ rfl ?_; clear hK K) | (refine qZ (hq := ?_); try exact trivial) | omega)
  exact .refl _
theorem pure82 (p : Per) : Pure Try.prog 67 [p.pv] (.i .i64 (chkPer p)) := by
  refine pure_by fact82 (by simp) fun hw X hX => ?_
  unfold ac82 rs82
  repeat' first | (show Run _ (.cond _ _ _) _ _; refine run_condX (fun hc => ?_) (fun hc => ?_) <;> (try simp only [qH, rng_0] at hc) <;> try contradiction) | (show RunOps _ _ _ _ (⟨_, .call 88, _, _, _⟩ :: _) _ _; refine run_callGX (hf := fun hc => (by first | exact pure127 _ | (simp only [qH, rng_0] at hc; exact pure127 _))) (hn := ?_)) | (show RunOps _ _ _ _ (⟨_, .call 88, _, _, _⟩ :: _) _ _; refine run_callX (hf := pure127 _) (hn := ?_)) | (show RunOps _ _ _ _ (⟨_, .call 89, _, _, _⟩ :: _) _ _; refine run_callX (hf := pure128 _ _ _) (hn := ?_)) | (first | refine Stp.h ?_ | (show ∀ K : St → List Ft → Prop, _; intro K hK) | (show runS _ _ _ _ _; first | refine qY (hq := ?_) | refine qZ (hq := ?_)) | (refine hK _ _ ?_; clear hK K) | (refine hK _ _ rfl ?_; clear hK K) | (refine qZ (hq := ?_); try exact trivial) | omega)
  · rw [show chkPer p = 3 by simp only [chkPer, firstE, rng]; (repeat' split) <;> omega]; exact .refl _
  · rw [show chkPer p = 11 by simp only [chkPer, firstE, rng]; (repeat' split) <;> omega]; exact .refl _
  · rw [show chkPer p = 4 by simp only [chkPer, firstE, rng]; (repeat' split) <;> omega]; exact .refl _
  · rw [show chkPer p = rng p.days 1 127 by simp only [chkPer, firstE, rng]; (repeat' split) <;> omega]; exact .refl _
theorem pure145 (d : Int) (h0 : 0 ≤ d) (h1 : d ≤ 99999) : Pure Try.prog 91 [.i .i64 d] (.i .i64 ((d + 5) % 7)) := by
  refine pure_by fact145 (by simp) fun hw X hX => ?_
  unfold ac145 rs145
  repeat' first | (show Run _ (.cond _ _ _) _ _; refine run_condX (fun hc => ?_) (fun hc => ?_) <;> (try simp only [qH, rng_0] at hc) <;> try contradiction) | (first | refine Stp.h ?_ | (show ∀ K : St → List Ft → Prop, _; intro K hK) | (show runS _ _ _ _ _; first | refine qY (hq := ?_) | refine qZ (hq := ?_)) | (refine hK _ _ ?_; clear hK K) | (refine hK _ _ rfl ?_; clear hK K) | (refine qZ (hq := ?_); try exact trivial) | omega)
  rw [Int.tmod_eq_emod_of_nonneg (by omega)]
  exact .refl _
theorem pure144 (m w : Int) (h0 : 0 ≤ m) (h1 : m < 128) (h2 : 0 ≤ w) (h3 : w < 7) : Pure Try.prog 90 [.i .i64 m, .i .i64 w] (.b (inM m w)) := by
  refine pure_by fact144 (by simp) fun hw X hX => ?_
  unfold ac144 rs144
  repeat' first | (show Run _ (.cond _ _ _) _ _; refine run_condX (fun hc => ?_) (fun hc => ?_) <;> (try simp only [qH, rng_0] at hc) <;> try contradiction) | (first | refine Stp.h ?_ | (show ∀ K : St → List Ft → Prop, _; intro K hK) | (show runS _ _ _ _ _; first | refine qY (hq := ?_) | refine qZ (hq := ?_)) | (refine hK _ _ ?_; clear hK K) | (refine hK _ _ rfl ?_; clear hK K) | (refine qZ (hq := ?_); try exact trivial) | omega)
  refine run_loop (κ := Nat) (fun i => ⟨[(0, .p (.i .i64 (m / 2 ^ i))), (1, .p (.i .i64 w)), (5, .p (.i .i64 i))], [], [], false⟩) (fun i => i ≤ w.toNat) (fun i => w.toNat - i) 0 ?_ ?_ ?_
  · simp only [qS, Nat.reduceAdd, Nat.reduceMul, Nat.reduceEqDiff, Nat.reduceLeDiff, reduceIte, reduceCtorEq, Nat.reduceBEq, Nat.reduceLT] <;> simp
  · simp
  · intro i hi
    have hq : 0 ≤ m / 2 ^ i := Int.ediv_nonneg h0 (Int.le_of_lt (Int.pow_pos (by decide)))
    have hq2 : m / 2 ^ i ≤ m := Int.ediv_le_self _ h0
    have hq3 : ∀ b, (m / 2 ^ i).tdiv b = (m / 2 ^ i) / b := fun b => Int.tdiv_eq_ediv_of_nonneg hq
    have hq4 : ∀ b, (m / 2 ^ i).tmod b = (m / 2 ^ i) % b := fun b => Int.tmod_eq_emod_of_nonneg hq
    have qe := And.intro @hq3 @hq4; repeat' first | (show Run _ (.cond _ _ _) _ _; refine run_condX (fun hc => ?_) (fun hc => ?_) <;> (try simp only [qH, rng_0] at hc) <;> try contradiction) | (first | refine Stp.h ?_ | (show ∀ K : St → List Ft → Prop, _; intro K hK) | (show runS _ _ _ _ _; first | refine qY (hq := ?_) | refine qZ (hq := ?_)) | (refine hK _ _ ?_; clear hK K) | (refine hK _ _ rfl ?_; clear hK K) | (refine qZ (hq := ?_); try exact trivial) | omega)
    · refine ⟨i + 1, by omega, by omega, ?_, by simp⟩
      rw [Int.pow_succ, Int.ediv_ediv_of_nonneg (Int.le_of_lt (Int.pow_pos (by decide)))]
    · have e : i = w.toNat := by omega
      subst e; exact .refl _
theorem pure118 (p : Per) (d : Int) (h0 : 0 ≤ d) (h1 : d ≤ 99999) (h2 : 0 ≤ p.days) (h3 : p.days < 128) : Pure Try.prog 71 [p.pv, .i .i64 d] (.b (hasD p d)) := by
  refine pure_by fact118 (by simp) fun hw X hX => ?_
  unfold ac118 rs118
  have qe := @qR; repeat' first | (show Run _ (.cond _ _ _) _ _; refine run_condX (fun hc => ?_) (fun hc => ?_) <;> (try simp only [qH, rng_0] at hc) <;> try contradiction) | (show RunOps _ _ _ _ (⟨_, .call 91, _, _, _⟩ :: _) _ _; refine run_callGX (hf := fun hc => (by first | exact pure145 _ h0 h1 | (simp only [qH, rng_0] at hc; exact pure145 _ h0 h1))) (hn := ?_)) | (show RunOps _ _ _ _ (⟨_, .call 90, _, _, _⟩ :: _) _ _; refine run_callGX (hf := fun hc => (by first | exact pure144 p.days ((d + 5) % 7) h2 h3 (by omega) (by omega) | (simp only [qH, rng_0] at hc; exact pure144 p.days ((d + 5) % 7) h2 h3 (by omega) (by omega)))) (hn := ?_)) | (first | refine Stp.h ?_ | (show ∀ K : St → List Ft → Prop, _; intro K hK) | (show runS _ _ _ _ _; first | refine qY (hq := ?_) | refine qZ (hq := ?_)) | (refine hK _ _ ?_; clear hK K) | (refine hK _ _ rfl ?_; clear hK K) | (refine qZ (hq := ?_); try exact trivial) | omega)
  all_goals exact .refl _
theorem hasD_in {p : Per} (k : Nat) (h : k < (p.to - p.fro + 1).toNat) : hasD p (p.fro + k) = inM p.days ((p.fro + k + 5) % 7) := by
  simp only [hasD, show p.fro ≤ p.fro + (k : Int) by omega, show p.fro + (k : Int) ≤ p.to by omega, decide_true, Bool.true_and]
def daysK (p : Per) (k : Nat) : List Int := (List.range k).flatMap fun (k : Nat) => if inM p.days ((p.fro + k + 5) % 7) then [p.fro + k] else []
theorem daysK_len (p : Per) (n : Nat) : (daysK p n).length ≤ n := by
  unfold daysK
  induction n with
  | zero => simp
  | succ n ih => rw [range_next, List.length_append]; split <;> simp only [List.length_cons, List.length_nil] <;> omega
theorem pure67 (p : Per) (h : chkPer p = 0) : Pure Try.prog 40 [p.pv] (.sl 1 ((daysL p).map (.i .i64))) := by
  have hp := chkPer_0 h
  refine pure_by fact67 (by simp) fun hw X hX => ?_
  unfold ac67 rs67
  repeat' first | (show Run _ (.cond _ _ _) _ _; refine run_condX (fun hc => ?_) (fun hc => ?_) <;> (try simp only [qH, rng_0] at hc) <;> try contradiction) | (first | refine Stp.h ?_ | (show ∀ K : St → List Ft → Prop, _; intro K hK) | (show runS _ _ _ _ _; first | refine qY (hq := ?_) | refine qZ (hq := ?_)) | (refine hK _ _ ?_; clear hK K) | (refine hK _ _ rfl ?_; clear hK K) | (refine qZ (hq := ?_); try exact trivial) | omega)
  refine run_own 100 3 1 [(1, .lp 1 0), (3, .row 100 0), (4, .p (.i .i64 p.fro))] [(1, .box [.p (.i .i64 p.fro), .p (.i .i64 p.to), .p (.i .i64 p.days)] false)] ?_ ?_
  · simp only [Own, ownEnv, ownObj, nilTo, nilTos, qS, Nat.reduceAdd, Nat.reduceMul, Nat.reduceEqDiff, Nat.reduceLeDiff, reduceIte, reduceCtorEq, Nat.reduceBEq, Nat.reduceLT]
  refine run_loop (κ := Nat) (fun k => ⟨[(1, .lp 1 0), (3, .row 100 (daysK p k).length), (4, .p (.i .i64 (p.fro + k)))], [(1, .box [.p (.i .i64 p.fro), .p (.i .i64 p.to), .p (.i .i64 p.days)] false), (100, .row 3 1 ((daysK p k).map (.i .i64)) false)], [], false⟩) (fun k => k ≤ (p.to - p.fro + 1).toNat) (fun k => (p.to - p.fro + 1).toNat - k) 0 ?_ ?_ ?_
  · simp only [qS, Nat.reduceAdd, Nat.reduceMul, Nat.reduceEqDiff, Nat.reduceLeDiff, reduceIte, reduceCtorEq, Nat.reduceBEq, Nat.reduceLT] <;> simp [daysK]
  · simp
  · intro k hk
    have hl := daysK_len p k
    have qe := @qR; repeat' first | (show Run _ (.cond _ _ _) _ _; refine run_condX (fun hc => ?_) (fun hc => ?_) <;> (try simp only [qH, rng_0] at hc) <;> try contradiction) | (show RunOps _ _ _ _ (⟨_, .call 71, _, _, _⟩ :: _) _ _; refine run_callX (hf := pure118 p (p.fro + k) (by omega) (by omega) (by omega) (by omega)) (hn := ?_)) | (first | refine Stp.h ?_ | (show ∀ K : St → List Ft → Prop, _; intro K hK) | (show runS _ _ _ _ _; first | refine qY (hq := ?_) | refine qZ (hq := ?_)) | (refine hK _ _ ?_; clear hK K) | (refine hK _ _ rfl ?_; clear hK K) | (refine qZ (hq := ?_); try exact trivial) | omega)
    · have e : daysK p (k + 1) = daysK p k ++ [p.fro + (k : Int)] := by
        rw [hasD_in k (by omega)] at hc; simp only [daysK, range_next, hc, if_true]
      refine ⟨k + 1, by omega, by omega, ⟨by rw [e]; simp, by simp; omega⟩, by rw [e]; simp⟩
    · have e : daysK p (k + 1) = daysK p k := by
        rw [hasD_in k (by omega)] at hc; simp only [daysK, range_next, hc]; simp
      refine ⟨k + 1, by omega, by omega, ⟨by rw [e], by simp; omega⟩, by rw [e]⟩
    · have e : k = (p.to - p.fro + 1).toNat := by omega
      subst e; exact .refl _
end Go.Proofs.Ytcfbdeghmckelaa
namespace Go.Proofs.Ytcfbdeghmckelaa
open Go.RowKit
set_option maxRecDepth 100000
set_option linter.unusedVariables false
set_option linter.unusedSimpArgs false
abbrev s0 : ByteArray := bs []
abbrev sA : ByteArray := bs [65]
abbrev sD : ByteArray := bs [68]
abbrev sT : ByteArray := bs [84]
structure Lim where
  name : ByteArray
  kind : ByteArray
  term : ByteArray
  len : Int
  step : Int
  fro : Int
  to : Int
  per : Per
  most : Int
abbrev Lim.cells (l : Lim) : List PV := [.s l.name, .s l.kind, .s l.term, .i .i64 l.len, .i .i64 l.step, .i .i64 l.fro, .i .i64 l.to, .i .i64 l.per.fro, .i .i64 l.per.to, .i .i64 l.per.days, .i .i64 l.most]
abbrev Lim.pv (l : Lim) : PV := .agg l.cells
structure Mov where
  moment : Int
  kind : ByteArray
  term : ByteArray
  seats : Int
  size : Int
  noise : Int
  name : ByteArray
abbrev Mov.pv (m : Mov) : PV := .agg [.i .i64 m.moment, .s m.kind, .s m.term, .i .i64 m.seats, .i .i64 m.size, .i .i64 m.noise, .s m.name]
structure Req where
  name : ByteArray
  carrier : ByteArray
  kind : ByteArray
  term : ByteArray
  partner : ByteArray
  link : ByteArray
  per : Per
  minute : Int
  seats : Int
  size : Int
  noise : Int
abbrev Req.pv (r : Req) : PV := .agg [.s r.name, .s r.carrier, .s r.kind, .s r.term, .s r.partner, .s r.link, .i .i64 r.per.fro, .i .i64 r.per.to, .i .i64 r.per.days, .i .i64 r.minute, .i .i64 r.seats, .i .i64 r.size, .i .i64 r.noise]
structure Win where
  lim : Int
  beg : Int
  cnt : Int
abbrev Win.pv (w : Win) : PV := .agg [.i .i64 w.lim, .i .i64 w.beg, .i .i64 w.cnt]
def flightE (k : ByteArray) : Int := if ¬k = sA ∧ ¬k = sD then 13 else 0
def optE (s : ByteArray) : Int := if ¬s = s0 ∧ isName s = false then 8 else 0
def nameE (s : ByteArray) : Int := if isName s = false then 8 else 0
def loadE (a b c : Int) : Int := firstE [rng a 0 999, rng b 0 9, rng c 0 99]
def chkMov (m : Mov) : Int := firstE [rng m.moment 0 143999999, flightE m.kind, optE m.term, loadE m.seats m.size m.noise, nameE m.name]
def chkReq (r : Req) : Int := firstE [nameE r.name, flightE r.kind, optE r.term, chkPer r.per, rng r.minute 0 1439, loadE r.seats r.size r.noise]
def kindE (k : ByteArray) : Int := if ¬k = sA ∧ ¬k = sD ∧ ¬k = sT then 13 else 0
def chkLim (l : Lim) : Int := firstE [nameE l.name, kindE l.kind, optE l.term, rng l.len 1 1440, rng l.step 1 1440, rng l.fro 0 1439, rng l.to 0 1439, if l.to < l.fro then 11 else 0, chkPer l.per, rng l.most 0 999999999]
def ac85 : AC := .seq (.ops false [⟨some 4,.mv,[.c (.i .i64 0)],none,[]⟩]) (.seq (.seq (.ops false [⟨some 5,.mv,[.t 0],none,[]⟩]) (.cond (.t 5) (.seq (.ops false [⟨some 6,.mv,[.t 1],none,[]⟩,⟨some 4,.mv,[.t 6],none,[0,0]⟩]) .ret) .skip)) (.seq (.ops false [⟨some 4,.mv,[.c (.i .i64 0)],none,[]⟩]) .ret))
def rs85 : List RV := [.tmp 4]
theorem fact85 : compF Try.prog 36 = some (ac85,rs85,7) := by kernel_rfl
def ac88 : AC := .seq (.ops false [⟨some 6,.mv,[.c (.i .i64 0)],none,[]⟩]) (.seq (.ops false [⟨some 7,.mv,[.t 0],none,[]⟩,⟨some 8,.mv,[.t 1],none,[]⟩,⟨some 9,.bin .lss,[.t 7,.t 8],none,[0,1]⟩,⟨some 10,.mv,[.t 9],none,[2]⟩,⟨some 11,.mv,[.t 0],some (10,false),[3]⟩,⟨some 12,.mv,[.t 2],some (10,false),[3]⟩,⟨some 13,.bin .gtr,[.t 11,.t 12],some (10,false),[4,5,3]⟩,⟨some 14,.pick,[.t 10,.c (.b true),.t 13],none,[3,6]⟩,⟨some 15,.call 36,[.t 14,.c (.i .i64 3)],none,[7,3]⟩,⟨some 6,.mv,[.t 15],none,[8,8,0,1,2,3,4,5,6,7,8]⟩]) .ret)
def rs88 : List RV := [.tmp 6]
theorem fact88 : compF Try.prog 31 = some (ac88,rs88,16) := by kernel_rfl
def ac83 : AC := .seq (.ops false [⟨some 2,.mv,[.c (.i .i64 0)],none,[]⟩]) (.seq (.seq (.ops false [⟨some 5,.mv,[.t 0],none,[]⟩,⟨some 6,.len false,[.t 5],none,[0]⟩,⟨some 7,.mv,[.c (.i .i64 0)],none,[]⟩]) (.block 0 (.loop (.seq (.ops false [⟨some 8,.bin .lss,[.t 7,.t 6],none,[]⟩]) (.seq (.cond (.t 8) .skip (.exit 0)) (.seq (.block 1 (.seq (.ops false [⟨some 9,.iadrS 1,[.t 5,.t 7],none,[]⟩,⟨some 10,.load 1 false,[.t 9],none,[0]⟩,⟨some 4,.mv,[.t 10],none,[1,0,1]⟩]) (.seq (.ops false [⟨some 11,.mv,[.t 4],none,[]⟩,⟨some 12,.bin .neq,[.t 11,.c (.i .i64 0)],none,[0]⟩]) (.cond (.t 12) (.seq (.ops false [⟨some 13,.mv,[.t 4],none,[]⟩,⟨some 2,.mv,[.t 13],none,[0,0]⟩]) .ret) .skip)))) (.ops false [⟨some 14,.bin .add,[.t 7,.c (.i .i64 1)],none,[]⟩,⟨some 7,.mv,[.t 14],none,[0]⟩]))))))) (.seq (.ops false [⟨some 2,.mv,[.c (.i .i64 0)],none,[]⟩]) .ret))
def rs83 : List RV := [.tmp 2]
theorem fact83 : compF Try.prog 28 = some (ac83,rs83,15) := by kernel_rfl
def ac123 : AC := .seq (.ops false [⟨some 2,.mv,[.c (.i .i64 0)],none,[]⟩]) (.seq (.ops false [⟨some 3,.mv,[.t 0],none,[]⟩,⟨some 4,.bin .neq,[.t 3,.c (.s (bs []))],none,[0]⟩,⟨some 5,.mv,[.t 4],none,[1]⟩,⟨some 6,.mv,[.t 0],some (5,true),[2]⟩,⟨some 7,.call 60,[.t 6],some (5,true),[3,2,2]⟩,⟨some 8,.not,[.t 7],some (5,true),[4,2]⟩,⟨some 9,.pick,[.t 5,.t 8,.c (.b false)],none,[2,5]⟩,⟨some 10,.call 36,[.t 9,.c (.i .i64 8)],none,[6,4]⟩,⟨some 2,.mv,[.t 10],none,[7,7,0,1,2,3,4,5,6,7]⟩]) .ret)
def rs123 : List RV := [.tmp 2]
theorem fact123 : compF Try.prog 61 = some (ac123,rs123,11) := by kernel_rfl
def ac122 : AC := .seq (.ops false [⟨some 2,.mv,[.c (.i .i64 0)],none,[]⟩]) (.seq (.ops false [⟨some 3,.mv,[.t 0],none,[]⟩,⟨some 4,.bin .neq,[.t 3,.c (.s (bs [65]))],none,[0]⟩,⟨some 5,.mv,[.t 4],none,[1]⟩,⟨some 6,.mv,[.t 0],some (5,true),[2]⟩,⟨some 7,.bin .neq,[.t 6,.c (.s (bs [68]))],some (5,true),[3,2]⟩,⟨some 8,.pick,[.t 5,.t 7,.c (.b false)],none,[2,4]⟩,⟨some 9,.call 36,[.t 8,.c (.i .i64 13)],none,[5,2]⟩,⟨some 2,.mv,[.t 9],none,[6,6,0,1,2,3,4,5,6]⟩]) .ret)
def rs122 : List RV := [.tmp 2]
theorem fact122 : compF Try.prog 74 = some (ac122,rs122,10) := by kernel_rfl
def ac125 : AC := .seq (.ops false [⟨some 6,.mv,[.c (.i .i64 0)],none,[]⟩]) (.seq (.ops false [⟨some 7,.mv,[.t 0],none,[]⟩,⟨some 8,.call 31,[.t 7,.c (.i .i64 0),.c (.i .i64 999)],none,[0]⟩,⟨some 9,.mv,[.t 1],none,[]⟩,⟨some 10,.call 31,[.t 9,.c (.i .i64 0),.c (.i .i64 9)],none,[2,1]⟩,⟨some 11,.mv,[.t 2],none,[]⟩,⟨some 12,.call 31,[.t 11,.c (.i .i64 0),.c (.i .i64 99)],none,[4,3]⟩,⟨some 13,.bslice 29 1 (.i .i64 0) 3 [0,1,2],[.t 8,.t 10,.t 12],none,[1,3,5]⟩,⟨some 14,.call 28,[.t 13],none,[6,5]⟩,⟨some 6,.mv,[.t 14],none,[7,7,0,1,2,3,4,5,6,7]⟩]) .ret)
def rs125 : List RV := [.tmp 6]
theorem fact125 : compF Try.prog 75 = some (ac125,rs125,15) := by kernel_rfl
def ac87 : AC := .seq (.ops false [⟨some 1,.box,[.t 0],none,[]⟩,⟨some 2,.mv,[.c (.i .i64 0)],none,[]⟩]) (.seq (.ops true [⟨some 3,.fadr 0,[.t 1],none,[]⟩,⟨some 4,.load 1 false,[.t 3],none,[0]⟩,⟨some 5,.call 31,[.t 4,.c (.i .i64 0),.c (.i .i64 143999999)],none,[1]⟩,⟨some 6,.fadr 1,[.t 1],none,[]⟩,⟨some 7,.load 1 false,[.t 6],none,[3]⟩,⟨some 8,.call 74,[.t 7],none,[4,2]⟩,⟨some 9,.fadr 2,[.t 1],none,[]⟩,⟨some 10,.load 1 false,[.t 9],none,[6]⟩,⟨some 11,.call 61,[.t 10],none,[7,5]⟩,⟨some 12,.fadr 3,[.t 1],none,[]⟩,⟨some 13,.load 1 false,[.t 12],none,[9]⟩,⟨some 14,.fadr 4,[.t 1],none,[]⟩,⟨some 15,.load 1 false,[.t 14],none,[11]⟩,⟨some 16,.fadr 5,[.t 1],none,[]⟩,⟨some 17,.load 1 false,[.t 16],none,[13]⟩,⟨some 18,.call 75,[.t 13,.t 15,.t 17],none,[10,12,14,8]⟩,⟨some 19,.fadr 6,[.t 1],none,[]⟩,⟨some 20,.load 1 false,[.t 19],none,[16]⟩,⟨some 21,.call 60,[.t 20],none,[17,15]⟩,⟨some 22,.not,[.t 21],none,[18]⟩,⟨some 23,.call 36,[.t 22,.c (.i .i64 8)],none,[19,18]⟩,⟨some 24,.bslice 29 1 (.i .i64 0) 5 [0,1,2,3,4],[.t 5,.t 8,.t 11,.t 18,.t 23],none,[2,5,8,15,20]⟩,⟨some 25,.call 28,[.t 24],none,[21,20]⟩,⟨some 2,.mv,[.t 25],none,[22,22,0,1,2,3,4,5,6,7,8,9,10,11,12,13,14,15,16,17,18,19,20,21,22]⟩]) .ret)
def rs87 : List RV := [.tmp 2]
theorem fact87 : compF Try.prog 46 = some (ac87,rs87,26) := by kernel_rfl
def ac79 : AC := .seq (.ops false [⟨some 1,.box,[.t 0],none,[]⟩,⟨some 2,.mv,[.c (.i .i64 0)],none,[]⟩]) (.seq (.ops true [⟨some 3,.fadr 0,[.t 1],none,[]⟩,⟨some 4,.load 1 false,[.t 3],none,[0]⟩,⟨some 5,.call 60,[.t 4],none,[1]⟩,⟨some 6,.not,[.t 5],none,[2]⟩,⟨some 7,.call 36,[.t 6,.c (.i .i64 8)],none,[3,2]⟩,⟨some 8,.fadr 2,[.t 1],none,[]⟩,⟨some 9,.load 1 false,[.t 8],none,[5]⟩,⟨some 10,.call 74,[.t 9],none,[6,4]⟩,⟨some 11,.fadr 3,[.t 1],none,[]⟩,⟨some 12,.load 1 false,[.t 11],none,[8]⟩,⟨some 13,.call 61,[.t 12],none,[9,7]⟩,⟨some 14,.fadr 6,[.t 1],none,[]⟩,⟨some 15,.load 3 true,[.t 14],none,[11]⟩,⟨some 16,.call 62,[.t 15],none,[12,10]⟩,⟨some 17,.fadr 9,[.t 1],none,[]⟩,⟨some 18,.load 1 false,[.t 17],none,[14]⟩,⟨some 19,.call 31,[.t 18,.c (.i .i64 0),.c (.i .i64 1439)],none,[15,13]⟩,⟨some 20,.fadr 10,[.t 1],none,[]⟩,⟨some 21,.load 1 false,[.t 20],none,[17]⟩,⟨some 22,.fadr 11,[.t 1],none,[]⟩,⟨some 23,.load 1 false,[.t 22],none,[19]⟩,⟨some 24,.fadr 12,[.t 1],none,[]⟩,⟨some 25,.load 1 false,[.t 24],none,[21]⟩,⟨some 26,.call 75,[.t 21,.t 23,.t 25],none,[18,20,22,16]⟩,⟨some 27,.bslice 29 1 (.i .i64 0) 6 [0,1,2,3,4,5],[.t 7,.t 10,.t 13,.t 16,.t 19,.t 26],none,[4,7,10,13,16,23]⟩,⟨some 28,.call 28,[.t 27],none,[24,23]⟩,⟨some 2,.mv,[.t 28],none,[25,25,0,1,2,3,4,5,6,7,8,9,10,11,12,13,14,15,16,17,18,19,20,21,22,23,24,25]⟩]) .ret)
def rs79 : List RV := [.tmp 2]
theorem fact79 : compF Try.prog 52 = some (ac79,rs79,29) := by kernel_rfl
theorem pure85 (b : Bool) (e : Int) : Pure Try.prog 36 [.b b, .i .i64 e] (.i .i64 (if b then e else 0)) := by
  refine pure_by fact85 (by simp) fun hw X hX => ?_
  unfold ac85 rs85
  repeat' first | (show Run _ (.cond _ _ _) _ _; refine run_condX (fun hc => ?_) (fun hc => ?_) <;> (try simp only [qH, rng_0] at hc) <;> try contradiction) | (first | refine Stp.h ?_ | (show ∀ K : St → List Ft → Prop, _; intro K hK) | (show runS _ _ _ _ _; first | refine qY (hq := ?_) | refine qZ (hq := ?_)) | (refine hK _ _ ?_; clear hK K) | (refine hK _ _ rfl ?_; clear hK K) | (refine qZ (hq := ?_); try exact trivial) | omega)
  all_goals (subst hc; exact .refl _)
theorem pure88 (n a b : Int) : Pure Try.prog 31 [.i .i64 n, .i .i64 a, .i .i64 b] (.i .i64 (rng n a b)) := by
  refine pure_by fact88 (by simp) fun hw X hX => ?_
  unfold ac88 rs88
  repeat' first | (show Run _ (.cond _ _ _) _ _; refine run_condX (fun hc => ?_) (fun hc => ?_) <;> (try simp only [qH, rng_0] at hc) <;> try contradiction) | (show RunOps _ _ _ _ (⟨_, .call 36, _, _, _⟩ :: _) _ _; refine run_callX (hf := pure85 _ _) (hn := ?_)) | (first | refine Stp.h ?_ | (show ∀ K : St → List Ft → Prop, _; intro K hK) | (show runS _ _ _ _ _; first | refine qY (hq := ?_) | refine qZ (hq := ?_)) | (refine hK _ _ ?_; clear hK K) | (refine hK _ _ rfl ?_; clear hK K) | (refine qZ (hq := ?_); try exact trivial) | omega)
  simp only [rng, Bool.or_eq_true, decide_eq_true_eq]; exact .refl _
theorem pure83 (l : List Int) : Pure Try.prog 28 [.sl 1 (l.map (.i .i64))] (.i .i64 (firstE l)) := by
  refine pure_by fact83 (by simp) fun hw X hX => ?_
  unfold ac83 rs83
  simp only [wfs, PV.wf, List.length_map, maxLen] at hw
  repeat' first | (show Run _ (.cond _ _ _) _ _; refine run_condX (fun hc => ?_) (fun hc => ?_) <;> (try simp only [qH, rng_0] at hc) <;> try contradiction) | (first | refine Stp.h ?_ | (show ∀ K : St → List Ft → Prop, _; intro K hK) | (show runS _ _ _ _ _; first | refine qY (hq := ?_) | refine qZ (hq := ?_)) | (refine hK _ _ ?_; clear hK K) | (refine hK _ _ rfl ?_; clear hK K) | (refine qZ (hq := ?_); try exact trivial) | omega)
  refine run_loop (κ := Nat) (fun i => ⟨[(5, .p (.sl 1 (l.map (.i .i64)))), (6, .p (.i .i64 l.length)), (7, .p (.i .i64 i))], [], [], false⟩) (fun i => i ≤ l.length ∧ ∀ x ∈ l.take i, x = 0) (fun i => l.length - i) 0 ?_ ?_ ?_
  · simp only [qS, Nat.reduceAdd, Nat.reduceMul, Nat.reduceEqDiff, Nat.reduceLeDiff, reduceIte, reduceCtorEq, Nat.reduceBEq, Nat.reduceLT] <;> rfl
  · simp
  · intro i hi
    repeat (first | refine Stp.h ?_ | (show ∀ K : St → List Ft → Prop, _; intro K hK) | (show runS _ _ _ _ _; first | refine qY (hq := ?_) | refine qZ (hq := ?_)) | (refine hK _ _ ?_; clear hK K) | (refine hK _ _ rfl ?_; clear hK K) | (refine qZ (hq := ?_); try exact trivial) | omega)
    (show Run _ (.cond _ _ _) _ _; refine run_condX (fun hc => ?_) (fun hc => ?_) <;> (try simp only [qH, rng_0] at hc) <;> try contradiction)
    · obtain ⟨x, hx⟩ := some_at (i := i) (l := l) (by omega)
      have qe := @hx; repeat' first | (show Run _ (.cond _ _ _) _ _; refine run_condX (fun hc => ?_) (fun hc => ?_) <;> (try simp only [qH, rng_0] at hc) <;> try contradiction) | (first | refine Stp.h ?_ | (show ∀ K : St → List Ft → Prop, _; intro K hK) | (show runS _ _ _ _ _; first | refine qY (hq := ?_) | refine qZ (hq := ?_)) | (refine hK _ _ ?_; clear hK K) | (refine hK _ _ rfl ?_; clear hK K) | (refine qZ (hq := ?_); try exact trivial) | omega)
      · rw [firstE_at hi.2 hx hc]; exact .refl _
      · exact ⟨i + 1, ⟨by omega, take_all hi.2 hx hc⟩, by omega, by simp⟩
    · repeat' first | (show Run _ (.cond _ _ _) _ _; refine run_condX (fun hc => ?_) (fun hc => ?_) <;> (try simp only [qH, rng_0] at hc) <;> try contradiction) | (first | refine Stp.h ?_ | (show ∀ K : St → List Ft → Prop, _; intro K hK) | (show runS _ _ _ _ _; first | refine qY (hq := ?_) | refine qZ (hq := ?_)) | (refine hK _ _ ?_; clear hK K) | (refine hK _ _ rfl ?_; clear hK K) | (refine qZ (hq := ?_); try exact trivial) | omega)
      have e : i = l.length := by omega
      subst e
      rw [firstE_end hi.2]; exact .refl _
theorem pure122 (s : ByteArray) : Pure Try.prog 74 [.s s] (.i .i64 (flightE s)) := by
  refine pure_by fact122 (by simp) fun hw X hX => ?_
  unfold ac122 rs122
  repeat' first | (show Run _ (.cond _ _ _) _ _; refine run_condX (fun hc => ?_) (fun hc => ?_) <;> (try simp only [qH, rng_0] at hc) <;> try contradiction) | (show RunOps _ _ _ _ (⟨_, .call 36, _, _, _⟩ :: _) _ _; refine run_callX (hf := pure85 _ _) (hn := ?_)) | (first | refine Stp.h ?_ | (show ∀ K : St → List Ft → Prop, _; intro K hK) | (show runS _ _ _ _ _; first | refine qY (hq := ?_) | refine qZ (hq := ?_)) | (refine hK _ _ ?_; clear hK K) | (refine hK _ _ rfl ?_; clear hK K) | (refine qZ (hq := ?_); try exact trivial) | omega)
  simp only [flightE, Bool.and_eq_true, Bool.not_eq_true', decide_eq_false_iff_not, decide_eq_true_eq]; exact .refl _
theorem pure123 (s : ByteArray) : Pure Try.prog 61 [.s s] (.i .i64 (optE s)) := by
  refine pure_by fact123 (by simp) fun hw X hX => ?_
  unfold ac123 rs123
  repeat' first | (show Run _ (.cond _ _ _) _ _; refine run_condX (fun hc => ?_) (fun hc => ?_) <;> (try simp only [qH, rng_0] at hc) <;> try contradiction) | (show RunOps _ _ _ _ (⟨_, .call 60, _, _, _⟩ :: _) _ _; refine run_callGX (hf := fun hc => (by first | exact pure109 _ | (simp only [qH, rng_0] at hc; exact pure109 _))) (hn := ?_)) | (show RunOps _ _ _ _ (⟨_, .call 36, _, _, _⟩ :: _) _ _; refine run_callX (hf := pure85 _ _) (hn := ?_)) | (first | refine Stp.h ?_ | (show ∀ K : St → List Ft → Prop, _; intro K hK) | (show runS _ _ _ _ _; first | refine qY (hq := ?_) | refine qZ (hq := ?_)) | (refine hK _ _ ?_; clear hK K) | (refine hK _ _ rfl ?_; clear hK K) | (refine qZ (hq := ?_); try exact trivial) | omega)
  simp only [optE, Bool.and_eq_true, Bool.not_eq_true', decide_eq_false_iff_not, decide_eq_true_eq]; exact .refl _
theorem pure125 (a b c : Int) : Pure Try.prog 75 [.i .i64 a, .i .i64 b, .i .i64 c] (.i .i64 (loadE a b c)) := by
  refine pure_by fact125 (by simp) fun hw X hX => ?_
  unfold ac125 rs125
  have qe := @qR; repeat' first | (show Run _ (.cond _ _ _) _ _; refine run_condX (fun hc => ?_) (fun hc => ?_) <;> (try simp only [qH, rng_0] at hc) <;> try contradiction) | (show RunOps _ _ _ _ (⟨_, .call 31, _, _, _⟩ :: _) _ _; refine run_callX (hf := pure88 _ _ _) (hn := ?_)) | (show RunOps _ _ _ _ (⟨_, .call 28, _, _, _⟩ :: _) _ _; refine run_callX (hf := pure83 [_, _, _]) (hn := ?_)) | (first | refine Stp.h ?_ | (show ∀ K : St → List Ft → Prop, _; intro K hK) | (show runS _ _ _ _ _; first | refine qY (hq := ?_) | refine qZ (hq := ?_)) | (refine hK _ _ ?_; clear hK K) | (refine hK _ _ rfl ?_; clear hK K) | (refine qZ (hq := ?_); try exact trivial) | omega)
  exact .refl _
theorem pure87 (m : Mov) : Pure Try.prog 46 [m.pv] (.i .i64 (chkMov m)) := by
  refine pure_by fact87 (by simp) fun hw X hX => ?_
  unfold ac87 rs87
  have qe := @qR; repeat' first | (show Run _ (.cond _ _ _) _ _; refine run_condX (fun hc => ?_) (fun hc => ?_) <;> (try simp only [qH, rng_0] at hc) <;> try contradiction) | (show RunOps _ _ _ _ (⟨_, .call 31, _, _, _⟩ :: _) _ _; refine run_callX (hf := pure88 _ _ _) (hn := ?_)) | (show RunOps _ _ _ _ (⟨_, .call 74, _, _, _⟩ :: _) _ _; refine run_callX (hf := pure122 _) (hn := ?_)) | (show RunOps _ _ _ _ (⟨_, .call 61, _, _, _⟩ :: _) _ _; refine run_callX (hf := pure123 _) (hn := ?_)) | (show RunOps _ _ _ _ (⟨_, .call 75, _, _, _⟩ :: _) _ _; refine run_callX (hf := pure125 _ _ _) (hn := ?_)) | (show RunOps _ _ _ _ (⟨_, .call 60, _, _, _⟩ :: _) _ _; refine run_callX (hf := pure109 _) (hn := ?_)) | (show RunOps _ _ _ _ (⟨_, .call 36, _, _, _⟩ :: _) _ _; refine run_callX (hf := pure85 _ _) (hn := ?_)) | (show RunOps _ _ _ _ (⟨_, .call 28, _, _, _⟩ :: _) _ _; refine run_callX (hf := pure83 [_, _, _, _, _]) (hn := ?_)) | (first | refine Stp.h ?_ | (show ∀ K : St → List Ft → Prop, _; intro K hK) | (show runS _ _ _ _ _; first | refine qY (hq := ?_) | refine qZ (hq := ?_)) | (refine hK _ _ ?_; clear hK K) | (refine hK _ _ rfl ?_; clear hK K) | (refine qZ (hq := ?_); try exact trivial) | omega)
  exact .refl _
theorem pure79 (r : Req) : Pure Try.prog 52 [r.pv] (.i .i64 (chkReq r)) := by
  refine pure_by fact79 (by simp) fun hw X hX => ?_
  unfold ac79 rs79
  have qe := @qR; repeat' first | (show Run _ (.cond _ _ _) _ _; refine run_condX (fun hc => ?_) (fun hc => ?_) <;> (try simp only [qH, rng_0] at hc) <;> try contradiction) | (show RunOps _ _ _ _ (⟨_, .call 31, _, _, _⟩ :: _) _ _; refine run_callX (hf := pure88 _ _ _) (hn := ?_)) | (show RunOps _ _ _ _ (⟨_, .call 74, _, _, _⟩ :: _) _ _; refine run_callX (hf := pure122 _) (hn := ?_)) | (show RunOps _ _ _ _ (⟨_, .call 61, _, _, _⟩ :: _) _ _; refine run_callX (hf := pure123 _) (hn := ?_)) | (show RunOps _ _ _ _ (⟨_, .call 62, _, _, _⟩ :: _) _ _; refine run_callX (hf := pure124 r.per) (hn := ?_)) | (show RunOps _ _ _ _ (⟨_, .call 75, _, _, _⟩ :: _) _ _; refine run_callX (hf := pure125 _ _ _) (hn := ?_)) | (show RunOps _ _ _ _ (⟨_, .call 60, _, _, _⟩ :: _) _ _; refine run_callX (hf := pure109 _) (hn := ?_)) | (show RunOps _ _ _ _ (⟨_, .call 36, _, _, _⟩ :: _) _ _; refine run_callX (hf := pure85 _ _) (hn := ?_)) | (show RunOps _ _ _ _ (⟨_, .call 28, _, _, _⟩ :: _) _ _; refine run_callX (hf := pure83 [_, _, _, _, _, _]) (hn := ?_)) | (first | refine Stp.h ?_ | (show ∀ K : St → List Ft → Prop, _; intro K hK) | (show runS _ _ _ _ _; first | refine qY (hq := ?_) | refine qZ (hq := ?_)) | (refine hK _ _ ?_; clear hK K) | (refine hK _ _ rfl ?_; clear hK K) | (refine qZ (hq := ?_); try exact trivial) | omega)
  exact .refl _
end Go.Proofs.Ytcfbdeghmckelaa
namespace Go.Proofs.Ytcfbdeghmckelaa
open Go.RowKit
set_option maxRecDepth 100000
set_option linter.unusedVariables false
set_option linter.unusedSimpArgs false
set_option maxHeartbeats 2000000
def ac154 : AC := .seq (.ops false [⟨some 3,.mv,[.c (.b false)],none,[]⟩]) (.seq (.ops false [⟨some 4,.mv,[.t 0],none,[]⟩,⟨some 5,.load 1 false,[.t 1],none,[]⟩,⟨some 6,.bin .eql,[.t 4,.t 5],none,[0,1]⟩,⟨some 3,.mv,[.t 6],none,[2,0,1,2]⟩]) .ret)
def rs154 : List RV := [.tmp 3]
theorem fact154 : compF Try.prog 81 = some (ac154,rs154,7) := by kernel_rfl
def ac155 : AC := .seq (.ops false [⟨some 2,.mv,[.c (.b false)],none,[]⟩]) (.seq (.ops false [⟨some 2,.mv,[.c (.b true)],none,[]⟩]) .ret)
def rs155 : List RV := [.tmp 2]
theorem fact155 : compF Try.prog 82 = some (ac155,rs155,3) := by kernel_rfl
def ac153 : AC := .seq (.ops false [⟨some 1,.box,[.t 0],none,[]⟩,⟨some 2,.mv,[.c .nilf],none,[]⟩]) (.seq (.ops false [⟨some 3,.mkfn (.func 81) 0,[.t 1],none,[]⟩,⟨some 2,.mv,[.t 3],none,[0,0]⟩]) .ret)
def rs153 : List RV := [.tmp 2]
theorem fact153 : compF Try.prog 80 = some (ac153,rs153,4) := by kernel_rfl
def ac129 : AC := .seq (.ops false [⟨some 0,.mv,[.c (.mp [])],none,[]⟩]) (.seq (.ops false [⟨some 1,.mv,[.c (.fn (.func 80) [] [])],none,[]⟩]) (.seq (.ops false [⟨some 2,.mkmap,[],none,[]⟩,⟨some 3,.mv,[.t 1],none,[]⟩,⟨some 4,.callv,[.t 3,.c (.s (bs [65]))],none,[1]⟩,⟨some 5,.build [.nilf] [(0,1)],[.t 4],none,[2]⟩,⟨none,.mset [2] false,[.t 2,.c (.s (bs [65])),.t 5],none,[0,3]⟩,⟨some 6,.mv,[.t 1],none,[]⟩,⟨some 7,.callv,[.t 6,.c (.s (bs [68]))],none,[5,2]⟩,⟨some 8,.build [.nilf] [(0,1)],[.t 7],none,[6]⟩,⟨none,.mset [2] false,[.t 2,.c (.s (bs [68])),.t 8],none,[0,7]⟩,⟨some 9,.build [.nilf] [(0,1)],[.c (.fn (.func 82) [] [])],none,[]⟩,⟨none,.mset [2] false,[.t 2,.c (.s (bs [84])),.t 9],none,[0,9]⟩,⟨some 10,.mv,[.t 2],none,[0,1,2,3,4,5,6,7,8,9,10]⟩,⟨some 0,.mv,[.t 10],none,[11,6,0,1,2,3,4,5,6,7,8,9,10,11]⟩]) .ret))
def rs129 : List RV := [.tmp 0]
theorem fact129 : compF Try.prog 59 = some (ac129,rs129,11) := by kernel_rfl
def ac131 : AC := .seq (.ops false [⟨some 2,.box,[.t 0],none,[]⟩,⟨some 3,.mv,[.c (.b false)],none,[]⟩]) (.seq (.ops false [⟨some 4,.fadr 0,[.t 2],none,[]⟩,⟨some 5,.load 1 false,[.t 4],none,[0]⟩,⟨some 6,.load 1 false,[.t 1],none,[]⟩,⟨some 7,.bin .eql,[.t 5,.t 6],none,[1,2]⟩,⟨some 3,.mv,[.t 7],none,[3,0,1,2,3]⟩]) .ret)
def rs131 : List RV := [.tmp 3]
theorem fact131 : compF Try.prog 97 = some (ac131,rs131,8) := by kernel_rfl
def ac130 : AC := .seq (.ops false [⟨some 4,.mv,[.c (.i .i64 0)],none,[]⟩]) (.seq (.seq (.ops false [⟨some 6,.mv,[.t 0],none,[]⟩,⟨some 7,.len false,[.t 6],none,[0]⟩,⟨some 8,.mv,[.c (.i .i64 0)],none,[]⟩]) (.block 0 (.loop (.seq (.ops false [⟨some 9,.bin .lss,[.t 8,.t 7],none,[]⟩]) (.seq (.cond (.t 9) .skip (.exit 0)) (.seq (.block 1 (.seq (.ops false [⟨some 10,.mv,[.t 8],none,[]⟩,⟨some 5,.mv,[.t 10],none,[0,0]⟩]) (.seq (.ops false [⟨some 11,.mv,[.t 1],none,[]⟩,⟨some 12,.mv,[.t 0],none,[]⟩,⟨some 13,.mv,[.t 5],none,[]⟩,⟨some 14,.iadrS 11,[.t 12,.t 13],none,[1,2]⟩,⟨some 15,.load 11 true,[.t 14],none,[3]⟩,⟨some 16,.callv,[.t 11,.t 15],none,[0,4]⟩]) (.cond (.t 16) (.seq (.ops false [⟨some 17,.mv,[.t 5],none,[]⟩,⟨some 4,.mv,[.t 17],none,[0,0]⟩]) .ret) .skip)))) (.ops false [⟨some 18,.bin .add,[.t 8,.c (.i .i64 1)],none,[]⟩,⟨some 8,.mv,[.t 18],none,[0]⟩]))))))) (.seq (.ops false [⟨some 4,.mv,[.c (.i .i64 (-1))],none,[]⟩]) .ret))
def rs130 : List RV := [.tmp 4]
theorem fact130 : compF Try.prog 96 = some (ac130,rs130,19) := by kernel_rfl
def ac86 : AC := .seq (.ops false [⟨some 3,.box,[.t 1],none,[]⟩,⟨some 4,.mv,[.c (.i .i64 0)],none,[]⟩]) (.seq (.ops false [⟨some 5,.mv,[.t 0],none,[]⟩,⟨some 6,.mkfn (.func 97) 0,[.t 3],none,[]⟩,⟨some 7,.call 96,[.t 5,.t 6],none,[0,1]⟩,⟨some 4,.mv,[.t 7],none,[2,2,0,1,2]⟩]) .ret)
def rs86 : List RV := [.tmp 4]
theorem fact86 : compF Try.prog 79 = some (ac86,rs86,8) := by kernel_rfl
def ac84 : AC := .seq (.ops false [⟨some 1,.box,[.t 0],none,[]⟩,⟨some 2,.mv,[.c (.i .i64 0)],none,[]⟩]) (.seq (.ops true [⟨some 6,.call 59,[],none,[]⟩,⟨some 7,.fadr 1,[.t 1],none,[]⟩,⟨some 8,.load 1 false,[.t 7],none,[1]⟩,⟨some 9,.lkup [2] false (.agg [.nilf]) true,[.t 6,.t 8],none,[0,2]⟩,⟨some 5,.mv,[.t 9],none,[3]⟩,⟨some 10,.ext 0,[.t 5],none,[4]⟩,⟨some 11,.ext 1,[.t 5],none,[4]⟩,⟨some 3,.alloc [.nilf],[],none,[]⟩,⟨none,.store 1,[.t 3,.t 10],none,[7,5,0,0,1,2,3,4,5,7]⟩,⟨some 4,.mv,[.t 11],none,[6,8,0,1,2,3,4,5,6,7,8]⟩]) (.seq (.ops true [⟨some 12,.fadr 0,[.t 1],none,[]⟩,⟨some 13,.load 1 false,[.t 12],none,[0]⟩,⟨some 14,.call 60,[.t 13],none,[1]⟩,⟨some 15,.not,[.t 14],none,[2]⟩,⟨some 16,.call 36,[.t 15,.c (.i .i64 8)],none,[3,2]⟩,⟨some 17,.mv,[.t 4],none,[]⟩,⟨some 18,.not,[.t 17],none,[5]⟩,⟨some 19,.call 36,[.t 18,.c (.i .i64 13)],none,[6,4]⟩,⟨some 20,.fadr 2,[.t 1],none,[]⟩,⟨some 21,.load 1 false,[.t 20],none,[8]⟩,⟨some 22,.call 61,[.t 21],none,[9,7]⟩,⟨some 23,.fadr 3,[.t 1],none,[]⟩,⟨some 24,.load 1 false,[.t 23],none,[11]⟩,⟨some 25,.call 31,[.t 24,.c (.i .i64 1),.c (.i .i64 1440)],none,[12,10]⟩,⟨some 26,.fadr 4,[.t 1],none,[]⟩,⟨some 27,.load 1 false,[.t 26],none,[14]⟩,⟨some 28,.call 31,[.t 27,.c (.i .i64 1),.c (.i .i64 1440)],none,[15,13]⟩,⟨some 29,.fadr 5,[.t 1],none,[]⟩,⟨some 30,.load 1 false,[.t 29],none,[17]⟩,⟨some 31,.call 31,[.t 30,.c (.i .i64 0),.c (.i .i64 1439)],none,[18,16]⟩,⟨some 32,.fadr 6,[.t 1],none,[]⟩,⟨some 33,.load 1 false,[.t 32],none,[20]⟩,⟨some 34,.call 31,[.t 33,.c (.i .i64 0),.c (.i .i64 1439)],none,[21,19]⟩,⟨some 35,.fadr 5,[.t 1],none,[]⟩,⟨some 36,.load 1 false,[.t 35],none,[23]⟩,⟨some 37,.fadr 6,[.t 1],none,[]⟩,⟨some 38,.load 1 false,[.t 37],none,[25]⟩,⟨some 39,.bin .gtr,[.t 36,.t 38],none,[24,26]⟩,⟨some 40,.call 36,[.t 39,.c (.i .i64 11)],none,[27,22]⟩,⟨some 41,.fadr 7,[.t 1],none,[]⟩,⟨some 42,.load 3 true,[.t 41],none,[29]⟩,⟨some 43,.call 62,[.t 42],none,[30,28]⟩,⟨some 44,.fadr 10,[.t 1],none,[]⟩,⟨some 45,.load 1 false,[.t 44],none,[32]⟩,⟨some 46,.call 31,[.t 45,.c (.i .i64 0),.c (.i .i64 999999999)],none,[33,31]⟩,⟨some 47,.bslice 29 1 (.i .i64 0) 10 [0,1,2,3,4,5,6,7,8,9],[.t 16,.t 19,.t 22,.t 25,.t 28,.t 31,.t 34,.t 40,.t 43,.t 46],none,[4,7,10,13,16,19,22,28,31,34]⟩,⟨some 48,.call 28,[.t 47],none,[35,34]⟩,⟨some 2,.mv,[.t 48],none,[36,36,0,1,2,3,4,5,6,7,8,9,10,11,12,13,14,15,16,17,18,19,20,21,22,23,24,25,26,27,28,29,30,31,32,33,34,35,36]⟩]) .ret))
def rs84 : List RV := [.tmp 2]
theorem fact84 : compF Try.prog 29 = some (ac84,rs84,49) := by kernel_rfl
abbrev fnSame (s : ByteArray) : PV := .fn (.func 81) [] [.ip (.s s) 0]
theorem pure153 (s : ByteArray) : Pure Try.prog 80 [.s s] (fnSame s) := by
  refine pure_by fact153 (by simp) fun hw X hX => ?_
  unfold ac153 rs153
  repeat' first | (show Run _ (.cond _ _ _) _ _; refine run_condX (fun hc => ?_) (fun hc => ?_) <;> (try simp only [qH, rng_0] at hc) <;> try contradiction) | (first | refine Stp.h ?_ | (show ∀ K : St → List Ft → Prop, _; intro K hK) | (show runS _ _ _ _ _; first | refine qY (hq := ?_) | refine qZ (hq := ?_)) | (refine hK _ _ ?_; clear hK K) | (refine hK _ _ rfl ?_; clear hK K) | (refine qZ (hq := ?_); try exact trivial) | omega)
  exact .refl _
theorem pure154 (m s : ByteArray) : Pure Try.prog 81 [.s m, .ip (.s s) 0] (.b (decide (m = s))) := by
  refine pure_by fact154 (by simp) fun hw X hX => ?_
  unfold ac154 rs154
  repeat' first | (show Run _ (.cond _ _ _) _ _; refine run_condX (fun hc => ?_) (fun hc => ?_) <;> (try simp only [qH, rng_0] at hc) <;> try contradiction) | (first | refine Stp.h ?_ | (show ∀ K : St → List Ft → Prop, _; intro K hK) | (show runS _ _ _ _ _; first | refine qY (hq := ?_) | refine qZ (hq := ?_)) | (refine hK _ _ ?_; clear hK K) | (refine hK _ _ rfl ?_; clear hK K) | (refine qZ (hq := ?_); try exact trivial) | omega)
  exact .refl _
theorem pure155 (m : ByteArray) : Pure Try.prog 82 [.s m] (.b true) := by
  refine pure_by fact155 (by simp) fun hw X hX => ?_
  unfold ac155 rs155
  repeat' first | (show Run _ (.cond _ _ _) _ _; refine run_condX (fun hc => ?_) (fun hc => ?_) <;> (try simp only [qH, rng_0] at hc) <;> try contradiction) | (first | refine Stp.h ?_ | (show ∀ K : St → List Ft → Prop, _; intro K hK) | (show runS _ _ _ _ _; first | refine qY (hq := ?_) | refine qZ (hq := ?_)) | (refine hK _ _ ?_; clear hK K) | (refine hK _ _ rfl ?_; clear hK K) | (refine qZ (hq := ?_); try exact trivial) | omega)
  exact .refl _
theorem sDA : (bs [68] = bs [65]) = False := by decide
theorem sTA : (bs [84] = bs [65]) = False := by decide
theorem sTD : (bs [84] = bs [68]) = False := by decide
abbrev kindsM : PV := .mp [(.s sA, .agg [fnSame sA]), (.s sD, .agg [fnSame sD]), (.s sT, .agg [.fn (.func 82) [] []])]
theorem pure129 : Pure Try.prog 59 [] kindsM := by
  refine pure_by fact129 (by simp) fun hw X hX => ?_
  unfold ac129 rs129
  have qe := And.intro qR (And.intro @sDA (And.intro @sTA @sTD)); repeat' first | (show Run _ (.cond _ _ _) _ _; refine run_condX (fun hc => ?_) (fun hc => ?_) <;> (try simp only [qH, rng_0] at hc) <;> try contradiction) | (show RunOps _ _ _ _ (⟨_, .callv, _, _, _⟩ :: _) _ _; refine run_callVX (hf := pure153 _) (hn := ?_)) | (first | refine Stp.h ?_ | (show ∀ K : St → List Ft → Prop, _; intro K hK) | (show runS _ _ _ _ _; first | refine qY (hq := ?_) | refine qZ (hq := ?_)) | (refine hK _ _ ?_; clear hK K) | (refine hK _ _ rfl ?_; clear hK K) | (refine qZ (hq := ?_); try exact trivial) | omega)
  exact .refl _
theorem pure131 (l : Lim) (n : ByteArray) : Pure Try.prog 97 [l.pv, .ip (.s n) 0] (.b (decide (l.name = n))) := by
  refine pure_by fact131 (by simp) fun hw X hX => ?_
  unfold ac131 rs131
  repeat' first | (show Run _ (.cond _ _ _) _ _; refine run_condX (fun hc => ?_) (fun hc => ?_) <;> (try simp only [qH, rng_0] at hc) <;> try contradiction) | (first | refine Stp.h ?_ | (show ∀ K : St → List Ft → Prop, _; intro K hK) | (show runS _ _ _ _ _; first | refine qY (hq := ?_) | refine qZ (hq := ?_)) | (refine hK _ _ ?_; clear hK K) | (refine hK _ _ rfl ?_; clear hK K) | (refine qZ (hq := ?_); try exact trivial) | omega)
  exact .refl _
def atL (n : ByteArray) : List ByteArray → Int
  | [] => -1
  | x :: r => if x = n then 0 else if atL n r < 0 then -1 else atL n r + 1
theorem atL_ge (n : ByteArray) : ∀ l, -1 ≤ atL n l
  | [] => by simp [atL]
  | x :: r => by have := atL_ge n r; simp only [atL]; (repeat' split) <;> omega
theorem atL_hit {n : ByteArray} : ∀ {l : List ByteArray} {i : Nat}, (∀ x ∈ l.take i, x ≠ n) → l[i]? = some n → atL n l = i
  | [], i, _, h => by simp at h
  | x :: r, 0, _, h => by simp at h; simp [atL, h]
  | x :: r, i + 1, h, hx => by
    have h0 : x ≠ n := h x (by simp)
    have := atL_hit (l := r) (i := i) (fun y hy => h y (by simp [hy])) (by simpa using hx)
    simp only [atL, if_neg h0, this]; rw [if_neg (by omega)]; simp
theorem atL_end {n : ByteArray} : ∀ {l : List ByteArray}, (∀ x ∈ l, x ≠ n) → atL n l = -1
  | [], _ => rfl
  | x :: r, h => by
    have h0 : x ≠ n := h x (by simp)
    have := atL_end (l := r) fun y hy => h y (by simp [hy])
    simp only [atL, if_neg h0, this]; rfl
theorem pure130 (l : List Lim) (n : ByteArray) : Pure Try.prog 96 [.sl 11 (l.map Lim.pv), .fn (.func 97) [] [.ip (.s n) 0]] (.i .i64 (atL n (l.map Lim.name))) := by
  refine pure_by fact130 (by simp) fun hw X hX => ?_
  unfold ac130 rs130
  simp only [wfs, PV.wf, List.length_map, maxLen] at hw
  repeat' first | (show Run _ (.cond _ _ _) _ _; refine run_condX (fun hc => ?_) (fun hc => ?_) <;> (try simp only [qH, rng_0] at hc) <;> try contradiction) | (first | refine Stp.h ?_ | (show ∀ K : St → List Ft → Prop, _; intro K hK) | (show runS _ _ _ _ _; first | refine qY (hq := ?_) | refine qZ (hq := ?_)) | (refine hK _ _ ?_; clear hK K) | (refine hK _ _ rfl ?_; clear hK K) | (refine qZ (hq := ?_); try exact trivial) | omega)
  refine run_loop (κ := Nat) (fun i => ⟨[(0, .p (.sl 11 (l.map Lim.pv))), (1, .p (.fn (.func 97) [] [.ip (.s n) 0])), (7, .p (.i .i64 l.length)), (8, .p (.i .i64 i))], [], [], false⟩) (fun i => i ≤ l.length ∧ ∀ x ∈ (l.map Lim.name).take i, x ≠ n) (fun i => l.length - i) 0 ?_ ?_ ?_
  · simp only [qS, Nat.reduceAdd, Nat.reduceMul, Nat.reduceEqDiff, Nat.reduceLeDiff, reduceIte, reduceCtorEq, Nat.reduceBEq, Nat.reduceLT] <;> rfl
  · simp
  · intro i hi
    repeat (first | refine Stp.h ?_ | (show ∀ K : St → List Ft → Prop, _; intro K hK) | (show runS _ _ _ _ _; first | refine qY (hq := ?_) | refine qZ (hq := ?_)) | (refine hK _ _ ?_; clear hK K) | (refine hK _ _ rfl ?_; clear hK K) | (refine qZ (hq := ?_); try exact trivial) | omega)
    (show Run _ (.cond _ _ _) _ _; refine run_condX (fun hc => ?_) (fun hc => ?_) <;> (try simp only [qH, rng_0] at hc) <;> try contradiction)
    · obtain ⟨x, hx⟩ := some_at (i := i) (l := l) (by omega)
      have qe := @hx; repeat' first | (show Run _ (.cond _ _ _) _ _; refine run_condX (fun hc => ?_) (fun hc => ?_) <;> (try simp only [qH, rng_0] at hc) <;> try contradiction) | (show RunOps _ _ _ _ (⟨_, .callv, _, _, _⟩ :: _) _ _; refine run_callVX (hf := pure131 x n) (hn := ?_)) | (first | refine Stp.h ?_ | (show ∀ K : St → List Ft → Prop, _; intro K hK) | (show runS _ _ _ _ _; first | refine qY (hq := ?_) | refine qZ (hq := ?_)) | (refine hK _ _ ?_; clear hK K) | (refine hK _ _ rfl ?_; clear hK K) | (refine qZ (hq := ?_); try exact trivial) | omega)
      · rw [atL_hit hi.2 (by simp [hx, hc])]; exact .refl _
      · refine ⟨i + 1, ⟨by omega, fun y hy => ?_⟩, by omega, by simp⟩
        rw [← List.map_take, take_snoc _ hx] at hy
        rcases List.mem_append.1 hy with h | h
        · exact hi.2 y (by rw [← List.map_take]; exact h)
        · simp at h; subst h; exact hc
    · repeat' first | (show Run _ (.cond _ _ _) _ _; refine run_condX (fun hc => ?_) (fun hc => ?_) <;> (try simp only [qH, rng_0] at hc) <;> try contradiction) | (first | refine Stp.h ?_ | (show ∀ K : St → List Ft → Prop, _; intro K hK) | (show runS _ _ _ _ _; first | refine qY (hq := ?_) | refine qZ (hq := ?_)) | (refine hK _ _ ?_; clear hK K) | (refine hK _ _ rfl ?_; clear hK K) | (refine qZ (hq := ?_); try exact trivial) | omega)
      have e : i = l.length := by omega
      subst e
      rw [atL_end (fun y hy => hi.2 y (by rw [List.take_of_length_le (by simp)]; exact hy))]; exact .refl _
theorem pure86 (l : List Lim) (n : ByteArray) : Pure Try.prog 79 [.sl 11 (l.map Lim.pv), .s n] (.i .i64 (atL n (l.map Lim.name))) := by
  refine pure_by fact86 (by simp) fun hw X hX => ?_
  unfold ac86 rs86
  repeat' first | (show Run _ (.cond _ _ _) _ _; refine run_condX (fun hc => ?_) (fun hc => ?_) <;> (try simp only [qH, rng_0] at hc) <;> try contradiction) | (show RunOps _ _ _ _ (⟨_, .call 96, _, _, _⟩ :: _) _ _; refine run_callX (hf := pure130 l n) (hn := ?_)) | (first | refine Stp.h ?_ | (show ∀ K : St → List Ft → Prop, _; intro K hK) | (show runS _ _ _ _ _; first | refine qY (hq := ?_) | refine qZ (hq := ?_)) | (refine hK _ _ ?_; clear hK K) | (refine hK _ _ rfl ?_; clear hK K) | (refine qZ (hq := ?_); try exact trivial) | omega)
  exact .refl _
theorem pure84 (l : Lim) : Pure Try.prog 29 [l.pv] (.i .i64 (chkLim l)) := by
  refine pure_by fact84 (by simp) fun hw X hX => ?_
  unfold ac84 rs84
  have key : ∀ k : Int, kindE l.kind = k → firstE [if isName l.name = false then 8 else 0, k, optE l.term, rng l.len 1 1440, rng l.step 1 1440, rng l.fro 0 1439, rng l.to 0 1439, if l.to < l.fro then 11 else 0, chkPer l.per, rng l.most 0 999999999] = chkLim l := fun k hk => by subst hk; rfl
  by_cases hA : l.kind = sA
  · have hA' := eq_true hA
    have qe := And.intro qR @hA'; repeat' first | (show Run _ (.cond _ _ _) _ _; refine run_condX (fun hc => ?_) (fun hc => ?_) <;> (try simp only [qH, rng_0] at hc) <;> try contradiction) | (show RunOps _ _ _ _ (⟨_, .call 59, _, _, _⟩ :: _) _ _; refine run_callX (hf := pure129) (hn := ?_)) | (show RunOps _ _ _ _ (⟨_, .call 31, _, _, _⟩ :: _) _ _; refine run_callX (hf := pure88 _ _ _) (hn := ?_)) | (show RunOps _ _ _ _ (⟨_, .call 61, _, _, _⟩ :: _) _ _; refine run_callX (hf := pure123 _) (hn := ?_)) | (show RunOps _ _ _ _ (⟨_, .call 62, _, _, _⟩ :: _) _ _; refine run_callX (hf := pure124 l.per) (hn := ?_)) | (show RunOps _ _ _ _ (⟨_, .call 60, _, _, _⟩ :: _) _ _; refine run_callX (hf := pure109 _) (hn := ?_)) | (show RunOps _ _ _ _ (⟨_, .call 36, _, _, _⟩ :: _) _ _; refine run_callX (hf := pure85 _ _) (hn := ?_)) | (show RunOps _ _ _ _ (⟨_, .call 28, _, _, _⟩ :: _) _ _; refine run_callX (hf := pure83 [_, _, _, _, _, _, _, _, _, _]) (hn := ?_)) | (first | refine Stp.h ?_ | (show ∀ K : St → List Ft → Prop, _; intro K hK) | (show runS _ _ _ _ _; first | refine qY (hq := ?_) | refine qZ (hq := ?_)) | (refine hK _ _ ?_; clear hK K) | (refine hK _ _ rfl ?_; clear hK K) | (refine qZ (hq := ?_); try exact trivial) | omega)
    rw [← key 0 (by simp [kindE, hA])]; exact .refl _
  have hA' := eq_false hA
  by_cases hD : l.kind = sD
  · have hD' := eq_true hD
    have qe := And.intro qR (And.intro @hA' @hD'); repeat' first | (show Run _ (.cond _ _ _) _ _; refine run_condX (fun hc => ?_) (fun hc => ?_) <;> (try simp only [qH, rng_0] at hc) <;> try contradiction) | (show RunOps _ _ _ _ (⟨_, .call 59, _, _, _⟩ :: _) _ _; refine run_callX (hf := pure129) (hn := ?_)) | (show RunOps _ _ _ _ (⟨_, .call 31, _, _, _⟩ :: _) _ _; refine run_callX (hf := pure88 _ _ _) (hn := ?_)) | (show RunOps _ _ _ _ (⟨_, .call 61, _, _, _⟩ :: _) _ _; refine run_callX (hf := pure123 _) (hn := ?_)) | (show RunOps _ _ _ _ (⟨_, .call 62, _, _, _⟩ :: _) _ _; refine run_callX (hf := pure124 l.per) (hn := ?_)) | (show RunOps _ _ _ _ (⟨_, .call 60, _, _, _⟩ :: _) _ _; refine run_callX (hf := pure109 _) (hn := ?_)) | (show RunOps _ _ _ _ (⟨_, .call 36, _, _, _⟩ :: _) _ _; refine run_callX (hf := pure85 _ _) (hn := ?_)) | (show RunOps _ _ _ _ (⟨_, .call 28, _, _, _⟩ :: _) _ _; refine run_callX (hf := pure83 [_, _, _, _, _, _, _, _, _, _]) (hn := ?_)) | (first | refine Stp.h ?_ | (show ∀ K : St → List Ft → Prop, _; intro K hK) | (show runS _ _ _ _ _; first | refine qY (hq := ?_) | refine qZ (hq := ?_)) | (refine hK _ _ ?_; clear hK K) | (refine hK _ _ rfl ?_; clear hK K) | (refine qZ (hq := ?_); try exact trivial) | omega)
    rw [← key 0 (by simp [kindE, hD])]; exact .refl _
  have hD' := eq_false hD
  by_cases hT : l.kind = sT
  · have hT' := eq_true hT
    have qe := And.intro qR (And.intro @hA' (And.intro @hD' @hT')); repeat' first | (show Run _ (.cond _ _ _) _ _; refine run_condX (fun hc => ?_) (fun hc => ?_) <;> (try simp only [qH, rng_0] at hc) <;> try contradiction) | (show RunOps _ _ _ _ (⟨_, .call 59, _, _, _⟩ :: _) _ _; refine run_callX (hf := pure129) (hn := ?_)) | (show RunOps _ _ _ _ (⟨_, .call 31, _, _, _⟩ :: _) _ _; refine run_callX (hf := pure88 _ _ _) (hn := ?_)) | (show RunOps _ _ _ _ (⟨_, .call 61, _, _, _⟩ :: _) _ _; refine run_callX (hf := pure123 _) (hn := ?_)) | (show RunOps _ _ _ _ (⟨_, .call 62, _, _, _⟩ :: _) _ _; refine run_callX (hf := pure124 l.per) (hn := ?_)) | (show RunOps _ _ _ _ (⟨_, .call 60, _, _, _⟩ :: _) _ _; refine run_callX (hf := pure109 _) (hn := ?_)) | (show RunOps _ _ _ _ (⟨_, .call 36, _, _, _⟩ :: _) _ _; refine run_callX (hf := pure85 _ _) (hn := ?_)) | (show RunOps _ _ _ _ (⟨_, .call 28, _, _, _⟩ :: _) _ _; refine run_callX (hf := pure83 [_, _, _, _, _, _, _, _, _, _]) (hn := ?_)) | (first | refine Stp.h ?_ | (show ∀ K : St → List Ft → Prop, _; intro K hK) | (show runS _ _ _ _ _; first | refine qY (hq := ?_) | refine qZ (hq := ?_)) | (refine hK _ _ ?_; clear hK K) | (refine hK _ _ rfl ?_; clear hK K) | (refine qZ (hq := ?_); try exact trivial) | omega)
    rw [← key 0 (by simp [kindE, hT])]; exact .refl _
  have hT' := eq_false hT
  have qe := And.intro qR (And.intro @hA' (And.intro @hD' @hT')); repeat' first | (show Run _ (.cond _ _ _) _ _; refine run_condX (fun hc => ?_) (fun hc => ?_) <;> (try simp only [qH, rng_0] at hc) <;> try contradiction) | (show RunOps _ _ _ _ (⟨_, .call 59, _, _, _⟩ :: _) _ _; refine run_callX (hf := pure129) (hn := ?_)) | (show RunOps _ _ _ _ (⟨_, .call 31, _, _, _⟩ :: _) _ _; refine run_callX (hf := pure88 _ _ _) (hn := ?_)) | (show RunOps _ _ _ _ (⟨_, .call 61, _, _, _⟩ :: _) _ _; refine run_callX (hf := pure123 _) (hn := ?_)) | (show RunOps _ _ _ _ (⟨_, .call 62, _, _, _⟩ :: _) _ _; refine run_callX (hf := pure124 l.per) (hn := ?_)) | (show RunOps _ _ _ _ (⟨_, .call 60, _, _, _⟩ :: _) _ _; refine run_callX (hf := pure109 _) (hn := ?_)) | (show RunOps _ _ _ _ (⟨_, .call 36, _, _, _⟩ :: _) _ _; refine run_callX (hf := pure85 _ _) (hn := ?_)) | (show RunOps _ _ _ _ (⟨_, .call 28, _, _, _⟩ :: _) _ _; refine run_callX (hf := pure83 [_, _, _, _, _, _, _, _, _, _]) (hn := ?_)) | (first | refine Stp.h ?_ | (show ∀ K : St → List Ft → Prop, _; intro K hK) | (show runS _ _ _ _ _; first | refine qY (hq := ?_) | refine qZ (hq := ?_)) | (refine hK _ _ ?_; clear hK K) | (refine hK _ _ rfl ?_; clear hK K) | (refine qZ (hq := ?_); try exact trivial) | omega)
  rw [← key 13 (by simp [kindE, hA, hD, hT])]; exact .refl _
end Go.Proofs.Ytcfbdeghmckelaa
namespace Go.Proofs.Ytcfbdeghmckelaa
open Go.RowKit
set_option maxRecDepth 100000
set_option linter.unusedVariables false
set_option linter.unusedSimpArgs false
set_option maxHeartbeats 2000000
def ac22 : AC := .seq (.ops false [⟨some 2,.mv,[.c (.i .i64 0)],none,[]⟩]) (.seq (.seq (.ops false [⟨some 6,.mv,[.t 0],none,[]⟩,⟨some 7,.len false,[.t 6],none,[0]⟩,⟨some 8,.bin .gtr,[.t 7,.c (.i .i64 32)],none,[1]⟩]) (.cond (.t 8) (.seq (.ops false [⟨some 2,.mv,[.c (.i .i64 5)],none,[]⟩]) .ret) .skip)) (.seq (.seq (.ops false [⟨some 9,.mv,[.t 0],none,[]⟩,⟨some 10,.len false,[.t 9],none,[0]⟩,⟨some 11,.mv,[.c (.i .i64 0)],none,[]⟩]) (.block 0 (.loop (.seq (.ops false [⟨some 12,.bin .lss,[.t 11,.t 10],none,[]⟩]) (.seq (.cond (.t 12) .skip (.exit 0)) (.seq (.block 1 (.seq (.ops false [⟨some 13,.mv,[.t 11],none,[]⟩,⟨some 14,.iadrS 11,[.t 9,.t 11],none,[]⟩,⟨some 15,.load 11 true,[.t 14],none,[1]⟩,⟨some 4,.alloc [(.s (bs [])),(.s (bs [])),(.s (bs [])),(.i .i64 0),(.i .i64 0),(.i .i64 0),(.i .i64 0),(.i .i64 0),(.i .i64 0),(.i .i64 0),(.i .i64 0)],[],none,[]⟩,⟨some 3,.mv,[.t 13],none,[0,0,1,2,3]⟩,⟨none,.store 11,[.t 4,.t 15],none,[3,2,4,0,1,2,3,4]⟩]) (.seq (.ops true [⟨some 16,.load 11 true,[.t 4],none,[]⟩,⟨some 17,.call 29,[.t 16],none,[0]⟩,⟨some 18,.mv,[.t 0],none,[]⟩,⟨some 19,.mv,[.t 3],none,[]⟩,⟨some 20,.sliceL 11 false true,[.t 18,.t 19],none,[2,3]⟩,⟨some 21,.fadr 0,[.t 4],none,[]⟩,⟨some 22,.load 1 false,[.t 21],none,[5]⟩,⟨some 23,.call 79,[.t 20,.t 22],none,[4,6,1]⟩,⟨some 24,.bin .geq,[.t 23,.c (.i .i64 0)],none,[7]⟩,⟨some 25,.call 36,[.t 24,.c (.i .i64 9)],none,[8,7]⟩,⟨some 26,.bslice 29 1 (.i .i64 0) 2 [0,1],[.t 17,.t 25],none,[1,9]⟩,⟨some 27,.call 28,[.t 26],none,[10,9]⟩,⟨some 5,.mv,[.t 27],none,[11,11,0,1,2,3,4,5,6,7,8,9,10,11]⟩]) (.seq (.ops false [⟨some 28,.mv,[.t 5],none,[]⟩,⟨some 29,.bin .neq,[.t 28,.c (.i .i64 0)],none,[0]⟩]) (.cond (.t 29) (.seq (.ops false [⟨some 30,.mv,[.t 5],none,[]⟩,⟨some 2,.mv,[.t 30],none,[0,0]⟩]) .ret) .skip))))) (.ops false [⟨some 31,.bin .add,[.t 11,.c (.i .i64 1)],none,[]⟩,⟨some 11,.mv,[.t 31],none,[0]⟩]))))))) (.seq (.ops false [⟨some 2,.mv,[.c (.i .i64 0)],none,[]⟩]) .ret)))
def rs22 : List RV := [.tmp 2]
theorem fact22 : compF Try.prog 57 = some (ac22,rs22,32) := by kernel_rfl
def ac24 : AC := .seq (.ops false [⟨some 2,.mv,[.c (.i .i64 0)],none,[]⟩]) (.seq (.seq (.ops false [⟨some 6,.mv,[.t 0],none,[]⟩,⟨some 7,.len false,[.t 6],none,[0]⟩,⟨some 8,.bin .gtr,[.t 7,.c (.i .i64 30000)],none,[1]⟩]) (.cond (.t 8) (.seq (.ops false [⟨some 2,.mv,[.c (.i .i64 5)],none,[]⟩]) .ret) .skip)) (.seq (.seq (.ops false [⟨some 9,.mv,[.t 0],none,[]⟩,⟨some 10,.len false,[.t 9],none,[0]⟩,⟨some 11,.mv,[.c (.i .i64 0)],none,[]⟩]) (.block 0 (.loop (.seq (.ops false [⟨some 12,.bin .lss,[.t 11,.t 10],none,[]⟩]) (.seq (.cond (.t 12) .skip (.exit 0)) (.seq (.block 1 (.seq (.ops false [⟨some 13,.mv,[.t 11],none,[]⟩,⟨some 14,.iadrS 7,[.t 9,.t 11],none,[]⟩,⟨some 15,.load 7 true,[.t 14],none,[1]⟩,⟨some 4,.alloc [(.i .i64 0),(.s (bs [])),(.s (bs [])),(.i .i64 0),(.i .i64 0),(.i .i64 0),(.s (bs []))],[],none,[]⟩,⟨some 3,.mv,[.t 13],none,[0,0,1,2,3]⟩,⟨none,.store 7,[.t 4,.t 15],none,[3,2,4,0,1,2,3,4]⟩]) (.seq (.ops true [⟨some 16,.load 7 true,[.t 4],none,[]⟩,⟨some 17,.call 46,[.t 16],none,[0]⟩,⟨some 18,.mv,[.t 3],none,[]⟩,⟨some 19,.bin .gtr,[.t 18,.c (.i .i64 0)],none,[2]⟩,⟨some 20,.mv,[.t 19],none,[3,1]⟩,⟨some 21,.fadr 0,[.t 4],some (20,true),[4]⟩,⟨some 22,.load 1 false,[.t 21],some (20,true),[5,4]⟩,⟨some 23,.mv,[.t 0],some (20,true),[4]⟩,⟨some 24,.mv,[.t 3],some (20,true),[4]⟩,⟨some 25,.bin .sub,[.t 24,.c (.i .i64 1)],some (20,true),[8,4]⟩,⟨some 26,.mx,[.c (.i .i64 0),.t 25],some (20,true),[9,4]⟩,⟨some 27,.iadrS 7,[.t 23,.t 26],some (20,true),[7,10,4]⟩,⟨some 28,.fadr 0,[.t 27],some (20,true),[11,4]⟩,⟨some 29,.load 1 false,[.t 28],some (20,true),[12,4]⟩,⟨some 30,.bin .lss,[.t 22,.t 29],some (20,true),[6,13,4]⟩,⟨some 31,.pick,[.t 20,.t 30,.c (.b false)],none,[4,14]⟩,⟨some 32,.call 36,[.t 31,.c (.i .i64 11)],none,[15,4]⟩,⟨some 33,.bslice 29 1 (.i .i64 0) 2 [0,1],[.t 17,.t 32],none,[1,16]⟩,⟨some 34,.call 28,[.t 33],none,[17,16]⟩,⟨some 5,.mv,[.t 34],none,[18,18,0,1,2,3,4,5,6,7,8,9,10,11,12,13,14,15,16,17,18]⟩]) (.seq (.ops false [⟨some 35,.mv,[.t 5],none,[]⟩,⟨some 36,.bin .neq,[.t 35,.c (.i .i64 0)],none,[0]⟩]) (.cond (.t 36) (.seq (.ops false [⟨some 37,.mv,[.t 5],none,[]⟩,⟨some 2,.mv,[.t 37],none,[0,0]⟩]) .ret) .skip))))) (.ops false [⟨some 38,.bin .add,[.t 11,.c (.i .i64 1)],none,[]⟩,⟨some 11,.mv,[.t 38],none,[0]⟩]))))))) (.seq (.ops false [⟨some 2,.mv,[.c (.i .i64 0)],none,[]⟩]) .ret)))
def rs24 : List RV := [.tmp 2]
theorem fact24 : compF Try.prog 30 = some (ac24,rs24,39) := by kernel_rfl
def ac97 : AC := .seq (.ops false [⟨some 4,.mv,[.c (.i .i64 0)],none,[]⟩]) (.seq (.ops false [⟨some 5,.mv,[.t 0],none,[]⟩,⟨some 6,.call 57,[.t 5],none,[0]⟩,⟨some 7,.mv,[.t 1],none,[]⟩,⟨some 8,.call 30,[.t 7],none,[2,1]⟩,⟨some 9,.bslice 29 1 (.i .i64 0) 2 [0,1],[.t 6,.t 8],none,[1,3]⟩,⟨some 10,.call 28,[.t 9],none,[4,3]⟩,⟨some 4,.mv,[.t 10],none,[5,5,0,1,2,3,4,5]⟩]) .ret)
def rs97 : List RV := [.tmp 4]
theorem fact97 : compF Try.prog 26 = some (ac97,rs97,11) := by kernel_rfl
def limErr (l : List Lim) (i : Nat) (x : Lim) : Int := firstE [chkLim x, if 0 ≤ atL x.name ((l.take i).map Lim.name) then 9 else 0]
def limErrs (l : List Lim) : List Int := l.mapIdx (limErr l)
def chkLims (l : List Lim) : Int := if 32 < l.length then 5 else firstE (limErrs l)
def movErr (l : List Mov) (i : Nat) (x : Mov) : Int := firstE [chkMov x, if 0 < (i : Int) ∧ x.moment < ((l[i - 1]?).getD x).moment then 11 else 0]
def movErrs (l : List Mov) : List Int := l.mapIdx (movErr l)
def chkMovs (l : List Mov) : Int := if 30000 < l.length then 5 else firstE (movErrs l)
theorem mapIdx_at {α β : Type} {f : Nat → α → β} {l : List α} {i : Nat} {x : α} (h : l[i]? = some x) : (l.mapIdx f)[i]? = some (f i x) := by simp [List.getElem?_mapIdx, h]
theorem take_map {α β : Type} (f : α → β) (l : List α) (i : Nat) : (l.map f).take i = (l.take i).map f := by rw [List.map_take]
theorem pure22 (l : List Lim) : Pure Try.prog 57 [.sl 11 (l.map Lim.pv)] (.i .i64 (chkLims l)) := by
  refine pure_by fact22 (by simp) fun hw X hX => ?_
  unfold ac22 rs22
  simp only [wfs, PV.wf, List.length_map, maxLen] at hw
  repeat' first | (show Run _ (.cond _ _ _) _ _; refine run_condX (fun hc => ?_) (fun hc => ?_) <;> (try simp only [qH, rng_0] at hc) <;> try contradiction) | (first | refine Stp.h ?_ | (show ∀ K : St → List Ft → Prop, _; intro K hK) | (show runS _ _ _ _ _; first | refine qY (hq := ?_) | refine qZ (hq := ?_)) | (refine hK _ _ ?_; clear hK K) | (refine hK _ _ rfl ?_; clear hK K) | (refine qZ (hq := ?_); try exact trivial) | omega)
  · rw [chkLims, if_pos (by omega)]; exact .refl _
  refine run_loop (κ := Nat) (fun i => ⟨[(0, .p (.sl 11 (l.map Lim.pv))), (9, .p (.sl 11 (l.map Lim.pv))), (10, .p (.i .i64 l.length)), (11, .p (.i .i64 i))], [], [], false⟩) (fun i => i ≤ l.length ∧ ∀ x ∈ (limErrs l).take i, x = 0) (fun i => l.length - i) 0 ?_ ?_ ?_
  · simp only [qS, Nat.reduceAdd, Nat.reduceMul, Nat.reduceEqDiff, Nat.reduceLeDiff, reduceIte, reduceCtorEq, Nat.reduceBEq, Nat.reduceLT] <;> rfl
  · simp
  · intro i hi
    repeat (first | refine Stp.h ?_ | (show ∀ K : St → List Ft → Prop, _; intro K hK) | (show runS _ _ _ _ _; first | refine qY (hq := ?_) | refine qZ (hq := ?_)) | (refine hK _ _ ?_; clear hK K) | (refine hK _ _ rfl ?_; clear hK K) | (refine qZ (hq := ?_); try exact trivial) | omega)
    (show Run _ (.cond _ _ _) _ _; refine run_condX (fun hc => ?_) (fun hc => ?_) <;> (try simp only [qH, rng_0] at hc) <;> try contradiction)
    · obtain ⟨x, hx⟩ := some_at (i := i) (l := l) (by omega)
      have qe := And.intro qR (And.intro @hx @take_map); repeat' first | (show Run _ (.cond _ _ _) _ _; refine run_condX (fun hc => ?_) (fun hc => ?_) <;> (try simp only [qH, rng_0] at hc) <;> try contradiction) | (show RunOps _ _ _ _ (⟨_, .call 29, _, _, _⟩ :: _) _ _; refine run_callX (hf := pure84 x) (hn := ?_)) | (show RunOps _ _ _ _ (⟨_, .call 79, _, _, _⟩ :: _) _ _; refine run_callX (hf := pure86 (l.take i) x.name) (hn := ?_)) | (show RunOps _ _ _ _ (⟨_, .call 36, _, _, _⟩ :: _) _ _; refine run_callX (hf := pure85 _ _) (hn := ?_)) | (show RunOps _ _ _ _ (⟨_, .call 28, _, _, _⟩ :: _) _ _; refine run_callX (hf := pure83 [_, _]) (hn := ?_)) | (first | refine Stp.h ?_ | (show ∀ K : St → List Ft → Prop, _; intro K hK) | (show runS _ _ _ _ _; first | refine qY (hq := ?_) | refine qZ (hq := ?_)) | (refine hK _ _ ?_; clear hK K) | (refine hK _ _ rfl ?_; clear hK K) | (refine qZ (hq := ?_); try exact trivial) | omega)
      · have he : chkLims l = limErr l i x := by unfold chkLims; rw [if_neg (by omega)]; exact firstE_at hi.2 (mapIdx_at hx) hc
        rw [he]; exact .refl _
      · exact ⟨i + 1, ⟨by omega, take_all hi.2 (mapIdx_at hx) hc⟩, by omega, by simp⟩
    · repeat' first | (show Run _ (.cond _ _ _) _ _; refine run_condX (fun hc => ?_) (fun hc => ?_) <;> (try simp only [qH, rng_0] at hc) <;> try contradiction) | (first | refine Stp.h ?_ | (show ∀ K : St → List Ft → Prop, _; intro K hK) | (show runS _ _ _ _ _; first | refine qY (hq := ?_) | refine qZ (hq := ?_)) | (refine hK _ _ ?_; clear hK K) | (refine hK _ _ rfl ?_; clear hK K) | (refine qZ (hq := ?_); try exact trivial) | omega)
      have e : i = (limErrs l).length := by simp [limErrs]; omega
      subst e
      rw [chkLims, if_neg (by omega), firstE_end hi.2]; exact .refl _
theorem pure24 (l : List Mov) : Pure Try.prog 30 [.sl 7 (l.map Mov.pv)] (.i .i64 (chkMovs l)) := by
  refine pure_by fact24 (by simp) fun hw X hX => ?_
  unfold ac24 rs24
  simp only [wfs, PV.wf, List.length_map, maxLen] at hw
  repeat' first | (show Run _ (.cond _ _ _) _ _; refine run_condX (fun hc => ?_) (fun hc => ?_) <;> (try simp only [qH, rng_0] at hc) <;> try contradiction) | (first | refine Stp.h ?_ | (show ∀ K : St → List Ft → Prop, _; intro K hK) | (show runS _ _ _ _ _; first | refine qY (hq := ?_) | refine qZ (hq := ?_)) | (refine hK _ _ ?_; clear hK K) | (refine hK _ _ rfl ?_; clear hK K) | (refine qZ (hq := ?_); try exact trivial) | omega)
  · rw [chkMovs, if_pos (by omega)]; exact .refl _
  refine run_loop (κ := Nat) (fun i => ⟨[(0, .p (.sl 7 (l.map Mov.pv))), (9, .p (.sl 7 (l.map Mov.pv))), (10, .p (.i .i64 l.length)), (11, .p (.i .i64 i))], [], [], false⟩) (fun i => i ≤ l.length ∧ ∀ x ∈ (movErrs l).take i, x = 0) (fun i => l.length - i) 0 ?_ ?_ ?_
  · simp only [qS, Nat.reduceAdd, Nat.reduceMul, Nat.reduceEqDiff, Nat.reduceLeDiff, reduceIte, reduceCtorEq, Nat.reduceBEq, Nat.reduceLT] <;> rfl
  · simp
  · intro i hi
    repeat (first | refine Stp.h ?_ | (show ∀ K : St → List Ft → Prop, _; intro K hK) | (show runS _ _ _ _ _; first | refine qY (hq := ?_) | refine qZ (hq := ?_)) | (refine hK _ _ ?_; clear hK K) | (refine hK _ _ rfl ?_; clear hK K) | (refine qZ (hq := ?_); try exact trivial) | omega)
    (show Run _ (.cond _ _ _) _ _; refine run_condX (fun hc => ?_) (fun hc => ?_) <;> (try simp only [qH, rng_0] at hc) <;> try contradiction)
    · obtain ⟨x, hx⟩ := some_at (i := i) (l := l) (by omega)
      obtain ⟨y, hy⟩ := some_at (i := i - 1) (l := l) (by omega)
      have e : (max 0 ((i : Int) - 1)).toNat = i - 1 := by omega
      have he : movErr l i x = firstE [chkMov x, if 0 < (i : Int) ∧ x.moment < y.moment then 11 else 0] := by rw [movErr, hy]; rfl
      have qe := And.intro qR (And.intro @hx (And.intro @hy @e)); repeat' first | (show Run _ (.cond _ _ _) _ _; refine run_condX (fun hc => ?_) (fun hc => ?_) <;> (try simp only [qH, rng_0] at hc) <;> try contradiction) | (show RunOps _ _ _ _ (⟨_, .call 46, _, _, _⟩ :: _) _ _; refine run_callX (hf := pure87 x) (hn := ?_)) | (show RunOps _ _ _ _ (⟨_, .call 36, _, _, _⟩ :: _) _ _; refine run_callX (hf := pure85 _ _) (hn := ?_)) | (show RunOps _ _ _ _ (⟨_, .call 28, _, _, _⟩ :: _) _ _; refine run_callX (hf := pure83 [_, _]) (hn := ?_)) | (first | refine Stp.h ?_ | (show ∀ K : St → List Ft → Prop, _; intro K hK) | (show runS _ _ _ _ _; first | refine qY (hq := ?_) | refine qZ (hq := ?_)) | (refine hK _ _ ?_; clear hK K) | (refine hK _ _ rfl ?_; clear hK K) | (refine qZ (hq := ?_); try exact trivial) | omega)
      · rw [← he] at hc
        have hf : chkMovs l = movErr l i x := by unfold chkMovs; rw [if_neg (by omega)]; exact firstE_at hi.2 (mapIdx_at hx) hc
        rw [hf, he]; simp only [Bool.and_eq_true, decide_eq_true_eq]; exact .refl _
      · rw [← he] at hc
        exact ⟨i + 1, ⟨by omega, take_all hi.2 (mapIdx_at hx) hc⟩, by omega, by simp⟩
    · repeat' first | (show Run _ (.cond _ _ _) _ _; refine run_condX (fun hc => ?_) (fun hc => ?_) <;> (try simp only [qH, rng_0] at hc) <;> try contradiction) | (first | refine Stp.h ?_ | (show ∀ K : St → List Ft → Prop, _; intro K hK) | (show runS _ _ _ _ _; first | refine qY (hq := ?_) | refine qZ (hq := ?_)) | (refine hK _ _ ?_; clear hK K) | (refine hK _ _ rfl ?_; clear hK K) | (refine qZ (hq := ?_); try exact trivial) | omega)
      have e : i = (movErrs l).length := by simp [movErrs]; omega
      subst e
      rw [chkMovs, if_neg (by omega), firstE_end hi.2]; exact .refl _
theorem pure97 (l : List Lim) (m : List Mov) : Pure Try.prog 26 [.sl 11 (l.map Lim.pv), .sl 7 (m.map Mov.pv)] (.i .i64 (firstE [chkLims l, chkMovs m])) := by
  refine pure_by fact97 (by simp) fun hw X hX => ?_
  unfold ac97 rs97
  have qe := @qR; repeat' first | (show Run _ (.cond _ _ _) _ _; refine run_condX (fun hc => ?_) (fun hc => ?_) <;> (try simp only [qH, rng_0] at hc) <;> try contradiction) | (show RunOps _ _ _ _ (⟨_, .call 57, _, _, _⟩ :: _) _ _; refine run_callX (hf := pure22 l) (hn := ?_)) | (show RunOps _ _ _ _ (⟨_, .call 30, _, _, _⟩ :: _) _ _; refine run_callX (hf := pure24 m) (hn := ?_)) | (show RunOps _ _ _ _ (⟨_, .call 28, _, _, _⟩ :: _) _ _; refine run_callX (hf := pure83 [_, _]) (hn := ?_)) | (first | refine Stp.h ?_ | (show ∀ K : St → List Ft → Prop, _; intro K hK) | (show runS _ _ _ _ _; first | refine qY (hq := ?_) | refine qZ (hq := ?_)) | (refine hK _ _ ?_; clear hK K) | (refine hK _ _ rfl ?_; clear hK K) | (refine qZ (hq := ?_); try exact trivial) | omega)
  exact .refl _
end Go.Proofs.Ytcfbdeghmckelaa
namespace Go.Proofs.Ytcfbdeghmckelaa
open Go.RowKit
set_option maxRecDepth 100000
set_option linter.unusedVariables false
set_option linter.unusedSimpArgs false
set_option maxHeartbeats 2000000
def ac89 : AC := .seq (.ops false [⟨some 2,.box,[.t 0],none,[]⟩,⟨some 4,.mv,[.c (.b false)],none,[]⟩]) (.seq (.ops false [⟨some 8,.fadr 7,[.t 2],none,[]⟩,⟨some 9,.load 3 true,[.t 8],none,[0]⟩,⟨some 10,.mv,[.t 1],none,[]⟩,⟨some 11,.call 72,[.t 9,.t 10],none,[1,2]⟩,⟨some 7,.mv,[.t 11],none,[3]⟩,⟨some 12,.ext 0,[.t 7],none,[4]⟩,⟨some 13,.ext 1,[.t 7],none,[4]⟩,⟨some 5,.mv,[.t 12],none,[5,3,0,1,2,3,4,5]⟩,⟨some 6,.mv,[.t 13],none,[6,7,0,1,2,3,4,5,6,7]⟩]) (.seq (.ops false [⟨some 14,.mv,[.t 6],none,[]⟩,⟨some 15,.bin .eql,[.t 14,.c (.i .i64 0)],none,[0]⟩,⟨some 16,.mv,[.t 15],none,[1]⟩,⟨some 17,.mv,[.t 5],some (16,true),[2]⟩,⟨some 18,.pick,[.t 16,.t 17,.c (.b false)],none,[2,3]⟩,⟨some 4,.mv,[.t 18],none,[4,2,0,1,2,3,4]⟩]) .ret))
def rs89 : List RV := [.tmp 4]
theorem fact89 : compF Try.prog 44 = some (ac89,rs89,19) := by kernel_rfl
def ac134 : AC := .seq (.seq (.ops false [⟨some 6,.load 1 false,[.t 1],none,[]⟩,⟨some 7,.fadr 7,[.t 2],none,[]⟩,⟨some 8,.fadr 0,[.t 7],none,[1]⟩,⟨some 9,.load 1 false,[.t 8],none,[2]⟩,⟨some 10,.bin .lss,[.t 6,.t 9],none,[0,3]⟩,⟨some 11,.mv,[.t 10],none,[4]⟩,⟨some 12,.load 1 false,[.t 1],some (11,false),[5]⟩,⟨some 13,.fadr 7,[.t 2],some (11,false),[5]⟩,⟨some 14,.fadr 1,[.t 13],some (11,false),[7,5]⟩,⟨some 15,.load 1 false,[.t 14],some (11,false),[8,5]⟩,⟨some 16,.bin .gtr,[.t 12,.t 15],some (11,false),[6,9,5]⟩,⟨some 17,.pick,[.t 11,.c (.b true),.t 16],none,[5,10]⟩,⟨some 18,.mv,[.t 17],none,[11,5]⟩,⟨some 19,.load 11 true,[.t 2],some (18,false),[12]⟩,⟨some 20,.load 1 false,[.t 1],some (18,false),[12]⟩,⟨some 21,.call 44,[.t 19,.t 20],some (18,false),[13,14,12,12]⟩,⟨some 22,.not,[.t 21],some (18,false),[15,12]⟩,⟨some 23,.pick,[.t 18,.c (.b true),.t 22],none,[12,16]⟩]) (.cond (.t 23) .ret .skip)) (.seq (.ops false [⟨some 24,.fadr 5,[.t 2],none,[]⟩,⟨some 25,.load 1 false,[.t 24],none,[0]⟩,⟨some 26,.fadr 4,[.t 2],none,[]⟩,⟨some 27,.load 1 false,[.t 26],none,[2]⟩,⟨some 28,.bin .add,[.t 25,.t 27],none,[1,3]⟩,⟨some 29,.bin .sub,[.t 28,.c (.i .i64 1)],none,[4]⟩,⟨some 30,.fadr 4,[.t 2],none,[]⟩,⟨some 31,.load 1 false,[.t 30],none,[6]⟩,⟨some 32,.bin .quo,[.t 29,.t 31],none,[5,7]⟩,⟨some 4,.mv,[.t 32],none,[8,0,1,2,3,4,5,6,7,8]⟩]) (.seq (.ops false [⟨some 33,.fadr 6,[.t 2],none,[]⟩,⟨some 34,.load 1 false,[.t 33],none,[0]⟩,⟨some 35,.fadr 4,[.t 2],none,[]⟩,⟨some 36,.load 1 false,[.t 35],none,[2]⟩,⟨some 37,.bin .quo,[.t 34,.t 36],none,[1,3]⟩,⟨some 38,.mv,[.t 4],none,[]⟩,⟨some 39,.bin .sub,[.t 37,.t 38],none,[4,5]⟩,⟨some 40,.bin .add,[.t 39,.c (.i .i64 1)],none,[6]⟩,⟨some 41,.mx,[.c (.i .i64 0),.t 40],none,[7]⟩,⟨some 42,.mv,[.c (.i .i64 0)],none,[]⟩]) (.block 0 (.loop (.seq (.ops false [⟨some 43,.bin .lss,[.t 42,.t 41],none,[]⟩]) (.seq (.cond (.t 43) .skip (.exit 0)) (.seq (.block 1 (.seq (.ops false [⟨some 44,.mv,[.t 42],none,[]⟩,⟨some 5,.mv,[.t 44],none,[0,0]⟩]) (.seq (.ops false [⟨some 45,.mv,[.t 0],none,[]⟩,⟨some 46,.load 1 false,[.t 1],none,[]⟩,⟨some 47,.bin .mul,[.c (.i .i64 1440),.t 46],none,[1]⟩,⟨some 48,.fadr 4,[.t 2],none,[]⟩,⟨some 49,.load 1 false,[.t 48],none,[3]⟩,⟨some 50,.mv,[.t 4],none,[]⟩,⟨some 51,.mv,[.t 5],none,[]⟩,⟨some 52,.bin .add,[.t 50,.t 51],none,[5,6]⟩,⟨some 53,.bin .mul,[.t 49,.t 52],none,[4,7]⟩,⟨some 54,.bin .add,[.t 47,.t 53],none,[2,8]⟩,⟨some 55,.callv,[.t 45,.t 54],none,[0,9]⟩,⟨some 56,.not,[.t 55],none,[10]⟩]) (.cond (.t 56) .ret .skip)))) (.ops false [⟨some 57,.bin .add,[.t 42,.c (.i .i64 1)],none,[]⟩,⟨some 42,.mv,[.t 57],none,[0]⟩]))))))))
def rs134 : List RV := []
theorem fact134 : compF Try.prog 63 = some (ac134,rs134,58) := by kernel_rfl
def ac91 : AC := .seq (.ops false [⟨some 2,.box,[.t 0],none,[]⟩,⟨some 3,.box,[.t 1],none,[]⟩,⟨some 4,.mv,[.c .nilf],none,[]⟩]) (.seq (.ops false [⟨some 5,.mkfn (.func 63) 0,[.t 3,.t 2],none,[]⟩,⟨some 4,.mv,[.t 5],none,[0,0]⟩]) .ret)
def rs91 : List RV := [.tmp 4]
theorem fact91 : compF Try.prog 32 = some (ac91,rs91,6) := by kernel_rfl
def ac137 : AC := .seq (.ops false [⟨some 2,.box,[.t 0],none,[]⟩]) (.seq (.ops false [⟨some 5,.fadr 7,[.t 1],none,[]⟩,⟨some 6,.fadr 0,[.t 5],none,[0]⟩,⟨some 7,.load 1 false,[.t 6],none,[1]⟩,⟨some 3,.mv,[.t 7],none,[2,0,1,2]⟩]) (.block 0 (.loop (.seq (.seq (.ops false [⟨some 8,.mv,[.t 3],none,[]⟩,⟨some 9,.fadr 7,[.t 1],none,[]⟩,⟨some 10,.fadr 1,[.t 9],none,[1]⟩,⟨some 11,.load 1 false,[.t 10],none,[2]⟩,⟨some 12,.bin .leq,[.t 8,.t 11],none,[0,3]⟩]) (.cond (.t 12) .skip (.exit 0))) (.seq (.block 1 (.seq (.ops false [⟨some 15,.load 11 true,[.t 1],none,[]⟩,⟨some 16,.mv,[.t 3],none,[]⟩,⟨some 17,.call 32,[.t 15,.t 16],none,[0,1]⟩]) (.block 2 (.rfunc (.t 17) [18] (.ops false [⟨some 4,.mv,[.t 18],none,[]⟩]) (.block 3 (.seq (.ops false [⟨some 19,.load 1 false,[.t 2],none,[]⟩,⟨some 20,.mv,[.t 4],none,[]⟩,⟨some 21,.callv,[.t 19,.t 20],none,[0,1]⟩,⟨some 22,.not,[.t 21],none,[2]⟩]) (.cond (.t 22) .ret .skip))))))) (.ops false [⟨some 13,.mv,[.t 3],none,[]⟩,⟨some 14,.bin .add,[.t 13,.c (.i .i64 1)],none,[0]⟩,⟨some 3,.mv,[.t 14],none,[1,0,1]⟩]))))))
def rs137 : List RV := []
theorem fact137 : compF Try.prog 66 = some (ac137,rs137,23) := by kernel_rfl
def ac94 : AC := .seq (.ops false [⟨some 1,.box,[.t 0],none,[]⟩,⟨some 2,.mv,[.c .nilf],none,[]⟩]) (.seq (.ops false [⟨some 3,.mkfn (.func 66) 0,[.t 1],none,[]⟩,⟨some 2,.mv,[.t 3],none,[0,0]⟩]) .ret)
def rs94 : List RV := [.tmp 2]
theorem fact94 : compF Try.prog 35 = some (ac94,rs94,4) := by kernel_rfl
theorem chkLim_0 {l : Lim} (h : chkLim l = 0) : 1 ≤ l.len ∧ l.len ≤ 1440 ∧ 1 ≤ l.step ∧ l.step ≤ 1440 ∧ 0 ≤ l.fro ∧ l.fro ≤ l.to ∧ l.to ≤ 1439 ∧ chkPer l.per = 0 ∧ 0 ≤ l.most ∧ l.most ≤ 999999999 := by
  unfold chkLim at h
  simp only [firstE_cons, rng_0, ite_eq0 (show (11 : Int) ≠ 0 by decide)] at h
  omega
theorem pure89 (l : Lim) (d : Int) : Pure Try.prog 44 [l.pv, .i .i64 d] (.b (hasB l.per d)) := by
  refine pure_by fact89 (by simp) fun hw X hX => ?_
  unfold ac89 rs89
  repeat' first | (show Run _ (.cond _ _ _) _ _; refine run_condX (fun hc => ?_) (fun hc => ?_) <;> (try simp only [qH, rng_0] at hc) <;> try contradiction) | (show RunOps _ _ _ _ (⟨_, .call 72, _, _, _⟩ :: _) _ _; refine run_callX (hf := pure132 l.per d) (hn := ?_)) | (first | refine Stp.h ?_ | (show ∀ K : St → List Ft → Prop, _; intro K hK) | (show runS _ _ _ _ _; first | refine qY (hq := ?_) | refine qZ (hq := ?_)) | (refine hK _ _ ?_; clear hK K) | (refine hK _ _ rfl ?_; clear hK K) | (refine qZ (hq := ?_); try exact trivial) | omega)
  have : (decide (hasE l.per d = 0) && hasB l.per d) = hasB l.per d := by simp only [hasB]; cases decide (hasE l.per d = 0) <;> rfl
  rw [this]; exact .refl _
def Lim.from_ (l : Lim) : Int := (l.fro + l.step - 1) / l.step
def begN (l : Lim) : Nat := (max 0 (l.to / l.step - l.from_ + 1)).toNat
def begOk (l : Lim) (d : Int) : Bool := !(decide (d < l.per.fro) || decide (l.per.to < d) || !hasB l.per d)
def begV (l : Lim) (d : Int) (n : Nat) : Int := 1440 * d + l.step * (l.from_ + n)
def begK (l : Lim) (d : Int) (k : Nat) : List Int := (List.range k).map (begV l d)
def beginsL (l : Lim) (d : Int) : List Int := if begOk l d then begK l d (begN l) else []
abbrev tup1 (d : Int) : List PV := [.i .i64 d]
theorem mrange_next {α : Type} (f : Nat → α) (k : Nat) : (List.range (k + 1)).map f = (List.range k).map f ++ [f k] := by
  rw [List.range_succ]; simp
theorem mrange_split {α : Type} (f : Nat → α) {k n : Nat} (h : k < n) : (List.range n).map f = (List.range k).map f ++ f k :: (List.range' (k + 1) (n - (k + 1))).map f := by
  have := range_split (fun k => [f k]) h
  simpa [List.flatMap_singleton', ← List.map_eq_flatMap] using this
theorem beg_bound {l : Lim} (h : chkLim l = 0) {n : Nat} (hn : n < begN l) : 0 ≤ l.from_ ∧ l.from_ ≤ 1440 ∧ 0 ≤ l.step * (l.from_ + n) ∧ l.step * (l.from_ + n) ≤ l.to ∧ l.fro ≤ l.step * (l.from_ + n) := by
  have hl := chkLim_0 h
  have h1 : 0 ≤ l.from_ := Int.ediv_nonneg (by omega) (by omega)
  have h2 : l.from_ ≤ l.fro + l.step - 1 := Int.ediv_le_self _ (by omega)
  have h3 : (l.from_ + n) ≤ l.to / l.step := by unfold begN at hn; omega
  have h4 : l.step * (l.from_ + n) ≤ l.step * (l.to / l.step) := Int.mul_le_mul_of_nonneg_left h3 (by omega)
  have h5 : l.step * (l.to / l.step) ≤ l.to := Int.mul_ediv_self_le (by omega)
  have h6 : l.fro + l.step - 1 < l.step * l.from_ + l.step := Int.lt_mul_ediv_self_add (by omega)
  have h7 : l.step * l.from_ ≤ l.step * (l.from_ + n) := Int.mul_le_mul_of_nonneg_left (by omega) (by omega)
  have h8 : 0 ≤ l.step * (l.from_ + n) := Int.mul_nonneg (by omega) (by omega)
  have h9 : l.from_ ≤ 1440 := by
    have : l.from_ ≤ l.to / l.step := by omega
    have : l.to / l.step ≤ l.to := Int.ediv_le_self _ (by omega)
    omega
  omega
theorem iter134 (l : Lim) (d : Int) (h : chkLim l = 0) : Iter Try.prog 63 [.ip (.i .i64 d) 0, .ip l.pv 0] ((beginsL l d).map tup1) := by
  have hl := chkLim_0 h
  have hp := chkPer_0 hl.2.2.2.2.2.2.2.1
  refine iter_by fact134 (by simp) fun hw X hX => ?_
  unfold ac134
  simp only [iterSt]
  repeat' first | (show Run _ (.cond _ _ _) _ _; refine run_condX (fun hc => ?_) (fun hc => ?_) <;> (try simp only [qH, rng_0] at hc) <;> try contradiction) | (show RunOps _ _ _ _ (⟨_, .call 44, _, _, _⟩ :: _) _ _; refine run_callGX (hf := fun hc => (by first | exact pure89 l d | (simp only [qH, rng_0] at hc; exact pure89 l d))) (hn := ?_)) | (first | refine Stp.h ?_ | (show ∀ K : St → List Ft → Prop, _; intro K hK) | (show runS _ _ _ _ _; first | refine qY (hq := ?_) | refine qZ (hq := ?_)) | (refine hK _ _ ?_; clear hK K) | (refine hK _ _ rfl ?_; clear hK K) | (refine qZ (hq := ?_); try exact trivial) | omega)
  · refine .inr ?_
    have : begOk l d = false := by simp only [begOk, Bool.not_eq_false', Bool.or_eq_true, decide_eq_true_eq, Bool.not_eq_true']; exact hc
    simp [beginsL, this]
  have hbo : begOk l d = true := by simp only [begOk, Bool.not_eq_true', Bool.or_eq_false_iff, decide_eq_false_iff_not, Bool.not_eq_false']; exact ⟨⟨by omega, by omega⟩, hc.2⟩
  have hq1 : (l.fro + l.step - 1).tdiv l.step = l.from_ := Int.tdiv_eq_ediv_of_nonneg (by omega)
  have hq2 : l.to.tdiv l.step = l.to / l.step := Int.tdiv_eq_ediv_of_nonneg (by omega)
  have hb1 : 0 ≤ l.from_ := Int.ediv_nonneg (by omega) (by omega)
  have hb2 : l.from_ ≤ l.fro + l.step - 1 := Int.ediv_le_self _ (by omega)
  have hb3 : 0 ≤ l.to / l.step := Int.ediv_nonneg (by omega) (by omega)
  have hb4 : l.to / l.step ≤ l.to := Int.ediv_le_self _ (by omega)
  have hN : max 0 (l.to / l.step - l.from_ + 1) = (begN l : Int) := by unfold begN; omega
  rw [beginsL, if_pos hbo]
  simp (disch := omega) only [hq1, hq2, hN, qS, Nat.reduceAdd, Nat.reduceMul, Nat.reduceEqDiff, Nat.reduceLeDiff, reduceIte, reduceCtorEq, Nat.reduceBEq, Nat.reduceLT]
  refine run_loop (κ := Nat) (fun k => ⟨[(0, .yield), (1, .p (.ip (.i .i64 d) 0)), (2, .p (.ip l.pv 0)), (4, .p (.i .i64 l.from_)), (41, .p (.i .i64 (begN l))), (42, .p (.i .i64 k))], [], (begK l d k).map tup1, false⟩) (fun k => k ≤ begN l) (fun k => begN l - k) 0 ?_ ?_ ?_
  · simp only [qS, Nat.reduceAdd, Nat.reduceMul, Nat.reduceEqDiff, Nat.reduceLeDiff, reduceIte, reduceCtorEq, Nat.reduceBEq, Nat.reduceLT] <;> simp [begK]
  · simp
  · intro k hk
    repeat' first | (show Run _ (.cond _ _ _) _ _; refine run_condX (fun hc => ?_) (fun hc => ?_) <;> (try simp only [qH, rng_0] at hc) <;> try contradiction) | (first | refine Stp.h ?_ | (show ∀ K : St → List Ft → Prop, _; intro K hK) | (show runS _ _ _ _ _; first | refine qY (hq := ?_) | refine qZ (hq := ?_)) | (refine hK _ _ ?_; clear hK K) | (refine hK _ _ rfl ?_; clear hK K) | (refine qZ (hq := ?_); try exact trivial) | omega)
    · have hb := beg_bound h (n := k) (by omega)
      have hs := mrange_split (begV l d) (show k < begN l by omega)
      have hs' : (begK l d (begN l)).map tup1 = (begK l d k).map tup1 ++ tup1 (begV l d k) :: ((List.range' (k + 1) (begN l - (k + 1))).map (begV l d)).map tup1 := by simp only [begK, hs, List.map_append, List.map_cons]
      repeat' first | (show Run _ (.cond _ _ _) _ _; refine run_condX (fun hc => ?_) (fun hc => ?_) <;> (try simp only [qH, rng_0] at hc) <;> try contradiction) | (show RunOps _ _ _ _ (⟨_, .callv, _, _, _⟩ :: _) _ _; refine run_yld (by first | rfl | (simp (disch := omega) only [qG, Nat.reduceAdd, Nat.reduceMul, Nat.reduceEqDiff, Nat.reduceLeDiff, reduceIte, reduceCtorEq, Nat.reduceBEq, Nat.reduceLT] <;> rfl)) (by simp (disch := omega) only [qS, Nat.reduceAdd, Nat.reduceMul, Nat.reduceEqDiff, Nat.reduceLeDiff, reduceIte, reduceCtorEq, Nat.reduceBEq, Nat.reduceLT]) (by simp (disch := omega) only [qS, Nat.reduceAdd, Nat.reduceMul, Nat.reduceEqDiff, Nat.reduceLeDiff, reduceIte, reduceCtorEq, Nat.reduceBEq, Nat.reduceLT] <;> rfl) (by simp (disch := omega) only [qS, Nat.reduceAdd, Nat.reduceMul, Nat.reduceEqDiff, Nat.reduceLeDiff, reduceIte, reduceCtorEq, Nat.reduceBEq, Nat.reduceLT]; try trivial) rfl _ (hs') ?_; intro b; (refine run_ops ?_)) | (first | refine Stp.h ?_ | (show ∀ K : St → List Ft → Prop, _; intro K hK) | (show runS _ _ _ _ _; first | refine qY (hq := ?_) | refine qZ (hq := ?_)) | (refine hK _ _ ?_; clear hK K) | (refine hK _ _ rfl ?_; clear hK K) | (refine qZ (hq := ?_); try exact trivial) | omega)
      · subst hc; exact .inl rfl
      · subst hc; exact ⟨k + 1, by omega, by omega, by simp, by simp [begK, mrange_next], rfl⟩
    · repeat' first | (show Run _ (.cond _ _ _) _ _; refine run_condX (fun hc => ?_) (fun hc => ?_) <;> (try simp only [qH, rng_0] at hc) <;> try contradiction) | (first | refine Stp.h ?_ | (show ∀ K : St → List Ft → Prop, _; intro K hK) | (show runS _ _ _ _ _; first | refine qY (hq := ?_) | refine qZ (hq := ?_)) | (refine hK _ _ ?_; clear hK K) | (refine hK _ _ rfl ?_; clear hK K) | (refine qZ (hq := ?_); try exact trivial) | omega)
      have e : k = begN l := by omega
      subst e; exact .inr rfl
theorem pure91 (l : Lim) (d : Int) : Pure Try.prog 32 [l.pv, .i .i64 d] (.fn (.func 63) [] [.ip (.i .i64 d) 0, .ip l.pv 0]) := by
  refine pure_by fact91 (by simp) fun hw X hX => ?_
  unfold ac91 rs91
  repeat' first | (show Run _ (.cond _ _ _) _ _; refine run_condX (fun hc => ?_) (fun hc => ?_) <;> (try simp only [qH, rng_0] at hc) <;> try contradiction) | (first | refine Stp.h ?_ | (show ∀ K : St → List Ft → Prop, _; intro K hK) | (show runS _ _ _ _ _; first | refine qY (hq := ?_) | refine qZ (hq := ?_)) | (refine hK _ _ ?_; clear hK K) | (refine hK _ _ rfl ?_; clear hK K) | (refine qZ (hq := ?_); try exact trivial) | omega)
  exact .refl _
theorem pure94 (l : Lim) : Pure Try.prog 35 [l.pv] (.fn (.func 66) [] [.ip l.pv 0]) := by
  refine pure_by fact94 (by simp) fun hw X hX => ?_
  unfold ac94 rs94
  repeat' first | (show Run _ (.cond _ _ _) _ _; refine run_condX (fun hc => ?_) (fun hc => ?_) <;> (try simp only [qH, rng_0] at hc) <;> try contradiction) | (first | refine Stp.h ?_ | (show ∀ K : St → List Ft → Prop, _; intro K hK) | (show runS _ _ _ _ _; first | refine qY (hq := ?_) | refine qZ (hq := ?_)) | (refine hK _ _ ?_; clear hK K) | (refine hK _ _ rfl ?_; clear hK K) | (refine qZ (hq := ?_); try exact trivial) | omega)
  exact .refl _
def winK (l : Lim) (k : Nat) : List Int := (List.range k).flatMap fun (n : Nat) => beginsL l (l.per.fro + n)
def winN (l : Lim) : Nat := (l.per.to - l.per.fro + 1).toNat
def windowsL (l : Lim) : List Int := winK l (winN l)
theorem take_split {α : Type} {l : List α} {j : Nat} {x : α} (h : l[j]? = some x) : l = l.take j ++ x :: l.drop (j + 1) := by
  obtain ⟨hj, rfl⟩ := List.getElem?_eq_some_iff.1 h
  rw [← List.drop_eq_getElem_cons hj, List.take_append_drop]
theorem iter137 (l : Lim) (h : chkLim l = 0) : Iter Try.prog 66 [.ip l.pv 0] ((windowsL l).map tup1) := by
  have hl := chkLim_0 h
  have hp := chkPer_0 hl.2.2.2.2.2.2.2.1
  refine iter_by fact137 (by simp) fun hw X hX => ?_
  unfold ac137
  simp only [iterSt]
  repeat' first | (show Run _ (.cond _ _ _) _ _; refine run_condX (fun hc => ?_) (fun hc => ?_) <;> (try simp only [qH, rng_0] at hc) <;> try contradiction) | (first | refine Stp.h ?_ | (show ∀ K : St → List Ft → Prop, _; intro K hK) | (show runS _ _ _ _ _; first | refine qY (hq := ?_) | refine qZ (hq := ?_)) | (refine hK _ _ ?_; clear hK K) | (refine hK _ _ rfl ?_; clear hK K) | (refine qZ (hq := ?_); try exact trivial) | omega)
  refine run_loop (κ := Nat) (fun k => ⟨[(0, .yield), (1, .p (.ip l.pv 0)), (2, .lp 2 0), (3, .p (.i .i64 (l.per.fro + k)))], [(2, .box [.yield] false)], (winK l k).map tup1, false⟩) (fun k => k ≤ winN l) (fun k => winN l - k) 0 ?_ ?_ ?_
  · simp only [qS, Nat.reduceAdd, Nat.reduceMul, Nat.reduceEqDiff, Nat.reduceLeDiff, reduceIte, reduceCtorEq, Nat.reduceBEq, Nat.reduceLT] <;> simp [winK]
  · simp
  · intro k hk
    unfold winN at hk
    repeat' first | (show Run _ (.cond _ _ _) _ _; refine run_condX (fun hc => ?_) (fun hc => ?_) <;> (try simp only [qH, rng_0] at hc) <;> try contradiction) | (show RunOps _ _ _ _ (⟨_, .call 32, _, _, _⟩ :: _) _ _; refine run_callX (hf := pure91 l (l.per.fro + k)) (hn := ?_)) | (first | refine Stp.h ?_ | (show ∀ K : St → List Ft → Prop, _; intro K hK) | (show runS _ _ _ _ _; first | refine qY (hq := ?_) | refine qZ (hq := ?_)) | (refine hK _ _ ?_; clear hK K) | (refine hK _ _ rfl ?_; clear hK K) | (refine qZ (hq := ?_); try exact trivial) | omega)
    · have hs := range_split (fun n : Nat => beginsL l (l.per.fro + n)) (show k < winN l by unfold winN; omega)
      refine run_rfunc rfl (iter134 l (l.per.fro + k) h) ?_ ?_ [(0, .yield), (1, .p (.ip l.pv 0)), (2, .lp 2 0), (3, .p (.i .i64 (l.per.fro + k)))] (fun _ => [(2, .box [.yield] false)]) (fun j => (winK l k).map tup1 ++ ((beginsL l (l.per.fro + k)).take j).map tup1) ?_ ?_ ?_
      · simp
      · simp [hX]
      · simp only [qS, Nat.reduceAdd, Nat.reduceMul, Nat.reduceEqDiff, Nat.reduceLeDiff, reduceIte, reduceCtorEq, Nat.reduceBEq, Nat.reduceLT] <;> simp
      · intro j t ht X' ro' hX'
        simp only [List.getElem?_map, Option.map_eq_some_iff] at ht
        obtain ⟨b, hb, rfl⟩ := ht
        have hs' : (windowsL l).map tup1 = ((winK l k).map tup1 ++ ((beginsL l (l.per.fro + k)).take j).map tup1) ++ tup1 b :: (((beginsL l (l.per.fro + k)).drop (j + 1)).map tup1 ++ ((List.range' (k + 1) (winN l - (k + 1))).flatMap fun n : Nat => beginsL l (l.per.fro + n)).map tup1) := by
          have e := take_split hb
          rw [windowsL, winK, hs, ← winK]
          conv => lhs; rw [e]
          simp
        simp only [qS, Nat.reduceAdd, Nat.reduceMul, Nat.reduceEqDiff, Nat.reduceLeDiff, reduceIte, reduceCtorEq, Nat.reduceBEq, Nat.reduceLT]
        repeat' first | (show Run _ (.cond _ _ _) _ _; refine run_condX (fun hc => ?_) (fun hc => ?_) <;> (try simp only [qH, rng_0] at hc) <;> try contradiction) | (first | refine Stp.h ?_ | (show ∀ K : St → List Ft → Prop, _; intro K hK) | (show runS _ _ _ _ _; first | refine qY (hq := ?_) | refine qZ (hq := ?_)) | (refine hK _ _ ?_; clear hK K) | (refine hK _ _ rfl ?_; clear hK K) | (refine qZ (hq := ?_); try exact trivial) | omega)
        intro X1 hX1
        have qe := (take_snoc tup1 hb); repeat' first | (show Run _ (.cond _ _ _) _ _; refine run_condX (fun hc => ?_) (fun hc => ?_) <;> (try simp only [qH, rng_0] at hc) <;> try contradiction) | (show RunOps _ _ _ _ (⟨_, .callv, _, _, _⟩ :: _) _ _; refine run_yld (by first | rfl | (simp (disch := omega) only [qG, qe, Nat.reduceAdd, Nat.reduceMul, Nat.reduceEqDiff, Nat.reduceLeDiff, reduceIte, reduceCtorEq, Nat.reduceBEq, Nat.reduceLT] <;> rfl)) (by simp (disch := omega) only [qS, qe, Nat.reduceAdd, Nat.reduceMul, Nat.reduceEqDiff, Nat.reduceLeDiff, reduceIte, reduceCtorEq, Nat.reduceBEq, Nat.reduceLT]) (by simp (disch := omega) only [qS, qe, Nat.reduceAdd, Nat.reduceMul, Nat.reduceEqDiff, Nat.reduceLeDiff, reduceIte, reduceCtorEq, Nat.reduceBEq, Nat.reduceLT] <;> rfl) (by simp (disch := omega) only [qS, qe, Nat.reduceAdd, Nat.reduceMul, Nat.reduceEqDiff, Nat.reduceLeDiff, reduceIte, reduceCtorEq, Nat.reduceBEq, Nat.reduceLT]; try trivial) rfl _ (hs') ?_; intro b; (refine run_ops ?_)) | (first | refine Stp.h ?_ | (show ∀ K : St → List Ft → Prop, _; intro K hK) | (show runS _ _ _ _ _; first | refine qY (hq := ?_) | refine qZ (hq := ?_)) | (refine hK _ _ ?_; clear hK K) | (refine hK _ _ rfl ?_; clear hK K) | (refine qZ (hq := ?_); try exact trivial) | omega)
        · subst hc; exact .inl rfl
        · subst hc; exact ⟨by rw [List.append_assoc], rfl⟩
      · have qe := @List.take_length.{0}; repeat' first | (show Run _ (.cond _ _ _) _ _; refine run_condX (fun hc => ?_) (fun hc => ?_) <;> (try simp only [qH, rng_0] at hc) <;> try contradiction) | (first | refine Stp.h ?_ | (show ∀ K : St → List Ft → Prop, _; intro K hK) | (show runS _ _ _ _ _; first | refine qY (hq := ?_) | refine qZ (hq := ?_)) | (refine hK _ _ ?_; clear hK K) | (refine hK _ _ rfl ?_; clear hK K) | (refine qZ (hq := ?_); try exact trivial) | omega)
        refine ⟨k + 1, by unfold winN; omega, by unfold winN; omega, by simp; omega, ?_⟩
        rw [winK, range_next, ← winK, List.map_append]
    · repeat' first | (show Run _ (.cond _ _ _) _ _; refine run_condX (fun hc => ?_) (fun hc => ?_) <;> (try simp only [qH, rng_0] at hc) <;> try contradiction) | (first | refine Stp.h ?_ | (show ∀ K : St → List Ft → Prop, _; intro K hK) | (show runS _ _ _ _ _; first | refine qY (hq := ?_) | refine qZ (hq := ?_)) | (refine hK _ _ ?_; clear hK K) | (refine hK _ _ rfl ?_; clear hK K) | (refine qZ (hq := ?_); try exact trivial) | omega)
      have e : k = winN l := by unfold winN; omega
      subst e; exact .inr rfl
end Go.Proofs.Ytcfbdeghmckelaa
namespace Go.Proofs.Ytcfbdeghmckelaa
open Go.RowKit
set_option maxRecDepth 100000
set_option linter.unusedVariables false
set_option linter.unusedSimpArgs false
set_option maxHeartbeats 2000000
def ac135 : AC := .seq (.ops false [⟨some 3,.box,[.t 0],none,[]⟩,⟨some 6,.mv,[.c (.b false)],none,[]⟩]) (.seq (.ops true [⟨some 7,.call 59,[],none,[]⟩,⟨some 8,.fadr 1,[.t 3],none,[]⟩,⟨some 9,.load 1 false,[.t 8],none,[1]⟩,⟨some 10,.lkup [2] false (.agg [.nilf]) false,[.t 7,.t 9],none,[0,2]⟩,⟨some 11,.fld 0 1 false,[.t 10],none,[3]⟩,⟨some 12,.mv,[.t 1],none,[]⟩,⟨some 13,.callv,[.t 11,.t 12],none,[4,5,0]⟩,⟨some 14,.mv,[.t 13],none,[6,6]⟩,⟨some 15,.fadr 2,[.t 3],some (14,true),[7]⟩,⟨some 16,.load 1 false,[.t 15],some (14,true),[8,7]⟩,⟨some 17,.bin .eql,[.t 16,.c (.s (bs []))],some (14,true),[9,7]⟩,⟨some 18,.mv,[.t 17],some (14,true),[10,7,7]⟩,⟨some 19,.fadr 2,[.t 3],some (18,false),[11]⟩,⟨some 20,.load 1 false,[.t 19],some (18,false),[12,11]⟩,⟨some 21,.mv,[.t 2],some (18,false),[11]⟩,⟨some 22,.bin .eql,[.t 20,.t 21],some (18,false),[13,14,11]⟩,⟨some 23,.pick,[.t 18,.c (.b true),.t 22],some (14,true),[11,15,7]⟩,⟨some 24,.pick,[.t 14,.t 23,.c (.b false)],none,[7,16]⟩,⟨some 6,.mv,[.t 24],none,[17,11,0,1,2,3,4,5,6,7,8,9,10,11,12,13,14,15,16,17]⟩]) .ret)
def rs135 : List RV := [.tmp 6]
theorem fact135 : compF Try.prog 64 = some (ac135,rs135,25) := by kernel_rfl
def countsL (l : Lim) (k t : ByteArray) : Bool := (decide (l.kind = sT) || decide (l.kind = k)) && (decide (l.term = s0) || decide (l.term = t))
theorem kind_0 {l : Lim} (h : chkLim l = 0) : l.kind = sA ∨ l.kind = sD ∨ l.kind = sT := by
  unfold chkLim at h
  simp only [firstE_cons] at h
  have := h.2.1
  unfold kindE at this
  by_cases hA : l.kind = sA
  · exact .inl hA
  by_cases hD : l.kind = sD
  · exact .inr (.inl hD)
  by_cases hT : l.kind = sT
  · exact .inr (.inr hT)
  rw [if_pos ⟨hA, hD, hT⟩] at this; exact absurd this (by decide)
theorem pure135 (l : Lim) (k t : ByteArray) (h : chkLim l = 0) : Pure Try.prog 64 [l.pv, .s k, .s t] (.b (countsL l k t)) := by
  refine pure_by fact135 (by simp) fun hw X hX => ?_
  unfold ac135 rs135
  rcases kind_0 h with hk | hk | hk
  · have hA' : (l.kind = sA) = True := eq_true hk
    have qe := And.intro qR @hA'; repeat' first | (show Run _ (.cond _ _ _) _ _; refine run_condX (fun hc => ?_) (fun hc => ?_) <;> (try simp only [qH, rng_0] at hc) <;> try contradiction) | (show RunOps _ _ _ _ (⟨_, .call 59, _, _, _⟩ :: _) _ _; refine run_callX (hf := pure129) (hn := ?_)) | (show RunOps _ _ _ _ (⟨_, .callv, _, _, _⟩ :: _) _ _; refine run_callVX (hf := pure154 k sA) (hn := ?_)) | (first | refine Stp.h ?_ | (show ∀ K : St → List Ft → Prop, _; intro K hK) | (show runS _ _ _ _ _; first | refine qY (hq := ?_) | refine qZ (hq := ?_)) | (refine hK _ _ ?_; clear hK K) | (refine hK _ _ rfl ?_; clear hK K) | (refine qZ (hq := ?_); try exact trivial) | omega)
    rw [countsL, hk, show (decide (sA = sT) || decide (sA = k)) = decide (k = sA) by rw [show decide (sA = sT) = false by decide, Bool.false_or]; exact decide_eq_decide.2 eq_comm]; exact .refl _
  · have hA' : (l.kind = sA) = False := eq_false (by rw [hk]; decide)
    have hD' : (l.kind = sD) = True := eq_true hk
    have qe := And.intro qR (And.intro @hA' @hD'); repeat' first | (show Run _ (.cond _ _ _) _ _; refine run_condX (fun hc => ?_) (fun hc => ?_) <;> (try simp only [qH, rng_0] at hc) <;> try contradiction) | (show RunOps _ _ _ _ (⟨_, .call 59, _, _, _⟩ :: _) _ _; refine run_callX (hf := pure129) (hn := ?_)) | (show RunOps _ _ _ _ (⟨_, .callv, _, _, _⟩ :: _) _ _; refine run_callVX (hf := pure154 k sD) (hn := ?_)) | (first | refine Stp.h ?_ | (show ∀ K : St → List Ft → Prop, _; intro K hK) | (show runS _ _ _ _ _; first | refine qY (hq := ?_) | refine qZ (hq := ?_)) | (refine hK _ _ ?_; clear hK K) | (refine hK _ _ rfl ?_; clear hK K) | (refine qZ (hq := ?_); try exact trivial) | omega)
    rw [countsL, hk, show (decide (sD = sT) || decide (sD = k)) = decide (k = sD) by rw [show decide (sD = sT) = false by decide, Bool.false_or]; exact decide_eq_decide.2 eq_comm]; exact .refl _
  · have hA' : (l.kind = sA) = False := eq_false (by rw [hk]; decide)
    have hD' : (l.kind = sD) = False := eq_false (by rw [hk]; decide)
    have hT' : (l.kind = sT) = True := eq_true hk
    have qe := And.intro qR (And.intro @hA' (And.intro @hD' @hT')); repeat' first | (show Run _ (.cond _ _ _) _ _; refine run_condX (fun hc => ?_) (fun hc => ?_) <;> (try simp only [qH, rng_0] at hc) <;> try contradiction) | (show RunOps _ _ _ _ (⟨_, .call 59, _, _, _⟩ :: _) _ _; refine run_callX (hf := pure129) (hn := ?_)) | (show RunOps _ _ _ _ (⟨_, .callv, _, _, _⟩ :: _) _ _; refine run_callVX (hf := pure155 k) (hn := ?_)) | (first | refine Stp.h ?_ | (show ∀ K : St → List Ft → Prop, _; intro K hK) | (show runS _ _ _ _ _; first | refine qY (hq := ?_) | refine qZ (hq := ?_)) | (refine hK _ _ ?_; clear hK K) | (refine hK _ _ rfl ?_; clear hK K) | (refine qZ (hq := ?_); try exact trivial) | omega)
    rw [countsL, hk, show (decide (sT = sT) || decide (sT = k)) = true by rw [decide_eq_true rfl, Bool.true_or], Bool.true_and]; exact .refl _
end Go.Proofs.Ytcfbdeghmckelaa
namespace Go.Proofs.Ytcfbdeghmckelaa
open Go.RowKit
set_option maxRecDepth 100000
set_option linter.unusedVariables false
set_option linter.unusedSimpArgs false
set_option maxHeartbeats 2000000
def ac142 : AC := .seq (.ops false [⟨some 2,.mv,[.c (.b false)],none,[]⟩]) (.seq (.ops false [⟨some 3,.mv,[.t 0],none,[]⟩,⟨some 4,.mv,[.t 0],none,[]⟩,⟨some 5,.bin .neq,[.t 3,.t 4],none,[0,1]⟩,⟨some 2,.mv,[.t 5],none,[2,0,1,2]⟩]) .ret)
def rs142 : List RV := [.tmp 2]
theorem fact142 : compF Try.prog 103 = some (ac142,rs142,6) := by kernel_rfl
def ac163 : AC := .seq (.ops false [⟨some 4,.mv,[.c (.b false)],none,[]⟩]) (.seq (.ops false [⟨some 5,.mv,[.t 0],none,[]⟩,⟨some 6,.call 103,[.t 5],none,[0]⟩,⟨some 7,.mv,[.t 6],none,[1,1]⟩,⟨some 8,.mv,[.t 1],some (7,true),[2]⟩,⟨some 9,.call 103,[.t 8],some (7,true),[3,2,2]⟩,⟨some 10,.not,[.t 9],some (7,true),[4,2]⟩,⟨some 11,.pick,[.t 7,.t 10,.c (.b false)],none,[2,5]⟩,⟨some 12,.mv,[.t 11],none,[6,4]⟩,⟨some 13,.mv,[.t 0],some (12,false),[7]⟩,⟨some 14,.mv,[.t 1],some (12,false),[7]⟩,⟨some 15,.bin .lss,[.t 13,.t 14],some (12,false),[8,9,7]⟩,⟨some 16,.pick,[.t 12,.c (.b true),.t 15],none,[7,10]⟩,⟨some 4,.mv,[.t 16],none,[11,7,0,1,2,3,4,5,6,7,8,9,10,11]⟩]) .ret)
def rs163 : List RV := [.tmp 4]
theorem fact163 : compF Try.prog 98 = some (ac163,rs163,17) := by kernel_rfl
def ac164 : AC := .seq (.ops false [⟨some 2,.mv,[.c (.b false)],none,[]⟩]) (.seq (.ops false [⟨some 3,.mv,[.t 0],none,[]⟩,⟨some 4,.mv,[.t 0],none,[]⟩,⟨some 5,.bin .neq,[.t 3,.t 4],none,[0,1]⟩,⟨some 2,.mv,[.t 5],none,[2,0,1,2]⟩]) .ret)
def rs164 : List RV := [.tmp 2]
theorem fact164 : compF Try.prog 99 = some (ac164,rs164,6) := by kernel_rfl
def ac157 : AC := .seq (.ops false [⟨some 4,.mv,[.c (.i .i64 0)],none,[]⟩,⟨some 5,.mv,[.c (.b false)],none,[0]⟩]) (.seq (.ops false [⟨some 10,.mv,[.t 0],none,[]⟩,⟨some 11,.len false,[.t 10],none,[0]⟩,⟨some 6,.mv,[.t 11],none,[1,0,1]⟩]) (.seq (.ops false [⟨some 12,.mv,[.t 6],none,[]⟩,⟨some 7,.mv,[.c (.i .i64 0)],none,[]⟩,⟨some 8,.mv,[.t 12],none,[0,1,0,1]⟩]) (.seq (.block 0 (.loop (.seq (.seq (.ops false [⟨some 13,.mv,[.t 7],none,[]⟩,⟨some 14,.mv,[.t 8],none,[]⟩,⟨some 15,.bin .lss,[.t 13,.t 14],none,[0,1]⟩]) (.cond (.t 15) .skip (.exit 0))) (.block 1 (.seq (.ops false [⟨some 16,.mv,[.t 7],none,[]⟩,⟨some 17,.mv,[.t 8],none,[]⟩,⟨some 18,.bin .add,[.t 16,.t 17],none,[0,1]⟩,⟨some 19,.cvt .u64,[.t 18],none,[2]⟩,⟨some 20,.bin .shr,[.t 19,.c (.i .u64 1)],none,[3]⟩,⟨some 21,.cvt .i64,[.t 20],none,[4]⟩,⟨some 9,.mv,[.t 21],none,[5,0,1,2,3,4,5]⟩]) (.seq (.ops false [⟨some 22,.mv,[.t 0],none,[]⟩,⟨some 23,.mv,[.t 9],none,[]⟩,⟨some 24,.iadrS 1,[.t 22,.t 23],none,[0,1]⟩,⟨some 25,.load 1 false,[.t 24],none,[2]⟩,⟨some 26,.mv,[.t 1],none,[]⟩,⟨some 27,.call 98,[.t 25,.t 26],none,[3,4]⟩]) (.cond (.t 27) (.ops false [⟨some 28,.mv,[.t 9],none,[]⟩,⟨some 29,.bin .add,[.t 28,.c (.i .i64 1)],none,[0]⟩,⟨some 7,.mv,[.t 29],none,[1,0,1]⟩]) (.ops false [⟨some 30,.mv,[.t 9],none,[]⟩,⟨some 8,.mv,[.t 30],none,[0,0]⟩])))))))) (.seq (.ops false [⟨some 31,.mv,[.t 7],none,[]⟩,⟨some 32,.mv,[.t 7],none,[]⟩,⟨some 33,.mv,[.t 6],none,[]⟩,⟨some 34,.bin .lss,[.t 32,.t 33],none,[1,2]⟩,⟨some 35,.mv,[.t 34],none,[3]⟩,⟨some 36,.mv,[.t 0],some (35,true),[4]⟩,⟨some 37,.mv,[.t 7],some (35,true),[4]⟩,⟨some 38,.iadrS 1,[.t 36,.t 37],some (35,true),[5,6,4]⟩,⟨some 39,.load 1 false,[.t 38],some (35,true),[7,4]⟩,⟨some 40,.mv,[.t 1],some (35,true),[4]⟩,⟨some 41,.bin .eql,[.t 39,.t 40],some (35,true),[8,9,4]⟩,⟨some 42,.mv,[.t 41],some (35,true),[10,4,4]⟩,⟨some 43,.mv,[.t 0],some (42,false),[11]⟩,⟨some 44,.mv,[.t 7],some (42,false),[11]⟩,⟨some 45,.iadrS 1,[.t 43,.t 44],some (42,false),[12,13,11]⟩,⟨some 46,.load 1 false,[.t 45],some (42,false),[14,11]⟩,⟨some 47,.call 99,[.t 46],some (42,false),[15,11,11]⟩,⟨some 48,.mv,[.t 47],some (42,false),[16,16,11]⟩,⟨some 49,.mv,[.t 1],some (48,true),[17]⟩,⟨some 50,.call 99,[.t 49],some (48,true),[18,17,17]⟩,⟨some 51,.pick,[.t 48,.t 50,.c (.b false)],some (42,false),[17,19,11]⟩,⟨some 52,.pick,[.t 42,.c (.b true),.t 51],some (35,true),[11,20,4]⟩,⟨some 53,.pick,[.t 35,.t 52,.c (.b false)],none,[4,21]⟩,⟨some 4,.mv,[.t 31],none,[0,19,0]⟩,⟨some 5,.mv,[.t 53],none,[22,23,0,1,2,3,4,5,6,7,8,9,10,11,12,13,14,15,16,17,18,19,20,21,22,23]⟩]) .ret))))
def rs157 : List RV := [.tmp 4,.tmp 5]
theorem fact157 : compF Try.prog 87 = some (ac157,rs157,54) := by kernel_rfl
def ac136 : AC := .seq (.ops false [⟨some 4,.mv,[.c (.i .i64 0)],none,[]⟩]) (.seq (.ops false [⟨some 8,.mv,[.t 0],none,[]⟩,⟨some 9,.mv,[.t 1],none,[]⟩,⟨some 10,.call 87,[.t 8,.t 9],none,[0,1]⟩,⟨some 7,.mv,[.t 10],none,[2]⟩,⟨some 11,.ext 0,[.t 7],none,[3]⟩,⟨some 12,.ext 1,[.t 7],none,[3]⟩,⟨some 5,.mv,[.t 11],none,[4,2,0,1,2,3,4]⟩,⟨some 6,.mv,[.t 12],none,[5,6,0,1,2,3,4,5,6]⟩]) (.seq (.ops false [⟨some 13,.mv,[.t 5],none,[]⟩,⟨some 4,.mv,[.t 13],none,[0,0]⟩]) .ret))
def rs136 : List RV := [.tmp 4]
theorem fact136 : compF Try.prog 65 = some (ac136,rs136,14) := by kernel_rfl
def ac93 : AC := .seq (.ops false [⟨some 6,.mv,[.c (.i .i64 0)],none,[]⟩]) (.seq (.ops false [⟨some 7,.mv,[.t 0],none,[]⟩,⟨some 8,.mv,[.t 1],none,[]⟩,⟨some 9,.mv,[.t 2],none,[]⟩,⟨some 10,.bin .add,[.t 8,.t 9],none,[1,2]⟩,⟨some 11,.call 65,[.t 7,.t 10],none,[0,3]⟩,⟨some 12,.mv,[.t 0],none,[]⟩,⟨some 13,.mv,[.t 1],none,[]⟩,⟨some 14,.call 65,[.t 12,.t 13],none,[5,6,4]⟩,⟨some 15,.bin .sub,[.t 11,.t 14],none,[4,7]⟩,⟨some 6,.mv,[.t 15],none,[8,7,0,1,2,3,4,5,6,7,8]⟩]) .ret)
def rs93 : List RV := [.tmp 6]
theorem fact93 : compF Try.prog 34 = some (ac93,rs93,16) := by kernel_rfl
theorem cells_any : PV.any.cells = [.any] := rfl
theorem dec_self (x : Int) : (decide (x = x)) = true := decide_eq_true rfl
theorem pure142 (x : Int) : Pure Try.prog 103 [.i .i64 x] (.b false) := by
  refine pure_by fact142 (by simp) fun hw X hX => ?_
  unfold ac142 rs142
  have qe := @dec_self; repeat' first | (show Run _ (.cond _ _ _) _ _; refine run_condX (fun hc => ?_) (fun hc => ?_) <;> (try simp only [qH, rng_0] at hc) <;> try contradiction) | (first | refine Stp.h ?_ | (show ∀ K : St → List Ft → Prop, _; intro K hK) | (show runS _ _ _ _ _; first | refine qY (hq := ?_) | refine qZ (hq := ?_)) | (refine hK _ _ ?_; clear hK K) | (refine hK _ _ rfl ?_; clear hK K) | (refine qZ (hq := ?_); try exact trivial) | omega)
  exact .refl _
theorem pure164 (x : Int) : Pure Try.prog 99 [.i .i64 x] (.b false) := by
  refine pure_by fact164 (by simp) fun hw X hX => ?_
  unfold ac164 rs164
  have qe := @dec_self; repeat' first | (show Run _ (.cond _ _ _) _ _; refine run_condX (fun hc => ?_) (fun hc => ?_) <;> (try simp only [qH, rng_0] at hc) <;> try contradiction) | (first | refine Stp.h ?_ | (show ∀ K : St → List Ft → Prop, _; intro K hK) | (show runS _ _ _ _ _; first | refine qY (hq := ?_) | refine qZ (hq := ?_)) | (refine hK _ _ ?_; clear hK K) | (refine hK _ _ rfl ?_; clear hK K) | (refine qZ (hq := ?_); try exact trivial) | omega)
  exact .refl _
theorem pure163 (a b : Int) : Pure Try.prog 98 [.i .i64 a, .i .i64 b] (.b (decide (a < b))) := by
  refine pure_by fact163 (by simp) fun hw X hX => ?_
  unfold ac163 rs163
  repeat' first | (show Run _ (.cond _ _ _) _ _; refine run_condX (fun hc => ?_) (fun hc => ?_) <;> (try simp only [qH, rng_0] at hc) <;> try contradiction) | (show RunOps _ _ _ _ (⟨_, .call 103, _, _, _⟩ :: _) _ _; refine run_callX (hf := pure142 _) (hn := ?_)) | (show RunOps _ _ _ _ (⟨_, .call 103, _, _, _⟩ :: _) _ _; refine run_callGX (hf := fun hc => (by first | exact pure142 _ | (simp only [qH, rng_0] at hc; exact pure142 _))) (hn := ?_)) | (first | refine Stp.h ?_ | (show ∀ K : St → List Ft → Prop, _; intro K hK) | (show runS _ _ _ _ _; first | refine qY (hq := ?_) | refine qZ (hq := ?_)) | (refine hK _ _ ?_; clear hK K) | (refine hK _ _ rfl ?_; clear hK K) | (refine qZ (hq := ?_); try exact trivial) | omega)
  exact .refl _
def sortedI (l : List Int) : Prop := ∀ (i j : Nat) (x y : Int), i ≤ j → l[i]? = some x → l[j]? = some y → x ≤ y
def ltN (l : List Int) (x : Int) : Nat := (l.filter fun y => decide (y < x)).length
theorem ltN_at {l : List Int} {x : Int} {i : Nat} (h1 : ∀ y ∈ l.take i, y < x) (h2 : ∀ y ∈ l.drop i, x ≤ y) (hi : i ≤ l.length) : ltN l x = i := by
  conv => lhs; rw [← List.take_append_drop i l]
  rw [ltN, List.filter_append, List.length_append, List.filter_eq_self.2 (fun y hy => by simpa using h1 y hy), List.filter_eq_nil_iff.2 (fun y hy => by have := h2 y hy; simp; omega)]
  simp; omega
theorem pure157 (l : List Int) (x : Int) (hs : sortedI l) (hn : l.length ≤ 1000000) : Pure Try.prog 87 [.sl 1 (l.map (.i .i64)), .i .i64 x] (.tup [.i .i64 (ltN l x), .any]) := by
  refine pure_by fact157 (by simp) fun hw X hX => ?_
  unfold ac157 rs157
  simp only [wfs, PV.wf, List.length_map, maxLen] at hw
  repeat' first | (show Run _ (.cond _ _ _) _ _; refine run_condX (fun hc => ?_) (fun hc => ?_) <;> (try simp only [qH, rng_0] at hc) <;> try contradiction) | (first | refine Stp.h ?_ | (show ∀ K : St → List Ft → Prop, _; intro K hK) | (show runS _ _ _ _ _; first | refine qY (hq := ?_) | refine qZ (hq := ?_)) | (refine hK _ _ ?_; clear hK K) | (refine hK _ _ rfl ?_; clear hK K) | (refine qZ (hq := ?_); try exact trivial) | omega)
  refine run_loop (κ := Nat × Nat) (fun k => ⟨[(0, .p (.sl 1 (l.map (.i .i64)))), (1, .p (.i .i64 x)), (6, .p (.i .i64 l.length)), (7, .p (.i .i64 k.1)), (8, .p (.i .i64 k.2))], [], [], false⟩) (fun k => k.1 ≤ k.2 ∧ k.2 ≤ l.length ∧ (∀ y ∈ l.take k.1, y < x) ∧ ∀ y ∈ l.drop k.2, x ≤ y) (fun k => k.2 - k.1) (0, l.length) ?_ ?_ ?_
  · simp only [qS, Nat.reduceAdd, Nat.reduceMul, Nat.reduceEqDiff, Nat.reduceLeDiff, reduceIte, reduceCtorEq, Nat.reduceBEq, Nat.reduceLT] <;> simp
  · simp
  · intro k hk
    obtain ⟨i, j⟩ := k
    simp only at hk
    have hm : IntKind.i64.wrap ((IntKind.u64.wrap ((i : Int) + j)).fdiv (2 ^ min (Int.toNat 1) IntKind.u64.bits)) = (((i + j) / 2 : Nat) : Int) := by
      rw [IntKind.wrap_u64, show (2 : Int) ^ min (Int.toNat 1) IntKind.u64.bits = 2 from rfl, Int.fdiv_eq_ediv_of_nonneg _ (by decide)]
      rw [show (((i : Int) + j) % 18446744073709551616 / 2) = (((i + j) / 2 : Nat) : Int) by omega]
      exact wrap64 (by omega) (by omega)
    by_cases hij : i < j
    · obtain ⟨y, hy⟩ := some_at (i := (i + j) / 2) (l := l) (by omega)
      have qe := And.intro @hm @hy; repeat' first | (show Run _ (.cond _ _ _) _ _; refine run_condX (fun hc => ?_) (fun hc => ?_) <;> (try simp only [qH, rng_0] at hc) <;> try contradiction) | (show RunOps _ _ _ _ (⟨_, .call 98, _, _, _⟩ :: _) _ _; refine run_callX (hf := pure163 _ _) (hn := ?_)) | (first | refine Stp.h ?_ | (show ∀ K : St → List Ft → Prop, _; intro K hK) | (show runS _ _ _ _ _; first | refine qY (hq := ?_) | refine qZ (hq := ?_)) | (refine hK _ _ ?_; clear hK K) | (refine hK _ _ rfl ?_; clear hK K) | (refine qZ (hq := ?_); try exact trivial) | omega)
      · refine ⟨((i + j) / 2 + 1, j), ⟨by simp only; omega, hk.2.1, fun z hz => ?_, hk.2.2.2⟩, by simp only; omega, by simp, rfl⟩
        obtain ⟨q, hq⟩ := List.getElem?_of_mem hz
        rw [List.getElem?_take] at hq
        split at hq
        · have := hs q ((i + j) / 2) z y (by omega) hq hy; omega
        · cases hq
      · refine ⟨(i, (i + j) / 2), ⟨by simp only; omega, by simp only; omega, hk.2.2.1, fun z hz => ?_⟩, by simp only; omega, rfl, rfl⟩
        obtain ⟨q, hq⟩ := List.getElem?_of_mem hz
        rw [List.getElem?_drop] at hq
        have := hs ((i + j) / 2) _ y z (by omega) hy hq; omega
    · have e : i = j := by omega
      subst e
      have hres := ltN_at hk.2.2.1 hk.2.2.2 hk.2.1
      by_cases hil : i < l.length
      · obtain ⟨y, hy⟩ := some_at (i := i) (l := l) hil
        have hil' : ((i : Int) < l.length) = True := eq_true (by omega)
        by_cases hyx : y = x
        · have hyx' : (y = x) = True := eq_true hyx
          have qe := And.intro @hm (And.intro @hy (And.intro @hil' @hyx')); repeat' first | (show Run _ (.cond _ _ _) _ _; refine run_condX (fun hc => ?_) (fun hc => ?_) <;> (try simp only [qH, rng_0] at hc) <;> try contradiction) | (show RunOps _ _ _ _ (⟨_, .call 99, _, _, _⟩ :: _) _ _; refine run_callGX (hf := fun hc => (by first | exact pure164 _ | (simp only [qH, rng_0] at hc; exact pure164 _))) (hn := ?_)) | (first | refine Stp.h ?_ | (show ∀ K : St → List Ft → Prop, _; intro K hK) | (show runS _ _ _ _ _; first | refine qY (hq := ?_) | refine qZ (hq := ?_)) | (refine hK _ _ ?_; clear hK K) | (refine hK _ _ rfl ?_; clear hK K) | (refine qZ (hq := ?_); try exact trivial) | omega)
          rw [hres]; exact weak2 (.refl _) (.any _)
        · have hyx' : (y = x) = False := eq_false hyx
          have qe := And.intro @hm (And.intro @hy (And.intro @hil' @hyx')); repeat' first | (show Run _ (.cond _ _ _) _ _; refine run_condX (fun hc => ?_) (fun hc => ?_) <;> (try simp only [qH, rng_0] at hc) <;> try contradiction) | (show RunOps _ _ _ _ (⟨_, .call 99, _, _, _⟩ :: _) _ _; refine run_callGX (hf := fun hc => (by first | exact pure164 _ | (simp only [qH, rng_0] at hc; exact pure164 _))) (hn := ?_)) | (first | refine Stp.h ?_ | (show ∀ K : St → List Ft → Prop, _; intro K hK) | (show runS _ _ _ _ _; first | refine qY (hq := ?_) | refine qZ (hq := ?_)) | (refine hK _ _ ?_; clear hK K) | (refine hK _ _ rfl ?_; clear hK K) | (refine qZ (hq := ?_); try exact trivial) | omega)
          rw [hres]; exact weak2 (.refl _) (.any _)
      · have hil' : ((i : Int) < l.length) = False := eq_false (by omega)
        have hy : l[i]? = none := List.getElem?_eq_none (by omega)
        have qe := And.intro @hm (And.intro @hil' (And.intro @hy @cells_any)); repeat' first | (show Run _ (.cond _ _ _) _ _; refine run_condX (fun hc => ?_) (fun hc => ?_) <;> (try simp only [qH, rng_0] at hc) <;> try contradiction) | (show RunOps _ _ _ _ (⟨_, .call _, _, _, _⟩ :: _) _ _; refine run_callGX (hf := fun hc => (by first | exact (absurd hc Bool.false_ne_true : Pure Try.prog 99 _ (.b false)) | (simp only [qH, rng_0] at hc; exact (absurd hc Bool.false_ne_true : Pure Try.prog 99 _ (.b false))))) (hn := ?_)) | (first | refine Stp.h ?_ | (show ∀ K : St → List Ft → Prop, _; intro K hK) | (show runS _ _ _ _ _; first | refine qY (hq := ?_) | refine qZ (hq := ?_)) | (refine hK _ _ ?_; clear hK K) | (refine hK _ _ rfl ?_; clear hK K) | (refine qZ (hq := ?_); try exact trivial) | omega)
        rw [hres]; exact weak2 (.refl _) (.any _)
theorem pure136 (l : List Int) (x : Int) (hs : sortedI l) (hn : l.length ≤ 1000000) : Pure Try.prog 65 [.sl 1 (l.map (.i .i64)), .i .i64 x] (.i .i64 (ltN l x)) := by
  refine pure_by fact136 (by simp) fun hw X hX => ?_
  unfold ac136 rs136
  repeat' first | (show Run _ (.cond _ _ _) _ _; refine run_condX (fun hc => ?_) (fun hc => ?_) <;> (try simp only [qH, rng_0] at hc) <;> try contradiction) | (show RunOps _ _ _ _ (⟨_, .call 87, _, _, _⟩ :: _) _ _; refine run_callX (hf := pure157 l x hs hn) (hn := ?_)) | (first | refine Stp.h ?_ | (show ∀ K : St → List Ft → Prop, _; intro K hK) | (show runS _ _ _ _ _; first | refine qY (hq := ?_) | refine qZ (hq := ?_)) | (refine hK _ _ ?_; clear hK K) | (refine hK _ _ rfl ?_; clear hK K) | (refine qZ (hq := ?_); try exact trivial) | omega)
  exact .refl _
def cntW (l : List Int) (b len : Int) : Int := (ltN l (b + len) : Int) - ltN l b
theorem ltN_le (l : List Int) (x : Int) : ltN l x ≤ l.length := List.length_filter_le _ _
theorem pure93 (l : List Int) (b len : Int) (hs : sortedI l) (hn : l.length ≤ 1000000) (h0 : -1000000 ≤ b) (h1 : b ≤ 1000000000) (h2 : 0 ≤ len) (h3 : len ≤ 10000) : Pure Try.prog 34 [.sl 1 (l.map (.i .i64)), .i .i64 b, .i .i64 len] (.i .i64 (cntW l b len)) := by
  refine pure_by fact93 (by simp) fun hw X hX => ?_
  unfold ac93 rs93
  have e1 := ltN_le l (b + len)
  have e2 := ltN_le l b
  repeat' first | (show Run _ (.cond _ _ _) _ _; refine run_condX (fun hc => ?_) (fun hc => ?_) <;> (try simp only [qH, rng_0] at hc) <;> try contradiction) | (show RunOps _ _ _ _ (⟨_, .call 65, _, _, _⟩ :: _) _ _; refine run_callX (hf := pure136 l _ hs hn) (hn := ?_)) | (first | refine Stp.h ?_ | (show ∀ K : St → List Ft → Prop, _; intro K hK) | (show runS _ _ _ _ _; first | refine qY (hq := ?_) | refine qZ (hq := ?_)) | (refine hK _ _ ?_; clear hK K) | (refine hK _ _ rfl ?_; clear hK K) | (refine qZ (hq := ?_); try exact trivial) | omega)
  exact .refl _
end Go.Proofs.Ytcfbdeghmckelaa
namespace Go.Proofs.Ytcfbdeghmckelaa
open Go.RowKit
set_option maxRecDepth 100000
set_option linter.unusedVariables false
set_option linter.unusedSimpArgs false
set_option maxHeartbeats 2000000
def ac92 : AC := .seq (.ops false [⟨some 2,.box,[.t 0],none,[]⟩,⟨some 4,.mv,[.c .nilsl],none,[]⟩]) (.seq (.ops false [⟨some 5,.mv,[.c .nilsl],none,[]⟩]) (.seq (.ops false [⟨some 12,.mkmap,[],none,[]⟩,⟨some 6,.mv,[.t 12],none,[0,0]⟩]) (.seq (.seq (.ops false [⟨some 13,.mv,[.t 1],none,[]⟩,⟨some 14,.len false,[.t 13],none,[0]⟩,⟨some 15,.mv,[.c (.i .i64 0)],none,[]⟩]) (.block 0 (.loop (.seq (.ops false [⟨some 16,.bin .lss,[.t 15,.t 14],none,[]⟩]) (.seq (.cond (.t 16) .skip (.exit 0)) (.seq (.block 1 (.seq (.ops false [⟨some 17,.iadrS 7,[.t 13,.t 15],none,[]⟩,⟨some 18,.load 7 true,[.t 17],none,[0]⟩,⟨some 8,.alloc [(.i .i64 0),(.s (bs [])),(.s (bs [])),(.i .i64 0),(.i .i64 0),(.i .i64 0),(.s (bs []))],[],none,[]⟩,⟨none,.store 7,[.t 8,.t 18],none,[2,1,0,1,2]⟩]) (.seq (.ops false [⟨some 19,.fadr 1,[.t 8],none,[]⟩,⟨some 20,.load 1 false,[.t 19],none,[0]⟩,⟨some 21,.fadr 2,[.t 8],none,[]⟩,⟨some 22,.load 1 false,[.t 21],none,[2]⟩,⟨some 23,.build [(.s (bs [])),(.s (bs []))] [(0,1),(1,1)],[.t 20,.t 22],none,[1,3]⟩,⟨some 9,.alloc [(.s (bs [])),(.s (bs []))],[],none,[]⟩,⟨none,.store 2,[.t 9,.t 23],none,[5,4,0,1,2,3,4,5]⟩]) (.seq (.ops false [⟨some 25,.mv,[.t 6],none,[]⟩,⟨some 26,.load 2 true,[.t 9],none,[]⟩,⟨some 27,.lkup [2,2] true (.b false) true,[.t 25,.t 26],none,[0,1]⟩,⟨some 24,.mv,[.t 27],none,[2]⟩,⟨some 28,.ext 0,[.t 24],none,[3]⟩,⟨some 29,.ext 1,[.t 24],none,[3]⟩,⟨some 10,.mv,[.t 28],none,[4,0,1,2,3,4]⟩,⟨some 11,.mv,[.t 29],none,[5,6,0,1,2,3,4,5,6]⟩]) (.seq (.seq (.ops false [⟨some 30,.mv,[.t 11],none,[]⟩,⟨some 31,.not,[.t 30],none,[0]⟩]) (.cond (.t 31) (.seq (.ops false [⟨some 32,.load 11 true,[.t 2],none,[]⟩,⟨some 33,.fadr 1,[.t 8],none,[]⟩,⟨some 34,.load 1 false,[.t 33],none,[1]⟩,⟨some 35,.fadr 2,[.t 8],none,[]⟩,⟨some 36,.load 1 false,[.t 35],none,[3]⟩,⟨some 37,.call 64,[.t 32,.t 34,.t 36],none,[0,2,4]⟩,⟨some 10,.mv,[.t 37],none,[5,5,0,1,2,3,4,5]⟩]) (.ops false [⟨some 38,.mv,[.t 6],none,[]⟩,⟨some 39,.load 2 true,[.t 9],none,[]⟩,⟨some 40,.mv,[.t 10],none,[]⟩,⟨none,.mset [2,2] true,[.t 38,.t 39,.t 40],none,[0,1,2,0,1,2]⟩])) .skip)) (.seq (.ops false [⟨some 41,.mv,[.t 10],none,[]⟩]) (.cond (.t 41) (.ops false [⟨some 42,.mv,[.t 5],none,[]⟩,⟨some 43,.fadr 0,[.t 8],none,[]⟩,⟨some 44,.load 1 false,[.t 43],none,[1]⟩,⟨some 45,.bslice 3 1 (.i .i64 0) 1 [0],[.t 44],none,[2]⟩,⟨some 46,.app 3 1 8,[.t 42,.t 45],none,[0,3]⟩,⟨some 5,.mv,[.t 46],none,[4,4,0,1,2,3,4]⟩]) .skip))))))) (.ops false [⟨some 47,.bin .add,[.t 15,.c (.i .i64 1)],none,[]⟩,⟨some 15,.mv,[.t 47],none,[0]⟩]))))))) (.seq (.ops false [⟨some 48,.mv,[.t 5],none,[]⟩,⟨some 4,.mv,[.t 48],none,[0,0]⟩]) .ret))))
def rs92 : List RV := [.tmp 4]
theorem fact92 : compF Try.prog 33 = some (ac92,rs92,49) := by kernel_rfl
abbrev keyPV (k : ByteArray × ByteArray) : PV := .agg [.s k.1, .s k.2]
abbrev entPV (l : Lim) (k : ByteArray × ByteArray) : PV × PV := (keyPV k, .b (countsL l k.1 k.2))
def ofL (l : Lim) (m : List Mov) : List Int := (m.filter fun x => countsL l x.kind x.term).map Mov.moment
theorem eq_key (a b : ByteArray × ByteArray) : eqCells (keyPV a).cells (keyPV b).cells = (decide (a.1 = b.1) && decide (a.2 = b.2)) := by
  simp only [PV.cells, eqCells, eqPV, Bool.and_true]
theorem mget_ent (l : Lim) (k : ByteArray × ByteArray) : ∀ (es : List (ByteArray × ByteArray)), mget (keyPV k) (es.map (entPV l)) = none ∨ mget (keyPV k) (es.map (entPV l)) = some (.b (countsL l k.1 k.2))
  | [] => .inl rfl
  | e :: r => by
    simp only [List.map_cons, mget, eq_key]
    split
    · rename_i h
      simp only [Bool.and_eq_true, decide_eq_true_eq] at h
      right; rw [h.1, h.2]
    · exact mget_ent l k r
theorem mput_ent (l : Lim) (k : ByteArray × ByteArray) : ∀ (es : List (ByteArray × ByteArray)), ∃ es' : List (ByteArray × ByteArray), mput (keyPV k) (.b (countsL l k.1 k.2)) (es.map (entPV l)) = es'.map (entPV l)
  | [] => ⟨[k], rfl⟩
  | e :: r => by
    simp only [List.map_cons, mput, eq_key]
    split
    · exact ⟨k :: r, rfl⟩
    · obtain ⟨es', h⟩ := mput_ent l k r
      exact ⟨e :: es', by rw [h]; rfl⟩
theorem keysOk_ent (l : Lim) (k : ByteArray × ByteArray) : ∀ (es : List (ByteArray × ByteArray)), keysOk [2, 2] true (keyPV k) (es.map (entPV l))
  | [] => trivial
  | e :: r => ⟨⟨rfl, by simp [PV.cells, eqCellsOk, eqOk]⟩, keysOk_ent l k r⟩
theorem ofL_next {l : Lim} {m : List Mov} {i : Nat} {x : Mov} (hx : m[i]? = some x) : ofL l (m.take (i + 1)) = ofL l (m.take i) ++ if countsL l x.kind x.term then [x.moment] else [] := by
  rw [ofL, List.take_add_one, hx, List.filter_append, List.map_append]
  congr 1
  cases hh : countsL l x.kind x.term <;> simp [List.filter_cons, hh]
theorem pure92 (l : Lim) (m : List Mov) (h : chkLim l = 0) (hn : m.length ≤ 1000000) : Pure Try.prog 33 [l.pv, .sl 7 (m.map Mov.pv)] (.sl 1 ((ofL l m).map (.i .i64))) := by
  refine pure_by fact92 (by simp) fun hw X hX => ?_
  unfold ac92 rs92
  simp only [wfs, PV.wf, List.length_map, maxLen] at hw
  repeat' first | (show Run _ (.cond _ _ _) _ _; refine run_condX (fun hc => ?_) (fun hc => ?_) <;> (try simp only [qH, rng_0] at hc) <;> try contradiction) | (first | refine Stp.h ?_ | (show ∀ K : St → List Ft → Prop, _; intro K hK) | (show runS _ _ _ _ _; first | refine qY (hq := ?_) | refine qZ (hq := ?_)) | (refine hK _ _ ?_; clear hK K) | (refine hK _ _ rfl ?_; clear hK K) | (refine qZ (hq := ?_); try exact trivial) | omega)
  refine run_own 100 3 1 [(2, .lp 2 0), (5, .row 100 0), (6, .lm 12), (13, .p (.sl 7 (m.map Mov.pv))), (14, .p (.i .i64 m.length)), (15, .p (.i .i64 0))] [(2, .box (l.cells.map .p) false), (12, .mp [] false)] ?_ ?_
  · simp only [Own, ownEnv, ownObj, nilTo, nilTos, qS, Nat.reduceAdd, Nat.reduceMul, Nat.reduceEqDiff, Nat.reduceLeDiff, reduceIte, reduceCtorEq, Nat.reduceBEq, Nat.reduceLT]
  refine run_loop (κ := Nat × List (ByteArray × ByteArray)) (fun k => ⟨[(2, .lp 2 0), (5, .row 100 (ofL l (m.take k.1)).length), (6, .lm 12), (13, .p (.sl 7 (m.map Mov.pv))), (14, .p (.i .i64 m.length)), (15, .p (.i .i64 k.1))], [(2, .box (l.cells.map .p) false), (12, .mp (k.2.map (entPV l)) false), (100, .row 3 1 ((ofL l (m.take k.1)).map (.i .i64)) false)], [], false⟩) (fun k => k.1 ≤ m.length) (fun k => m.length - k.1) (0, []) ?_ ?_ ?_
  · simp only [qS, Nat.reduceAdd, Nat.reduceMul, Nat.reduceEqDiff, Nat.reduceLeDiff, reduceIte, reduceCtorEq, Nat.reduceBEq, Nat.reduceLT] <;> simp [ofL]
  · simp
  · intro k hk
    obtain ⟨i, es⟩ := k
    simp only at hk
    have hl : (ofL l (m.take i)).length ≤ i := by
      simp only [ofL, List.length_map]; exact Nat.le_trans (List.length_filter_le _ _) (by simp; omega)
    repeat (first | refine Stp.h ?_ | (show ∀ K : St → List Ft → Prop, _; intro K hK) | (show runS _ _ _ _ _; first | refine qY (hq := ?_) | refine qZ (hq := ?_)) | (refine hK _ _ ?_; clear hK K) | (refine hK _ _ rfl ?_; clear hK K) | (refine qZ (hq := ?_); try exact trivial) | omega)
    (show Run _ (.cond _ _ _) _ _; refine run_condX (fun hc => ?_) (fun hc => ?_) <;> (try simp only [qH, rng_0] at hc) <;> try contradiction)
    · obtain ⟨x, hx⟩ := some_at (i := i) (l := m) (by omega)
      have hko : keysOk [2, 2] true (.agg [.s x.kind, .s x.term]) (es.map (entPV l)) = True := eq_true (keysOk_ent l (x.kind, x.term) es)
      obtain ⟨es', hput⟩ := mput_ent l (x.kind, x.term) es
      simp only [keyPV] at hput
      have hnx := ofL_next (l := l) hx
      rcases mget_ent l (x.kind, x.term) es with hg | hg
      · simp only [keyPV] at hg
        have qe := And.intro qR (And.intro @hx (And.intro @hko (And.intro @hg @hput))); repeat' first | (show Run _ (.cond _ _ _) _ _; refine run_condX (fun hc => ?_) (fun hc => ?_) <;> (try simp only [qH, rng_0] at hc) <;> try contradiction) | (show RunOps _ _ _ _ (⟨_, .call 64, _, _, _⟩ :: _) _ _; refine run_callX (hf := pure135 l x.kind x.term h) (hn := ?_)) | (first | refine Stp.h ?_ | (show ∀ K : St → List Ft → Prop, _; intro K hK) | (show runS _ _ _ _ _; first | refine qY (hq := ?_) | refine qZ (hq := ?_)) | (refine hK _ _ ?_; clear hK K) | (refine hK _ _ rfl ?_; clear hK K) | (refine qZ (hq := ?_); try exact trivial) | omega)
        · rw [hc, if_pos rfl] at hnx
          exact ⟨(i + 1, es'), by simp only; omega, by simp only; omega, ⟨by simp only [hnx]; simp, by simp⟩, rfl, by simp only [hnx]; simp⟩
        · rw [hc] at hnx
          exact ⟨(i + 1, es'), by simp only; omega, by simp only; omega, ⟨by simp only [hnx]; simp, by simp⟩, rfl, by simp only [hnx]; simp⟩
      · simp only [keyPV] at hg
        have qe := And.intro qR (And.intro @hx (And.intro @hko @hg)); repeat' first | (show Run _ (.cond _ _ _) _ _; refine run_condX (fun hc => ?_) (fun hc => ?_) <;> (try simp only [qH, rng_0] at hc) <;> try contradiction) | (first | refine Stp.h ?_ | (show ∀ K : St → List Ft → Prop, _; intro K hK) | (show runS _ _ _ _ _; first | refine qY (hq := ?_) | refine qZ (hq := ?_)) | (refine hK _ _ ?_; clear hK K) | (refine hK _ _ rfl ?_; clear hK K) | (refine qZ (hq := ?_); try exact trivial) | omega)
        · rw [hc, if_pos rfl] at hnx
          exact ⟨(i + 1, es), by simp only; omega, by simp only; omega, ⟨by simp only [hnx]; simp, by simp⟩, rfl, by simp only [hnx]; simp⟩
        · rw [hc] at hnx
          exact ⟨(i + 1, es), by simp only; omega, by simp only; omega, ⟨by simp only [hnx]; simp, by simp⟩, rfl, by simp only [hnx]; simp⟩
    · repeat' first | (show Run _ (.cond _ _ _) _ _; refine run_condX (fun hc => ?_) (fun hc => ?_) <;> (try simp only [qH, rng_0] at hc) <;> try contradiction) | (first | refine Stp.h ?_ | (show ∀ K : St → List Ft → Prop, _; intro K hK) | (show runS _ _ _ _ _; first | refine qY (hq := ?_) | refine qZ (hq := ?_)) | (refine hK _ _ ?_; clear hK K) | (refine hK _ _ rfl ?_; clear hK K) | (refine qZ (hq := ?_); try exact trivial) | omega)
      have e : i = m.length := by omega
      subst e; rw [List.take_length]; exact .refl _
end Go.Proofs.Ytcfbdeghmckelaa
namespace Go.Proofs.Ytcfbdeghmckelaa
open Go.RowKit
set_option maxRecDepth 100000
set_option linter.unusedVariables false
set_option linter.unusedSimpArgs false
set_option maxHeartbeats 2000000
theorem firstE_0 {l : List Int} (h : firstE l = 0) {x : Int} (hx : x ∈ l) : x = 0 := by
  induction l with
  | nil => cases hx
  | cons e r ih =>
    obtain ⟨h1, h2⟩ := firstE_cons.1 h
    rcases List.mem_cons.1 hx with h | h
    · rw [h]; exact h1
    · exact ih h2 h
theorem pairwise_sorted {l : List Int} (h : l.Pairwise (· ≤ ·)) : sortedI l := by
  intro i j x y hij hx hy
  obtain ⟨hi, rfl⟩ := List.getElem?_eq_some_iff.1 hx
  obtain ⟨hj, rfl⟩ := List.getElem?_eq_some_iff.1 hy
  rcases Nat.lt_or_eq_of_le hij with h1 | h1
  · exact List.pairwise_iff_getElem.1 h i j hi hj h1
  · subst h1; exact Int.le_refl _
theorem step_sorted {l : List Int} (h : ∀ (i : Nat) (x y : Int), l[i]? = some x → l[i + 1]? = some y → x ≤ y) : l.Pairwise (· ≤ ·) := by
  refine List.pairwise_iff_getElem.2 fun i j hi hj hij => ?_
  obtain ⟨k, rfl⟩ : ∃ k, j = i + 1 + k := ⟨j - i - 1, by omega⟩
  clear hij
  induction k with
  | zero => exact h i _ _ (List.getElem?_eq_getElem hi) (List.getElem?_eq_getElem hj)
  | succ k ih => exact Int.le_trans (ih (by omega)) (h (i + 1 + k) _ _ (List.getElem?_eq_getElem (by omega)) (List.getElem?_eq_getElem hj))
theorem chkMovs_0 {m : List Mov} (h : chkMovs m = 0) : m.length ≤ 30000 ∧ (∀ x ∈ m, chkMov x = 0) ∧ (m.map Mov.moment).Pairwise (· ≤ ·) := by
  unfold chkMovs at h
  split at h
  · cases h
  · have key : ∀ (i : Nat) (x : Mov), m[i]? = some x → movErr m i x = 0 := fun i x hx => firstE_0 h (List.mem_of_getElem? (mapIdx_at hx))
    refine ⟨by omega, fun x hx => ?_, step_sorted fun i x y hx hy => ?_⟩
    · obtain ⟨i, hi⟩ := List.getElem?_of_mem hx
      exact (firstE_cons.1 (key i x hi)).1
    · simp only [List.getElem?_map, Option.map_eq_some_iff] at hx hy
      obtain ⟨a, ha, rfl⟩ := hx
      obtain ⟨b, hb, rfl⟩ := hy
      have h1 := (firstE_cons.1 (firstE_cons.1 (key (i + 1) b hb)).2).1
      simp only [Nat.add_sub_cancel, ha, Option.getD_some] at h1
      rw [ite_eq0 (by decide)] at h1
      omega
theorem ofL_sorted {l : Lim} {m : List Mov} (h : chkMovs m = 0) : sortedI (ofL l m) := by
  refine pairwise_sorted ?_
  have := (chkMovs_0 h).2.2
  rw [List.pairwise_map] at this
  rw [ofL, List.pairwise_map]
  exact this.filter _
theorem ofL_len {l : Lim} {m : List Mov} : (ofL l m).length ≤ m.length := by
  simp only [ofL, List.length_map]; exact List.length_filter_le _ _
theorem beginsL_len {l : Lim} (h : chkLim l = 0) (d : Int) : (beginsL l d).length ≤ 1440 := by
  have hl := chkLim_0 h
  have h1 : 0 ≤ l.from_ := Int.ediv_nonneg (by omega) (by omega)
  have h2 : l.to / l.step ≤ l.to := Int.ediv_le_self _ (by omega)
  unfold beginsL begK begN
  split
  · simp; omega
  · simp
def ac133 : AC := .seq (.ops false [⟨some 2,.box,[.t 0],none,[]⟩,⟨some 4,.mv,[.c .nilsl],none,[]⟩]) (.seq (.seq (.ops false [⟨some 6,.mv,[.t 1],none,[]⟩]) (.block 0 (.rfunc (.t 6) [7] (.ops false [⟨some 5,.mv,[.t 7],none,[]⟩]) (.block 1 (.ops false [⟨some 8,.load 1 false,[.t 2],none,[]⟩,⟨some 9,.mv,[.t 5],none,[]⟩,⟨some 10,.bslice 3 1 (.i .i64 0) 1 [0],[.t 9],none,[1]⟩,⟨some 11,.app 3 1 8,[.t 8,.t 10],none,[0,2]⟩,⟨none,.store 1,[.t 2,.t 11],none,[3,3,0,1,2,3]⟩]))))) (.seq (.ops false [⟨some 12,.load 1 false,[.t 2],none,[]⟩,⟨some 4,.mv,[.t 12],none,[0,0]⟩]) .ret))
def rs133 : List RV := [.tmp 4]
theorem fact133 : compF Try.prog 73 = some (ac133,rs133,13) := by kernel_rfl
def ac90 : AC := .seq (.ops false [⟨some 2,.mv,[.c .nilsl],none,[]⟩]) (.seq (.ops false [⟨some 3,.mv,[.t 0],none,[]⟩,⟨some 4,.call 73,[.c .nilsl,.t 3],none,[0]⟩,⟨some 2,.mv,[.t 4],none,[1,1,0,1]⟩]) .ret)
def rs90 : List RV := [.tmp 2]
theorem fact90 : compF Try.prog 45 = some (ac90,rs90,5) := by kernel_rfl
def ac27 : AC := .seq (.ops false [⟨some 2,.box,[.t 0],none,[]⟩,⟨some 4,.mv,[.c .nilsl],none,[]⟩,⟨some 5,.mv,[.c (.i .i64 0)],none,[1]⟩]) (.seq (.seq (.ops false [⟨some 7,.load 11 true,[.t 2],none,[]⟩,⟨some 8,.call 29,[.t 7],none,[0]⟩,⟨some 9,.mv,[.t 1],none,[]⟩,⟨some 10,.call 31,[.t 9,.c (.i .i64 0),.c (.i .i64 99999)],none,[2,1]⟩,⟨some 11,.bslice 29 1 (.i .i64 0) 2 [0,1],[.t 8,.t 10],none,[1,3]⟩,⟨some 12,.call 28,[.t 11],none,[4,3]⟩,⟨some 6,.mv,[.t 12],none,[5,5,0,1,2,3,4,5]⟩]) (.seq (.ops false [⟨some 13,.mv,[.t 6],none,[]⟩,⟨some 14,.bin .neq,[.t 13,.c (.i .i64 0)],none,[0]⟩]) (.cond (.t 14) (.seq (.ops false [⟨some 15,.mv,[.t 6],none,[]⟩,⟨some 4,.mv,[.c .nilsl],none,[]⟩,⟨some 5,.mv,[.t 15],none,[0,1,0,1]⟩]) .ret) .skip))) (.seq (.seq (.ops false [⟨some 16,.load 11 true,[.t 2],none,[]⟩,⟨some 17,.mv,[.t 1],none,[]⟩,⟨some 18,.call 44,[.t 16,.t 17],none,[0,1]⟩,⟨some 19,.not,[.t 18],none,[2]⟩]) (.cond (.t 19) (.seq (.ops false [⟨some 4,.mv,[.c .nilsl],none,[]⟩,⟨some 5,.mv,[.c (.i .i64 30)],none,[0,0]⟩]) .ret) .skip)) (.seq (.ops false [⟨some 20,.load 11 true,[.t 2],none,[]⟩,⟨some 21,.mv,[.t 1],none,[]⟩,⟨some 22,.call 32,[.t 20,.t 21],none,[0,1]⟩,⟨some 23,.call 45,[.t 22],none,[2,2]⟩,⟨some 4,.mv,[.t 23],none,[3,3,0,1,2,3]⟩,⟨some 5,.mv,[.c (.i .i64 0)],none,[4,0,1,2,3,4]⟩]) .ret)))
def rs27 : List RV := [.tmp 4,.tmp 5]
theorem fact27 : compF Try.prog 17 = some (ac27,rs27,24) := by kernel_rfl
theorem pure133 {f : Nat} {caps : List PV} {L : List Int} (hit : Iter Try.prog f caps (L.map tup1)) (hn : L.length ≤ 1000000) : Pure Try.prog 73 [.nilsl, .fn (.func f) [] caps] (.sl 1 (L.map (.i .i64))) := by
  refine pure_by fact133 (by simp) fun hw X hX => ?_
  unfold ac133 rs133
  repeat' first | (show Run _ (.cond _ _ _) _ _; refine run_condX (fun hc => ?_) (fun hc => ?_) <;> (try simp only [qH, rng_0] at hc) <;> try contradiction) | (first | refine Stp.h ?_ | (show ∀ K : St → List Ft → Prop, _; intro K hK) | (show runS _ _ _ _ _; first | refine qY (hq := ?_) | refine qZ (hq := ?_)) | (refine hK _ _ ?_; clear hK K) | (refine hK _ _ rfl ?_; clear hK K) | (refine qZ (hq := ?_); try exact trivial) | omega)
  refine run_own 100 3 1 [(2, .lp 2 0), (6, .p (.fn (.func f) [] caps))] [(2, .box [.row 100 0] false)] ?_ ?_
  · simp only [Own, ownEnv, ownObj, nilTo, nilTos, qS, Nat.reduceAdd, Nat.reduceMul, Nat.reduceEqDiff, Nat.reduceLeDiff, reduceIte, reduceCtorEq, Nat.reduceBEq, Nat.reduceLT]
  refine run_rfunc rfl hit ?_ ?_ [(2, .lp 2 0), (6, .p (.fn (.func f) [] caps))] (fun k => [(2, .box [.row 100 k] false), (100, .row 3 1 ((L.take k).map (.i .i64)) false)]) (fun _ => []) ?_ ?_ ?_
  · simp
  · simp [hX]
  · simp only [qS, Nat.reduceAdd, Nat.reduceMul, Nat.reduceEqDiff, Nat.reduceLeDiff, reduceIte, reduceCtorEq, Nat.reduceBEq, Nat.reduceLT]
  · intro k t ht X' ro' hX'
    simp only [List.getElem?_map, Option.map_eq_some_iff] at ht
    obtain ⟨d, hd, rfl⟩ := ht
    have hl := take_len hd
    have hk := (List.getElem?_eq_some_iff.1 hd).1
    simp only [qS, Nat.reduceAdd, Nat.reduceMul, Nat.reduceEqDiff, Nat.reduceLeDiff, reduceIte, reduceCtorEq, Nat.reduceBEq, Nat.reduceLT]
    repeat' first | (show Run _ (.cond _ _ _) _ _; refine run_condX (fun hc => ?_) (fun hc => ?_) <;> (try simp only [qH, rng_0] at hc) <;> try contradiction) | (first | refine Stp.h ?_ | (show ∀ K : St → List Ft → Prop, _; intro K hK) | (show runS _ _ _ _ _; first | refine qY (hq := ?_) | refine qZ (hq := ?_)) | (refine hK _ _ ?_; clear hK K) | (refine hK _ _ rfl ?_; clear hK K) | (refine qZ (hq := ?_); try exact trivial) | omega)
    intro X1 hX1
    have qe := And.intro qR (And.intro @hl (take_snoc (PV.i .i64) hd)); repeat' first | (show Run _ (.cond _ _ _) _ _; refine run_condX (fun hc => ?_) (fun hc => ?_) <;> (try simp only [qH, rng_0] at hc) <;> try contradiction) | (first | refine Stp.h ?_ | (show ∀ K : St → List Ft → Prop, _; intro K hK) | (show runS _ _ _ _ _; first | refine qY (hq := ?_) | refine qZ (hq := ?_)) | (refine hK _ _ ?_; clear hK K) | (refine hK _ _ rfl ?_; clear hK K) | (refine qZ (hq := ?_); try exact trivial) | omega)
  · simp only [List.length_map]
    have qe := @List.take_length.{0}; repeat' first | (show Run _ (.cond _ _ _) _ _; refine run_condX (fun hc => ?_) (fun hc => ?_) <;> (try simp only [qH, rng_0] at hc) <;> try contradiction) | (first | refine Stp.h ?_ | (show ∀ K : St → List Ft → Prop, _; intro K hK) | (show runS _ _ _ _ _; first | refine qY (hq := ?_) | refine qZ (hq := ?_)) | (refine hK _ _ ?_; clear hK K) | (refine hK _ _ rfl ?_; clear hK K) | (refine qZ (hq := ?_); try exact trivial) | omega)
    exact .refl _
theorem pure90 {f : Nat} {caps : List PV} {L : List Int} (hit : Iter Try.prog f caps (L.map tup1)) (hn : L.length ≤ 1000000) : Pure Try.prog 45 [.fn (.func f) [] caps] (.sl 1 (L.map (.i .i64))) := by
  refine pure_by fact90 (by simp) fun hw X hX => ?_
  unfold ac90 rs90
  repeat' first | (show Run _ (.cond _ _ _) _ _; refine run_condX (fun hc => ?_) (fun hc => ?_) <;> (try simp only [qH, rng_0] at hc) <;> try contradiction) | (show RunOps _ _ _ _ (⟨_, .call 73, _, _, _⟩ :: _) _ _; refine run_callX (hf := pure133 hit hn) (hn := ?_)) | (first | refine Stp.h ?_ | (show ∀ K : St → List Ft → Prop, _; intro K hK) | (show runS _ _ _ _ _; first | refine qY (hq := ?_) | refine qZ (hq := ?_)) | (refine hK _ _ ?_; clear hK K) | (refine hK _ _ rfl ?_; clear hK K) | (refine qZ (hq := ?_); try exact trivial) | omega)
  exact .refl _
def begE (l : Lim) (d : Int) : Int := if firstE [chkLim l, rng d 0 99999] = 0 then (if hasB l.per d = true then 0 else 30) else firstE [chkLim l, rng d 0 99999]
def begR (l : Lim) (d : Int) : List Int := if begE l d = 0 then beginsL l d else []
theorem pure27 (l : Lim) (d : Int) : Pure Try.prog 17 [l.pv, .i .i64 d] (.tup [.sl 1 ((begR l d).map (.i .i64)), .i .i64 (begE l d)]) := by
  refine pure_by fact27 (by simp) fun hw X hX => ?_
  unfold ac27 rs27
  have qe := @qR; repeat' first | (show Run _ (.cond _ _ _) _ _; refine run_condX (fun hc => ?_) (fun hc => ?_) <;> (try simp only [qH, rng_0] at hc) <;> try contradiction) | (show RunOps _ _ _ _ (⟨_, .call 29, _, _, _⟩ :: _) _ _; refine run_callX (hf := pure84 l) (hn := ?_)) | (show RunOps _ _ _ _ (⟨_, .call 31, _, _, _⟩ :: _) _ _; refine run_callX (hf := pure88 _ _ _) (hn := ?_)) | (show RunOps _ _ _ _ (⟨_, .call 28, _, _, _⟩ :: _) _ _; refine run_callX (hf := pure83 [_, _]) (hn := ?_)) | (first | refine Stp.h ?_ | (show ∀ K : St → List Ft → Prop, _; intro K hK) | (show runS _ _ _ _ _; first | refine qY (hq := ?_) | refine qZ (hq := ?_)) | (refine hK _ _ ?_; clear hK K) | (refine hK _ _ rfl ?_; clear hK K) | (refine qZ (hq := ?_); try exact trivial) | omega)
  · have he : begE l d = firstE [chkLim l, rng d 0 99999] := by rw [begE, if_neg hc]
    rw [begR, he, if_neg hc]; exact weak2 (.nilsl _) (.refl _)
  · have h0 := hc
    have h1 := hc
    simp only [firstE_cons, rng_0] at h1
    repeat' first | (show Run _ (.cond _ _ _) _ _; refine run_condX (fun hc => ?_) (fun hc => ?_) <;> (try simp only [qH, rng_0] at hc) <;> try contradiction) | (show RunOps _ _ _ _ (⟨_, .call 44, _, _, _⟩ :: _) _ _; refine run_callX (hf := pure89 l d) (hn := ?_)) | (show RunOps _ _ _ _ (⟨_, .call 32, _, _, _⟩ :: _) _ _; refine run_callX (hf := pure91 l d) (hn := ?_)) | (show RunOps _ _ _ _ (⟨_, .call 45, _, _, _⟩ :: _) _ _; refine run_callX (hf := pure90 (iter134 l d h1.1) (Nat.le_trans (beginsL_len h1.1 d) (by decide))) (hn := ?_)) | (first | refine Stp.h ?_ | (show ∀ K : St → List Ft → Prop, _; intro K hK) | (show runS _ _ _ _ _; first | refine qY (hq := ?_) | refine qZ (hq := ?_)) | (refine hK _ _ ?_; clear hK K) | (refine hK _ _ rfl ?_; clear hK K) | (refine qZ (hq := ?_); try exact trivial) | omega)
    · have he : begE l d = 30 := by rw [begE, if_pos h0, if_neg (by rw [hc]; decide)]
      rw [begR, he, if_neg (by decide)]; exact weak2 (.nilsl _) (.refl _)
    · have he : begE l d = 0 := by rw [begE, if_pos h0, if_pos hc]
      rw [begR, he, if_pos rfl]; exact .refl _
end Go.Proofs.Ytcfbdeghmckelaa
