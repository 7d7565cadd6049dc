/- Contracts of functions that the proof uses, shared by the claims of this seat; no statement of its own. Part 2. No conditions. -/
import Derived.Test.YtcfbdeghmckelaaGreatJ0
set_option linter.all false
namespace Go.Proofs.YtcfbdeghmckelaaGreat
open Go.RowKit
section
variable {X : Fx} {C : Ctx} {g : Nat → LV} {look : Nat → Option LObj} {tr : List (List PV)} {stop : Bool} {a : Act} {w : World} {P : Program} {o : Oper} {ao : AOp} {args : List AOpd} {E : AOpd → LV} {d : Nat} {pre : Prop} {eff : Eff}
theorem cs_fieldAddr (h : RelC X C g look tr stop a w) {t : TypeId} {x : Operand} {f : Nat} (ho : o.op = .fieldAddr t x f) (hc : comp P o = some (ao, args)) (hi : InsOk w C look a args E) (he : evalOp d look ao (args.map E) = some (pre, eff)) (hp : pre) : OpPost X g look tr stop a w P o eff := by
  simp only [comp, ho] at hc
  split at hc
  · rename_i fs x' ht hx
    obtain ⟨fl, hf, hc⟩ := Option.bind_eq_some_iff.1 hc
    obtain ⟨s, hs, hc⟩ := Option.bind_eq_some_iff.1 hc
    split at hc
    · cases hc
    · rename_i h0
      injection hc with hc
      injection hc with hc1 hc2
      subst hc1; subst hc2
      obtain ⟨hr, hsc⟩ := ins1 hi hx
      simp only [List.map_cons, List.map_nil] at he
      generalize E x' = q at he hr hsc
      cases q with
      | p v =>
        cases v <;> try (simp [evalOp] at he; done)
        simp only [evalOp] at he
        injection he with he
        injection he with he1 he2
        subst he2
        exact fadr_ip h ho ht hf hs h0 (repl_p_inv hr)
      | lp k off =>
        simp only [evalOp] at he
        injection he with he
        injection he with he1 he2
        subst he2
        exact fadr_lp h ho ht hf hs h0 hr hsc
      | ep k n i off =>
        simp only [evalOp] at he
        split at he
        · rename_i hk
          injection he with he
          injection he with he1 he2
          subst he1; subst he2
          exact fadr_ep h ho ht hf hs h0 hr hsc ⟨_, _, _, _, hk, hp⟩
        · cases he
      | _ => simp [evalOp] at he
  · cases hc
theorem cs_field (h : RelC X C g look tr stop a w) {t : TypeId} {x : Operand} {f : Nat} (ho : o.op = .field t x f) (hc : comp P o = some (ao, args)) (hi : InsOk w C look a args E) (he : evalOp d look ao (args.map E) = some (pre, eff)) (hp : pre) : OpPost X g look tr stop a w P o eff := by
  simp only [comp, ho] at hc
  split at hc
  · rename_i fs x' ht hx
    obtain ⟨fl, hf, hc⟩ := Option.bind_eq_some_iff.1 hc
    split at hc
    · rename_i s ag hs hag
      injection hc with hc
      injection hc with hc1 hc2
      subst hc1; subst hc2
      obtain ⟨hr, hsc⟩ := ins1 hi hx
      simp only [List.map_cons, List.map_nil] at he
      generalize E x' = q at he hr hsc
      cases q <;> try (simp [evalOp] at he; done)
      simp only [evalOp] at he
      injection he with he
      injection he with he1 he2
      subst he1; subst he2
      exact fld_sound h ho ht hf hs hag (repl_p_inv hr) hp.1 hp.2.1 hp.2.2
    · cases hc
  · cases hc
theorem cs_index (h : RelC X C g look tr stop a w) {t : TypeId} {x i : Operand} (ho : o.op = .index t x i) (hc : comp P o = some (ao, args)) (hi : InsOk w C look a args E) (he : evalOp d look ao (args.map E) = some (pre, eff)) (hp : pre) : OpPost X g look tr stop a w P o eff := by
  simp only [comp, ho] at hc
  split at hc
  · rename_i n e l ht hl
    obtain ⟨x', y', rfl, hx, hy⟩ := aopds2 hl
    split at hc
    · rename_i s ag hs hag
      injection hc with hc
      injection hc with hc1 hc2
      subst hc1; subst hc2
      obtain ⟨hr, _⟩ := ins2a hi hx
      obtain ⟨hry, _⟩ := ins2b hi hy
      simp only [List.map_cons, List.map_nil] at he
      generalize E x' = q at he hr
      generalize E y' = r at he hry
      cases q <;> try (simp [evalOp] at he; done)
      cases r <;> try (simp [evalOp] at he; done)
      rename_i v
      cases v <;> try (simp [evalOp] at he; done)
      simp only [evalOp] at he
      injection he with he
      injection he with he1 he2
      subst he1; subst he2
      exact idxA_sound h ho ht hs hag (repl_p_inv hr) (repl_p_inv hry) hp.1 hp.2.1 hp.2.2.1 hp.2.2.2.1 hp.2.2.2.2
    · cases hc
  · rename_i l ht hl
    obtain ⟨x', y', rfl, hx, hy⟩ := aopds2 hl
    injection hc with hc
    injection hc with hc1 hc2
    subst hc1; subst hc2
    obtain ⟨hr, _⟩ := ins2a hi hx
    obtain ⟨hry, _⟩ := ins2b hi hy
    simp only [List.map_cons, List.map_nil] at he
    generalize E x' = q at he hr
    generalize E y' = r at he hry
    cases q <;> try (simp [evalOp] at he; done)
    rename_i v
    cases v <;> try (simp [evalOp] at he; done)
    cases r <;> try (simp [evalOp] at he; done)
    rename_i v
    cases v <;> try (simp [evalOp] at he; done)
    simp only [evalOp] at he
    injection he with he
    injection he with he1 he2
    subst he1; subst he2
    exact idxS_sound h ho ht (repl_p_inv hr) (repl_p_inv hry) hp.1 hp.2
  · cases hc
theorem cs_indexAddr (h : RelC X C g look tr stop a w) {t : TypeId} {x i : Operand} (ho : o.op = .indexAddr t x i) (hc : comp P o = some (ao, args)) (hi : InsOk w C look a args E) (he : evalOp d look ao (args.map E) = some (pre, eff)) (hp : pre) : OpPost X g look tr stop a w P o eff := by
  simp only [comp, ho] at hc
  split at hc
  · rename_i n e l ht hl
    obtain ⟨x', y', rfl, hx, hy⟩ := aopds2 hl
    obtain ⟨s, hs, hc⟩ := Option.map_eq_some_iff.1 hc
    injection hc with hc1 hc2
    subst hc1; subst hc2
    obtain ⟨hr, hsc⟩ := ins2a hi hx
    obtain ⟨hry, _⟩ := ins2b hi hy
    simp only [List.map_cons, List.map_nil] at he
    generalize E x' = q at he hr hsc
    generalize E y' = r at he hry
    cases q <;> try (simp [evalOp] at he; done)
    · rename_i v
      cases v <;> try (simp [evalOp] at he; done)
      cases r <;> try (simp [evalOp] at he; done)
      rename_i v
      cases v <;> try (simp [evalOp] at he; done)
      simp only [evalOp] at he
      injection he with he
      injection he with he1 he2
      subst he1; subst he2
      exact iadrA_ip h ho ht hs (repl_p_inv hr) (repl_p_inv hry) hp.1 hp.2
    · cases r <;> try (simp [evalOp] at he; done)
      rename_i v
      cases v <;> try (simp [evalOp] at he; done)
      simp only [evalOp] at he
      injection he with he
      injection he with he1 he2
      subst he1; subst he2
      exact iadrA_lp h ho ht hs hr hsc (repl_p_inv hry) hp.1 hp.2
  · rename_i e l ht hl
    obtain ⟨x', y', rfl, hx, hy⟩ := aopds2 hl
    obtain ⟨s, hs, hc⟩ := Option.map_eq_some_iff.1 hc
    injection hc with hc1 hc2
    subst hc1; subst hc2
    obtain ⟨hr, hsc⟩ := ins2a hi hx
    obtain ⟨hry, _⟩ := ins2b hi hy
    simp only [List.map_cons, List.map_nil] at he
    generalize E x' = q at he hr hsc
    generalize E y' = r at he hry
    cases q <;> try (simp [evalOp] at he; done)
    · rename_i v
      cases v <;> try (simp [evalOp] at he; done)
      cases r <;> try (simp [evalOp] at he; done)
      rename_i v
      cases v <;> try (simp [evalOp] at he; done)
      simp only [evalOp] at he
      injection he with he
      injection he with he1 he2
      subst he1; subst he2
      obtain ⟨rfl, hp⟩ := hp
      exact iadrS_sl h ho ht hs (repl_p_inv hr) (repl_p_inv hry) hp.1 hp.2
    · cases r <;> try (simp [evalOp] at he; done)
      rename_i v
      cases v <;> try (simp [evalOp] at he; done)
      simp only [evalOp] at he
      split at he
      · rename_i hk
        injection he with he
        injection he with he1 he2
        subst he1; subst he2
        obtain ⟨rfl, hn, h0, h1⟩ := hp
        exact iadrS_row h ho ht hs hr hk hn (repl_p_inv hry) h0 h1
      · cases he
  · cases hc
theorem cs_extract (h : RelC X C g look tr stop a w) {x : Operand} {j : Nat} (ho : o.op = .extract x j) (hc : comp P o = some (ao, args)) (hi : InsOk w C look a args E) (he : evalOp d look ao (args.map E) = some (pre, eff)) (hp : pre) : OpPost X g look tr stop a w P o eff := by
  simp only [comp, ho, Option.map_eq_some_iff] at hc
  obtain ⟨x', hx, hc⟩ := hc
  injection hc with hc1 hc2
  subst hc1; subst hc2
  obtain ⟨hr, hs⟩ := ins1 hi hx
  simp only [List.map_cons, List.map_nil] at he
  generalize E x' = q at he hr hs
  cases q <;> try (simp [evalOp] at he; done)
  rename_i v
  cases v <;> try (simp [evalOp] at he; done)
  simp only [evalOp] at he
  injection he with he
  injection he with he1 he2
  subst he1; subst he2
  exact ext_sound h ho (repl_p_inv hr) hp
theorem cs_range (h : RelC X C g look tr stop a w) {t : TypeId} {x : Operand} (ho : o.op = .range t x) (hc : comp P o = some (ao, args)) (hi : InsOk w C look a args E) (he : evalOp d look ao (args.map E) = some (pre, eff)) (hd : eff.nw = true → look d = none) : OpPost X g look tr stop a w P o eff := by
  simp only [comp, ho] at hc
  split at hc
  · rename_i x' ht hx
    injection hc with hc
    injection hc with hc1 hc2
    subst hc1; subst hc2
    obtain ⟨hr, hs⟩ := ins1 hi hx
    simp only [List.map_cons, List.map_nil] at he
    generalize E x' = q at he hr hs
    cases q <;> try (simp [evalOp] at he; done)
    rename_i v
    cases v <;> try (simp [evalOp] at he; done)
    simp only [evalOp] at he
    injection he with he
    injection he with he1 he2
    subst he2
    exact range_sound h ho ht (repl_p_inv hr) (hd rfl)
  · cases hc
theorem cs_len (h : RelC X C g look tr stop a w) {x : Operand} {t : TypeId} (ho : o.op = .call { callee := .builtin .len, args := ⟨[x]⟩, argTypes := ⟨[t]⟩ }) (hc : comp P o = some (ao, args)) (hi : InsOk w C look a args E) (he : evalOp d look ao (args.map E) = some (pre, eff)) (hp : pre) : OpPost X g look tr stop a w P o eff := by
  simp only [comp, ho] at hc
  split at hc
  · rename_i x' ht hx
    injection hc with hc
    injection hc with hc1 hc2
    subst hc1; subst hc2
    obtain ⟨hr, hs⟩ := ins1 hi hx
    simp only [List.map_cons, List.map_nil] at he
    generalize E x' = q at he hr hs
    cases q <;> try (simp [evalOp] at he; done)
    rename_i v
    cases v <;> try (simp [evalOp] at he; done)
    simp only [evalOp] at he
    injection he with he
    injection he with he1 he2
    subst he2
    exact lenS_sound h ho ht (repl_p_inv hr)
  · rename_i e x' ht hx
    injection hc with hc
    injection hc with hc1 hc2
    subst hc1; subst hc2
    obtain ⟨hr, hs⟩ := ins1 hi hx
    simp only [List.map_cons, List.map_nil, evalOp] at he
    obtain ⟨⟨p, xs, sz, rd⟩, hel, he⟩ := Option.map_eq_some_iff.1 he
    injection he with he1 he2
    subst he1; subst he2
    exact lenL_sound h ho ht hr hel hp
  · cases hc
theorem cs_app (h : RelC X C g look tr stop a w) {x y : Operand} {t t' : TypeId} (ho : o.op = .call { callee := .builtin .append, args := ⟨[x, y]⟩, argTypes := ⟨[t, t']⟩ }) (hc : comp P o = some (ao, args)) (hi : InsOk w C look a args E) (he : evalOp d look ao (args.map E) = some (pre, eff)) (hp : pre) (hd : eff.nw = true → look d = none) : OpPost X g look tr stop a w P o eff := by
  simp only [comp, ho] at hc
  split at hc
  · rename_i htt
    subst htt
    split at hc
    · rename_i e l ht hl
      split at hc
      · rename_i sz by_ z hs hb hz
        split at hc
        · rename_i hcond
          obtain ⟨h0, hzl, hb0⟩ := hcond
          injection hc with hc
          injection hc with hc1 hc2
          subst hc1; subst hc2
          obtain ⟨x', y', rfl, hx, hy⟩ := aopds2 hl
          obtain ⟨hr, _⟩ := ins2a hi hx
          obtain ⟨hry, _⟩ := ins2b hi hy
          simp only [List.map_cons, List.map_nil] at he
          generalize E x' = q at he hr
          generalize E y' = r at he hry
          cases q <;> try (simp [evalOp] at he; done)
          · rename_i v
            cases v <;> try (simp [evalOp] at he; done)
            simp only [evalOp] at he
            obtain ⟨⟨p, ys, s', rd⟩, hel, he⟩ := Option.map_eq_some_iff.1 he
            injection he with he1 he2
            subst he1; subst he2
            exact appN_sound h ho ht hs hb hz h0 hzl hb0 (repl_p_inv hr) hry hel hp.1 hp.2.1 hp.2.2.1 hp.2.2.2 (hd rfl)
          · simp only [evalOp] at he
            split at he
            · rename_i e' sz' xs hk
              obtain ⟨⟨p, ys, s', rd⟩, hel, he⟩ := Option.map_eq_some_iff.1 he
              injection he with he1 he2
              subst he1; subst he2
              obtain ⟨hee, hss, hn, hpp, hsz, h1, hby⟩ := hp
              exact appR_sound h ho ht hs hb hz h0 hzl hb0 hr hk hee hss hn hry hel hpp hsz h1 hby
            · cases he
        · cases hc
      · cases hc
    · cases hc
  · cases hc
theorem cs_max (h : RelC X C g look tr stop a w) {x y : Operand} {ts : Array TypeId} (ho : o.op = .call { callee := .builtin .max, args := ⟨[x, y]⟩, argTypes := ts }) (hc : comp P o = some (ao, args)) (hi : InsOk w C look a args E) (he : evalOp d look ao (args.map E) = some (pre, eff)) (hp : pre) : OpPost X g look tr stop a w P o eff := by
  simp only [comp, ho, Option.map_eq_some_iff] at hc
  obtain ⟨l, hl, hc⟩ := hc
  injection hc with hc1 hc2
  subst hc1; subst hc2
  obtain ⟨x', y', rfl, hx, hy⟩ := aopds2 hl
  obtain ⟨hr, _⟩ := ins2a hi hx
  obtain ⟨hry, _⟩ := ins2b hi hy
  simp only [List.map_cons, List.map_nil] at he
  generalize E x' = q at he hr
  generalize E y' = r at he hry
  cases q <;> try (simp [evalOp] at he; done)
  rename_i v
  cases v <;> try (simp [evalOp] at he; done)
  cases r <;> try (simp [evalOp] at he; done)
  rename_i v
  cases v <;> try (simp [evalOp] at he; done)
  simp only [evalOp] at he
  injection he with he
  injection he with he1 he2
  subst he1; subst he2
  exact max_sound h ho (repl_p_inv hr) (repl_p_inv hry) hp
theorem cs_min (h : RelC X C g look tr stop a w) {x y : Operand} {ts : Array TypeId} (ho : o.op = .call { callee := .builtin .min, args := ⟨[x, y]⟩, argTypes := ts }) (hc : comp P o = some (ao, args)) (hi : InsOk w C look a args E) (he : evalOp d look ao (args.map E) = some (pre, eff)) (hp : pre) : OpPost X g look tr stop a w P o eff := by
  simp only [comp, ho, Option.map_eq_some_iff] at hc
  obtain ⟨l, hl, hc⟩ := hc
  injection hc with hc1 hc2
  subst hc1; subst hc2
  obtain ⟨x', y', rfl, hx, hy⟩ := aopds2 hl
  obtain ⟨hr, _⟩ := ins2a hi hx
  obtain ⟨hry, _⟩ := ins2b hi hy
  simp only [List.map_cons, List.map_nil] at he
  generalize E x' = q at he hr
  generalize E y' = r at he hry
  cases q <;> try (simp [evalOp] at he; done)
  rename_i v
  cases v <;> try (simp [evalOp] at he; done)
  cases r <;> try (simp [evalOp] at he; done)
  rename_i v
  cases v <;> try (simp [evalOp] at he; done)
  simp only [evalOp] at he
  injection he with he
  injection he with he1 he2
  subst he1; subst he2
  exact min_sound h ho (repl_p_inv hr) (repl_p_inv hry) hp
theorem evalOp_sound (h : RelC X C g look tr stop a w) (hc : comp P o = some (ao, args)) (hi : InsOk w C look a args E) (he : evalOp d look ao (args.map E) = some (pre, eff)) (hp : pre) (hd : eff.nw = true → look d = none) : OpPost X g look tr stop a w P o eff := by
  have hc' := hc
  unfold comp at hc'
  split at hc'
  all_goals first | (cases hc'; done) | skip
  · obtain ⟨x, _, e⟩ := Option.map_eq_some_iff.1 hc'
    injection e with e1 e2
    subst e1; subst e2
    simp [evalOp] at he
  · obtain ⟨x, _, e⟩ := Option.map_eq_some_iff.1 hc'
    injection e with e1 e2
    subst e1; subst e2
    simp [evalOp] at he
  · obtain ⟨x, _, e⟩ := Option.map_eq_some_iff.1 hc'
    injection e with e1 e2
    subst e1; subst e2
    simp [evalOp] at he
  · exact cs_alloc h ‹_› hc he hd
  · exact cs_box h ‹_› hc hi he hp hd
  · exact cs_build h ‹_› hc hi he hp
  · exact cs_bslice h ‹_› hc hi he hp hd
  · exact cs_load h ‹_› hc hi he hp
  · exact cs_store h ‹_› hc hi he hp
  · exact cs_nilchk h ‹_› hc hi he hp
  · exact cs_bin h ‹_› hc hi he hp
  · exact cs_un h ‹_› hc hi he hp
  · exact cs_un h ‹_› hc hi he hp
  · exact cs_convert h ‹_› hc hi he hp
  · exact cs_makeFunc h ‹_› hc hi he
  · exact cs_slice h ‹_› hc hi he hp
  · exact cs_fieldAddr h ‹_› hc hi he hp
  · exact cs_field h ‹_› hc hi he hp
  · exact cs_index h ‹_› hc hi he hp
  · exact cs_indexAddr h ‹_› hc hi he hp
  · exact cs_extract h ‹_› hc hi he hp
  · exact cs_range h ‹_› hc hi he hd
  · exact cs_next h ‹_› hc hi he hp
  · exact cs_makeSlice h ‹_› hc hi he hp hd
  · exact cs_makeMap h ‹_› hc he hd
  · exact cs_lookup h ‹_› hc hi he hp
  · exact cs_mset h (.inl ‹_›) hc hi he hp
  · exact cs_mset h (.inr ‹_›) hc hi he hp
  · exact cs_len h ‹_› hc hi he hp
  · exact cs_app h ‹_› hc hi he hp hd
  · exact cs_copy h ‹_› hc hi he hp
  · exact cs_max h ‹_› hc hi he hp
  · exact cs_min h ‹_› hc hi he hp
  · obtain ⟨x, _, e⟩ := Option.map_eq_some_iff.1 hc'
    injection e with e1 e2
    subst e1; subst e2
    simp [evalOp] at he
  · obtain ⟨x, _, e⟩ := Option.map_eq_some_iff.1 hc'
    injection e with e1 e2
    subst e1; subst e2
    simp [evalOp] at he
end
end Go.Proofs.YtcfbdeghmckelaaGreat
namespace Go.Proofs.YtcfbdeghmckelaaGreat
open Go.RowKit
def boxPV : List PV → PV
  | [v] => if v.isAgg then .agg [v] else v
  | vs => .agg vs
theorem boxPV_cells (vs : List PV) : (boxPV vs).cells = vs := by
  match vs with
  | [] => rfl
  | [v] => cases v <;> rfl
  | _ :: _ :: _ => rfl
def toPV (look : Nat → Option LObj) : Nat → LV → Option (Prop × PV × List Nat)
  | 0, _ => none
  | m + 1, q => match q with
    | .p v => some (True, v, [])
    | .row k n => match look k with
      | some (.row _ sz xs _) => some (n = xs.length, .sl sz xs, [k])
      | _ => none
    | .lp k off => match look k with
      | some (.box cs _) => (go m cs).map fun r => (r.1, .ip (boxPV r.2.1) off, k :: r.2.2)
      | _ => none
    | .fn f a b => match go m a, go m b with
      | some r, some t => some (r.1 ∧ t.1, .fn f r.2.1 t.2.1, r.2.2 ++ t.2.2)
      | _, _ => none
    | .agg cs => (go m cs).map fun r => (r.1, .agg r.2.1, r.2.2)
    | .lm k => match look k with
      | some (.mp es _) => some (True, .mp es, [k])
      | _ => none
    | _ => none
where go (m : Nat) : List LV → Option (Prop × List PV × List Nat)
  | [] => some (True, [], [])
  | q :: r => match toPV look m q, go m r with
    | some x, some y => some (x.1 ∧ y.1, x.2.1 :: y.2.1, x.2.2 ++ y.2.2)
    | _, _ => none
def toPVs (look : Nat → Option LObj) (l : List LV) : Option (Prop × List PV × List Nat) := toPV.go look 4 l
def blksOf (C : Ctx) (look : Nat → Option LObj) (ks : List Nat) (b : Nat) : Prop := ∃ k ∈ ks, ∃ o, look k = some o ∧ blk C k o = some b
section
variable {X : Fx} {C : Ctx} {g : Nat → LV} {look : Nat → Option LObj} {tr : List (List PV)} {stop : Bool} {a : Act} {w : World} {P : Program}
theorem toPV_go_rep {B' : Nat → Prop} {m : Nat} (ih : ∀ {v : Value} {q : LV} {pre : Prop} {pv : PV} {ks : List Nat}, RepL w C look v q → toPV look m q = some (pre, pv, ks) → pre → (∀ b, blksOf C look ks b → B' b) → Rep w B' v pv) :
    ∀ {vs : List Value} {qs : List LV} {pre : Prop} {ps : List PV} {ks : List Nat}, vs.length = qs.length → (∀ (j : Nat) (v : Value) (q : LV), vs[j]? = some v → qs[j]? = some q → RepL w C look v q) →
    toPV.go look m qs = some (pre, ps, ks) → pre → (∀ b, blksOf C look ks b → B' b) → Reps w B' vs ps := by
  intro vs qs
  induction qs generalizing vs with
  | nil =>
    intro pre ps ks hl _ h hp hb
    have : vs = [] := List.eq_nil_of_length_eq_zero (by simpa using hl)
    subst this
    simp only [toPV.go] at h
    injection h with h; injection h with h1 h; injection h with h2 h3
    subst h2
    exact .nil
  | cons q r ihr =>
    intro pre ps ks hl hr h hp hb
    match vs, hl with
    | v :: vs, hl =>
      simp only [toPV.go] at h
      split at h
      · rename_i x y hx hy
        injection h with h; injection h with h1 h; injection h with h2 h3
        subst h1; subst h2; subst h3
        exact .cons (ih (hr 0 v q rfl rfl) hx hp.1 fun b ⟨k, hk, o, ho⟩ => hb b ⟨k, List.mem_append_left _ hk, o, ho⟩)
          (ihr (by simpa using hl) (fun j u p hu hq => hr (j + 1) u p (by simpa using hu) (by simpa using hq)) hy hp.2 fun b ⟨k, hk, o, ho⟩ => hb b ⟨k, List.mem_append_right _ hk, o, ho⟩)
      · cases h
theorem toPV_rep (h : RelC X C g look tr stop a w) {B' : Nat → Prop} (hB : ∀ b, C.B b → B' b) : ∀ (m : Nat) {v : Value} {q : LV} {pre : Prop} {pv : PV} {ks : List Nat}, RepL w C look v q → toPV look m q = some (pre, pv, ks) → pre →
    (∀ b, blksOf C look ks b → B' b) → Rep w B' v pv := by
  intro m
  induction m with
  | zero => intro v q pre pv ks _ ht; simp [toPV] at ht
  | succ m ih =>
    intro v q pre pv ks hq ht hp hb
    cases hq with
    | p hr =>
      simp only [toPV] at ht
      injection ht with ht; injection ht with h1 ht; injection ht with h2 h3
      subst h2
      exact hr.mono hB fun _ _ => rfl
    | @row v k n hr =>
      simp only [toPV] at ht
      split at ht
      · rename_i e sz xs fz hk
        injection ht with ht; injection ht with h1 ht; injection ht with h2 h3
        subst h1; subst h2; subst h3
        have hv := hr _ _ _ _ hk hp.symm
        obtain ⟨us, how, hus, hx, h0⟩ := h.obj k _ hk
        rcases how.2 with ⟨f1, f2⟩ | ⟨gb, cap, cur, f1, f2, f3, f4, f5, f6, f7⟩
        · have : xs = [] := List.eq_nil_of_length_eq_zero (by simpa using f2)
          subst this
          rw [hv, f1]; exact .sl0
        · have hbk : blk C k (.row e sz xs fz) = some gb := by simp [blk, f1, Value.ownBlock]
          have hcell := how.cells (g := gb) (by rw [f1]; rfl)
          rw [hv, f1]
          refine .sl (fun i j => (us[i * sz + j]?).getD undef) (hb gb ⟨k, by simp, _, hk, hbk⟩) rfl rfl f4 f5 (fun i x hxi => hx x (List.mem_of_getElem? hxi)) (fun i x j p hxi hpj => ?_) (fun i x j p hxi hpj => ?_)
          · have hxl := hx x (List.mem_of_getElem? hxi)
            have hj : j < sz := by rw [← hxl]; exact (List.getElem?_eq_some_iff.1 hpj).1
            have hf := flat_get hx i x j hxi hj
            rw [hpj] at hf
            obtain ⟨u, hu, _⟩ := hus.get hf
            rw [hu]
            exact hcell _ _ hu
          · have hxl := hx x (List.mem_of_getElem? hxi)
            have hj : j < sz := by rw [← hxl]; exact (List.getElem?_eq_some_iff.1 hpj).1
            have hf := flat_get hx i x j hxi hj
            rw [hpj] at hf
            obtain ⟨u, hu, hur⟩ := hus.get hf
            show Rep w B' ((us[i * sz + j]?).getD undef) p
            rw [hu]
            exact hur.mono hB fun _ _ => rfl
      · cases ht
    | @lp k off =>
      simp only [toPV] at ht
      split at ht
      · rename_i cs fz hk
        obtain ⟨r, hr, ht⟩ := Option.map_eq_some_iff.1 ht
        injection ht with h1 ht; injection ht with h2 h3
        subst h1; subst h2; subst h3
        obtain ⟨arr, ty, ha, hl, hc⟩ := h.obj k _ hk
        have hreps := toPV_go_rep (B' := B') ih (vs := arr.toList) (by simpa using hl) (fun j v q hv hq => hc j v q (by simpa using hv) hq) hr hp (fun b ⟨k', hk', o, ho⟩ => hb b ⟨k', List.mem_cons_of_mem _ hk', o, ho⟩)
        refine .ip (fun j => (arr[off + j]?).getD undef) (hb (C.ρ k) ⟨k, by simp, _, hk, rfl⟩) rfl (fun j p hp => ?_) (fun j p hp => ?_)
        · rw [boxPV_cells] at hp
          obtain ⟨u, hu, _⟩ := hreps.get hp
          have hu' : arr[off + j]? = some u := by simpa using hu
          rw [hu', Addr.add_lit0]
          simp [World.cell?, ha, hu']
        · rw [boxPV_cells] at hp
          obtain ⟨u, hu, hur⟩ := hreps.get hp
          have hu' : arr[off + j]? = some u := by simpa using hu
          show Rep w B' ((arr[off + j]?).getD undef) p
          rw [hu']
          exact hur
      · cases ht
    | @fn f fs cs ps qs h1 h2 h3 h4 =>
      simp only [toPV] at ht
      split at ht
      · rename_i r t hr htt
        injection ht with ht; injection ht with e1 ht; injection ht with e2 e3
        subst e1; subst e2; subst e3
        have r1 := toPV_go_rep (B' := B') ih (vs := fs.toList) (by simpa using h1) (fun j v q hv hq => h3 j v q (by simpa using hv) hq) hr hp.1 (fun b ⟨k', hk', o, ho⟩ => hb b ⟨k', List.mem_append_left _ hk', o, ho⟩)
        have r2 := toPV_go_rep (B' := B') ih (vs := cs.toList) (by simpa using h2) (fun j v q hv hq => h4 j v q (by simpa using hv) hq) htt hp.2 (fun b ⟨k', hk', o, ho⟩ => hb b ⟨k', List.mem_append_right _ hk', o, ho⟩)
        exact .fn (by simpa using r1.1) (by simpa using r2.1) (fun j v p hv hp => r1.2 j v p (by simpa using hv) hp) (fun j v p hv hp => r2.2 j v p (by simpa using hv) hp)
      · cases ht
    | @agg cs ps h1 h2 =>
      simp only [toPV] at ht
      obtain ⟨r, hr, ht⟩ := Option.map_eq_some_iff.1 ht
      injection ht with e1 ht; injection ht with e2 e3
      subst e1; subst e2; subst e3
      have r1 := toPV_go_rep (B' := B') ih (vs := cs.toList) (by simpa using h1) (fun j v q hv hq => h2 j v q (by simpa using hv) hq) hr hp hb
      exact .agg (by simpa using r1.1) (fun j v p hv hp => r1.2 j v p (by simpa using hv) hp)
    | @lm k =>
      simp only [toPV] at ht
      split at ht
      · rename_i es fz hk
        injection ht with ht; injection ht with h1 ht; injection ht with h2 h3
        subst h1; subst h2; subst h3
        obtain ⟨ents, clock, k1, k2, k3⟩ := h.obj k _ hk
        exact .mp (hb (C.ρ k) ⟨k, by simp, _, hk, rfl⟩) k1 k2 (fun j m kv hm hkv => ((k3 j m kv hm hkv).1).mono hB fun _ _ => rfl) (fun j m kv hm hkv => ((k3 j m kv hm hkv).2).mono hB fun _ _ => rfl)
      · cases ht
    | _ => simp [toPV] at ht
theorem toPVs_rep (h : RelC X C g look tr stop a w) {vs : List Value} {qs : List LV} {pre : Prop} {ps : List PV} {ks : List Nat} (hr : RepsL w C look vs qs) (ht : toPVs look qs = some (pre, ps, ks)) (hp : pre) :
    Reps w (fun b => C.B b ∨ blksOf C look ks b) vs ps :=
  toPV_go_rep (fun {v q pre pv ks'} hq ht hp hb => toPV_rep h (fun _ hb => .inl hb) 4 hq ht hp hb) hr.1 (fun j v q hv hq => (hr.2 j v q hv hq).1) ht hp (fun _ hb => .inr hb)
mutual
def PV.flat : PV → Bool
  | .b _ | .i _ _ | .s _ | .nilsl | .nilp | .nilf | .any => true
  | .agg cs | .tup cs => flats cs
  | .sl _ _ | .ip _ _ | .fn _ _ _ | .mp _ => false
def flats : List PV → Bool
  | [] => true
  | v :: r => v.flat && flats r
end
theorem flats_get : ∀ {ps : List PV}, flats ps = true → ∀ (j : Nat) (p : PV), ps[j]? = some p → p.flat = true
  | [], _, j, p, hp => by simp at hp
  | v :: r, h, j, p, hp => by
    simp only [flats, Bool.and_eq_true] at h
    cases j with
    | zero => simp at hp; subst hp; exact h.1
    | succ j => exact flats_get h.2 j p (by simpa using hp)
theorem flat_rep {w w' : World} {B B' : Nat → Prop} {v : Value} {p : PV} (h : Rep w B v p) (hf : p.flat = true) : Rep w' B' v p := by
  induction h with
  | b x => exact .b x
  | i h => exact .i h
  | s h => exact .s h
  | agg h1 _ ih => exact .agg h1 fun j v p hv hp => ih j v p hv hp (flats_get (by simpa [PV.flat] using hf) j p hp)
  | tup h1 _ ih => exact .tup h1 fun j v p hv hp => ih j v p hv hp (flats_get (by simpa [PV.flat] using hf) j p hp)
  | nilsl => exact .nilsl
  | sl0 => simp [PV.flat] at hf
  | sl => simp [PV.flat] at hf
  | nilp => exact .nilp
  | ip => simp [PV.flat] at hf
  | fn => simp [PV.flat] at hf
  | nilf => exact .nilf
  | mp0 => simp [PV.flat] at hf
  | mp => simp [PV.flat] at hf
  | any v => exact .any v
end
end Go.Proofs.YtcfbdeghmckelaaGreat
namespace Go.Proofs.YtcfbdeghmckelaaGreat
open Go.RowKit
mutual
def LV.ren (m : Nat → Nat) : LV → LV
  | .p v => .p v
  | .g c q => .g c (q.ren m)
  | .lp k o => .lp (m k) o
  | .row k n => .row (m k) n
  | .ep k n i o => .ep (m k) n i o
  | .it k => .it (m k)
  | .lm k => .lm (m k)
  | .fn f a b => .fn f (rens m a) (rens m b)
  | .agg cs => .agg (rens m cs)
  | .yield => .yield
  | .any => .any
def rens (m : Nat → Nat) : List LV → List LV
  | [] => []
  | q :: r => q.ren m :: rens m r
end
theorem rens_map (m : Nat → Nat) : ∀ l : List LV, rens m l = l.map (·.ren m)
  | [] => rfl
  | q :: r => by rw [rens, rens_map m r]; rfl
def LObj.ren (m : Nat → Nat) : LObj → LObj
  | .box cs fz => .box (rens m cs) fz
  | .row e sz xs fz => .row e sz xs fz
  | .sit s pos => .sit s pos
  | .mp es fz => .mp es fz
theorem LObj.ren_frozen (m : Nat → Nat) (o : LObj) : (o.ren m).frozen = o.frozen := by cases o <;> rfl
def Tied (C1 : Ctx) (j : Nat) (C0 : Ctx) (k : Nat) : LObj → Prop
  | .row .. => C1.cur j = C0.cur k
  | _ => C1.ρ j = C0.ρ k
theorem Tied.blk {C1 C0 : Ctx} {j k : Nat} {o : LObj} {m : Nat → Nat} (h : Tied C1 j C0 k o) : blk C1 j (o.ren m) = blk C0 k o := by
  cases o <;> simp only [Tied, LObj.ren, Go.Proofs.YtcfbdeghmckelaaGreat.blk] at h ⊢ <;> rw [h]
section
variable {w : World} {C C0 C1 : Ctx} {l l' : Nat → Option LObj} {m : Nat → Nat}
theorem LV.Sc.ren (hl : ∀ k o, l k = some o → l' (m k) = some (o.ren m)) {q : LV} (h : LV.Sc l q) : LV.Sc l' (q.ren m) := by
  induction h with
  | p v => exact .p v
  | g _ ih => exact .g ih
  | lp hk => exact .lp (hl _ _ hk)
  | row hk hn => exact .row (hl _ _ hk) hn
  | ep hk hn => exact .ep (hl _ _ hk) hn
  | it hk => exact .it (hl _ _ hk)
  | lm hk => exact .lm (hl _ _ hk)
  | fn _ _ ih1 ih2 =>
    refine .fn (fun j q hq => ?_) (fun j q hq => ?_)
    · rw [rens_map, List.getElem?_map, Option.map_eq_some_iff] at hq
      obtain ⟨p, hp, rfl⟩ := hq; exact ih1 j p hp
    · rw [rens_map, List.getElem?_map, Option.map_eq_some_iff] at hq
      obtain ⟨p, hp, rfl⟩ := hq; exact ih2 j p hp
  | agg _ ih =>
    refine .agg fun j q hq => ?_
    rw [rens_map, List.getElem?_map, Option.map_eq_some_iff] at hq
    obtain ⟨p, hp, rfl⟩ := hq; exact ih j p hp
  | yield => exact .yield
  | any => exact .any
theorem RepL.ren (hl : ∀ k o, l k = some o → l' (m k) = some (o.ren m)) (hB : ∀ b, C0.B b → C1.B b) (hy : C1.y = C0.y) (ht : ∀ k o, l k = some o → Tied C1 (m k) C0 k o) {v : Value} {q : LV} (hs : LV.Sc l q) (h : RepL w C0 l v q) : RepL w C1 l' v (q.ren m) := by
  induction h with
  | p h => exact .p (h.mono hB fun _ _ => rfl)
  | g _ h2 ih => cases hs with | g hs' => exact .g (fun hc => ih hc (hs' hc)) h2
  | @lp k off => cases hs with | lp hk => rw [← show C1.ρ (m k) = C0.ρ k from ht _ _ hk]; exact .lp
  | @row v k n h =>
    cases hs with
    | row hk hn =>
      refine .row fun e sz xs fz hk' hx => ?_
      rw [hl _ _ hk] at hk'; injection hk' with hk'; simp only [LObj.ren, LObj.row.injEq] at hk'
      obtain ⟨rfl, rfl, rfl, rfl⟩ := hk'
      rw [h _ _ _ _ hk hx]; exact (ht _ _ hk).symm
  | @ep v k n i off h =>
    cases hs with
    | ep hk hn =>
      refine .ep fun e sz xs fz hk' hx => ?_
      rw [hl _ _ hk] at hk'; injection hk' with hk'; simp only [LObj.ren, LObj.row.injEq] at hk'
      obtain ⟨rfl, rfl, rfl, rfl⟩ := hk'
      obtain ⟨b, h1, h2⟩ := h _ _ _ _ hk hx
      exact ⟨b, by rw [show C1.cur (m k) = C0.cur k from ht _ _ hk]; exact h1, h2⟩
  | @it k => cases hs with | it hk => rw [← show C1.ρ (m k) = C0.ρ k from ht _ _ hk]; exact .it
  | @lm k => cases hs with | lm hk => rw [← show C1.ρ (m k) = C0.ρ k from ht _ _ hk]; exact .lm
  | fn h1 h2 _ _ ih1 ih2 =>
    cases hs with
    | fn s1 s2 =>
      refine .fn (by rw [rens_map, List.length_map]; exact h1) (by rw [rens_map, List.length_map]; exact h2) (fun j v p hv hp => ?_) (fun j v p hv hp => ?_)
      · rw [rens_map, List.getElem?_map, Option.map_eq_some_iff] at hp
        obtain ⟨q, hq, rfl⟩ := hp; exact ih1 j v q hv hq (s1 j q hq)
      · rw [rens_map, List.getElem?_map, Option.map_eq_some_iff] at hp
        obtain ⟨q, hq, rfl⟩ := hp; exact ih2 j v q hv hq (s2 j q hq)
  | agg h1 _ ih =>
    cases hs with
    | agg s1 =>
      refine .agg (by rw [rens_map, List.length_map]; exact h1) fun j v p hv hp => ?_
      rw [rens_map, List.getElem?_map, Option.map_eq_some_iff] at hp
      obtain ⟨q, hq, rfl⟩ := hp; exact ih j v q hv hq (s1 j q hq)
  | yield => rw [← hy]; exact .yield
  | any v => exact .any v
theorem ObjRel.ren (hl : ∀ k o, l k = some o → l' (m k) = some (o.ren m)) (hB : ∀ b, C0.B b → C1.B b) (hy : C1.y = C0.y) (ht : ∀ k o, l k = some o → Tied C1 (m k) C0 k o) {k : Nat} {o : LObj} (hk : l k = some o) (hs : LObj.Sc l o) (h : ObjRel w C0 l k o) : ObjRel w C1 l' (m k) (o.ren m) := by
  have hk1 := ht k o hk
  cases o with
  | box cs fz =>
    obtain ⟨arr, ty, h1, h2, h3⟩ := h
    refine ⟨arr, ty, by rw [show C1.ρ (m k) = C0.ρ k from hk1]; exact h1, by rw [rens_map, List.length_map]; exact h2, fun j v q hv hq => ?_⟩
    rw [rens_map, List.getElem?_map, Option.map_eq_some_iff] at hq
    obtain ⟨p, hp, rfl⟩ := hq
    exact (h3 j v p hv hp).ren hl hB hy ht (hs j p hp)
  | row e sz xs fz =>
    obtain ⟨us, h1, h2, h3⟩ := h
    exact ⟨us, by rw [show C1.cur (m k) = C0.cur k from hk1]; exact h1, h2.mono hB fun _ _ => rfl, h3⟩
  | sit s pos => show w.heap[C1.ρ (m k)]? = _; rw [show C1.ρ (m k) = C0.ρ k from hk1]; exact h
  | mp es fz =>
    obtain ⟨ents, clock, h1, h2, h3⟩ := h
    exact ⟨ents, clock, by rw [show C1.ρ (m k) = C0.ρ k from hk1]; exact h1, h2, fun j x kv hm hkv => ⟨(h3 j x kv hm hkv).1.mono hB fun _ _ => rfl, (h3 j x kv hm hkv).2.mono hB fun _ _ => rfl⟩⟩
def Ctx.pull (C : Ctx) (m : Nat → Nat) : Ctx := { C with ρ := fun k => C.ρ (m k), cur := fun k => C.cur (m k) }
theorem repL_unren (hl : ∀ k o, l k = some o → l' (m k) = some (o.ren m)) : ∀ (n : Nat) (q : LV), SizeOf.sizeOf q ≤ n → ∀ {v : Value}, RepL w C l' v (q.ren m) → RepL w (C.pull m) l v q
  | 0, q, hn, v, h => by cases q <;> simp at hn <;> omega
  | n + 1, q, hn, v, h => by
    have sub : ∀ {cs : List LV} {j : Nat} {p : LV}, SizeOf.sizeOf cs ≤ n → cs[j]? = some p → SizeOf.sizeOf p ≤ n := fun {cs j p} hc hp => by
      have := List.sizeOf_lt_of_mem (List.mem_of_getElem? hp); omega
    cases q with
    | p x => cases h with | p h => exact .p h
    | g c q => simp at hn; cases h with | g h1 h2 => exact .g (fun hc => repL_unren hl n q (by omega) (h1 hc)) h2
    | lp k o => cases h; exact .lp
    | row k j => cases h with | row h => exact .row fun e sz xs fz hk hx => h e sz xs fz (hl _ _ hk) hx
    | ep k j i o => cases h with | ep h => exact .ep fun e sz xs fz hk hx => h e sz xs fz (hl _ _ hk) hx
    | it k => cases h; exact .it
    | lm k => cases h; exact .lm
    | fn f a b =>
      simp at hn
      cases h with
      | fn h1 h2 h3 h4 =>
        refine .fn (by rw [h1, rens_map, List.length_map]) (by rw [h2, rens_map, List.length_map]) (fun j v p hv hp => ?_) (fun j v p hv hp => ?_)
        · exact repL_unren hl n p (sub (by omega) hp) (h3 j v _ hv (by rw [rens_map, List.getElem?_map, hp]; rfl))
        · exact repL_unren hl n p (sub (by omega) hp) (h4 j v _ hv (by rw [rens_map, List.getElem?_map, hp]; rfl))
    | agg cs =>
      simp at hn
      cases h with
      | agg h1 h2 =>
        exact .agg (by rw [h1, rens_map, List.length_map]) fun j v p hv hp => repL_unren hl n p (sub (by omega) hp) (h2 j v _ hv (by rw [rens_map, List.getElem?_map, hp]; rfl))
    | yield => cases h; exact .yield
    | any => exact .any v
theorem objRel_unren (hl : ∀ k o, l k = some o → l' (m k) = some (o.ren m)) {k : Nat} {o : LObj} (h : ObjRel w C l' (m k) (o.ren m)) : ObjRel w (C.pull m) l k o := by
  cases o with
  | box cs fz =>
    obtain ⟨arr, ty, h1, h2, h3⟩ := h
    exact ⟨arr, ty, h1, by rw [h2, rens_map, List.length_map], fun j v q hv hq => repL_unren hl _ q (Nat.le_refl _) (h3 j v _ hv (by rw [rens_map, List.getElem?_map, hq]; rfl))⟩
  | row e sz xs fz => exact h
  | sit s pos => exact h
  | mp es fz => exact h
end
structure Frag (w : World) (C : Ctx) (obj : List (Nat × LObj)) : Prop where
  blt : ∀ b, C.B b → b < w.heap.size
  ob : ∀ k o, oget obj k = some o → ObjRel w C (oget obj) k o
  objs : ∀ k o, oget obj k = some o → LObj.Sc (oget obj) o
  fz : ∀ k o, oget obj k = some o → o.frozen = false
  sep : ∀ k o b, oget obj k = some o → blk C k o = some b → b < w.heap.size ∧ ¬ C.B b
  dis : ∀ k k' o o' b, k ≠ k' → oget obj k = some o → oget obj k' = some o' → blk C k o = some b → blk C k' o' = some b → False
def blkS (C : Ctx) (obj : List (Nat × LObj)) (b : Nat) : Prop := ∃ k o, oget obj k = some o ∧ blk C k o = some b
structure AEnd (w : World) (C : Ctx) (w' : World) (C' : Ctx) (obj obj' : List (Nat × LObj)) (u : Value) (res : LV) : Prop where
  kx : KeepX (blkS C obj) w w'
  fr : Frag w' C' obj'
  b1 : ∀ b, C.B b → C'.B b
  b2 : ∀ b, C'.B b → C.B b ∨ w.heap.size ≤ b
  y : C'.y = C.y
  fol : ∀ k o, oget obj k = some o → ∃ o', oget obj' k = some o' ∧ o.Follows o'
  tied : ∀ k o o', oget obj k = some o → oget obj' k = some o' → (∀ e sz xs f e' sz' xs' f', o = .row e sz xs f → o' = .row e' sz' xs' f' → xs'.length = xs.length) → Tied C' k C k o'
  bk : ∀ k o b, oget obj' k = some o → blk C' k o = some b → blkS C obj b ∨ w.heap.size ≤ b
  rp : RepL w' C' (oget obj') u res
  scr : LV.Sc (oget obj') res
def Acts (P : Program) (f : FuncId) (args : List LV) (obj : List (Nat × LObj)) (res : LV) (obj' : List (Nat × LObj)) : Prop :=
  Callable P f ∧ (∀ k o, oget obj k = some o → LObj.Sc (oget obj) o ∧ o.frozen = false) ∧ (∀ k o, oget obj k = some o → ∃ o', oget obj' k = some o' ∧ o.Follows o') ∧ ∀ (w : World) (C : Ctx) (vs : List Value), Frag w C obj → vs.length = args.length → (∀ (j : Nat) (v : Value) (q : LV), vs[j]? = some v → args[j]? = some q → RepL w C (oget obj) v q) →
    Calls P f vs.toArray w fun e w' => ∃ u C', e = .returned u ∧ AEnd w C w' C' obj obj' u res
def renO (m : Nat → Nat) (obj : List (Nat × LObj)) : List (Nat × LObj) := obj.map fun x => (m x.1, x.2.ren m)
structure Lent (s : St) (m : Nat → Nat) (obj obj' : List (Nat × LObj)) : Prop where
  old : ∀ k o, oget obj k = some o → s.look (m k) = some (o.ren m)
  new : ∀ k o, oget obj' k = some o → oget obj k = none → s.look (m k) = none
  nd : (obj'.map fun x => m x.1).Nodup
theorem RelC.change {X : Fx} {C C1 : Ctx} {g : Nat → LV} {l l1 : Nat → Option LObj} {tr : List (List PV)} {stop : Bool} {a : Act} {w w' : World} (h : RelC X C g l tr stop a w) (L : Nat → Prop)
    (hfol : ∀ k o, l k = some o → ∃ o', l1 k = some o' ∧ o.Follows o') (hout : ∀ k, ¬ L k → l1 k = l k) (hun : ∀ k o, L k → l k = some o → o.frozen = false) (hun' : ∀ k o, L k → l1 k = some o → o.frozen = false)
    (hB : ∀ b, C.B b → C1.B b) (hB' : ∀ b, C1.B b → C.B b ∨ w.heap.size ≤ b) (hBl : ∀ b, C1.B b → b < w'.heap.size)
    (hy : C1.y = C.y) (hn : C1.n = C.n) (hdp : C1.dep = C.dep) (how : C1.own = C.own) (hρ : ∀ k o, l k = some o → C1.ρ k = C.ρ k) (hc : ∀ k, ¬ L k → C1.cur k = C.cur k)
    (hcd : ∀ k e sz xs xs' f f', L k → l k = some (.row e sz xs f) → l1 k = some (.row e sz xs' f') → xs'.length = xs.length → C1.cur k = C.cur k)
    (hw : KeepX (fun b => ∃ k o, L k ∧ l k = some o ∧ blk C k o = some b) w w')
    (ho : ∀ k o, L k → l1 k = some o → ObjRel w' C1 l1 k o ∧ LObj.Sc l1 o)
    (hbk : ∀ k o b, L k → l1 k = some o → blk C1 k o = some b → b < w'.heap.size ∧ ¬ C1.B b ∧ ((∃ k0 o0, L k0 ∧ l k0 = some o0 ∧ blk C k0 o0 = some b) ∨ w.heap.size ≤ b))
    (hdis : ∀ k k' o o' b, k ≠ k' → L k → L k' → l1 k = some o → l1 k' = some o' → blk C1 k o = some b → blk C1 k' o' = some b → False) : RelC X C1 g l1 tr stop a w' := by
  have hsz := hw.size
  have hother : ∀ b, b < w.heap.size → (∀ k o, L k → l k = some o → blk C k o = some b → False) → w'.heap[b]? = w.heap[b]? := fun b hb hne => hw.block b hb fun ⟨k, o, h1, h2, h3⟩ => hne k o h1 h2 h3
  have hrd : ∀ b, C.B b → w'.heap[b]? = w.heap[b]? := fun b hb => hother b (h.blt b hb) fun k o h1 h2 h3 => (h.sep k o b h2 h3).2.2.1 (hun k o h1 h2) hb
  have hr : ∀ k e sz xs fz, l k = some (.row e sz xs fz) → ∃ xs' fz', l1 k = some (.row e sz xs' fz') ∧ (xs'.length = xs.length → C1.cur k = C.cur k) ∧ xs.length ≤ xs'.length := by
    intro k e sz xs fz hk
    obtain ⟨o', h1, h2⟩ := hfol k _ hk
    cases o' <;> simp [LObj.Follows] at h2
    rename_i e' sz' xs' fz'
    obtain ⟨rfl, rfl, hlen⟩ := h2
    refine ⟨xs', fz', h1, fun hl => ?_, hlen⟩
    by_cases hL : L k
    · exact hcd k _ _ _ _ _ _ hL hk h1 hl
    · exact hc k hL
  have hsc : ∀ q, LV.Sc l q → LV.Sc l1 q := fun q hq => hq.follows hfol
  have hblk : ∀ k x, ¬ L k → l k = some x → blk C1 k x = blk C k x := fun k x hL hk => by cases x <;> simp only [blk] <;> first | rw [hρ k _ hk] | rw [hc k hL]
  have old : ∀ {k x}, ¬ L k → l1 k = some x → l k = some x := fun {k x} hL hk => by rw [← hout k hL]; exact hk
  have alone : ∀ {k x b}, ¬ L k → l k = some x → blk C k x = some b → (∀ k' o', L k' → l1 k' = some o' → blk C1 k' o' = some b → False) := fun {k x b} hL hk hb k' o' hL' hk' hb' => by
    rcases (hbk k' o' b hL' hk' hb').2.2 with ⟨k0, o0, g1, g2, g3⟩ | g
    · exact h.dis k k0 x o0 b (fun e => hL (e ▸ g1)) hk g2 hb g3
    · have := (h.sep k x b hk hb).2.1; omega
  exact {
    kx := ⟨hw.os.trans h.kx.os, hw.tape.trans h.kx.tape, hw.output.trans h.kx.output, Nat.le_trans h.kx.size hsz, fun b hb hm => (hother b (Nat.lt_of_lt_of_le hb h.kx.size) fun k o h1 h2 h3 => by
      rcases (h.sep k o b h2 h3).1 (hun k o h1 h2) with g | g
      · omega
      · exact hm (.inl g)).trans (h.kx.block b hb hm)⟩
    yy := hy.trans h.yy
    b0 := fun b hb => hB b (h.b0 b hb)
    blt := hBl
    bold := fun b hb hlt => (hB' b hb).elim (fun hb => h.bold b hb hlt) fun hb => by have := h.kx.size; omega
    borg := fun b hb => (hB' b hb).elim (h.borg b) fun hb => .inr (by have := h.kx.size; have := h.no0; omega)
    no0 := h.no0
    tsz := h.tsz
    ngb := h.ngb
    env := fun t => (h.env t).same hB hy hrd hρ hr (h.envs t)
    envs := fun t => hsc _ (h.envs t)
    obj := fun k x hk => by
      by_cases e : L k
      · exact (ho k x e hk).1
      · have hk0 := old e hk
        exact (h.obj k x hk0).same hB hy hrd hρ hr hk0 (h.objs k x hk0) (hc k e) (fun b hb => hother b (h.sep k x b hk0 hb).2.1 fun k' o' h1 h2 h3 => h.dis k k' x o' b (fun e' => e (e' ▸ h1)) hk0 h2 hb h3)
    objs := fun k x hk => by
      by_cases e : L k
      · exact (ho k x e hk).2
      · have := h.objs k x (old e hk)
        cases x <;> simp only [LObj.Sc] at this ⊢
        exact fun j q hq => hsc q (this j q hq)
    sep := fun k x b hk hb => by
      by_cases e : L k
      · obtain ⟨g1, g2, g3⟩ := hbk k x b e hk hb
        refine ⟨fun _ => ?_, g1, fun _ => g2, fun hf => by rw [hun' k x e hk] at hf; cases hf⟩
        rcases g3 with ⟨k0, o0, f1, f2, f3⟩ | g3
        · exact (h.sep k0 o0 b f2 f3).1 (hun k0 o0 f1 f2)
        · exact .inl (by have := h.kx.size; omega)
      · have hk0 := old e hk
        rw [hblk k x e hk0] at hb
        obtain ⟨h1, h2, h3, h4⟩ := h.sep k x b hk0 hb
        exact ⟨h1, by omega, fun hf hb1 => (hB' b hb1).elim (h3 hf) fun hb2 => by omega, fun hf => hB b (h4 hf)⟩
    dis := fun k k' x x' b hkk hk hk' hb hb' => by
      by_cases e : L k
      · by_cases e' : L k'
        · exact hdis k k' x x' b hkk e e' hk hk' hb hb'
        · have hk0 := old e' hk'
          rw [hblk k' x' e' hk0] at hb'
          exact alone e' hk0 hb' k x e hk hb
      · have hk0 := old e hk
        rw [hblk k x e hk0] at hb
        by_cases e' : L k'
        · exact alone e hk0 hb k' x' e' hk' hb'
        · have hk1 := old e' hk'
          rw [hblk k' x' e' hk1] at hb'
          exact h.dis k k' x x' b hkk hk0 hk1 hb hb'
    marks := h.marks.same fun r hlt _ hnb hnd hno => ⟨hother r hlt fun k o _ h2 h3 => hno k o h2 h3, fun hb => (hB' r hb).elim hnb fun hb => by omega, by rw [hdp]; exact hnd, fun k x hk hb => by
      by_cases e : L k
      · rcases (hbk k x r e hk hb).2.2 with ⟨k0, o0, _, g2, g3⟩ | g
        · exact hno k0 o0 g2 g3
        · omega
      · have hk0 := old e hk
        rw [hblk k x e hk0] at hb
        exact hno k x hk0 hb⟩
    nle := by rw [hn]; exact Nat.le_trans h.nle hsz
    dn := by rw [hn, hdp]; exact h.dn
    nn := fun k x b hk hb hfz => by
      rw [hdp]
      by_cases e : L k
      · rcases (hbk k x b e hk hb).2.2 with ⟨k0, o0, g1, g2, g3⟩ | g
        · exact h.nn k0 o0 b g2 g3 (hun k0 o0 g1 g2)
        · exact fun hd => by have := h.nle; have := h.dn b hd; omega
      · have hk0 := old e hk
        rw [hblk k x e hk0] at hb
        exact h.nn k x b hk0 hb hfz
    ow := fun b hb => by
      rw [how] at hb
      obtain ⟨g1, g2⟩ := h.ow b hb
      exact ⟨fun hb1 => (hB' b hb1).elim g1 fun hb2 => by have := h.nle; have := h.dn b g2; omega, by rw [hdp]; exact g2⟩
    oold := by rw [how]; exact h.oold
    dold := fun b hb => by rw [hdp] at hb; exact (h.dold b hb).imp id (Or.imp id (hB b))
    jj := by
      rw [hdp, how]
      refine h.jj.imp id fun ⟨wy, h2, h3⟩ => ⟨wy, h2, h3.trans ⟨hw.os, hw.tape, hw.output, hsz, fun b hb => hother b (Nat.lt_of_lt_of_le (h.dn b hb) h.nle) fun k o g1 g2 g3 => h.nn k o b g2 g3 (hun k o g1 g2) hb⟩⟩ }
end Go.Proofs.YtcfbdeghmckelaaGreat
namespace Go.Proofs.YtcfbdeghmckelaaGreat
open Go.RowKit
def wideR (ro : Option Nat) : Fence := { Fence.wide with round := ro }
def rawIns (s : St) (l : List AOpd) : List LV := l.map (·.ev s)
def uns (l : List LV) : List LV := l.map LV.un
def fin (gd : Option (Nat × Bool)) (c : Bool) (v : LV) : LV :=
  match gd with
  | none => v
  | some _ => v.under c
def St.wrs (s : St) : List (Nat × LObj) → St
  | [] => s
  | (k, o) :: r => (s.wr k o).wrs r
def frzs (look : Nat → Option LObj) : List Nat → List (Nat × LObj)
  | [] => []
  | k :: r => match look k with
    | some o => (k, o.freeze) :: frzs look r
    | none => frzs look r
inductive OpSem (P : Program) (s : St) (o : RO) : LV → List (Nat × LObj) → Prop
  | mv {x : AOpd} {c : Bool} : o.op = .mv → o.args = [x] → gOf s o.guard = some c → OpSem P s o (fin o.guard c (x.ev s)) []
  | pick {x y z : AOpd} {c : Bool} {pre : Prop} {v : PV} : o.op = .pick → o.args = [x, y, z] → gOf s o.guard = some c → pickL (x.ev s) (y.ev s) (z.ev s) = some (pre, v) → (c = true → (x.ev s).cnd = true ∧ pre) → OpSem P s o (fin o.guard c (.p v)) []
  | ev {c : Bool} {pre : Prop} {eff : Eff} : gOf s o.guard = some c → evalOp (o.dst.getD 0) s.look o.op (uns (rawIns s o.args)) = some (pre, eff) → (c = true → cnds (rawIns s o.args) = true ∧ pre) → (eff.wr.isSome = true → c = true) →
      (eff.nw = true → s.look (o.dst.getD 0) = none) → OpSem P s o (fin o.guard c eff.val) eff.wr.toList
  | callA {c : Bool} {f : Nat} {pre : Prop} {vs : List PV} {ks : List Nat} {r : PV} : o.op = .call f → gOf s o.guard = some c → toPVs s.look (uns (rawIns s o.args)) = some (pre, vs, ks) → (c = true → cnds (rawIns s o.args) = true ∧ pre ∧ Pure P f vs r) → (r.flat = true ∨ ks = []) →
      OpSem P s o (fin o.guard c (.p r)) []
  | callB {f : Nat} {pre : Prop} {vs : List PV} {ks : List Nat} {r : PV} : o.op = .call f → gOf s o.guard = some true → toPVs s.look (uns (rawIns s o.args)) = some (pre, vs, ks) → cnds (rawIns s o.args) = true → pre → Pure P f vs r →
      OpSem P s o (fin o.guard true (.p r)) (frzs s.look ks)
  | callV {c : Bool} {f : Nat} {pre : Prop} {fs cs vs : List PV} {ks : List Nat} {r : PV} : o.op = .callv → gOf s o.guard = some c → toPVs s.look (uns (rawIns s o.args)) = some (pre, .fn (.func f) fs cs :: vs, ks) →
      (c = true → cnds (rawIns s o.args) = true ∧ pre ∧ Pure P f (fs ++ vs ++ cs) r) → (r.flat = true ∨ ks = []) → OpSem P s o (fin o.guard c (.p r)) []
  | callVB {f : Nat} {pre : Prop} {fs cs vs : List PV} {ks : List Nat} {r : PV} : o.op = .callv → gOf s o.guard = some true → toPVs s.look (uns (rawIns s o.args)) = some (pre, .fn (.func f) fs cs :: vs, ks) → cnds (rawIns s o.args) = true → pre → Pure P f (fs ++ vs ++ cs) r →
      OpSem P s o (fin o.guard true (.p r)) (frzs s.look ks)
  | callS {f : Nat} {m : Nat → Nat} {args : List LV} {obj obj' : List (Nat × LObj)} {r : LV} : o.op = .call f → gOf s o.guard = some true → uns (rawIns s o.args) = rens m args → cnds (rawIns s o.args) = true → Acts P f args obj r obj' → Lent s m obj obj' →
      OpSem P s o (fin o.guard true (r.ren m)) (renO m obj')
  | callSV {f : Nat} {m : Nat → Nat} {fs cs vs args : List LV} {obj obj' : List (Nat × LObj)} {r : LV} : o.op = .callv → gOf s o.guard = some true → uns (rawIns s o.args) = .fn (.func f) fs cs :: vs → fs ++ vs ++ cs = rens m args → cnds (rawIns s o.args) = true → Acts P f args obj r obj' → Lent s m obj obj' →
      OpSem P s o (fin o.guard true (r.ren m)) (renO m obj')
  | callN {q : LV} : gOf s o.guard = some false → OpSem P s o (fin o.guard false q) []
structure Rnd (D O Bi D' O' : Nat → Prop) (W W' : World) : Prop where
  kx : KeepX O W W'
  d1 : ∀ b, D' b → D b ∨ W.heap.size ≤ b ∨ Bi b
  d2 : ∀ b, D' b → b < W'.heap.size
  o1 : ∀ b, O' b → O b ∨ W.heap.size ≤ b
  o2 : ∀ b, O' b → D' b
def YieldsAt (P : Program) (y : Nat) (Bo : Nat → Prop) (no : Nat) (J : List (List PV) → (Nat → Prop) → (Nat → Prop) → World → Prop) (Jx : List (List PV) → (Nat → Prop) → World → Prop) (ts : List (List PV)) : Prop :=
  ∀ (pre : List (List PV)) (t : List PV) (post : List (List PV)) (D O : Nat → Prop) (W : World) (Bi : Nat → Prop) (args : List Value), ts = pre ++ t :: post → J pre D O W → (∀ b, Bi b → b < W.heap.size ∧ ¬ O b ∧ (Bo b ∨ no ≤ b)) → Reps W Bi args t →
    YieldAt Fence.wide 0 P y args.toArray W fun e W' => ∃ bb : Bool, e = .returned (.bool bb) ∧ if bb = true then ∃ D' O', J (pre ++ [t]) D' O' W' ∧ Rnd D O Bi D' O' W W' else ∃ D', Jx (pre ++ [t]) D' W' ∧ Rnd D O Bi D' (fun _ => False) W W'
def YieldsOk (P : Program) (X : Fx) (ts : List (List PV)) : Prop := YieldsAt P X.y X.Bo X.no X.J X.Jx ts
structure JClosed (J : List (List PV) → (Nat → Prop) → (Nat → Prop) → World → Prop) (Jx : List (List PV) → (Nat → Prop) → World → Prop) : Prop where
  j : ∀ t D O w w', J t D O w → Kept D w w' → J t D O w'
  jx : ∀ t D w w', Jx t D w → Kept D w w' → Jx t D w'
theorem comp_mv {P : Program} {oper : Oper} {l : List AOpd} (h : comp P oper = some (.mv, l)) : ∃ x x', (oper.op = .move x ∨ oper.op = .assign x) ∧ l = [x'] ∧ aopd x = some x' := by
  unfold comp at h
  split at h
  all_goals first
    | (obtain ⟨x', h1, e⟩ := Option.map_eq_some_iff.1 h; injection e with e1 e2; cases e1; done)
    | (obtain ⟨x', h1, e⟩ := Option.map_eq_some_iff.1 h; injection e with e1 e2; exact ⟨_, x', .inl ‹_›, e2.symm, h1⟩)
    | (obtain ⟨x', h1, e⟩ := Option.map_eq_some_iff.1 h; injection e with e1 e2; exact ⟨_, x', .inr ‹_›, e2.symm, h1⟩)
    | skip
  all_goals (repeat' split at h)
  all_goals (try (rw [Option.bind_eq_some_iff] at h; obtain ⟨_, _, h⟩ := h))
  all_goals (try (rw [Option.bind_eq_some_iff] at h; obtain ⟨_, _, h⟩ := h))
  all_goals (repeat' split at h)
  all_goals (simp at h)
theorem comp_pick {P : Program} {oper : Oper} {l : List AOpd} (h : comp P oper = some (.pick, l)) : ∃ x y z, oper.op = .pick x y z ∧ aopds [x, y, z] = some l := by
  unfold comp at h
  split at h
  all_goals first
    | (obtain ⟨x', h1, e⟩ := Option.map_eq_some_iff.1 h; injection e with e1 e2; cases e1; done)
    | (obtain ⟨x', h1, e⟩ := Option.map_eq_some_iff.1 h; injection e with e1 e2; subst e2; exact ⟨_, _, _, ‹_›, h1⟩)
    | skip
  all_goals (repeat' split at h)
  all_goals (try (rw [Option.bind_eq_some_iff] at h; obtain ⟨_, _, h⟩ := h))
  all_goals (try (rw [Option.bind_eq_some_iff] at h; obtain ⟨_, _, h⟩ := h))
  all_goals (repeat' split at h)
  all_goals (simp at h)
theorem comp_call {P : Program} {oper : Oper} {f : Nat} {l : List AOpd} (h : comp P oper = some (.call f, l)) : ∃ args ts, oper.op = .call { callee := .value (.func f), args := args, argTypes := ts } ∧ aopds args.toList = some l := by
  unfold comp at h
  split at h
  all_goals first
    | (obtain ⟨x', h1, e⟩ := Option.map_eq_some_iff.1 h; injection e with e1 e2; cases e1; done)
    | (obtain ⟨x', h1, e⟩ := Option.map_eq_some_iff.1 h; injection e with e1 e2; injection e1 with e1; subst e1; subst e2; exact ⟨_, _, ‹_›, h1⟩)
    | skip
  all_goals (repeat' split at h)
  all_goals (try (rw [Option.bind_eq_some_iff] at h; obtain ⟨_, _, h⟩ := h))
  all_goals (try (rw [Option.bind_eq_some_iff] at h; obtain ⟨_, _, h⟩ := h))
  all_goals (repeat' split at h)
  all_goals (simp at h)
theorem comp_callv {P : Program} {oper : Oper} {l : List AOpd} (h : comp P oper = some (.callv, l)) : ∃ t args ts, oper.op = .call { callee := .value (.tmp t), args := args, argTypes := ts } ∧ aopds (.tmp t :: args.toList) = some l := by
  unfold comp at h
  split at h
  all_goals first
    | (obtain ⟨x', h1, e⟩ := Option.map_eq_some_iff.1 h; injection e with e1 e2; cases e1; done)
    | (obtain ⟨x', h1, e⟩ := Option.map_eq_some_iff.1 h; injection e with e1 e2; subst e2; exact ⟨_, _, _, ‹_›, h1⟩)
    | skip
  all_goals (repeat' split at h)
  all_goals (try (rw [Option.bind_eq_some_iff] at h; obtain ⟨_, _, h⟩ := h))
  all_goals (try (rw [Option.bind_eq_some_iff] at h; obtain ⟨_, _, h⟩ := h))
  all_goals (repeat' split at h)
  all_goals (simp at h)
theorem comp_nodefer {P : Program} {oper : Oper} {r : AOp × List AOpd} (h : comp P oper = some r) : ∀ c, oper.op ≠ .defer c := by
  intro c hc
  simp [comp, hc] at h
structure ROk (P : Program) (N : Nat) (ops : Array Oper) (oper : Oper) (o : RO) : Prop where
  hdst : ∀ d, oper.dst = some d → d < N
  hd : o.dst = oper.dst
  hc : comp P oper = some (o.op, o.args)
  hg : (oper.guard = none ∧ o.guard = none) ∨ ∃ j b t, oper.guard = some (j, b) ∧ (ops[j]?).bind (·.dst) = some t ∧ o.guard = some (t, b) ∧ t < GB
  ha : o.after = oper.after.toList.filterMap fun e => if Region.binds .any e then some e.on else none
theorem compRO_ok {P : Program} {N : Nat} {ops : Array Oper} {oper : Oper} {o : RO} (h : compRO P N ops oper = some o) : ROk P N ops oper o := by
  unfold compRO at h
  split at h
  · rename_i hall
    have hd : ∀ d, oper.dst = some d → d < N := fun d hd => by rw [hd] at hall; simpa using hall
    split at h
    · rename_i op args hc
      dsimp only at h
      split at h
      · rename_i hg
        injection h with h; subst h
        exact ⟨hd, rfl, hc, .inl ⟨hg, rfl⟩, rfl⟩
      · rename_i j b hg
        split at h
        · rename_i t ht
          split at h
          · rename_i hgb
            injection h with h; subst h
            exact ⟨hd, rfl, hc, .inr ⟨j, b, t, hg, ht, rfl, hgb⟩, rfl⟩
          · cases h
        · cases h
    · cases h
  · cases h
section
variable {X : Fx} {C : Ctx} {g : Nat → LV} {look : Nat → Option LObj} {tr : List (List PV)} {stop : Bool} {a : Act} {w : World} {P : Program} {N : Nat} {ops : Array Oper} {oper : Oper} {o : RO} {s : St}
theorem look_wrs (s : St) : ∀ (wr : Option (Nat × LObj)), (s.wrs wr.toList).look = wrL s.look wr
  | none => rfl
  | some (k, ob) => by funext t; simp only [Option.toList, St.wrs, St.look, St.wr, wrL, oget_oset]; rfl
theorem get_wrs : ∀ (wr : List (Nat × LObj)) (s : St), (s.wrs wr).get = s.get
  | [], _ => rfl
  | (k, ob) :: r, s => by rw [St.wrs, get_wrs r]; rfl
theorem get_set (s : St) (d : Option Nat) (v : LV) : (s.set d v).get = match d with | some d => upd s.get d v | none => s.get := by
  cases d with
  | none => rfl
  | some d => funext t; simp only [St.set, St.get, aget_cons]; rfl
theorem look_set (s : St) (d : Option Nat) (v : LV) : (s.set d v).look = s.look := by cases d <;> rfl
theorem tr_wrs : ∀ (wr : List (Nat × LObj)) (s : St), (s.wrs wr).tr = s.tr ∧ (s.wrs wr).stop = s.stop
  | [], _ => ⟨rfl, rfl⟩
  | (k, ob) :: r, s => by rw [St.wrs]; exact tr_wrs r _
theorem tr_set (s : St) (d : Option Nat) (v : LV) : (s.set d v).tr = s.tr ∧ (s.set d v).stop = s.stop := by cases d <;> exact ⟨rfl, rfl⟩
theorem aopd_eval (h : RelC X C g look tr stop a w) (hg : g = s.get) {x : Operand} {y : AOpd} (hx : aopd x = some y) : RepL w C look (a.eval x) (y.ev s) ∧ LV.Sc look (y.ev s) := by
  subst hg
  cases x with
  | tmp t =>
    simp only [aopd] at hx
    split at hx
    · rename_i ht
      injection hx with hx
      subst hx
      exact ⟨by have := h.env t; rw [valAt_lt ht] at this; exact this, h.envs t⟩
    · cases hx
  | const v =>
    simp only [aopd, Option.map_eq_some_iff] at hx
    obtain ⟨p, hp, rfl⟩ := hx
    exact ⟨.p (cval_rep hp w C.B), .p p⟩
  | func f =>
    simp only [aopd] at hx
    injection hx with hx
    subst hx
    exact ⟨.p (.fn rfl rfl (fun j v p hv => by simp at hv) (fun j v p hv => by simp at hv)), .p _⟩
  | global => simp [aopd] at hx
theorem un_ok {v : Value} {q : LV} (h : RepL w C look v q) (hs : LV.Sc look q) (hc : q.cnd = true) : RepL w C look v q.un ∧ LV.Sc look q.un := by
  induction h with
  | g h1 h2 ih =>
    simp only [LV.cnd, Bool.and_eq_true] at hc
    cases hs with
    | g hs' => exact ih hc.1 (hs' hc.1) hc.2
  | p h => exact ⟨.p h, .p _⟩
  | lp => exact ⟨.lp, hs⟩
  | row h => exact ⟨.row h, hs⟩
  | ep h => exact ⟨.ep h, hs⟩
  | it => exact ⟨.it, hs⟩
  | lm => exact ⟨.lm, hs⟩
  | fn h1 h2 h3 h4 => exact ⟨.fn h1 h2 h3 h4, hs⟩
  | agg h1 h2 => exact ⟨.agg h1 h2, hs⟩
  | yield => exact ⟨.yield, hs⟩
  | any => exact ⟨.any _, hs⟩
theorem cnds_get : ∀ {l : List LV}, cnds l = true → ∀ q ∈ l, q.cnd = true
  | [], _, q, hq => by cases hq
  | x :: r, h, q, hq => by
    simp only [cnds, Bool.and_eq_true] at h
    rcases List.mem_cons.1 hq with rfl | hq
    · exact h.1
    · exact cnds_get h.2 q hq
theorem insOk_of (h : RelC X C g look tr stop a w) (hg : g = s.get) {args : List AOpd} (hc : cnds (rawIns s args) = true) : InsOk w C look a args fun y => (y.ev s).un := by
  intro x y hx hy
  obtain ⟨h1, h2⟩ := aopd_eval h hg hx
  exact un_ok h1 h2 (cnds_get hc _ (List.mem_map_of_mem hy))
theorem under_ok {v : Value} {q : LV} (h : RepL w C look v q) : RepL w C look v (q.under true) := by
  cases q with
  | g c x => simp only [LV.under, Bool.true_and]; exact h
  | _ => exact .g (fun _ => h) (fun e => by cases e)
theorem under_sc {q : LV} {c : Bool} (h : LV.Sc look q) : LV.Sc look (q.under c) := by
  cases q with
  | g c' x => cases h with | g h => exact .g fun hc => h (by simp only [Bool.and_eq_true] at hc; exact hc.2)
  | _ => exact .g fun _ => h
theorem under_no {q : LV} : RepL w C look undef (q.under false) := by
  cases q with
  | g c x => simp only [LV.under, Bool.false_and]; exact .g (fun e => by cases e) (fun _ => rfl)
  | _ => exact .g (fun e => by cases e) (fun _ => rfl)
theorem under_no_sc {q : LV} : LV.Sc look (q.under false) := by
  cases q with
  | g c x => simp only [LV.under, Bool.false_and]; exact .g (fun e => by cases e)
  | _ => exact .g (fun e => by cases e)
theorem fin_ok {gd : Option (Nat × Bool)} {v : Value} {q : LV} (h : RepL w C look v q) (hs : LV.Sc look q) : RepL w C look v (fin gd true q) ∧ LV.Sc look (fin gd true q) := by
  cases gd with
  | none => exact ⟨h, hs⟩
  | some x => exact ⟨under_ok h, under_sc hs⟩
theorem wanted_of (h : RelC X C s.get look tr stop a w) (hr : ROk P N ops oper o) {c : Bool} (hc : gOf s o.guard = some c) : Region.wanted oper (yielded ops a.tmps) = c := by
  rcases hr.hg with ⟨h1, h2⟩ | ⟨j, b, t, h1, h2, h3, hgb⟩
  · rw [h2] at hc
    simp only [gOf] at hc
    injection hc with hc
    subst hc
    simp [Region.wanted, h1]
  · rw [h3] at hc
    have key : ∀ x, a.tmps.getD t undef = .bool x → Region.wanted oper (yielded ops a.tmps) = if b then x else !x := fun x hx => by
      have hx' : a.tmps[t]? = some (.bool x) := by
        rw [Array.getD_eq_getD_getElem?] at hx
        cases hq : a.tmps[t]? with
        | none => rw [hq] at hx; simp [undef] at hx
        | some v => rw [hq] at hx; simpa using hx
      simp only [Region.wanted, h1, yielded, h2, Option.bind_some, hx']
      cases b <;> cases x <;> rfl
    have key0 : a.tmps.getD t undef = undef → Region.wanted oper (yielded ops a.tmps) = false := fun hx => by
      have : yielded ops a.tmps j = none := by
        simp only [yielded, h2, Option.bind_some]
        rw [Array.getD_eq_getD_getElem?] at hx
        cases hq : a.tmps[t]? with
        | none => rfl
        | some v => rw [hq] at hx; simp only [Option.getD_some] at hx; subst hx; rfl
      simp [Region.wanted, h1, this]
    have he := h.env t
    rw [valAt_lt hgb] at he
    simp only [gOf] at hc
    split at hc
    · rename_i x hx
      rw [hx] at he
      injection hc with hc
      subst hc
      have := repl_p_inv he
      generalize hv : a.tmps.getD t undef = v at this
      cases this
      exact key x hv
    · rename_i c0 x hx
      rw [hx] at he
      injection hc with hc
      subst hc
      cases c0 with
      | true =>
        generalize hv : a.tmps.getD t undef = v at he
        cases he with
        | g h1 h2 =>
          have := repl_p_inv (h1 rfl)
          cases this
          simpa using key x hv
      | false =>
        generalize hv : a.tmps.getD t undef = v at he
        cases he with
        | g h1 h2 =>
          have := h2 rfl
          subst this
          simpa using key0 hv
    · cases hc
theorem put_dst (h : RelC X C s.get s.look tr stop a w) {d : Option Nat} {v : Value} {q : LV} (hd : ∀ k, d = some k → k < X.N) (hv : RepL w C s.look v q) (hs : LV.Sc s.look q) : RelC X C (s.set d q).get (s.set d q).look tr stop (a.put d v) w := by
  rw [get_set, look_set]
  cases d with
  | none => exact h
  | some d => exact h.put (hd d rfl) hv hs
theorem wpIn_value {ro : Option Nat} {K : Act → World → Prop} {Q : Exit → Act → World → Prop} {v : Value} {w' : World} (hnd : ∀ c, oper.op ≠ .defer c) (hr : OpRuns P oper a w v w') (hK : K (a.put oper.dst v) w') : oper.wpIn (wideR ro) 0 P a w K Q := by
  refine ⟨fun f _ => trivial, ?_⟩
  rw [Oper.semAt_eq _ _ _ hnd]
  rcases hr with hr | ⟨hr, rfl⟩
  · rw [hr]; exact hK
  · rw [hr]; exact hK
theorem wpIn_call {ro : Option Nat} {K : Act → World → Prop} {Q : Exit → Act → World → Prop} {f : Nat} {args : Array Operand} {ts : Array TypeId} (ho : oper.op = .call { callee := .value (.func f), args := args, argTypes := ts }) (hf : Callable P f)
    (hc : Calls P f (args.toList.map a.eval).toArray w fun e w' => ∃ u, e = .returned u ∧ K (a.put oper.dst u) w') : oper.wpIn (wideR ro) 0 P a w K Q := by
  refine ⟨fun f _ => trivial, ?_⟩
  rw [Oper.semAt_eq _ _ _ (by intro c; rw [ho]; exact fun e => by cases e)]
  obtain ⟨fn, c, h1, h2, h3⟩ := hf
  have hrun : (execOp a.eval oper).run P w = .ok (.enter f (args.toList.map a.eval).toArray) w := by
    have ha : args.map a.eval = (args.toList.map a.eval).toArray := by rw [← Array.toList_map]
    have h2' : ¬ fn.name = "runtime.NumGoroutine" := by simpa using h2
    simp [execOp, ho, resolve, Act.eval, Deferred.ofValue, invoke, callFunc, h1, h2', h3, ha]
  rw [hrun]
  refine ⟨fun h => by simp [wideR, Fence.wide] at h, ?_⟩
  have h4 : CallsIn Fence.wide (0 - 1) P f (args.toList.map a.eval).toArray w fun e w' => ∃ u, e = .returned u ∧ K (a.put oper.dst u) w' := callsIn_wide.2 hc
  have h5 := CallsIn.mono h4 (R' := fun
      | .returned v, w'' => K (a.put oper.dst v) w''
      | .panicked chain, w'' => Q (.panic chain) a w''
      | .outgrown, _ => LetsOut Q) (fun e w' he => by obtain ⟨u, rfl, hk⟩ := he; exact hk)
  exact h5
theorem wpIn_callv {ro : Option Nat} {K : Act → World → Prop} {Q : Exit → Act → World → Prop} {f : Nat} {t : Nat} {fs cs : Array Value} {args : Array Operand} {ts : Array TypeId} (ho : oper.op = .call { callee := .value (.tmp t), args := args, argTypes := ts }) (ht : a.eval (.tmp t) = .func (.func f) fs cs) (hf : Callable P f)
    (hc : Calls P f (fs.toList ++ args.toList.map a.eval ++ cs.toList).toArray w fun e w' => ∃ u, e = .returned u ∧ K (a.put oper.dst u) w') : oper.wpIn (wideR ro) 0 P a w K Q := by
  refine ⟨fun f _ => trivial, ?_⟩
  rw [Oper.semAt_eq _ _ _ (by intro c; rw [ho]; exact fun e => by cases e)]
  obtain ⟨fn, c, h1, h2, h3⟩ := hf
  have hrun : (execOp a.eval oper).run P w = .ok (.enter f (fs.toList ++ args.toList.map a.eval ++ cs.toList).toArray) w := by
    have ha : fs ++ args.map a.eval ++ cs = (fs.toList ++ args.toList.map a.eval ++ cs.toList).toArray := by simp
    have h2' : ¬ fn.name = "runtime.NumGoroutine" := by simpa using h2
    simp [execOp, ho, resolve, ht, Deferred.ofValue, invoke, callFunc, h1, h2', h3]
  rw [hrun]
  refine ⟨fun h => by simp [wideR, Fence.wide] at h, ?_⟩
  have h4 : CallsIn Fence.wide (0 - 1) P f (fs.toList ++ args.toList.map a.eval ++ cs.toList).toArray w fun e w' => ∃ u, e = .returned u ∧ K (a.put oper.dst u) w' := callsIn_wide.2 hc
  have h5 := CallsIn.mono h4 (R' := fun
      | .returned v, w'' => K (a.put oper.dst v) w''
      | .panicked chain, w'' => Q (.panic chain) a w''
      | .outgrown, _ => LetsOut Q) (fun e w' he => by obtain ⟨u, rfl, hk⟩ := he; exact hk)
  exact h5
theorem rep_fn {w : World} {B : Nat → Prop} {v : Value} {f : Fn} {ps qs : List PV} (h : Rep w B v (.fn f ps qs)) : ∃ fs cs : Array Value, v = .func f fs cs ∧ Reps w B fs.toList ps ∧ Reps w B cs.toList qs := by
  cases h with
  | @fn f fs cs ps qs h1 h2 h3 h4 => exact ⟨fs, cs, rfl, ⟨by simpa using h1, fun j v p hv hp => h3 j v p (by simpa using hv) hp⟩, ⟨by simpa using h2, fun j v p hv hp => h4 j v p (by simpa using hv) hp⟩⟩
end
end Go.Proofs.YtcfbdeghmckelaaGreat
namespace Go.Proofs.YtcfbdeghmckelaaGreat
open Go.RowKit
theorem oget_mem : ∀ {l : List (Nat × LObj)} {k : Nat} {o : LObj}, oget l k = some o → (k, o) ∈ l
  | [], _, _, h => by simp [oget] at h
  | (j, u) :: r, k, o, h => by
    simp only [oget] at h
    split at h
    · rename_i e; subst e; injection h with h; subst h; simp
    · exact List.mem_cons_of_mem _ (oget_mem h)
theorem wrs_at : ∀ (wr : List (Nat × LObj)) (s : St), (wr.map (·.1)).Nodup → (∀ j o, (j, o) ∈ wr → (s.wrs wr).look j = some o) ∧ (∀ j, j ∉ wr.map (·.1) → (s.wrs wr).look j = s.look j)
  | [], s, _ => ⟨fun j o h => (by cases h), fun _ _ => rfl⟩
  | (k, u) :: r, s, hn => by
    simp only [List.map_cons, List.nodup_cons] at hn
    obtain ⟨h1, h2⟩ := wrs_at r (s.wr k u) hn.2
    have hk : ∀ j, (s.wr k u).look j = if j = k then some u else s.look j := fun j => by
      show oget (oset s.obj k u) j = _
      rw [oget_oset]; rfl
    refine ⟨fun j o hm => ?_, fun j hj => ?_⟩
    · rcases List.mem_cons.1 hm with e | hm
      · injection e with e1 e2; subst e1; subst e2
        show ((s.wr j o).wrs r).look j = _
        rw [h2 j hn.1, hk, if_pos rfl]
      · exact h1 j o hm
    · simp only [List.map_cons, List.mem_cons, not_or] at hj
      show ((s.wr k u).wrs r).look j = _
      rw [h2 j hj.2, hk, if_neg hj.1]
theorem nodup_inj {m : Nat → Nat} : ∀ {l : List (Nat × LObj)}, (l.map fun x => m x.1).Nodup → ∀ x ∈ l, ∀ y ∈ l, m x.1 = m y.1 → x = y
  | [], _, x, hx, _, _, _ => by cases hx
  | a :: r, hn, x, hx, y, hy, he => by
    simp only [List.map_cons, List.nodup_cons, List.mem_map, not_exists, not_and] at hn
    rcases List.mem_cons.1 hx with e1 | h1 <;> rcases List.mem_cons.1 hy with e2 | h2
    · exact e1.trans e2.symm
    · subst e1; exact absurd he.symm (hn.1 y h2)
    · subst e2; exact absurd he (hn.1 x h1)
    · exact nodup_inj hn.2 x h1 y h2 he
theorem follows_ren {m : Nat → Nat} {o o' : LObj} (h : o.Follows o') : (o.ren m).Follows (o'.ren m) := by
  cases o <;> cases o' <;> simp_all [LObj.Follows, LObj.ren]
def rhoOf (pk : Nat → Option Nat) (obj' : List (Nat × LObj)) (C C' : Ctx) (j : Nat) : Nat := match pk j with | some k => (match oget obj' k with | some (.row ..) => C.ρ j | _ => C'.ρ k) | none => C.ρ j
def curOf (pk : Nat → Option Nat) (C C' : Ctx) (j : Nat) : Value := match pk j with | some k => C'.cur k | none => C.cur j
section
variable {X : Fx} {C : Ctx} {tr : List (List PV)} {stop : Bool} {a : Act} {w : World} {P : Program} {s : St}
theorem acts_call (h : RelC X C s.get s.look tr stop a w) {m : Nat → Nat} {f : FuncId} {args : List LV} {res : LV} {obj obj' : List (Nat × LObj)} {vs : List Value} (hA : Acts P f args obj res obj')
    (hl : Lent s m obj obj') (hv : RepsL w C s.look vs (rens m args)) :
    Calls P f vs.toArray w fun e w' => ∃ u C1, e = .returned u ∧ RelC X C1 (s.wrs (renO m obj')).get (s.wrs (renO m obj')).look tr stop a w' ∧ RepL w' C1 (s.wrs (renO m obj')).look u (res.ren m) ∧ LV.Sc (s.wrs (renO m obj')).look (res.ren m) := by
  obtain ⟨_, hok, hfol, hcall⟩ := hA
  have inj : ∀ {k o k' o'}, oget obj' k = some o → oget obj' k' = some o' → m k = m k' → k = k' := fun {k o k' o'} h1 h2 he => by
    have := nodup_inj hl.nd _ (oget_mem h1) _ (oget_mem h2) he
    injection this
  have inj0 : ∀ {k o k' o'}, oget obj k = some o → oget obj k' = some o' → m k = m k' → k = k' := fun {k o k' o'} h1 h2 he => by
    obtain ⟨p, hp, _⟩ := hfol k o h1
    obtain ⟨p', hp', _⟩ := hfol k' o' h2
    exact inj hp hp' he
  have pb : ∀ k o, blk C (m k) (o.ren m) = blk (C.pull m) k o := fun k o => by cases o <;> rfl
  have fr : Frag w (C.pull m) obj := {
    blt := h.blt
    ob := fun k o hk => objRel_unren hl.old (h.obj _ _ (hl.old k o hk))
    objs := fun k o hk => (hok k o hk).1
    fz := fun k o hk => (hok k o hk).2
    sep := fun k o b hk hb => by
      obtain ⟨_, h2, h3, _⟩ := h.sep (m k) (o.ren m) b (hl.old k o hk) ((pb k o).trans hb)
      exact ⟨h2, h3 (by rw [LObj.ren_frozen]; exact (hok k o hk).2)⟩
    dis := fun k k' o o' b hne hk hk' hb hb' => h.dis (m k) (m k') (o.ren m) (o'.ren m) b (fun e => hne (inj0 hk hk' e)) (hl.old k o hk) (hl.old k' o' hk') ((pb k o).trans hb) ((pb k' o').trans hb') }
  have hlen : vs.length = args.length := by rw [hv.1, rens_map, List.length_map]
  refine Calls.mono (hcall w (C.pull m) vs fr hlen fun j v q hvj hq => repL_unren hl.old _ q (Nat.le_refl _) (hv.2 j v _ hvj (by rw [rens_map, List.getElem?_map, hq]; rfl)).1) ?_
  rintro e w' ⟨u, C', rfl, he⟩
  let L : Nat → Prop := fun j => ∃ k o, oget obj' k = some o ∧ m k = j
  have pick : ∀ j, ∃ q : Option Nat, (∀ k, q = some k → (∃ o, oget obj' k = some o) ∧ m k = j) ∧ (q = none → ¬ L j) := fun j => by
    by_cases hL : L j
    · obtain ⟨k, o, h1, h2⟩ := hL
      exact ⟨some k, fun k' e => by injection e with e; subst e; exact ⟨⟨o, h1⟩, h2⟩, fun e => by cases e⟩
    · exact ⟨none, fun k e => (by cases e), fun _ => hL⟩
  let pk : Nat → Option Nat := fun j => (pick j).choose
  have pk1 : ∀ k o, oget obj' k = some o → pk (m k) = some k := fun k o hk => by
    have hs := (pick (m k)).choose_spec
    cases e : (pick (m k)).choose with
    | none => exact absurd ⟨k, o, hk, rfl⟩ (hs.2 e)
    | some k' =>
      obtain ⟨⟨o', g1⟩, g2⟩ := hs.1 k' e
      show (pick (m k)).choose = _
      rw [e, inj g1 hk g2]
  have pk0 : ∀ j, ¬ L j → pk j = none := fun j hL => by
    have hs := (pick j).choose_spec
    cases e : (pick j).choose with
    | none => exact e
    | some k' =>
      obtain ⟨⟨o', g1⟩, g2⟩ := hs.1 k' e
      exact absurd ⟨k', o', g1, g2⟩ hL
  let C1 : Ctx := { C with
    B := C'.B
    ρ := rhoOf pk obj' C C'
    cur := curOf pk C C' }
  obtain ⟨w1, w2⟩ := wrs_at (renO m obj') s (by simpa [renO, Function.comp_def] using hl.nd)
  have lk : ∀ k o, oget obj' k = some o → (s.wrs (renO m obj')).look (m k) = some (o.ren m) := fun k o hk => w1 _ _ (List.mem_map.2 ⟨(k, o), oget_mem hk, rfl⟩)
  have lk0 : ∀ j, ¬ L j → (s.wrs (renO m obj')).look j = s.look j := fun j hL => w2 j fun hm => by
    simp only [renO, List.map_map, List.mem_map, Function.comp_apply] at hm
    obtain ⟨x, hx, rfl⟩ := hm
    have : ∃ o, oget obj' x.1 = some o := by
      have gen : ∀ {l : List (Nat × LObj)}, x ∈ l → ∃ o, oget l x.1 = some o := by
        intro l
        induction l with
        | nil => intro h; cases h
        | cons y r ih =>
          intro h
          simp only [oget]
          split
          · exact ⟨_, rfl⟩
          · rename_i hne
            rcases List.mem_cons.1 h with rfl | h
            · exact absurd rfl hne
            · exact ih h
      exact gen hx
    obtain ⟨o, ho⟩ := this
    exact hL ⟨x.1, o, ho, rfl⟩
  have td : ∀ k o, oget obj' k = some o → Tied C1 (m k) C' k o := fun k o hk => by
    have := pk1 k o hk
    cases o <;> simp only [Tied, C1, rhoOf, curOf, this, hk]
  have was : ∀ {k o' o}, oget obj' k = some o' → s.look (m k) = some o → ∃ o0, oget obj k = some o0 ∧ o = o0.ren m := fun {k o' o} h1 h2 => by
    cases e : oget obj k with
    | none => rw [hl.new k o' h1 e] at h2; cases h2
    | some o0 => rw [hl.old k o0 e] at h2; injection h2 with h2; exact ⟨o0, rfl, h2.symm⟩
  have b1 : ∀ k o, oget obj' k = some o → blk C1 (m k) (o.ren m) = blk C' k o := fun k o hk => (td k o hk).blk
  refine ⟨u, C1, rfl, ?_, RepL.ren (C0 := C') (C1 := C1) lk (fun _ h => h) he.y.symm td he.scr he.rp, he.scr.ren lk⟩
  rw [get_wrs]
  refine h.change L (fun j o hj => ?_) lk0 (fun j o hL hj => ?_) (fun j o hL hj => ?_) he.b1 he.b2 he.fr.blt rfl rfl rfl rfl (fun j o hj => ?_) (fun j hL => ?_) (fun j e sz xs xs' f f' hL hj hj' hlen => ?_) (he.kx.mono fun b _ ⟨k, o, h1, h2⟩ => ?_) (fun j o hL hj => ?_) (fun j o b hL hj hb => ?_) (fun j j' o o' b hne hL hL' hj hj' hb hb' => ?_)
  · by_cases hL : L j
    · obtain ⟨k, o', h1, rfl⟩ := hL
      obtain ⟨o0, g1, rfl⟩ := was h1 hj
      obtain ⟨o2, f1, f2⟩ := hfol k o0 g1
      exact ⟨o2.ren m, lk k o2 f1, follows_ren f2⟩
    · exact ⟨o, by rw [lk0 j hL]; exact hj, o.follows_refl⟩
  · obtain ⟨k, o', h1, rfl⟩ := hL
    obtain ⟨o0, g1, rfl⟩ := was h1 hj
    rw [LObj.ren_frozen]; exact (hok k o0 g1).2
  · obtain ⟨k, o', h1, rfl⟩ := hL
    rw [lk k o' h1] at hj; injection hj with hj; subst hj
    rw [LObj.ren_frozen]; exact he.fr.fz k o' h1
  · by_cases hL : L j
    · obtain ⟨k, o', h1, rfl⟩ := hL
      obtain ⟨o0, g1, rfl⟩ := was h1 hj
      have hp := pk1 k o' h1
      show rhoOf pk obj' C C' (m k) = _
      unfold rhoOf
      simp only [hp, h1]
      obtain ⟨o2, f1, f2⟩ := hfol k o0 g1
      rw [h1] at f1; injection f1 with f1; subst f1
      have ht := he.tied k o0 o' g1 h1
      cases o' with
      | row => rfl
      | _ => exact ht (fun _ _ _ _ _ _ _ _ _ e => by cases e)
    · show rhoOf pk obj' C C' j = _
      unfold rhoOf
      rw [pk0 j hL]
  · show curOf pk C C' j = _
    unfold curOf
    rw [pk0 j hL]
  · obtain ⟨k, o', h1, rfl⟩ := hL
    obtain ⟨o0, g1, e0⟩ := was h1 hj
    rw [lk k o' h1] at hj'; injection hj' with hj'
    have hp := pk1 k o' h1
    show curOf pk C C' (m k) = _
    unfold curOf
    rw [hp]
    have ht := he.tied k o0 o' g1 h1
    cases o0 <;> simp [LObj.ren] at e0
    cases o' <;> simp [LObj.ren] at hj'
    obtain ⟨rfl, rfl, rfl, rfl⟩ := e0
    obtain ⟨rfl, rfl, rfl, rfl⟩ := hj'
    exact ht (fun _ _ _ _ _ _ _ _ e1 e2 => by cases e1; cases e2; exact hlen)
  · obtain ⟨o2, f1, _⟩ := hfol k o h1
    exact ⟨m k, o.ren m, ⟨k, o2, f1, rfl⟩, hl.old k o h1, (pb k o).trans h2⟩
  · obtain ⟨k, o', h1, rfl⟩ := hL
    rw [lk k o' h1] at hj; injection hj with hj; subst hj
    refine ⟨ObjRel.ren (C0 := C') (C1 := C1) lk (fun _ h => h) he.y.symm td h1 (he.fr.objs k o' h1) (he.fr.ob k o' h1), ?_⟩
    have := he.fr.objs k o' h1
    cases o' with
    | box cs fz =>
      intro j q hq
      simp only [LObj.Sc] at this
      rw [rens_map, List.getElem?_map, Option.map_eq_some_iff] at hq
      obtain ⟨p, hp, rfl⟩ := hq
      exact (this j p hp).ren lk
    | _ => trivial
  · obtain ⟨k, o', h1, rfl⟩ := hL
    rw [lk k o' h1] at hj; injection hj with hj; subst hj
    rw [b1 k o' h1] at hb
    obtain ⟨g1, g2⟩ := he.fr.sep k o' b h1 hb
    refine ⟨g1, g2, (he.bk k o' b h1 hb).imp (fun ⟨k0, o0, f1, f2⟩ => ?_) id⟩
    obtain ⟨o2, f3, _⟩ := hfol k0 o0 f1
    exact ⟨m k0, o0.ren m, ⟨k0, o2, f3, rfl⟩, hl.old k0 o0 f1, (pb k0 o0).trans f2⟩
  · obtain ⟨k, p, h1, rfl⟩ := hL
    obtain ⟨k', p', h1', rfl⟩ := hL'
    rw [lk k p h1] at hj; injection hj with hj; subst hj
    rw [lk k' p' h1'] at hj'; injection hj' with hj'; subst hj'
    rw [b1 k p h1] at hb
    rw [b1 k' p' h1'] at hb'
    exact he.fr.dis k k' p p' b (fun e => hne (by rw [e])) h1 h1' hb hb'
end
theorem repl_fn_inv {w : World} {C : Ctx} {l : Nat → Option LObj} {v : Value} {f : Fn} {ps qs : List LV} (h : RepL w C l v (.fn f ps qs)) (hs : LV.Sc l (.fn f ps qs)) : ∃ fs cs : Array Value, v = .func f fs cs ∧ RepsL w C l fs.toList ps ∧ RepsL w C l cs.toList qs := by
  cases h with
  | @fn f fs cs ps qs h1 h2 h3 h4 =>
    cases hs with
    | fn s1 s2 => exact ⟨fs, cs, rfl, ⟨by simpa using h1, fun j v p hv hp => ⟨h3 j v p (by simpa using hv) hp, s1 j p hp⟩⟩, ⟨by simpa using h2, fun j v p hv hp => ⟨h4 j v p (by simpa using hv) hp, s2 j p hp⟩⟩⟩
theorem RepsL.append {w : World} {C : Ctx} {l : Nat → Option LObj} {vs us : List Value} {ps qs : List LV} (h : RepsL w C l vs ps) (k : RepsL w C l us qs) : RepsL w C l (vs ++ us) (ps ++ qs) := by
  refine ⟨by simp [h.1, k.1], fun j v p hv hp => ?_⟩
  by_cases hj : j < vs.length
  · rw [List.getElem?_append_left hj] at hv
    rw [List.getElem?_append_left (by rw [← h.1]; exact hj)] at hp
    exact h.2 j v p hv hp
  · rw [List.getElem?_append_right (by omega)] at hv
    rw [List.getElem?_append_right (by rw [← h.1]; omega)] at hp
    rw [← h.1] at hp
    exact k.2 _ v p hv hp
end Go.Proofs.YtcfbdeghmckelaaGreat
namespace Go.Proofs.YtcfbdeghmckelaaGreat
open Go.RowKit
section
variable {X : Fx} {C : Ctx} {g : Nat → LV} {look : Nat → Option LObj} {tr : List (List PV)} {stop : Bool} {a : Act} {w : World} {P : Program} {N : Nat} {ops : Array Oper} {oper : Oper} {o : RO} {s : St}
theorem toPV_go_keys {m : Nat} (ih : ∀ {q : LV} {pre : Prop} {pv : PV} {ks : List Nat}, toPV look m q = some (pre, pv, ks) → ∀ k ∈ ks, ∃ ob, look k = some ob ∧ ob.freeze.frozen = true) :
    ∀ {qs : List LV} {pre : Prop} {ps : List PV} {ks : List Nat}, toPV.go look m qs = some (pre, ps, ks) → ∀ k ∈ ks, ∃ ob, look k = some ob ∧ ob.freeze.frozen = true := by
  intro qs
  induction qs with
  | nil =>
    intro pre ps ks h k hk
    simp only [toPV.go] at h
    injection h with h; injection h with h1 h; injection h with h2 h3
    subst h3; cases hk
  | cons q r ihr =>
    intro pre ps ks h k hk
    simp only [toPV.go] at h
    split at h
    · rename_i x y hx hy
      injection h with h; injection h with h1 h; injection h with h2 h3
      subst h3
      rcases List.mem_append.1 hk with hk | hk
      · exact ih hx k hk
      · exact ihr hy k hk
    · cases h
theorem toPV_keys : ∀ (m : Nat) {q : LV} {pre : Prop} {pv : PV} {ks : List Nat}, toPV look m q = some (pre, pv, ks) → ∀ k ∈ ks, ∃ ob, look k = some ob ∧ ob.freeze.frozen = true := by
  intro m
  induction m with
  | zero => intro q pre pv ks h; simp [toPV] at h
  | succ m ih =>
    intro q pre pv ks h k hk
    cases q with
    | p v => simp only [toPV] at h; injection h with h; injection h with h1 h; injection h with h2 h3; subst h3; cases hk
    | row k' n =>
      simp only [toPV] at h
      split at h
      · rename_i hl
        injection h with h; injection h with h1 h; injection h with h2 h3
        subst h3
        simp at hk; subst hk
        exact ⟨_, hl, rfl⟩
      · cases h
    | lp k' off =>
      simp only [toPV] at h
      split at h
      · rename_i hl
        obtain ⟨r, hr, h⟩ := Option.map_eq_some_iff.1 h
        injection h with h1 h; injection h with h2 h3
        subst h3
        rcases List.mem_cons.1 hk with rfl | hk
        · exact ⟨_, hl, rfl⟩
        · exact toPV_go_keys ih hr k hk
      · cases h
    | fn f b c =>
      simp only [toPV] at h
      split at h
      · rename_i r t hr ht
        injection h with h; injection h with h1 h; injection h with h2 h3
        subst h3
        rcases List.mem_append.1 hk with hk | hk
        · exact toPV_go_keys ih hr k hk
        · exact toPV_go_keys ih ht k hk
      · cases h
    | agg cs =>
      simp only [toPV] at h
      obtain ⟨r, hr, h⟩ := Option.map_eq_some_iff.1 h
      injection h with h1 h; injection h with h2 h3
      subst h3
      exact toPV_go_keys ih hr k hk
    | lm k' =>
      simp only [toPV] at h
      split at h
      · rename_i hl
        injection h with h; injection h with h1 h; injection h with h2 h3
        subst h3
        simp at hk; subst hk
        exact ⟨_, hl, rfl⟩
      · cases h
    | _ => simp [toPV] at h
theorem toPVs_keys {qs : List LV} {pre : Prop} {ps : List PV} {ks : List Nat} (h : toPVs look qs = some (pre, ps, ks)) : ∀ k ∈ ks, ∃ ob, look k = some ob ∧ ob.freeze.frozen = true :=
  toPV_go_keys (fun hq => toPV_keys 4 hq) h
theorem freeze_freeze (ob : LObj) : ob.freeze.freeze = ob.freeze := by cases ob <;> rfl
theorem freezes (hM : X.MOk) (look0 : Nat → Option LObj) (C0 : Ctx) : ∀ (ks : List Nat) (s : St) (C : Ctx), RelC X C s.get s.look tr stop a w → C.cur = C0.cur → C.ρ = C0.ρ → (∀ b, C0.B b → C.B b) →
    (∀ k, s.look k = look0 k ∨ ∃ ob, look0 k = some ob ∧ s.look k = some ob.freeze) → (∀ k ∈ ks, ∃ ob, look0 k = some ob ∧ ob.freeze.frozen = true) →
    ∃ C', RelC X C' (s.wrs (frzs look0 ks)).get (s.wrs (frzs look0 ks)).look tr stop a w ∧ (∀ b, C.B b → C'.B b) ∧ ∀ b, blksOf C0 look0 ks b → C'.B b
  | [], s, C, h, _, _, _, _, _ => ⟨C, h, fun _ h => h, fun b ⟨k, hk, _⟩ => by cases hk⟩
  | k :: r, s, C, h, hcur, hρ, hB, hl, hk => by
    obtain ⟨ob, hob, hfz⟩ := hk k (by simp)
    have hcurk : ∃ o1, s.look k = some o1 ∧ o1.freeze = ob.freeze := by
      rcases hl k with e | ⟨ob', e1, e2⟩
      · exact ⟨ob, by rw [e, hob], rfl⟩
      · rw [hob] at e1; injection e1 with e1; subst e1; exact ⟨_, e2, freeze_freeze _⟩
    obtain ⟨o1, ho1, hf1⟩ := hcurk
    have h1 := h.freeze ho1 (by rw [hf1]; exact hfz) hM
    have hbk : ∀ o2, blk C k o2 = blk C0 k o2 := fun o2 => by cases o2 <;> simp only [blk, hcur, hρ]
    have hbo : blk C k o1 = blk C0 k ob := by rw [← blk_freeze C k o1, hf1, blk_freeze, hbk]
    have he : (s.wr k ob.freeze).look = upd s.look k (some o1.freeze) := by funext t; simp only [St.look, St.wr, oget_oset, hf1]; rfl
    have hw : s.wrs (frzs look0 (k :: r)) = (s.wr k ob.freeze).wrs (frzs look0 r) := by simp only [frzs, hob, St.wrs]
    rw [hw]
    rw [← he] at h1
    obtain ⟨C', e1, e2, e3⟩ := freezes hM look0 C0 r (s.wr k ob.freeze) { C with B := fun b => C.B b ∨ blk C k o1 = some b } h1 hcur hρ (fun b hb => .inl (hB b hb)) (fun j => by
      rw [he]
      by_cases ej : j = k
      · subst ej; rw [upd_same, hf1]; exact .inr ⟨ob, hob, rfl⟩
      · rw [upd_ne _ _ ej]; exact hl j) (fun j hj => hk j (by simp [hj]))
    refine ⟨C', e1, fun b hb => e2 b (.inl hb), fun b ⟨j, hj, o2, ho2, hb2⟩ => ?_⟩
    rcases List.mem_cons.1 hj with rfl | hj
    · rw [hob] at ho2; injection ho2 with ho2; subst ho2
      exact e2 b (.inr (by rw [hbo]; exact hb2))
    · exact e3 b ⟨j, hj, o2, ho2, hb2⟩
theorem opSem_sound {ro : Option Nat} {v : LV} {wr : List (Nat × LObj)} (hs : OpSem P s o v wr) (hc : compRO P N ops oper = some o) (hN : X.N = N) (hM : X.MOk) (h : RelC X C s.get s.look tr stop a w) {K : Act → World → Prop} {Q : Exit → Act → World → Prop}
    (hK : ∀ C' a' w', RelC X C' ((s.wrs wr).set o.dst v).get ((s.wrs wr).set o.dst v).look tr stop a' w' → K a' w') :
    if Region.wanted oper (yielded ops a.tmps) then oper.wpIn (wideR ro) 0 P a w K Q else (∀ f, oper.about P w a.eval = some f → (wideR ro).fn f) ∧ K (a.put oper.dst undef) w := by
  have hr := compRO_ok hc
  have hdst : ∀ k, o.dst = some k → k < X.N := fun k hk => by rw [hN]; exact hr.hdst k (by rw [← hr.hd]; exact hk)
  have hnd := comp_nodefer hr.hc
  have hno : ∀ (q : LV), o.guard ≠ none → (∀ C' a' w', RelC X C' (s.set o.dst (fin o.guard false q)).get (s.set o.dst (fin o.guard false q)).look tr stop a' w' → K a' w') → K (a.put oper.dst undef) w := fun q hgd hK' => by
    refine hK' C _ _ ?_
    rw [← hr.hd]
    cases hg : o.guard with
    | none => exact absurd hg hgd
    | some x => exact put_dst h hdst under_no under_no_sc
  have gne : gOf s o.guard = some false → o.guard ≠ none := fun e1 e2 => by rw [e2] at e1; simp [gOf] at e1
  have hval : ∀ {u : Value} {w' : World} {C' : Ctx} {s' : St} {q : LV}, OpRuns P oper a w u w' → RelC X C' s'.get s'.look tr stop a w' → RepL w' C' s'.look u q → LV.Sc s'.look q →
      (∀ C' a' w', RelC X C' (s'.set o.dst (fin o.guard true q)).get (s'.set o.dst (fin o.guard true q)).look tr stop a' w' → K a' w') → oper.wpIn (wideR ro) 0 P a w K Q := fun {u w' C' s' q} h1 h2 h3 h4 h5 => by
    refine wpIn_value hnd h1 ?_
    obtain ⟨e1, e2⟩ := fin_ok (gd := o.guard) h3 h4
    rw [← hr.hd]
    exact h5 C' _ _ (put_dst h2 hdst e1 e2)
  cases hs with
  | @mv x c ho ha hgo =>
    rw [wanted_of h hr hgo]
    have hc' := hr.hc
    rw [ho, ha] at hc'
    obtain ⟨x0, x', hop, hl, hx⟩ := comp_mv hc'
    injection hl with hl _
    subst hl
    cases c with
    | false => exact ⟨fun _ _ => trivial, hno _ (gne hgo) hK⟩
    | true =>
      obtain ⟨e1, e2⟩ := aopd_eval h rfl hx
      refine hval (s' := s) (u := a.eval x0) (.inl ?_) h e1 e2 hK
      rcases hop with hop | hop <;> simp [execOp, hop]
  | @pick x y z c pre v ho ha hgo hp hpre =>
    rw [wanted_of h hr hgo]
    have hc' := hr.hc
    rw [ho, ha] at hc'
    obtain ⟨x0, y0, z0, hop, hl⟩ := comp_pick hc'
    obtain ⟨x', y', z', hl', hx, hy, hz⟩ := aopds3 hl
    injection hl' with e1 hl'; injection hl' with e2 hl'; injection hl' with e3 _
    subst e1; subst e2; subst e3
    cases c with
    | false => exact ⟨fun _ _ => trivial, hno _ (gne hgo) hK⟩
    | true =>
      obtain ⟨hxc, hpre⟩ := hpre rfl
      obtain ⟨rx, sx⟩ := aopd_eval h rfl hx
      obtain ⟨ry, sy⟩ := aopd_eval h rfl hy
      obtain ⟨rz, sz⟩ := aopd_eval h rfl hz
      simp only [pickL] at hp
      split at hp
      · rename_i t u v' ht hu hv
        injection hp with hp
        injection hp with hp1 hp2
        subst hp1; subst hp2
        have kx := (un_ok rx sx hxc).1
        rw [ht] at kx
        have kx := repl_p_inv kx
        generalize hxv : a.eval x0 = xv at kx
        cases kx
        refine hval (s' := s) (u := if t then a.eval y0 else a.eval z0) (.inl ?_) h (.p ?_) (.p _) hK
        · cases t <;> simp [execOp, hop, hxv, asBool]
        · cases t with
          | true =>
            have := (un_ok ry sy (hpre.1 rfl)).1
            rw [hu] at this
            exact repl_p_inv this
          | false =>
            have := (un_ok rz sz (hpre.2 rfl)).1
            rw [hv] at this
            exact repl_p_inv this
      · cases hp
  | @ev c pre eff hgo he hpre hwr hnw =>
    rw [wanted_of h hr hgo]
    cases c with
    | false =>
      have : eff.wr = none := by
        cases e : eff.wr with
        | none => rfl
        | some x => have := hwr (by rw [e]; rfl); cases this
      rw [this] at hK
      exact ⟨fun _ _ => trivial, hno _ (gne hgo) hK⟩
    | true =>
      obtain ⟨hcn, hpre⟩ := hpre rfl
      have he' : evalOp (o.dst.getD 0) s.look o.op (o.args.map fun y => (y.ev s).un) = some (pre, eff) := by
        have : uns (rawIns s o.args) = o.args.map fun y => (y.ev s).un := by simp [uns, rawIns]
        rw [← this]; exact he
      obtain ⟨u, w', C', e1, e2, e3, e4⟩ := evalOp_sound h hr.hc (insOk_of h rfl hcn) he' hpre hnw
      have hl := look_wrs s eff.wr
      rw [← hl] at e2 e3 e4
      have hg := get_wrs eff.wr.toList s
      rw [← hg] at e2
      exact hval e1 e2 e3 e4 hK
  | @callA c f pre vs ks r ho hgo ht hpre hfl =>
    rw [wanted_of h hr hgo]
    cases c with
    | false => exact ⟨fun _ _ => trivial, hno _ (gne hgo) hK⟩
    | true =>
      obtain ⟨hcn, hpre, hcall, hpure⟩ := hpre rfl
      have hc' := hr.hc
      rw [ho] at hc'
      obtain ⟨args, ts, hop, hl⟩ := comp_call hc'
      have hins := insOk_of h rfl hcn
      have hrs := ins_reps hl (fun _ h => h) hins
      have e0 : o.args.map (fun y => (y.ev s).un) = uns (rawIns s o.args) := by simp [uns, rawIns]
      rw [e0] at hrs
      have hreps := toPVs_rep h hrs ht hpre
      refine wpIn_call hop hcall (Calls.mono (hpure w _ _ (fun b hb => ?_) hreps) ?_)
      · rcases hb with hb | ⟨k, hk, ob, h1, h2⟩
        · exact h.blt b hb
        · exact (h.sep k ob b h1 h2).2.1
      · rintro e w' ⟨u, rfl, hbel, hu⟩
        refine ⟨u, rfl, ?_⟩
        rw [← hr.hd]
        rcases hfl with hfl | hfl
        · have h2 := h.grow hbel C.B (fun _ h => h) (fun b hb => .inl hb)
          obtain ⟨e1, e2⟩ := fin_ok (gd := o.guard) (RepL.p (C := C) (l := s.look) (flat_rep (B' := C.B) (w' := w') hu hfl)) (LV.Sc.p (l := s.look) r)
          exact hK _ _ _ (put_dst h2 hdst e1 e2)
        · subst hfl
          have h2 := h.grow hbel (fun b => C.B b ∨ (w.heap.size ≤ b ∧ b < w'.heap.size)) (fun _ h => .inl h) (fun b hb => hb)
          have hu' : Rep w' (fun b => C.B b ∨ (w.heap.size ≤ b ∧ b < w'.heap.size)) u r := hu.mono (fun b hb => hb.elim (fun hb => hb.elim .inl (fun ⟨k, hk, _⟩ => by cases hk)) .inr) (fun _ _ => rfl)
          obtain ⟨e1, e2⟩ := fin_ok (gd := o.guard) (RepL.p (C := { C with B := fun b => C.B b ∨ (w.heap.size ≤ b ∧ b < w'.heap.size) }) (l := s.look) hu') (LV.Sc.p (l := s.look) r)
          exact hK _ _ _ (put_dst h2 hdst e1 e2)
  | @callB f pre vs ks r ho hgo ht hcn hpre hcp =>
    rw [wanted_of h hr hgo]
    obtain ⟨hcall, hpure⟩ := hcp
    have hc' := hr.hc
    rw [ho] at hc'
    obtain ⟨args, ts, hop, hl⟩ := comp_call hc'
    have hins := insOk_of h rfl hcn
    have hrs := ins_reps hl (fun _ h => h) hins
    have e0 : o.args.map (fun y => (y.ev s).un) = uns (rawIns s o.args) := by simp [uns, rawIns]
    rw [e0] at hrs
    have hreps := toPVs_rep h hrs ht hpre
    obtain ⟨C', f1, f2, f3⟩ := freezes hM s.look C ks s C h rfl rfl (fun _ h => h) (fun _ => .inl rfl) (toPVs_keys ht)
    have hreps' : Reps w C'.B _ vs := hreps.mono (fun b hb => hb.elim (f2 b) (f3 b)) (fun _ _ => rfl)
    refine wpIn_call hop hcall (Calls.mono (hpure w _ _ (fun b hb => f1.blt b hb) hreps') ?_)
    rintro e w' ⟨u, rfl, hbel, hu⟩
    refine ⟨u, rfl, ?_⟩
    rw [← hr.hd]
    have h2 := f1.grow hbel (fun b => C'.B b ∨ (w.heap.size ≤ b ∧ b < w'.heap.size)) (fun _ h => .inl h) (fun b hb => hb)
    obtain ⟨e1, e2⟩ := fin_ok (gd := o.guard) (RepL.p (C := { C' with B := fun b => C'.B b ∨ (w.heap.size ≤ b ∧ b < w'.heap.size) }) (l := (s.wrs (frzs s.look ks)).look) hu) (LV.Sc.p (l := (s.wrs (frzs s.look ks)).look) r)
    exact hK _ _ _ (put_dst h2 hdst e1 e2)
  | @callN q hgo =>
    rw [wanted_of h hr hgo]
    exact ⟨fun _ _ => trivial, hno _ (gne hgo) hK⟩
  | @callS f m args0 obj obj' r ho hgo ha hcn hA hl =>
    rw [wanted_of h hr hgo]
    have hc' := hr.hc
    rw [ho] at hc'
    obtain ⟨args, ts, hop, hl0⟩ := comp_call hc'
    have hrs := ins_reps hl0 (fun _ h => h) (insOk_of h rfl hcn)
    have e0 : o.args.map (fun y => (y.ev s).un) = uns (rawIns s o.args) := by simp [uns, rawIns]
    rw [e0, ha] at hrs
    refine wpIn_call hop hA.1 (Calls.mono (acts_call h hA hl hrs) ?_)
    rintro e w' ⟨u, C1, rfl, h1, h2, h3⟩
    refine ⟨u, rfl, ?_⟩
    rw [← hr.hd]
    obtain ⟨e1, e2⟩ := fin_ok (gd := o.guard) h2 h3
    exact hK _ _ _ (put_dst h1 hdst e1 e2)
  | @callSV f m fs cs vs args0 obj obj' r ho hgo ha ha2 hcn hA hl =>
    rw [wanted_of h hr hgo]
    have hc' := hr.hc
    rw [ho] at hc'
    obtain ⟨t, args, ts, hop, hl0⟩ := comp_callv hc'
    have hrs := ins_reps hl0 (fun _ h => h) (insOk_of h rfl hcn)
    have e0 : o.args.map (fun y => (y.ev s).un) = uns (rawIns s o.args) := by simp [uns, rawIns]
    rw [e0, ha, List.map_cons] at hrs
    obtain ⟨hf1, hf2⟩ := hrs.2 0 _ _ rfl rfl
    obtain ⟨fa, ca, hfe, hfa, hca⟩ := repl_fn_inv hf1 hf2
    have hrest : RepsL w C s.look (args.toList.map a.eval) vs := ⟨by simpa using hrs.1, fun j v q hv hq => hrs.2 (j + 1) v q (by simpa using hv) (by simpa using hq)⟩
    have hall := (hfa.append hrest).append hca
    rw [ha2] at hall
    refine wpIn_callv hop hfe hA.1 (Calls.mono (acts_call h hA hl hall) ?_)
    rintro e w' ⟨u, C1, rfl, h1, h2, h3⟩
    refine ⟨u, rfl, ?_⟩
    rw [← hr.hd]
    obtain ⟨e1, e2⟩ := fin_ok (gd := o.guard) h2 h3
    exact hK _ _ _ (put_dst h1 hdst e1 e2)
  | @callV c f pre fs cs vs ks r ho hgo ht hpre hfl =>
    rw [wanted_of h hr hgo]
    cases c with
    | false => exact ⟨fun _ _ => trivial, hno _ (gne hgo) hK⟩
    | true =>
      obtain ⟨hcn, hpre, hcall, hpure⟩ := hpre rfl
      have hc' := hr.hc
      rw [ho] at hc'
      obtain ⟨t, args, ts, hop, hl⟩ := comp_callv hc'
      have hins := insOk_of h rfl hcn
      have hrs := ins_reps hl (fun _ h => h) hins
      have e0 : o.args.map (fun y => (y.ev s).un) = uns (rawIns s o.args) := by simp [uns, rawIns]
      rw [e0] at hrs
      have hreps := toPVs_rep h hrs ht hpre
      rw [List.map_cons] at hreps
      obtain ⟨fv, us, he, hfv, hus⟩ := hreps.cons_inv
      injection he with he1 he2
      subst he1; subst he2
      obtain ⟨fa, ca, hfe, hfa, hca⟩ := rep_fn hfv
      refine wpIn_callv hop hfe hcall (Calls.mono (hpure w _ _ (fun b hb => ?_) ((hfa.append hus).append hca)) ?_)
      · rcases hb with hb | ⟨k, hk, ob, h1, h2⟩
        · exact h.blt b hb
        · exact (h.sep k ob b h1 h2).2.1
      · rintro e w' ⟨u, rfl, hbel, hu⟩
        refine ⟨u, rfl, ?_⟩
        rw [← hr.hd]
        rcases hfl with hfl | hfl
        · have h2 := h.grow hbel C.B (fun _ h => h) (fun b hb => .inl hb)
          obtain ⟨e1, e2⟩ := fin_ok (gd := o.guard) (RepL.p (C := C) (l := s.look) (flat_rep (B' := C.B) (w' := w') hu hfl)) (LV.Sc.p (l := s.look) r)
          exact hK _ _ _ (put_dst h2 hdst e1 e2)
        · subst hfl
          have h2 := h.grow hbel (fun b => C.B b ∨ (w.heap.size ≤ b ∧ b < w'.heap.size)) (fun _ h => .inl h) (fun b hb => hb)
          have hu' : Rep w' (fun b => C.B b ∨ (w.heap.size ≤ b ∧ b < w'.heap.size)) u r := hu.mono (fun b hb => hb.elim (fun hb => hb.elim .inl (fun ⟨k, hk, _⟩ => by cases hk)) .inr) (fun _ _ => rfl)
          obtain ⟨e1, e2⟩ := fin_ok (gd := o.guard) (RepL.p (C := { C with B := fun b => C.B b ∨ (w.heap.size ≤ b ∧ b < w'.heap.size) }) (l := s.look) hu') (LV.Sc.p (l := s.look) r)
          exact hK _ _ _ (put_dst h2 hdst e1 e2)
  | @callVB f pre fs cs vs ks r ho hgo ht hcn hpre hcp =>
    rw [wanted_of h hr hgo]
    obtain ⟨hcall, hpure⟩ := hcp
    have hc' := hr.hc
    rw [ho] at hc'
    obtain ⟨t, args, ts, hop, hl⟩ := comp_callv hc'
    have hins := insOk_of h rfl hcn
    have hrs := ins_reps hl (fun _ h => h) hins
    have e0 : o.args.map (fun y => (y.ev s).un) = uns (rawIns s o.args) := by simp [uns, rawIns]
    rw [e0] at hrs
    have hreps := toPVs_rep h hrs ht hpre
    obtain ⟨C', f1, f2, f3⟩ := freezes hM s.look C ks s C h rfl rfl (fun _ h => h) (fun _ => .inl rfl) (toPVs_keys ht)
    have hreps' : Reps w C'.B _ (.fn (.func f) fs cs :: vs) := hreps.mono (fun b hb => hb.elim (f2 b) (f3 b)) (fun _ _ => rfl)
    rw [List.map_cons] at hreps'
    obtain ⟨fv, us, he, hfv, hus⟩ := hreps'.cons_inv
    injection he with he1 he2
    subst he1; subst he2
    obtain ⟨fa, ca, hfe, hfa, hca⟩ := rep_fn hfv
    refine wpIn_callv hop hfe hcall (Calls.mono (hpure w _ _ (fun b hb => f1.blt b hb) ((hfa.append hus).append hca)) ?_)
    rintro e w' ⟨u, rfl, hbel, hu⟩
    refine ⟨u, rfl, ?_⟩
    rw [← hr.hd]
    have h2 := f1.grow hbel (fun b => C'.B b ∨ (w.heap.size ≤ b ∧ b < w'.heap.size)) (fun _ h => .inl h) (fun b hb => hb)
    obtain ⟨e1, e2⟩ := fin_ok (gd := o.guard) (RepL.p (C := { C' with B := fun b => C'.B b ∨ (w.heap.size ≤ b ∧ b < w'.heap.size) }) (l := (s.wrs (frzs s.look ks)).look) hu) (LV.Sc.p (l := (s.wrs (frzs s.look ks)).look) r)
    exact hK _ _ _ (put_dst h2 hdst e1 e2)
end
end Go.Proofs.YtcfbdeghmckelaaGreat
namespace Go.Proofs.YtcfbdeghmckelaaGreat
open Go.RowKit
def YOp (ts : List (List PV)) (s : St) (o : RO) (t : List PV) (ks : List Nat) : Prop :=
  o.op = .callv ∧ gOf s o.guard = some true ∧ ∃ fa rest pre, o.args = fa :: rest ∧ ((fa.ev s).un = .yield ∧ (fa.ev s).cnd = true) ∧ toPVs s.look (uns (rawIns s rest)) = some (pre, t, ks) ∧ cnds (rawIns s rest) = true ∧ pre ∧ s.stop = false ∧ ∃ post, ts = s.tr ++ t :: post
def ySt (s : St) (o : RO) (t : List PV) (ks : List Nat) (b : Bool) : St :=
  St.set { env := s.env, obj := (s.wrs (frzs s.look ks)).obj, tr := s.tr ++ [t], stop := !b } o.dst (fin o.guard true (.p (.b b)))
section
variable {X : Fx} {C : Ctx} {g : Nat → LV} {look : Nat → Option LObj} {tr tr' : List (List PV)} {stop stop' : Bool} {a : Act} {w w' : World} {P : Program} {N : Nat} {ops : Array Oper} {oper : Oper} {o : RO} {s : St}
theorem RelC.yielded {D' O' : Nat → Prop} (h : RelC X C g look tr stop a w) (hr : Rnd C.dep C.own C.B D' O' w w') (hj : if stop' = true then X.Jx tr' D' w' else X.J tr' D' O' w') :
    RelC X { C with dep := D', own := O', n := w'.heap.size } g look tr' stop' a w' := by
  have hsz := hr.kx.size
  have hB : ∀ b, C.B b → w'.heap[b]? = w.heap[b]? := fun b hb => hr.kx.block b (h.blt b hb) fun ho => (h.ow b ho).1 hb
  have hblk : ∀ k o, blk { C with dep := D', own := O', n := w'.heap.size } k o = blk C k o := fun k o => by cases o <;> rfl
  have hobj : ∀ k o b, look k = some o → blk C k o = some b → w'.heap[b]? = w.heap[b]? := fun k o b hk hb => by
    obtain ⟨h1, h2, h3, h4⟩ := h.sep k o b hk hb
    cases hf : o.frozen with
    | true => exact hB b (h4 hf)
    | false => exact hr.kx.block b h2 fun ho => h.nn k o b hk hb hf (h.ow b ho).2
  have hnD : ∀ b, b < w.heap.size → ¬ C.B b → ¬ C.dep b → ¬ D' b := fun b h1 h2 h3 hd => (hr.d1 b hd).elim h3 fun e => e.elim (fun e => by omega) h2
  have hrow : ∀ k e sz xs fz, look k = some (.row e sz xs fz) → ∃ xs' fz', look k = some (.row e sz xs' fz') ∧ (xs'.length = xs.length → C.cur k = C.cur k) ∧ xs.length ≤ xs'.length := fun k e sz xs fz hk => ⟨xs, fz, hk, fun _ => rfl, Nat.le_refl _⟩
  exact {
    kx := ⟨hr.kx.os.trans h.kx.os, hr.kx.tape.trans h.kx.tape, hr.kx.output.trans h.kx.output, Nat.le_trans h.kx.size hsz, fun k hk hm => (hr.kx.block k (Nat.lt_of_lt_of_le hk h.kx.size) fun ho => (h.oold k ho).elim (fun e => by omega) fun e => hm (.inr e)).trans (h.kx.block k hk hm)⟩
    yy := h.yy
    b0 := h.b0
    blt := fun b hb => Nat.lt_of_lt_of_le (h.blt b hb) hsz
    bold := h.bold
    borg := h.borg
    no0 := h.no0
    tsz := h.tsz
    ngb := h.ngb
    env := fun t => RepL.same (C := C) (C' := { C with dep := D', own := O', n := w'.heap.size }) (fun _ h => h) rfl hB (fun _ _ _ => rfl) hrow (h.envs t) (h.env t)
    envs := h.envs
    obj := fun k o hk => ObjRel.same (C := C) (C' := { C with dep := D', own := O', n := w'.heap.size }) (fun _ h => h) rfl hB (fun _ _ _ => rfl) hrow hk (h.objs k o hk) rfl (fun b hb => hobj k o b hk hb) (h.obj k o hk)
    objs := h.objs
    sep := fun k o b hk hb => by
      rw [hblk] at hb
      obtain ⟨h1, h2, h3, h4⟩ := h.sep k o b hk hb
      exact ⟨h1, Nat.lt_of_lt_of_le h2 hsz, h3, h4⟩
    dis := fun k k' o o' b hne hk hk' hb hb' => h.dis k k' o o' b hne hk hk' (by rw [hblk] at hb; exact hb) (by rw [hblk] at hb'; exact hb')
    marks := h.marks.same fun r hlt hno hnb hnd hob => ⟨hr.kx.block r hlt fun ho => hnd (h.ow r ho).2, hnb, hnD r hlt hnb hnd, fun k o hk => by rw [hblk]; exact hob k o hk⟩
    nle := Nat.le_refl _
    dn := hr.d2
    nn := fun k o b hk hb hf => by
      rw [hblk] at hb
      obtain ⟨h1, h2, h3, h4⟩ := h.sep k o b hk hb
      exact hnD b h2 (h3 hf) (h.nn k o b hk hb hf)
    ow := fun b hb => ⟨fun hbb => (hr.o1 b hb).elim (fun e => (h.ow b e).1 hbb) fun e => by have := h.blt b hbb; omega, hr.o2 b hb⟩
    oold := fun b hb => (hr.o1 b hb).elim (h.oold b) fun e => .inl (Nat.le_trans h.kx.size e)
    dold := fun b hd => (hr.d1 b hd).elim (h.dold b) fun e => e.elim (fun e => .inr (.inl (Nat.le_trans h.kx.size e))) fun e => .inr (.inr e)
    jj := .inr ⟨w', hj, Kept.refl _ _⟩ }
theorem yield_sound {ts : List (List PV)} {ro : Option Nat} {t : List PV} {ks : List Nat} (hs : YOp ts s o t ks) (hc : compRO P N ops oper = some o) (hN : X.N = N) (hM : X.MOk) (hy : YieldsOk P X ts) (hj : JClosed X.J X.Jx) (h : RelC X C s.get s.look s.tr s.stop a w)
    {K : Act → World → Prop} {Q : Exit → Act → World → Prop}
    (hK : ∀ b C' a' w', RelC X C' (ySt s o t ks b).get (ySt s o t ks b).look (s.tr ++ [t]) (!b) a' w' → K a' w') :
    if Region.wanted oper (yielded ops a.tmps) then oper.wpIn (wideR ro) 0 P a w K Q else (∀ f, oper.about P w a.eval = some f → (wideR ro).fn f) ∧ K (a.put oper.dst undef) w := by
  obtain ⟨ho, hgo, fa, rest, pre, ha, hfa, ht, hcn, hpre, hst, post, hts⟩ := hs
  have hr := compRO_ok hc
  have hdst : ∀ k, o.dst = some k → k < X.N := fun k hk => by rw [hN]; exact hr.hdst k (by rw [← hr.hd]; exact hk)
  rw [wanted_of h hr hgo, if_pos rfl]
  have hc' := hr.hc
  rw [ho, ha] at hc'
  obtain ⟨tt, args, tys, hop, hl⟩ := comp_callv hc'
  have hl' := hl
  simp only [aopds] at hl'
  split at hl'
  case h_2 => cases hl'
  rename_i y0 ys0 hy0 hys0
  injection hl' with hl'; injection hl' with e1 e2; subst e1; subst e2
  have hfv0' := aopd_eval h rfl hy0
  have hfv := (un_ok hfv0'.1 hfv0'.2 hfa.2).1
  rw [hfa.1] at hfv
  generalize hfv0 : a.eval (.tmp tt) = fv at hfv
  cases hfv
  have hins : InsOk w C s.look a ys0 fun y => (y.ev s).un := insOk_of h rfl hcn
  have hrs := ins_reps hys0 (fun _ h => h) hins
  have e0 : ys0.map (fun y => (y.ev s).un) = uns (rawIns s ys0) := by simp [uns, rawIns]
  rw [e0] at hrs
  have hreps := toPVs_rep h hrs ht hpre
  obtain ⟨C', f1, f2, f3⟩ := freezes hM s.look C ks s C h rfl rfl (fun _ h => h) (fun _ => .inl rfl) (toPVs_keys ht)
  have hreps' : Reps w C'.B _ t := hreps.mono (fun b hb => hb.elim (f2 b) (f3 b)) (fun _ _ => rfl)
  have hyy : C.y = X.y := h.yy
  have hJ : X.J s.tr C'.dep C'.own w := by
    rcases f1.jj with hX | ⟨wy, h1, h2⟩
    · exact (hX _ _ _ _).1
    · rw [hst] at h1
      exact hj.j _ _ _ _ _ h1 h2
  obtain ⟨fn, tmps, assign, body, hrun, hround⟩ := hy s.tr t post C'.dep C'.own w C'.B (args.toList.map a.eval) hts hJ (fun b hb => ⟨f1.blt b hb, fun hbo => (f1.ow b hbo).1 hb, f1.borg b hb⟩) hreps'
  refine ⟨fun f _ => trivial, ?_⟩
  rw [Oper.semAt_eq _ _ _ (by intro c; rw [hop]; exact fun e => by cases e)]
  have hrun2 : (execOp a.eval oper).run P w = .ok (.round X.y fn tmps assign body) w := by
    have ha2 : args.map a.eval = (args.toList.map a.eval).toArray := by rw [← Array.toList_map]
    simp only [execOp, hop, resolve, hfv0, Deferred.ofValue, Sem.run_bind, Sem.run_pure, Result.andThen_ok, invoke, ha2, hyy]
    simpa using hrun
  rw [hrun2]
  refine ⟨fun h => by simp [wideR, Fence.wide] at h, ?_⟩
  have h5 := RoundIn.mono hround (R' := fun
      | .returned v, w'' => K (a.put oper.dst v) w''
      | .panicked chain, w'' => Q (.panic chain) a w''
      | .outgrown, _ => LetsOut Q) ?_
  · exact h5
  rintro e w' ⟨bb, rfl, hbb⟩
  show K (a.put oper.dst (.bool bb)) w'
  have key : ∀ D' O', Rnd C'.dep C'.own C'.B D' O' w w' → (if (!bb) = true then X.Jx (s.tr ++ [t]) D' w' else X.J (s.tr ++ [t]) D' O' w') → K (a.put oper.dst (.bool bb)) w' := fun D' O' h1 h2 => by
    have h3 := f1.yielded (stop' := !bb) (tr' := s.tr ++ [t]) h1 h2
    refine hK bb { C' with dep := D', own := O', n := w'.heap.size } _ _ ?_
    rw [← hr.hd]
    let s1 : St := { env := s.env, obj := (s.wrs (frzs s.look ks)).obj, tr := s.tr ++ [t], stop := !bb }
    have hg1 : s1.get = (s.wrs (frzs s.look ks)).get := by rw [get_wrs]; rfl
    have hl1 : s1.look = (s.wrs (frzs s.look ks)).look := rfl
    rw [← hg1, ← hl1] at h3
    obtain ⟨e1, e2⟩ := fin_ok (gd := o.guard) (RepL.p (C := { C' with dep := D', own := O', n := w'.heap.size }) (l := s1.look) (Rep.b (w := w') (B := C'.B) bb)) (LV.Sc.p (l := s1.look) (.b bb))
    exact put_dst h3 hdst e1 e2
  cases bb with
  | true => rw [if_pos rfl] at hbb; obtain ⟨D', O', h1, h2⟩ := hbb; exact key D' O' h2 h1
  | false => rw [if_neg (by simp)] at hbb; obtain ⟨D', h1, h2⟩ := hbb; exact key D' _ h2 h1
end
end Go.Proofs.YtcfbdeghmckelaaGreat
namespace Go.Proofs.YtcfbdeghmckelaaGreat
open Go.RowKit
theorem comp_isnil {P : Program} {oper : Oper} {ng : Bool} {l : List AOpd} (h : comp P oper = some (.isnil ng, l)) : ∃ t x y t' x' e, oper.op = .binOp (if ng then .neq else .eql) t x y t' ∧ P.underlying t = some (.slice e) ∧ aopd x = some x' ∧ aopd y = some (.c .nilsl) ∧ l = [x'] := by
  unfold comp at h
  split at h
  case h_11 op t x y t' ho =>
    split at h
    · split at h
      all_goals try (cases h; done)
      · split at h
        · cases h
        · split at h <;> cases h
      · rename_i e hu
        split at h
        · rename_i x' hx hy
          split at h
          · rename_i hop
            injection h with h; injection h with h1 h2; injection h1 with h1
            subst h1; subst h2; subst hop
            exact ⟨t, x, y, t', x', e, by simpa using ho, hu, hx, hy, rfl⟩
          · split at h
            · rename_i hop
              injection h with h; injection h with h1 h2; injection h1 with h1
              subst h1; subst h2; subst hop
              exact ⟨t, x, y, t', x', e, by simpa using ho, hu, hx, hy, rfl⟩
            · cases h
        · cases h
      all_goals
        split at h
        · split at h
          · split at h
            · cases h
            · split at h <;> cases h
          · cases h
        · cases h
    · cases h
  all_goals
    exfalso
    revert h
    (repeat' split) <;> simp [Option.bind_eq_some_iff, Option.map_eq_some_iff]
    try (intro q _ h; revert h; split <;> simp)
theorem repl_row_inv' {w : World} {C : Ctx} {l : Nat → Option LObj} {v : Value} {k n : Nat} (h : RepL w C l v (.row k n)) : ∀ e sz xs fz, l k = some (.row e sz xs fz) → xs.length = n → v = C.cur k := by cases h; assumption
def NilOk (look : Nat → Option LObj) : LV → Option (Bool → Prop)
  | .p .nilsl => some fun b => b = true
  | .p (.sl _ xs) => some fun b => b = true → xs = []
  | .row k n => match look k with
    | some (.row _ _ xs _) => if n = xs.length then some (fun b => b = true → xs = []) else none
    | _ => none
  | _ => none
section
variable {X : Fx} {C : Ctx} {tr : List (List PV)} {stop : Bool} {a : Act} {w : World} {P : Program} {s : St} {o : RO} {oper : Oper} {ops : Array Oper} {N : Nat}
theorem nilOk_sound (h : RelC X C s.get s.look tr stop a w) {v : Value} {q : LV} {R : Bool → Prop} (hr : RepL w C s.look v q) (hn : NilOk s.look q = some R) : ∃ ad n c, v = .slice ad n c ∧ R ad.isNone := by
  unfold NilOk at hn
  split at hn
  · injection hn with hn; subst hn
    have := repl_p_inv hr
    cases this
    exact ⟨none, 0, 0, rfl, rfl⟩
  · injection hn with hn; subst hn
    have := repl_p_inv hr
    cases this
    · exact ⟨none, 0, 0, rfl, fun _ => rfl⟩
    · exact ⟨some _, _, _, rfl, fun e => by simp at e⟩
  · split at hn
    · rename_i k n _ e sz xs fz hk
      split at hn
      · rename_i hlen
        injection hn with hn; subst hn
        have hv := repl_row_inv' hr e sz xs fz hk hlen.symm
        obtain ⟨us, how, _⟩ := h.obj k _ hk
        rcases how.2 with ⟨f1, f2⟩ | ⟨gb, cap, cur, f1, _⟩
        · exact ⟨none, 0, 0, by rw [hv, f1], fun _ => List.eq_nil_of_length_eq_zero (by simpa using f2)⟩
        · exact ⟨_, _, _, by rw [hv, f1], fun e => by simp at e⟩
      · cases hn
    · cases hn
  · cases hn
theorem isnil_exec {op : BinOp} {t t' e : TypeId} {x y : Operand} {ad : Option Addr} {n c : Nat} (ho : oper.op = .binOp op t x y t') (ht : P.underlying t = some (.slice e)) (hx : a.eval x = .slice ad n c) (hy : a.eval y = .slice none 0 0) (ng : Bool) (hop : op = if ng then .neq else .eql) :
    (execOp a.eval oper).run P w = .ok (.value (.bool (if ng then !ad.isNone else ad.isNone))) w := by
  have hgd : (eqGuard op t x y (.slice ad n c) (.slice none 0 0)).run P w = .ok () w := eqGuard_plain rfl
  have he := Lib.run_equalIn_slice_nil w 9999 t e ad n c 0 0 ht
  subst hop
  cases ng with
  | false =>
    simp only [Bool.false_eq_true, if_false] at hgd ho ⊢
    simp only [execOp, ho, hx, hy, Sem.run_bind, hgd, Result.andThen_ok, binOp, Op.equal, Op.maxDepth, he, Sem.run_pure]
  | true =>
    simp only [if_true] at hgd ho ⊢
    simp only [execOp, ho, hx, hy, Sem.run_bind, hgd, Result.andThen_ok, binOp, Op.equal, Op.maxDepth, he, Sem.run_pure]
def NilOp (s : St) (o : RO) (ng : Bool) (R : Bool → Prop) : Prop := ∃ x, o.op = .isnil ng ∧ o.args = [x] ∧ o.guard = none ∧ NilOk s.look (x.ev s) = some R
theorem isnil_sound {ro : Option Nat} {ng : Bool} {R : Bool → Prop} (hs : NilOp s o ng R) (hc : compRO P N ops oper = some o) (hN : X.N = N) (h : RelC X C s.get s.look tr stop a w) {K : Act → World → Prop} {Q : Exit → Act → World → Prop}
    (hK : ∀ b, R b → ∀ C' a' w', RelC X C' (s.set o.dst (.p (.b (if ng then !b else b)))).get (s.set o.dst (.p (.b (if ng then !b else b)))).look tr stop a' w' → K a' w') :
    if Region.wanted oper (yielded ops a.tmps) then oper.wpIn (wideR ro) 0 P a w K Q else (∀ f, oper.about P w a.eval = some f → (wideR ro).fn f) ∧ K (a.put oper.dst undef) w := by
  obtain ⟨x, ho, ha, hg, hn⟩ := hs
  have hr := compRO_ok hc
  have hdst : ∀ k, o.dst = some k → k < X.N := fun k hk => by rw [hN]; exact hr.hdst k (by rw [← hr.hd]; exact hk)
  have hgo : gOf s o.guard = some true := by rw [hg]; rfl
  rw [wanted_of h hr hgo, if_pos rfl]
  have hc' := hr.hc
  rw [ho, ha] at hc'
  obtain ⟨t, x0, y0, t', x', e, hop, ht, hx, hy, hl⟩ := comp_isnil hc'
  injection hl with hl _
  subst hl
  obtain ⟨e1, _⟩ := aopd_eval h rfl hx
  obtain ⟨ad, n, c, hv, hR⟩ := nilOk_sound h e1 hn
  obtain ⟨e2, _⟩ := aopd_eval h rfl hy
  have hyv : a.eval y0 = .slice none 0 0 := by
    have := repl_p_inv (show RepL w C s.look (a.eval y0) (.p .nilsl) from e2)
    generalize a.eval y0 = yv at this
    cases this; rfl
  refine wpIn_value (comp_nodefer hr.hc) (.inl (isnil_exec hop ht hv hyv ng rfl)) ?_
  rw [← hr.hd]
  exact hK _ hR _ _ _ (put_dst h hdst (.p (.b _)) (.p _))
end
end Go.Proofs.YtcfbdeghmckelaaGreat
namespace Go.Proofs.YtcfbdeghmckelaaGreat
open Go.RowKit
inductive AExit where
  | normal
  | exit (id : Nat)
  | ret
abbrev APost := AExit → St → Prop
structure Cfg where
  P : Program
  X : Fx
  ro : Option Nat
  ts : List (List PV)
structure Cfg.Ok (G : Cfg) : Prop where
  mok : G.X.MOk
  yok : G.ts = [] ∨ (YieldsOk G.P G.X G.ts ∧ JClosed G.X.J G.X.Jx)
  lok : ∀ l, G.ro = some l → ∃ r, (l, Obj.loop r) ∈ G.X.K
def aPost (Q : APost) : Exit → St → Prop
  | .normal, s => Q .normal s
  | .exit id, s => Q (.exit id) s
  | .ret, s => Q .ret s
  | _, _ => False
def QQ (G : Cfg) (Q : APost) (e : Exit) (a : Act) (w : World) : Prop := ∃ s C, RelC G.X C s.get s.look s.tr s.stop a w ∧ aPost Q e s
theorem stepR_scope {P : Program} {b : Frame} {a : Act} {k : List Item} {cs : List Frame} {w : World} {c : Code} : step P (lone (b.atR a (.code (.scope c) :: k)) cs w) = .next (lone (b.atR a (.code c :: .inScope c :: k)) cs w) :=
  step_lone_go (by simp [stepG, stepG.exec, Frame.atR])
theorem stepR_inScope {P : Program} {b : Frame} {a : Act} {k : List Item} {cs : List Frame} {w : World} {c : Code} : step P (lone (b.atR a (.inScope c :: k)) cs w) = .next (lone (b.atR a k) cs w) :=
  step_lone_go (by simp [stepG, stepG.exec, Frame.atR])
theorem wpIn_scope_straight {F : Fence} {n : Nat} {P : Program} {Q : Exit → Act → World → Prop} {a : Act} {w : World} {c : Code} (h : c.wpIn F n P (Exit.noGoto Q) a w) : (Code.scope c).wpIn F n P Q a w := by
  intro b k cs hro hb hr
  have h0 : (lone (b.atR a (.code (.scope c) :: k)) cs w).fenced P F := fenced_calm hb hr rfl
  obtain ⟨e, a₁, w₁, hq, harr⟩ := h b (.inScope c :: k) cs hro hb hr
  cases e with
  | normal => exact ⟨.normal, a₁, w₁, hq, .head h0 stepR_scope (StepsIn.trans harr (.one (fenced_calm hb hr rfl) stepR_inScope))⟩
  | exit id =>
    have hx : exitTo id (.inScope c :: k) = exitTo id k := by simp [exitTo]
    exact ⟨.exit id, a₁, w₁, hq, fun k' hk => .head h0 stepR_scope (harr.1 k' (by rw [hx]; exact hk)), fun hr' hk => let ⟨k₁, h1, h2⟩ := harr.2 hr' (by rw [hx]; exact hk); ⟨k₁, h1, .head h0 stepR_scope h2⟩⟩
  | goto l => exact hq.elim
  | ret => exact ⟨_, a₁, w₁, hq, .of_steps (.one h0 stepR_scope) harr⟩
  | panic ch => exact ⟨_, a₁, w₁, hq, .of_steps (.one h0 stepR_scope) harr⟩
  | outgrown => exact ⟨_, a₁, w₁, hq, .of_steps (.one h0 stepR_scope) harr⟩
def Run (G : Cfg) (c : AC) (s : St) (Q : APost) : Prop :=
  G.Ok → ∀ code, compile G.P G.X.N code = some c → ∀ C a w, RelC G.X C s.get s.look s.tr s.stop a w → code.wpIn (wideR G.ro) 0 G.P (QQ G Q) a w
def dKeys (look : Nat → Option LObj) : Nat → LV → List Nat
  | 0, _ => []
  | m + 1, q => match q with
    | .lp k _ => k :: (match look k with | some (.box cs _) => cs.flatMap (dKeys look m) | _ => [])
    | .row k _ => [k]
    | .ep k _ _ _ => [k]
    | .it k => [k]
    | .lm k => [k]
    | .fn _ a b => a.flatMap (dKeys look m) ++ b.flatMap (dKeys look m)
    | .agg cs => cs.flatMap (dKeys look m)
    | _ => []
def AOpd.tmps : AOpd → List Nat
  | .t n => [n]
  | .c _ => []
def gTmp : Option (Nat × Bool) → List Nat
  | some (t, _) => [t]
  | none => []
def rdT (o : RO) : List Nat := gTmp o.guard ++ o.args.flatMap AOpd.tmps
def rdO (s : St) (o : RO) : List Nat :=
  match o.op with
  | .mv | .pick => []
  | _ => (uns (rawIns s o.args)).flatMap (dKeys s.look 5)
structure Ft where
  wt : List Nat
  rt : List Nat
  wo : List Nat
  ro : List Nat
  af : List Nat
  yl : Bool
def ftOf (s : St) (o : RO) (wr : List (Nat × LObj)) : Ft := ⟨o.dst.toList, rdT o, o.dst.getD 0 :: wr.map (·.1), rdO s o, o.after, false⟩
def accU (dr : Bool) (acc : List Ft) (s : St) (o : RO) (wr : List (Nat × LObj)) : List Ft :=
  match dr with
  | true => ftOf s o wr :: acc
  | false => acc
def accY (dr : Bool) (acc : List Ft) (o : RO) : List Ft :=
  match dr with
  | true => ⟨o.dst.toList, rdT o, [], [], o.after, true⟩ :: acc
  | false => acc
def RunOps (P : Program) (ts : List (List PV)) (dr : Bool) (K : St → List Ft → Prop) : List RO → St → List Ft → Prop
  | [], s, acc => K s acc
  | o :: r, s, acc => (∃ v wr, OpSem P s o v wr ∧ RunOps P ts dr K r ((s.wrs wr).set o.dst v) (accU dr acc s o wr)) ∨ (∃ t ks, YOp ts s o t ks ∧ ∀ b, RunOps P ts dr K r (ySt s o t ks b) (accY dr acc o)) ∨ (dr = false ∧ ∃ ng R, NilOp s o ng R ∧ ∀ b : Bool, R b → RunOps P ts dr K r (s.set o.dst (.p (.b (if ng then !b else b)))) acc)
theorem runOps_nil {P : Program} {ts : List (List PV)} {dr : Bool} {K : St → List Ft → Prop} {s : St} {acc : List Ft} : RunOps P ts dr K [] s acc = K s acc := rfl
def orSkip (g : Option (Nat × Bool)) (c : Bool) : Option (Prop × LV × Option (Nat × LObj)) → Option (Prop × LV × Option (Nat × LObj))
  | some x => some x
  | none => match c with
    | true => none
    | false => some (True, fin g false (.p (.b false)), none)
theorem orSkip_ok {P : Program} {s : St} {o : RO} {c : Bool} {x : Option (Prop × LV × Option (Nat × LObj))} {pre : Prop} {v : LV} {wr : Option (Nat × LObj)} (hc : gOf s o.guard = some c) (h : orSkip o.guard c x = some (pre, v, wr)) : x = some (pre, v, wr) ∨ OpSem P s o v wr.toList := by
  cases x with
  | some x => exact .inl h
  | none =>
    cases c with
    | true => cases h
    | false =>
      simp only [orSkip] at h
      injection h with h; injection h with h1 h; injection h with h2 h3
      subst h2; subst h3
      exact .inr (.callN hc)
def stepO (s : St) (o : RO) : Option (Prop × LV × Option (Nat × LObj)) :=
  match gOf s o.guard with
  | none => none
  | some c => match o.op, o.args with
    | .mv, [x] => some (True, fin o.guard c (x.ev s), none)
    | .pick, [x, y, z] => orSkip o.guard c ((pickL (x.ev s) (y.ev s) (z.ev s)).map fun r => ((c = true → (x.ev s).cnd = true ∧ r.1), fin o.guard c (.p r.2), none))
    | _, _ => orSkip o.guard c ((evalOp (o.dst.getD 0) s.look o.op (uns (rawIns s o.args))).map fun r =>
        ((c = true → cnds (rawIns s o.args) = true ∧ r.1) ∧ (r.2.wr.isSome = true → c = true) ∧ (r.2.nw = true → s.look (o.dst.getD 0) = none), fin o.guard c r.2.val, r.2.wr))
theorem stepO_sem {P : Program} {s : St} {o : RO} {pre : Prop} {v : LV} {wr : Option (Nat × LObj)} (h : stepO s o = some (pre, v, wr)) (hp : pre) : OpSem P s o v wr.toList := by
  unfold stepO at h
  split at h
  · cases h
  · rename_i c hc
    split at h
    · rename_i x ho ha
      injection h with h; injection h with h1 h; injection h with h2 h3
      subst h2; subst h3
      exact .mv ho ha hc
    · rename_i x y z ho ha
      rcases orSkip_ok hc h with h | h
      rotate_left
      · exact h
      obtain ⟨r, hr, h⟩ := Option.map_eq_some_iff.1 h
      injection h with h1 h; injection h with h2 h3
      subst h1; subst h2; subst h3
      exact .pick ho ha hc hr hp
    · rcases orSkip_ok hc h with h | h
      rotate_left
      · exact h
      obtain ⟨r, hr, h⟩ := Option.map_eq_some_iff.1 h
      injection h with h1 h; injection h with h2 h3
      subst h1; subst h2; subst h3
      exact .ev hc hr hp.1 hp.2.1 hp.2.2
def runS (dr : Bool) (K : List RO → St → List Ft → Prop) : List RO → St → List Ft → Prop
  | [], s, acc => K [] s acc
  | o :: r, s, acc => match o.op with
    | .call _ | .callv | .isnil _ => K (o :: r) s acc
    | _ => match stepO s o with
      | some (pre, v, wr) => pre ∧ runS dr K r ((s.wrs wr.toList).set o.dst v) (accU dr acc s o wr.toList)
      | none => False
theorem run_ops {P : Program} {ts : List (List PV)} {dr : Bool} {K : St → List Ft → Prop} : ∀ {l : List RO} {s : St} {acc : List Ft}, runS dr (RunOps P ts dr K) l s acc → RunOps P ts dr K l s acc
  | [], s, acc, h => h
  | o :: r, s, acc, h => by
    unfold runS at h
    have key : (match stepO s o with | some (pre, v, wr) => pre ∧ runS dr (RunOps P ts dr K) r ((s.wrs wr.toList).set o.dst v) (accU dr acc s o wr.toList) | none => False) → RunOps P ts dr K (o :: r) s acc := fun h => by
      split at h
      · rename_i pre v wr he
        exact .inl ⟨v, wr.toList, stepO_sem he h.1, run_ops h.2⟩
      · exact h.elim
    split at h
    · exact h
    · exact h
    · exact h
    · exact key h
theorem run_callA {P : Program} {ts : List (List PV)} {dr : Bool} {K : St → List Ft → Prop} {acc : List Ft} {d : Option Nat} {f : Nat} {args : List AOpd} {gd : Option (Nat × Bool)} {af : List Nat} {r : List RO} {s : St} {vs : List PV} {res : PV} (hf : Pure P f vs res) {c : Bool} {pre : Prop} {ks : List Nat}
    (hc : gOf s gd = some c) (ht : toPVs s.look (uns (rawIns s args)) = some (pre, vs, ks)) (hp : c = true → cnds (rawIns s args) = true ∧ pre) (hfl : res.flat = true ∨ ks = [])
    (hn : RunOps P ts dr K r (s.set d (fin gd c (.p res))) (accU dr acc s ⟨d, .call f, args, gd, af⟩ [])) : RunOps P ts dr K (⟨d, .call f, args, gd, af⟩ :: r) s acc :=
  .inl ⟨_, _, .callA rfl hc ht (fun e => ⟨(hp e).1, (hp e).2, hf⟩) hfl, hn⟩
theorem run_callG {P : Program} {ts : List (List PV)} {dr : Bool} {K : St → List Ft → Prop} {acc : List Ft} {d : Option Nat} {f : Nat} {args : List AOpd} {gd : Option (Nat × Bool)} {af : List Nat} {r : List RO} {s : St} {vs : List PV} {res : PV} {c : Bool} (hf : c = true → Pure P f vs res) {pre : Prop} {ks : List Nat}
    (hc : gOf s gd = some c) (ht : toPVs s.look (uns (rawIns s args)) = some (pre, vs, ks)) (hp : c = true → cnds (rawIns s args) = true ∧ pre) (hfl : res.flat = true ∨ ks = [])
    (hn : RunOps P ts dr K r (s.set d (fin gd c (.p res))) (accU dr acc s ⟨d, .call f, args, gd, af⟩ [])) : RunOps P ts dr K (⟨d, .call f, args, gd, af⟩ :: r) s acc :=
  .inl ⟨_, _, .callA rfl hc ht (fun e => ⟨(hp e).1, (hp e).2, hf e⟩) hfl, hn⟩
theorem run_callB {P : Program} {ts : List (List PV)} {dr : Bool} {K : St → List Ft → Prop} {acc : List Ft} {d : Option Nat} {f : Nat} {args : List AOpd} {af : List Nat} {r : List RO} {s : St} {vs : List PV} {res : PV} (hf : Pure P f vs res) {pre : Prop} {ks : List Nat}
    (ht : toPVs s.look (uns (rawIns s args)) = some (pre, vs, ks)) (hp : cnds (rawIns s args) = true ∧ pre)
    (hn : RunOps P ts dr K r ((s.wrs (frzs s.look ks)).set d (.p res)) (accU dr acc s ⟨d, .call f, args, none, af⟩ (frzs s.look ks))) : RunOps P ts dr K (⟨d, .call f, args, none, af⟩ :: r) s acc :=
  .inl ⟨_, _, .callB rfl rfl ht hp.1 hp.2 hf, hn⟩
theorem run_callV {P : Program} {ts : List (List PV)} {dr : Bool} {K : St → List Ft → Prop} {acc : List Ft} {d : Option Nat} {f : Nat} {args : List AOpd} {gd : Option (Nat × Bool)} {af : List Nat} {r : List RO} {s : St} {fs cs vs : List PV} {res : PV} {c : Bool} {pre : Prop} {ks : List Nat}
    (hc : gOf s gd = some c) (ht : toPVs s.look (uns (rawIns s args)) = some (pre, .fn (.func f) fs cs :: vs, ks)) (hp : c = true → cnds (rawIns s args) = true ∧ pre ∧ Pure P f (fs ++ vs ++ cs) res) (hfl : res.flat = true ∨ ks = [])
    (hn : RunOps P ts dr K r (s.set d (fin gd c (.p res))) (accU dr acc s ⟨d, .callv, args, gd, af⟩ [])) : RunOps P ts dr K (⟨d, .callv, args, gd, af⟩ :: r) s acc :=
  .inl ⟨_, _, .callV rfl hc ht hp hfl, hn⟩
theorem run_callS {P : Program} {ts : List (List PV)} {dr : Bool} {K : St → List Ft → Prop} {acc : List Ft} {d : Option Nat} {f : Nat} {args : List AOpd} {af : List Nat} {r : List RO} {s : St} (m : Nat → Nat) {vs : List LV} {obj obj' : List (Nat × LObj)} {res : LV} (hf : Acts P f vs obj res obj')
    (ha : uns (rawIns s args) = rens m vs) (hp : cnds (rawIns s args) = true) (hl : Lent s m obj obj')
    (hn : RunOps P ts dr K r ((s.wrs (renO m obj')).set d (res.ren m)) (accU dr acc s ⟨d, .call f, args, none, af⟩ (renO m obj'))) : RunOps P ts dr K (⟨d, .call f, args, none, af⟩ :: r) s acc :=
  .inl ⟨_, _, .callS rfl rfl ha hp hf hl, hn⟩
theorem run_callN {P : Program} {ts : List (List PV)} {dr : Bool} {K : St → List Ft → Prop} {acc : List Ft} {d : Option Nat} {args : List AOpd} {gd : Option (Nat × Bool)} {af : List Nat} {r : List RO} {s : St} (q : PV)
    (hc : gOf s gd = some false) (hn : RunOps P ts dr K r (s.set d (fin gd false (.p q))) (accU dr acc s ⟨d, .callv, args, gd, af⟩ [])) : RunOps P ts dr K (⟨d, .callv, args, gd, af⟩ :: r) s acc :=
  .inl ⟨_, _, .callN hc, hn⟩
theorem run_yld {P : Program} {ts : List (List PV)} {dr : Bool} {K : St → List Ft → Prop} {acc : List Ft} {d : Option Nat} {fa : AOpd} {rest : List AOpd} {gd : Option (Nat × Bool)} {af : List Nat} {r : List RO} {s : St} {t : List PV} {ks : List Nat} {pre : Prop}
    (hc : gOf s gd = some true) (hfa : (fa.ev s).un = .yield ∧ (fa.ev s).cnd = true) (ht : toPVs s.look (uns (rawIns s rest)) = some (pre, t, ks)) (hp : cnds (rawIns s rest) = true ∧ pre) (hst : s.stop = false) (post : List (List PV)) (hts : ts = s.tr ++ t :: post)
    (hn : ∀ b, RunOps P ts dr K r (ySt s ⟨d, .callv, fa :: rest, gd, af⟩ t ks b) (accY dr acc ⟨d, .callv, fa :: rest, gd, af⟩)) : RunOps P ts dr K (⟨d, .callv, fa :: rest, gd, af⟩ :: r) s acc :=
  .inr (.inl ⟨t, ks, ⟨rfl, hc, fa, rest, pre, rfl, hfa, ht, hp.1, hp.2, hst, post, hts⟩, hn⟩)
theorem run_isnil {P : Program} {ts : List (List PV)} {K : St → List Ft → Prop} {acc : List Ft} {d : Option Nat} {ng : Bool} {x : AOpd} {af : List Nat} {r : List RO} {s : St} {R : Bool → Prop} (hn : NilOk s.look (x.ev s) = some R)
    (h : ∀ b : Bool, R b → RunOps P ts false K r (s.set d (.p (.b (if ng then !b else b)))) acc) : RunOps P ts false K (⟨d, .isnil ng, [x], none, af⟩ :: r) s acc :=
  .inr (.inr ⟨rfl, ng, R, ⟨x, rfl, rfl, rfl, hn⟩, h⟩)
section
variable {G : Cfg} {s : St} {Q : APost}
theorem runOps_wp {P : Program} {ts : List (List PV)} {ro : Option Nat} {X : Fx} {dr : Bool} {K : St → List Ft → Prop} {QX : Exit → Act → World → Prop} {ops : Array Oper} (hM : X.MOk) (hy : ts = [] ∨ (YieldsOk P X ts ∧ JClosed X.J X.Jx))
    (hK : ∀ s acc C a w, K s acc → RelC X C s.get s.look s.tr s.stop a w → QX .normal a w) :
    ∀ {os : List Oper} {l : List RO} {s : St} {acc : List Ft}, compOps P X.N ops os = some l → RunOps P ts dr K l s acc → ∀ {C : Ctx} {a : Act} {w : World}, RelC X C s.get s.look s.tr s.stop a w → wpListIn (wideR ro) 0 P ops QX os a w
  | [], l, s, acc, hc, hr, C, a, w, h => by
    simp [compOps] at hc; subst hc
    exact hK s acc C a w hr h
  | o :: os, l, s, acc, hc, hr, C, a, w, h => by
    simp only [compOps] at hc
    split at hc
    · rename_i x xs hx hxs
      injection hc with hc; subst hc
      rcases hr with ⟨v, wr, hs, hr⟩ | ⟨t, ks, hs, hr⟩ | ⟨_, ng, R, hs, hr⟩
      · refine opSem_sound hs hx rfl hM h fun C' a' w' h' => ?_
        exact runOps_wp hM hy hK hxs hr (by rw [(tr_set _ _ _).1, (tr_wrs _ _).1, (tr_set _ _ _).2, (tr_wrs _ _).2]; exact h')
      · rcases hy with hy | ⟨hy, hj⟩
        · obtain ⟨_, _, _, _, _, _, _, _, _, _, _, post, hts⟩ := hs
          rw [hy] at hts
          simp at hts
        · refine yield_sound hs hx rfl hM hy hj h fun b C' a' w' h' => ?_
          refine runOps_wp hM (.inr ⟨hy, hj⟩) hK hxs (hr b) (C := C') ?_
          have e1 : (ySt s x t ks b).tr = s.tr ++ [t] := (tr_set _ _ _).1
          have e2 : (ySt s x t ks b).stop = !b := (tr_set _ _ _).2
          rw [e1, e2]; exact h'
      · refine isnil_sound hs hx rfl h fun b hb C' a' w' h' => ?_
        exact runOps_wp hM hy hK hxs (hr b hb) (by rw [(tr_set _ _ _).1, (tr_set _ _ _).2]; exact h')
    · cases hc
theorem run_skip (h : Q .normal s) : Run G .skip s Q := by
  intro hG code hc C a w hr
  cases code <;> simp only [compile, Option.map_eq_some_iff] at hc <;> first | (exact wpIn_skip ⟨s, C, hr, h⟩) | skip
  all_goals first | (cases hc; done) | (obtain ⟨_, _, hc⟩ := hc; cases hc; done) | (split at hc <;> cases hc; done)
def seqK (G : Cfg) (b : AC) (Q : APost) : APost
  | .normal, s => Run G b s Q
  | e, s => Q e s
theorem run_seq {x y : AC} (h : Run G x s (seqK G y Q)) : Run G (.seq x y) s Q := by
  intro hG code hc C a w hr
  cases code <;> simp only [compile, Option.map_eq_some_iff] at hc
  case seq c1 c2 =>
    split at hc
    · rename_i x' y' h1 h2
      injection hc with hc; injection hc with e1 e2; subst e1; subst e2
      refine wpIn_seq (wpIn_mono (h hG c1 h1 C a w hr) ?_)
      rintro e a' w' ⟨s', C', hr', hq⟩
      cases e with
      | normal => exact hq hG c2 h2 C' a' w' hr'
      | exit id => exact ⟨s', C', hr', hq⟩
      | ret => exact ⟨s', C', hr', hq⟩
      | goto l => exact hq.elim
      | panic c => exact hq.elim
      | outgrown => exact hq.elim
    · cases hc
  all_goals first | (cases hc; done) | (obtain ⟨_, _, hc⟩ := hc; cases hc; done) | (split at hc <;> cases hc; done)
theorem run_cond {x y : AC} {c : AOpd} {t : Bool} (ht : c.ev s = .p (.b t)) (h1 : t = true → Run G x s Q) (h2 : t = false → Run G y s Q) : Run G (.cond c x y) s Q := by
  intro hG code hc C a w hr
  cases code <;> simp only [compile, Option.map_eq_some_iff] at hc
  case cond c0 c1 c2 =>
    split at hc
    · rename_i c' x' y' hc0 e1 e2
      injection hc with hc; injection hc with f0 f1 f2; subst f0; subst f1; subst f2
      have hv := (aopd_eval hr rfl hc0).1
      rw [ht] at hv
      have hv := repl_p_inv hv
      generalize hxv : a.eval c0 = xv at hv
      cases hv
      exact wpIn_cond_split hxv (fun e => h1 e hG c1 e1 C a w hr) (fun e => h2 e hG c2 e2 C a w hr)
    · cases hc
  all_goals first | (cases hc; done) | (obtain ⟨_, _, hc⟩ := hc; cases hc; done) | (split at hc <;> cases hc; done)
def blockK (id : Nat) (Q : APost) : APost
  | .normal, s => Q .normal s
  | .exit i, s => if i = id then Q .normal s else Q (.exit i) s
  | .ret, s => Q .ret s
theorem run_block {x : AC} {id : Nat} (h : Run G x s (blockK id Q)) : Run G (.block id x) s Q := by
  intro hG code hc C a w hr
  cases code <;> simp only [compile, Option.map_eq_some_iff] at hc
  case block i c1 =>
    obtain ⟨x', h1, hc⟩ := hc
    injection hc with e1 e2; subst e1; subst e2
    refine wpIn_block (wpIn_mono (h hG c1 h1 C a w hr) ?_)
    rintro e a' w' ⟨s', C', hr', hq⟩
    cases e with
    | normal => exact ⟨s', C', hr', hq⟩
    | exit j =>
      simp only [aPost, blockK] at hq
      simp only [Exit.inBlock]
      split at hq
      · rename_i e; rw [if_pos e]; exact ⟨s', C', hr', hq⟩
      · rename_i e; rw [if_neg e]; exact ⟨s', C', hr', hq⟩
    | ret => exact ⟨s', C', hr', hq⟩
    | goto l => exact hq.elim
    | panic c => exact hq.elim
    | outgrown => exact hq.elim
  all_goals first | (cases hc; done) | (obtain ⟨_, _, hc⟩ := hc; cases hc; done) | (split at hc <;> cases hc; done)
theorem run_exit {id : Nat} (h : Q (.exit id) s) : Run G (.exit id) s Q := by
  intro hG code hc C a w hr
  cases code <;> simp only [compile, Option.map_eq_some_iff] at hc
  case exit i =>
    injection hc with hc; injection hc with hc; subst hc
    exact wpIn_exit ⟨s, C, hr, h⟩
  all_goals first | (cases hc; done) | (obtain ⟨_, _, hc⟩ := hc; cases hc; done) | (split at hc <;> cases hc; done)
theorem run_ret (h : Q .ret s) : Run G .ret s Q := by
  intro hG code hc C a w hr
  cases code <;> simp only [compile, Option.map_eq_some_iff] at hc <;> first | (exact wpIn_ret ⟨s, C, hr, h⟩) | skip
  all_goals first | (cases hc; done) | (obtain ⟨_, _, hc⟩ := hc; cases hc; done) | (split at hc <;> cases hc; done)
theorem run_label (h : Q .normal s) : Run G .label s Q := by
  intro hG code hc C a w hr
  cases code <;> simp only [compile, Option.map_eq_some_iff] at hc <;> first | (exact wpIn_label ⟨s, C, hr, h⟩) | skip
  all_goals first | (cases hc; done) | (obtain ⟨_, _, hc⟩ := hc; cases hc; done) | (split at hc <;> cases hc; done)
theorem run_scope {x : AC} (h : Run G x s Q) : Run G (.scope x) s Q := by
  intro hG code hc C a w hr
  cases code <;> simp only [compile, Option.map_eq_some_iff] at hc
  case scope c1 =>
    obtain ⟨x', h1, hc⟩ := hc
    injection hc with e1; subst e1
    refine wpIn_scope_straight (wpIn_mono (h hG c1 h1 C a w hr) ?_)
    rintro e a' w' ⟨s', C', hr', hq⟩
    cases e with
    | goto l => exact hq.elim
    | _ => exact ⟨s', C', hr', hq⟩
  all_goals first | (cases hc; done) | (obtain ⟨_, _, hc⟩ := hc; cases hc; done) | (split at hc <;> cases hc; done)
theorem run_region {l : List RO} (h : RunOps G.P G.ts false (fun s _ => Q .normal s) l s []) : Run G (.ops false l) s Q := by
  intro hG code hc C a w hr
  cases code <;> simp only [compile, Option.map_eq_some_iff] at hc
  case region id ops draw =>
    obtain ⟨l', h1, hc⟩ := hc
    injection hc with e1 e2; subst e1; subst e2
    exact wpIn_region_list (runOps_wp hG.mok hG.yok (fun s' acc C' a' w' hk hr' => ⟨s', C', hr', hk⟩) h1 h hr)
  all_goals first | (cases hc; done) | (obtain ⟨_, _, hc⟩ := hc; cases hc; done) | (split at hc <;> cases hc; done)
mutual
def scP (look : Nat → Option LObj) : LV → Prop
  | .p _ | .yield | .any => True
  | .g c q => c = true → scP look q
  | .lp k _ => match look k with | some (.box _ _) => True | _ => False
  | .row k n => match look k with | some (.row _ _ xs _) => n ≤ xs.length | _ => False
  | .ep k n _ _ => match look k with | some (.row _ _ xs _) => n ≤ xs.length | _ => False
  | .it k => match look k with | some (.sit _ _) => True | _ => False
  | .lm k => match look k with | some (.mp _ _) => True | _ => False
  | .fn _ a b => scPs look a ∧ scPs look b
  | .agg cs => scPs look cs
def scPs (look : Nat → Option LObj) : List LV → Prop
  | [] => True
  | q :: r => scP look q ∧ scPs look r
end
theorem scPs_get {look : Nat → Option LObj} : ∀ {l : List LV}, scPs look l → ∀ (j : Nat) (q : LV), l[j]? = some q → scP look q
  | [], _, j, q, hq => by simp at hq
  | x :: r, h, j, q, hq => by
    simp only [scPs] at h
    cases j with
    | zero => simp at hq; subst hq; exact h.1
    | succ j => exact scPs_get h.2 j q (by simpa using hq)
theorem scP_sc {look : Nat → Option LObj} : ∀ (n : Nat) (q : LV), SizeOf.sizeOf q ≤ n → scP look q → LV.Sc look q := by
  intro n
  induction n with
  | zero => intro q hq; cases q <;> simp at hq <;> omega
  | succ n ih =>
    intro q hq h
    have ls : ∀ {l : List LV}, SizeOf.sizeOf l ≤ n → scPs look l → ∀ (j : Nat) (q : LV), l[j]? = some q → LV.Sc look q := fun {l} hl hs j q hj => by
      have := List.sizeOf_lt_of_mem (List.mem_of_getElem? hj)
      exact ih q (by omega) (scPs_get hs j q hj)
    cases q with
    | p v => exact .p v
    | g c v => simp only [scP] at h; exact .g fun hc => ih v (by simp at hq; omega) (h hc)
    | yield => exact .yield
    | any => exact .any
    | lp k off => simp only [scP] at h; split at h; · exact .lp ‹_›
                  · exact h.elim
    | row k m => simp only [scP] at h; split at h; · exact .row ‹_› h
                 · exact h.elim
    | ep k m i off => simp only [scP] at h; split at h; · exact .ep ‹_› h
                      · exact h.elim
    | it k => simp only [scP] at h; split at h; · exact .it ‹_›
              · exact h.elim
    | lm k => simp only [scP] at h; split at h; · exact .lm ‹_›
              · exact h.elim
    | fn f b c => simp only [scP] at h; simp at hq; exact .fn (ls (by omega) h.1) (ls (by omega) h.2)
    | agg cs => simp only [scP] at h; simp at hq; exact .agg (ls (by omega) h)
def covEnv (s : St) : List (Nat × LV) → Prop
  | [] => True
  | (t, v) :: r => s.get t = v ∧ covEnv s r
def covObj (s : St) : List (Nat × LObj) → Prop
  | [] => True
  | (k, o) :: r => s.look k = some o ∧ covObj s r
def scEnv (look : Nat → Option LObj) : List (Nat × LV) → Prop
  | [] => True
  | (_, v) :: r => scP look v ∧ scEnv look r
def scObj (look : Nat → Option LObj) : List (Nat × LObj) → Prop
  | [] => True
  | (_, .box cs _) :: r => scPs look cs ∧ scObj look r
  | _ :: r => scObj look r
def Cov (s s' : St) : Prop := covEnv s s'.env ∧ covObj s s'.obj ∧ scEnv s'.look s'.env ∧ scObj s'.look s'.obj ∧ s'.tr = s.tr ∧ s'.stop = s.stop
theorem covEnv_get {s : St} : ∀ {l : List (Nat × LV)}, covEnv s l → ∀ t, aget l t = s.get t ∨ aget l t = .any
  | [], _, t => .inr rfl
  | (k, v) :: r, h, t => by
    simp only [aget]
    split
    · rename_i e; subst e; exact .inl h.1.symm
    · exact covEnv_get h.2 t
theorem covObj_look {s : St} : ∀ {l : List (Nat × LObj)}, covObj s l → ∀ k o, oget l k = some o → s.look k = some o
  | [], _, k, o, h => by simp [oget] at h
  | (j, u) :: r, h, k, o, ho => by
    simp only [oget] at ho
    split at ho
    · rename_i e; subst e; injection ho with ho; subst ho; exact h.1
    · exact covObj_look h.2 k o ho
theorem scEnv_get {look : Nat → Option LObj} : ∀ {l : List (Nat × LV)}, scEnv look l → ∀ t, LV.Sc look (aget l t)
  | [], _, t => .any
  | (k, v) :: r, h, t => by
    simp only [aget]
    split
    · exact scP_sc _ v (Nat.le_refl _) h.1
    · exact scEnv_get h.2 t
theorem scObj_look {look : Nat → Option LObj} : ∀ {l : List (Nat × LObj)}, scObj look l → ∀ k o, oget l k = some o → LObj.Sc look o
  | [], _, k, o, h => by simp [oget] at h
  | (j, u) :: r, h, k, o, ho => by
    simp only [oget] at ho
    split at ho
    · injection ho with ho; subst ho
      cases u <;> try trivial
      exact fun j q hq => scP_sc _ q (Nat.le_refl _) (scPs_get h.1 j q hq)
    · refine scObj_look ?_ k o ho
      cases u <;> first | exact h.2 | exact h
theorem cov_rel {X : Fx} {C : Ctx} {a : Act} {w : World} {s s' : St} (hc : Cov s s') (h : RelC X C s.get s.look s.tr s.stop a w) : RelC X C s'.get s'.look s'.tr s'.stop a w := by
  obtain ⟨h1, h2, h3, h4, h5, h6⟩ := hc
  rw [h5, h6]
  exact (h.forget (g' := s'.get) (covEnv_get h1)).drop (covObj_look h2) (scEnv_get h3) (scObj_look h4)
theorem run_keep {c : AC} (s' : St) (hc : Cov s s') (h : Run G c s' Q) : Run G c s Q :=
  fun hG code hcc C a w hr => h hG code hcc C a w (cov_rel hc hr)
def loopK {κ : Type} (inv : κ → St) (ok : κ → Prop) (μ : κ → Nat) (k : κ) (Q : APost) : APost
  | .normal, s => ∃ k', ok k' ∧ μ k' < μ k ∧ Cov s (inv k')
  | e, s => Q e s
theorem least_of (S : Act → World → Nat → Prop) : ∃ f : Act → World → Nat, ∀ a w, (∃ n, S a w n) → S a w (f a w) ∧ ∀ n, S a w n → f a w ≤ n := by
  have key : ∀ a w, ∃ m, (∃ n, S a w n) → S a w m ∧ ∀ n, S a w n → m ≤ n := fun a w => by
    by_cases h : ∃ n, S a w n
    · obtain ⟨n, hn⟩ := h
      have : ∀ n, S a w n → ∃ m, S a w m ∧ ∀ j, S a w j → m ≤ j := by
        intro n
        induction n using Nat.strongRecOn with
        | _ n ih =>
          intro hn
          by_cases hl : ∃ j, j < n ∧ S a w j
          · obtain ⟨j, hj, hs⟩ := hl; exact ih j hj hs
          · exact ⟨n, hn, fun j hj => Nat.not_lt.1 fun hlt => hl ⟨j, hlt, hj⟩⟩
      obtain ⟨m, hm⟩ := this n hn
      exact ⟨m, fun _ => hm⟩
    · exact ⟨0, fun e => absurd e h⟩
  exact ⟨fun a w => (key a w).choose, fun a w => (key a w).choose_spec⟩
theorem run_loop {κ : Type} {c : AC} (inv : κ → St) (ok : κ → Prop) (μ : κ → Nat) (k0 : κ) (h0 : Cov s (inv k0)) (hk0 : ok k0) (hbody : ∀ k, ok k → Run G c (inv k) (loopK inv ok μ k Q)) : Run G (.loop c) s Q := by
  intro hG code hc C a w hr
  cases code <;> simp only [compile, Option.map_eq_some_iff] at hc
  case loop c1 =>
    obtain ⟨x', h1, hc⟩ := hc
    injection hc with e1; subst e1
    obtain ⟨m, hm⟩ := least_of fun a w n => ∃ k C, ok k ∧ μ k = n ∧ RelC G.X C (inv k).get (inv k).look (inv k).tr (inv k).stop a w
    refine wpIn_loop (fun a w => ∃ n k C, ok k ∧ μ k = n ∧ RelC G.X C (inv k).get (inv k).look (inv k).tr (inv k).stop a w) m ⟨_, k0, C, hk0, rfl, cov_rel h0 hr⟩ ?_
    intro a w hI
    obtain ⟨⟨k, C, hok, hμ, hr⟩, hmin⟩ := hm a w hI
    refine wpIn_mono (hbody k hok hG c1 h1 C a w hr) ?_
    rintro e a' w' ⟨s', C', hr', hq⟩
    cases e with
    | normal =>
      obtain ⟨k', hok', hlt, hcov⟩ := hq
      have hr2 := cov_rel hcov hr'
      have hex : ∃ n, (fun a w n => ∃ k C, ok k ∧ μ k = n ∧ RelC G.X C (inv k).get (inv k).look (inv k).tr (inv k).stop a w) a' w' n := ⟨_, k', C', hok', rfl, hr2⟩
      refine ⟨hex, ?_⟩
      have := (hm a' w' hex).2 (μ k') ⟨k', C', hok', rfl, hr2⟩
      omega
    | exit id => exact ⟨s', C', hr', hq⟩
    | ret => exact ⟨s', C', hr', hq⟩
    | goto l => exact hq.elim
    | panic c => exact hq.elim
    | outgrown => exact hq.elim
  all_goals first | (cases hc; done) | (obtain ⟨_, _, hc⟩ := hc; cases hc; done) | (split at hc <;> cases hc; done)
end
end Go.Proofs.YtcfbdeghmckelaaGreat
namespace Go.Proofs.YtcfbdeghmckelaaGreat
open Go.RowKit
inductive RV where
  | tmp (t : Nat)
  | cell (a sz : Nat) (ag : Bool)
def compRes (P : Program) : List ResultVar → Option (List RV)
  | [] => some []
  | .tmp t :: r => if t < GB then (compRes P r).map (.tmp t :: ·) else none
  | .cell a t :: r => match szOf P t, aggOf P t, compRes P r with
    | some sz, some ag, some l => if a < GB then some (.cell a sz ag :: l) else none
    | _, _, _ => none
def resL (s : St) : List RV → Option (Prop × List LV)
  | [] => some (True, [])
  | .tmp t :: r => (resL s r).map fun x => (x.1, s.get t :: x.2)
  | .cell a sz ag :: r => match s.get a with
    | .lp k off => match s.look k with
      | some (.box cs _) => (resL s r).map fun x => ((off + sz ≤ cs.length ∧ (ag = false → sz = 1)) ∧ x.1, (if ag then packL ((cs.drop off).take sz) else (cs[off]?).getD .any) :: x.2)
      | _ => none
    | _ => none
def tupOf : List PV → PV
  | [v] => v
  | vs => .tup vs
inductive Weak : PV → PV → Prop
  | refl (v : PV) : Weak v v
  | nilsl (sz : Nat) : Weak .nilsl (.sl sz [])
  | any (v : PV) : Weak v .any
  | tup {xs ys : List PV} : xs.length = ys.length → (∀ (j : Nat) (x y : PV), xs[j]? = some x → ys[j]? = some y → Weak x y) → Weak (.tup xs) (.tup ys)
  | agg {xs ys : List PV} : xs.length = ys.length → (∀ (j : Nat) (x y : PV), xs[j]? = some x → ys[j]? = some y → Weak x y) → Weak (.agg xs) (.agg ys)
theorem Weak.rep {w : World} {B : Nat → Prop} {v : Value} {p q : PV} (h : Weak p q) (hr : Rep w B v p) : Rep w B v q := by
  induction h generalizing v with
  | refl => exact hr
  | nilsl => cases hr; exact .sl0
  | any => exact .any v
  | tup h1 h2 ih =>
    rename_i xs ys
    cases hr with
    | tup e1 e2 =>
      refine .tup (e1.trans h1) fun j v y hv hy => ?_
      have hj : j < xs.length := h1 ▸ (List.getElem?_eq_some_iff.1 hy).1
      exact ih j _ y (List.getElem?_eq_getElem hj) hy (e2 j v _ hv (List.getElem?_eq_getElem hj))
  | agg h1 h2 ih =>
    rename_i xs ys
    cases hr with
    | agg e1 e2 =>
      refine .agg (e1.trans h1) fun j v y hv hy => ?_
      have hj : j < xs.length := h1 ▸ (List.getElem?_eq_some_iff.1 hy).1
      exact ih j _ y (List.getElem?_eq_getElem hj) hy (e2 j v _ hv (List.getElem?_eq_getElem hj))
def RetOk (rs : List RV) (r : PV) (s : St) : Prop :=
  match resL s rs with
  | some (pre, lvs) => match toPVs s.look lvs with
    | some (pre2, vs, _) => pre ∧ pre2 ∧ Weak (tupOf vs) r
    | none => False
  | none => False
def retQ (rs : List RV) (r : PV) : APost
  | .normal, s => RetOk rs r s
  | .ret, s => RetOk rs r s
  | .exit _, _ => False
section
variable {X : Fx} {C : Ctx} {g : Nat → LV} {look : Nat → Option LObj} {tr : List (List PV)} {stop : Bool} {a : Act} {w : World} {P : Program} {s : St}
theorem RelC.unmark (h : RelC X C g look tr stop a w) {d : Deferred} {ds : List Deferred} (hd : a.defers = d :: ds) :
    ∃ r, d.target = .collected r ∧ (Instr.takeDeferred r).run P w = .ok [] (w.putObj r (.deferred none)) ∧ RelC X C g look tr stop { a with defers := ds } (w.putObj r (.deferred none)) := by
  have hm := h.marks
  rw [hd] at hm
  obtain ⟨⟨r, h1, h2, h0, ⟨h3, h4, hdd, h5⟩, h6, h8⟩, hrest⟩ := hm
  refine ⟨r, h1, run_takeDeferred h2, ?_⟩
  have ho : ∀ b, b ≠ r → (w.putObj r (.deferred none)).heap[b]? = w.heap[b]? := fun b hb => World.putObj_heap_other hb
  have hB : ∀ b, C.B b → (w.putObj r (.deferred none)).heap[b]? = w.heap[b]? := fun b hb => ho b fun e => h4 (e ▸ hb)
  have hr : ∀ k e sz xs fz, look k = some (.row e sz xs fz) → ∃ xs' fz', look k = some (.row e sz xs' fz') ∧ (xs'.length = xs.length → C.cur k = C.cur k) ∧ xs.length ≤ xs'.length := fun k e sz xs fz hk => ⟨xs, fz, hk, fun _ => rfl, Nat.le_refl _⟩
  exact {
    kx := h.kx.grown (w' := w.putObj r (.deferred none)) (row := some r) ⟨rfl, rfl, rfl, by simp, fun k hk hne => ho k (fun e => hne (by rw [e]))⟩ (fun k hk => by injection hk with hk; subst hk; exact .inl h0)
    yy := h.yy
    b0 := h.b0
    blt := fun b hb => by simpa using h.blt b hb
    bold := h.bold
    borg := h.borg
    no0 := h.no0
    tsz := h.tsz
    ngb := h.ngb
    env := fun t => (h.env t).same (fun _ h => h) rfl hB (fun _ _ _ => rfl) hr (h.envs t)
    envs := h.envs
    obj := fun k o hk => (h.obj k o hk).same (fun _ h => h) rfl hB (fun _ _ _ => rfl) hr hk (h.objs k o hk) rfl (fun b hb => ho b fun e => h5 k o hk (e ▸ hb))
    objs := h.objs
    sep := fun k o b hk hb => by simpa using h.sep k o b hk hb
    dis := h.dis
    marks := by
      have hne : ∀ x ∈ ds, x.target ≠ .collected r := h6
      clear h6 hd
      induction ds with
      | nil => exact fun p hp => ⟨(ho p.1 (h8 p hp)).trans (hrest p hp).1, (hrest p hp).2⟩
      | cons x ds ih =>
        obtain ⟨⟨r', g1, g2, g0, g3, g4⟩, gr⟩ := hrest
        exact ⟨⟨r', g1, (ho r' fun e => hne x (by simp) (e ▸ g1)).trans g2, g0, g3, g4⟩, ih gr fun y hy => hne y (List.mem_cons_of_mem _ hy)⟩
    nle := by simpa using h.nle
    dn := h.dn
    nn := h.nn
    ow := h.ow
    oold := h.oold
    dold := h.dold
    jj := h.jj.imp id fun ⟨wy, j1, j2⟩ => ⟨wy, j1, j2.trans ⟨rfl, rfl, rfl, by simp, fun k hk => ho k fun e => hdd (e ▸ hk)⟩⟩ }
theorem leaves_of {ro : Option Nat} {fn : Func} {R : Ending → World → Prop} : ∀ (ds : List Deferred) (a : Act) (w : World), a.defers = ds → RelC X C g look tr stop a w →
    (∀ w', RelC X C g look tr stop { a with defers := [] } w' → ∃ v, (results fn a.tmps).run P w' = .ok v w' ∧ R (.returned v) w') → LeavesInM (wideR ro) 0 P fn a.tmps R ds .returning w
  | [], a, w, hd, h, hR => by
    have : a = { a with defers := [] } := by cases a; simp at hd; subst hd; rfl
    rw [this] at h
    exact hR w h
  | d :: ds, a, w, hd, h, hR => by
    obtain ⟨r, h1, h2, h3⟩ := RelC.unmark (P := P) h hd
    exact ⟨by simp, .inl ⟨r, _, h1, h2, leaves_of ds { a with defers := ds } _ rfl h3 hR⟩⟩
theorem load_lp_run (h : RelC X C g look tr stop a w) {t : TypeId} {sz off k : Nat} {ag fz : Bool} {cs : List LV} (hs : szOf P t = some sz) (hag : aggOf P t = some ag) (hk : look k = some (.box cs fz)) (hl : off + sz ≤ cs.length) (h1 : ag = false → sz = 1) :
    ∃ v, (loadVar t ⟨C.ρ k, off, none⟩).run P w = .ok v w ∧ RepL w C look v (if ag then packL ((cs.drop off).take sz) else (cs[off]?).getD .any) ∧ LV.Sc look (if ag then packL ((cs.drop off).take sz) else (cs[off]?).getD .any) := by
  obtain ⟨arr, ty, hg, hr⟩ := box_cells h hk
  have hlen := hr.1
  have hr2 := repsl_take (repsl_drop hr off) sz
  have hrun : (Instr.loadAt t (.pointer (some ⟨C.ρ k, off, none⟩))).run P w = .ok (if ag then .agg ((arr.toList.drop off).take sz).toArray else (((arr.toList.drop off).take sz)[0]?).getD undef) w := by
    refine run_loadAt hs hag _ (by simp at hlen ⊢; omega) (fun j y hy => ?_) h1
    rw [List.getElem?_take] at hy
    split at hy
    · rw [List.getElem?_drop] at hy
      rw [Addr.add_lit0]
      simp only [World.cell?, hg]
      simpa using hy
    · cases hy
  have hrun' : (loadVar t ⟨C.ρ k, off, none⟩).run P w = .ok (if ag then .agg ((arr.toList.drop off).take sz).toArray else (((arr.toList.drop off).take sz)[0]?).getD undef) w := by
    rw [← hrun]; simp [Instr.loadAt, Instr.sureAddr]
  cases ag with
  | true =>
    obtain ⟨p1, p2⟩ := pack_rep hr2
    exact ⟨_, hrun', p1, p2⟩
  | false =>
    have hs1 := h1 rfl
    subst hs1
    have e1 : ((arr.toList.drop off).take 1)[0]? = arr.toList[off]? := by simp
    have e2 : arr.toList[off]? = some (arr.toList[off]'(by simp at hlen ⊢; omega)) := List.getElem?_eq_getElem _
    have e3 : cs[off]? = some (cs[off]'(by omega)) := List.getElem?_eq_getElem _
    obtain ⟨p1, p2⟩ := hr.2 off _ _ e2 e3
    refine ⟨arr.toList[off]'(by simp at hlen ⊢; omega), ?_, ?_, ?_⟩
    · rw [hrun', e1, e2]; rfl
    · rw [e3]; exact p1
    · rw [e3]; exact p2
def resOne (tmps : Array Value) : ResultVar → Sem Value
  | .tmp t => pure (tmps.getD t undef)
  | .cell ad t => do loadVar t (← asAddr (tmps.getD ad undef))
theorem results_eq (fn : Func) (tmps : Array Value) : results fn tmps = (do let vs ← fn.results.mapM (resOne tmps); pure (if h : vs.size = 1 then vs[0] else .tuple vs)) := by
  have : (resOne tmps) = (fun | .tmp t => pure (tmps.getD t undef) | .cell a t => do loadVar t (← asAddr (tmps.getD a undef))) := by
    funext x; cases x <;> rfl
  rw [this]; rfl
theorem results_of {fn : Func} {rs : List RV} (hc : compRes P fn.results.toList = some rs) (h : RelC X C s.get s.look tr stop a w) {pre : Prop} {lvs : List LV} (hl : resL s rs = some (pre, lvs)) (hp : pre) :
    ∃ vs : List Value, (results fn a.tmps).run P w = .ok (if hh : vs.toArray.size = 1 then vs.toArray[0] else .tuple vs.toArray) w ∧ RepsL w C s.look vs lvs := by
  have key : ∀ (rv : List ResultVar) (rs : List RV) (pre : Prop) (lvs : List LV), compRes P rv = some rs → resL s rs = some (pre, lvs) → pre →
      ∃ vs : List Value, (rv.mapM (resOne a.tmps)).run P w = .ok vs w ∧ RepsL w C s.look vs lvs := by
    intro rv
    induction rv with
    | nil =>
      intro rs pre lvs hc hl hp
      simp [compRes] at hc; subst hc
      simp [resL] at hl
      obtain ⟨_, rfl⟩ := hl
      exact ⟨[], by simp, rfl, fun j v q hv => by simp at hv⟩
    | cons x rv ih =>
      intro rs pre lvs hc hl hp
      have cons : ∀ {v : Value} {q : LV} {vs : List Value} {qs : List LV}, RepL w C s.look v q → LV.Sc s.look q → RepsL w C s.look vs qs → RepsL w C s.look (v :: vs) (q :: qs) := fun {v q vs qs} h1 h2 h3 =>
        ⟨by simp [h3.1], fun j u p hu hp => by
          cases j with
          | zero => simp at hu hp; subst hu; subst hp; exact ⟨h1, h2⟩
          | succ j => exact h3.2 j u p (by simpa using hu) (by simpa using hp)⟩
      cases x with
      | tmp t =>
        simp only [compRes] at hc
        split at hc
        case isFalse => cases hc
        rename_i htg
        simp only [Option.map_eq_some_iff] at hc
        obtain ⟨l, hc, rfl⟩ := hc
        have het := h.env t
        rw [valAt_lt htg] at het
        simp only [resL, Option.map_eq_some_iff] at hl
        obtain ⟨y, hl, he⟩ := hl
        injection he with e1 e2; subst e1; subst e2
        obtain ⟨vs, h1, h2⟩ := ih l y.1 y.2 hc hl hp
        refine ⟨a.tmps.getD t undef :: vs, ?_, cons het (h.envs t) h2⟩
        simp only [List.mapM_cons, resOne, Sem.run_bind, Sem.run_pure, Result.andThen_ok, h1]
      | cell ad t =>
        simp only [compRes] at hc
        split at hc
        · rename_i sz ag l hsz hag hc1
          split at hc
          case isFalse => cases hc
          rename_i hadg
          injection hc with hc; subst hc
          simp only [resL] at hl
          split at hl
          · rename_i k off hk
            split at hl
            · rename_i cs fz hk2
              obtain ⟨y, hy, he⟩ := Option.map_eq_some_iff.1 hl
              injection he with e1 e2; subst e1; subst e2
              obtain ⟨vs, h1, h2⟩ := ih l y.1 y.2 hc1 hy hp.2
              obtain ⟨v, g1, g2, g3⟩ := load_lp_run h hsz hag hk2 hp.1.1 hp.1.2
              have hr := h.env ad
              rw [hk, valAt_lt hadg] at hr
              generalize hxv : a.tmps.getD ad undef = xv at hr
              cases hr
              refine ⟨v :: vs, ?_, cons g2 g3 h2⟩
              simp only [List.mapM_cons, resOne, Sem.run_bind, Sem.run_pure, Result.andThen_ok, hxv, asAddr, g1, h1]
            · cases hl
          · cases hl
        · cases hc
  obtain ⟨vs, h1, h2⟩ := key fn.results.toList rs pre lvs hc hl hp
  refine ⟨vs, ?_, h2⟩
  simp only [results_eq, Array.mapM_eq_mapM_toList, Sem.run_bind, map_eq_pure_bind, h1, Result.andThen_ok, Sem.run_pure]
def argSt (args : List PV) : St := ⟨(args.zipIdx.map fun x => (x.2, .p x.1)), [], [], false⟩
theorem aget_args : ∀ (args : List PV) (n t : Nat), aget (args.zipIdx n |>.map fun x => (x.2, LV.p x.1)) t = if n ≤ t then (match args[t - n]? with | some v => .p v | none => .any) else .any
  | [], n, t => by simp [aget]
  | v :: r, n, t => by
    simp only [List.zipIdx_cons, List.map_cons, aget]
    by_cases e : t = n
    · subst e; simp
    · rw [if_neg e, aget_args r (n + 1) t]
      by_cases h : n ≤ t
      · have h1 : n + 1 ≤ t := by omega
        rw [if_pos h1, if_pos h]
        have : t - n = (t - (n + 1)) + 1 := by omega
        rw [this]; rfl
      · rw [if_neg h, if_neg (by omega)]
def plainFx (w : World) (B : Nat → Prop) (N : Nat) : Fx := { w0 := w, B0 := B, B1 := B, M := fun _ => False, O0 := fun _ => False, D0 := fun _ => False, Bo := B, no := w.heap.size, N := N, y := 0, J := fun _ _ _ _ => True, Jx := fun _ _ _ => True, gv := fun _ => undef, K := [] }
theorem pure_of_run {f : FuncId} {fn : Func} {body : Code} {c : AC} {rs : List RV} {args : List PV} {r : PV} (hf : P.funcs[f]? = some fn) (hname : (fn.name == "runtime.NumGoroutine") = false) (hb : fn.body = some body)
    (hc : compile P fn.ntmps body = some c) (hrs : compRes P fn.results.toList = some rs) (hn : args.length ≤ fn.ntmps) (hgb : fn.ntmps ≤ GB)
    (hrun : ∀ X : Fx, X.N = fn.ntmps → Run ⟨P, X, none, []⟩ c (argSt args) (retQ rs r)) : Pure P f args r := by
  refine ⟨⟨fn, body, hf, hname, hb⟩, fun w B vs hB hvs => callsIn_wide.1 (callsIn_of_wp_marks (F := Fence.wide) (n := 0) hf hb trivial ?_ rfl)⟩
  let X := plainFx w B fn.ntmps
  have hX : X.Triv := fun t D o w => ⟨trivial, trivial⟩
  have hlen := hvs.1
  have hN : (vs.toArray ++ Array.replicate (fn.ntmps - vs.toArray.size) undef).size = fn.ntmps := by simp; omega
  have hget : ∀ t, (argSt args).get t = match args[t]? with | some v => .p v | none => .any := fun t => by
    have := aget_args args 0 t
    simpa [argSt, St.get] using this
  have h0 : RelC X { B := B, ρ := fun _ => 0, cur := fun _ => undef, y := 0, n := 0, dep := fun _ => False, own := fun _ => False } (argSt args).get (argSt args).look [] false { tmps := vs.toArray ++ Array.replicate (fn.ntmps - vs.toArray.size) undef, defers := [] } w :=
    { kx := KeepX.refl _ _
      yy := rfl
      b0 := fun b h => h
      blt := hB
      bold := fun b h _ => h
      borg := fun b h => .inl h
      no0 := Nat.le_refl _
      tsz := hN
      ngb := hgb
      env := fun t => by
        rw [hget]
        split
        · rename_i v hv
          obtain ⟨u, hu, hr⟩ := hvs.get hv
          rw [valAt_lt (Nat.lt_of_lt_of_le (Nat.lt_of_lt_of_le (List.getElem?_eq_some_iff.1 hv).1 hn) hgb)]
          have ht : t < vs.length := (List.getElem?_eq_some_iff.1 hu).1
          have : (vs.toArray ++ Array.replicate (fn.ntmps - vs.toArray.size) undef).getD t undef = u := by
            rw [Array.getD_eq_getD_getElem?, Array.getElem?_append_left (by simpa using ht)]
            simp [hu]
          rw [this]
          exact .p hr
        · exact .any _
      envs := fun t => by rw [hget]; split; · exact .p _
                          · exact .any
      obj := fun k o hk => by simp [argSt, St.look, oget] at hk
      objs := fun k o hk => by simp [argSt, St.look, oget] at hk
      sep := fun k o b hk => by simp [argSt, St.look, oget] at hk
      dis := fun k k' o o' b _ hk => by simp [argSt, St.look, oget] at hk
      marks := fun p hp => by cases hp
      nle := Nat.zero_le _
      dn := fun _ h => h.elim
      nn := fun k o b hk => by simp [argSt, St.look, oget] at hk
      ow := fun _ h => h.elim
      oold := fun _ h => h.elim
      dold := fun _ h => h.elim
      jj := .inl hX }
  refine wpIn_mono (hrun X rfl ⟨⟨fun b h => h.elim, fun b h => h.elim⟩, .inl rfl, fun l h => by cases h⟩ body hc _ _ _ h0) ?_
  rintro e a' w' ⟨s', C', hr', hq⟩
  have key : RetOk rs r s' → LeavesInM Fence.wide 0 P fn a'.tmps (fun e w' => ∃ u, e = .returned u ∧ Below w.heap.size w w' ∧ Rep w' (fun b => B b ∨ (w.heap.size ≤ b ∧ b < w'.heap.size)) u r) a'.defers .returning w' := fun hq => by
    refine leaves_of (ro := none) a'.defers a' w' rfl hr' fun w2 h2 => ?_
    unfold RetOk at hq
    split at hq
    · rename_i pre lvs hl
      split at hq
      · rename_i pre2 ps ks ht
        obtain ⟨hp, hp2, hw⟩ := hq
        obtain ⟨us, hrun, hus⟩ := results_of (fn := fn) hrs h2 hl hp
        refine ⟨_, hrun, _, rfl, (h2.kx.mono (M' := fun _ => False) fun k _ hk => hk.elim id id).below, ?_⟩
        have hreps := toPVs_rep h2 hus ht hp2
        refine hw.rep ?_
        have hmono : ∀ b, (C'.B b ∨ blksOf C' s'.look ks b) → (B b ∨ (w.heap.size ≤ b ∧ b < w2.heap.size)) := fun b hb => by
          rcases hb with hb | ⟨k, hk, o, ho, hbk⟩
          · by_cases hlt : b < w.heap.size
            · exact .inl (h2.bold b hb hlt)
            · exact .inr ⟨by omega, h2.blt b hb⟩
          · obtain ⟨e1, e2, _, e4⟩ := h2.sep k o b ho hbk
            cases hf : o.frozen with
            | false => exact .inr ⟨(e1 hf).resolve_right (fun h => h), e2⟩
            | true =>
              by_cases hlt : b < w.heap.size
              · exact .inl (h2.bold b (e4 hf) hlt)
              · exact .inr ⟨by omega, e2⟩
        have hreps2 := hreps.mono hmono (fun _ _ => rfl)
        match us, ps, hreps2 with
        | [], [], _ => exact .tup rfl (fun j v p hv => by simp at hv)
        | [u], [p], h => exact h.2 0 u p rfl rfl
        | u :: v :: us, p :: q :: ps, h =>
          have : (u :: v :: us).toArray.size ≠ 1 := by simp
          rw [dif_neg this]
          exact .tup (by simpa using h.1) (fun j x y hx hy => h.2 j x y (by simpa using hx) hy)
        | [], _ :: _, h => exact absurd h.1 (by simp)
        | _ :: _, [], h => exact absurd h.1 (by simp)
        | [_], _ :: _ :: _, h => exact absurd h.1 (by simp)
        | _ :: _ :: _, [_], h => exact absurd h.1 (by simp)
      · exact hq.elim
    · exact hq.elim
  cases e with
  | normal => exact key hq
  | ret => exact key hq
  | exit id => exact hq.elim
  | goto l => exact hq.elim
  | panic c => exact hq.elim
  | outgrown => exact hq.elim
def compF (P : Program) (f : FuncId) : Option (AC × List RV × Nat) :=
  match P.funcs[f]? with
  | some fn => if fn.name == "runtime.NumGoroutine" then none else match fn.body with
    | some b => match compile P fn.ntmps b, compRes P fn.results.toList with
      | some c, some rs => if fn.ntmps ≤ GB then some (c, rs, fn.ntmps) else none
      | _, _ => none
    | none => none
  | none => none
theorem pure_of {f : FuncId} {c : AC} {rs : List RV} {n : Nat} (h : compF P f = some (c, rs, n)) {args : List PV} {r : PV} (hn : args.length ≤ n) (hrun : ∀ X : Fx, X.N = n → Run ⟨P, X, none, []⟩ c (argSt args) (retQ rs r)) : Pure P f args r := by
  unfold compF at h
  split at h
  · rename_i fn hf
    split at h
    · cases h
    · rename_i hname
      split at h
      · rename_i b hb
        split at h
        · rename_i c' rs' hc hrs
          split at h
          case isFalse => cases h
          rename_i hgb
          injection h with h; injection h with e1 h; injection h with e2 e3
          subst e1; subst e2; subst e3
          exact pure_of_run hf (by simpa using hname) hb hc hrs hn hgb hrun
        · cases h
      · cases h
  · cases h
def bs (l : List UInt8) : ByteArray := ⟨l.toArray⟩
end
end Go.Proofs.YtcfbdeghmckelaaGreat
namespace Go.Proofs.YtcfbdeghmckelaaGreat
open Go.RowKit
theorem cells_agg (cs : List PV) : (PV.agg cs).cells = cs := rfl
theorem cells_b (x : Bool) : (PV.b x).cells = [.b x] := rfl
theorem cells_i (k : IntKind) (n : Int) : (PV.i k n).cells = [.i k n] := rfl
theorem cells_s (x : ByteArray) : (PV.s x).cells = [.s x] := rfl
theorem cells_tup (x : List PV) : (PV.tup x).cells = [.tup x] := rfl
theorem cells_nilsl : PV.nilsl.cells = [.nilsl] := rfl
theorem cells_sl (sz : Nat) (xs : List PV) : (PV.sl sz xs).cells = [.sl sz xs] := rfl
theorem cells_nilp : PV.nilp.cells = [.nilp] := rfl
theorem cells_ip (v : PV) (o : Nat) : (PV.ip v o).cells = [.ip v o] := rfl
theorem cells_fn (f : Fn) (a b : List PV) : (PV.fn f a b).cells = [.fn f a b] := rfl
theorem cells_nilf : PV.nilf.cells = [.nilf] := rfl
theorem cells_mp (x : List (PV × PV)) : (PV.mp x).cells = [.mp x] := rfl
theorem lcells_p (v : PV) : (LV.p v).cells = v.cells.map .p := rfl
theorem lcells_agg (cs : List LV) : (LV.agg cs).cells = cs := rfl
theorem lcells_lp (k o : Nat) : (LV.lp k o).cells = [.lp k o] := rfl
theorem lcells_row (k n : Nat) : (LV.row k n).cells = [.row k n] := rfl
theorem lcells_it (k : Nat) : (LV.it k).cells = [.it k] := rfl
theorem lcells_fn (f : Fn) (a b : List LV) : (LV.fn f a b).cells = [.fn f a b] := rfl
theorem lcells_yield : LV.yield.cells = [.yield] := rfl
theorem isAgg_agg (cs : List PV) : (PV.agg cs).isAgg = true := rfl
theorem isAgg_b (x : Bool) : (PV.b x).isAgg = false := rfl
theorem isAgg_i (k : IntKind) (n : Int) : (PV.i k n).isAgg = false := rfl
theorem isAgg_s (x : ByteArray) : (PV.s x).isAgg = false := rfl
theorem isAgg_nilsl : PV.nilsl.isAgg = false := rfl
theorem isAgg_sl (sz : Nat) (xs : List PV) : (PV.sl sz xs).isAgg = false := rfl
theorem isAgg_nilp : PV.nilp.isAgg = false := rfl
theorem isAgg_ip (v : PV) (o : Nat) : (PV.ip v o).isAgg = false := rfl
theorem isAgg_fn (f : Fn) (a b : List PV) : (PV.fn f a b).isAgg = false := rfl
theorem isAgg_nilf : PV.nilf.isAgg = false := rfl
theorem isAgg_mp (x : List (PV × PV)) : (PV.mp x).isAgg = false := rfl
theorem isAny_agg (cs : List PV) : (PV.agg cs).isAny = false := rfl
theorem isAny_b (x : Bool) : (PV.b x).isAny = false := rfl
theorem isAny_i (k : IntKind) (n : Int) : (PV.i k n).isAny = false := rfl
theorem isAny_s (x : ByteArray) : (PV.s x).isAny = false := rfl
theorem isAny_nilsl : PV.nilsl.isAny = false := rfl
theorem isAny_sl (sz : Nat) (xs : List PV) : (PV.sl sz xs).isAny = false := rfl
theorem isAny_nilp : PV.nilp.isAny = false := rfl
theorem isAny_ip (v : PV) (o : Nat) : (PV.ip v o).isAny = false := rfl
theorem isAny_fn (f : Fn) (a b : List PV) : (PV.fn f a b).isAny = false := rfl
theorem isAny_nilf : PV.nilf.isAny = false := rfl
theorem isAny_mp (x : List (PV × PV)) : (PV.mp x).isAny = false := rfl
theorem one_b (x : Bool) : (PV.b x).one = true := rfl
theorem one_i (k : IntKind) (n : Int) : (PV.i k n).one = true := rfl
theorem one_s (x : ByteArray) : (PV.s x).one = true := rfl
theorem one_nilsl : PV.nilsl.one = true := rfl
theorem one_sl (sz : Nat) (xs : List PV) : (PV.sl sz xs).one = true := rfl
theorem one_nilp : PV.nilp.one = true := rfl
theorem one_ip (v : PV) (o : Nat) : (PV.ip v o).one = true := rfl
theorem one_fn (f : Fn) (a b : List PV) : (PV.fn f a b).one = true := rfl
theorem one_nilf : PV.nilf.one = true := rfl
theorem lcells_lm (k : Nat) : (LV.lm k).cells = [.lm k] := rfl
theorem un_lm (k : Nat) : (LV.lm k).un = .lm k := rfl
theorem cnd_lm (k : Nat) : (LV.lm k).cnd = true := rfl
theorem un_p (v : PV) : (LV.p v).un = .p v := rfl
theorem un_g (c : Bool) (q : LV) : (LV.g c q).un = q.un := rfl
theorem un_lp (k o : Nat) : (LV.lp k o).un = .lp k o := rfl
theorem un_row (k n : Nat) : (LV.row k n).un = .row k n := rfl
theorem un_ep (k n i o : Nat) : (LV.ep k n i o).un = .ep k n i o := rfl
theorem un_it (k : Nat) : (LV.it k).un = .it k := rfl
theorem un_fn (f : Fn) (a b : List LV) : (LV.fn f a b).un = .fn f a b := rfl
theorem un_agg (cs : List LV) : (LV.agg cs).un = .agg cs := rfl
theorem un_yield : LV.yield.un = .yield := rfl
theorem cnd_p (v : PV) : (LV.p v).cnd = true := rfl
theorem cnd_g (c : Bool) (q : LV) : (LV.g c q).cnd = (c && q.cnd) := rfl
theorem cnd_lp (k o : Nat) : (LV.lp k o).cnd = true := rfl
theorem cnd_row (k n : Nat) : (LV.row k n).cnd = true := rfl
theorem cnd_ep (k n i o : Nat) : (LV.ep k n i o).cnd = true := rfl
theorem cnd_it (k : Nat) : (LV.it k).cnd = true := rfl
theorem cnd_fn (f : Fn) (a b : List LV) : (LV.fn f a b).cnd = true := rfl
theorem cnd_agg (cs : List LV) : (LV.agg cs).cnd = true := rfl
theorem cnd_yield : LV.yield.cnd = true := rfl
theorem wrap64 {n : Int} (h1 : -9223372036854775808 ≤ n) (h2 : n ≤ 9223372036854775807) : IntKind.i64.wrap n = n := (wrap_iff _ _).2 ⟨h1, h2⟩
theorem some_at {α : Type} {l : List α} {i : Nat} (h : i < l.length) : ∃ x, l[i]? = some x := ⟨l[i], List.getElem?_eq_getElem h⟩
mutual
def PV.wf : PV → Prop
  | .i k n => k.wrap n = n
  | .s x => x.size ≤ maxLen
  | .sl _ xs => xs.length ≤ maxLen ∧ wfs xs
  | .agg cs | .tup cs => wfs cs
  | .fn _ a b => wfs a ∧ wfs b
  | _ => True
def wfs : List PV → Prop
  | [] => True
  | v :: r => v.wf ∧ wfs r
end
theorem wfs_of : ∀ {l : List PV}, (∀ (j : Nat) (p : PV), l[j]? = some p → p.wf) → wfs l
  | [], _ => trivial
  | v :: r, h => ⟨h 0 v rfl, wfs_of fun j p hp => h (j + 1) p (by simpa using hp)⟩
theorem wf_cells {v : PV} (h : ∀ (j : Nat) (p : PV), v.cells[j]? = some p → p.wf) : v.wf := by
  cases v with
  | agg cs => exact wfs_of h
  | _ => exact h 0 _ rfl
theorem Rep.wf {w : World} {B : Nat → Prop} {v : Value} {p : PV} (h : Rep w B v p) : p.wf := by
  induction h with
  | i h => exact h
  | s h => exact h
  | @agg cs ps h1 _ ih =>
    refine wfs_of fun j p hp => ?_
    have hj : j < cs.size := h1 ▸ (List.getElem?_eq_some_iff.1 hp).1
    exact ih j _ p (Array.getElem?_eq_getElem hj) hp
  | @tup cs ps h1 _ ih =>
    refine wfs_of fun j p hp => ?_
    have hj : j < cs.size := h1 ▸ (List.getElem?_eq_some_iff.1 hp).1
    exact ih j _ p (Array.getElem?_eq_getElem hj) hp
  | sl0 => exact ⟨Nat.zero_le _, trivial⟩
  | sl u h1 h2 h3 h4 h5 h6 h7 _ ih => exact ⟨by omega, wfs_of fun i x hx => wf_cells fun j p hp => ih i x j p hx hp⟩
  | @fn f fs cs ps qs h1 h2 _ _ ih1 ih2 =>
    refine ⟨wfs_of fun j p hp => ?_, wfs_of fun j p hp => ?_⟩
    · have hj : j < fs.size := h1 ▸ (List.getElem?_eq_some_iff.1 hp).1
      exact ih1 j _ p (Array.getElem?_eq_getElem hj) hp
    · have hj : j < cs.size := h2 ▸ (List.getElem?_eq_some_iff.1 hp).1
      exact ih2 j _ p (Array.getElem?_eq_getElem hj) hp
  | _ => trivial
theorem Reps.wf {w : World} {B : Nat → Prop} {vs : List Value} {ps : List PV} (h : Reps w B vs ps) : wfs ps :=
  wfs_of fun j p hp => by obtain ⟨v, _, hr⟩ := h.get hp; exact hr.wf
theorem pure_wf {P : Program} {f : FuncId} {args : List PV} {r : PV} (hc : Callable P f) (h : wfs args → Pure P f args r) : Pure P f args r :=
  ⟨hc, fun w B vs hB hvs => (h hvs.wf).2 w B vs hB hvs⟩
theorem compF_callable {P : Program} {f : FuncId} {x : AC × List RV × Nat} (h : compF P f = some x) : Callable P f := by
  unfold compF at h
  split at h
  · rename_i fn hf
    split at h
    · cases h
    · rename_i hname
      split at h
      · rename_i b hb
        exact ⟨fn, b, hf, by simpa using hname, hb⟩
      · cases h
  · cases h
theorem pure_by {P : Program} {f : FuncId} {c : AC} {rs : List RV} {n : Nat} (h : compF P f = some (c, rs, n)) {args : List PV} {r : PV} (hn : args.length ≤ n) (hrun : wfs args → ∀ X : Fx, X.N = n → Run ⟨P, X, none, []⟩ c (argSt args) (retQ rs r)) : Pure P f args r :=
  pure_wf (compF_callable h) fun hw => pure_of h hn (hrun hw)
end Go.Proofs.YtcfbdeghmckelaaGreat
namespace Go.Proofs.YtcfbdeghmckelaaGreat
open Go.RowKit
def AOp.isEv : AOp → Bool
  | .mv | .pick | .call _ | .callv | .isnil _ => false
  | _ => true
def evK (dr : Bool) (K : List RO → St → List Ft → Prop) (d : Option Nat) (r : List RO) (s : St) (ac : List (Nat × LObj) → List Ft) (cn : Bool) : Option (Prop × Eff) → Prop
  | some (pre, eff) => (cn = true ∧ pre) ∧ (eff.nw = true → s.look (d.getD 0) = none) ∧ runS dr K r ((s.wrs eff.wr.toList).set d eff.val) (ac eff.wr.toList)
  | none => False
def evG (dr : Bool) (K : List RO → St → List Ft → Prop) (d : Option Nat) (r : List RO) (s : St) (ac : List (Nat × LObj) → List Ft) (cn : Bool) : Option Bool → Option (Prop × Eff) → Prop
  | some c, some (pre, eff) => (c = true → cn = true ∧ pre) ∧ (eff.wr.isSome = true → c = true) ∧ (eff.nw = true → s.look (d.getD 0) = none) ∧ runS dr K r ((s.wrs eff.wr.toList).set d (eff.val.under c)) (ac eff.wr.toList)
  | some false, none => runS dr K r (s.set d (.g false (.p (.b false)))) (ac [])
  | _, _ => False
def mvG (dr : Bool) (K : List RO → St → List Ft → Prop) (d : Option Nat) (r : List RO) (s : St) (ac : List Ft) (v : LV) : Option Bool → Prop
  | some c => runS dr K r (s.set d (v.under c)) ac
  | none => False
def pkV (dr : Bool) (K : List RO → St → List Ft → Prop) (d : Option Nat) (r : List RO) (s : St) (ac : List Ft) (ct cx cy : Bool) : LV → LV → LV → Prop
  | .p (.b t), .p (.b x), .p (.b y) => (ct = true ∧ (t = true → cx = true) ∧ (t = false → cy = true)) ∧ runS dr K r (s.set d (.p (.b (if t then x else y)))) ac
  | _, _, _ => False
def pkW (dr : Bool) (K : List RO → St → List Ft → Prop) (d : Option Nat) (r : List RO) (s : St) (ac : List Ft) (ct cx cy : Bool) : LV → LV → LV → Option Bool → Prop
  | .p (.b t), .p (.b x), .p (.b y), some c => (c = true → ct = true ∧ (t = true → cx = true) ∧ (t = false → cy = true)) ∧ runS dr K r (s.set d (.g c (.p (.b (if t then x else y))))) ac
  | _, _, _, some false => runS dr K r (s.set d (.g false (.p (.b false)))) ac
  | _, _, _, _ => False
def gdV (w : Bool) : LV → Option Bool
  | .p (.b x) => some (if w then x else !x)
  | .g c (.p (.b x)) => some (c && (if w then x else !x))
  | _ => none
section
variable {dr : Bool} {K : List RO → St → List Ft → Prop} {d : Option Nat} {af : List Nat} {r : List RO} {s : St} {acc ac : List Ft} {av : List (Nat × LObj) → List Ft}
theorem accU_f (acc : List Ft) (s : St) (o : RO) (wr : List (Nat × LObj)) : accU false acc s o wr = acc := rfl
theorem accU_t (acc : List Ft) (s : St) (o : RO) (wr : List (Nat × LObj)) : accU true acc s o wr = ftOf s o wr :: acc := rfl
theorem rs_nil : runS dr K [] s acc = K [] s acc := rfl
theorem rs_mv (x : AOpd) : runS dr K (⟨d, .mv, [x], none, af⟩ :: r) s acc = runS dr K r (s.set d (x.ev s)) (accU dr acc s ⟨d, .mv, [x], none, af⟩ []) := by
  simp only [runS, stepO, gOf, fin, St.wrs, Option.toList, true_and]
theorem rs_mvg (x : AOpd) (g : Nat × Bool) : runS dr K (⟨d, .mv, [x], some g, af⟩ :: r) s acc = mvG dr K d r s (accU dr acc s ⟨d, .mv, [x], some g, af⟩ []) (x.ev s) (gOf s (some g)) := by
  simp only [runS, stepO, fin, mvG]
  generalize gOf s (some g) = o
  cases o <;> simp [St.wrs]
theorem pickL_some {t x y : LV} {t' x' y' : Bool} (h1 : t.un = .p (.b t')) (h2 : x.un = .p (.b x')) (h3 : y.un = .p (.b y')) : pickL t x y = some ((t' = true → x.cnd = true) ∧ (t' = false → y.cnd = true), .b (if t' then x' else y')) := by simp only [pickL, h1, h2, h3]
theorem pickL_none {t x y : LV} (h : ∀ t' x' y', t.un = .p (.b t') → x.un = .p (.b x') → y.un = .p (.b y') → False) : pickL t x y = none := by
  unfold pickL
  split
  · exact (h _ _ _ ‹_› ‹_› ‹_›).elim
  · rfl
theorem pkV_no {ct cx cy : Bool} {t x y : LV} (h : ∀ t' x' y', t = .p (.b t') → x = .p (.b x') → y = .p (.b y') → False) : pkV dr K d r s ac ct cx cy t x y = False := by
  unfold pkV
  split
  · exact (h _ _ _ rfl rfl rfl).elim
  · rfl
theorem pkW_no {ct cx cy : Bool} {t x y : LV} {g : Option Bool} (h : ∀ t' x' y', t = .p (.b t') → x = .p (.b x') → y = .p (.b y') → False) : pkW dr K d r s ac ct cx cy t x y g = (match g with | some false => runS dr K r (s.set d (.g false (.p (.b false)))) ac | _ => False) := by
  unfold pkW
  split
  · exact (h _ _ _ rfl rfl rfl).elim
  · rfl
  · rename_i h1 h2
    cases g with
    | none => rfl
    | some c => cases c with
      | true => rfl
      | false => exact absurd rfl (by assumption)
theorem rs_pick (x y z : AOpd) : runS dr K (⟨d, .pick, [x, y, z], none, af⟩ :: r) s acc = pkV dr K d r s (accU dr acc s ⟨d, .pick, [x, y, z], none, af⟩ []) (x.ev s).cnd (y.ev s).cnd (z.ev s).cnd (x.ev s).un (y.ev s).un (z.ev s).un := by
  simp only [runS, stepO, gOf, fin]
  by_cases h : ∃ t' x' y', (x.ev s).un = .p (.b t') ∧ (y.ev s).un = .p (.b x') ∧ (z.ev s).un = .p (.b y')
  · obtain ⟨t', x', y', e1, e2, e3⟩ := h
    rw [pickL_some e1 e2 e3, e1, e2, e3]
    simp only [Option.map, orSkip, forall_const, St.wrs, Option.toList, pkV]
  · rw [pickL_none fun t' x' y' e1 e2 e3 => h ⟨t', x', y', e1, e2, e3⟩, pkV_no fun t' x' y' e1 e2 e3 => h ⟨t', x', y', e1, e2, e3⟩]
    rfl
theorem rs_pickg (x y z : AOpd) (g : Nat × Bool) : runS dr K (⟨d, .pick, [x, y, z], some g, af⟩ :: r) s acc = pkW dr K d r s (accU dr acc s ⟨d, .pick, [x, y, z], some g, af⟩ []) (x.ev s).cnd (y.ev s).cnd (z.ev s).cnd (x.ev s).un (y.ev s).un (z.ev s).un (gOf s (some g)) := by
  simp only [runS, stepO, fin]
  by_cases h : ∃ t' x' y', (x.ev s).un = .p (.b t') ∧ (y.ev s).un = .p (.b x') ∧ (z.ev s).un = .p (.b y')
  · obtain ⟨t', x', y', e1, e2, e3⟩ := h
    rw [pickL_some e1 e2 e3, e1, e2, e3]
    generalize gOf s (some g) = o
    cases o <;> simp only [Option.map, orSkip, St.wrs, Option.toList, pkW, LV.under]
  · rw [pickL_none fun t' x' y' e1 e2 e3 => h ⟨t', x', y', e1, e2, e3⟩, pkW_no fun t' x' y' e1 e2 e3 => h ⟨t', x', y', e1, e2, e3⟩]
    generalize gOf s (some g) = o
    cases o with
    | none => rfl
    | some c => cases c <;> simp [orSkip, fin, LV.under, St.wrs]
theorem gOf_v (t : Nat) (w : Bool) : gOf s (some (t, w)) = gdV w (s.get t) := by
  simp only [gOf, gdV]
  rfl
theorem stepO_ev {o : RO} (h : o.op.isEv = true) {c : Bool} (hc : gOf s o.guard = some c) : stepO s o = orSkip o.guard c ((evalOp (o.dst.getD 0) s.look o.op (uns (rawIns s o.args))).map fun r =>
        ((c = true → cnds (rawIns s o.args) = true ∧ r.1) ∧ (r.2.wr.isSome = true → c = true) ∧ (r.2.nw = true → s.look (o.dst.getD 0) = none), fin o.guard c r.2.val, r.2.wr)) := by
  simp only [stepO, hc]
  split
  · rename_i e _; rw [e] at h; cases h
  · rename_i e _; rw [e] at h; cases h
  · rfl
theorem runS_ev {o : RO} (h : o.op.isEv = true) : runS dr K (o :: r) s acc = (match stepO s o with
      | some (pre, v, wr) => pre ∧ runS dr K r ((s.wrs wr.toList).set o.dst v) (accU dr acc s o wr.toList)
      | none => False) := by
  conv => lhs; unfold runS
  split
  · rename_i e; rw [e] at h; cases h
  · rename_i e; rw [e] at h; cases h
  · rename_i e; rw [e] at h; cases h
  · rfl
theorem rs_ev {op : AOp} (h : op.isEv = true) (args : List AOpd) : runS dr K (⟨d, op, args, none, af⟩ :: r) s acc = evK dr K d r s (accU dr acc s ⟨d, op, args, none, af⟩) (cnds (rawIns s args)) (evalOp (d.getD 0) s.look op (uns (rawIns s args))) := by
  rw [runS_ev (by exact h), stepO_ev (by exact h) (c := true) rfl]
  dsimp only
  generalize evalOp _ _ _ _ = o
  cases o with
  | none => rfl
  | some x =>
    obtain ⟨pre, eff⟩ := x
    simp only [Option.map, orSkip, evK, fin, true_implies, implies_true, true_and, forall_const, and_assoc]
theorem rs_evg {op : AOp} (h : op.isEv = true) (args : List AOpd) (g : Nat × Bool) : runS dr K (⟨d, op, args, some g, af⟩ :: r) s acc = evG dr K d r s (accU dr acc s ⟨d, op, args, some g, af⟩) (cnds (rawIns s args)) (gOf s (some g)) (evalOp (d.getD 0) s.look op (uns (rawIns s args))) := by
  rw [runS_ev (by exact h)]
  cases hg : gOf s (some g) with
  | none =>
    have : stepO s ⟨d, op, args, some g, af⟩ = none := by simp only [stepO, hg]
    rw [this]
    generalize evalOp _ _ _ _ = o
    cases o <;> rfl
  | some c =>
    rw [stepO_ev (by exact h) (c := c) hg]
    dsimp only
    generalize evalOp _ _ _ _ = o
    cases o with
    | none => cases c <;> simp [orSkip, evG, fin, LV.under, St.wrs]
    | some x =>
      obtain ⟨pre, eff⟩ := x
      simp only [Option.map, orSkip, evG, fin, and_assoc]
theorem evK_some (cn : Bool) (pre : Prop) (v : LV) (wr : Option (Nat × LObj)) (nw : Bool) (rd : List Nat) : evK dr K d r s av cn (some (pre, ⟨v, wr, nw, rd⟩)) = ((cn = true ∧ pre) ∧ (nw = true → s.look (d.getD 0) = none) ∧ runS dr K r ((s.wrs wr.toList).set d v) (av wr.toList)) := rfl
theorem evG_some (cn c : Bool) (pre : Prop) (v : LV) (wr : Option (Nat × LObj)) (nw : Bool) (rd : List Nat) : evG dr K d r s av cn (some c) (some (pre, ⟨v, wr, nw, rd⟩)) = ((c = true → cn = true ∧ pre) ∧ (wr.isSome = true → c = true) ∧ (nw = true → s.look (d.getD 0) = none) ∧ runS dr K r ((s.wrs wr.toList).set d (v.under c)) (av wr.toList)) := rfl
theorem evG_skip (cn : Bool) : evG dr K d r s av cn (some false) none = runS dr K r (s.set d (.g false (.p (.b false)))) (av []) := rfl
theorem eo_bin_any1 (d : Nat) (look : Nat → Option LObj) (o : BinOp) (k : IntKind) (n : Int) : evalOp d look (.bin o) [.p .any, .p (.i k n)] = none := rfl
theorem eo_bin_any2 (d : Nat) (look : Nat → Option LObj) (o : BinOp) (k : IntKind) (n : Int) : evalOp d look (.bin o) [.p (.i k n), .p .any] = none := rfl
theorem eo_bin_any3 (d : Nat) (look : Nat → Option LObj) (o : BinOp) (k : IntKind) (n : Int) (b : Bool) : evalOp d look (.bin o) [.p (.b b), .p (.i k n)] = none := rfl
theorem eo_bin_any4 (d : Nat) (look : Nat → Option LObj) (o : BinOp) (k : IntKind) (n : Int) (b : Bool) : evalOp d look (.bin o) [.p (.i k n), .p (.b b)] = none := rfl
theorem evK_p (cn : Bool) (pre : Prop) (v : PV) : evK dr K d r s av cn (some (pre, .ofP v)) = ((cn = true ∧ pre) ∧ runS dr K r (s.set d (.p v)) (av [])) := by simp [evK, Eff.ofP, St.wrs]
theorem evG_p (cn c : Bool) (pre : Prop) (v : PV) : evG dr K d r s av cn (some c) (some (pre, .ofP v)) = ((c = true → cn = true ∧ pre) ∧ runS dr K r (s.set d (.g c (.p v))) (av [])) := by simp [evG, Eff.ofP, St.wrs, LV.under]
theorem evK_v (cn : Bool) (pre : Prop) (v : LV) : evK dr K d r s av cn (some (pre, .ofV v)) = ((cn = true ∧ pre) ∧ runS dr K r (s.set d v) (av [])) := by simp [evK, Eff.ofV, St.wrs]
theorem evG_v (cn c : Bool) (pre : Prop) (v : LV) : evG dr K d r s av cn (some c) (some (pre, .ofV v)) = ((c = true → cn = true ∧ pre) ∧ runS dr K r (s.set d (v.under c)) (av [])) := by simp [evG, Eff.ofV, St.wrs]
theorem mvG_some (v : LV) (c : Bool) : mvG dr K d r s ac v (some c) = runS dr K r (s.set d (v.under c)) ac := rfl
theorem pkV_b (ct cx cy t x y : Bool) : pkV dr K d r s ac ct cx cy (.p (.b t)) (.p (.b x)) (.p (.b y)) = ((ct = true ∧ (t = true → cx = true) ∧ (t = false → cy = true)) ∧ runS dr K r (s.set d (.p (.b (if t then x else y)))) ac) := rfl
theorem pkW_b (c ct cx cy t x y : Bool) : pkW dr K d r s ac ct cx cy (.p (.b t)) (.p (.b x)) (.p (.b y)) (some c) = ((c = true → ct = true ∧ (t = true → cx = true) ∧ (t = false → cy = true)) ∧ runS dr K r (s.set d (.g c (.p (.b (if t then x else y))))) ac) := rfl
theorem gdV_p (w x : Bool) : gdV w (.p (.b x)) = some (if w then x else !x) := rfl
theorem gdV_g (w c x : Bool) : gdV w (.g c (.p (.b x))) = some (c && (if w then x else !x)) := rfl
end
section
variable {dr : Bool} {K : List RO → St → List Ft → Prop} {d : Option Nat} {af : List Nat} {r : List RO} {s : St} {acc : List Ft} (args : List AOpd) (g : Nat × Bool)
theorem rv_alloc (z : List PV) : runS dr K (⟨d, .alloc z, args, none, af⟩ :: r) s acc = evK dr K d r s (accU dr acc s ⟨d, .alloc z, args, none, af⟩) (cnds (rawIns s args)) (evalOp (d.getD 0) s.look (.alloc z) (uns (rawIns s args))) := rs_ev rfl args
theorem rvg_alloc (z : List PV) : runS dr K (⟨d, .alloc z, args, some g, af⟩ :: r) s acc = evG dr K d r s (accU dr acc s ⟨d, .alloc z, args, some g, af⟩) (cnds (rawIns s args)) (gOf s (some g)) (evalOp (d.getD 0) s.look (.alloc z) (uns (rawIns s args))) := rs_evg rfl args g
theorem rv_box  : runS dr K (⟨d, .box, args, none, af⟩ :: r) s acc = evK dr K d r s (accU dr acc s ⟨d, .box, args, none, af⟩) (cnds (rawIns s args)) (evalOp (d.getD 0) s.look (.box) (uns (rawIns s args))) := rs_ev rfl args
theorem rvg_box  : runS dr K (⟨d, .box, args, some g, af⟩ :: r) s acc = evG dr K d r s (accU dr acc s ⟨d, .box, args, some g, af⟩) (cnds (rawIns s args)) (gOf s (some g)) (evalOp (d.getD 0) s.look (.box) (uns (rawIns s args))) := rs_evg rfl args g
theorem rv_build (z : List PV) (pl : List (Nat × Nat)) : runS dr K (⟨d, .build z pl, args, none, af⟩ :: r) s acc = evK dr K d r s (accU dr acc s ⟨d, .build z pl, args, none, af⟩) (cnds (rawIns s args)) (evalOp (d.getD 0) s.look (.build z pl) (uns (rawIns s args))) := rs_ev rfl args
theorem rvg_build (z : List PV) (pl : List (Nat × Nat)) : runS dr K (⟨d, .build z pl, args, some g, af⟩ :: r) s acc = evG dr K d r s (accU dr acc s ⟨d, .build z pl, args, some g, af⟩) (cnds (rawIns s args)) (gOf s (some g)) (evalOp (d.getD 0) s.look (.build z pl) (uns (rawIns s args))) := rs_evg rfl args g
theorem rv_bslice (e sz : Nat) (z : PV) (len : Nat) (idx : List Nat) : runS dr K (⟨d, .bslice e sz z len idx, args, none, af⟩ :: r) s acc = evK dr K d r s (accU dr acc s ⟨d, .bslice e sz z len idx, args, none, af⟩) (cnds (rawIns s args)) (evalOp (d.getD 0) s.look (.bslice e sz z len idx) (uns (rawIns s args))) := rs_ev rfl args
theorem rvg_bslice (e sz : Nat) (z : PV) (len : Nat) (idx : List Nat) : runS dr K (⟨d, .bslice e sz z len idx, args, some g, af⟩ :: r) s acc = evG dr K d r s (accU dr acc s ⟨d, .bslice e sz z len idx, args, some g, af⟩) (cnds (rawIns s args)) (gOf s (some g)) (evalOp (d.getD 0) s.look (.bslice e sz z len idx) (uns (rawIns s args))) := rs_evg rfl args g
theorem rv_load (sz : Nat) (ag : Bool) : runS dr K (⟨d, .load sz ag, args, none, af⟩ :: r) s acc = evK dr K d r s (accU dr acc s ⟨d, .load sz ag, args, none, af⟩) (cnds (rawIns s args)) (evalOp (d.getD 0) s.look (.load sz ag) (uns (rawIns s args))) := rs_ev rfl args
theorem rvg_load (sz : Nat) (ag : Bool) : runS dr K (⟨d, .load sz ag, args, some g, af⟩ :: r) s acc = evG dr K d r s (accU dr acc s ⟨d, .load sz ag, args, some g, af⟩) (cnds (rawIns s args)) (gOf s (some g)) (evalOp (d.getD 0) s.look (.load sz ag) (uns (rawIns s args))) := rs_evg rfl args g
theorem rv_store (sz : Nat) : runS dr K (⟨d, .store sz, args, none, af⟩ :: r) s acc = evK dr K d r s (accU dr acc s ⟨d, .store sz, args, none, af⟩) (cnds (rawIns s args)) (evalOp (d.getD 0) s.look (.store sz) (uns (rawIns s args))) := rs_ev rfl args
theorem rvg_store (sz : Nat) : runS dr K (⟨d, .store sz, args, some g, af⟩ :: r) s acc = evG dr K d r s (accU dr acc s ⟨d, .store sz, args, some g, af⟩) (cnds (rawIns s args)) (gOf s (some g)) (evalOp (d.getD 0) s.look (.store sz) (uns (rawIns s args))) := rs_evg rfl args g
theorem rv_nilchk  : runS dr K (⟨d, .nilchk, args, none, af⟩ :: r) s acc = evK dr K d r s (accU dr acc s ⟨d, .nilchk, args, none, af⟩) (cnds (rawIns s args)) (evalOp (d.getD 0) s.look (.nilchk) (uns (rawIns s args))) := rs_ev rfl args
theorem rvg_nilchk  : runS dr K (⟨d, .nilchk, args, some g, af⟩ :: r) s acc = evG dr K d r s (accU dr acc s ⟨d, .nilchk, args, some g, af⟩) (cnds (rawIns s args)) (gOf s (some g)) (evalOp (d.getD 0) s.look (.nilchk) (uns (rawIns s args))) := rs_evg rfl args g
theorem rv_bin (o : BinOp) : runS dr K (⟨d, .bin o, args, none, af⟩ :: r) s acc = evK dr K d r s (accU dr acc s ⟨d, .bin o, args, none, af⟩) (cnds (rawIns s args)) (evalOp (d.getD 0) s.look (.bin o) (uns (rawIns s args))) := rs_ev rfl args
theorem rvg_bin (o : BinOp) : runS dr K (⟨d, .bin o, args, some g, af⟩ :: r) s acc = evG dr K d r s (accU dr acc s ⟨d, .bin o, args, some g, af⟩) (cnds (rawIns s args)) (gOf s (some g)) (evalOp (d.getD 0) s.look (.bin o) (uns (rawIns s args))) := rs_evg rfl args g
theorem rv_eq (n : Bool) (ks : List Nat) (ag : Bool) : runS dr K (⟨d, .eq n ks ag, args, none, af⟩ :: r) s acc = evK dr K d r s (accU dr acc s ⟨d, .eq n ks ag, args, none, af⟩) (cnds (rawIns s args)) (evalOp (d.getD 0) s.look (.eq n ks ag) (uns (rawIns s args))) := rs_ev rfl args
theorem rvg_eq (n : Bool) (ks : List Nat) (ag : Bool) : runS dr K (⟨d, .eq n ks ag, args, some g, af⟩ :: r) s acc = evG dr K d r s (accU dr acc s ⟨d, .eq n ks ag, args, some g, af⟩) (cnds (rawIns s args)) (gOf s (some g)) (evalOp (d.getD 0) s.look (.eq n ks ag) (uns (rawIns s args))) := rs_evg rfl args g
theorem rv_not  : runS dr K (⟨d, .not, args, none, af⟩ :: r) s acc = evK dr K d r s (accU dr acc s ⟨d, .not, args, none, af⟩) (cnds (rawIns s args)) (evalOp (d.getD 0) s.look (.not) (uns (rawIns s args))) := rs_ev rfl args
theorem rvg_not  : runS dr K (⟨d, .not, args, some g, af⟩ :: r) s acc = evG dr K d r s (accU dr acc s ⟨d, .not, args, some g, af⟩) (cnds (rawIns s args)) (gOf s (some g)) (evalOp (d.getD 0) s.look (.not) (uns (rawIns s args))) := rs_evg rfl args g
theorem rv_neg  : runS dr K (⟨d, .neg, args, none, af⟩ :: r) s acc = evK dr K d r s (accU dr acc s ⟨d, .neg, args, none, af⟩) (cnds (rawIns s args)) (evalOp (d.getD 0) s.look (.neg) (uns (rawIns s args))) := rs_ev rfl args
theorem rvg_neg  : runS dr K (⟨d, .neg, args, some g, af⟩ :: r) s acc = evG dr K d r s (accU dr acc s ⟨d, .neg, args, some g, af⟩) (cnds (rawIns s args)) (gOf s (some g)) (evalOp (d.getD 0) s.look (.neg) (uns (rawIns s args))) := rs_evg rfl args g
theorem rv_cvt (k : IntKind) : runS dr K (⟨d, .cvt k, args, none, af⟩ :: r) s acc = evK dr K d r s (accU dr acc s ⟨d, .cvt k, args, none, af⟩) (cnds (rawIns s args)) (evalOp (d.getD 0) s.look (.cvt k) (uns (rawIns s args))) := rs_ev rfl args
theorem rvg_cvt (k : IntKind) : runS dr K (⟨d, .cvt k, args, some g, af⟩ :: r) s acc = evG dr K d r s (accU dr acc s ⟨d, .cvt k, args, some g, af⟩) (cnds (rawIns s args)) (gOf s (some g)) (evalOp (d.getD 0) s.look (.cvt k) (uns (rawIns s args))) := rs_evg rfl args g
theorem rv_cvs  : runS dr K (⟨d, .cvs, args, none, af⟩ :: r) s acc = evK dr K d r s (accU dr acc s ⟨d, .cvs, args, none, af⟩) (cnds (rawIns s args)) (evalOp (d.getD 0) s.look (.cvs) (uns (rawIns s args))) := rs_ev rfl args
theorem rvg_cvs  : runS dr K (⟨d, .cvs, args, some g, af⟩ :: r) s acc = evG dr K d r s (accU dr acc s ⟨d, .cvs, args, some g, af⟩) (cnds (rawIns s args)) (gOf s (some g)) (evalOp (d.getD 0) s.look (.cvs) (uns (rawIns s args))) := rs_evg rfl args g
theorem rv_mkfn (f : Fn) (n : Nat) : runS dr K (⟨d, .mkfn f n, args, none, af⟩ :: r) s acc = evK dr K d r s (accU dr acc s ⟨d, .mkfn f n, args, none, af⟩) (cnds (rawIns s args)) (evalOp (d.getD 0) s.look (.mkfn f n) (uns (rawIns s args))) := rs_ev rfl args
theorem rvg_mkfn (f : Fn) (n : Nat) : runS dr K (⟨d, .mkfn f n, args, some g, af⟩ :: r) s acc = evG dr K d r s (accU dr acc s ⟨d, .mkfn f n, args, some g, af⟩) (cnds (rawIns s args)) (gOf s (some g)) (evalOp (d.getD 0) s.look (.mkfn f n) (uns (rawIns s args))) := rs_evg rfl args g
theorem rv_sliceS (a b : Bool) : runS dr K (⟨d, .sliceS a b, args, none, af⟩ :: r) s acc = evK dr K d r s (accU dr acc s ⟨d, .sliceS a b, args, none, af⟩) (cnds (rawIns s args)) (evalOp (d.getD 0) s.look (.sliceS a b) (uns (rawIns s args))) := rs_ev rfl args
theorem rvg_sliceS (a b : Bool) : runS dr K (⟨d, .sliceS a b, args, some g, af⟩ :: r) s acc = evG dr K d r s (accU dr acc s ⟨d, .sliceS a b, args, some g, af⟩) (cnds (rawIns s args)) (gOf s (some g)) (evalOp (d.getD 0) s.look (.sliceS a b) (uns (rawIns s args))) := rs_evg rfl args g
theorem rv_sliceL (sz : Nat) (a b : Bool) : runS dr K (⟨d, .sliceL sz a b, args, none, af⟩ :: r) s acc = evK dr K d r s (accU dr acc s ⟨d, .sliceL sz a b, args, none, af⟩) (cnds (rawIns s args)) (evalOp (d.getD 0) s.look (.sliceL sz a b) (uns (rawIns s args))) := rs_ev rfl args
theorem rvg_sliceL (sz : Nat) (a b : Bool) : runS dr K (⟨d, .sliceL sz a b, args, some g, af⟩ :: r) s acc = evG dr K d r s (accU dr acc s ⟨d, .sliceL sz a b, args, some g, af⟩) (cnds (rawIns s args)) (gOf s (some g)) (evalOp (d.getD 0) s.look (.sliceL sz a b) (uns (rawIns s args))) := rs_evg rfl args g
theorem rv_fadr (off : Nat) : runS dr K (⟨d, .fadr off, args, none, af⟩ :: r) s acc = evK dr K d r s (accU dr acc s ⟨d, .fadr off, args, none, af⟩) (cnds (rawIns s args)) (evalOp (d.getD 0) s.look (.fadr off) (uns (rawIns s args))) := rs_ev rfl args
theorem rvg_fadr (off : Nat) : runS dr K (⟨d, .fadr off, args, some g, af⟩ :: r) s acc = evG dr K d r s (accU dr acc s ⟨d, .fadr off, args, some g, af⟩) (cnds (rawIns s args)) (gOf s (some g)) (evalOp (d.getD 0) s.look (.fadr off) (uns (rawIns s args))) := rs_evg rfl args g
theorem rv_fld (off sz : Nat) (ag : Bool) : runS dr K (⟨d, .fld off sz ag, args, none, af⟩ :: r) s acc = evK dr K d r s (accU dr acc s ⟨d, .fld off sz ag, args, none, af⟩) (cnds (rawIns s args)) (evalOp (d.getD 0) s.look (.fld off sz ag) (uns (rawIns s args))) := rs_ev rfl args
theorem rvg_fld (off sz : Nat) (ag : Bool) : runS dr K (⟨d, .fld off sz ag, args, some g, af⟩ :: r) s acc = evG dr K d r s (accU dr acc s ⟨d, .fld off sz ag, args, some g, af⟩) (cnds (rawIns s args)) (gOf s (some g)) (evalOp (d.getD 0) s.look (.fld off sz ag) (uns (rawIns s args))) := rs_evg rfl args g
theorem rv_idxA (n sz : Nat) (ag : Bool) : runS dr K (⟨d, .idxA n sz ag, args, none, af⟩ :: r) s acc = evK dr K d r s (accU dr acc s ⟨d, .idxA n sz ag, args, none, af⟩) (cnds (rawIns s args)) (evalOp (d.getD 0) s.look (.idxA n sz ag) (uns (rawIns s args))) := rs_ev rfl args
theorem rvg_idxA (n sz : Nat) (ag : Bool) : runS dr K (⟨d, .idxA n sz ag, args, some g, af⟩ :: r) s acc = evG dr K d r s (accU dr acc s ⟨d, .idxA n sz ag, args, some g, af⟩) (cnds (rawIns s args)) (gOf s (some g)) (evalOp (d.getD 0) s.look (.idxA n sz ag) (uns (rawIns s args))) := rs_evg rfl args g
theorem rv_idxS  : runS dr K (⟨d, .idxS, args, none, af⟩ :: r) s acc = evK dr K d r s (accU dr acc s ⟨d, .idxS, args, none, af⟩) (cnds (rawIns s args)) (evalOp (d.getD 0) s.look (.idxS) (uns (rawIns s args))) := rs_ev rfl args
theorem rvg_idxS  : runS dr K (⟨d, .idxS, args, some g, af⟩ :: r) s acc = evG dr K d r s (accU dr acc s ⟨d, .idxS, args, some g, af⟩) (cnds (rawIns s args)) (gOf s (some g)) (evalOp (d.getD 0) s.look (.idxS) (uns (rawIns s args))) := rs_evg rfl args g
theorem rv_iadrS (sz : Nat) : runS dr K (⟨d, .iadrS sz, args, none, af⟩ :: r) s acc = evK dr K d r s (accU dr acc s ⟨d, .iadrS sz, args, none, af⟩) (cnds (rawIns s args)) (evalOp (d.getD 0) s.look (.iadrS sz) (uns (rawIns s args))) := rs_ev rfl args
theorem rvg_iadrS (sz : Nat) : runS dr K (⟨d, .iadrS sz, args, some g, af⟩ :: r) s acc = evG dr K d r s (accU dr acc s ⟨d, .iadrS sz, args, some g, af⟩) (cnds (rawIns s args)) (gOf s (some g)) (evalOp (d.getD 0) s.look (.iadrS sz) (uns (rawIns s args))) := rs_evg rfl args g
theorem rv_iadrA (n sz : Nat) : runS dr K (⟨d, .iadrA n sz, args, none, af⟩ :: r) s acc = evK dr K d r s (accU dr acc s ⟨d, .iadrA n sz, args, none, af⟩) (cnds (rawIns s args)) (evalOp (d.getD 0) s.look (.iadrA n sz) (uns (rawIns s args))) := rs_ev rfl args
theorem rvg_iadrA (n sz : Nat) : runS dr K (⟨d, .iadrA n sz, args, some g, af⟩ :: r) s acc = evG dr K d r s (accU dr acc s ⟨d, .iadrA n sz, args, some g, af⟩) (cnds (rawIns s args)) (gOf s (some g)) (evalOp (d.getD 0) s.look (.iadrA n sz) (uns (rawIns s args))) := rs_evg rfl args g
theorem rv_len (b : Bool) : runS dr K (⟨d, .len b, args, none, af⟩ :: r) s acc = evK dr K d r s (accU dr acc s ⟨d, .len b, args, none, af⟩) (cnds (rawIns s args)) (evalOp (d.getD 0) s.look (.len b) (uns (rawIns s args))) := rs_ev rfl args
theorem rvg_len (b : Bool) : runS dr K (⟨d, .len b, args, some g, af⟩ :: r) s acc = evG dr K d r s (accU dr acc s ⟨d, .len b, args, some g, af⟩) (cnds (rawIns s args)) (gOf s (some g)) (evalOp (d.getD 0) s.look (.len b) (uns (rawIns s args))) := rs_evg rfl args g
theorem rv_app (e sz b : Nat) : runS dr K (⟨d, .app e sz b, args, none, af⟩ :: r) s acc = evK dr K d r s (accU dr acc s ⟨d, .app e sz b, args, none, af⟩) (cnds (rawIns s args)) (evalOp (d.getD 0) s.look (.app e sz b) (uns (rawIns s args))) := rs_ev rfl args
theorem rvg_app (e sz b : Nat) : runS dr K (⟨d, .app e sz b, args, some g, af⟩ :: r) s acc = evG dr K d r s (accU dr acc s ⟨d, .app e sz b, args, some g, af⟩) (cnds (rawIns s args)) (gOf s (some g)) (evalOp (d.getD 0) s.look (.app e sz b) (uns (rawIns s args))) := rs_evg rfl args g
theorem rv_mx  : runS dr K (⟨d, .mx, args, none, af⟩ :: r) s acc = evK dr K d r s (accU dr acc s ⟨d, .mx, args, none, af⟩) (cnds (rawIns s args)) (evalOp (d.getD 0) s.look (.mx) (uns (rawIns s args))) := rs_ev rfl args
theorem rvg_mx  : runS dr K (⟨d, .mx, args, some g, af⟩ :: r) s acc = evG dr K d r s (accU dr acc s ⟨d, .mx, args, some g, af⟩) (cnds (rawIns s args)) (gOf s (some g)) (evalOp (d.getD 0) s.look (.mx) (uns (rawIns s args))) := rs_evg rfl args g
theorem rv_mn  : runS dr K (⟨d, .mn, args, none, af⟩ :: r) s acc = evK dr K d r s (accU dr acc s ⟨d, .mn, args, none, af⟩) (cnds (rawIns s args)) (evalOp (d.getD 0) s.look (.mn) (uns (rawIns s args))) := rs_ev rfl args
theorem rvg_mn  : runS dr K (⟨d, .mn, args, some g, af⟩ :: r) s acc = evG dr K d r s (accU dr acc s ⟨d, .mn, args, some g, af⟩) (cnds (rawIns s args)) (gOf s (some g)) (evalOp (d.getD 0) s.look (.mn) (uns (rawIns s args))) := rs_evg rfl args g
theorem rv_ext (j : Nat) : runS dr K (⟨d, .ext j, args, none, af⟩ :: r) s acc = evK dr K d r s (accU dr acc s ⟨d, .ext j, args, none, af⟩) (cnds (rawIns s args)) (evalOp (d.getD 0) s.look (.ext j) (uns (rawIns s args))) := rs_ev rfl args
theorem rvg_ext (j : Nat) : runS dr K (⟨d, .ext j, args, some g, af⟩ :: r) s acc = evG dr K d r s (accU dr acc s ⟨d, .ext j, args, some g, af⟩) (cnds (rawIns s args)) (gOf s (some g)) (evalOp (d.getD 0) s.look (.ext j) (uns (rawIns s args))) := rs_evg rfl args g
theorem rv_range  : runS dr K (⟨d, .range, args, none, af⟩ :: r) s acc = evK dr K d r s (accU dr acc s ⟨d, .range, args, none, af⟩) (cnds (rawIns s args)) (evalOp (d.getD 0) s.look (.range) (uns (rawIns s args))) := rs_ev rfl args
theorem rvg_range  : runS dr K (⟨d, .range, args, some g, af⟩ :: r) s acc = evG dr K d r s (accU dr acc s ⟨d, .range, args, some g, af⟩) (cnds (rawIns s args)) (gOf s (some g)) (evalOp (d.getD 0) s.look (.range) (uns (rawIns s args))) := rs_evg rfl args g
theorem rv_next  : runS dr K (⟨d, .next, args, none, af⟩ :: r) s acc = evK dr K d r s (accU dr acc s ⟨d, .next, args, none, af⟩) (cnds (rawIns s args)) (evalOp (d.getD 0) s.look (.next) (uns (rawIns s args))) := rs_ev rfl args
theorem rvg_next  : runS dr K (⟨d, .next, args, some g, af⟩ :: r) s acc = evG dr K d r s (accU dr acc s ⟨d, .next, args, some g, af⟩) (cnds (rawIns s args)) (gOf s (some g)) (evalOp (d.getD 0) s.look (.next) (uns (rawIns s args))) := rs_evg rfl args g
theorem rv_mkslice (e sz bytes : Nat) (z : PV) : runS dr K (⟨d, .mkslice e sz bytes z, args, none, af⟩ :: r) s acc = evK dr K d r s (accU dr acc s ⟨d, .mkslice e sz bytes z, args, none, af⟩) (cnds (rawIns s args)) (evalOp (d.getD 0) s.look (.mkslice e sz bytes z) (uns (rawIns s args))) := rs_ev rfl args
theorem rvg_mkslice (e sz bytes : Nat) (z : PV) : runS dr K (⟨d, .mkslice e sz bytes z, args, some g, af⟩ :: r) s acc = evG dr K d r s (accU dr acc s ⟨d, .mkslice e sz bytes z, args, some g, af⟩) (cnds (rawIns s args)) (gOf s (some g)) (evalOp (d.getD 0) s.look (.mkslice e sz bytes z) (uns (rawIns s args))) := rs_evg rfl args g
theorem rv_copy (sz : Nat) : runS dr K (⟨d, .copy sz, args, none, af⟩ :: r) s acc = evK dr K d r s (accU dr acc s ⟨d, .copy sz, args, none, af⟩) (cnds (rawIns s args)) (evalOp (d.getD 0) s.look (.copy sz) (uns (rawIns s args))) := rs_ev rfl args
theorem rvg_copy (sz : Nat) : runS dr K (⟨d, .copy sz, args, some g, af⟩ :: r) s acc = evG dr K d r s (accU dr acc s ⟨d, .copy sz, args, some g, af⟩) (cnds (rawIns s args)) (gOf s (some g)) (evalOp (d.getD 0) s.look (.copy sz) (uns (rawIns s args))) := rs_evg rfl args g
theorem rv_mkmap  : runS dr K (⟨d, .mkmap, args, none, af⟩ :: r) s acc = evK dr K d r s (accU dr acc s ⟨d, .mkmap, args, none, af⟩) (cnds (rawIns s args)) (evalOp (d.getD 0) s.look (.mkmap) (uns (rawIns s args))) := rs_ev rfl args
theorem rvg_mkmap  : runS dr K (⟨d, .mkmap, args, some g, af⟩ :: r) s acc = evG dr K d r s (accU dr acc s ⟨d, .mkmap, args, some g, af⟩) (cnds (rawIns s args)) (gOf s (some g)) (evalOp (d.getD 0) s.look (.mkmap) (uns (rawIns s args))) := rs_evg rfl args g
theorem rv_lkup (ks : List Nat) (ag : Bool) (z : PV) (ok : Bool) : runS dr K (⟨d, .lkup ks ag z ok, args, none, af⟩ :: r) s acc = evK dr K d r s (accU dr acc s ⟨d, .lkup ks ag z ok, args, none, af⟩) (cnds (rawIns s args)) (evalOp (d.getD 0) s.look (.lkup ks ag z ok) (uns (rawIns s args))) := rs_ev rfl args
theorem rvg_lkup (ks : List Nat) (ag : Bool) (z : PV) (ok : Bool) : runS dr K (⟨d, .lkup ks ag z ok, args, some g, af⟩ :: r) s acc = evG dr K d r s (accU dr acc s ⟨d, .lkup ks ag z ok, args, some g, af⟩) (cnds (rawIns s args)) (gOf s (some g)) (evalOp (d.getD 0) s.look (.lkup ks ag z ok) (uns (rawIns s args))) := rs_evg rfl args g
theorem rv_mset (ks : List Nat) (ag : Bool) : runS dr K (⟨d, .mset ks ag, args, none, af⟩ :: r) s acc = evK dr K d r s (accU dr acc s ⟨d, .mset ks ag, args, none, af⟩) (cnds (rawIns s args)) (evalOp (d.getD 0) s.look (.mset ks ag) (uns (rawIns s args))) := rs_ev rfl args
theorem rvg_mset (ks : List Nat) (ag : Bool) : runS dr K (⟨d, .mset ks ag, args, some g, af⟩ :: r) s acc = evG dr K d r s (accU dr acc s ⟨d, .mset ks ag, args, some g, af⟩) (cnds (rawIns s args)) (gOf s (some g)) (evalOp (d.getD 0) s.look (.mset ks ag) (uns (rawIns s args))) := rs_evg rfl args g
end
section
variable (e : List (Nat × LV)) (o : List (Nat × LObj)) (t : List (List PV)) (b : Bool)
theorem set_mk (d : Nat) (v : LV) : (St.mk e o t b).set (some d) v = ⟨(d, v) :: e, o, t, b⟩ := rfl
theorem set_no (v : LV) : (St.mk e o t b).set none v = ⟨e, o, t, b⟩ := rfl
theorem get_mk (k : Nat) : (St.mk e o t b).get k = aget e k := rfl
theorem look_mk (k : Nat) : (St.mk e o t b).look k = oget o k := rfl
theorem wrs_nil : (St.mk e o t b).wrs [] = ⟨e, o, t, b⟩ := rfl
theorem wrs_none : (St.mk e o t b).wrs (none : Option (Nat × LObj)).toList = ⟨e, o, t, b⟩ := rfl
theorem wrs_some (k : Nat) (x : LObj) : (St.mk e o t b).wrs (some (k, x)).toList = ⟨e, oset o k x, t, b⟩ := rfl
theorem wrs_cons (k : Nat) (x : LObj) (r : List (Nat × LObj)) : (St.mk e o t b).wrs ((k, x) :: r) = (St.mk e (oset o k x) t b).wrs r := rfl
theorem ev_t (n : Nat) : (AOpd.t n).ev (St.mk e o t b) = aget e n := rfl
theorem ev_c (v : PV) : (AOpd.c v).ev (St.mk e o t b) = .p v := rfl
end
def agC : Bool → LV → List (Nat × LV) → Nat → LV
  | true, v, _, _ => v
  | false, _, r, t => aget r t
def ogC : Bool → LObj → List (Nat × LObj) → Nat → Option LObj
  | true, v, _, _ => some v
  | false, _, r, t => oget r t
def osC : Bool → Nat → LObj → List (Nat × LObj) → Nat → LObj → List (Nat × LObj)
  | true, k, _, r, _, v => (k, v) :: r
  | false, k, u, r, t, v => (k, u) :: oset r t v
theorem agC_t (v : LV) (r : List (Nat × LV)) (t : Nat) : agC true v r t = v := rfl
theorem agC_f (v : LV) (r : List (Nat × LV)) (t : Nat) : agC false v r t = aget r t := rfl
theorem ogC_t (v : LObj) (r : List (Nat × LObj)) (t : Nat) : ogC true v r t = some v := rfl
theorem ogC_f (v : LObj) (r : List (Nat × LObj)) (t : Nat) : ogC false v r t = oget r t := rfl
theorem osC_t (k : Nat) (u : LObj) (r : List (Nat × LObj)) (t : Nat) (v : LObj) : osC true k u r t v = (k, v) :: r := rfl
theorem osC_f (k : Nat) (u : LObj) (r : List (Nat × LObj)) (t : Nat) (v : LObj) : osC false k u r t v = (k, u) :: oset r t v := rfl
theorem aget_c (k : Nat) (v : LV) (r : List (Nat × LV)) (t : Nat) : aget ((k, v) :: r) t = agC (t == k) v r t := by
  by_cases h : t = k
  · subst h; simp [aget, agC]
  · have : (t == k) = false := by simpa using h
    simp [aget, agC, h, this]
theorem aget_n (t : Nat) : aget [] t = .any := rfl
theorem oget_c (k : Nat) (v : LObj) (r : List (Nat × LObj)) (t : Nat) : oget ((k, v) :: r) t = ogC (t == k) v r t := by
  by_cases h : t = k
  · subst h; simp [oget, ogC]
  · have : (t == k) = false := by simpa using h
    simp [oget, ogC, h, this]
theorem oget_n (t : Nat) : oget [] t = none := rfl
theorem oset_c (k : Nat) (u : LObj) (r : List (Nat × LObj)) (t : Nat) (v : LObj) : oset ((k, u) :: r) t v = osC (t == k) k u r t v := by
  by_cases h : t = k
  · subst h; simp [oset, osC]
  · have : (t == k) = false := by simpa using h
    simp [oset, osC, h, this]
theorem oset_n (t : Nat) (v : LObj) : oset [] t v = [(t, v)] := rfl
theorem raw_nil (s : St) : rawIns s [] = [] := rfl
theorem raw_cons (s : St) (x : AOpd) (r : List AOpd) : rawIns s (x :: r) = x.ev s :: rawIns s r := rfl
theorem uns_nil : uns [] = [] := rfl
theorem uns_cons (x : LV) (r : List LV) : uns (x :: r) = x.un :: uns r := rfl
theorem cnds_nil : cnds [] = true := rfl
theorem cnds_cons (x : LV) (r : List LV) : cnds (x :: r) = (x.cnd && cnds r) := rfl
theorem rs_call (f : Nat) (args : List AOpd) (g : Option (Nat × Bool)) (s : St) (acc : List Ft) (dr : Bool) (K : List RO → St → List Ft → Prop) (d : Option Nat) (af : List Nat) (r : List RO) : runS dr K (⟨d, .call f, args, g, af⟩ :: r) s acc = K (⟨d, .call f, args, g, af⟩ :: r) s acc := rfl
theorem rs_isnil (ng : Bool) (args : List AOpd) (g : Option (Nat × Bool)) (s : St) (acc : List Ft) (dr : Bool) (K : List RO → St → List Ft → Prop) (d : Option Nat) (af : List Nat) (r : List RO) : runS dr K (⟨d, .isnil ng, args, g, af⟩ :: r) s acc = K (⟨d, .isnil ng, args, g, af⟩ :: r) s acc := rfl
theorem rs_callv (args : List AOpd) (g : Option (Nat × Bool)) (s : St) (acc : List Ft) (dr : Bool) (K : List RO → St → List Ft → Prop) (d : Option Nat) (af : List Nat) (r : List RO) : runS dr K (⟨d, .callv, args, g, af⟩ :: r) s acc = K (⟨d, .callv, args, g, af⟩ :: r) s acc := rfl
theorem fin_n (c : Bool) (v : LV) : fin none c v = v := rfl
theorem fin_s (g : Nat × Bool) (c : Bool) (v : LV) : fin (some g) c v = v.under c := rfl
theorem pk_or {p : Prop} [Decidable p] (u : Bool) : (if p then true else u) = (decide p || u) := by by_cases h : p <;> simp [h]
theorem pk_and {p : Prop} [Decidable p] (u : Bool) : (if p then u else false) = (decide p && u) := by by_cases h : p <;> simp [h]
theorem under_p (c : Bool) (v : PV) : (LV.p v).under c = .g c (.p v) := rfl
theorem under_g (c c' : Bool) (q : LV) : (LV.g c' q).under c = .g (c && c') q := rfl
theorem under_lp (c : Bool) (k o : Nat) : (LV.lp k o).under c = .g c (.lp k o) := rfl
theorem under_row (c : Bool) (k n : Nat) : (LV.row k n).under c = .g c (.row k n) := rfl
theorem under_ep (c : Bool) (k n i o : Nat) : (LV.ep k n i o).under c = .g c (.ep k n i o) := rfl
theorem under_it (c : Bool) (k : Nat) : (LV.it k).under c = .g c (.it k) := rfl
theorem under_lm (c : Bool) (k : Nat) : (LV.lm k).under c = .g c (.lm k) := rfl
theorem under_fn (c : Bool) (f : Fn) (x y : List LV) : (LV.fn f x y).under c = .g c (.fn f x y) := rfl
theorem under_agg (c : Bool) (x : List LV) : (LV.agg x).under c = .g c (.agg x) := rfl
theorem under_yield (c : Bool) : LV.yield.under c = .g c .yield := rfl
theorem under_any (c : Bool) : LV.any.under c = .g c .any := rfl
def ldLp (sz : Nat) (ag : Bool) (k off : Nat) : Option LObj → Option (Prop × Eff)
  | some (.box cs _) => some (off + sz ≤ cs.length ∧ (ag = false → sz = 1), ⟨if ag then packL ((cs.drop off).take sz) else (cs[off]?).getD .any, none, false, [k]⟩)
  | _ => none
def ldEp (sz : Nat) (ag : Bool) (k n i off : Nat) : Option LObj → Option (Prop × Eff)
  | some (.row _ _ xs _) => some (n = xs.length ∧ i < xs.length ∧ loadOk ((xs[i]?).getD .any) off sz ag, ⟨.p (loadV ((xs[i]?).getD .any) off sz ag), none, false, [k]⟩)
  | _ => none
def stLp (look : Nat → Option LObj) (sz k off : Nat) (x : LV) : Option LObj → Option (Prop × Eff)
  | some (.box cs false) => some (off + sz ≤ cs.length ∧ x.cells.length = sz ∧ oneL look x.cells, ⟨.any, some (k, .box (updL cs off x.cells) false), false, [k]⟩)
  | _ => none
def stEp (look : Nat → Option LObj) (sz k n i off : Nat) (v : PV) : Option LObj → Option (Prop × Eff)
  | some (.row e esz xs false) => some (n = xs.length ∧ i < xs.length ∧ v.cells.length = sz ∧ off + sz ≤ esz ∧ oneL look (v.cells.map .p),
        ⟨.any, some (k, .row e esz (xs.set i (if off = 0 ∧ sz = esz then v else .agg (updL ((xs[i]?).getD .any).cells off v.cells))) false), false, [k]⟩)
  | _ => none
def faEp (off k n i o : Nat) : Option LObj → Option (Prop × Eff)
  | some (.row _ _ xs _) => some (n = xs.length, .ofV (.ep k n i (o + off)))
  | _ => none
def iaRow (sz q n : Nat) (j : Int) : Option LObj → Option (Prop × Eff)
  | some (.row _ sz' xs _) => some (sz = sz' ∧ n = xs.length ∧ 0 ≤ j ∧ j < xs.length, ⟨.ep q n j.toNat 0, none, false, [q]⟩)
  | _ => none
def lenK : Option (Prop × List PV × Nat × List Nat) → Option (Prop × Eff)
  | some (p, xs, _, rd) => some (p, ⟨.p (.i .i64 xs.length), none, false, rd⟩)
  | none => none
def apN (d e sz bytes : Nat) : Option (Prop × List PV × Nat × List Nat) → Option (Prop × Eff)
  | some (p, ys, s', rd) => some (p ∧ (ys = [] ∨ s' = sz) ∧ oneAll ys = true ∧ ys.length * bytes ≤ 140737488355328, ⟨.row d ys.length, some (d, .row e sz ys false), true, rd⟩)
  | none => none
def apR (e sz bytes k n : Nat) : Option LObj → Option (Prop × List PV × Nat × List Nat) → Option (Prop × Eff)
  | some (.row e' s2 xs false), some (p, ys, s', rd) => some (e = e' ∧ sz = s2 ∧ n = xs.length ∧ p ∧ (ys = [] ∨ s' = sz) ∧ oneAll ys = true ∧ (xs.length + ys.length) * bytes ≤ 140737488355328, ⟨.row k (xs ++ ys).length, some (k, .row e sz (xs ++ ys) false), false, k :: rd⟩)
  | _, _ => none
def elRow (k n : Nat) : Option LObj → Option (Prop × List PV × Nat × List Nat)
  | some (.row _ sz xs _) => some (n = xs.length, xs, sz, [k])
  | _ => none
def bdK (z : List PV) (pl : List (Nat × Nat)) : Option (List PV) → Option (Prop × Eff)
  | some vs => some (fillOk z.length pl vs, .ofP (.agg (fillP z pl vs)))
  | none => none
def bsK (d e sz : Nat) (z : PV) (len : Nat) (idx : List Nat) : Option (List PV) → Option (Prop × Eff)
  | some vs => some (fillEOk len sz idx vs, ⟨.row d len, some (d, .row e sz (fillE (List.replicate len z) idx vs) false), true, []⟩)
  | none => none
def mfK (f : Fn) (a b : List LV) : Option (List PV) → Option (List PV) → Option (Prop × Eff)
  | some x, some y => some (True, .ofP (.fn f x y))
  | _, _ => some (True, .ofV (.fn f a b))
def apC (v : PV) : Option (List PV) → Option (List PV)
  | some vs => some (v :: vs)
  | none => none
def nxK (k : Nat) : Option LObj → Option (Prop × Eff)
  | some (.sit s pos) => some (s.size ≤ maxLen, ⟨.p (nextV s pos), some (k, .sit s (nextP s pos)), false, [k]⟩)
  | _ => none
def cpR (sz k n : Nat) : Option LObj → Option (Prop × List PV × Nat × List Nat) → Option (Prop × Eff)
  | some (.row e s2 xs false), some (p, ys, s', rd) => some (sz = s2 ∧ n = xs.length ∧ p ∧ (ys = [] ∨ s' = sz) ∧ oneAll ys = true, ⟨.p (.i .i64 (min ys.length xs.length : Nat)), some (k, .row e sz (ys.take xs.length ++ xs.drop ys.length) false), false, k :: rd⟩)
  | _, _ => none
def lkK (ks : List Nat) (ag : Bool) (z : PV) (ok : Bool) (key : PV) : Option (List (PV × PV) × List Nat) → Option (Prop × Eff)
  | some (es, rd) => some (keyOk ks ag key key ∧ keysOk ks ag key es, ⟨.p (if ok then .tup [(mget key es).getD z, .b (mget key es).isSome] else (mget key es).getD z), none, false, rd⟩)
  | none => none
def moK (k : Nat) : Option LObj → Option (List (PV × PV) × List Nat)
  | some (.mp es _) => some (es, [k])
  | _ => none
def msK (ks : List Nat) (ag : Bool) (k : Nat) (key v : PV) : Option LObj → Option (Prop × Eff)
  | some (.mp es false) => some (keyOk ks ag key key ∧ keysOk ks ag key es, ⟨.any, some (k, .mp (mput key v es) false), false, [k]⟩)
  | _ => none
section
variable (d : Nat) (look : Nat → Option LObj)
theorem eo_alloc (z : List PV) : evalOp d look (.alloc z) [] = some (True, ⟨.lp d 0, some (d, .box (z.map .p) false), true, []⟩) := rfl
theorem eo_box (x : LV) : evalOp d look .box [x] = some (x.known look, ⟨.lp d 0, some (d, .box x.cells false), true, []⟩) := rfl
theorem eo_build (z : List PV) (pl : List (Nat × Nat)) (ins : List LV) : evalOp d look (.build z pl) ins = bdK z pl (allP ins) := by
  simp only [evalOp]; cases allP ins <;> rfl
theorem eo_bslice (e sz : Nat) (z : PV) (len : Nat) (idx : List Nat) (ins : List LV) : evalOp d look (.bslice e sz z len idx) ins = bsK d e sz z len idx (allP ins) := by
  simp only [evalOp]; cases allP ins <;> rfl
theorem eo_load_ip (sz : Nat) (ag : Bool) (v : PV) (off : Nat) : evalOp d look (.load sz ag) [.p (.ip v off)] = some (loadOk v off sz ag, .ofP (loadV v off sz ag)) := rfl
theorem eo_load_lp (sz : Nat) (ag : Bool) (k off : Nat) : evalOp d look (.load sz ag) [.lp k off] = ldLp sz ag k off (look k) := by
  simp only [evalOp]; generalize look k = q; cases q with
  | none => rfl
  | some ob => cases ob <;> rfl
theorem eo_load_ep (sz : Nat) (ag : Bool) (k n i off : Nat) : evalOp d look (.load sz ag) [.ep k n i off] = ldEp sz ag k n i off (look k) := by
  simp only [evalOp]; generalize look k = q; cases q with
  | none => rfl
  | some ob => cases ob <;> rfl
theorem eo_store_lp (sz k off : Nat) (x : LV) : evalOp d look (.store sz) [.lp k off, x] = stLp look sz k off x (look k) := by
  simp only [evalOp]; cases look k with
  | none => rfl
  | some ob => cases ob with
    | box cs fz => cases fz <;> rfl
    | _ => rfl
theorem eo_store_ep (sz k n i off : Nat) (v : PV) : evalOp d look (.store sz) [.ep k n i off, .p v] = stEp look sz k n i off v (look k) := by
  simp only [evalOp]; cases look k with
  | none => rfl
  | some ob => cases ob with
    | row e es xs fz => cases fz <;> rfl
    | _ => rfl
theorem eo_nil_ip (v : PV) (off : Nat) : evalOp d look .nilchk [.p (.ip v off)] = some (True, .ofP (.ip v off)) := rfl
theorem eo_nil_lp (k off : Nat) : evalOp d look .nilchk [.lp k off] = some (True, .ofV (.lp k off)) := rfl
theorem eo_nil_pfn (f : FuncId) (a b : List PV) : evalOp d look .nilchk [.p (.fn (.func f) a b)] = some (True, .ofP (.fn (.func f) a b)) := rfl
theorem eo_nil_fn (f : FuncId) (a b : List LV) : evalOp d look .nilchk [.fn (.func f) a b] = some (True, .ofV (.fn (.func f) a b)) := rfl
theorem eo_shr (k k' : IntKind) (x y : Int) : evalOp d look (.bin .shr) [.p (.i k x), .p (.i k' y)] = some (0 ≤ y, .ofP (.i k (x.fdiv (2 ^ (min y.toNat k.bits))))) := rfl
theorem eo_shl (k k' : IntKind) (x y : Int) : evalOp d look (.bin .shl) [.p (.i k x), .p (.i k' y)] = some (0 ≤ y, .ofP (.i k (k.wrap (x * 2 ^ (min y.toNat k.bits))))) := rfl
theorem eo_add (k k' : IntKind) (x y : Int) : evalOp d look (.bin .add) [.p (.i k x), .p (.i k' y)] = some (k = k', .ofP (.i k (k.wrap (x + y)))) := rfl
theorem eo_sub (k k' : IntKind) (x y : Int) : evalOp d look (.bin .sub) [.p (.i k x), .p (.i k' y)] = some (k = k', .ofP (.i k (k.wrap (x - y)))) := rfl
theorem eo_mul (k k' : IntKind) (x y : Int) : evalOp d look (.bin .mul) [.p (.i k x), .p (.i k' y)] = some (k = k', .ofP (.i k (k.wrap (x * y)))) := rfl
theorem eo_quo (k k' : IntKind) (x y : Int) : evalOp d look (.bin .quo) [.p (.i k x), .p (.i k' y)] = some (k = k' ∧ y ≠ 0, .ofP (.i k (k.wrap (x.tdiv y)))) := rfl
theorem eo_rem (k k' : IntKind) (x y : Int) : evalOp d look (.bin .rem) [.p (.i k x), .p (.i k' y)] = some (k = k' ∧ y ≠ 0, .ofP (.i k (x.tmod y))) := rfl
theorem eo_and (k k' : IntKind) (x y : Int) : evalOp d look (.bin .and) [.p (.i k x), .p (.i k' y)] = some (k = k', .ofP (.i k (bits .and k x y))) := rfl
theorem eo_or (k k' : IntKind) (x y : Int) : evalOp d look (.bin .or) [.p (.i k x), .p (.i k' y)] = some (k = k', .ofP (.i k (bits .or k x y))) := rfl
theorem eo_eql (k k' : IntKind) (x y : Int) : evalOp d look (.bin .eql) [.p (.i k x), .p (.i k' y)] = some (k = k', .ofP (.b (decide (x = y)))) := rfl
theorem eo_neq (k k' : IntKind) (x y : Int) : evalOp d look (.bin .neq) [.p (.i k x), .p (.i k' y)] = some (k = k', .ofP (.b (!decide (x = y)))) := rfl
theorem eo_lss (k k' : IntKind) (x y : Int) : evalOp d look (.bin .lss) [.p (.i k x), .p (.i k' y)] = some (k = k', .ofP (.b (decide (x < y)))) := rfl
theorem eo_leq (k k' : IntKind) (x y : Int) : evalOp d look (.bin .leq) [.p (.i k x), .p (.i k' y)] = some (k = k', .ofP (.b (decide (x ≤ y)))) := rfl
theorem eo_gtr (k k' : IntKind) (x y : Int) : evalOp d look (.bin .gtr) [.p (.i k x), .p (.i k' y)] = some (k = k', .ofP (.b (decide (y < x)))) := rfl
theorem eo_geq (k k' : IntKind) (x y : Int) : evalOp d look (.bin .geq) [.p (.i k x), .p (.i k' y)] = some (k = k', .ofP (.b (decide (y ≤ x)))) := rfl
theorem eo_sadd (x y : ByteArray) : evalOp d look (.bin .add) [.p (.s x), .p (.s y)] = some (x.size + y.size ≤ maxLen, .ofP (.s (x ++ y))) := rfl
theorem eo_seql (x y : ByteArray) : evalOp d look (.bin .eql) [.p (.s x), .p (.s y)] = some (True, .ofP (.b (decide (x = y)))) := rfl
theorem eo_sneq (x y : ByteArray) : evalOp d look (.bin .neq) [.p (.s x), .p (.s y)] = some (True, .ofP (.b (!decide (x = y)))) := rfl
theorem eo_slss (x y : ByteArray) : evalOp d look (.bin .lss) [.p (.s x), .p (.s y)] = some (True, .ofP (.b (Op.bytesLess x.toList y.toList))) := rfl
theorem eo_sgtr (x y : ByteArray) : evalOp d look (.bin .gtr) [.p (.s x), .p (.s y)] = some (True, .ofP (.b (!(Op.bytesLess x.toList y.toList || decide (x = y))))) := rfl
theorem eo_sleq (x y : ByteArray) : evalOp d look (.bin .leq) [.p (.s x), .p (.s y)] = some (True, .ofP (.b (Op.bytesLess x.toList y.toList || decide (x = y)))) := rfl
theorem eo_sgeq (x y : ByteArray) : evalOp d look (.bin .geq) [.p (.s x), .p (.s y)] = some (True, .ofP (.b (!Op.bytesLess x.toList y.toList))) := rfl
theorem eo_eq (ks : List Nat) (ag : Bool) (x y : PV) : evalOp d look (.eq false ks ag) [.p x, .p y] = some (eqCellsOk ks x.cells y.cells ∧ x.isAgg = ag ∧ y.isAgg = ag, .ofP (.b (eqCells x.cells y.cells))) := rfl
theorem eo_ne (ks : List Nat) (ag : Bool) (x y : PV) : evalOp d look (.eq true ks ag) [.p x, .p y] = some (eqCellsOk ks x.cells y.cells ∧ x.isAgg = ag ∧ y.isAgg = ag, .ofP (.b (!eqCells x.cells y.cells))) := rfl
theorem eo_not (x : Bool) : evalOp d look .not [.p (.b x)] = some (True, .ofP (.b (!x))) := rfl
theorem eo_neg (k : IntKind) (x : Int) : evalOp d look .neg [.p (.i k x)] = some (True, .ofP (.i k (k.wrap (0 - x)))) := rfl
theorem eo_cvt (k k' : IntKind) (x : Int) : evalOp d look (.cvt k) [.p (.i k' x)] = some (True, .ofP (.i k (k.wrap x))) := rfl
theorem eo_cvs (x : ByteArray) : evalOp d look .cvs [.p (.s x)] = some (True, .ofP (.s x)) := rfl
theorem eo_mkfn (f : Fn) (n : Nat) (ins : List LV) : evalOp d look (.mkfn f n) ins = mfK f (ins.take n) (ins.drop n) (allP (ins.take n)) (allP (ins.drop n)) := by
  simp only [evalOp]; cases allP (ins.take n) <;> cases allP (ins.drop n) <;> rfl
theorem eo_sS01 (x : ByteArray) (k : IntKind) (h : Int) : evalOp d look (.sliceS false true) [.p (.s x), .p (.i k h)] = some (0 ≤ h ∧ h ≤ x.size, .ofP (.s (x.extract 0 h.toNat))) := rfl
theorem eo_sS10 (x : ByteArray) (k : IntKind) (l : Int) : evalOp d look (.sliceS true false) [.p (.s x), .p (.i k l)] = some (0 ≤ l ∧ l ≤ x.size, .ofP (.s (x.extract l.toNat x.size))) := rfl
theorem eo_sS11 (x : ByteArray) (k k' : IntKind) (l h : Int) : evalOp d look (.sliceS true true) [.p (.s x), .p (.i k l), .p (.i k' h)] = some (0 ≤ l ∧ l ≤ h ∧ h ≤ x.size, .ofP (.s (x.extract l.toNat h.toNat))) := rfl
theorem eo_sL01 (sz s' : Nat) (xs : List PV) (k : IntKind) (h : Int) : evalOp d look (.sliceL sz false true) [.p (.sl s' xs), .p (.i k h)] = some (sz = s' ∧ 0 ≤ h ∧ h ≤ xs.length, .ofP (.sl sz (xs.take h.toNat))) := rfl
theorem eo_sL10 (sz s' : Nat) (xs : List PV) (k : IntKind) (l : Int) : evalOp d look (.sliceL sz true false) [.p (.sl s' xs), .p (.i k l)] = some (sz = s' ∧ 0 ≤ l ∧ l ≤ xs.length, .ofP (.sl sz (xs.drop l.toNat))) := rfl
theorem eo_sL11 (sz s' : Nat) (xs : List PV) (k k' : IntKind) (l h : Int) : evalOp d look (.sliceL sz true true) [.p (.sl s' xs), .p (.i k l), .p (.i k' h)] = some (sz = s' ∧ 0 ≤ l ∧ l ≤ h ∧ h ≤ xs.length, .ofP (.sl sz ((xs.take h.toNat).drop l.toNat))) := rfl
theorem eo_fadr_ip (off : Nat) (v : PV) (o : Nat) : evalOp d look (.fadr off) [.p (.ip v o)] = some (True, .ofP (.ip v (o + off))) := rfl
theorem eo_fadr_lp (off k o : Nat) : evalOp d look (.fadr off) [.lp k o] = some (True, .ofV (.lp k (o + off))) := rfl
theorem eo_fadr_ep (off k n i o : Nat) : evalOp d look (.fadr off) [.ep k n i o] = faEp off k n i o (look k) := by
  simp only [evalOp]; generalize look k = q; cases q with
  | none => rfl
  | some ob => cases ob <;> rfl
theorem eo_fld_t (off sz : Nat) (v : PV) : evalOp d look (.fld off sz true) [.p v] = some (off + sz ≤ v.cells.length ∧ (true = false → sz = 1) ∧ v.isAgg = true, .ofP (.agg ((v.cells.drop off).take sz))) := rfl
theorem eo_fld_f (off sz : Nat) (v : PV) : evalOp d look (.fld off sz false) [.p v] = some (off + sz ≤ v.cells.length ∧ (false = false → sz = 1) ∧ v.isAgg = true, .ofP ((v.cells[off]?).getD .any)) := rfl
theorem eo_idxA_t (n sz : Nat) (v : PV) (k : IntKind) (j : Int) : evalOp d look (.idxA n sz true) [.p v, .p (.i k j)] = some (0 ≤ j ∧ j < n ∧ v.cells.length = n * sz ∧ (true = false → sz = 1) ∧ v.isAgg = true, .ofP (.agg ((v.cells.drop (j.toNat * sz)).take sz))) := rfl
theorem eo_idxA_f (n sz : Nat) (v : PV) (k : IntKind) (j : Int) : evalOp d look (.idxA n sz false) [.p v, .p (.i k j)] = some (0 ≤ j ∧ j < n ∧ v.cells.length = n * sz ∧ (false = false → sz = 1) ∧ v.isAgg = true, .ofP ((v.cells[j.toNat * sz]?).getD .any)) := rfl
theorem eo_idxS (x : ByteArray) (k : IntKind) (j : Int) : evalOp d look .idxS [.p (.s x), .p (.i k j)] = some (0 ≤ j ∧ j < x.size, .ofP (.i .u8 ((x[j.toNat]?).getD 0).toNat)) := rfl
theorem eo_iadrS_sl (sz s' : Nat) (xs : List PV) (k : IntKind) (j : Int) : evalOp d look (.iadrS sz) [.p (.sl s' xs), .p (.i k j)] = some (sz = s' ∧ 0 ≤ j ∧ j < xs.length, .ofP (.ip ((xs[j.toNat]?).getD .any) 0)) := rfl
theorem eo_iadrS_row (sz q n : Nat) (k : IntKind) (j : Int) : evalOp d look (.iadrS sz) [.row q n, .p (.i k j)] = iaRow sz q n j (look q) := by
  simp only [evalOp]; cases look q with
  | none => rfl
  | some ob => cases ob <;> rfl
theorem eo_iadrA_ip (n sz : Nat) (v : PV) (o : Nat) (k : IntKind) (j : Int) : evalOp d look (.iadrA n sz) [.p (.ip v o), .p (.i k j)] = some (0 ≤ j ∧ j < n, .ofP (.ip v (o + j.toNat * sz))) := rfl
theorem eo_iadrA_lp (n sz q o : Nat) (k : IntKind) (j : Int) : evalOp d look (.iadrA n sz) [.lp q o, .p (.i k j)] = some (0 ≤ j ∧ j < n, .ofV (.lp q (o + j.toNat * sz))) := rfl
theorem eo_lenS (x : ByteArray) : evalOp d look (.len true) [.p (.s x)] = some (True, .ofP (.i .i64 x.size)) := rfl
theorem eo_lenR (k n : Nat) : evalOp d look (.len false) [.row k n] = lenK (elems look (.row k n)) := by
  simp only [evalOp]; generalize elems _ _ = q; cases q <;> rfl
theorem eo_lenP (sz : Nat) (xs : List PV) : evalOp d look (.len false) [.p (.sl sz xs)] = some (True, .ofP (.i .i64 xs.length)) := rfl
theorem eo_lenN : evalOp d look (.len false) [.p .nilsl] = some (True, .ofP (.i .i64 (0 : Nat))) := rfl
theorem eo_appN (e sz bytes : Nat) (y : LV) : evalOp d look (.app e sz bytes) [.p .nilsl, y] = apN d e sz bytes (elems look y) := by
  simp only [evalOp]; generalize elems _ _ = q; cases q <;> rfl
theorem eo_appR (e sz bytes k n : Nat) (y : LV) : evalOp d look (.app e sz bytes) [.row k n, y] = apR e sz bytes k n (look k) (elems look y) := by
  simp only [evalOp]; generalize elems look y = q; cases look k with
  | none => cases q <;> rfl
  | some ob => cases ob with
    | row e' es xs fz => cases fz <;> cases q <;> rfl
    | _ => cases q <;> rfl
theorem eo_mx (k k' : IntKind) (x y : Int) : evalOp d look .mx [.p (.i k x), .p (.i k' y)] = some (k = k', .ofP (.i k (max x y))) := rfl
theorem eo_mn (k k' : IntKind) (x y : Int) : evalOp d look .mn [.p (.i k x), .p (.i k' y)] = some (k = k', .ofP (.i k (min x y))) := rfl
theorem eo_ext (j : Nat) (vs : List PV) : evalOp d look (.ext j) [.p (.tup vs)] = some (j < vs.length, .ofP ((vs[j]?).getD .any)) := rfl
theorem eo_range (x : ByteArray) : evalOp d look .range [.p (.s x)] = some (True, ⟨.it d, some (d, .sit x 0), true, []⟩) := rfl
theorem eo_next (k : Nat) : evalOp d look .next [.it k] = nxK k (look k) := by
  simp only [evalOp]; generalize look k = q; cases q with
  | none => rfl
  | some ob => cases ob <;> rfl
theorem eo_mkslice (e sz bytes : Nat) (z : PV) (k1 k2 : IntKind) (n c : Int) : evalOp d look (.mkslice e sz bytes z) [.p (.i k1 n), .p (.i k2 c)] = some (0 ≤ n ∧ (n = c ∨ (n = 0 ∧ 0 ≤ c)) ∧ c.toNat * bytes ≤ 140737488355328, ⟨.row d n.toNat, some (d, .row e sz (List.replicate n.toNat z) false), true, []⟩) := rfl
theorem eo_copy (sz k n : Nat) (y : LV) : evalOp d look (.copy sz) [.row k n, y] = cpR sz k n (look k) (elems look y) := by
  simp only [evalOp]; generalize look k = q; generalize elems look y = r; cases q with
  | none => cases r <;> rfl
  | some ob => cases ob with
    | row e es xs fz => cases fz <;> cases r <;> rfl
    | _ => cases r <;> rfl
theorem eo_mkmap : evalOp d look .mkmap [] = some (True, ⟨.lm d, some (d, .mp [] false), true, []⟩) := rfl
theorem eo_lkup (ks : List Nat) (ag : Bool) (z : PV) (ok : Bool) (m : LV) (key : PV) : evalOp d look (.lkup ks ag z ok) [m, .p key] = lkK ks ag z ok key (mapOf look m) := by
  simp only [evalOp]; generalize mapOf look m = r; cases r <;> rfl
theorem mo_p (es : List (PV × PV)) : mapOf look (.p (.mp es)) = some (es, []) := rfl
theorem mo_lm (k : Nat) : mapOf look (.lm k) = moK k (look k) := by
  simp only [mapOf]; generalize look k = q; cases q with
  | none => rfl
  | some ob => cases ob <;> rfl
theorem eo_mset (ks : List Nat) (ag : Bool) (k : Nat) (key v : PV) : evalOp d look (.mset ks ag) [.lm k, .p key, .p v] = msK ks ag k key v (look k) := by
  simp only [evalOp]; generalize look k = q; cases q with
  | none => rfl
  | some ob => cases ob with
    | mp es fz => cases fz <;> rfl
    | _ => rfl
theorem el_nil : elems look (.p .nilsl) = some (True, [], 0, []) := rfl
theorem el_sl (sz : Nat) (xs : List PV) : elems look (.p (.sl sz xs)) = some (True, xs, sz, []) := rfl
theorem el_row (k n : Nat) : elems look (.row k n) = elRow k n (look k) := by
  simp only [elems]; cases look k with
  | none => rfl
  | some ob => cases ob <;> rfl
end
theorem allP_nil : allP [] = some [] := rfl
theorem allP_cons (v : PV) (r : List LV) : allP (.p v :: r) = apC v (allP r) := by
  simp only [allP]; cases allP r <;> rfl
def rdK (look : Nat → Option LObj) : List LV → List Nat
  | [] => []
  | q :: r => dKeys look 5 q ++ rdK look r
theorem rdK_eq (look : Nat → Option LObj) : ∀ l : List LV, l.flatMap (dKeys look 5) = rdK look l
  | [] => rfl
  | q :: r => by rw [List.flatMap_cons, rdK_eq look r]; rfl
theorem rdK_nil (look : Nat → Option LObj) : rdK look [] = [] := rfl
theorem rdK_p (look : Nat → Option LObj) (v : PV) (r : List LV) : rdK look (.p v :: r) = rdK look r := rfl
theorem rdK_g (look : Nat → Option LObj) (c : Bool) (q : LV) (r : List LV) : rdK look (.g c q :: r) = rdK look r := rfl
theorem rdK_row (look : Nat → Option LObj) (k n : Nat) (r : List LV) : rdK look (.row k n :: r) = k :: rdK look r := rfl
theorem rdK_ep (look : Nat → Option LObj) (k n i o : Nat) (r : List LV) : rdK look (.ep k n i o :: r) = k :: rdK look r := rfl
theorem rdK_it (look : Nat → Option LObj) (k : Nat) (r : List LV) : rdK look (.it k :: r) = k :: rdK look r := rfl
def lpK (look : Nat → Option LObj) : Option LObj → List Nat
  | some (.box cs _) => cs.flatMap (dKeys look 4)
  | _ => []
theorem rdK_lp (look : Nat → Option LObj) (k o : Nat) (r : List LV) : rdK look (.lp k o :: r) = k :: (lpK look (look k) ++ rdK look r) := by
  simp only [rdK, dKeys, lpK]
  cases look k with
  | none => rfl
  | some ob => cases ob <;> rfl
theorem rdK_lm (look : Nat → Option LObj) (k : Nat) (r : List LV) : rdK look (.lm k :: r) = k :: rdK look r := rfl
theorem rdK_fn (look : Nat → Option LObj) (f : Fn) (a b r : List LV) : rdK look (.fn f a b :: r) = a.flatMap (dKeys look 4) ++ b.flatMap (dKeys look 4) ++ rdK look r := rfl
theorem rdK_agg (look : Nat → Option LObj) (cs r : List LV) : rdK look (.agg cs :: r) = cs.flatMap (dKeys look 4) ++ rdK look r := rfl
theorem dk_p (look : Nat → Option LObj) (m : Nat) (v : PV) : dKeys look m (.p v) = [] := by cases m <;> rfl
theorem dk_any (look : Nat → Option LObj) (m : Nat) : dKeys look m .any = [] := by cases m <;> rfl
theorem dk_yield (look : Nat → Option LObj) (m : Nat) : dKeys look m .yield = [] := by cases m <;> rfl
theorem dk_row4 (look : Nat → Option LObj) (k n : Nat) : dKeys look 4 (.row k n) = [k] := rfl
theorem dk_lm4 (look : Nat → Option LObj) (k : Nat) : dKeys look 4 (.lm k) = [k] := rfl
theorem dk_it4 (look : Nat → Option LObj) (k : Nat) : dKeys look 4 (.it k) = [k] := rfl
theorem rdK_yield (look : Nat → Option LObj) (r : List LV) : rdK look (.yield :: r) = rdK look r := rfl
def rdM : AOp → List Nat → List Nat
  | .mv, _ | .pick, _ => []
  | _, l => l
theorem ftOf_o (s : St) (d : Option Nat) (op : AOp) (args : List AOpd) (gd : Option (Nat × Bool)) (af : List Nat) (wr : List (Nat × LObj)) : ftOf s ⟨d, op, args, gd, af⟩ wr = ⟨d.toList, rdT ⟨d, op, args, gd, af⟩, d.getD 0 :: wr.map (·.1), rdM op (rdK s.look (uns (rawIns s args))), af, false⟩ := by
  cases op <;> simp only [ftOf, rdO, rdK_eq, rdM]
theorem run_reg {G : Cfg} {s : St} {Q : APost} {l : List RO} (h : ∀ K : St → List Ft → Prop, (∀ s acc, Q .normal s → K s acc) → runS false (RunOps G.P G.ts false K) l s []) : Run G (.ops false l) s Q := run_region (run_ops (h _ fun _ _ h => h))
end Go.Proofs.YtcfbdeghmckelaaGreat
namespace Go.Proofs.YtcfbdeghmckelaaGreat
open Go.RowKit
section
variable {look look' : Nat → Option LObj} {d : Nat}
theorem dk_lp {k off : Nat} : k ∈ dKeys look 5 (.lp k off) := List.mem_cons_self
theorem dk_row {k n : Nat} : k ∈ dKeys look 5 (.row k n) := List.mem_cons_self
theorem dk_ep {k n i off : Nat} : k ∈ dKeys look 5 (.ep k n i off) := List.mem_cons_self
theorem known_agree {q : LV} (h : ∀ k ∈ dKeys look 5 q, look' k = look k) : q.known look' = q.known look := by
  cases q <;> try rfl
  rename_i k n
  have := h k List.mem_cons_self
  simp only [LV.known, this]
theorem oneL_agree : ∀ {l : List LV}, (∀ k ∈ l.flatMap (dKeys look 4), look' k = look k) → oneL look' l = oneL look l
  | [], _ => rfl
  | q :: r, h => by
    have ih : oneL look' r = oneL look r := oneL_agree fun k hk => h k (by rw [List.flatMap_cons]; exact List.mem_append_right _ hk)
    cases q <;> simp only [oneL, ih]
    rename_i k n
    have := h k (by rw [List.flatMap_cons]; exact List.mem_append_left _ List.mem_cons_self)
    rw [this]
theorem elems_agree {q : LV} (h : ∀ k ∈ dKeys look 5 q, look' k = look k) : elems look' q = elems look q := by
  cases q with
  | p v => cases v <;> rfl
  | row k n => simp only [elems, h k List.mem_cons_self]
  | _ => rfl
theorem cells_agree {q : LV} (h : ∀ k ∈ dKeys look 5 q, look' k = look k) : oneL look' q.cells = oneL look q.cells := by
  cases q with
  | agg cs => exact oneL_agree fun k hk => h k hk
  | p v =>
    have : ∀ l : List PV, oneL look' (l.map .p) = oneL look (l.map .p) := fun l => by
      induction l with
      | nil => rfl
      | cons x r ih => simp only [List.map_cons, oneL, ih]
    exact this _
  | row k n =>
    have := h k List.mem_cons_self
    simp only [LV.cells, oneL, this]
  | _ => rfl
theorem mapOf_agree {q : LV} (h : ∀ k ∈ dKeys look 5 q, look' k = look k) : mapOf look' q = mapOf look q := by
  cases q with
  | p v => cases v <;> rfl
  | lm k => simp only [mapOf, h k List.mem_cons_self]
  | _ => rfl
theorem dk_it {k : Nat} : k ∈ dKeys look 5 (.it k) := List.mem_cons_self
theorem dk_lm {k : Nat} : k ∈ dKeys look 5 (.lm k) := List.mem_cons_self
theorem evalOp_agree {op : AOp} {ins : List LV} (h : ∀ k ∈ ins.flatMap (dKeys look 5), look' k = look k) : evalOp d look' op ins = evalOp d look op ins := by
  have hk : ∀ q ∈ ins, ∀ k ∈ dKeys look 5 q, look' k = look k := fun q hq k hk => h k (List.mem_flatMap.2 ⟨q, hq, hk⟩)
  unfold evalOp
  split <;> first | rfl | skip
  · rename_i x; rw [known_agree (hk x (by simp))]
  · rename_i sz ag k off; rw [hk (.lp k off) (by simp) k dk_lp]
  · rename_i sz ag k n i off; rw [hk (.ep k n i off) (by simp) k dk_ep]
  · rename_i sz k off x; rw [hk (.lp k off) (by simp) k dk_lp]; simp only [cells_agree (hk x (by simp))]
  · rename_i sz k n i off v
    have e2 := cells_agree (hk (.p v) (by simp))
    simp only [LV.cells] at e2
    rw [hk (.ep k n i off) (by simp) k dk_ep]; simp only [e2]
  · rename_i off k n i o; rw [hk (.ep k n i o) (by simp) k dk_ep]
  · rename_i sz k n q j; rw [hk (.row k n) (by simp) k dk_row]
  · rename_i x; rw [elems_agree (hk x (by simp))]
  · rename_i e sz b y; rw [elems_agree (hk y (by simp))]
  · rename_i e sz b k n y; rw [elems_agree (hk y (by simp)), hk (.row k n) (by simp) k dk_row]
  · rename_i k; rw [hk (.it k) (by simp) k dk_it]
  · rename_i sz k n y; rw [elems_agree (hk y (by simp)), hk (.row k n) (by simp) k dk_row]
  · rename_i ks ag z ok m key; rw [mapOf_agree (hk m (by simp))]
  · rename_i ks ag k key v; rw [hk (.lm k) (by simp) k dk_lm]
end
end Go.Proofs.YtcfbdeghmckelaaGreat
namespace Go.Proofs.YtcfbdeghmckelaaGreat
open Go.RowKit
section
variable {look look' : Nat → Option LObj}
theorem toPV_go_agree {m : Nat} (ih : ∀ q : LV, (∀ k ∈ dKeys look m q, look' k = look k) → toPV look' m q = toPV look m q) : ∀ l : List LV, (∀ k ∈ l.flatMap (dKeys look m), look' k = look k) → toPV.go look' m l = toPV.go look m l
  | [], _ => by simp only [toPV.go]
  | q :: r, h => by
    rw [List.flatMap_cons] at h
    simp only [toPV.go, ih q fun k hk => h k (List.mem_append_left _ hk), toPV_go_agree ih r fun k hk => h k (List.mem_append_right _ hk)]
theorem toPV_agree : ∀ (m : Nat) (q : LV), (∀ k ∈ dKeys look m q, look' k = look k) → toPV look' m q = toPV look m q
  | 0, _, _ => by simp only [toPV]
  | m + 1, q, h => by
    cases q with
    | lp k off =>
      have e := h k List.mem_cons_self
      simp only [toPV, e]
      cases hk : look k with
      | none => rfl
      | some ob => cases ob with
        | box cs fz =>
          have hg : toPV.go look' m cs = toPV.go look m cs := toPV_go_agree (toPV_agree m) cs fun j hj => h j (by
            simp only [dKeys, hk]; exact List.mem_cons_of_mem _ hj)
          simp only [hg]
        | _ => rfl
    | row k n =>
      have e := h k List.mem_cons_self
      simp only [toPV, e]
    | fn f a b =>
      have h1 : toPV.go look' m a = toPV.go look m a := toPV_go_agree (toPV_agree m) a fun j hj => h j (by simp only [dKeys]; exact List.mem_append_left _ hj)
      have h2 : toPV.go look' m b = toPV.go look m b := toPV_go_agree (toPV_agree m) b fun j hj => h j (by simp only [dKeys]; exact List.mem_append_right _ hj)
      simp only [toPV, h1, h2]
    | agg cs =>
      have h1 : toPV.go look' m cs = toPV.go look m cs := toPV_go_agree (toPV_agree m) cs fun j hj => h j (by simp only [dKeys]; exact hj)
      simp only [toPV, h1]
    | lm k =>
      have e := h k List.mem_cons_self
      simp only [toPV, e]
    | _ => simp only [toPV]
theorem toPV_go_sub {m : Nat} (ih : ∀ {q : LV} {pre : Prop} {pv : PV} {ks : List Nat}, toPV look m q = some (pre, pv, ks) → ∀ k ∈ ks, k ∈ dKeys look m q) :
    ∀ {l : List LV} {pre : Prop} {ps : List PV} {ks : List Nat}, toPV.go look m l = some (pre, ps, ks) → ∀ k ∈ ks, k ∈ l.flatMap (dKeys look m)
  | [], pre, ps, ks, h, k, hk => by
    simp only [toPV.go] at h
    injection h with h; injection h with _ h; injection h with _ h; subst h; cases hk
  | q :: r, pre, ps, ks, h, k, hk => by
    simp only [toPV.go] at h
    rw [List.flatMap_cons]
    split at h
    · rename_i x y hx hy
      injection h with h; injection h with _ h; injection h with _ h; subst h
      rcases List.mem_append.1 hk with hk | hk
      · exact List.mem_append_left _ (ih hx k hk)
      · exact List.mem_append_right _ (toPV_go_sub ih hy k hk)
    · cases h
theorem toPV_sub : ∀ (m : Nat) {q : LV} {pre : Prop} {pv : PV} {ks : List Nat}, toPV look m q = some (pre, pv, ks) → ∀ k ∈ ks, k ∈ dKeys look m q
  | 0, q, pre, pv, ks, h, k, hk => by simp [toPV] at h
  | m + 1, q, pre, pv, ks, h, k, hk => by
    cases q with
    | p v => simp only [toPV] at h; injection h with h; injection h with _ h; injection h with _ h; subst h; cases hk
    | lp j off =>
      simp only [toPV] at h
      split at h
      · rename_i cs fz hl
        obtain ⟨r, hr, h⟩ := Option.map_eq_some_iff.1 h
        injection h with _ h; injection h with _ h; subst h
        simp only [dKeys, hl]
        rcases List.mem_cons.1 hk with rfl | hk
        · exact List.mem_cons_self
        · exact List.mem_cons_of_mem _ (toPV_go_sub (toPV_sub m) hr k hk)
      · cases h
    | row j n =>
      simp only [toPV] at h
      split at h
      · injection h with h; injection h with _ h; injection h with _ h; subst h; exact hk
      · cases h
    | fn f a b =>
      simp only [toPV] at h
      split at h
      · rename_i r t hr ht
        injection h with h; injection h with _ h; injection h with _ h; subst h
        simp only [dKeys]
        rcases List.mem_append.1 hk with hk | hk
        · exact List.mem_append_left _ (toPV_go_sub (toPV_sub m) hr k hk)
        · exact List.mem_append_right _ (toPV_go_sub (toPV_sub m) ht k hk)
      · cases h
    | agg cs =>
      simp only [toPV] at h
      obtain ⟨r, hr, h⟩ := Option.map_eq_some_iff.1 h
      injection h with _ h; injection h with _ h; subst h
      simp only [dKeys]
      exact toPV_go_sub (toPV_sub m) hr k hk
    | lm j =>
      simp only [toPV] at h
      split at h
      · injection h with h; injection h with _ h; injection h with _ h; subst h; exact hk
      · cases h
    | _ => simp [toPV] at h
theorem dKeys_succ : ∀ (m : Nat) (q : LV), ∀ k ∈ dKeys look m q, k ∈ dKeys look (m + 1) q
  | 0, _, k, hk => by cases hk
  | m + 1, q, k, hk => by
    have key : ∀ l : List LV, k ∈ l.flatMap (dKeys look m) → k ∈ l.flatMap (dKeys look (m + 1)) := fun l hl => by
      obtain ⟨x, hx, h⟩ := List.mem_flatMap.1 hl
      exact List.mem_flatMap.2 ⟨x, hx, dKeys_succ m x k h⟩
    cases q with
    | lp j off =>
      rw [dKeys] at hk ⊢
      rcases List.mem_cons.1 hk with rfl | hk
      · exact List.mem_cons_self
      · refine List.mem_cons_of_mem _ ?_
        split at hk
        · exact key _ hk
        · cases hk
    | fn f a b =>
      rw [dKeys] at hk ⊢
      rcases List.mem_append.1 hk with hk | hk
      · exact List.mem_append_left _ (key _ hk)
      · exact List.mem_append_right _ (key _ hk)
    | agg cs => rw [dKeys] at hk ⊢; exact key _ hk
    | _ => exact hk
theorem frzs_agree : ∀ (ks : List Nat), (∀ k ∈ ks, look' k = look k) → frzs look' ks = frzs look ks
  | [], _ => rfl
  | k :: r, h => by simp only [frzs, h k (by simp), frzs_agree r fun j hj => h j (by simp [hj])]
end
theorem opSem_agree {P : Program} {s s' : St} {o : RO} {v : LV} {wr : List (Nat × LObj)} (hs : OpSem P s o v wr) (ht : ∀ t ∈ rdT o, s'.get t = s.get t) (ho : ∀ k ∈ rdO s o, s'.look k = s.look k) (hd : s'.look (o.dst.getD 0) = s.look (o.dst.getD 0)) (hw : ∀ k ∈ wr.map (·.1), s'.look k = s.look k) : OpSem P s' o v wr := by
  have hg : gOf s' o.guard = gOf s o.guard := by
    cases hq : o.guard with
    | none => rfl
    | some x =>
      have := ht x.1 (by simp [rdT, gTmp, hq])
      simp only [gOf, this]
  have he : ∀ x ∈ o.args, x.ev s' = x.ev s := fun x hx => by
    cases x with
    | t n => exact ht n (List.mem_append_right _ (List.mem_flatMap.2 ⟨_, hx, by simp [AOpd.tmps]⟩))
    | c v => rfl
  have hr : rawIns s' o.args = rawIns s o.args := List.map_congr_left he
  have hlook : o.op ≠ .mv → o.op ≠ .pick → ∀ k ∈ (uns (rawIns s o.args)).flatMap (dKeys s.look 5), s'.look k = s.look k := fun h1 h2 k hk => ho k (by
    unfold rdO
    split
    · exact absurd ‹_› h1
    · exact absurd ‹_› h2
    · exact hk)
  have hpv : o.op ≠ .mv → o.op ≠ .pick → toPVs s'.look (uns (rawIns s o.args)) = toPVs s.look (uns (rawIns s o.args)) := fun h1 h2 =>
    toPV_go_agree (toPV_agree 4) _ fun k hk => hlook h1 h2 k (by
      obtain ⟨x, hx, h⟩ := List.mem_flatMap.1 hk
      exact List.mem_flatMap.2 ⟨x, hx, dKeys_succ 4 x k h⟩)
  have hlent : ∀ {m : Nat → Nat} {obj obj' : List (Nat × LObj)}, (∀ k o, oget obj k = some o → ∃ o', oget obj' k = some o' ∧ o.Follows o') → (∀ k ∈ (renO m obj').map (·.1), s'.look k = s.look k) → Lent s m obj obj' → Lent s' m obj obj' := fun {m obj obj'} hf hw h => by
    have hin : ∀ k o, oget obj' k = some o → s'.look (m k) = s.look (m k) := fun k o hk => hw _ (by
      rw [renO, List.map_map]; exact List.mem_map.2 ⟨(k, o), oget_mem hk, rfl⟩)
    exact ⟨fun k o hk => by obtain ⟨o', h1, _⟩ := hf k o hk; rw [hin k o' h1]; exact h.old k o hk, fun k o hk h0 => by rw [hin k o hk]; exact h.new k o hk h0, h.nd⟩
  cases hs with
  | @callS f m args obj obj' r h1 h2 h3 h4 h5 h6 => exact .callS h1 (hg.trans h2) (by rw [hr]; exact h3) (by rw [hr]; exact h4) h5 (hlent h5.2.2.1 hw h6)
  | @callSV f m fs cs vs args obj obj' r h1 h2 h3 h3' h4 h5 h6 => exact .callSV h1 (hg.trans h2) (by rw [hr]; exact h3) h3' (by rw [hr]; exact h4) h5 (hlent h5.2.2.1 hw h6)
  | @mv x c h1 h2 h3 =>
    rw [← he x (by rw [h2]; simp)]
    exact .mv h1 h2 (hg.trans h3)
  | @pick x y z c pre v h1 h2 h3 h4 h5 =>
    refine .pick h1 h2 (hg.trans h3) (pre := pre) ?_ ?_
    · rw [he x (by rw [h2]; simp), he y (by rw [h2]; simp), he z (by rw [h2]; simp)]; exact h4
    · rw [he x (by rw [h2]; simp)]; exact h5
  | @ev c pre eff h1 h2 h3 h4 h5 =>
    have hn1 : o.op ≠ .mv := fun e => by rw [e] at h2; simp [evalOp] at h2
    have hn2 : o.op ≠ .pick := fun e => by rw [e] at h2; simp [evalOp] at h2
    refine .ev (pre := pre) (hg.trans h1) ?_ (by rw [hr]; exact h3) h4 (fun e => by rw [hd]; exact h5 e)
    rw [hr, evalOp_agree (hlook hn1 hn2)]; exact h2
  | @callA c f pre vs ks r h1 h2 h3 h4 h5 =>
    have hn1 : o.op ≠ .mv := by rw [h1]; exact fun e => by cases e
    have hn2 : o.op ≠ .pick := by rw [h1]; exact fun e => by cases e
    refine .callA (pre := pre) (vs := vs) (ks := ks) h1 (hg.trans h2) ?_ (by rw [hr]; exact h4) h5
    rw [hr, hpv hn1 hn2]; exact h3
  | @callB f pre vs ks r h1 h2 h3 h4 h5 h6 =>
    have hn1 : o.op ≠ .mv := by rw [h1]; exact fun e => by cases e
    have hn2 : o.op ≠ .pick := by rw [h1]; exact fun e => by cases e
    have hks : frzs s'.look ks = frzs s.look ks := frzs_agree ks fun k hk => hlook hn1 hn2 k (by
      have := toPV_go_sub (fun hq => toPV_sub 4 hq) h3 k hk
      obtain ⟨x, hx, h⟩ := List.mem_flatMap.1 this
      exact List.mem_flatMap.2 ⟨x, hx, dKeys_succ 4 x k h⟩)
    rw [← hks]
    refine .callB (pre := pre) (vs := vs) h1 (hg.trans h2) ?_ (by rw [hr]; exact h4) h5 h6
    rw [hr, hpv hn1 hn2]; exact h3
  | @callV c f pre fs cs vs ks r h1 h2 h3 h4 h5 =>
    have hn1 : o.op ≠ .mv := by rw [h1]; exact fun e => by cases e
    have hn2 : o.op ≠ .pick := by rw [h1]; exact fun e => by cases e
    refine .callV (pre := pre) (vs := vs) (ks := ks) (fs := fs) (cs := cs) h1 (hg.trans h2) ?_ (by rw [hr]; exact h4) h5
    rw [hr, hpv hn1 hn2]; exact h3
  | @callVB f pre fs cs vs ks r h1 h2 h3 h4 h5 h6 =>
    have hn1 : o.op ≠ .mv := by rw [h1]; exact fun e => by cases e
    have hn2 : o.op ≠ .pick := by rw [h1]; exact fun e => by cases e
    have hks : frzs s'.look ks = frzs s.look ks := frzs_agree ks fun k hk => hlook hn1 hn2 k (by
      have := toPV_go_sub (fun hq => toPV_sub 4 hq) h3 k hk
      obtain ⟨x, hx, h⟩ := List.mem_flatMap.1 this
      exact List.mem_flatMap.2 ⟨x, hx, dKeys_succ 4 x k h⟩)
    rw [← hks]
    refine .callVB (pre := pre) (vs := vs) (fs := fs) (cs := cs) h1 (hg.trans h2) ?_ (by rw [hr]; exact h4) h5 h6
    rw [hr, hpv hn1 hn2]; exact h3
  | callN h2 => exact .callN (hg.trans h2)
end Go.Proofs.YtcfbdeghmckelaaGreat
namespace Go.Proofs.YtcfbdeghmckelaaGreat
open Go.RowKit
structure Rec where
  o : RO
  v : LV
  wr : List (Nat × LObj)
  ro : List Nat
def wlook : List (Nat × LObj) → Nat → Option LObj
  | [], _ => none
  | (j, o) :: r, k => match wlook r k with
    | some x => some x
    | none => if k = j then some o else none
def gW (x : Rec) (k : Nat) : Option LV := if x.o.dst = some k then some x.v else none
def oW (x : Rec) (k : Nat) : Option (Option LObj) := (wlook x.wr k).map some
theorem look_wrs_list : ∀ (wr : List (Nat × LObj)) (s : St) (k : Nat), (s.wrs wr).look k = ((wlook wr k).map some).getD (s.look k)
  | [], _, _ => rfl
  | (j, o) :: r, s, k => by
    rw [St.wrs, look_wrs_list r]
    simp only [wlook]
    cases h : wlook r k with
    | some x => rfl
    | none =>
      simp only [Option.map_none, Option.getD_none, St.look, St.wr, oget_oset, upd]
      split <;> rfl
theorem wlook_mem : ∀ {wr : List (Nat × LObj)} {k : Nat}, (wlook wr k).isSome = true → k ∈ wr.map (·.1)
  | [], k, h => by simp [wlook] at h
  | (j, o) :: r, k, h => by
    simp only [wlook] at h
    cases hr : wlook r k with
    | some x => exact List.mem_cons_of_mem _ (wlook_mem (by rw [hr]; rfl))
    | none =>
      simp only [hr] at h
      by_cases e : k = j
      · subst e; exact List.mem_cons_self
      · rw [if_neg e] at h; cases h
inductive Ch (P : Program) : List RO → St → List Rec → St → Prop
  | nil (s : St) : Ch P [] s [] s
  | cons {o : RO} {r : List RO} {s s' : St} {v : LV} {wr : List (Nat × LObj)} {rs : List Rec} : OpSem P s o v wr → Ch P r ((s.wrs wr).set o.dst v) rs s' → Ch P (o :: r) s (⟨o, v, wr, rdO s o⟩ :: rs) s'
def ov {β : Type} (W : Rec → Nat → Option β) : List Rec → Nat → (Nat → Bool) → (Nat → β) → Nat → β
  | [], _, _, f, k => f k
  | x :: xs, n, S, f, k => ov W xs (n + 1) S (fun k => if S n then (W x k).getD (f k) else f k) k
theorem ov_dep {β : Type} {W : Rec → Nat → Option β} {S T : Nat → Bool} {k : Nat} : ∀ {rs : List Rec} {n : Nat} {f f' : Nat → β}, (∀ j x, rs[j]? = some x → (W x k).isSome = true → S (n + j) = T (n + j)) → f k = f' k → ov W rs n S f k = ov W rs n T f' k
  | [], n, f, f', _, hf => hf
  | x :: xs, n, f, f', h, hf => by
    simp only [ov]
    refine ov_dep (fun j y hy hw => ?_) ?_
    · have := h (j + 1) y (by simpa using hy) hw
      rw [show n + 1 + j = n + (j + 1) by omega]; exact this
    · cases hw : W x k with
      | none => simp [hf]
      | some b =>
        have := h 0 x rfl (by rw [hw]; rfl)
        simp only [Nat.add_zero] at this
        simp only [this, hf]
theorem ov_none {β : Type} {W : Rec → Nat → Option β} {S : Nat → Bool} {k : Nat} : ∀ {rs : List Rec} {n : Nat} {f : Nat → β}, (∀ j, n ≤ j → S j = false) → ov W rs n S f k = f k
  | [], n, f, _ => rfl
  | x :: xs, n, f, h => by
    simp only [ov]
    rw [ov_none (fun j hj => h j (by omega))]
    simp [h n (Nat.le_refl _)]
theorem get_step (s : St) (x : Rec) (k : Nat) : ((s.wrs x.wr).set x.o.dst x.v).get k = (gW x k).getD (s.get k) := by
  rw [get_set, get_wrs]
  simp only [gW]
  cases hd : x.o.dst with
  | none => simp
  | some d =>
    simp only [upd, Option.some.injEq]
    by_cases h : k = d
    · subst h; simp
    · rw [if_neg h, if_neg (fun e => h e.symm)]; rfl
theorem look_step (s : St) (x : Rec) (k : Nat) : ((s.wrs x.wr).set x.o.dst x.v).look k = (oW x k).getD (s.look k) := by
  rw [look_set, look_wrs_list]; rfl
theorem ch_at {P : Program} {l : List RO} {s s' : St} {rs : List Rec} (h : Ch P l s rs s') : ∀ (n i : Nat) (x : Rec), rs[i]? = some x → ∃ si : St, l[i]? = some x.o ∧ OpSem P si x.o x.v x.wr ∧ x.ro = rdO si x.o ∧
    (∀ k, si.get k = ov gW rs n (fun j => decide (j < n + i)) s.get k) ∧ (∀ k, si.look k = ov oW rs n (fun j => decide (j < n + i)) s.look k) := by
  induction h with
  | nil s => intro n i x hx; simp at hx
  | @cons o r s s' v wr rs hs hch ih =>
    intro n i x hx
    cases i with
    | zero =>
      simp at hx; subst hx
      exact ⟨s, rfl, hs, rfl, fun k => (ov_none (fun j hj => by simp; omega)).symm, fun k => (ov_none (fun j hj => by simp; omega)).symm⟩
    | succ i =>
      obtain ⟨si, h1, h2, h3, h4, h5⟩ := ih (n + 1) i x (by simpa using hx)
      refine ⟨si, by simpa using h1, h2, h3, fun k => ?_, fun k => ?_⟩
      · rw [h4 k]
        simp only [ov]
        refine ov_dep (fun j y hy hw => by simp only [decide_eq_decide]; omega) ?_
        rw [get_step s ⟨o, v, wr, rdO s o⟩ k]
        simp
      · rw [h5 k]
        simp only [ov]
        refine ov_dep (fun j y hy hw => by simp only [decide_eq_decide]; omega) ?_
        rw [look_step s ⟨o, v, wr, rdO s o⟩ k]
        simp
theorem ch_end {P : Program} {l : List RO} {s s' : St} {rs : List Rec} (h : Ch P l s rs s') : ∀ (n : Nat), rs.length = l.length ∧ s'.tr = s.tr ∧ s'.stop = s.stop ∧ (∀ k, s'.get k = ov gW rs n (fun _ => true) s.get k) ∧ (∀ k, s'.look k = ov oW rs n (fun _ => true) s.look k) := by
  induction h with
  | nil s => intro n; exact ⟨rfl, rfl, rfl, fun _ => rfl, fun _ => rfl⟩
  | @cons o r s s' v wr rs hs hch ih =>
    intro n
    obtain ⟨h0, h1, h2, h4, h5⟩ := ih (n + 1)
    refine ⟨by simp [h0], by rw [h1, (tr_set _ _ _).1, (tr_wrs _ _).1], by rw [h2, (tr_set _ _ _).2, (tr_wrs _ _).2], fun k => ?_, fun k => ?_⟩
    · rw [h4 k]
      simp only [ov]
      refine ov_dep (fun j y hy hw => rfl) ?_
      rw [get_step s ⟨o, v, wr, rdO s o⟩ k]
      simp
    · rw [h5 k]
      simp only [ov]
      refine ov_dep (fun j y hy hw => rfl) ?_
      rw [look_step s ⟨o, v, wr, rdO s o⟩ k]
      simp
def Rec.wT (x : Rec) : List Nat := x.o.dst.toList
def Rec.rT (x : Rec) : List Nat := rdT x.o
def Rec.wO (x : Rec) : List Nat := x.o.dst.getD 0 :: x.wr.map (·.1)
def meets (l m : List Nat) : Bool := l.any fun a => m.contains a
def cf (x y : Rec) : Bool := meets x.wT y.rT || meets x.wT y.wT || meets x.rT y.wT || meets x.wO y.ro || meets x.wO y.wO || meets x.ro y.wO
def dep (b : Nat) (rs : List Rec) : Nat → Nat → Nat → Bool
  | 0, _, _ => false
  | f + 1, i, j => match rs[j]? with
    | some x => x.o.after.contains (b + i) || x.o.after.any fun m => decide (b ≤ m) && dep b rs f i (m - b)
    | none => false
def drawOk (b : Nat) (rs : List Rec) : Bool :=
  (List.range rs.length).all fun j => match rs[j]? with
    | some y => (y.o.after.all fun e => decide (e < b + j)) && (List.range j).all fun i => match rs[i]? with
      | some x => !cf x y || dep b rs 3 i j
      | none => true
    | none => true
theorem meets_of {l m : List Nat} {a : Nat} (h1 : a ∈ l) (h2 : a ∈ m) : meets l m = true := by
  simp only [meets, List.any_eq_true]
  exact ⟨a, h1, by simpa using h2⟩
theorem dep_sound {b : Nat} {rs : List Rec} {S : Nat → Bool} (hcl : ∀ j x, rs[j]? = some x → S (b + j) = true → ∀ e ∈ x.o.after, S e = true) : ∀ (f i j : Nat) (x : Rec), rs[j]? = some x → (∀ e ∈ x.o.after, S e = true) → dep b rs f i j = true → S (b + i) = true
  | 0, _, _, _, _, _, h => by simp [dep] at h
  | f + 1, i, j, x, hx, hs, h => by
    simp only [dep, hx, Bool.or_eq_true, List.any_eq_true, Bool.and_eq_true, decide_eq_true_eq] at h
    rcases h with h | ⟨m, hm, hbm, h⟩
    · exact hs (b + i) (by simpa using h)
    · cases hy : rs[m - b]? with
      | none =>
        cases f with
        | zero => simp [dep] at h
        | succ f => simp [dep, hy] at h
      | some y => exact dep_sound hcl f i (m - b) y hy (hcl (m - b) y hy (by rw [show b + (m - b) = m by omega]; exact hs m hm)) h
theorem drawOk_lt {b : Nat} {rs : List Rec} (h : drawOk b rs = true) {j : Nat} {y : Rec} (hy : rs[j]? = some y) : ∀ e ∈ y.o.after, e < b + j := by
  have hj : j < rs.length := (List.getElem?_eq_some_iff.1 hy).1
  simp only [drawOk, List.all_eq_true, List.mem_range] at h
  have := h j hj
  rw [hy] at this
  simp only [Bool.and_eq_true, List.all_eq_true, decide_eq_true_eq] at this
  exact this.1
theorem drawOk_cf {b : Nat} {rs : List Rec} (h : drawOk b rs = true) {i j : Nat} {x y : Rec} (hij : i < j) (hx : rs[i]? = some x) (hy : rs[j]? = some y) (hc : cf x y = true) : dep b rs 3 i j = true := by
  have hj : j < rs.length := (List.getElem?_eq_some_iff.1 hy).1
  simp only [drawOk, List.all_eq_true, List.mem_range] at h
  have := h j hj
  rw [hy] at this
  simp only [Bool.and_eq_true, List.all_eq_true, List.mem_range] at this
  have := this.2 i hij
  rw [hx] at this
  simpa [hc] using this
end Go.Proofs.YtcfbdeghmckelaaGreat
namespace Go.Proofs.YtcfbdeghmckelaaGreat
open Go.RowKit
theorem ready_iff {ops : Array Oper} {listed : Array Bool} {i : Nat} : i ∈ Region.ready .any ops listed ↔ ∃ oper, ops[i]? = some oper ∧ listed.getD i true = false ∧ ∀ e ∈ oper.after.toList, Region.binds .any e = true → listed.getD e.on false = true := by
  simp only [Region.ready, List.mem_filter, List.mem_range, Bool.and_eq_true, Bool.not_eq_true']
  constructor
  · rintro ⟨hi, h1, h2⟩
    have hs := Array.getElem?_eq_getElem hi
    refine ⟨_, hs, h1, fun e he hb => ?_⟩
    rw [hs] at h2
    simp only [Option.map_some, Option.getD_some, Array.all_eq_true] at h2
    obtain ⟨n, hn, hne⟩ := List.getElem_of_mem he
    have := h2 n (by simpa using hn)
    simp only [Array.getElem_toList] at hne
    rw [hne] at this
    simpa [hb] using this
  · rintro ⟨oper, hs, h1, h2⟩
    refine ⟨(Array.getElem?_eq_some_iff.1 hs).1, h1, ?_⟩
    rw [hs]
    simp only [Option.map_some, Option.getD_some, Array.all_eq_true]
    intro n hn
    cases hb : Region.binds .any oper.after[n] with
    | false => simp
    | true => simpa using h2 _ (by simp) hb
theorem after_of {P : Program} {N : Nat} {ops : Array Oper} {oper : Oper} {o : RO} (hr : ROk P N ops oper o) {listed : Nat → Bool} : (∀ e ∈ oper.after.toList, Region.binds .any e = true → listed e.on = true) ↔ ∀ e ∈ o.after, listed e = true := by
  rw [hr.ha]
  constructor
  · intro h e he
    obtain ⟨x, hx, hxe⟩ := List.mem_filterMap.1 he
    split at hxe
    · rename_i hb; injection hxe with hxe; subst hxe; exact h x hx hb
    · cases hxe
  · intro h e he hb
    exact h e.on (List.mem_filterMap.2 ⟨e, he, by rw [if_pos hb]⟩)
theorem compOps_get {P : Program} {N : Nat} {ops : Array Oper} : ∀ {os : List Oper} {l : List RO}, compOps P N ops os = some l → os.length = l.length ∧ ∀ (i : Nat) (x : Oper), os[i]? = some x → ∃ o, l[i]? = some o ∧ compRO P N ops x = some o
  | [], l, h => by simp [compOps] at h; subst h; exact ⟨rfl, fun i x hx => by simp at hx⟩
  | y :: os, l, h => by
    simp only [compOps] at h
    split at h
    · rename_i o r ho hr
      injection h with h; subst h
      obtain ⟨h1, h2⟩ := compOps_get hr
      refine ⟨by simp [h1], fun i x hx => ?_⟩
      cases i with
      | zero => simp at hx; subst hx; exact ⟨o, rfl, ho⟩
      | succ i => obtain ⟨o', g1, g2⟩ := h2 i x (by simpa using hx); exact ⟨o', by simpa using g1, g2⟩
    · cases h
def left (listed : Array Bool) (n : Nat) : Nat := (List.range n).countP fun i => !listed.getD i false
theorem left_set {listed : Array Bool} {n i : Nat} (hi : i < n) (hs : listed.size = n) (hf : listed.getD i false = false) : left (listed.setIfInBounds i true) n + 1 = left listed n := by
  unfold left
  have key : ∀ m, m ≤ n → (List.range m).countP (fun j => !(listed.setIfInBounds i true).getD j false) + (if i < m then 1 else 0) = (List.range m).countP (fun j => !listed.getD j false) := by
    intro m
    induction m with
    | zero => intro _; simp
    | succ m ih =>
      intro hm
      have ih := ih (by omega)
      rw [List.range_succ, List.countP_append, List.countP_append]
      simp only [List.countP_singleton]
      by_cases e : i = m
      · subst e
        have h1 : (listed.setIfInBounds i true).getD i false = true := by
          rw [Array.getD_eq_getD_getElem?, Array.getElem?_setIfInBounds_self_of_lt (by omega)]; rfl
        rw [h1, hf]
        simp at ih ⊢
        omega
      · have h1 : (listed.setIfInBounds i true).getD m false = listed.getD m false := by
          rw [Array.getD_eq_getD_getElem?, Array.getD_eq_getD_getElem?, Array.getElem?_setIfInBounds_ne e]
        rw [h1]
        have : (if i < m + 1 then 1 else 0) = (if i < m then 1 else 0) := by split <;> split <;> omega
        omega
  have := key n (Nat.le_refl _)
  rw [if_pos hi] at this
  exact this
theorem left_zero {listed : Array Bool} {n : Nat} (h : left listed n = 0) : ∀ i, i < n → listed.getD i false = true := by
  intro i hi
  unfold left at h
  rw [List.countP_eq_zero] at h
  simpa using h i (List.mem_range.2 hi)
theorem ov_succ {β : Type} {W : Rec → Nat → Option β} {k : Nat} : ∀ {rs : List Rec} {n i : Nat} {x : Rec} {f : Nat → β}, rs[i]? = some x → ov W rs n (fun j => decide (j < n + (i + 1))) f k = (W x k).getD (ov W rs n (fun j => decide (j < n + i)) f k)
  | [], n, i, x, f, h => by simp at h
  | y :: rs, n, 0, x, f, h => by
    simp at h; subst h
    simp only [ov]
    rw [ov_none (fun j hj => by simp; omega), ov_none (fun j hj => by simp; omega)]
    simp
  | y :: rs, n, i + 1, x, f, h => by
    have := ov_succ (W := W) (k := k) (rs := rs) (n := n + 1) (i := i) (x := x) (f := fun k => (W y k).getD (f k)) (by simpa using h)
    simp only [ov]
    have e1 : ∀ m, ov W rs (n + 1) (fun j => decide (j < n + (m + 1))) (fun k => if decide (n < n + (m + 1)) = true then (W y k).getD (f k) else f k) k = ov W rs (n + 1) (fun j => decide (j < n + 1 + m)) (fun k => (W y k).getD (f k)) k := fun m =>
      ov_dep (fun j z hz hw => by simp only [decide_eq_decide]; omega) (by simp)
    rw [e1 (i + 1), e1 i]
    exact this
theorem getD_set {listed : Array Bool} {i j : Nat} (hi : i < listed.size) : (listed.setIfInBounds i true).getD j false = if j = i then true else listed.getD j false := by
  rw [Array.getD_eq_getD_getElem?, Array.getD_eq_getD_getElem?]
  by_cases e : j = i
  · subst e; rw [Array.getElem?_setIfInBounds_self_of_lt hi, if_pos rfl]; rfl
  · rw [Array.getElem?_setIfInBounds_ne (Ne.symm e), if_neg e]
theorem cf_T {x y : Rec} {k : Nat} (h1 : k ∈ x.wT) (h2 : k ∈ y.rT ∨ k ∈ y.wT) : cf x y = true ∧ cf y x = true := by
  rcases h2 with h2 | h2
  · exact ⟨by simp [cf, meets_of h1 h2], by simp [cf, meets_of h2 h1]⟩
  · exact ⟨by simp [cf, meets_of h1 h2], by simp [cf, meets_of h2 h1]⟩
theorem cf_O {x y : Rec} {k : Nat} (h1 : k ∈ x.wO) (h2 : k ∈ y.ro ∨ k ∈ y.wO) : cf x y = true ∧ cf y x = true := by
  rcases h2 with h2 | h2
  · exact ⟨by simp [cf, meets_of h1 h2], by simp [cf, meets_of h2 h1]⟩
  · exact ⟨by simp [cf, meets_of h1 h2], by simp [cf, meets_of h2 h1]⟩
theorem gW_mem {x : Rec} {k : Nat} (h : (gW x k).isSome = true) : k ∈ x.wT := by
  simp only [gW] at h
  split at h
  · rename_i e; simp [Rec.wT, e]
  · cases h
theorem oW_mem {x : Rec} {k : Nat} (h : (oW x k).isSome = true) : k ∈ x.wO := by
  simp only [oW, Option.isSome_map] at h
  exact List.mem_cons_of_mem _ (wlook_mem h)
theorem draw_seg {P : Program} {ro : Option Nat} {X : Fx} {ops : Array Oper} (hM : X.MOk) {b : Nat} {L l : List RO} {rs : List Rec} {s s' : St} (hch : Ch P l s rs s') (hok : drawOk b rs = true) (hcomp : compOps P X.N ops ops.toList = some L)
    (hL : ∀ j o, l[j]? = some o → L[b + j]? = some o) (hLl : b + l.length ≤ L.length)
    (hbar : ∀ (S : Nat → Bool), (∀ j o, L[j]? = some o → S j = true → ∀ e ∈ o.after, S e = true) → (∀ j, j < b → S j = true) → ∀ i o, b + l.length ≤ i → L[i]? = some o → (∀ e ∈ o.after, S e = true) → ∀ j, j < b + l.length → S j = true)
    {QX : Exit → Act → World → Prop}
    (hQ : ∀ (fuel : Nat) (listed : Array Bool) (C : Ctx) (a : Act) (w : World), listed.size = ops.size → left listed ops.size ≤ fuel → (∀ j, listed.getD j false = decide (j < b + l.length)) → RelC X C s'.get s'.look s'.tr s'.stop a w → wpAnyIn (wideR ro) 0 P .any ops QX fuel listed a w) :
    ∀ (fuel : Nat) (listed : Array Bool) (a : Act) (w : World), listed.size = ops.size → left listed ops.size ≤ fuel → (∀ j, j < b → listed.getD j false = true) → (∀ j, b + l.length ≤ j → listed.getD j false = false) →
    (∀ j o, L[j]? = some o → listed.getD j false = true → ∀ e ∈ o.after, listed.getD e false = true) →
    (∃ (C : Ctx) (σ : St), RelC X C σ.get σ.look σ.tr σ.stop a w ∧ σ.tr = s.tr ∧ σ.stop = s.stop ∧ (∀ k, σ.get k = ov gW rs b (fun j => listed.getD j false) s.get k) ∧ (∀ k, σ.look k = ov oW rs b (fun j => listed.getD j false) s.look k)) →
    wpAnyIn (wideR ro) 0 P .any ops QX fuel listed a w := by
  obtain ⟨hlen, htr, hst, hget, hlook⟩ := ch_end hch b
  obtain ⟨hcl, hcg⟩ := compOps_get hcomp
  have hn : L.length = ops.size := by rw [← hcl]; simp
  have hfin : ∀ (listed : Array Bool) (a : Act) (w : World), (∀ i, i < b + l.length → listed.getD i false = true) →
      (∃ (C : Ctx) (σ : St), RelC X C σ.get σ.look σ.tr σ.stop a w ∧ σ.tr = s.tr ∧ σ.stop = s.stop ∧ (∀ k, σ.get k = ov gW rs b (fun j => listed.getD j false) s.get k) ∧ (∀ k, σ.look k = ov oW rs b (fun j => listed.getD j false) s.look k)) → ∃ C, RelC X C s'.get s'.look s'.tr s'.stop a w := by
    rintro listed a w hall ⟨C, σ, h, h1, h2, h3, h4⟩
    have e1 : σ.get = s'.get := funext fun k => by
      rw [h3 k, hget k]
      refine ov_dep (fun j x hx _ => ?_) rfl
      exact hall _ (by have := (List.getElem?_eq_some_iff.1 hx).1; omega)
    have e2 : σ.look = s'.look := funext fun k => by
      rw [h4 k, hlook k]
      refine ov_dep (fun j x hx _ => ?_) rfl
      exact hall _ (by have := (List.getElem?_eq_some_iff.1 hx).1; omega)
    rw [e1, e2, h1, h2, ← htr, ← hst] at h
    exact ⟨C, h⟩
  have hat : ∀ (i : Nat) (oper : Oper), ops[i]? = some oper → ∃ o, L[i]? = some o ∧ compRO P X.N ops oper = some o := fun i oper hi => hcg i oper (by simpa using hi)
  have hrec : ∀ (i : Nat), i < l.length → ∃ x, rs[i]? = some x ∧ L[b + i]? = some x.o := fun i hi => by
    have hx := List.getElem?_eq_getElem (l := rs) (i := i) (by omega)
    obtain ⟨si, g1, _⟩ := ch_at hch b i _ hx
    exact ⟨_, hx, hL i _ g1⟩
  intro fuel
  induction fuel with
  | zero =>
    intro listed a w hs hl h0 h1 hc hst2
    have hall := left_zero (Nat.le_zero.1 hl)
    have hall2 : ∀ i, i < b + l.length → listed.getD i false = true := fun i hi => hall i (by omega)
    obtain ⟨C, hr⟩ := hfin listed a w hall2 hst2
    exact hQ 0 listed C a w hs hl (fun j => by
      by_cases e : j < b + l.length
      · rw [hall2 j e]; simp [e]
      · rw [h1 j (by omega)]; simp [e]) hr
  | succ fuel ih =>
    intro listed a w hs hl h0 h1 hc hst2
    by_cases hall2 : ∀ i, i < b + l.length → listed.getD i false = true
    · obtain ⟨C, hr⟩ := hfin listed a w hall2 hst2
      exact hQ (fuel + 1) listed C a w hs hl (fun j => by
        by_cases e : j < b + l.length
        · rw [hall2 j e]; simp [e]
        · rw [h1 j (by omega)]; simp [e]) hr
    have hex : ∃ i, i < b + l.length ∧ listed.getD i false = false ∧ ∀ j, j < i → listed.getD j false = true := by
      have key : ∀ n, (∃ i, i < n ∧ listed.getD i false = false) → ∃ i, i < n ∧ listed.getD i false = false ∧ ∀ j, j < i → listed.getD j false = true := by
        intro n
        induction n with
        | zero => rintro ⟨i, hi, _⟩; omega
        | succ n ihn =>
          intro hx
          by_cases hy : ∃ i, i < n ∧ listed.getD i false = false
          · obtain ⟨i, e1, e2, e3⟩ := ihn hy; exact ⟨i, by omega, e2, e3⟩
          · obtain ⟨i, e1, e2⟩ := hx
            have : i = n := by
              by_cases e : i = n
              · exact e
              · exact absurd ⟨i, by omega, e2⟩ hy
            subst this
            exact ⟨i, by omega, e2, fun j hj => by
              cases hq : listed.getD j false with
              | true => rfl
              | false => exact absurd ⟨j, hj, hq⟩ hy⟩
      refine key _ ?_
      refine Classical.byContradiction fun hno => hall2 fun i hi => ?_
      cases hq : listed.getD i false with
      | true => rfl
      | false => exact absurd ⟨i, hi, hq⟩ hno
    obtain ⟨i0, hi0, hf0, hb0⟩ := hex
    refine ⟨fun hr => ?_, fun i hi => ?_⟩
    · exfalso
      have hbi : b ≤ i0 := Nat.not_lt.1 fun e => by rw [h0 i0 e] at hf0; cases hf0
      obtain ⟨x, hx, hLx⟩ := hrec (i0 - b) (by omega)
      rw [show b + (i0 - b) = i0 by omega] at hLx
      have hlt0 : i0 < ops.size := by rw [← hn]; exact (List.getElem?_eq_some_iff.1 hLx).1
      have hoper := Array.getElem?_eq_getElem hlt0
      obtain ⟨o, g1, hco⟩ := hat i0 _ hoper
      rw [hLx] at g1; injection g1 with g1
      have : i0 ∈ Region.ready .any ops listed := ready_iff.2 ⟨_, hoper, by
        rw [Array.getD_eq_getD_getElem?] at hf0 ⊢
        rw [Array.getElem?_eq_getElem (by omega)] at hf0 ⊢
        exact hf0, (after_of (compRO_ok hco) (listed := fun e => listed.getD e false)).2 fun e he => hb0 e (by rw [← g1] at he; have := drawOk_lt hok hx e he; omega)⟩
      rw [hr] at this; cases this
    obtain ⟨oper, g1, g2, g3⟩ := ready_iff.1 hi
    have hlt := (Array.getElem?_eq_some_iff.1 g1).1
    have hun : listed.getD i false = false := by
      rw [Array.getD_eq_getD_getElem?, Array.getElem?_eq_getElem (by omega)] at g2 ⊢
      exact g2
    obtain ⟨o, hLo, hcx⟩ := hat i oper g1
    have haf := (after_of (compRO_ok hcx) (listed := fun e => listed.getD e false)).1 g3
    have hib : b ≤ i := Nat.not_lt.1 fun e => by rw [h0 i e] at hun; cases hun
    have hie : i < b + l.length := Nat.not_le.1 fun e => hall2 (hbar (fun j => listed.getD j false) hc h0 i o e hLo haf)
    obtain ⟨ii, rfl⟩ : ∃ ii, i = b + ii := ⟨i - b, by omega⟩
    obtain ⟨x, hx, hLx⟩ := hrec ii (by omega)
    rw [hLo] at hLx; injection hLx with hLx; subst hLx
    obtain ⟨si, _, k2, k3, k4, k5⟩ := ch_at hch b ii x hx
    obtain ⟨C, σ, hrel, e1, e2, e3, e4⟩ := hst2
    have hcR : ∀ j y, rs[j]? = some y → listed.getD (b + j) false = true → ∀ e ∈ y.o.after, listed.getD e false = true := fun j y hy hj => by
      have hjl : j < l.length := by rw [← hlen]; exact (List.getElem?_eq_some_iff.1 hy).1
      obtain ⟨y', hy', hLy⟩ := hrec j hjl
      rw [hy] at hy'; injection hy' with hy'; subst hy'
      exact hc (b + j) _ hLy hj
    have hbef : ∀ (j : Nat) (y : Rec), rs[j]? = some y → j ≠ ii → cf y x = true ∧ cf x y = true → listed.getD (b + j) false = decide (j < ii) := fun j y hy hne hcf => by
      by_cases hji : j < ii
      · have hd := drawOk_cf hok hji hy hx hcf.1
        have : listed.getD (b + j) false = true := dep_sound (S := fun j => listed.getD j false) hcR 3 j ii x hx haf hd
        rw [this]; simp [hji]
      · have hij : ii < j := by omega
        have hd := drawOk_cf hok hij hx hy hcf.2
        cases hq : listed.getD (b + j) false with
        | false => simp [hji]
        | true =>
          have : listed.getD (b + ii) false = true := dep_sound (S := fun j => listed.getD j false) hcR 3 ii j y hy (hcR j y hy hq) hd
          rw [this] at hun; cases hun
    have hT : ∀ k, k ∈ x.rT ∨ k ∈ x.wT → ∀ j y, rs[j]? = some y → (gW y k).isSome = true → listed.getD (b + j) false = decide (j < ii) := fun k hk j y hy hw => by
      by_cases e : j = ii
      · subst e; rw [hun]; simp
      · exact hbef j y hy e (cf_T (gW_mem hw) hk)
    have hO : ∀ k, k ∈ x.ro ∨ k ∈ x.wO → ∀ j y, rs[j]? = some y → (oW y k).isSome = true → listed.getD (b + j) false = decide (j < ii) := fun k hk j y hy hw => by
      by_cases e : j = ii
      · subst e; rw [hun]; simp
      · exact hbef j y hy e (cf_O (oW_mem hw) hk)
    have aT : ∀ k, k ∈ x.rT ∨ k ∈ x.wT → σ.get k = si.get k := fun k hk => by
      rw [e3 k, k4 k]
      exact ov_dep (fun j y hy hw => by rw [hT k hk j y hy hw]; simp only [decide_eq_decide]; omega) rfl
    have aO : ∀ k, k ∈ x.ro ∨ k ∈ x.wO → σ.look k = si.look k := fun k hk => by
      rw [e4 k, k5 k]
      exact ov_dep (fun j y hy hw => by rw [hO k hk j y hy hw]; simp only [decide_eq_decide]; omega) rfl
    have hsem : OpSem P σ x.o x.v x.wr := opSem_agree k2 (fun t ht => aT t (.inl ht)) (fun k hk => aO k (.inl (by rw [k3]; exact hk))) (aO _ (.inr List.mem_cons_self)) (fun k hk => aO k (.inr (List.mem_cons_of_mem _ hk)))
    have hgs : ∀ j, (listed.setIfInBounds (b + ii) true).getD j false = if j = b + ii then true else listed.getD j false := fun j => getD_set (by omega)
    unfold wpOpIn
    rw [g1]
    refine opSem_sound (X := X) (s := σ) hsem hcx rfl hM hrel fun C' a' w' hr' => ?_
    refine ih _ a' w' (by simpa using hs) (by have := left_set hlt hs hun; omega) (fun j hj => by rw [hgs]; split <;> first | rfl | exact h0 j hj) (fun j hj => by rw [hgs, if_neg (by omega)]; exact h1 j hj) (fun j y hy hj e he => ?_) ⟨C', (σ.wrs x.wr).set x.o.dst x.v, ?_, ?_, ?_, fun k => ?_, fun k => ?_⟩
    · rw [hgs] at hj ⊢
      have : listed.getD e false = true := by
        by_cases ej : j = b + ii
        · subst ej; rw [hLo] at hy; injection hy with hy; subst hy; exact haf e he
        · rw [if_neg ej] at hj; exact hc j y hy hj e he
      rw [this]; simp
    · rw [(tr_set _ _ _).1, (tr_wrs _ _).1, (tr_set _ _ _).2, (tr_wrs _ _).2]; exact hr'
    · rw [(tr_set _ _ _).1, (tr_wrs _ _).1]; exact e1
    · rw [(tr_set _ _ _).2, (tr_wrs _ _).2]; exact e2
    · rw [get_step σ x k]
      cases hw : gW x k with
      | none =>
        simp only [Option.getD_none]
        rw [e3 k]
        refine ov_dep (fun j y hy hwy => ?_) rfl
        rw [hgs]
        by_cases ej : j = ii
        · subst ej; rw [hx] at hy; injection hy with hy; subst hy; rw [hw] at hwy; cases hwy
        · rw [if_neg (by omega)]
      | some v =>
        have hk : k ∈ x.wT := gW_mem (by rw [hw]; rfl)
        have := ov_succ (W := gW) (k := k) (n := b) (f := s.get) hx
        rw [hw] at this
        simp only [Option.getD_some] at this ⊢
        rw [← this]
        refine ov_dep (fun j y hy hwy => ?_) rfl
        rw [hgs]
        by_cases ej : j = ii
        · subst ej; simp
        · rw [if_neg (by omega), hT k (.inr hk) j y hy hwy]; simp only [decide_eq_decide]; omega
    · rw [look_step σ x k]
      cases hw : oW x k with
      | none =>
        simp only [Option.getD_none]
        rw [e4 k]
        refine ov_dep (fun j y hy hwy => ?_) rfl
        rw [hgs]
        by_cases ej : j = ii
        · subst ej; rw [hx] at hy; injection hy with hy; subst hy; rw [hw] at hwy; cases hwy
        · rw [if_neg (by omega)]
      | some v =>
        have hk : k ∈ x.wO := oW_mem (by rw [hw]; rfl)
        have := ov_succ (W := oW) (k := k) (n := b) (f := s.look) hx
        rw [hw] at this
        simp only [Option.getD_some] at this ⊢
        rw [← this]
        refine ov_dep (fun j y hy hwy => ?_) rfl
        rw [hgs]
        by_cases ej : j = ii
        · subst ej; simp
        · rw [if_neg (by omega), hO k (.inr hk) j y hy hwy]; simp only [decide_eq_decide]; omega
end Go.Proofs.YtcfbdeghmckelaaGreat
