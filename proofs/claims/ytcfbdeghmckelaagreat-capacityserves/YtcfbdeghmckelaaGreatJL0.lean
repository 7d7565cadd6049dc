/- Contracts of functions that the proof uses, shared by the claims of this seat; no statement of its own. Part 33. No conditions. -/
import Derived.Test.YtcfbdeghmckelaaGreatJW24
import Derived.Test.YtcfbdeghmckelaaGreatRows
set_option linter.all false
namespace Go.Proofs.YtcfbdeghmckelaaGreat
open Go.RowKit Go.ChangeShapes Go.WideShapes Go.ChangeAt
set_option maxRecDepth 100000
set_option linter.unusedVariables false
set_option linter.unusedSimpArgs false
set_option maxHeartbeats 4000000
abbrev iT : CP := .i .i64
def limT : List CP := [.s, .s, .s, iT, iT, iT, iT, iT, iT, iT, iT]
def movT : List CP := [iT, .s, .s, iT, iT, iT, .s]
theorem lim_of {l : List PV} (h : FitAll (Fit 3) limT l) : ∃ L : Lim, l = L.cells := by
  match l, h with
  | [_, _, _, _, _, _, _, _, _, _, _], ⟨⟨a, ha⟩, ⟨b, hb⟩, ⟨c, hc⟩, ⟨d, hd⟩, ⟨e, he⟩, ⟨f, hf⟩, ⟨g, hg⟩, ⟨i, hi⟩, ⟨j, hj⟩, ⟨k, hk⟩, ⟨m, hm⟩, _⟩ =>
    subst ha hb hc hd he hf hg hi hj hk hm
    exact ⟨⟨a, b, c, d, e, f, g, ⟨i, j, k⟩, m⟩, rfl⟩
theorem mov_of {l : List PV} (h : FitAll (Fit 3) movT l) : ∃ M : Mov, .agg l = M.pv := by
  match l, h with
  | [_, _, _, _, _, _, _], ⟨⟨a, ha⟩, ⟨b, hb⟩, ⟨c, hc⟩, ⟨d, hd⟩, ⟨e, he⟩, ⟨f, hf⟩, ⟨g, hg⟩, _⟩ =>
    subst ha hb hc hd he hf hg
    exact ⟨⟨a, b, c, d, e, f, g⟩, rfl⟩
theorem list_of {α : Type} {f : α → PV} : ∀ {xs : List PV}, (∀ x ∈ xs, ∃ a, x = f a) → ∃ L : List α, xs = L.map f
  | [], _ => ⟨[], rfl⟩
  | x :: r, h => by
    obtain ⟨a, rfl⟩ := h x (by simp)
    obtain ⟨L, rfl⟩ := list_of (xs := r) fun y hy => h y (by simp [hy])
    exact ⟨a :: L, rfl⟩
theorem par22 : parP Tryz.prog 4 22 = some (false, [.sl true limT]) := by kernel_rfl
theorem par23 : parP Tryz.prog 4 23 = some (false, [.sl true movT]) := by kernel_rfl
theorem und22 : Tryz.prog.underlying 22 = some (.slice 46) := by kernel_rfl
theorem byt46 : Tryz.prog.bytesOf 46 = 112 := by kernel_rfl
theorem fit_lims {p : PV} (h : FitPar Tryz.prog 4 22 p) : ∃ L : List Lim, p = .sl 11 (L.map Lim.pv) ∧ L.length * 112 ≤ 140737488355328 := by
  obtain ⟨⟨ag, c, l, hp, rfl, hl⟩, hb⟩ := h
  rw [par22] at hp
  simp only [Option.some.injEq, Prod.mk.injEq] at hp
  obtain ⟨rfl, rfl⟩ := hp
  match l, hl with
  | [q], ⟨⟨xs, hq, hx⟩, _⟩ =>
    subst hq
    obtain ⟨L, rfl⟩ := list_of (f := Lim.pv) (xs := xs) fun x h => by
      obtain ⟨l, rfl, hf⟩ := hx x h
      obtain ⟨L, rfl⟩ := lim_of hf
      exact ⟨L, rfl⟩
    refine ⟨L, rfl, ?_⟩
    have := hb 46 _ _ und22 rfl
    rw [byt46, List.length_map] at this
    unfold reachBytes at this; omega
theorem fit_movs {p : PV} (h : FitPar Tryz.prog 4 23 p) : ∃ M : List Mov, p = .sl 7 (M.map Mov.pv) := by
  obtain ⟨⟨ag, c, l, hp, rfl, hl⟩, hb⟩ := h
  rw [par23] at hp
  simp only [Option.some.injEq, Prod.mk.injEq] at hp
  obtain ⟨rfl, rfl⟩ := hp
  match l, hl with
  | [q], ⟨⟨xs, hq, hx⟩, _⟩ =>
    subst hq
    obtain ⟨L, rfl⟩ := list_of (f := Mov.pv) (xs := xs) fun x h => by
      obtain ⟨l, rfl, hf⟩ := hx x h
      exact mov_of hf
    exact ⟨L, rfl⟩
theorem own : ownKnob Tryz.prog.godebug = none := by kernel_rfl
theorem laid : laidOutB Tryz.prog = true := by kernel_rfl
theorem und4 : Tryz.prog.underlying 4 = some .bool := by kernel_rfl
abbrev zs : Value := .string ⟨#[]⟩
abbrev zi : Value := .int .i64 0
end Go.Proofs.YtcfbdeghmckelaaGreat
