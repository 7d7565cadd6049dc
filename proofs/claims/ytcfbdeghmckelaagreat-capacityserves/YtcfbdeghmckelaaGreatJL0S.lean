/- Contracts of functions that the proof uses, shared by the claims of this seat; no statement of its own. Part 46. No conditions. -/
import Derived.Test.YtcfbdeghmckelaaGreatJL0
set_option linter.all false
namespace Go.Proofs.YtcfbdeghmckelaaGreat
open Go.RowKit Go.ChangeShapes Go.WideShapes Go.ChangeAt
set_option maxRecDepth 100000
set_option linter.unusedVariables false
set_option linter.unusedSimpArgs false
set_option maxHeartbeats 4000000
abbrev seaPV (r : Req) (a b : Int) : PV := .agg [.s r.name, .s r.carrier, .s r.kind, .s r.term, .s r.partner, .s r.link, .i .i64 r.per.fro, .i .i64 r.per.to, .i .i64 r.per.days, .i .i64 r.minute, .i .i64 r.seats, .i .i64 r.size, .i .i64 r.noise, .i .i64 a, .i .i64 b]
theorem par88 : parP Tryz.prog 4 88 = some (true, [.s, .s, .s, .s, .s, .s, iT, iT, iT, iT, iT, iT, iT, iT, iT]) := by kernel_rfl
theorem fit_sea {p : PV} (h : FitPar Tryz.prog 4 88 p) : ∃ r a b, p = seaPV r a b := by
  obtain ⟨⟨ag, c, l, hp, rfl, hl⟩, hb⟩ := h
  rw [par88] at hp
  simp only [Option.some.injEq, Prod.mk.injEq] at hp
  obtain ⟨rfl, rfl⟩ := hp
  match l, hl with
  | [_, _, _, _, _, _, _, _, _, _, _, _, _, _, _], ⟨⟨a, ha⟩, ⟨b, hb⟩, ⟨c, hc⟩, ⟨d, hd⟩, ⟨e, he⟩, ⟨f, hf⟩, ⟨g, hg⟩, ⟨i, hi⟩, ⟨j, hj⟩, ⟨k, hk⟩, ⟨m, hm⟩, ⟨n, hn⟩, ⟨o, ho⟩, ⟨q, hq⟩, ⟨s, hs⟩, _⟩ =>
    subst ha hb hc hd he hf hg hi hj hk hm hn ho hq hs
    exact ⟨⟨a, b, c, d, e, f, ⟨g, i, j⟩, k, m, n, o⟩, q, s, rfl⟩
end Go.Proofs.YtcfbdeghmckelaaGreat
