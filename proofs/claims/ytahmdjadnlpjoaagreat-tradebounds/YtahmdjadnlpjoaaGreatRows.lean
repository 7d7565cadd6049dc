/-
  No cell of these rows narrows 'for every input' (looked for: loops, veiled, ifaces, maps, wideKeys, modest, calm, conditions, laid).
  DERIVED. THE GIVEN ROWS OF THIS SEAT. 12 by the template 'for every input the law returns true; each argument reads behind the call as it read before'; 0 by the template 'total and deterministic' (their statements: YtahmdjadnlpjoaaGreatTotals.lean).
  GIVEN WITH THE SEED: the statements are not yours to turn. If you find one false, say at which input.
  Laid BY PROGRAM, IN A SANDBOX (cutbox-rows.mjs): the forced cells as the released guide's own fill.sh prints them over the translation f7e6a4e4d67d8cc9… (all of the seat's roots in one cut). By AI agents, Wed Nov 11 2026. No macro, syntax, notation, axiom, sorry.
-/
import Derived.Test.YtahmdjadnlpjoaaGreatChecked
import GoSem.Claim
import GoSem.ClaimJoined
import GoSem.ClaimMapViews
import Derived.JoinedTies
import Derived.KernelRfl
namespace Go.Proofs.YtahmdjadnlpjoaaGreat
/- THE CELL 'sum', in the pinned program and in every row, IS THE sha256 OF THE DUMP (.gsa) THAT YtahmdjadnlpjoaaGreatProg.lean LOADS. Nothing in Lean hashes anything: it is a label: what it is worth is what the hold of that sum in a sandbox is worth. -/
noncomputable def Tryz.pinned : Pinned := { name := "ytahmdjadnlpjoaagreat", sum := "f7e6a4e4d67d8cc95b15a04be3eed84b29d4f2b6f4417879215bcdeaf4e0ca79", checked := Tryz.checked }
namespace Rows
def none {H : Type} : Left H := { results := [], args := [] }

/-- 'turnroundlaw08.TradeBooks': WHATEVER THE INPUT: true; the input reads as it did. -/
def tradeBooksSpec : ChangeSpec := { name := "tradeBooks", fn := fun _ => fun
  | [d1, d2, d3] => { results := [.lit (.bool true)], args := [d1, d2, d3] }
  | _ => none }
def tradeBooksRow : OpenClaim := { program := "ytahmdjadnlpjoaagreat", sum := "f7e6a4e4d67d8cc95b15a04be3eed84b29d4f2b6f4417879215bcdeaf4e0ca79", func := "turnround/turnroundlaw08.TradeBooks", spec := "tradeBooks", unfollowed := true, recurses := true, plainKeys := false, apart := false }
def TradeBooksSaid : Prop := tradeBooksRow.holds Tryz.pinned (OpenSpec.ofChange tradeBooksSpec)

/-- ITS FALSE NEIGHBOUR: 'it returns false'. Refute it at one input. -/
def tradeBooksWrong : ChangeSpec := { name := "tradeBooks", fn := fun _ => fun
  | [d1, d2, d3] => { results := [.lit (.bool false)], args := [d1, d2, d3] }
  | _ => none }
def TradeBooksWrongFalsely : Prop := tradeBooksRow.holds Tryz.pinned (OpenSpec.ofChange tradeBooksWrong)

/-- 'turnroundlaw08.TradeWaits': WHATEVER THE INPUT: true; the input reads as it did. -/
def tradeWaitsSpec : ChangeSpec := { name := "tradeWaits", fn := fun _ => fun
  | [d1, d2, d3] => { results := [.lit (.bool true)], args := [d1, d2, d3] }
  | _ => none }
def tradeWaitsRow : OpenClaim := { program := "ytahmdjadnlpjoaagreat", sum := "f7e6a4e4d67d8cc95b15a04be3eed84b29d4f2b6f4417879215bcdeaf4e0ca79", func := "turnround/turnroundlaw08.TradeWaits", spec := "tradeWaits", unfollowed := true, recurses := true, plainKeys := false, apart := false }
def TradeWaitsSaid : Prop := tradeWaitsRow.holds Tryz.pinned (OpenSpec.ofChange tradeWaitsSpec)

/-- ITS FALSE NEIGHBOUR: 'it returns false'. Refute it at one input. -/
def tradeWaitsWrong : ChangeSpec := { name := "tradeWaits", fn := fun _ => fun
  | [d1, d2, d3] => { results := [.lit (.bool false)], args := [d1, d2, d3] }
  | _ => none }
def TradeWaitsWrongFalsely : Prop := tradeWaitsRow.holds Tryz.pinned (OpenSpec.ofChange tradeWaitsWrong)

/-- 'turnroundlaw08.TradeUses': WHATEVER THE INPUT: true; the input reads as it did. -/
def tradeUsesSpec : ChangeSpec := { name := "tradeUses", fn := fun _ => fun
  | [d1, d2] => { results := [.lit (.bool true)], args := [d1, d2] }
  | _ => none }
def tradeUsesRow : OpenClaim := { program := "ytahmdjadnlpjoaagreat", sum := "f7e6a4e4d67d8cc95b15a04be3eed84b29d4f2b6f4417879215bcdeaf4e0ca79", func := "turnround/turnroundlaw08.TradeUses", spec := "tradeUses", unfollowed := true, recurses := true, plainKeys := false, apart := false }
def TradeUsesSaid : Prop := tradeUsesRow.holds Tryz.pinned (OpenSpec.ofChange tradeUsesSpec)

/-- ITS FALSE NEIGHBOUR: 'it returns false'. Refute it at one input. -/
def tradeUsesWrong : ChangeSpec := { name := "tradeUses", fn := fun _ => fun
  | [d1, d2] => { results := [.lit (.bool false)], args := [d1, d2] }
  | _ => none }
def TradeUsesWrongFalsely : Prop := tradeUsesRow.holds Tryz.pinned (OpenSpec.ofChange tradeUsesWrong)

/-- 'turnroundlaw08.TradeEmpty': WHATEVER THE INPUT: true; the input reads as it did. -/
def tradeEmptySpec : ChangeSpec := { name := "tradeEmpty", fn := fun _ => fun
  | [d1, d2] => { results := [.lit (.bool true)], args := [d1, d2] }
  | _ => none }
def tradeEmptyRow : OpenClaim := { program := "ytahmdjadnlpjoaagreat", sum := "f7e6a4e4d67d8cc95b15a04be3eed84b29d4f2b6f4417879215bcdeaf4e0ca79", func := "turnround/turnroundlaw08.TradeEmpty", spec := "tradeEmpty", unfollowed := true, recurses := true, plainKeys := false, apart := false }
def TradeEmptySaid : Prop := tradeEmptyRow.holds Tryz.pinned (OpenSpec.ofChange tradeEmptySpec)

/-- ITS FALSE NEIGHBOUR: 'it returns false'. Refute it at one input. -/
def tradeEmptyWrong : ChangeSpec := { name := "tradeEmpty", fn := fun _ => fun
  | [d1, d2] => { results := [.lit (.bool false)], args := [d1, d2] }
  | _ => none }
def TradeEmptyWrongFalsely : Prop := tradeEmptyRow.holds Tryz.pinned (OpenSpec.ofChange tradeEmptyWrong)

/-- 'turnroundlaw08.TradeQueues': WHATEVER THE INPUT: true; the input reads as it did. -/
def tradeQueuesSpec : ChangeSpec := { name := "tradeQueues", fn := fun _ => fun
  | [d1, d2] => { results := [.lit (.bool true)], args := [d1, d2] }
  | _ => none }
def tradeQueuesRow : OpenClaim := { program := "ytahmdjadnlpjoaagreat", sum := "f7e6a4e4d67d8cc95b15a04be3eed84b29d4f2b6f4417879215bcdeaf4e0ca79", func := "turnround/turnroundlaw08.TradeQueues", spec := "tradeQueues", unfollowed := true, recurses := true, plainKeys := false, apart := false }
def TradeQueuesSaid : Prop := tradeQueuesRow.holds Tryz.pinned (OpenSpec.ofChange tradeQueuesSpec)

/-- ITS FALSE NEIGHBOUR: 'it returns false'. Refute it at one input. -/
def tradeQueuesWrong : ChangeSpec := { name := "tradeQueues", fn := fun _ => fun
  | [d1, d2] => { results := [.lit (.bool false)], args := [d1, d2] }
  | _ => none }
def TradeQueuesWrongFalsely : Prop := tradeQueuesRow.holds Tryz.pinned (OpenSpec.ofChange tradeQueuesWrong)

/-- 'turnroundlaw08.TradeTimes': WHATEVER THE INPUT: true; the input reads as it did. -/
def tradeTimesSpec : ChangeSpec := { name := "tradeTimes", fn := fun _ => fun
  | [d1, d2, d3] => { results := [.lit (.bool true)], args := [d1, d2, d3] }
  | _ => none }
def tradeTimesRow : OpenClaim := { program := "ytahmdjadnlpjoaagreat", sum := "f7e6a4e4d67d8cc95b15a04be3eed84b29d4f2b6f4417879215bcdeaf4e0ca79", func := "turnround/turnroundlaw08.TradeTimes", spec := "tradeTimes", unfollowed := true, recurses := true, plainKeys := false, apart := false }
def TradeTimesSaid : Prop := tradeTimesRow.holds Tryz.pinned (OpenSpec.ofChange tradeTimesSpec)

/-- ITS FALSE NEIGHBOUR: 'it returns false'. Refute it at one input. -/
def tradeTimesWrong : ChangeSpec := { name := "tradeTimes", fn := fun _ => fun
  | [d1, d2, d3] => { results := [.lit (.bool false)], args := [d1, d2, d3] }
  | _ => none }
def TradeTimesWrongFalsely : Prop := tradeTimesRow.holds Tryz.pinned (OpenSpec.ofChange tradeTimesWrong)

/-- 'turnroundlaw08.TradeLeases': WHATEVER THE INPUT: true; the input reads as it did. -/
def tradeLeasesSpec : ChangeSpec := { name := "tradeLeases", fn := fun _ => fun
  | [d1, d2] => { results := [.lit (.bool true)], args := [d1, d2] }
  | _ => none }
def tradeLeasesRow : OpenClaim := { program := "ytahmdjadnlpjoaagreat", sum := "f7e6a4e4d67d8cc95b15a04be3eed84b29d4f2b6f4417879215bcdeaf4e0ca79", func := "turnround/turnroundlaw08.TradeLeases", spec := "tradeLeases", unfollowed := true, recurses := true, plainKeys := false, apart := false }
def TradeLeasesSaid : Prop := tradeLeasesRow.holds Tryz.pinned (OpenSpec.ofChange tradeLeasesSpec)

/-- ITS FALSE NEIGHBOUR: 'it returns false'. Refute it at one input. -/
def tradeLeasesWrong : ChangeSpec := { name := "tradeLeases", fn := fun _ => fun
  | [d1, d2] => { results := [.lit (.bool false)], args := [d1, d2] }
  | _ => none }
def TradeLeasesWrongFalsely : Prop := tradeLeasesRow.holds Tryz.pinned (OpenSpec.ofChange tradeLeasesWrong)

/-- 'turnroundlaw08.TradeExchanges': WHATEVER THE INPUT: true; the input reads as it did. -/
def tradeExchangesSpec : ChangeSpec := { name := "tradeExchanges", fn := fun _ => fun
  | [d1, d2] => { results := [.lit (.bool true)], args := [d1, d2] }
  | _ => none }
def tradeExchangesRow : OpenClaim := { program := "ytahmdjadnlpjoaagreat", sum := "f7e6a4e4d67d8cc95b15a04be3eed84b29d4f2b6f4417879215bcdeaf4e0ca79", func := "turnround/turnroundlaw08.TradeExchanges", spec := "tradeExchanges", unfollowed := true, recurses := true, plainKeys := false, apart := false }
def TradeExchangesSaid : Prop := tradeExchangesRow.holds Tryz.pinned (OpenSpec.ofChange tradeExchangesSpec)

/-- ITS FALSE NEIGHBOUR: 'it returns false'. Refute it at one input. -/
def tradeExchangesWrong : ChangeSpec := { name := "tradeExchanges", fn := fun _ => fun
  | [d1, d2] => { results := [.lit (.bool false)], args := [d1, d2] }
  | _ => none }
def TradeExchangesWrongFalsely : Prop := tradeExchangesRow.holds Tryz.pinned (OpenSpec.ofChange tradeExchangesWrong)

/-- 'turnroundlaw08.TradeRings': WHATEVER THE INPUT: true; the input reads as it did. -/
def tradeRingsSpec : ChangeSpec := { name := "tradeRings", fn := fun _ => fun
  | [d1, d2] => { results := [.lit (.bool true)], args := [d1, d2] }
  | _ => none }
def tradeRingsRow : OpenClaim := { program := "ytahmdjadnlpjoaagreat", sum := "f7e6a4e4d67d8cc95b15a04be3eed84b29d4f2b6f4417879215bcdeaf4e0ca79", func := "turnround/turnroundlaw08.TradeRings", spec := "tradeRings", unfollowed := true, recurses := true, plainKeys := false, apart := false }
def TradeRingsSaid : Prop := tradeRingsRow.holds Tryz.pinned (OpenSpec.ofChange tradeRingsSpec)

/-- ITS FALSE NEIGHBOUR: 'it returns false'. Refute it at one input. -/
def tradeRingsWrong : ChangeSpec := { name := "tradeRings", fn := fun _ => fun
  | [d1, d2] => { results := [.lit (.bool false)], args := [d1, d2] }
  | _ => none }
def TradeRingsWrongFalsely : Prop := tradeRingsRow.holds Tryz.pinned (OpenSpec.ofChange tradeRingsWrong)

/-- 'turnroundlaw08.TradeBounds': WHATEVER THE INPUT: true; the input reads as it did. -/
def tradeBoundsSpec : ChangeSpec := { name := "tradeBounds", fn := fun _ => fun
  | [d1, d2, d3] => { results := [.lit (.bool true)], args := [d1, d2, d3] }
  | _ => none }
def tradeBoundsRow : OpenClaim := { program := "ytahmdjadnlpjoaagreat", sum := "f7e6a4e4d67d8cc95b15a04be3eed84b29d4f2b6f4417879215bcdeaf4e0ca79", func := "turnround/turnroundlaw08.TradeBounds", spec := "tradeBounds", unfollowed := true, recurses := true, plainKeys := false, apart := false }
def TradeBoundsSaid : Prop := tradeBoundsRow.holds Tryz.pinned (OpenSpec.ofChange tradeBoundsSpec)

/-- ITS FALSE NEIGHBOUR: 'it returns false'. Refute it at one input. -/
def tradeBoundsWrong : ChangeSpec := { name := "tradeBounds", fn := fun _ => fun
  | [d1, d2, d3] => { results := [.lit (.bool false)], args := [d1, d2, d3] }
  | _ => none }
def TradeBoundsWrongFalsely : Prop := tradeBoundsRow.holds Tryz.pinned (OpenSpec.ofChange tradeBoundsWrong)

/-- 'turnroundlaw08.TradeTotals': WHATEVER THE INPUT: true; the input reads as it did. -/
def tradeTotalsSpec : ChangeSpec := { name := "tradeTotals", fn := fun _ => fun
  | [d1, d2] => { results := [.lit (.bool true)], args := [d1, d2] }
  | _ => none }
def tradeTotalsRow : OpenClaim := { program := "ytahmdjadnlpjoaagreat", sum := "f7e6a4e4d67d8cc95b15a04be3eed84b29d4f2b6f4417879215bcdeaf4e0ca79", func := "turnround/turnroundlaw08.TradeTotals", spec := "tradeTotals", unfollowed := true, recurses := true, plainKeys := false, apart := false }
def TradeTotalsSaid : Prop := tradeTotalsRow.holds Tryz.pinned (OpenSpec.ofChange tradeTotalsSpec)

/-- ITS FALSE NEIGHBOUR: 'it returns false'. Refute it at one input. -/
def tradeTotalsWrong : ChangeSpec := { name := "tradeTotals", fn := fun _ => fun
  | [d1, d2] => { results := [.lit (.bool false)], args := [d1, d2] }
  | _ => none }
def TradeTotalsWrongFalsely : Prop := tradeTotalsRow.holds Tryz.pinned (OpenSpec.ofChange tradeTotalsWrong)

/-- 'turnroundlaw08.TradeEvents': WHATEVER THE INPUT: true; the input reads as it did. -/
def tradeEventsSpec : ChangeSpec := { name := "tradeEvents", fn := fun _ => fun
  | [d1, d2, d3] => { results := [.lit (.bool true)], args := [d1, d2, d3] }
  | _ => none }
def tradeEventsRow : OpenClaim := { program := "ytahmdjadnlpjoaagreat", sum := "f7e6a4e4d67d8cc95b15a04be3eed84b29d4f2b6f4417879215bcdeaf4e0ca79", func := "turnround/turnroundlaw08.TradeEvents", spec := "tradeEvents", unfollowed := true, recurses := true, plainKeys := false, apart := false }
def TradeEventsSaid : Prop := tradeEventsRow.holds Tryz.pinned (OpenSpec.ofChange tradeEventsSpec)

/-- ITS FALSE NEIGHBOUR: 'it returns false'. Refute it at one input. -/
def tradeEventsWrong : ChangeSpec := { name := "tradeEvents", fn := fun _ => fun
  | [d1, d2, d3] => { results := [.lit (.bool false)], args := [d1, d2, d3] }
  | _ => none }
def TradeEventsWrongFalsely : Prop := tradeEventsRow.holds Tryz.pinned (OpenSpec.ofChange tradeEventsWrong)

/- THE SECOND FORM. 'bulk': how many values and letters a reading holds, each counted each time it is reached (what is shared counts as often as it is met; a slice's spare places count too). A statement '..UptoSaid' is the law's where the arguments, and the package variables that the reading takes, are together of bulk at most 1048576: NARROWER than '..Said'. Prove '..Said' where nothing that the law and all that it calls make is longer than what came in: it says more and counts as full. Else prove '..UptoSaid'. A law counts once. -/
mutual
def uptoBulk {H : Type} : DataW H → Nat
  | .lit (.string bytes) => bytes.length + 1
  | .lit _ => 1
  | .nil => 1
  | .ptr d => uptoBulk d + 1
  | .slice elems spare => uptoBulkAll elems + uptoBulkAll spare + 1
  | .agg parts => uptoBulkAll parts + 1
  | .iface _ d => uptoBulk d + 1
  | .map entries => uptoBulkEntries entries + 1
  | .held _ => 1
def uptoBulkAll {H : Type} : List (DataW H) → Nat
  | [] => 0
  | d :: r => uptoBulk d + uptoBulkAll r
def uptoBulkEntries {H : Type} : List (Lit × DataW H) → Nat
  | [] => 0
  | x :: r => uptoBulkEntry x + uptoBulkEntries r
def uptoBulkEntry {H : Type} : Lit × DataW H → Nat
  | (.string bytes, d) => bytes.length + uptoBulk d + 1
  | (_, d) => uptoBulk d + 1
 end
def uptoSmall : (H : Type) → List (DataW H) → Bool := fun _ ds => decide (uptoBulkAll ds ≤ 1048576)
def OpenSpec.upto (s : _root_.Go.ChangeSpec) : _root_.Go.OpenSpec := { _root_.Go.OpenSpec.ofChange s with cond := some uptoSmall }

/-- 'turnroundlaw08.TradeBooks', WHERE WHAT IT READS IS OF BULK AT MOST 1048576: true; the input reads as it did. -/
def tradeBooksUptoRow : OpenClaim := { program := "ytahmdjadnlpjoaagreat", sum := "f7e6a4e4d67d8cc95b15a04be3eed84b29d4f2b6f4417879215bcdeaf4e0ca79", func := "turnround/turnroundlaw08.TradeBooks", spec := "tradeBooks", unfollowed := true, recurses := true, plainKeys := false, apart := false, narrowed := true }
def TradeBooksUptoSaid : Prop := tradeBooksUptoRow.holds Tryz.pinned (OpenSpec.upto tradeBooksSpec)

/-- 'turnroundlaw08.TradeWaits', WHERE WHAT IT READS IS OF BULK AT MOST 1048576: true; the input reads as it did. -/
def tradeWaitsUptoRow : OpenClaim := { program := "ytahmdjadnlpjoaagreat", sum := "f7e6a4e4d67d8cc95b15a04be3eed84b29d4f2b6f4417879215bcdeaf4e0ca79", func := "turnround/turnroundlaw08.TradeWaits", spec := "tradeWaits", unfollowed := true, recurses := true, plainKeys := false, apart := false, narrowed := true }
def TradeWaitsUptoSaid : Prop := tradeWaitsUptoRow.holds Tryz.pinned (OpenSpec.upto tradeWaitsSpec)

/-- 'turnroundlaw08.TradeUses', WHERE WHAT IT READS IS OF BULK AT MOST 1048576: true; the input reads as it did. -/
def tradeUsesUptoRow : OpenClaim := { program := "ytahmdjadnlpjoaagreat", sum := "f7e6a4e4d67d8cc95b15a04be3eed84b29d4f2b6f4417879215bcdeaf4e0ca79", func := "turnround/turnroundlaw08.TradeUses", spec := "tradeUses", unfollowed := true, recurses := true, plainKeys := false, apart := false, narrowed := true }
def TradeUsesUptoSaid : Prop := tradeUsesUptoRow.holds Tryz.pinned (OpenSpec.upto tradeUsesSpec)

/-- 'turnroundlaw08.TradeEmpty', WHERE WHAT IT READS IS OF BULK AT MOST 1048576: true; the input reads as it did. -/
def tradeEmptyUptoRow : OpenClaim := { program := "ytahmdjadnlpjoaagreat", sum := "f7e6a4e4d67d8cc95b15a04be3eed84b29d4f2b6f4417879215bcdeaf4e0ca79", func := "turnround/turnroundlaw08.TradeEmpty", spec := "tradeEmpty", unfollowed := true, recurses := true, plainKeys := false, apart := false, narrowed := true }
def TradeEmptyUptoSaid : Prop := tradeEmptyUptoRow.holds Tryz.pinned (OpenSpec.upto tradeEmptySpec)

/-- 'turnroundlaw08.TradeQueues', WHERE WHAT IT READS IS OF BULK AT MOST 1048576: true; the input reads as it did. -/
def tradeQueuesUptoRow : OpenClaim := { program := "ytahmdjadnlpjoaagreat", sum := "f7e6a4e4d67d8cc95b15a04be3eed84b29d4f2b6f4417879215bcdeaf4e0ca79", func := "turnround/turnroundlaw08.TradeQueues", spec := "tradeQueues", unfollowed := true, recurses := true, plainKeys := false, apart := false, narrowed := true }
def TradeQueuesUptoSaid : Prop := tradeQueuesUptoRow.holds Tryz.pinned (OpenSpec.upto tradeQueuesSpec)

/-- 'turnroundlaw08.TradeTimes', WHERE WHAT IT READS IS OF BULK AT MOST 1048576: true; the input reads as it did. -/
def tradeTimesUptoRow : OpenClaim := { program := "ytahmdjadnlpjoaagreat", sum := "f7e6a4e4d67d8cc95b15a04be3eed84b29d4f2b6f4417879215bcdeaf4e0ca79", func := "turnround/turnroundlaw08.TradeTimes", spec := "tradeTimes", unfollowed := true, recurses := true, plainKeys := false, apart := false, narrowed := true }
def TradeTimesUptoSaid : Prop := tradeTimesUptoRow.holds Tryz.pinned (OpenSpec.upto tradeTimesSpec)

/-- 'turnroundlaw08.TradeLeases', WHERE WHAT IT READS IS OF BULK AT MOST 1048576: true; the input reads as it did. -/
def tradeLeasesUptoRow : OpenClaim := { program := "ytahmdjadnlpjoaagreat", sum := "f7e6a4e4d67d8cc95b15a04be3eed84b29d4f2b6f4417879215bcdeaf4e0ca79", func := "turnround/turnroundlaw08.TradeLeases", spec := "tradeLeases", unfollowed := true, recurses := true, plainKeys := false, apart := false, narrowed := true }
def TradeLeasesUptoSaid : Prop := tradeLeasesUptoRow.holds Tryz.pinned (OpenSpec.upto tradeLeasesSpec)

/-- 'turnroundlaw08.TradeExchanges', WHERE WHAT IT READS IS OF BULK AT MOST 1048576: true; the input reads as it did. -/
def tradeExchangesUptoRow : OpenClaim := { program := "ytahmdjadnlpjoaagreat", sum := "f7e6a4e4d67d8cc95b15a04be3eed84b29d4f2b6f4417879215bcdeaf4e0ca79", func := "turnround/turnroundlaw08.TradeExchanges", spec := "tradeExchanges", unfollowed := true, recurses := true, plainKeys := false, apart := false, narrowed := true }
def TradeExchangesUptoSaid : Prop := tradeExchangesUptoRow.holds Tryz.pinned (OpenSpec.upto tradeExchangesSpec)

/-- 'turnroundlaw08.TradeRings', WHERE WHAT IT READS IS OF BULK AT MOST 1048576: true; the input reads as it did. -/
def tradeRingsUptoRow : OpenClaim := { program := "ytahmdjadnlpjoaagreat", sum := "f7e6a4e4d67d8cc95b15a04be3eed84b29d4f2b6f4417879215bcdeaf4e0ca79", func := "turnround/turnroundlaw08.TradeRings", spec := "tradeRings", unfollowed := true, recurses := true, plainKeys := false, apart := false, narrowed := true }
def TradeRingsUptoSaid : Prop := tradeRingsUptoRow.holds Tryz.pinned (OpenSpec.upto tradeRingsSpec)

/-- 'turnroundlaw08.TradeBounds', WHERE WHAT IT READS IS OF BULK AT MOST 1048576: true; the input reads as it did. -/
def tradeBoundsUptoRow : OpenClaim := { program := "ytahmdjadnlpjoaagreat", sum := "f7e6a4e4d67d8cc95b15a04be3eed84b29d4f2b6f4417879215bcdeaf4e0ca79", func := "turnround/turnroundlaw08.TradeBounds", spec := "tradeBounds", unfollowed := true, recurses := true, plainKeys := false, apart := false, narrowed := true }
def TradeBoundsUptoSaid : Prop := tradeBoundsUptoRow.holds Tryz.pinned (OpenSpec.upto tradeBoundsSpec)

/-- 'turnroundlaw08.TradeTotals', WHERE WHAT IT READS IS OF BULK AT MOST 1048576: true; the input reads as it did. -/
def tradeTotalsUptoRow : OpenClaim := { program := "ytahmdjadnlpjoaagreat", sum := "f7e6a4e4d67d8cc95b15a04be3eed84b29d4f2b6f4417879215bcdeaf4e0ca79", func := "turnround/turnroundlaw08.TradeTotals", spec := "tradeTotals", unfollowed := true, recurses := true, plainKeys := false, apart := false, narrowed := true }
def TradeTotalsUptoSaid : Prop := tradeTotalsUptoRow.holds Tryz.pinned (OpenSpec.upto tradeTotalsSpec)

/-- 'turnroundlaw08.TradeEvents', WHERE WHAT IT READS IS OF BULK AT MOST 1048576: true; the input reads as it did. -/
def tradeEventsUptoRow : OpenClaim := { program := "ytahmdjadnlpjoaagreat", sum := "f7e6a4e4d67d8cc95b15a04be3eed84b29d4f2b6f4417879215bcdeaf4e0ca79", func := "turnround/turnroundlaw08.TradeEvents", spec := "tradeEvents", unfollowed := true, recurses := true, plainKeys := false, apart := false, narrowed := true }
def TradeEventsUptoSaid : Prop := tradeEventsUptoRow.holds Tryz.pinned (OpenSpec.upto tradeEventsSpec)

end Rows
end Go.Proofs.YtahmdjadnlpjoaaGreat
