/-
  No cell of these rows narrows 'for every input' (looked for: loops, veiled, ifaces, maps, wideKeys, modest, calm, conditions, laid).
  DERIVED. THE GIVEN ROWS OF THIS SEAT. 3 by the template 'for every input the law returns true; each argument reads behind the call as it read before'; 0 by the template 'total and deterministic' (their statements: YtijgimeokgbifaaGreatTotals.lean).
  GIVEN WITH THE SEED: the statements are not yours to turn. If you find one false, say at which input.
  Laid BY PROGRAM, IN A SANDBOX (cutbox-rows.mjs): the forced cells as the released guide's own fill.sh prints them over the translation d4e7b3db10342049… (all of the seat's roots in one cut). By AI agents, Wed Nov 11 2026. No macro, syntax, notation, axiom, sorry.
-/
import Derived.Test.YtijgimeokgbifaaGreatChecked
import GoSem.Claim
import GoSem.ClaimJoined
import GoSem.ClaimMapViews
import Derived.JoinedTies
import Derived.KernelRfl
namespace Go.Proofs.YtijgimeokgbifaaGreat
/- THE CELL 'sum', in the pinned program and in every row, IS THE sha256 OF THE DUMP (.gsa) THAT YtijgimeokgbifaaGreatProg.lean LOADS. Nothing in Lean hashes anything: it is a label: what it is worth is what the hold of that sum in a sandbox is worth. -/
noncomputable def Tryz.pinned : Pinned := { name := "ytijgimeokgbifaagreat", sum := "d4e7b3db10342049eb473218ae4c71979f9790a96fcaafd89c4446b40d6a474d", checked := Tryz.checked }
namespace Rows
def none {H : Type} : Left H := { results := [], args := [] }

/-- 'turnroundlaw08.TradeEvents': WHATEVER THE INPUT: true; the input reads as it did. -/
def tradeEventsSpec : ChangeSpec := { name := "tradeEvents", fn := fun _ => fun
  | [d1, d2, d3] => { results := [.lit (.bool true)], args := [d1, d2, d3] }
  | _ => none }
def tradeEventsRow : OpenClaim := { program := "ytijgimeokgbifaagreat", sum := "d4e7b3db10342049eb473218ae4c71979f9790a96fcaafd89c4446b40d6a474d", func := "turnround/turnroundlaw08.TradeEvents", spec := "tradeEvents", unfollowed := true, recurses := true, plainKeys := false, apart := false }
def TradeEventsSaid : Prop := tradeEventsRow.holds Tryz.pinned (OpenSpec.ofChange tradeEventsSpec)

/-- ITS FALSE NEIGHBOUR: 'it returns false'. Refute it at one input. -/
def tradeEventsWrong : ChangeSpec := { name := "tradeEvents", fn := fun _ => fun
  | [d1, d2, d3] => { results := [.lit (.bool false)], args := [d1, d2, d3] }
  | _ => none }
def TradeEventsWrongFalsely : Prop := tradeEventsRow.holds Tryz.pinned (OpenSpec.ofChange tradeEventsWrong)

/-- 'turnroundlaw08.TradeReplays': WHATEVER THE INPUT: true; the input reads as it did. -/
def tradeReplaysSpec : ChangeSpec := { name := "tradeReplays", fn := fun _ => fun
  | [d1, d2] => { results := [.lit (.bool true)], args := [d1, d2] }
  | _ => none }
def tradeReplaysRow : OpenClaim := { program := "ytijgimeokgbifaagreat", sum := "d4e7b3db10342049eb473218ae4c71979f9790a96fcaafd89c4446b40d6a474d", func := "turnround/turnroundlaw08.TradeReplays", spec := "tradeReplays", unfollowed := true, recurses := true, plainKeys := false, apart := false }
def TradeReplaysSaid : Prop := tradeReplaysRow.holds Tryz.pinned (OpenSpec.ofChange tradeReplaysSpec)

/-- ITS FALSE NEIGHBOUR: 'it returns false'. Refute it at one input. -/
def tradeReplaysWrong : ChangeSpec := { name := "tradeReplays", fn := fun _ => fun
  | [d1, d2] => { results := [.lit (.bool false)], args := [d1, d2] }
  | _ => none }
def TradeReplaysWrongFalsely : Prop := tradeReplaysRow.holds Tryz.pinned (OpenSpec.ofChange tradeReplaysWrong)

/-- 'turnroundlaw08.TradeLines': WHATEVER THE INPUT: true; the input reads as it did. -/
def tradeLinesSpec : ChangeSpec := { name := "tradeLines", fn := fun _ => fun
  | [d1, d2, d3] => { results := [.lit (.bool true)], args := [d1, d2, d3] }
  | _ => none }
def tradeLinesRow : OpenClaim := { program := "ytijgimeokgbifaagreat", sum := "d4e7b3db10342049eb473218ae4c71979f9790a96fcaafd89c4446b40d6a474d", func := "turnround/turnroundlaw08.TradeLines", spec := "tradeLines", unfollowed := true, recurses := true, plainKeys := false, apart := false }
def TradeLinesSaid : Prop := tradeLinesRow.holds Tryz.pinned (OpenSpec.ofChange tradeLinesSpec)

/-- ITS FALSE NEIGHBOUR: 'it returns false'. Refute it at one input. -/
def tradeLinesWrong : ChangeSpec := { name := "tradeLines", fn := fun _ => fun
  | [d1, d2, d3] => { results := [.lit (.bool false)], args := [d1, d2, d3] }
  | _ => none }
def TradeLinesWrongFalsely : Prop := tradeLinesRow.holds Tryz.pinned (OpenSpec.ofChange tradeLinesWrong)

/- THE SECOND FORM. 'bulk': how many values and letters a reading holds, each counted each time it is reached (what is shared counts as often as it is met; a slice's spare places count too). A statement '..UptoSaid' is the law's where the arguments, and the package variables that the reading takes, are together of bulk at most 1048576: NARROWER than '..Said'. Prove '..Said' where nothing that the law and all that it calls make is longer than what came in: it says more and counts as full. Else prove '..UptoSaid'. A law counts once. -/
mutual
def uptoBulk {H : Type} : DataW H → Nat
  | .lit (.string bytes) => bytes.length + 1
  | .lit _ => 1
  | .nil => 1
  | .ptr d => uptoBulk d + 1
  | .slice elems spare => uptoBulkAll elems + uptoBulkAll spare + 1
  | .agg parts => uptoBulkAll parts + 1
  | .iface _ d => uptoBulk d + 1
  | .map entries => uptoBulkEntries entries + 1
  | .held _ => 1
def uptoBulkAll {H : Type} : List (DataW H) → Nat
  | [] => 0
  | d :: r => uptoBulk d + uptoBulkAll r
def uptoBulkEntries {H : Type} : List (Lit × DataW H) → Nat
  | [] => 0
  | x :: r => uptoBulkEntry x + uptoBulkEntries r
def uptoBulkEntry {H : Type} : Lit × DataW H → Nat
  | (.string bytes, d) => bytes.length + uptoBulk d + 1
  | (_, d) => uptoBulk d + 1
 end
def uptoSmall : (H : Type) → List (DataW H) → Bool := fun _ ds => decide (uptoBulkAll ds ≤ 1048576)
def OpenSpec.upto (s : _root_.Go.ChangeSpec) : _root_.Go.OpenSpec := { _root_.Go.OpenSpec.ofChange s with cond := some uptoSmall }

/-- 'turnroundlaw08.TradeEvents', WHERE WHAT IT READS IS OF BULK AT MOST 1048576: true; the input reads as it did. -/
def tradeEventsUptoRow : OpenClaim := { program := "ytijgimeokgbifaagreat", sum := "d4e7b3db10342049eb473218ae4c71979f9790a96fcaafd89c4446b40d6a474d", func := "turnround/turnroundlaw08.TradeEvents", spec := "tradeEvents", unfollowed := true, recurses := true, plainKeys := false, apart := false, narrowed := true }
def TradeEventsUptoSaid : Prop := tradeEventsUptoRow.holds Tryz.pinned (OpenSpec.upto tradeEventsSpec)

/-- 'turnroundlaw08.TradeReplays', WHERE WHAT IT READS IS OF BULK AT MOST 1048576: true; the input reads as it did. -/
def tradeReplaysUptoRow : OpenClaim := { program := "ytijgimeokgbifaagreat", sum := "d4e7b3db10342049eb473218ae4c71979f9790a96fcaafd89c4446b40d6a474d", func := "turnround/turnroundlaw08.TradeReplays", spec := "tradeReplays", unfollowed := true, recurses := true, plainKeys := false, apart := false, narrowed := true }
def TradeReplaysUptoSaid : Prop := tradeReplaysUptoRow.holds Tryz.pinned (OpenSpec.upto tradeReplaysSpec)

/-- 'turnroundlaw08.TradeLines', WHERE WHAT IT READS IS OF BULK AT MOST 1048576: true; the input reads as it did. -/
def tradeLinesUptoRow : OpenClaim := { program := "ytijgimeokgbifaagreat", sum := "d4e7b3db10342049eb473218ae4c71979f9790a96fcaafd89c4446b40d6a474d", func := "turnround/turnroundlaw08.TradeLines", spec := "tradeLines", unfollowed := true, recurses := true, plainKeys := false, apart := false, narrowed := true }
def TradeLinesUptoSaid : Prop := tradeLinesUptoRow.holds Tryz.pinned (OpenSpec.upto tradeLinesSpec)

end Rows
end Go.Proofs.YtijgimeokgbifaaGreat
