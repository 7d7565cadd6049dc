/-
  No cell of these rows narrows 'for every input' (looked for: loops, veiled, ifaces, maps, wideKeys, modest, calm, conditions, laid).
  DERIVED. THE GIVEN ROWS OF THIS SEAT. 11 by the template 'for every input the law returns true; each argument reads behind the call as it read before'; 0 by the template 'total and deterministic' (their statements: YtcfbdeghmckelaaGreatTotals.lean).
  GIVEN WITH THE SEED: the statements are not yours to turn. If you find one false, say at which input.
  Laid BY PROGRAM, IN A SANDBOX (cutbox-rows.mjs): the forced cells as the released guide's own fill.sh prints them over the translation 8443f166234e1b6e… (all of the seat's roots in one cut). By AI agents, Wed Nov 11 2026. No macro, syntax, notation, axiom, sorry.
-/
import Derived.Test.YtcfbdeghmckelaaGreatChecked
import GoSem.Claim
import GoSem.ClaimJoined
import GoSem.ClaimMapViews
import Derived.JoinedTies
import Derived.KernelRfl
namespace Go.Proofs.YtcfbdeghmckelaaGreat
/- THE CELL 'sum', in the pinned program and in every row, IS THE sha256 OF THE DUMP (.gsa) THAT YtcfbdeghmckelaaGreatProg.lean LOADS. Nothing in Lean hashes anything: it is a label: what it is worth is what the hold of that sum in a sandbox is worth. -/
noncomputable def Tryz.pinned : Pinned := { name := "ytcfbdeghmckelaagreat", sum := "8443f166234e1b6e39e9ea6fbdba5f13297f6f59f098c0e884d7e7e5dbf59db9", checked := Tryz.checked }
namespace Rows
def none {H : Type} : Left H := { results := [], args := [] }

/-- 'turnroundlaw03.CapacityLists': WHATEVER THE INPUT: true; the input reads as it did. -/
def capacityListsSpec : ChangeSpec := { name := "capacityLists", fn := fun _ => fun
  | [d1, d2, d3] => { results := [.lit (.bool true)], args := [d1, d2, d3] }
  | _ => none }
def capacityListsRow : OpenClaim := { program := "ytcfbdeghmckelaagreat", sum := "8443f166234e1b6e39e9ea6fbdba5f13297f6f59f098c0e884d7e7e5dbf59db9", func := "turnround/turnroundlaw03.CapacityLists", spec := "capacityLists", unfollowed := true, recurses := true, plainKeys := false, apart := false }
def CapacityListsSaid : Prop := capacityListsRow.holds Tryz.pinned (OpenSpec.ofChange capacityListsSpec)

/-- ITS FALSE NEIGHBOUR: 'it returns false'. Refute it at one input. -/
def capacityListsWrong : ChangeSpec := { name := "capacityLists", fn := fun _ => fun
  | [d1, d2, d3] => { results := [.lit (.bool false)], args := [d1, d2, d3] }
  | _ => none }
def CapacityListsWrongFalsely : Prop := capacityListsRow.holds Tryz.pinned (OpenSpec.ofChange capacityListsWrong)

/-- 'turnroundlaw03.CapacityCounts': WHATEVER THE INPUT: true; the input reads as it did. -/
def capacityCountsSpec : ChangeSpec := { name := "capacityCounts", fn := fun _ => fun
  | [d1, d2, d3] => { results := [.lit (.bool true)], args := [d1, d2, d3] }
  | _ => none }
def capacityCountsRow : OpenClaim := { program := "ytcfbdeghmckelaagreat", sum := "8443f166234e1b6e39e9ea6fbdba5f13297f6f59f098c0e884d7e7e5dbf59db9", func := "turnround/turnroundlaw03.CapacityCounts", spec := "capacityCounts", unfollowed := true, recurses := true, plainKeys := false, apart := false }
def CapacityCountsSaid : Prop := capacityCountsRow.holds Tryz.pinned (OpenSpec.ofChange capacityCountsSpec)

/-- ITS FALSE NEIGHBOUR: 'it returns false'. Refute it at one input. -/
def capacityCountsWrong : ChangeSpec := { name := "capacityCounts", fn := fun _ => fun
  | [d1, d2, d3] => { results := [.lit (.bool false)], args := [d1, d2, d3] }
  | _ => none }
def CapacityCountsWrongFalsely : Prop := capacityCountsRow.holds Tryz.pinned (OpenSpec.ofChange capacityCountsWrong)

/-- 'turnroundlaw03.CapacityRooms': WHATEVER THE INPUT: true; the input reads as it did. -/
def capacityRoomsSpec : ChangeSpec := { name := "capacityRooms", fn := fun _ => fun
  | [d1, d2, d3] => { results := [.lit (.bool true)], args := [d1, d2, d3] }
  | _ => none }
def capacityRoomsRow : OpenClaim := { program := "ytcfbdeghmckelaagreat", sum := "8443f166234e1b6e39e9ea6fbdba5f13297f6f59f098c0e884d7e7e5dbf59db9", func := "turnround/turnroundlaw03.CapacityRooms", spec := "capacityRooms", unfollowed := true, recurses := true, plainKeys := false, apart := false }
def CapacityRoomsSaid : Prop := capacityRoomsRow.holds Tryz.pinned (OpenSpec.ofChange capacityRoomsSpec)

/-- ITS FALSE NEIGHBOUR: 'it returns false'. Refute it at one input. -/
def capacityRoomsWrong : ChangeSpec := { name := "capacityRooms", fn := fun _ => fun
  | [d1, d2, d3] => { results := [.lit (.bool false)], args := [d1, d2, d3] }
  | _ => none }
def CapacityRoomsWrongFalsely : Prop := capacityRoomsRow.holds Tryz.pinned (OpenSpec.ofChange capacityRoomsWrong)

/-- 'turnroundlaw03.CapacityFrees': WHATEVER THE INPUT: true; the input reads as it did. -/
def capacityFreesSpec : ChangeSpec := { name := "capacityFrees", fn := fun _ => fun
  | [d1, d2, d3] => { results := [.lit (.bool true)], args := [d1, d2, d3] }
  | _ => none }
def capacityFreesRow : OpenClaim := { program := "ytcfbdeghmckelaagreat", sum := "8443f166234e1b6e39e9ea6fbdba5f13297f6f59f098c0e884d7e7e5dbf59db9", func := "turnround/turnroundlaw03.CapacityFrees", spec := "capacityFrees", unfollowed := true, recurses := true, plainKeys := false, apart := false }
def CapacityFreesSaid : Prop := capacityFreesRow.holds Tryz.pinned (OpenSpec.ofChange capacityFreesSpec)

/-- ITS FALSE NEIGHBOUR: 'it returns false'. Refute it at one input. -/
def capacityFreesWrong : ChangeSpec := { name := "capacityFrees", fn := fun _ => fun
  | [d1, d2, d3] => { results := [.lit (.bool false)], args := [d1, d2, d3] }
  | _ => none }
def CapacityFreesWrongFalsely : Prop := capacityFreesRow.holds Tryz.pinned (OpenSpec.ofChange capacityFreesWrong)

/-- 'turnroundlaw03.CapacityExcess': WHATEVER THE INPUT: true; the input reads as it did. -/
def capacityExcessSpec : ChangeSpec := { name := "capacityExcess", fn := fun _ => fun
  | [d1, d2] => { results := [.lit (.bool true)], args := [d1, d2] }
  | _ => none }
def capacityExcessRow : OpenClaim := { program := "ytcfbdeghmckelaagreat", sum := "8443f166234e1b6e39e9ea6fbdba5f13297f6f59f098c0e884d7e7e5dbf59db9", func := "turnround/turnroundlaw03.CapacityExcess", spec := "capacityExcess", unfollowed := true, recurses := true, plainKeys := false, apart := false }
def CapacityExcessSaid : Prop := capacityExcessRow.holds Tryz.pinned (OpenSpec.ofChange capacityExcessSpec)

/-- ITS FALSE NEIGHBOUR: 'it returns false'. Refute it at one input. -/
def capacityExcessWrong : ChangeSpec := { name := "capacityExcess", fn := fun _ => fun
  | [d1, d2] => { results := [.lit (.bool false)], args := [d1, d2] }
  | _ => none }
def CapacityExcessWrongFalsely : Prop := capacityExcessRow.holds Tryz.pinned (OpenSpec.ofChange capacityExcessWrong)

/-- 'turnroundlaw03.CapacityExact': WHATEVER THE INPUT: true; the input reads as it did. -/
def capacityExactSpec : ChangeSpec := { name := "capacityExact", fn := fun _ => fun
  | [d1, d2, d3] => { results := [.lit (.bool true)], args := [d1, d2, d3] }
  | _ => none }
def capacityExactRow : OpenClaim := { program := "ytcfbdeghmckelaagreat", sum := "8443f166234e1b6e39e9ea6fbdba5f13297f6f59f098c0e884d7e7e5dbf59db9", func := "turnround/turnroundlaw03.CapacityExact", spec := "capacityExact", unfollowed := true, recurses := true, plainKeys := false, apart := false }
def CapacityExactSaid : Prop := capacityExactRow.holds Tryz.pinned (OpenSpec.ofChange capacityExactSpec)

/-- ITS FALSE NEIGHBOUR: 'it returns false'. Refute it at one input. -/
def capacityExactWrong : ChangeSpec := { name := "capacityExact", fn := fun _ => fun
  | [d1, d2, d3] => { results := [.lit (.bool false)], args := [d1, d2, d3] }
  | _ => none }
def CapacityExactWrongFalsely : Prop := capacityExactRow.holds Tryz.pinned (OpenSpec.ofChange capacityExactWrong)

/-- 'turnroundlaw03.CapacityLater': WHATEVER THE INPUT: true; the input reads as it did. -/
def capacityLaterSpec : ChangeSpec := { name := "capacityLater", fn := fun _ => fun
  | [d1, d2, d3] => { results := [.lit (.bool true)], args := [d1, d2, d3] }
  | _ => none }
def capacityLaterRow : OpenClaim := { program := "ytcfbdeghmckelaagreat", sum := "8443f166234e1b6e39e9ea6fbdba5f13297f6f59f098c0e884d7e7e5dbf59db9", func := "turnround/turnroundlaw03.CapacityLater", spec := "capacityLater", unfollowed := true, recurses := true, plainKeys := false, apart := false }
def CapacityLaterSaid : Prop := capacityLaterRow.holds Tryz.pinned (OpenSpec.ofChange capacityLaterSpec)

/-- ITS FALSE NEIGHBOUR: 'it returns false'. Refute it at one input. -/
def capacityLaterWrong : ChangeSpec := { name := "capacityLater", fn := fun _ => fun
  | [d1, d2, d3] => { results := [.lit (.bool false)], args := [d1, d2, d3] }
  | _ => none }
def CapacityLaterWrongFalsely : Prop := capacityLaterRow.holds Tryz.pinned (OpenSpec.ofChange capacityLaterWrong)

/-- 'turnroundlaw03.CapacityMonotone': WHATEVER THE INPUT: true; the input reads as it did. -/
def capacityMonotoneSpec : ChangeSpec := { name := "capacityMonotone", fn := fun _ => fun
  | [d1, d2, d3] => { results := [.lit (.bool true)], args := [d1, d2, d3] }
  | _ => none }
def capacityMonotoneRow : OpenClaim := { program := "ytcfbdeghmckelaagreat", sum := "8443f166234e1b6e39e9ea6fbdba5f13297f6f59f098c0e884d7e7e5dbf59db9", func := "turnround/turnroundlaw03.CapacityMonotone", spec := "capacityMonotone", unfollowed := true, recurses := true, plainKeys := false, apart := false }
def CapacityMonotoneSaid : Prop := capacityMonotoneRow.holds Tryz.pinned (OpenSpec.ofChange capacityMonotoneSpec)

/-- ITS FALSE NEIGHBOUR: 'it returns false'. Refute it at one input. -/
def capacityMonotoneWrong : ChangeSpec := { name := "capacityMonotone", fn := fun _ => fun
  | [d1, d2, d3] => { results := [.lit (.bool false)], args := [d1, d2, d3] }
  | _ => none }
def CapacityMonotoneWrongFalsely : Prop := capacityMonotoneRow.holds Tryz.pinned (OpenSpec.ofChange capacityMonotoneWrong)

/-- 'turnroundlaw03.CapacitySlides': WHATEVER THE INPUT: true; the input reads as it did. -/
def capacitySlidesSpec : ChangeSpec := { name := "capacitySlides", fn := fun _ => fun
  | [d1, d2, d3] => { results := [.lit (.bool true)], args := [d1, d2, d3] }
  | _ => none }
def capacitySlidesRow : OpenClaim := { program := "ytcfbdeghmckelaagreat", sum := "8443f166234e1b6e39e9ea6fbdba5f13297f6f59f098c0e884d7e7e5dbf59db9", func := "turnround/turnroundlaw03.CapacitySlides", spec := "capacitySlides", unfollowed := true, recurses := true, plainKeys := false, apart := false }
def CapacitySlidesSaid : Prop := capacitySlidesRow.holds Tryz.pinned (OpenSpec.ofChange capacitySlidesSpec)

/-- ITS FALSE NEIGHBOUR: 'it returns false'. Refute it at one input. -/
def capacitySlidesWrong : ChangeSpec := { name := "capacitySlides", fn := fun _ => fun
  | [d1, d2, d3] => { results := [.lit (.bool false)], args := [d1, d2, d3] }
  | _ => none }
def CapacitySlidesWrongFalsely : Prop := capacitySlidesRow.holds Tryz.pinned (OpenSpec.ofChange capacitySlidesWrong)

/-- 'turnroundlaw03.CapacityServes': WHATEVER THE INPUT: true; the input reads as it did. -/
def capacityServesSpec : ChangeSpec := { name := "capacityServes", fn := fun _ => fun
  | [d1, d2, d3] => { results := [.lit (.bool true)], args := [d1, d2, d3] }
  | _ => none }
def capacityServesRow : OpenClaim := { program := "ytcfbdeghmckelaagreat", sum := "8443f166234e1b6e39e9ea6fbdba5f13297f6f59f098c0e884d7e7e5dbf59db9", func := "turnround/turnroundlaw03.CapacityServes", spec := "capacityServes", unfollowed := true, recurses := true, plainKeys := false, apart := false }
def CapacityServesSaid : Prop := capacityServesRow.holds Tryz.pinned (OpenSpec.ofChange capacityServesSpec)

/-- ITS FALSE NEIGHBOUR: 'it returns false'. Refute it at one input. -/
def capacityServesWrong : ChangeSpec := { name := "capacityServes", fn := fun _ => fun
  | [d1, d2, d3] => { results := [.lit (.bool false)], args := [d1, d2, d3] }
  | _ => none }
def CapacityServesWrongFalsely : Prop := capacityServesRow.holds Tryz.pinned (OpenSpec.ofChange capacityServesWrong)

/-- 'turnroundlaw03.CapacityChanges': WHATEVER THE INPUT: true; the input reads as it did. -/
def capacityChangesSpec : ChangeSpec := { name := "capacityChanges", fn := fun _ => fun
  | [d1, d2, d3] => { results := [.lit (.bool true)], args := [d1, d2, d3] }
  | _ => none }
def capacityChangesRow : OpenClaim := { program := "ytcfbdeghmckelaagreat", sum := "8443f166234e1b6e39e9ea6fbdba5f13297f6f59f098c0e884d7e7e5dbf59db9", func := "turnround/turnroundlaw03.CapacityChanges", spec := "capacityChanges", unfollowed := true, recurses := true, plainKeys := false, apart := false }
def CapacityChangesSaid : Prop := capacityChangesRow.holds Tryz.pinned (OpenSpec.ofChange capacityChangesSpec)

/-- ITS FALSE NEIGHBOUR: 'it returns false'. Refute it at one input. -/
def capacityChangesWrong : ChangeSpec := { name := "capacityChanges", fn := fun _ => fun
  | [d1, d2, d3] => { results := [.lit (.bool false)], args := [d1, d2, d3] }
  | _ => none }
def CapacityChangesWrongFalsely : Prop := capacityChangesRow.holds Tryz.pinned (OpenSpec.ofChange capacityChangesWrong)

/- THE SECOND FORM. 'bulk': how many values and letters a reading holds, each counted each time it is reached (what is shared counts as often as it is met; a slice's spare places count too). A statement '..UptoSaid' is the law's where the arguments, and the package variables that the reading takes, are together of bulk at most 1048576: NARROWER than '..Said'. Prove '..Said' where nothing that the law and all that it calls make is longer than what came in: it says more and counts as full. Else prove '..UptoSaid'. A law counts once. -/
mutual
def uptoBulk {H : Type} : DataW H → Nat
  | .lit (.string bytes) => bytes.length + 1
  | .lit _ => 1
  | .nil => 1
  | .ptr d => uptoBulk d + 1
  | .slice elems spare => uptoBulkAll elems + uptoBulkAll spare + 1
  | .agg parts => uptoBulkAll parts + 1
  | .iface _ d => uptoBulk d + 1
  | .map entries => uptoBulkEntries entries + 1
  | .held _ => 1
def uptoBulkAll {H : Type} : List (DataW H) → Nat
  | [] => 0
  | d :: r => uptoBulk d + uptoBulkAll r
def uptoBulkEntries {H : Type} : List (Lit × DataW H) → Nat
  | [] => 0
  | x :: r => uptoBulkEntry x + uptoBulkEntries r
def uptoBulkEntry {H : Type} : Lit × DataW H → Nat
  | (.string bytes, d) => bytes.length + uptoBulk d + 1
  | (_, d) => uptoBulk d + 1
 end
def uptoSmall : (H : Type) → List (DataW H) → Bool := fun _ ds => decide (uptoBulkAll ds ≤ 1048576)
def OpenSpec.upto (s : _root_.Go.ChangeSpec) : _root_.Go.OpenSpec := { _root_.Go.OpenSpec.ofChange s with cond := some uptoSmall }

/-- 'turnroundlaw03.CapacityLists', WHERE WHAT IT READS IS OF BULK AT MOST 1048576: true; the input reads as it did. -/
def capacityListsUptoRow : OpenClaim := { program := "ytcfbdeghmckelaagreat", sum := "8443f166234e1b6e39e9ea6fbdba5f13297f6f59f098c0e884d7e7e5dbf59db9", func := "turnround/turnroundlaw03.CapacityLists", spec := "capacityLists", unfollowed := true, recurses := true, plainKeys := false, apart := false, narrowed := true }
def CapacityListsUptoSaid : Prop := capacityListsUptoRow.holds Tryz.pinned (OpenSpec.upto capacityListsSpec)

/-- 'turnroundlaw03.CapacityCounts', WHERE WHAT IT READS IS OF BULK AT MOST 1048576: true; the input reads as it did. -/
def capacityCountsUptoRow : OpenClaim := { program := "ytcfbdeghmckelaagreat", sum := "8443f166234e1b6e39e9ea6fbdba5f13297f6f59f098c0e884d7e7e5dbf59db9", func := "turnround/turnroundlaw03.CapacityCounts", spec := "capacityCounts", unfollowed := true, recurses := true, plainKeys := false, apart := false, narrowed := true }
def CapacityCountsUptoSaid : Prop := capacityCountsUptoRow.holds Tryz.pinned (OpenSpec.upto capacityCountsSpec)

/-- 'turnroundlaw03.CapacityRooms', WHERE WHAT IT READS IS OF BULK AT MOST 1048576: true; the input reads as it did. -/
def capacityRoomsUptoRow : OpenClaim := { program := "ytcfbdeghmckelaagreat", sum := "8443f166234e1b6e39e9ea6fbdba5f13297f6f59f098c0e884d7e7e5dbf59db9", func := "turnround/turnroundlaw03.CapacityRooms", spec := "capacityRooms", unfollowed := true, recurses := true, plainKeys := false, apart := false, narrowed := true }
def CapacityRoomsUptoSaid : Prop := capacityRoomsUptoRow.holds Tryz.pinned (OpenSpec.upto capacityRoomsSpec)

/-- 'turnroundlaw03.CapacityFrees', WHERE WHAT IT READS IS OF BULK AT MOST 1048576: true; the input reads as it did. -/
def capacityFreesUptoRow : OpenClaim := { program := "ytcfbdeghmckelaagreat", sum := "8443f166234e1b6e39e9ea6fbdba5f13297f6f59f098c0e884d7e7e5dbf59db9", func := "turnround/turnroundlaw03.CapacityFrees", spec := "capacityFrees", unfollowed := true, recurses := true, plainKeys := false, apart := false, narrowed := true }
def CapacityFreesUptoSaid : Prop := capacityFreesUptoRow.holds Tryz.pinned (OpenSpec.upto capacityFreesSpec)

/-- 'turnroundlaw03.CapacityExcess', WHERE WHAT IT READS IS OF BULK AT MOST 1048576: true; the input reads as it did. -/
def capacityExcessUptoRow : OpenClaim := { program := "ytcfbdeghmckelaagreat", sum := "8443f166234e1b6e39e9ea6fbdba5f13297f6f59f098c0e884d7e7e5dbf59db9", func := "turnround/turnroundlaw03.CapacityExcess", spec := "capacityExcess", unfollowed := true, recurses := true, plainKeys := false, apart := false, narrowed := true }
def CapacityExcessUptoSaid : Prop := capacityExcessUptoRow.holds Tryz.pinned (OpenSpec.upto capacityExcessSpec)

/-- 'turnroundlaw03.CapacityExact', WHERE WHAT IT READS IS OF BULK AT MOST 1048576: true; the input reads as it did. -/
def capacityExactUptoRow : OpenClaim := { program := "ytcfbdeghmckelaagreat", sum := "8443f166234e1b6e39e9ea6fbdba5f13297f6f59f098c0e884d7e7e5dbf59db9", func := "turnround/turnroundlaw03.CapacityExact", spec := "capacityExact", unfollowed := true, recurses := true, plainKeys := false, apart := false, narrowed := true }
def CapacityExactUptoSaid : Prop := capacityExactUptoRow.holds Tryz.pinned (OpenSpec.upto capacityExactSpec)

/-- 'turnroundlaw03.CapacityLater', WHERE WHAT IT READS IS OF BULK AT MOST 1048576: true; the input reads as it did. -/
def capacityLaterUptoRow : OpenClaim := { program := "ytcfbdeghmckelaagreat", sum := "8443f166234e1b6e39e9ea6fbdba5f13297f6f59f098c0e884d7e7e5dbf59db9", func := "turnround/turnroundlaw03.CapacityLater", spec := "capacityLater", unfollowed := true, recurses := true, plainKeys := false, apart := false, narrowed := true }
def CapacityLaterUptoSaid : Prop := capacityLaterUptoRow.holds Tryz.pinned (OpenSpec.upto capacityLaterSpec)

/-- 'turnroundlaw03.CapacityMonotone', WHERE WHAT IT READS IS OF BULK AT MOST 1048576: true; the input reads as it did. -/
def capacityMonotoneUptoRow : OpenClaim := { program := "ytcfbdeghmckelaagreat", sum := "8443f166234e1b6e39e9ea6fbdba5f13297f6f59f098c0e884d7e7e5dbf59db9", func := "turnround/turnroundlaw03.CapacityMonotone", spec := "capacityMonotone", unfollowed := true, recurses := true, plainKeys := false, apart := false, narrowed := true }
def CapacityMonotoneUptoSaid : Prop := capacityMonotoneUptoRow.holds Tryz.pinned (OpenSpec.upto capacityMonotoneSpec)

/-- 'turnroundlaw03.CapacitySlides', WHERE WHAT IT READS IS OF BULK AT MOST 1048576: true; the input reads as it did. -/
def capacitySlidesUptoRow : OpenClaim := { program := "ytcfbdeghmckelaagreat", sum := "8443f166234e1b6e39e9ea6fbdba5f13297f6f59f098c0e884d7e7e5dbf59db9", func := "turnround/turnroundlaw03.CapacitySlides", spec := "capacitySlides", unfollowed := true, recurses := true, plainKeys := false, apart := false, narrowed := true }
def CapacitySlidesUptoSaid : Prop := capacitySlidesUptoRow.holds Tryz.pinned (OpenSpec.upto capacitySlidesSpec)

/-- 'turnroundlaw03.CapacityServes', WHERE WHAT IT READS IS OF BULK AT MOST 1048576: true; the input reads as it did. -/
def capacityServesUptoRow : OpenClaim := { program := "ytcfbdeghmckelaagreat", sum := "8443f166234e1b6e39e9ea6fbdba5f13297f6f59f098c0e884d7e7e5dbf59db9", func := "turnround/turnroundlaw03.CapacityServes", spec := "capacityServes", unfollowed := true, recurses := true, plainKeys := false, apart := false, narrowed := true }
def CapacityServesUptoSaid : Prop := capacityServesUptoRow.holds Tryz.pinned (OpenSpec.upto capacityServesSpec)

/-- 'turnroundlaw03.CapacityChanges', WHERE WHAT IT READS IS OF BULK AT MOST 1048576: true; the input reads as it did. -/
def capacityChangesUptoRow : OpenClaim := { program := "ytcfbdeghmckelaagreat", sum := "8443f166234e1b6e39e9ea6fbdba5f13297f6f59f098c0e884d7e7e5dbf59db9", func := "turnround/turnroundlaw03.CapacityChanges", spec := "capacityChanges", unfollowed := true, recurses := true, plainKeys := false, apart := false, narrowed := true }
def CapacityChangesUptoSaid : Prop := capacityChangesUptoRow.holds Tryz.pinned (OpenSpec.upto capacityChangesSpec)

end Rows
end Go.Proofs.YtcfbdeghmckelaaGreat
