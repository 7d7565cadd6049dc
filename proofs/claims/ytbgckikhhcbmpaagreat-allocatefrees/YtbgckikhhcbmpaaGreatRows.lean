/-
  No cell of these rows narrows 'for every input' (looked for: loops, veiled, ifaces, maps, wideKeys, modest, calm, conditions, laid).
  DERIVED. THE GIVEN ROWS OF THIS SEAT. 10 by the template 'for every input the law returns true; each argument reads behind the call as it read before'; 0 by the template 'total and deterministic' (their statements: YtbgckikhhcbmpaaGreatTotals.lean).
  GIVEN WITH THE SEED: the statements are not yours to turn. If you find one false, say at which input.
  Laid BY PROGRAM, IN A SANDBOX (cutbox-rows.mjs): the forced cells as the released guide's own fill.sh prints them over the translation 4b4d07dec017f5f2… (all of the seat's roots in one cut). By AI agents, Wed Nov 11 2026. No macro, syntax, notation, axiom, sorry.
-/
import Derived.Test.YtbgckikhhcbmpaaGreatChecked
import GoSem.Claim
import GoSem.ClaimJoined
import GoSem.ClaimMapViews
import Derived.JoinedTies
import Derived.KernelRfl
namespace Go.Proofs.YtbgckikhhcbmpaaGreat
/- THE CELL 'sum', in the pinned program and in every row, IS THE sha256 OF THE DUMP (.gsa) THAT YtbgckikhhcbmpaaGreatProg.lean LOADS. Nothing in Lean hashes anything: it is a label: what it is worth is what the hold of that sum in a sandbox is worth. -/
noncomputable def Tryz.pinned : Pinned := { name := "ytbgckikhhcbmpaagreat", sum := "4b4d07dec017f5f2f1c7bd7733834275047229546a58a8a83376ea7655a1544b", checked := Tryz.checked }
namespace Rows
def none {H : Type} : Left H := { results := [], args := [] }

/-- 'turnroundlaw06.AllocateServes': WHATEVER THE INPUT: true; the input reads as it did. -/
def allocateServesSpec : ChangeSpec := { name := "allocateServes", fn := fun _ => fun
  | [d1, d2] => { results := [.lit (.bool true)], args := [d1, d2] }
  | _ => none }
def allocateServesRow : OpenClaim := { program := "ytbgckikhhcbmpaagreat", sum := "4b4d07dec017f5f2f1c7bd7733834275047229546a58a8a83376ea7655a1544b", func := "turnround/turnroundlaw06.AllocateServes", spec := "allocateServes", unfollowed := true, recurses := true, plainKeys := false, apart := false }
def AllocateServesSaid : Prop := allocateServesRow.holds Tryz.pinned (OpenSpec.ofChange allocateServesSpec)

/-- ITS FALSE NEIGHBOUR: 'it returns false'. Refute it at one input. -/
def allocateServesWrong : ChangeSpec := { name := "allocateServes", fn := fun _ => fun
  | [d1, d2] => { results := [.lit (.bool false)], args := [d1, d2] }
  | _ => none }
def AllocateServesWrongFalsely : Prop := allocateServesRow.holds Tryz.pinned (OpenSpec.ofChange allocateServesWrong)

/-- 'turnroundlaw06.AllocateComplains': WHATEVER THE INPUT: true; the input reads as it did. -/
def allocateComplainsSpec : ChangeSpec := { name := "allocateComplains", fn := fun _ => fun
  | [d1, d2, d3] => { results := [.lit (.bool true)], args := [d1, d2, d3] }
  | _ => none }
def allocateComplainsRow : OpenClaim := { program := "ytbgckikhhcbmpaagreat", sum := "4b4d07dec017f5f2f1c7bd7733834275047229546a58a8a83376ea7655a1544b", func := "turnround/turnroundlaw06.AllocateComplains", spec := "allocateComplains", unfollowed := true, recurses := true, plainKeys := false, apart := false }
def AllocateComplainsSaid : Prop := allocateComplainsRow.holds Tryz.pinned (OpenSpec.ofChange allocateComplainsSpec)

/-- ITS FALSE NEIGHBOUR: 'it returns false'. Refute it at one input. -/
def allocateComplainsWrong : ChangeSpec := { name := "allocateComplains", fn := fun _ => fun
  | [d1, d2, d3] => { results := [.lit (.bool false)], args := [d1, d2, d3] }
  | _ => none }
def AllocateComplainsWrongFalsely : Prop := allocateComplainsRow.holds Tryz.pinned (OpenSpec.ofChange allocateComplainsWrong)

/-- 'turnroundlaw06.AllocateChanges': WHATEVER THE INPUT: true; the input reads as it did. -/
def allocateChangesSpec : ChangeSpec := { name := "allocateChanges", fn := fun _ => fun
  | [d1, d2, d3] => { results := [.lit (.bool true)], args := [d1, d2, d3] }
  | _ => none }
def allocateChangesRow : OpenClaim := { program := "ytbgckikhhcbmpaagreat", sum := "4b4d07dec017f5f2f1c7bd7733834275047229546a58a8a83376ea7655a1544b", func := "turnround/turnroundlaw06.AllocateChanges", spec := "allocateChanges", unfollowed := true, recurses := true, plainKeys := false, apart := false }
def AllocateChangesSaid : Prop := allocateChangesRow.holds Tryz.pinned (OpenSpec.ofChange allocateChangesSpec)

/-- ITS FALSE NEIGHBOUR: 'it returns false'. Refute it at one input. -/
def allocateChangesWrong : ChangeSpec := { name := "allocateChanges", fn := fun _ => fun
  | [d1, d2, d3] => { results := [.lit (.bool false)], args := [d1, d2, d3] }
  | _ => none }
def AllocateChangesWrongFalsely : Prop := allocateChangesRow.holds Tryz.pinned (OpenSpec.ofChange allocateChangesWrong)

/-- 'turnroundlaw06.AllocateGrows': WHATEVER THE INPUT: true; the input reads as it did. -/
def allocateGrowsSpec : ChangeSpec := { name := "allocateGrows", fn := fun _ => fun
  | [d1, d2, d3] => { results := [.lit (.bool true)], args := [d1, d2, d3] }
  | _ => none }
def allocateGrowsRow : OpenClaim := { program := "ytbgckikhhcbmpaagreat", sum := "4b4d07dec017f5f2f1c7bd7733834275047229546a58a8a83376ea7655a1544b", func := "turnround/turnroundlaw06.AllocateGrows", spec := "allocateGrows", unfollowed := true, recurses := true, plainKeys := false, apart := false }
def AllocateGrowsSaid : Prop := allocateGrowsRow.holds Tryz.pinned (OpenSpec.ofChange allocateGrowsSpec)

/-- ITS FALSE NEIGHBOUR: 'it returns false'. Refute it at one input. -/
def allocateGrowsWrong : ChangeSpec := { name := "allocateGrows", fn := fun _ => fun
  | [d1, d2, d3] => { results := [.lit (.bool false)], args := [d1, d2, d3] }
  | _ => none }
def AllocateGrowsWrongFalsely : Prop := allocateGrowsRow.holds Tryz.pinned (OpenSpec.ofChange allocateGrowsWrong)

/-- 'turnroundlaw06.AllocateFrees': WHATEVER THE INPUT: true; the input reads as it did. -/
def allocateFreesSpec : ChangeSpec := { name := "allocateFrees", fn := fun _ => fun
  | [d1, d2, d3] => { results := [.lit (.bool true)], args := [d1, d2, d3] }
  | _ => none }
def allocateFreesRow : OpenClaim := { program := "ytbgckikhhcbmpaagreat", sum := "4b4d07dec017f5f2f1c7bd7733834275047229546a58a8a83376ea7655a1544b", func := "turnround/turnroundlaw06.AllocateFrees", spec := "allocateFrees", unfollowed := true, recurses := true, plainKeys := false, apart := false }
def AllocateFreesSaid : Prop := allocateFreesRow.holds Tryz.pinned (OpenSpec.ofChange allocateFreesSpec)

/-- ITS FALSE NEIGHBOUR: 'it returns false'. Refute it at one input. -/
def allocateFreesWrong : ChangeSpec := { name := "allocateFrees", fn := fun _ => fun
  | [d1, d2, d3] => { results := [.lit (.bool false)], args := [d1, d2, d3] }
  | _ => none }
def AllocateFreesWrongFalsely : Prop := allocateFreesRow.holds Tryz.pinned (OpenSpec.ofChange allocateFreesWrong)

/-- 'turnroundlaw06.AllocateChecks': WHATEVER THE INPUT: true; the input reads as it did. -/
def allocateChecksSpec : ChangeSpec := { name := "allocateChecks", fn := fun _ => fun
  | [d1, d2, d3] => { results := [.lit (.bool true)], args := [d1, d2, d3] }
  | _ => none }
def allocateChecksRow : OpenClaim := { program := "ytbgckikhhcbmpaagreat", sum := "4b4d07dec017f5f2f1c7bd7733834275047229546a58a8a83376ea7655a1544b", func := "turnround/turnroundlaw06.AllocateChecks", spec := "allocateChecks", unfollowed := true, recurses := true, plainKeys := false, apart := false }
def AllocateChecksSaid : Prop := allocateChecksRow.holds Tryz.pinned (OpenSpec.ofChange allocateChecksSpec)

/-- ITS FALSE NEIGHBOUR: 'it returns false'. Refute it at one input. -/
def allocateChecksWrong : ChangeSpec := { name := "allocateChecks", fn := fun _ => fun
  | [d1, d2, d3] => { results := [.lit (.bool false)], args := [d1, d2, d3] }
  | _ => none }
def AllocateChecksWrongFalsely : Prop := allocateChecksRow.holds Tryz.pinned (OpenSpec.ofChange allocateChecksWrong)

/-- 'turnroundlaw06.AllocateWishes': WHATEVER THE INPUT: true; the input reads as it did. -/
def allocateWishesSpec : ChangeSpec := { name := "allocateWishes", fn := fun _ => fun
  | [d1, d2] => { results := [.lit (.bool true)], args := [d1, d2] }
  | _ => none }
def allocateWishesRow : OpenClaim := { program := "ytbgckikhhcbmpaagreat", sum := "4b4d07dec017f5f2f1c7bd7733834275047229546a58a8a83376ea7655a1544b", func := "turnround/turnroundlaw06.AllocateWishes", spec := "allocateWishes", unfollowed := true, recurses := true, plainKeys := false, apart := false }
def AllocateWishesSaid : Prop := allocateWishesRow.holds Tryz.pinned (OpenSpec.ofChange allocateWishesSpec)

/-- ITS FALSE NEIGHBOUR: 'it returns false'. Refute it at one input. -/
def allocateWishesWrong : ChangeSpec := { name := "allocateWishes", fn := fun _ => fun
  | [d1, d2] => { results := [.lit (.bool false)], args := [d1, d2] }
  | _ => none }
def AllocateWishesWrongFalsely : Prop := allocateWishesRow.holds Tryz.pinned (OpenSpec.ofChange allocateWishesWrong)

/-- 'turnroundlaw06.AllocateReasons': WHATEVER THE INPUT: true; the input reads as it did. -/
def allocateReasonsSpec : ChangeSpec := { name := "allocateReasons", fn := fun _ => fun
  | [d1, d2, d3] => { results := [.lit (.bool true)], args := [d1, d2, d3] }
  | _ => none }
def allocateReasonsRow : OpenClaim := { program := "ytbgckikhhcbmpaagreat", sum := "4b4d07dec017f5f2f1c7bd7733834275047229546a58a8a83376ea7655a1544b", func := "turnround/turnroundlaw06.AllocateReasons", spec := "allocateReasons", unfollowed := true, recurses := true, plainKeys := false, apart := false }
def AllocateReasonsSaid : Prop := allocateReasonsRow.holds Tryz.pinned (OpenSpec.ofChange allocateReasonsSpec)

/-- ITS FALSE NEIGHBOUR: 'it returns false'. Refute it at one input. -/
def allocateReasonsWrong : ChangeSpec := { name := "allocateReasons", fn := fun _ => fun
  | [d1, d2, d3] => { results := [.lit (.bool false)], args := [d1, d2, d3] }
  | _ => none }
def AllocateReasonsWrongFalsely : Prop := allocateReasonsRow.holds Tryz.pinned (OpenSpec.ofChange allocateReasonsWrong)

/-- 'turnroundlaw06.AllocateProved': WHATEVER THE INPUT: true; the input reads as it did. -/
def allocateProvedSpec : ChangeSpec := { name := "allocateProved", fn := fun _ => fun
  | [d1, d2] => { results := [.lit (.bool true)], args := [d1, d2] }
  | _ => none }
def allocateProvedRow : OpenClaim := { program := "ytbgckikhhcbmpaagreat", sum := "4b4d07dec017f5f2f1c7bd7733834275047229546a58a8a83376ea7655a1544b", func := "turnround/turnroundlaw06.AllocateProved", spec := "allocateProved", unfollowed := true, recurses := true, plainKeys := false, apart := false }
def AllocateProvedSaid : Prop := allocateProvedRow.holds Tryz.pinned (OpenSpec.ofChange allocateProvedSpec)

/-- ITS FALSE NEIGHBOUR: 'it returns false'. Refute it at one input. -/
def allocateProvedWrong : ChangeSpec := { name := "allocateProved", fn := fun _ => fun
  | [d1, d2] => { results := [.lit (.bool false)], args := [d1, d2] }
  | _ => none }
def AllocateProvedWrongFalsely : Prop := allocateProvedRow.holds Tryz.pinned (OpenSpec.ofChange allocateProvedWrong)

/-- 'turnroundlaw06.AllocateKeeps': WHATEVER THE INPUT: true; the input reads as it did. -/
def allocateKeepsSpec : ChangeSpec := { name := "allocateKeeps", fn := fun _ => fun
  | [d1, d2, d3] => { results := [.lit (.bool true)], args := [d1, d2, d3] }
  | _ => none }
def allocateKeepsRow : OpenClaim := { program := "ytbgckikhhcbmpaagreat", sum := "4b4d07dec017f5f2f1c7bd7733834275047229546a58a8a83376ea7655a1544b", func := "turnround/turnroundlaw06.AllocateKeeps", spec := "allocateKeeps", unfollowed := true, recurses := true, plainKeys := false, apart := false }
def AllocateKeepsSaid : Prop := allocateKeepsRow.holds Tryz.pinned (OpenSpec.ofChange allocateKeepsSpec)

/-- ITS FALSE NEIGHBOUR: 'it returns false'. Refute it at one input. -/
def allocateKeepsWrong : ChangeSpec := { name := "allocateKeeps", fn := fun _ => fun
  | [d1, d2, d3] => { results := [.lit (.bool false)], args := [d1, d2, d3] }
  | _ => none }
def AllocateKeepsWrongFalsely : Prop := allocateKeepsRow.holds Tryz.pinned (OpenSpec.ofChange allocateKeepsWrong)

/- THE SECOND FORM. 'bulk': how many values and letters a reading holds, each counted each time it is reached (what is shared counts as often as it is met; a slice's spare places count too). A statement '..UptoSaid' is the law's where the arguments, and the package variables that the reading takes, are together of bulk at most 1048576: NARROWER than '..Said'. Prove '..Said' where nothing that the law and all that it calls make is longer than what came in: it says more and counts as full. Else prove '..UptoSaid'. A law counts once. -/
mutual
def uptoBulk {H : Type} : DataW H → Nat
  | .lit (.string bytes) => bytes.length + 1
  | .lit _ => 1
  | .nil => 1
  | .ptr d => uptoBulk d + 1
  | .slice elems spare => uptoBulkAll elems + uptoBulkAll spare + 1
  | .agg parts => uptoBulkAll parts + 1
  | .iface _ d => uptoBulk d + 1
  | .map entries => uptoBulkEntries entries + 1
  | .held _ => 1
def uptoBulkAll {H : Type} : List (DataW H) → Nat
  | [] => 0
  | d :: r => uptoBulk d + uptoBulkAll r
def uptoBulkEntries {H : Type} : List (Lit × DataW H) → Nat
  | [] => 0
  | x :: r => uptoBulkEntry x + uptoBulkEntries r
def uptoBulkEntry {H : Type} : Lit × DataW H → Nat
  | (.string bytes, d) => bytes.length + uptoBulk d + 1
  | (_, d) => uptoBulk d + 1
 end
def uptoSmall : (H : Type) → List (DataW H) → Bool := fun _ ds => decide (uptoBulkAll ds ≤ 1048576)
def OpenSpec.upto (s : _root_.Go.ChangeSpec) : _root_.Go.OpenSpec := { _root_.Go.OpenSpec.ofChange s with cond := some uptoSmall }

/-- 'turnroundlaw06.AllocateServes', WHERE WHAT IT READS IS OF BULK AT MOST 1048576: true; the input reads as it did. -/
def allocateServesUptoRow : OpenClaim := { program := "ytbgckikhhcbmpaagreat", sum := "4b4d07dec017f5f2f1c7bd7733834275047229546a58a8a83376ea7655a1544b", func := "turnround/turnroundlaw06.AllocateServes", spec := "allocateServes", unfollowed := true, recurses := true, plainKeys := false, apart := false, narrowed := true }
def AllocateServesUptoSaid : Prop := allocateServesUptoRow.holds Tryz.pinned (OpenSpec.upto allocateServesSpec)

/-- 'turnroundlaw06.AllocateComplains', WHERE WHAT IT READS IS OF BULK AT MOST 1048576: true; the input reads as it did. -/
def allocateComplainsUptoRow : OpenClaim := { program := "ytbgckikhhcbmpaagreat", sum := "4b4d07dec017f5f2f1c7bd7733834275047229546a58a8a83376ea7655a1544b", func := "turnround/turnroundlaw06.AllocateComplains", spec := "allocateComplains", unfollowed := true, recurses := true, plainKeys := false, apart := false, narrowed := true }
def AllocateComplainsUptoSaid : Prop := allocateComplainsUptoRow.holds Tryz.pinned (OpenSpec.upto allocateComplainsSpec)

/-- 'turnroundlaw06.AllocateChanges', WHERE WHAT IT READS IS OF BULK AT MOST 1048576: true; the input reads as it did. -/
def allocateChangesUptoRow : OpenClaim := { program := "ytbgckikhhcbmpaagreat", sum := "4b4d07dec017f5f2f1c7bd7733834275047229546a58a8a83376ea7655a1544b", func := "turnround/turnroundlaw06.AllocateChanges", spec := "allocateChanges", unfollowed := true, recurses := true, plainKeys := false, apart := false, narrowed := true }
def AllocateChangesUptoSaid : Prop := allocateChangesUptoRow.holds Tryz.pinned (OpenSpec.upto allocateChangesSpec)

/-- 'turnroundlaw06.AllocateGrows', WHERE WHAT IT READS IS OF BULK AT MOST 1048576: true; the input reads as it did. -/
def allocateGrowsUptoRow : OpenClaim := { program := "ytbgckikhhcbmpaagreat", sum := "4b4d07dec017f5f2f1c7bd7733834275047229546a58a8a83376ea7655a1544b", func := "turnround/turnroundlaw06.AllocateGrows", spec := "allocateGrows", unfollowed := true, recurses := true, plainKeys := false, apart := false, narrowed := true }
def AllocateGrowsUptoSaid : Prop := allocateGrowsUptoRow.holds Tryz.pinned (OpenSpec.upto allocateGrowsSpec)

/-- 'turnroundlaw06.AllocateFrees', WHERE WHAT IT READS IS OF BULK AT MOST 1048576: true; the input reads as it did. -/
def allocateFreesUptoRow : OpenClaim := { program := "ytbgckikhhcbmpaagreat", sum := "4b4d07dec017f5f2f1c7bd7733834275047229546a58a8a83376ea7655a1544b", func := "turnround/turnroundlaw06.AllocateFrees", spec := "allocateFrees", unfollowed := true, recurses := true, plainKeys := false, apart := false, narrowed := true }
def AllocateFreesUptoSaid : Prop := allocateFreesUptoRow.holds Tryz.pinned (OpenSpec.upto allocateFreesSpec)

/-- 'turnroundlaw06.AllocateChecks', WHERE WHAT IT READS IS OF BULK AT MOST 1048576: true; the input reads as it did. -/
def allocateChecksUptoRow : OpenClaim := { program := "ytbgckikhhcbmpaagreat", sum := "4b4d07dec017f5f2f1c7bd7733834275047229546a58a8a83376ea7655a1544b", func := "turnround/turnroundlaw06.AllocateChecks", spec := "allocateChecks", unfollowed := true, recurses := true, plainKeys := false, apart := false, narrowed := true }
def AllocateChecksUptoSaid : Prop := allocateChecksUptoRow.holds Tryz.pinned (OpenSpec.upto allocateChecksSpec)

/-- 'turnroundlaw06.AllocateWishes', WHERE WHAT IT READS IS OF BULK AT MOST 1048576: true; the input reads as it did. -/
def allocateWishesUptoRow : OpenClaim := { program := "ytbgckikhhcbmpaagreat", sum := "4b4d07dec017f5f2f1c7bd7733834275047229546a58a8a83376ea7655a1544b", func := "turnround/turnroundlaw06.AllocateWishes", spec := "allocateWishes", unfollowed := true, recurses := true, plainKeys := false, apart := false, narrowed := true }
def AllocateWishesUptoSaid : Prop := allocateWishesUptoRow.holds Tryz.pinned (OpenSpec.upto allocateWishesSpec)

/-- 'turnroundlaw06.AllocateReasons', WHERE WHAT IT READS IS OF BULK AT MOST 1048576: true; the input reads as it did. -/
def allocateReasonsUptoRow : OpenClaim := { program := "ytbgckikhhcbmpaagreat", sum := "4b4d07dec017f5f2f1c7bd7733834275047229546a58a8a83376ea7655a1544b", func := "turnround/turnroundlaw06.AllocateReasons", spec := "allocateReasons", unfollowed := true, recurses := true, plainKeys := false, apart := false, narrowed := true }
def AllocateReasonsUptoSaid : Prop := allocateReasonsUptoRow.holds Tryz.pinned (OpenSpec.upto allocateReasonsSpec)

/-- 'turnroundlaw06.AllocateProved', WHERE WHAT IT READS IS OF BULK AT MOST 1048576: true; the input reads as it did. -/
def allocateProvedUptoRow : OpenClaim := { program := "ytbgckikhhcbmpaagreat", sum := "4b4d07dec017f5f2f1c7bd7733834275047229546a58a8a83376ea7655a1544b", func := "turnround/turnroundlaw06.AllocateProved", spec := "allocateProved", unfollowed := true, recurses := true, plainKeys := false, apart := false, narrowed := true }
def AllocateProvedUptoSaid : Prop := allocateProvedUptoRow.holds Tryz.pinned (OpenSpec.upto allocateProvedSpec)

/-- 'turnroundlaw06.AllocateKeeps', WHERE WHAT IT READS IS OF BULK AT MOST 1048576: true; the input reads as it did. -/
def allocateKeepsUptoRow : OpenClaim := { program := "ytbgckikhhcbmpaagreat", sum := "4b4d07dec017f5f2f1c7bd7733834275047229546a58a8a83376ea7655a1544b", func := "turnround/turnroundlaw06.AllocateKeeps", spec := "allocateKeeps", unfollowed := true, recurses := true, plainKeys := false, apart := false, narrowed := true }
def AllocateKeepsUptoSaid : Prop := allocateKeepsUptoRow.holds Tryz.pinned (OpenSpec.upto allocateKeepsSpec)

end Rows
end Go.Proofs.YtbgckikhhcbmpaaGreat
