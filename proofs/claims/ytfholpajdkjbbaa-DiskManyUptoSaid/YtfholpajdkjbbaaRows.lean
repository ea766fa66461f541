/-
  No cell of these rows narrows 'for every input' (looked for: loops, veiled, ifaces, maps, wideKeys, modest, calm, conditions, laid).
  DERIVED. THE GIVEN ROWS OF THIS SEAT. 12 by the template 'for every input the law returns true; each argument reads behind the call as it read before'; 0 by the template 'total and deterministic' (their statements: YtfholpajdkjbbaaTotals.lean).
  GIVEN WITH THE SEED: the statements are not yours to turn. If you find one false, say at which input.
  Laid BY PROGRAM, IN A SANDBOX (cutbox-rows.mjs): the forced cells as the released guide's own fill.sh prints them over the translation 5168c975cfd33722… (all of the seat's roots in one cut). By AI agents, Wed Nov 11 2026. No macro, syntax, notation, axiom, sorry.
-/
import Derived.Test.YtfholpajdkjbbaaChecked
import GoSem.Claim
import GoSem.ClaimJoined
import GoSem.ClaimMapViews
import Derived.JoinedTies
import Derived.KernelRfl
namespace Go.Proofs.Ytfholpajdkjbbaa
/- THE CELL 'sum', in the pinned program and in every row, IS THE sha256 OF THE DUMP (.gsa) THAT YtfholpajdkjbbaaProg.lean LOADS. Nothing in Lean hashes anything: it is a label: what it is worth is what the hold of that sum in a sandbox is worth. -/
noncomputable def Try.pinned : Pinned := { name := "ytfholpajdkjbbaa", sum := "5168c975cfd33722fba57e068541659170c2ff55f98883531f0fb47a7803f251", checked := Try.checked }
namespace Rows
def none {H : Type} : Left H := { results := [], args := [] }

/-- 'eddylaw10.DiskNews': WHATEVER THE INPUT: true; the input reads as it did. -/
def diskNewsSpec : ChangeSpec := { name := "diskNews", fn := fun _ => fun
  | [d] => { results := [.lit (.bool true)], args := [d] }
  | _ => none }
def diskNewsRow : OpenClaim := { program := "ytfholpajdkjbbaa", sum := "5168c975cfd33722fba57e068541659170c2ff55f98883531f0fb47a7803f251", func := "eddy/eddylaw10.DiskNews", spec := "diskNews", recurses := true, apart := false }
def DiskNewsSaid : Prop := diskNewsRow.holds Try.pinned (OpenSpec.ofChange diskNewsSpec)

/-- ITS FALSE NEIGHBOUR: 'it returns false'. Refute it at one input. -/
def diskNewsWrong : ChangeSpec := { name := "diskNews", fn := fun _ => fun
  | [d] => { results := [.lit (.bool false)], args := [d] }
  | _ => none }
def DiskNewsWrongFalsely : Prop := diskNewsRow.holds Try.pinned (OpenSpec.ofChange diskNewsWrong)

/-- 'eddylaw10.DiskSure': WHATEVER THE INPUT: true; the input reads as it did. -/
def diskSureSpec : ChangeSpec := { name := "diskSure", fn := fun _ => fun
  | [d] => { results := [.lit (.bool true)], args := [d] }
  | _ => none }
def diskSureRow : OpenClaim := { program := "ytfholpajdkjbbaa", sum := "5168c975cfd33722fba57e068541659170c2ff55f98883531f0fb47a7803f251", func := "eddy/eddylaw10.DiskSure", spec := "diskSure", unfollowed := true, recurses := true, apart := false }
def DiskSureSaid : Prop := diskSureRow.holds Try.pinned (OpenSpec.ofChange diskSureSpec)

/-- ITS FALSE NEIGHBOUR: 'it returns false'. Refute it at one input. -/
def diskSureWrong : ChangeSpec := { name := "diskSure", fn := fun _ => fun
  | [d] => { results := [.lit (.bool false)], args := [d] }
  | _ => none }
def DiskSureWrongFalsely : Prop := diskSureRow.holds Try.pinned (OpenSpec.ofChange diskSureWrong)

/-- 'eddylaw10.DiskChanges': WHATEVER THE INPUT: true; the input reads as it did. -/
def diskChangesSpec : ChangeSpec := { name := "diskChanges", fn := fun _ => fun
  | [d1, d2] => { results := [.lit (.bool true)], args := [d1, d2] }
  | _ => none }
def diskChangesRow : OpenClaim := { program := "ytfholpajdkjbbaa", sum := "5168c975cfd33722fba57e068541659170c2ff55f98883531f0fb47a7803f251", func := "eddy/eddylaw10.DiskChanges", spec := "diskChanges", unfollowed := true, recurses := true, apart := false }
def DiskChangesSaid : Prop := diskChangesRow.holds Try.pinned (OpenSpec.ofChange diskChangesSpec)

/-- ITS FALSE NEIGHBOUR: 'it returns false'. Refute it at one input. -/
def diskChangesWrong : ChangeSpec := { name := "diskChanges", fn := fun _ => fun
  | [d1, d2] => { results := [.lit (.bool false)], args := [d1, d2] }
  | _ => none }
def DiskChangesWrongFalsely : Prop := diskChangesRow.holds Try.pinned (OpenSpec.ofChange diskChangesWrong)

/-- 'eddylaw10.DiskReads': WHATEVER THE INPUT: true; the input reads as it did. -/
def diskReadsSpec : ChangeSpec := { name := "diskReads", fn := fun _ => fun
  | [d1, d2] => { results := [.lit (.bool true)], args := [d1, d2] }
  | _ => none }
def diskReadsRow : OpenClaim := { program := "ytfholpajdkjbbaa", sum := "5168c975cfd33722fba57e068541659170c2ff55f98883531f0fb47a7803f251", func := "eddy/eddylaw10.DiskReads", spec := "diskReads", unfollowed := true, recurses := true, apart := false }
def DiskReadsSaid : Prop := diskReadsRow.holds Try.pinned (OpenSpec.ofChange diskReadsSpec)

/-- ITS FALSE NEIGHBOUR: 'it returns false'. Refute it at one input. -/
def diskReadsWrong : ChangeSpec := { name := "diskReads", fn := fun _ => fun
  | [d1, d2] => { results := [.lit (.bool false)], args := [d1, d2] }
  | _ => none }
def DiskReadsWrongFalsely : Prop := diskReadsRow.holds Try.pinned (OpenSpec.ofChange diskReadsWrong)

/-- 'eddylaw10.DiskSpoils': WHATEVER THE INPUT: true; the input reads as it did. -/
def diskSpoilsSpec : ChangeSpec := { name := "diskSpoils", fn := fun _ => fun
  | [d1, d2] => { results := [.lit (.bool true)], args := [d1, d2] }
  | _ => none }
def diskSpoilsRow : OpenClaim := { program := "ytfholpajdkjbbaa", sum := "5168c975cfd33722fba57e068541659170c2ff55f98883531f0fb47a7803f251", func := "eddy/eddylaw10.DiskSpoils", spec := "diskSpoils", unfollowed := true, recurses := true, apart := false }
def DiskSpoilsSaid : Prop := diskSpoilsRow.holds Try.pinned (OpenSpec.ofChange diskSpoilsSpec)

/-- ITS FALSE NEIGHBOUR: 'it returns false'. Refute it at one input. -/
def diskSpoilsWrong : ChangeSpec := { name := "diskSpoils", fn := fun _ => fun
  | [d1, d2] => { results := [.lit (.bool false)], args := [d1, d2] }
  | _ => none }
def DiskSpoilsWrongFalsely : Prop := diskSpoilsRow.holds Try.pinned (OpenSpec.ofChange diskSpoilsWrong)

/-- 'eddylaw10.DiskLies': WHATEVER THE INPUT: true; the input reads as it did. -/
def diskLiesSpec : ChangeSpec := { name := "diskLies", fn := fun _ => fun
  | [d1, d2] => { results := [.lit (.bool true)], args := [d1, d2] }
  | _ => none }
def diskLiesRow : OpenClaim := { program := "ytfholpajdkjbbaa", sum := "5168c975cfd33722fba57e068541659170c2ff55f98883531f0fb47a7803f251", func := "eddy/eddylaw10.DiskLies", spec := "diskLies", unfollowed := true, recurses := true, apart := false }
def DiskLiesSaid : Prop := diskLiesRow.holds Try.pinned (OpenSpec.ofChange diskLiesSpec)

/-- ITS FALSE NEIGHBOUR: 'it returns false'. Refute it at one input. -/
def diskLiesWrong : ChangeSpec := { name := "diskLies", fn := fun _ => fun
  | [d1, d2] => { results := [.lit (.bool false)], args := [d1, d2] }
  | _ => none }
def DiskLiesWrongFalsely : Prop := diskLiesRow.holds Try.pinned (OpenSpec.ofChange diskLiesWrong)

/-- 'eddylaw10.DiskPlays': WHATEVER THE INPUT: true; the input reads as it did. -/
def diskPlaysSpec : ChangeSpec := { name := "diskPlays", fn := fun _ => fun
  | [d1, d2] => { results := [.lit (.bool true)], args := [d1, d2] }
  | _ => none }
def diskPlaysRow : OpenClaim := { program := "ytfholpajdkjbbaa", sum := "5168c975cfd33722fba57e068541659170c2ff55f98883531f0fb47a7803f251", func := "eddy/eddylaw10.DiskPlays", spec := "diskPlays", unfollowed := true, recurses := true, apart := false }
def DiskPlaysSaid : Prop := diskPlaysRow.holds Try.pinned (OpenSpec.ofChange diskPlaysSpec)

/-- ITS FALSE NEIGHBOUR: 'it returns false'. Refute it at one input. -/
def diskPlaysWrong : ChangeSpec := { name := "diskPlays", fn := fun _ => fun
  | [d1, d2] => { results := [.lit (.bool false)], args := [d1, d2] }
  | _ => none }
def DiskPlaysWrongFalsely : Prop := diskPlaysRow.holds Try.pinned (OpenSpec.ofChange diskPlaysWrong)

/-- 'eddylaw10.DiskTwo': WHATEVER THE INPUT: true; the input reads as it did. -/
def diskTwoSpec : ChangeSpec := { name := "diskTwo", fn := fun _ => fun
  | [d1, d2, d3] => { results := [.lit (.bool true)], args := [d1, d2, d3] }
  | _ => none }
def diskTwoRow : OpenClaim := { program := "ytfholpajdkjbbaa", sum := "5168c975cfd33722fba57e068541659170c2ff55f98883531f0fb47a7803f251", func := "eddy/eddylaw10.DiskTwo", spec := "diskTwo", unfollowed := true, recurses := true, apart := false }
def DiskTwoSaid : Prop := diskTwoRow.holds Try.pinned (OpenSpec.ofChange diskTwoSpec)

/-- ITS FALSE NEIGHBOUR: 'it returns false'. Refute it at one input. -/
def diskTwoWrong : ChangeSpec := { name := "diskTwo", fn := fun _ => fun
  | [d1, d2, d3] => { results := [.lit (.bool false)], args := [d1, d2, d3] }
  | _ => none }
def DiskTwoWrongFalsely : Prop := diskTwoRow.holds Try.pinned (OpenSpec.ofChange diskTwoWrong)

/-- 'eddylaw10.DiskPoints': WHATEVER THE INPUT: true; the input reads as it did. -/
def diskPointsSpec : ChangeSpec := { name := "diskPoints", fn := fun _ => fun
  | [d1, d2] => { results := [.lit (.bool true)], args := [d1, d2] }
  | _ => none }
def diskPointsRow : OpenClaim := { program := "ytfholpajdkjbbaa", sum := "5168c975cfd33722fba57e068541659170c2ff55f98883531f0fb47a7803f251", func := "eddy/eddylaw10.DiskPoints", spec := "diskPoints", unfollowed := true, recurses := true, apart := false }
def DiskPointsSaid : Prop := diskPointsRow.holds Try.pinned (OpenSpec.ofChange diskPointsSpec)

/-- ITS FALSE NEIGHBOUR: 'it returns false'. Refute it at one input. -/
def diskPointsWrong : ChangeSpec := { name := "diskPoints", fn := fun _ => fun
  | [d1, d2] => { results := [.lit (.bool false)], args := [d1, d2] }
  | _ => none }
def DiskPointsWrongFalsely : Prop := diskPointsRow.holds Try.pinned (OpenSpec.ofChange diskPointsWrong)

/-- 'eddylaw10.DiskFails': WHATEVER THE INPUT: true; the input reads as it did. -/
def diskFailsSpec : ChangeSpec := { name := "diskFails", fn := fun _ => fun
  | [d1, d2, d3, d4] => { results := [.lit (.bool true)], args := [d1, d2, d3, d4] }
  | _ => none }
def diskFailsRow : OpenClaim := { program := "ytfholpajdkjbbaa", sum := "5168c975cfd33722fba57e068541659170c2ff55f98883531f0fb47a7803f251", func := "eddy/eddylaw10.DiskFails", spec := "diskFails", unfollowed := true, recurses := true, apart := false }
def DiskFailsSaid : Prop := diskFailsRow.holds Try.pinned (OpenSpec.ofChange diskFailsSpec)

/-- ITS FALSE NEIGHBOUR: 'it returns false'. Refute it at one input. -/
def diskFailsWrong : ChangeSpec := { name := "diskFails", fn := fun _ => fun
  | [d1, d2, d3, d4] => { results := [.lit (.bool false)], args := [d1, d2, d3, d4] }
  | _ => none }
def DiskFailsWrongFalsely : Prop := diskFailsRow.holds Try.pinned (OpenSpec.ofChange diskFailsWrong)

/-- 'eddylaw10.DiskWhole': WHATEVER THE INPUT: true; the input reads as it did. -/
def diskWholeSpec : ChangeSpec := { name := "diskWhole", fn := fun _ => fun
  | [d1, d2, d3] => { results := [.lit (.bool true)], args := [d1, d2, d3] }
  | _ => none }
def diskWholeRow : OpenClaim := { program := "ytfholpajdkjbbaa", sum := "5168c975cfd33722fba57e068541659170c2ff55f98883531f0fb47a7803f251", func := "eddy/eddylaw10.DiskWhole", spec := "diskWhole", unfollowed := true, recurses := true, apart := false }
def DiskWholeSaid : Prop := diskWholeRow.holds Try.pinned (OpenSpec.ofChange diskWholeSpec)

/-- ITS FALSE NEIGHBOUR: 'it returns false'. Refute it at one input. -/
def diskWholeWrong : ChangeSpec := { name := "diskWhole", fn := fun _ => fun
  | [d1, d2, d3] => { results := [.lit (.bool false)], args := [d1, d2, d3] }
  | _ => none }
def DiskWholeWrongFalsely : Prop := diskWholeRow.holds Try.pinned (OpenSpec.ofChange diskWholeWrong)

/-- 'eddylaw10.DiskMany': WHATEVER THE INPUT: true; the input reads as it did. -/
def diskManySpec : ChangeSpec := { name := "diskMany", fn := fun _ => fun
  | [d1, d2] => { results := [.lit (.bool true)], args := [d1, d2] }
  | _ => none }
def diskManyRow : OpenClaim := { program := "ytfholpajdkjbbaa", sum := "5168c975cfd33722fba57e068541659170c2ff55f98883531f0fb47a7803f251", func := "eddy/eddylaw10.DiskMany", spec := "diskMany", unfollowed := true, recurses := true, apart := false }
def DiskManySaid : Prop := diskManyRow.holds Try.pinned (OpenSpec.ofChange diskManySpec)

/-- ITS FALSE NEIGHBOUR: 'it returns false'. Refute it at one input. -/
def diskManyWrong : ChangeSpec := { name := "diskMany", fn := fun _ => fun
  | [d1, d2] => { results := [.lit (.bool false)], args := [d1, d2] }
  | _ => none }
def DiskManyWrongFalsely : Prop := diskManyRow.holds Try.pinned (OpenSpec.ofChange diskManyWrong)

/- THE SECOND FORM. 'bulk': how many values and letters a reading holds, each counted each time it is reached (what is shared counts as often as it is met; a slice's spare places count too). A statement '..UptoSaid' is the law's where the arguments, and the package variables that the reading takes, are together of bulk at most 1048576: NARROWER than '..Said'. Prove '..Said' where nothing that the law and all that it calls make is longer than what came in: it says more and counts as full. Else prove '..UptoSaid'. A law counts once. -/
mutual
def uptoBulk {H : Type} : DataW H → Nat
  | .lit (.string bytes) => bytes.length + 1
  | .lit _ => 1
  | .nil => 1
  | .ptr d => uptoBulk d + 1
  | .slice elems spare => uptoBulkAll elems + uptoBulkAll spare + 1
  | .agg parts => uptoBulkAll parts + 1
  | .iface _ d => uptoBulk d + 1
  | .map entries => uptoBulkEntries entries + 1
  | .held _ => 1
def uptoBulkAll {H : Type} : List (DataW H) → Nat
  | [] => 0
  | d :: r => uptoBulk d + uptoBulkAll r
def uptoBulkEntries {H : Type} : List (Lit × DataW H) → Nat
  | [] => 0
  | x :: r => uptoBulkEntry x + uptoBulkEntries r
def uptoBulkEntry {H : Type} : Lit × DataW H → Nat
  | (.string bytes, d) => bytes.length + uptoBulk d + 1
  | (_, d) => uptoBulk d + 1
 end
def uptoSmall : (H : Type) → List (DataW H) → Bool := fun _ ds => decide (uptoBulkAll ds ≤ 1048576)
def OpenSpec.upto (s : _root_.Go.ChangeSpec) : _root_.Go.OpenSpec := { _root_.Go.OpenSpec.ofChange s with cond := some uptoSmall }

/-- 'eddylaw10.DiskNews', WHERE WHAT IT READS IS OF BULK AT MOST 1048576: true; the input reads as it did. -/
def diskNewsUptoRow : OpenClaim := { program := "ytfholpajdkjbbaa", sum := "5168c975cfd33722fba57e068541659170c2ff55f98883531f0fb47a7803f251", func := "eddy/eddylaw10.DiskNews", spec := "diskNews", recurses := true, apart := false, narrowed := true }
def DiskNewsUptoSaid : Prop := diskNewsUptoRow.holds Try.pinned (OpenSpec.upto diskNewsSpec)

/-- 'eddylaw10.DiskSure', WHERE WHAT IT READS IS OF BULK AT MOST 1048576: true; the input reads as it did. -/
def diskSureUptoRow : OpenClaim := { program := "ytfholpajdkjbbaa", sum := "5168c975cfd33722fba57e068541659170c2ff55f98883531f0fb47a7803f251", func := "eddy/eddylaw10.DiskSure", spec := "diskSure", unfollowed := true, recurses := true, apart := false, narrowed := true }
def DiskSureUptoSaid : Prop := diskSureUptoRow.holds Try.pinned (OpenSpec.upto diskSureSpec)

/-- 'eddylaw10.DiskChanges', WHERE WHAT IT READS IS OF BULK AT MOST 1048576: true; the input reads as it did. -/
def diskChangesUptoRow : OpenClaim := { program := "ytfholpajdkjbbaa", sum := "5168c975cfd33722fba57e068541659170c2ff55f98883531f0fb47a7803f251", func := "eddy/eddylaw10.DiskChanges", spec := "diskChanges", unfollowed := true, recurses := true, apart := false, narrowed := true }
def DiskChangesUptoSaid : Prop := diskChangesUptoRow.holds Try.pinned (OpenSpec.upto diskChangesSpec)

/-- 'eddylaw10.DiskReads', WHERE WHAT IT READS IS OF BULK AT MOST 1048576: true; the input reads as it did. -/
def diskReadsUptoRow : OpenClaim := { program := "ytfholpajdkjbbaa", sum := "5168c975cfd33722fba57e068541659170c2ff55f98883531f0fb47a7803f251", func := "eddy/eddylaw10.DiskReads", spec := "diskReads", unfollowed := true, recurses := true, apart := false, narrowed := true }
def DiskReadsUptoSaid : Prop := diskReadsUptoRow.holds Try.pinned (OpenSpec.upto diskReadsSpec)

/-- 'eddylaw10.DiskSpoils', WHERE WHAT IT READS IS OF BULK AT MOST 1048576: true; the input reads as it did. -/
def diskSpoilsUptoRow : OpenClaim := { program := "ytfholpajdkjbbaa", sum := "5168c975cfd33722fba57e068541659170c2ff55f98883531f0fb47a7803f251", func := "eddy/eddylaw10.DiskSpoils", spec := "diskSpoils", unfollowed := true, recurses := true, apart := false, narrowed := true }
def DiskSpoilsUptoSaid : Prop := diskSpoilsUptoRow.holds Try.pinned (OpenSpec.upto diskSpoilsSpec)

/-- 'eddylaw10.DiskLies', WHERE WHAT IT READS IS OF BULK AT MOST 1048576: true; the input reads as it did. -/
def diskLiesUptoRow : OpenClaim := { program := "ytfholpajdkjbbaa", sum := "5168c975cfd33722fba57e068541659170c2ff55f98883531f0fb47a7803f251", func := "eddy/eddylaw10.DiskLies", spec := "diskLies", unfollowed := true, recurses := true, apart := false, narrowed := true }
def DiskLiesUptoSaid : Prop := diskLiesUptoRow.holds Try.pinned (OpenSpec.upto diskLiesSpec)

/-- 'eddylaw10.DiskPlays', WHERE WHAT IT READS IS OF BULK AT MOST 1048576: true; the input reads as it did. -/
def diskPlaysUptoRow : OpenClaim := { program := "ytfholpajdkjbbaa", sum := "5168c975cfd33722fba57e068541659170c2ff55f98883531f0fb47a7803f251", func := "eddy/eddylaw10.DiskPlays", spec := "diskPlays", unfollowed := true, recurses := true, apart := false, narrowed := true }
def DiskPlaysUptoSaid : Prop := diskPlaysUptoRow.holds Try.pinned (OpenSpec.upto diskPlaysSpec)

/-- 'eddylaw10.DiskTwo', WHERE WHAT IT READS IS OF BULK AT MOST 1048576: true; the input reads as it did. -/
def diskTwoUptoRow : OpenClaim := { program := "ytfholpajdkjbbaa", sum := "5168c975cfd33722fba57e068541659170c2ff55f98883531f0fb47a7803f251", func := "eddy/eddylaw10.DiskTwo", spec := "diskTwo", unfollowed := true, recurses := true, apart := false, narrowed := true }
def DiskTwoUptoSaid : Prop := diskTwoUptoRow.holds Try.pinned (OpenSpec.upto diskTwoSpec)

/-- 'eddylaw10.DiskPoints', WHERE WHAT IT READS IS OF BULK AT MOST 1048576: true; the input reads as it did. -/
def diskPointsUptoRow : OpenClaim := { program := "ytfholpajdkjbbaa", sum := "5168c975cfd33722fba57e068541659170c2ff55f98883531f0fb47a7803f251", func := "eddy/eddylaw10.DiskPoints", spec := "diskPoints", unfollowed := true, recurses := true, apart := false, narrowed := true }
def DiskPointsUptoSaid : Prop := diskPointsUptoRow.holds Try.pinned (OpenSpec.upto diskPointsSpec)

/-- 'eddylaw10.DiskFails', WHERE WHAT IT READS IS OF BULK AT MOST 1048576: true; the input reads as it did. -/
def diskFailsUptoRow : OpenClaim := { program := "ytfholpajdkjbbaa", sum := "5168c975cfd33722fba57e068541659170c2ff55f98883531f0fb47a7803f251", func := "eddy/eddylaw10.DiskFails", spec := "diskFails", unfollowed := true, recurses := true, apart := false, narrowed := true }
def DiskFailsUptoSaid : Prop := diskFailsUptoRow.holds Try.pinned (OpenSpec.upto diskFailsSpec)

/-- 'eddylaw10.DiskWhole', WHERE WHAT IT READS IS OF BULK AT MOST 1048576: true; the input reads as it did. -/
def diskWholeUptoRow : OpenClaim := { program := "ytfholpajdkjbbaa", sum := "5168c975cfd33722fba57e068541659170c2ff55f98883531f0fb47a7803f251", func := "eddy/eddylaw10.DiskWhole", spec := "diskWhole", unfollowed := true, recurses := true, apart := false, narrowed := true }
def DiskWholeUptoSaid : Prop := diskWholeUptoRow.holds Try.pinned (OpenSpec.upto diskWholeSpec)

/-- 'eddylaw10.DiskMany', WHERE WHAT IT READS IS OF BULK AT MOST 1048576: true; the input reads as it did. -/
def diskManyUptoRow : OpenClaim := { program := "ytfholpajdkjbbaa", sum := "5168c975cfd33722fba57e068541659170c2ff55f98883531f0fb47a7803f251", func := "eddy/eddylaw10.DiskMany", spec := "diskMany", unfollowed := true, recurses := true, apart := false, narrowed := true }
def DiskManyUptoSaid : Prop := diskManyUptoRow.holds Try.pinned (OpenSpec.upto diskManySpec)

end Rows
end Go.Proofs.Ytfholpajdkjbbaa
