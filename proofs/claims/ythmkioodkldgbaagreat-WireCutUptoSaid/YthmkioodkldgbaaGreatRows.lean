/-
  NARROWER THAN 'FOR EVERY INPUT', by the rows' own cells (each row's printed sentence says how): WireRound: loops · WirePlays: loops · WireCut: loops · WireUnlike: loops.
  DERIVED. THE GIVEN ROWS OF THIS SEAT. 4 by the template 'for every input the law returns true; each argument reads behind the call as it read before'; 0 by the template 'total and deterministic' (their statements: YthmkioodkldgbaaGreatTotals.lean).
  GIVEN WITH THE SEED: the statements are not yours to turn. If you find one false, say at which input.
  Laid BY PROGRAM, IN A SANDBOX (cutbox-rows.mjs): the forced cells as the released guide's own fill.sh prints them over the translation 03828b80b2896a35… (all of the seat's roots in one cut). By AI agents, Wed Nov 11 2026. No macro, syntax, notation, axiom, sorry.
-/
import Derived.Test.YthmkioodkldgbaaGreatChecked
import GoSem.Claim
import GoSem.ClaimJoined
import GoSem.ClaimMapViews
import Derived.JoinedTies
import Derived.KernelRfl
namespace Go.Proofs.YthmkioodkldgbaaGreat
/- THE CELL 'sum', in the pinned program and in every row, IS THE sha256 OF THE DUMP (.gsa) THAT YthmkioodkldgbaaGreatProg.lean LOADS. Nothing in Lean hashes anything: it is a label: what it is worth is what the hold of that sum in a sandbox is worth. -/
noncomputable def Tryz.pinned : Pinned := { name := "ythmkioodkldgbaagreat", sum := "03828b80b2896a35097e7d225d24529b4a1457fa671e0d6d71f632d2c5acaa15", checked := Tryz.checked }
namespace Rows
def none {H : Type} : Left H := { results := [], args := [] }

/-- 'eddylaw4.WireRound': WHATEVER THE INPUT: true; the input reads as it did. -/
def wireRoundSpec : ChangeSpec := { name := "wireRound", fn := fun _ => fun
  | [d] => { results := [.lit (.bool true)], args := [d] }
  | _ => none }
def wireRoundRow : OpenClaim := { program := "ythmkioodkldgbaagreat", sum := "03828b80b2896a35097e7d225d24529b4a1457fa671e0d6d71f632d2c5acaa15", func := "eddy/eddylaw4.WireRound", spec := "wireRound", unfollowed := true, recurses := true, loops := true, apart := false }
def WireRoundSaid : Prop := wireRoundRow.holds Tryz.pinned (OpenSpec.ofChange wireRoundSpec)

/-- ITS FALSE NEIGHBOUR: 'it returns false'. Refute it at one input. -/
def wireRoundWrong : ChangeSpec := { name := "wireRound", fn := fun _ => fun
  | [d] => { results := [.lit (.bool false)], args := [d] }
  | _ => none }
def WireRoundWrongFalsely : Prop := wireRoundRow.holds Tryz.pinned (OpenSpec.ofChange wireRoundWrong)

/-- 'eddylaw4.WirePlays': WHATEVER THE INPUT: true; the input reads as it did. -/
def wirePlaysSpec : ChangeSpec := { name := "wirePlays", fn := fun _ => fun
  | [d] => { results := [.lit (.bool true)], args := [d] }
  | _ => none }
def wirePlaysRow : OpenClaim := { program := "ythmkioodkldgbaagreat", sum := "03828b80b2896a35097e7d225d24529b4a1457fa671e0d6d71f632d2c5acaa15", func := "eddy/eddylaw4.WirePlays", spec := "wirePlays", unfollowed := true, recurses := true, loops := true, apart := false }
def WirePlaysSaid : Prop := wirePlaysRow.holds Tryz.pinned (OpenSpec.ofChange wirePlaysSpec)

/-- ITS FALSE NEIGHBOUR: 'it returns false'. Refute it at one input. -/
def wirePlaysWrong : ChangeSpec := { name := "wirePlays", fn := fun _ => fun
  | [d] => { results := [.lit (.bool false)], args := [d] }
  | _ => none }
def WirePlaysWrongFalsely : Prop := wirePlaysRow.holds Tryz.pinned (OpenSpec.ofChange wirePlaysWrong)

/-- 'eddylaw4.WireCut': WHATEVER THE INPUT: true; the input reads as it did. -/
def wireCutSpec : ChangeSpec := { name := "wireCut", fn := fun _ => fun
  | [d1, d2, d3] => { results := [.lit (.bool true)], args := [d1, d2, d3] }
  | _ => none }
def wireCutRow : OpenClaim := { program := "ythmkioodkldgbaagreat", sum := "03828b80b2896a35097e7d225d24529b4a1457fa671e0d6d71f632d2c5acaa15", func := "eddy/eddylaw4.WireCut", spec := "wireCut", unfollowed := true, recurses := true, loops := true, apart := false }
def WireCutSaid : Prop := wireCutRow.holds Tryz.pinned (OpenSpec.ofChange wireCutSpec)

/-- ITS FALSE NEIGHBOUR: 'it returns false'. Refute it at one input. -/
def wireCutWrong : ChangeSpec := { name := "wireCut", fn := fun _ => fun
  | [d1, d2, d3] => { results := [.lit (.bool false)], args := [d1, d2, d3] }
  | _ => none }
def WireCutWrongFalsely : Prop := wireCutRow.holds Tryz.pinned (OpenSpec.ofChange wireCutWrong)

/-- 'eddylaw4.WireUnlike': WHATEVER THE INPUT: true; the input reads as it did. -/
def wireUnlikeSpec : ChangeSpec := { name := "wireUnlike", fn := fun _ => fun
  | [d1, d2] => { results := [.lit (.bool true)], args := [d1, d2] }
  | _ => none }
def wireUnlikeRow : OpenClaim := { program := "ythmkioodkldgbaagreat", sum := "03828b80b2896a35097e7d225d24529b4a1457fa671e0d6d71f632d2c5acaa15", func := "eddy/eddylaw4.WireUnlike", spec := "wireUnlike", unfollowed := true, recurses := true, loops := true, apart := false }
def WireUnlikeSaid : Prop := wireUnlikeRow.holds Tryz.pinned (OpenSpec.ofChange wireUnlikeSpec)

/-- ITS FALSE NEIGHBOUR: 'it returns false'. Refute it at one input. -/
def wireUnlikeWrong : ChangeSpec := { name := "wireUnlike", fn := fun _ => fun
  | [d1, d2] => { results := [.lit (.bool false)], args := [d1, d2] }
  | _ => none }
def WireUnlikeWrongFalsely : Prop := wireUnlikeRow.holds Tryz.pinned (OpenSpec.ofChange wireUnlikeWrong)

/- THE SECOND FORM. 'bulk': how many values and letters a reading holds, each counted each time it is reached (what is shared counts as often as it is met; a slice's spare places count too). A statement '..UptoSaid' is the law's where the arguments, and the package variables that the reading takes, are together of bulk at most 1048576: NARROWER than '..Said'. Prove '..Said' where nothing that the law and all that it calls make is longer than what came in: it says more and counts as full. Else prove '..UptoSaid'. A law counts once. -/
mutual
def uptoBulk {H : Type} : DataW H → Nat
  | .lit (.string bytes) => bytes.length + 1
  | .lit _ => 1
  | .nil => 1
  | .ptr d => uptoBulk d + 1
  | .slice elems spare => uptoBulkAll elems + uptoBulkAll spare + 1
  | .agg parts => uptoBulkAll parts + 1
  | .iface _ d => uptoBulk d + 1
  | .map entries => uptoBulkEntries entries + 1
  | .held _ => 1
def uptoBulkAll {H : Type} : List (DataW H) → Nat
  | [] => 0
  | d :: r => uptoBulk d + uptoBulkAll r
def uptoBulkEntries {H : Type} : List (Lit × DataW H) → Nat
  | [] => 0
  | x :: r => uptoBulkEntry x + uptoBulkEntries r
def uptoBulkEntry {H : Type} : Lit × DataW H → Nat
  | (.string bytes, d) => bytes.length + uptoBulk d + 1
  | (_, d) => uptoBulk d + 1
 end
def uptoSmall : (H : Type) → List (DataW H) → Bool := fun _ ds => decide (uptoBulkAll ds ≤ 1048576)
def OpenSpec.upto (s : _root_.Go.ChangeSpec) : _root_.Go.OpenSpec := { _root_.Go.OpenSpec.ofChange s with cond := some uptoSmall }

/-- 'eddylaw4.WireRound', WHERE WHAT IT READS IS OF BULK AT MOST 1048576: true; the input reads as it did. -/
def wireRoundUptoRow : OpenClaim := { program := "ythmkioodkldgbaagreat", sum := "03828b80b2896a35097e7d225d24529b4a1457fa671e0d6d71f632d2c5acaa15", func := "eddy/eddylaw4.WireRound", spec := "wireRound", unfollowed := true, recurses := true, loops := true, apart := false, narrowed := true }
def WireRoundUptoSaid : Prop := wireRoundUptoRow.holds Tryz.pinned (OpenSpec.upto wireRoundSpec)

/-- 'eddylaw4.WirePlays', WHERE WHAT IT READS IS OF BULK AT MOST 1048576: true; the input reads as it did. -/
def wirePlaysUptoRow : OpenClaim := { program := "ythmkioodkldgbaagreat", sum := "03828b80b2896a35097e7d225d24529b4a1457fa671e0d6d71f632d2c5acaa15", func := "eddy/eddylaw4.WirePlays", spec := "wirePlays", unfollowed := true, recurses := true, loops := true, apart := false, narrowed := true }
def WirePlaysUptoSaid : Prop := wirePlaysUptoRow.holds Tryz.pinned (OpenSpec.upto wirePlaysSpec)

/-- 'eddylaw4.WireCut', WHERE WHAT IT READS IS OF BULK AT MOST 1048576: true; the input reads as it did. -/
def wireCutUptoRow : OpenClaim := { program := "ythmkioodkldgbaagreat", sum := "03828b80b2896a35097e7d225d24529b4a1457fa671e0d6d71f632d2c5acaa15", func := "eddy/eddylaw4.WireCut", spec := "wireCut", unfollowed := true, recurses := true, loops := true, apart := false, narrowed := true }
def WireCutUptoSaid : Prop := wireCutUptoRow.holds Tryz.pinned (OpenSpec.upto wireCutSpec)

/-- 'eddylaw4.WireUnlike', WHERE WHAT IT READS IS OF BULK AT MOST 1048576: true; the input reads as it did. -/
def wireUnlikeUptoRow : OpenClaim := { program := "ythmkioodkldgbaagreat", sum := "03828b80b2896a35097e7d225d24529b4a1457fa671e0d6d71f632d2c5acaa15", func := "eddy/eddylaw4.WireUnlike", spec := "wireUnlike", unfollowed := true, recurses := true, loops := true, apart := false, narrowed := true }
def WireUnlikeUptoSaid : Prop := wireUnlikeUptoRow.holds Tryz.pinned (OpenSpec.upto wireUnlikeSpec)

end Rows
end Go.Proofs.YthmkioodkldgbaaGreat
