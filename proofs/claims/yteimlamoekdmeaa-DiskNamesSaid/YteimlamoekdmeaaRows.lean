/-
  No cell of these rows narrows 'for every input' (looked for: loops, veiled, ifaces, maps, wideKeys, modest, calm, conditions, laid).
  DERIVED. THE GIVEN ROWS OF THIS SEAT. 6 by the template 'for every input the law returns true; each argument reads behind the call as it read before'; 0 by the template 'total and deterministic' (their statements: YteimlamoekdmeaaTotals.lean).
  GIVEN WITH THE SEED: the statements are not yours to turn. If you find one false, say at which input.
  Laid BY PROGRAM, IN A SANDBOX (cutbox-rows.mjs): the forced cells as the released guide's own fill.sh prints them over the translation 9fcc26590da0519f… (all of the seat's roots in one cut). By AI agents, Wed Nov 11 2026. No macro, syntax, notation, axiom, sorry.
-/
import Derived.Test.YteimlamoekdmeaaChecked
import GoSem.Claim
import GoSem.ClaimJoined
import GoSem.ClaimMapViews
import Derived.JoinedTies
import Derived.KernelRfl
namespace Go.Proofs.Yteimlamoekdmeaa
/- THE CELL 'sum', in the pinned program and in every row, IS THE sha256 OF THE DUMP (.gsa) THAT YteimlamoekdmeaaProg.lean LOADS. Nothing in Lean hashes anything: it is a label: what it is worth is what the hold of that sum in a sandbox is worth. -/
noncomputable def Try.pinned : Pinned := { name := "yteimlamoekdmeaa", sum := "9fcc26590da0519f73a6ca2ec885650c0c59343129ec8ba96807094027f5add5", checked := Try.checked }
namespace Rows
def none {H : Type} : Left H := { results := [], args := [] }

/-- 'eddylaw1.FrameNames': WHATEVER THE INPUT: true; the input reads as it did. -/
def frameNamesSpec : ChangeSpec := { name := "frameNames", fn := fun _ => fun
  | [] => { results := [.lit (.bool true)], args := [] }
  | _ => none }
def frameNamesRow : OpenClaim := { program := "yteimlamoekdmeaa", sum := "9fcc26590da0519f73a6ca2ec885650c0c59343129ec8ba96807094027f5add5", func := "eddy/eddylaw1.FrameNames", spec := "frameNames", apart := false }
def FrameNamesSaid : Prop := frameNamesRow.holds Try.pinned (OpenSpec.ofChange frameNamesSpec)

/-- ITS FALSE NEIGHBOUR: 'it returns false'. Refute it at one input. -/
def frameNamesWrong : ChangeSpec := { name := "frameNames", fn := fun _ => fun
  | [] => { results := [.lit (.bool false)], args := [] }
  | _ => none }
def FrameNamesWrongFalsely : Prop := frameNamesRow.holds Try.pinned (OpenSpec.ofChange frameNamesWrong)

/-- 'eddylaw21.LinkNames': WHATEVER THE INPUT: true; the input reads as it did. -/
def linkNamesSpec : ChangeSpec := { name := "linkNames", fn := fun _ => fun
  | [] => { results := [.lit (.bool true)], args := [] }
  | _ => none }
def linkNamesRow : OpenClaim := { program := "yteimlamoekdmeaa", sum := "9fcc26590da0519f73a6ca2ec885650c0c59343129ec8ba96807094027f5add5", func := "eddy/eddylaw21.LinkNames", spec := "linkNames", apart := false }
def LinkNamesSaid : Prop := linkNamesRow.holds Try.pinned (OpenSpec.ofChange linkNamesSpec)

/-- ITS FALSE NEIGHBOUR: 'it returns false'. Refute it at one input. -/
def linkNamesWrong : ChangeSpec := { name := "linkNames", fn := fun _ => fun
  | [] => { results := [.lit (.bool false)], args := [] }
  | _ => none }
def LinkNamesWrongFalsely : Prop := linkNamesRow.holds Try.pinned (OpenSpec.ofChange linkNamesWrong)

/-- 'eddylaw4.WireNames': WHATEVER THE INPUT: true; the input reads as it did. -/
def wireNamesSpec : ChangeSpec := { name := "wireNames", fn := fun _ => fun
  | [] => { results := [.lit (.bool true)], args := [] }
  | _ => none }
def wireNamesRow : OpenClaim := { program := "yteimlamoekdmeaa", sum := "9fcc26590da0519f73a6ca2ec885650c0c59343129ec8ba96807094027f5add5", func := "eddy/eddylaw4.WireNames", spec := "wireNames", apart := false }
def WireNamesSaid : Prop := wireNamesRow.holds Try.pinned (OpenSpec.ofChange wireNamesSpec)

/-- ITS FALSE NEIGHBOUR: 'it returns false'. Refute it at one input. -/
def wireNamesWrong : ChangeSpec := { name := "wireNames", fn := fun _ => fun
  | [] => { results := [.lit (.bool false)], args := [] }
  | _ => none }
def WireNamesWrongFalsely : Prop := wireNamesRow.holds Try.pinned (OpenSpec.ofChange wireNamesWrong)

/-- 'eddylaw10.DiskNames': WHATEVER THE INPUT: true; the input reads as it did. -/
def diskNamesSpec : ChangeSpec := { name := "diskNames", fn := fun _ => fun
  | [] => { results := [.lit (.bool true)], args := [] }
  | _ => none }
def diskNamesRow : OpenClaim := { program := "yteimlamoekdmeaa", sum := "9fcc26590da0519f73a6ca2ec885650c0c59343129ec8ba96807094027f5add5", func := "eddy/eddylaw10.DiskNames", spec := "diskNames", apart := false }
def DiskNamesSaid : Prop := diskNamesRow.holds Try.pinned (OpenSpec.ofChange diskNamesSpec)

/-- ITS FALSE NEIGHBOUR: 'it returns false'. Refute it at one input. -/
def diskNamesWrong : ChangeSpec := { name := "diskNames", fn := fun _ => fun
  | [] => { results := [.lit (.bool false)], args := [] }
  | _ => none }
def DiskNamesWrongFalsely : Prop := diskNamesRow.holds Try.pinned (OpenSpec.ofChange diskNamesWrong)

/-- 'eddylaw15.OutletNames': WHATEVER THE INPUT: true; the input reads as it did. -/
def outletNamesSpec : ChangeSpec := { name := "outletNames", fn := fun _ => fun
  | [] => { results := [.lit (.bool true)], args := [] }
  | _ => none }
def outletNamesRow : OpenClaim := { program := "yteimlamoekdmeaa", sum := "9fcc26590da0519f73a6ca2ec885650c0c59343129ec8ba96807094027f5add5", func := "eddy/eddylaw15.OutletNames", spec := "outletNames", apart := false }
def OutletNamesSaid : Prop := outletNamesRow.holds Try.pinned (OpenSpec.ofChange outletNamesSpec)

/-- ITS FALSE NEIGHBOUR: 'it returns false'. Refute it at one input. -/
def outletNamesWrong : ChangeSpec := { name := "outletNames", fn := fun _ => fun
  | [] => { results := [.lit (.bool false)], args := [] }
  | _ => none }
def OutletNamesWrongFalsely : Prop := outletNamesRow.holds Try.pinned (OpenSpec.ofChange outletNamesWrong)

/-- 'eddylaw12.VaultNames': WHATEVER THE INPUT: true; the input reads as it did. -/
def vaultNamesSpec : ChangeSpec := { name := "vaultNames", fn := fun _ => fun
  | [] => { results := [.lit (.bool true)], args := [] }
  | _ => none }
def vaultNamesRow : OpenClaim := { program := "yteimlamoekdmeaa", sum := "9fcc26590da0519f73a6ca2ec885650c0c59343129ec8ba96807094027f5add5", func := "eddy/eddylaw12.VaultNames", spec := "vaultNames", apart := false }
def VaultNamesSaid : Prop := vaultNamesRow.holds Try.pinned (OpenSpec.ofChange vaultNamesSpec)

/-- ITS FALSE NEIGHBOUR: 'it returns false'. Refute it at one input. -/
def vaultNamesWrong : ChangeSpec := { name := "vaultNames", fn := fun _ => fun
  | [] => { results := [.lit (.bool false)], args := [] }
  | _ => none }
def VaultNamesWrongFalsely : Prop := vaultNamesRow.holds Try.pinned (OpenSpec.ofChange vaultNamesWrong)

/- THE SECOND FORM. 'bulk': how many values and letters a reading holds, each counted each time it is reached (what is shared counts as often as it is met; a slice's spare places count too). A statement '..UptoSaid' is the law's where the arguments, and the package variables that the reading takes, are together of bulk at most 1048576: NARROWER than '..Said'. Prove '..Said' where nothing that the law and all that it calls make is longer than what came in: it says more and counts as full. Else prove '..UptoSaid'. A law counts once. -/
mutual
def uptoBulk {H : Type} : DataW H → Nat
  | .lit (.string bytes) => bytes.length + 1
  | .lit _ => 1
  | .nil => 1
  | .ptr d => uptoBulk d + 1
  | .slice elems spare => uptoBulkAll elems + uptoBulkAll spare + 1
  | .agg parts => uptoBulkAll parts + 1
  | .iface _ d => uptoBulk d + 1
  | .map entries => uptoBulkEntries entries + 1
  | .held _ => 1
def uptoBulkAll {H : Type} : List (DataW H) → Nat
  | [] => 0
  | d :: r => uptoBulk d + uptoBulkAll r
def uptoBulkEntries {H : Type} : List (Lit × DataW H) → Nat
  | [] => 0
  | x :: r => uptoBulkEntry x + uptoBulkEntries r
def uptoBulkEntry {H : Type} : Lit × DataW H → Nat
  | (.string bytes, d) => bytes.length + uptoBulk d + 1
  | (_, d) => uptoBulk d + 1
 end
def uptoSmall : (H : Type) → List (DataW H) → Bool := fun _ ds => decide (uptoBulkAll ds ≤ 1048576)
def OpenSpec.upto (s : _root_.Go.ChangeSpec) : _root_.Go.OpenSpec := { _root_.Go.OpenSpec.ofChange s with cond := some uptoSmall }

/-- 'eddylaw1.FrameNames', WHERE WHAT IT READS IS OF BULK AT MOST 1048576: true; the input reads as it did. -/
def frameNamesUptoRow : OpenClaim := { program := "yteimlamoekdmeaa", sum := "9fcc26590da0519f73a6ca2ec885650c0c59343129ec8ba96807094027f5add5", func := "eddy/eddylaw1.FrameNames", spec := "frameNames", apart := false, narrowed := true }
def FrameNamesUptoSaid : Prop := frameNamesUptoRow.holds Try.pinned (OpenSpec.upto frameNamesSpec)

/-- 'eddylaw21.LinkNames', WHERE WHAT IT READS IS OF BULK AT MOST 1048576: true; the input reads as it did. -/
def linkNamesUptoRow : OpenClaim := { program := "yteimlamoekdmeaa", sum := "9fcc26590da0519f73a6ca2ec885650c0c59343129ec8ba96807094027f5add5", func := "eddy/eddylaw21.LinkNames", spec := "linkNames", apart := false, narrowed := true }
def LinkNamesUptoSaid : Prop := linkNamesUptoRow.holds Try.pinned (OpenSpec.upto linkNamesSpec)

/-- 'eddylaw4.WireNames', WHERE WHAT IT READS IS OF BULK AT MOST 1048576: true; the input reads as it did. -/
def wireNamesUptoRow : OpenClaim := { program := "yteimlamoekdmeaa", sum := "9fcc26590da0519f73a6ca2ec885650c0c59343129ec8ba96807094027f5add5", func := "eddy/eddylaw4.WireNames", spec := "wireNames", apart := false, narrowed := true }
def WireNamesUptoSaid : Prop := wireNamesUptoRow.holds Try.pinned (OpenSpec.upto wireNamesSpec)

/-- 'eddylaw10.DiskNames', WHERE WHAT IT READS IS OF BULK AT MOST 1048576: true; the input reads as it did. -/
def diskNamesUptoRow : OpenClaim := { program := "yteimlamoekdmeaa", sum := "9fcc26590da0519f73a6ca2ec885650c0c59343129ec8ba96807094027f5add5", func := "eddy/eddylaw10.DiskNames", spec := "diskNames", apart := false, narrowed := true }
def DiskNamesUptoSaid : Prop := diskNamesUptoRow.holds Try.pinned (OpenSpec.upto diskNamesSpec)

/-- 'eddylaw15.OutletNames', WHERE WHAT IT READS IS OF BULK AT MOST 1048576: true; the input reads as it did. -/
def outletNamesUptoRow : OpenClaim := { program := "yteimlamoekdmeaa", sum := "9fcc26590da0519f73a6ca2ec885650c0c59343129ec8ba96807094027f5add5", func := "eddy/eddylaw15.OutletNames", spec := "outletNames", apart := false, narrowed := true }
def OutletNamesUptoSaid : Prop := outletNamesUptoRow.holds Try.pinned (OpenSpec.upto outletNamesSpec)

/-- 'eddylaw12.VaultNames', WHERE WHAT IT READS IS OF BULK AT MOST 1048576: true; the input reads as it did. -/
def vaultNamesUptoRow : OpenClaim := { program := "yteimlamoekdmeaa", sum := "9fcc26590da0519f73a6ca2ec885650c0c59343129ec8ba96807094027f5add5", func := "eddy/eddylaw12.VaultNames", spec := "vaultNames", apart := false, narrowed := true }
def VaultNamesUptoSaid : Prop := vaultNamesUptoRow.holds Try.pinned (OpenSpec.upto vaultNamesSpec)

end Rows
end Go.Proofs.Yteimlamoekdmeaa
