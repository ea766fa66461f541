/-
  NARROWER THAN 'FOR EVERY INPUT', by the rows' own cells (each row's printed sentence says how): FrameSums: laid · FrameLinear: laid · FrameWraps: laid · FrameUnwraps: laid · FrameExacts: laid · FrameScans: laid · FrameJoin: laid · FrameWalk: laid · FrameFlip: laid · FrameBurst: laid · FrameBack: laid · FrameTorn: laid · FramePlays: laid · FrameApart: laid.
  DERIVED. THE GIVEN ROWS OF THIS SEAT. 14 by the template 'for every input the law returns true; each argument reads behind the call as it read before'; 0 by the template 'total and deterministic' (their statements: YtgfinjhhkmflfaaDoorTotals.lean).
  GIVEN WITH THE SEED: the statements are not yours to turn. If you find one false, say at which input.
  Laid BY PROGRAM, IN A SANDBOX (cutbox-rows.mjs): the forced cells as the released guide's own fill.sh prints them over the translation 9e619ee297038cb4… (all of the seat's roots in one cut). By AI agents, Wed Nov 11 2026. No macro, syntax, notation, axiom, sorry.
-/
import Derived.Test.YtgfinjhhkmflfaaDoorChecked
import GoSem.Claim
import GoSem.ClaimJoined
import GoSem.ClaimMapViews
import Derived.JoinedTies
import Derived.KernelRfl
namespace Go.Proofs.YtgfinjhhkmflfaaDoor
/- THE CELL 'sum', in the pinned program and in every row, IS THE sha256 OF THE DUMP (.gsa) THAT YtgfinjhhkmflfaaDoorProg.lean LOADS. Nothing in Lean hashes anything: it is a label: what it is worth is what the hold of that sum in a sandbox is worth. -/
noncomputable def Tryd.pinned : Pinned := { name := "ytgfinjhhkmflfaadoor", sum := "9e619ee297038cb44ac1c1792d498d657acf1868c5880794bd061d88d2ff88fa", checked := Tryd.checked }
namespace Rows
def none {H : Type} : Left H := { results := [], args := [] }

/- WHAT THE LISTED PACKAGE-LEVEL VARIABLES READ AS WHEN THE CALL BEGINS. Each datum BY PROGRAM (the guide's laid-datum.mjs) off the statement by which the dump's own 'gosem.cut.vars' lays the variable. In a bare row this is a premise. The card (YtgfinjhhkmflfaaDoorCards.lean) ties it to the program's text. -/
def laid_eddy_frame_half {H : Type} : DataW H := .agg [.lit (.int .u32 0), .lit (.int .u32 498536548), .lit (.int .u32 997073096), .lit (.int .u32 651767980), .lit (.int .u32 1994146192), .lit (.int .u32 1802195444), .lit (.int .u32 1303535960), .lit (.int .u32 1342533948), .lit (.int .u32 3988292384), .lit (.int .u32 4027552580), .lit (.int .u32 3604390888), .lit (.int .u32 3412177804), .lit (.int .u32 2607071920), .lit (.int .u32 2262029012), .lit (.int .u32 2685067896), .lit (.int .u32 3183342108)]

/-- 'eddylaw1.FrameSums': WHATEVER THE INPUT: true; the input reads as it did. -/
def frameSumsSpec : ChangeSpec := { name := "frameSums", fn := fun _ => fun
  | [d1, d2, d3] => { results := [.lit (.bool true)], args := [d1, d2, d3] }
  | _ => none }
def frameSumsRow : OpenClaim := { program := "ytgfinjhhkmflfaadoor", sum := "9e619ee297038cb44ac1c1792d498d657acf1868c5880794bd061d88d2ff88fa", func := "eddy/eddylaw1.FrameSums", spec := "frameSums", named := ["eddy/frame.half"], apart := false, laid := [("eddy/frame.half", laid_eddy_frame_half)] }
def FrameSumsSaid : Prop := frameSumsRow.holds Tryd.pinned (OpenSpec.ofChange frameSumsSpec)

/-- ITS FALSE NEIGHBOUR: 'it returns false'. Refute it at one input. -/
def frameSumsWrong : ChangeSpec := { name := "frameSums", fn := fun _ => fun
  | [d1, d2, d3] => { results := [.lit (.bool false)], args := [d1, d2, d3] }
  | _ => none }
def FrameSumsWrongFalsely : Prop := frameSumsRow.holds Tryd.pinned (OpenSpec.ofChange frameSumsWrong)

/-- 'eddylaw1.FrameLinear': WHATEVER THE INPUT: true; the input reads as it did. -/
def frameLinearSpec : ChangeSpec := { name := "frameLinear", fn := fun _ => fun
  | [d1, d2] => { results := [.lit (.bool true)], args := [d1, d2] }
  | _ => none }
def frameLinearRow : OpenClaim := { program := "ytgfinjhhkmflfaadoor", sum := "9e619ee297038cb44ac1c1792d498d657acf1868c5880794bd061d88d2ff88fa", func := "eddy/eddylaw1.FrameLinear", spec := "frameLinear", named := ["eddy/frame.half"], apart := false, laid := [("eddy/frame.half", laid_eddy_frame_half)] }
def FrameLinearSaid : Prop := frameLinearRow.holds Tryd.pinned (OpenSpec.ofChange frameLinearSpec)

/-- ITS FALSE NEIGHBOUR: 'it returns false'. Refute it at one input. -/
def frameLinearWrong : ChangeSpec := { name := "frameLinear", fn := fun _ => fun
  | [d1, d2] => { results := [.lit (.bool false)], args := [d1, d2] }
  | _ => none }
def FrameLinearWrongFalsely : Prop := frameLinearRow.holds Tryd.pinned (OpenSpec.ofChange frameLinearWrong)

/-- 'eddylaw1.FrameWraps': WHATEVER THE INPUT: true; the input reads as it did. -/
def frameWrapsSpec : ChangeSpec := { name := "frameWraps", fn := fun _ => fun
  | [d] => { results := [.lit (.bool true)], args := [d] }
  | _ => none }
def frameWrapsRow : OpenClaim := { program := "ytgfinjhhkmflfaadoor", sum := "9e619ee297038cb44ac1c1792d498d657acf1868c5880794bd061d88d2ff88fa", func := "eddy/eddylaw1.FrameWraps", spec := "frameWraps", named := ["eddy/frame.half"], apart := false, laid := [("eddy/frame.half", laid_eddy_frame_half)] }
def FrameWrapsSaid : Prop := frameWrapsRow.holds Tryd.pinned (OpenSpec.ofChange frameWrapsSpec)

/-- ITS FALSE NEIGHBOUR: 'it returns false'. Refute it at one input. -/
def frameWrapsWrong : ChangeSpec := { name := "frameWraps", fn := fun _ => fun
  | [d] => { results := [.lit (.bool false)], args := [d] }
  | _ => none }
def FrameWrapsWrongFalsely : Prop := frameWrapsRow.holds Tryd.pinned (OpenSpec.ofChange frameWrapsWrong)

/-- 'eddylaw1.FrameUnwraps': WHATEVER THE INPUT: true; the input reads as it did. -/
def frameUnwrapsSpec : ChangeSpec := { name := "frameUnwraps", fn := fun _ => fun
  | [d] => { results := [.lit (.bool true)], args := [d] }
  | _ => none }
def frameUnwrapsRow : OpenClaim := { program := "ytgfinjhhkmflfaadoor", sum := "9e619ee297038cb44ac1c1792d498d657acf1868c5880794bd061d88d2ff88fa", func := "eddy/eddylaw1.FrameUnwraps", spec := "frameUnwraps", named := ["eddy/frame.half"], apart := false, laid := [("eddy/frame.half", laid_eddy_frame_half)] }
def FrameUnwrapsSaid : Prop := frameUnwrapsRow.holds Tryd.pinned (OpenSpec.ofChange frameUnwrapsSpec)

/-- ITS FALSE NEIGHBOUR: 'it returns false'. Refute it at one input. -/
def frameUnwrapsWrong : ChangeSpec := { name := "frameUnwraps", fn := fun _ => fun
  | [d] => { results := [.lit (.bool false)], args := [d] }
  | _ => none }
def FrameUnwrapsWrongFalsely : Prop := frameUnwrapsRow.holds Tryd.pinned (OpenSpec.ofChange frameUnwrapsWrong)

/-- 'eddylaw1.FrameExacts': WHATEVER THE INPUT: true; the input reads as it did. -/
def frameExactsSpec : ChangeSpec := { name := "frameExacts", fn := fun _ => fun
  | [d] => { results := [.lit (.bool true)], args := [d] }
  | _ => none }
def frameExactsRow : OpenClaim := { program := "ytgfinjhhkmflfaadoor", sum := "9e619ee297038cb44ac1c1792d498d657acf1868c5880794bd061d88d2ff88fa", func := "eddy/eddylaw1.FrameExacts", spec := "frameExacts", named := ["eddy/frame.half"], apart := false, laid := [("eddy/frame.half", laid_eddy_frame_half)] }
def FrameExactsSaid : Prop := frameExactsRow.holds Tryd.pinned (OpenSpec.ofChange frameExactsSpec)

/-- ITS FALSE NEIGHBOUR: 'it returns false'. Refute it at one input. -/
def frameExactsWrong : ChangeSpec := { name := "frameExacts", fn := fun _ => fun
  | [d] => { results := [.lit (.bool false)], args := [d] }
  | _ => none }
def FrameExactsWrongFalsely : Prop := frameExactsRow.holds Tryd.pinned (OpenSpec.ofChange frameExactsWrong)

/-- 'eddylaw1.FrameScans': WHATEVER THE INPUT: true; the input reads as it did. -/
def frameScansSpec : ChangeSpec := { name := "frameScans", fn := fun _ => fun
  | [d] => { results := [.lit (.bool true)], args := [d] }
  | _ => none }
def frameScansRow : OpenClaim := { program := "ytgfinjhhkmflfaadoor", sum := "9e619ee297038cb44ac1c1792d498d657acf1868c5880794bd061d88d2ff88fa", func := "eddy/eddylaw1.FrameScans", spec := "frameScans", named := ["eddy/frame.half"], apart := false, laid := [("eddy/frame.half", laid_eddy_frame_half)] }
def FrameScansSaid : Prop := frameScansRow.holds Tryd.pinned (OpenSpec.ofChange frameScansSpec)

/-- ITS FALSE NEIGHBOUR: 'it returns false'. Refute it at one input. -/
def frameScansWrong : ChangeSpec := { name := "frameScans", fn := fun _ => fun
  | [d] => { results := [.lit (.bool false)], args := [d] }
  | _ => none }
def FrameScansWrongFalsely : Prop := frameScansRow.holds Tryd.pinned (OpenSpec.ofChange frameScansWrong)

/-- 'eddylaw1.FrameJoin': WHATEVER THE INPUT: true; the input reads as it did. -/
def frameJoinSpec : ChangeSpec := { name := "frameJoin", fn := fun _ => fun
  | [d1, d2] => { results := [.lit (.bool true)], args := [d1, d2] }
  | _ => none }
def frameJoinRow : OpenClaim := { program := "ytgfinjhhkmflfaadoor", sum := "9e619ee297038cb44ac1c1792d498d657acf1868c5880794bd061d88d2ff88fa", func := "eddy/eddylaw1.FrameJoin", spec := "frameJoin", named := ["eddy/frame.half"], apart := false, laid := [("eddy/frame.half", laid_eddy_frame_half)] }
def FrameJoinSaid : Prop := frameJoinRow.holds Tryd.pinned (OpenSpec.ofChange frameJoinSpec)

/-- ITS FALSE NEIGHBOUR: 'it returns false'. Refute it at one input. -/
def frameJoinWrong : ChangeSpec := { name := "frameJoin", fn := fun _ => fun
  | [d1, d2] => { results := [.lit (.bool false)], args := [d1, d2] }
  | _ => none }
def FrameJoinWrongFalsely : Prop := frameJoinRow.holds Tryd.pinned (OpenSpec.ofChange frameJoinWrong)

/-- 'eddylaw1.FrameWalk': WHATEVER THE INPUT: true; the input reads as it did. -/
def frameWalkSpec : ChangeSpec := { name := "frameWalk", fn := fun _ => fun
  | [d] => { results := [.lit (.bool true)], args := [d] }
  | _ => none }
def frameWalkRow : OpenClaim := { program := "ytgfinjhhkmflfaadoor", sum := "9e619ee297038cb44ac1c1792d498d657acf1868c5880794bd061d88d2ff88fa", func := "eddy/eddylaw1.FrameWalk", spec := "frameWalk", named := ["eddy/frame.half"], apart := false, laid := [("eddy/frame.half", laid_eddy_frame_half)] }
def FrameWalkSaid : Prop := frameWalkRow.holds Tryd.pinned (OpenSpec.ofChange frameWalkSpec)

/-- ITS FALSE NEIGHBOUR: 'it returns false'. Refute it at one input. -/
def frameWalkWrong : ChangeSpec := { name := "frameWalk", fn := fun _ => fun
  | [d] => { results := [.lit (.bool false)], args := [d] }
  | _ => none }
def FrameWalkWrongFalsely : Prop := frameWalkRow.holds Tryd.pinned (OpenSpec.ofChange frameWalkWrong)

/-- 'eddylaw1.FrameFlip': WHATEVER THE INPUT: true; the input reads as it did. -/
def frameFlipSpec : ChangeSpec := { name := "frameFlip", fn := fun _ => fun
  | [d1, d2] => { results := [.lit (.bool true)], args := [d1, d2] }
  | _ => none }
def frameFlipRow : OpenClaim := { program := "ytgfinjhhkmflfaadoor", sum := "9e619ee297038cb44ac1c1792d498d657acf1868c5880794bd061d88d2ff88fa", func := "eddy/eddylaw1.FrameFlip", spec := "frameFlip", named := ["eddy/frame.half"], apart := false, laid := [("eddy/frame.half", laid_eddy_frame_half)] }
def FrameFlipSaid : Prop := frameFlipRow.holds Tryd.pinned (OpenSpec.ofChange frameFlipSpec)

/-- ITS FALSE NEIGHBOUR: 'it returns false'. Refute it at one input. -/
def frameFlipWrong : ChangeSpec := { name := "frameFlip", fn := fun _ => fun
  | [d1, d2] => { results := [.lit (.bool false)], args := [d1, d2] }
  | _ => none }
def FrameFlipWrongFalsely : Prop := frameFlipRow.holds Tryd.pinned (OpenSpec.ofChange frameFlipWrong)

/-- 'eddylaw1.FrameBurst': WHATEVER THE INPUT: true; the input reads as it did. -/
def frameBurstSpec : ChangeSpec := { name := "frameBurst", fn := fun _ => fun
  | [d1, d2, d3] => { results := [.lit (.bool true)], args := [d1, d2, d3] }
  | _ => none }
def frameBurstRow : OpenClaim := { program := "ytgfinjhhkmflfaadoor", sum := "9e619ee297038cb44ac1c1792d498d657acf1868c5880794bd061d88d2ff88fa", func := "eddy/eddylaw1.FrameBurst", spec := "frameBurst", named := ["eddy/frame.half"], apart := false, laid := [("eddy/frame.half", laid_eddy_frame_half)] }
def FrameBurstSaid : Prop := frameBurstRow.holds Tryd.pinned (OpenSpec.ofChange frameBurstSpec)

/-- ITS FALSE NEIGHBOUR: 'it returns false'. Refute it at one input. -/
def frameBurstWrong : ChangeSpec := { name := "frameBurst", fn := fun _ => fun
  | [d1, d2, d3] => { results := [.lit (.bool false)], args := [d1, d2, d3] }
  | _ => none }
def FrameBurstWrongFalsely : Prop := frameBurstRow.holds Tryd.pinned (OpenSpec.ofChange frameBurstWrong)

/-- 'eddylaw1.FrameBack': WHATEVER THE INPUT: true; the input reads as it did. -/
def frameBackSpec : ChangeSpec := { name := "frameBack", fn := fun _ => fun
  | [d1, d2] => { results := [.lit (.bool true)], args := [d1, d2] }
  | _ => none }
def frameBackRow : OpenClaim := { program := "ytgfinjhhkmflfaadoor", sum := "9e619ee297038cb44ac1c1792d498d657acf1868c5880794bd061d88d2ff88fa", func := "eddy/eddylaw1.FrameBack", spec := "frameBack", named := ["eddy/frame.half"], apart := false, laid := [("eddy/frame.half", laid_eddy_frame_half)] }
def FrameBackSaid : Prop := frameBackRow.holds Tryd.pinned (OpenSpec.ofChange frameBackSpec)

/-- ITS FALSE NEIGHBOUR: 'it returns false'. Refute it at one input. -/
def frameBackWrong : ChangeSpec := { name := "frameBack", fn := fun _ => fun
  | [d1, d2] => { results := [.lit (.bool false)], args := [d1, d2] }
  | _ => none }
def FrameBackWrongFalsely : Prop := frameBackRow.holds Tryd.pinned (OpenSpec.ofChange frameBackWrong)

/-- 'eddylaw1.FrameTorn': WHATEVER THE INPUT: true; the input reads as it did. -/
def frameTornSpec : ChangeSpec := { name := "frameTorn", fn := fun _ => fun
  | [d1, d2] => { results := [.lit (.bool true)], args := [d1, d2] }
  | _ => none }
def frameTornRow : OpenClaim := { program := "ytgfinjhhkmflfaadoor", sum := "9e619ee297038cb44ac1c1792d498d657acf1868c5880794bd061d88d2ff88fa", func := "eddy/eddylaw1.FrameTorn", spec := "frameTorn", named := ["eddy/frame.half"], apart := false, laid := [("eddy/frame.half", laid_eddy_frame_half)] }
def FrameTornSaid : Prop := frameTornRow.holds Tryd.pinned (OpenSpec.ofChange frameTornSpec)

/-- ITS FALSE NEIGHBOUR: 'it returns false'. Refute it at one input. -/
def frameTornWrong : ChangeSpec := { name := "frameTorn", fn := fun _ => fun
  | [d1, d2] => { results := [.lit (.bool false)], args := [d1, d2] }
  | _ => none }
def FrameTornWrongFalsely : Prop := frameTornRow.holds Tryd.pinned (OpenSpec.ofChange frameTornWrong)

/-- 'eddylaw1.FramePlays': WHATEVER THE INPUT: true; the input reads as it did. -/
def framePlaysSpec : ChangeSpec := { name := "framePlays", fn := fun _ => fun
  | [d] => { results := [.lit (.bool true)], args := [d] }
  | _ => none }
def framePlaysRow : OpenClaim := { program := "ytgfinjhhkmflfaadoor", sum := "9e619ee297038cb44ac1c1792d498d657acf1868c5880794bd061d88d2ff88fa", func := "eddy/eddylaw1.FramePlays", spec := "framePlays", named := ["eddy/frame.half"], apart := false, laid := [("eddy/frame.half", laid_eddy_frame_half)] }
def FramePlaysSaid : Prop := framePlaysRow.holds Tryd.pinned (OpenSpec.ofChange framePlaysSpec)

/-- ITS FALSE NEIGHBOUR: 'it returns false'. Refute it at one input. -/
def framePlaysWrong : ChangeSpec := { name := "framePlays", fn := fun _ => fun
  | [d] => { results := [.lit (.bool false)], args := [d] }
  | _ => none }
def FramePlaysWrongFalsely : Prop := framePlaysRow.holds Tryd.pinned (OpenSpec.ofChange framePlaysWrong)

/-- 'eddylaw1.FrameApart': WHATEVER THE INPUT: true; the input reads as it did. -/
def frameApartSpec : ChangeSpec := { name := "frameApart", fn := fun _ => fun
  | [d] => { results := [.lit (.bool true)], args := [d] }
  | _ => none }
def frameApartRow : OpenClaim := { program := "ytgfinjhhkmflfaadoor", sum := "9e619ee297038cb44ac1c1792d498d657acf1868c5880794bd061d88d2ff88fa", func := "eddy/eddylaw1.FrameApart", spec := "frameApart", named := ["eddy/frame.half"], apart := false, laid := [("eddy/frame.half", laid_eddy_frame_half)] }
def FrameApartSaid : Prop := frameApartRow.holds Tryd.pinned (OpenSpec.ofChange frameApartSpec)

/-- ITS FALSE NEIGHBOUR: 'it returns false'. Refute it at one input. -/
def frameApartWrong : ChangeSpec := { name := "frameApart", fn := fun _ => fun
  | [d] => { results := [.lit (.bool false)], args := [d] }
  | _ => none }
def FrameApartWrongFalsely : Prop := frameApartRow.holds Tryd.pinned (OpenSpec.ofChange frameApartWrong)

/- THE SECOND FORM. 'bulk': how many values and letters a reading holds, each counted each time it is reached (what is shared counts as often as it is met; a slice's spare places count too). A statement '..UptoSaid' is the law's where the arguments, and the package variables that the reading takes, are together of bulk at most 1048576: NARROWER than '..Said'. Prove '..Said' where nothing that the law and all that it calls make is longer than what came in: it says more and counts as full. Else prove '..UptoSaid'. A law counts once. -/
mutual
def uptoBulk {H : Type} : DataW H → Nat
  | .lit (.string bytes) => bytes.length + 1
  | .lit _ => 1
  | .nil => 1
  | .ptr d => uptoBulk d + 1
  | .slice elems spare => uptoBulkAll elems + uptoBulkAll spare + 1
  | .agg parts => uptoBulkAll parts + 1
  | .iface _ d => uptoBulk d + 1
  | .map entries => uptoBulkEntries entries + 1
  | .held _ => 1
def uptoBulkAll {H : Type} : List (DataW H) → Nat
  | [] => 0
  | d :: r => uptoBulk d + uptoBulkAll r
def uptoBulkEntries {H : Type} : List (Lit × DataW H) → Nat
  | [] => 0
  | x :: r => uptoBulkEntry x + uptoBulkEntries r
def uptoBulkEntry {H : Type} : Lit × DataW H → Nat
  | (.string bytes, d) => bytes.length + uptoBulk d + 1
  | (_, d) => uptoBulk d + 1
 end
def uptoSmall : (H : Type) → List (DataW H) → Bool := fun _ ds => decide (uptoBulkAll ds ≤ 1048576)
def OpenSpec.upto (s : _root_.Go.ChangeSpec) : _root_.Go.OpenSpec := { _root_.Go.OpenSpec.ofChange s with cond := some uptoSmall }

/-- 'eddylaw1.FrameSums', WHERE WHAT IT READS IS OF BULK AT MOST 1048576: true; the input reads as it did. -/
def frameSumsUptoRow : OpenClaim := { program := "ytgfinjhhkmflfaadoor", sum := "9e619ee297038cb44ac1c1792d498d657acf1868c5880794bd061d88d2ff88fa", func := "eddy/eddylaw1.FrameSums", spec := "frameSums", named := ["eddy/frame.half"], apart := false, laid := [("eddy/frame.half", laid_eddy_frame_half)], narrowed := true }
def FrameSumsUptoSaid : Prop := frameSumsUptoRow.holds Tryd.pinned (OpenSpec.upto frameSumsSpec)

/-- 'eddylaw1.FrameLinear', WHERE WHAT IT READS IS OF BULK AT MOST 1048576: true; the input reads as it did. -/
def frameLinearUptoRow : OpenClaim := { program := "ytgfinjhhkmflfaadoor", sum := "9e619ee297038cb44ac1c1792d498d657acf1868c5880794bd061d88d2ff88fa", func := "eddy/eddylaw1.FrameLinear", spec := "frameLinear", named := ["eddy/frame.half"], apart := false, laid := [("eddy/frame.half", laid_eddy_frame_half)], narrowed := true }
def FrameLinearUptoSaid : Prop := frameLinearUptoRow.holds Tryd.pinned (OpenSpec.upto frameLinearSpec)

/-- 'eddylaw1.FrameWraps', WHERE WHAT IT READS IS OF BULK AT MOST 1048576: true; the input reads as it did. -/
def frameWrapsUptoRow : OpenClaim := { program := "ytgfinjhhkmflfaadoor", sum := "9e619ee297038cb44ac1c1792d498d657acf1868c5880794bd061d88d2ff88fa", func := "eddy/eddylaw1.FrameWraps", spec := "frameWraps", named := ["eddy/frame.half"], apart := false, laid := [("eddy/frame.half", laid_eddy_frame_half)], narrowed := true }
def FrameWrapsUptoSaid : Prop := frameWrapsUptoRow.holds Tryd.pinned (OpenSpec.upto frameWrapsSpec)

/-- 'eddylaw1.FrameUnwraps', WHERE WHAT IT READS IS OF BULK AT MOST 1048576: true; the input reads as it did. -/
def frameUnwrapsUptoRow : OpenClaim := { program := "ytgfinjhhkmflfaadoor", sum := "9e619ee297038cb44ac1c1792d498d657acf1868c5880794bd061d88d2ff88fa", func := "eddy/eddylaw1.FrameUnwraps", spec := "frameUnwraps", named := ["eddy/frame.half"], apart := false, laid := [("eddy/frame.half", laid_eddy_frame_half)], narrowed := true }
def FrameUnwrapsUptoSaid : Prop := frameUnwrapsUptoRow.holds Tryd.pinned (OpenSpec.upto frameUnwrapsSpec)

/-- 'eddylaw1.FrameExacts', WHERE WHAT IT READS IS OF BULK AT MOST 1048576: true; the input reads as it did. -/
def frameExactsUptoRow : OpenClaim := { program := "ytgfinjhhkmflfaadoor", sum := "9e619ee297038cb44ac1c1792d498d657acf1868c5880794bd061d88d2ff88fa", func := "eddy/eddylaw1.FrameExacts", spec := "frameExacts", named := ["eddy/frame.half"], apart := false, laid := [("eddy/frame.half", laid_eddy_frame_half)], narrowed := true }
def FrameExactsUptoSaid : Prop := frameExactsUptoRow.holds Tryd.pinned (OpenSpec.upto frameExactsSpec)

/-- 'eddylaw1.FrameScans', WHERE WHAT IT READS IS OF BULK AT MOST 1048576: true; the input reads as it did. -/
def frameScansUptoRow : OpenClaim := { program := "ytgfinjhhkmflfaadoor", sum := "9e619ee297038cb44ac1c1792d498d657acf1868c5880794bd061d88d2ff88fa", func := "eddy/eddylaw1.FrameScans", spec := "frameScans", named := ["eddy/frame.half"], apart := false, laid := [("eddy/frame.half", laid_eddy_frame_half)], narrowed := true }
def FrameScansUptoSaid : Prop := frameScansUptoRow.holds Tryd.pinned (OpenSpec.upto frameScansSpec)

/-- 'eddylaw1.FrameJoin', WHERE WHAT IT READS IS OF BULK AT MOST 1048576: true; the input reads as it did. -/
def frameJoinUptoRow : OpenClaim := { program := "ytgfinjhhkmflfaadoor", sum := "9e619ee297038cb44ac1c1792d498d657acf1868c5880794bd061d88d2ff88fa", func := "eddy/eddylaw1.FrameJoin", spec := "frameJoin", named := ["eddy/frame.half"], apart := false, laid := [("eddy/frame.half", laid_eddy_frame_half)], narrowed := true }
def FrameJoinUptoSaid : Prop := frameJoinUptoRow.holds Tryd.pinned (OpenSpec.upto frameJoinSpec)

/-- 'eddylaw1.FrameWalk', WHERE WHAT IT READS IS OF BULK AT MOST 1048576: true; the input reads as it did. -/
def frameWalkUptoRow : OpenClaim := { program := "ytgfinjhhkmflfaadoor", sum := "9e619ee297038cb44ac1c1792d498d657acf1868c5880794bd061d88d2ff88fa", func := "eddy/eddylaw1.FrameWalk", spec := "frameWalk", named := ["eddy/frame.half"], apart := false, laid := [("eddy/frame.half", laid_eddy_frame_half)], narrowed := true }
def FrameWalkUptoSaid : Prop := frameWalkUptoRow.holds Tryd.pinned (OpenSpec.upto frameWalkSpec)

/-- 'eddylaw1.FrameFlip', WHERE WHAT IT READS IS OF BULK AT MOST 1048576: true; the input reads as it did. -/
def frameFlipUptoRow : OpenClaim := { program := "ytgfinjhhkmflfaadoor", sum := "9e619ee297038cb44ac1c1792d498d657acf1868c5880794bd061d88d2ff88fa", func := "eddy/eddylaw1.FrameFlip", spec := "frameFlip", named := ["eddy/frame.half"], apart := false, laid := [("eddy/frame.half", laid_eddy_frame_half)], narrowed := true }
def FrameFlipUptoSaid : Prop := frameFlipUptoRow.holds Tryd.pinned (OpenSpec.upto frameFlipSpec)

/-- 'eddylaw1.FrameBurst', WHERE WHAT IT READS IS OF BULK AT MOST 1048576: true; the input reads as it did. -/
def frameBurstUptoRow : OpenClaim := { program := "ytgfinjhhkmflfaadoor", sum := "9e619ee297038cb44ac1c1792d498d657acf1868c5880794bd061d88d2ff88fa", func := "eddy/eddylaw1.FrameBurst", spec := "frameBurst", named := ["eddy/frame.half"], apart := false, laid := [("eddy/frame.half", laid_eddy_frame_half)], narrowed := true }
def FrameBurstUptoSaid : Prop := frameBurstUptoRow.holds Tryd.pinned (OpenSpec.upto frameBurstSpec)

/-- 'eddylaw1.FrameBack', WHERE WHAT IT READS IS OF BULK AT MOST 1048576: true; the input reads as it did. -/
def frameBackUptoRow : OpenClaim := { program := "ytgfinjhhkmflfaadoor", sum := "9e619ee297038cb44ac1c1792d498d657acf1868c5880794bd061d88d2ff88fa", func := "eddy/eddylaw1.FrameBack", spec := "frameBack", named := ["eddy/frame.half"], apart := false, laid := [("eddy/frame.half", laid_eddy_frame_half)], narrowed := true }
def FrameBackUptoSaid : Prop := frameBackUptoRow.holds Tryd.pinned (OpenSpec.upto frameBackSpec)

/-- 'eddylaw1.FrameTorn', WHERE WHAT IT READS IS OF BULK AT MOST 1048576: true; the input reads as it did. -/
def frameTornUptoRow : OpenClaim := { program := "ytgfinjhhkmflfaadoor", sum := "9e619ee297038cb44ac1c1792d498d657acf1868c5880794bd061d88d2ff88fa", func := "eddy/eddylaw1.FrameTorn", spec := "frameTorn", named := ["eddy/frame.half"], apart := false, laid := [("eddy/frame.half", laid_eddy_frame_half)], narrowed := true }
def FrameTornUptoSaid : Prop := frameTornUptoRow.holds Tryd.pinned (OpenSpec.upto frameTornSpec)

/-- 'eddylaw1.FramePlays', WHERE WHAT IT READS IS OF BULK AT MOST 1048576: true; the input reads as it did. -/
def framePlaysUptoRow : OpenClaim := { program := "ytgfinjhhkmflfaadoor", sum := "9e619ee297038cb44ac1c1792d498d657acf1868c5880794bd061d88d2ff88fa", func := "eddy/eddylaw1.FramePlays", spec := "framePlays", named := ["eddy/frame.half"], apart := false, laid := [("eddy/frame.half", laid_eddy_frame_half)], narrowed := true }
def FramePlaysUptoSaid : Prop := framePlaysUptoRow.holds Tryd.pinned (OpenSpec.upto framePlaysSpec)

/-- 'eddylaw1.FrameApart', WHERE WHAT IT READS IS OF BULK AT MOST 1048576: true; the input reads as it did. -/
def frameApartUptoRow : OpenClaim := { program := "ytgfinjhhkmflfaadoor", sum := "9e619ee297038cb44ac1c1792d498d657acf1868c5880794bd061d88d2ff88fa", func := "eddy/eddylaw1.FrameApart", spec := "frameApart", named := ["eddy/frame.half"], apart := false, laid := [("eddy/frame.half", laid_eddy_frame_half)], narrowed := true }
def FrameApartUptoSaid : Prop := frameApartUptoRow.holds Tryd.pinned (OpenSpec.upto frameApartSpec)

end Rows
end Go.Proofs.YtgfinjhhkmflfaaDoor
