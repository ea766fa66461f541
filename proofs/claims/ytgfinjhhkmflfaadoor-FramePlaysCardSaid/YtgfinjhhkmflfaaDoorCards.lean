/-
  DERIVED. GIVEN WITH THE SEED: THE CARDS: each row of YtgfinjhhkmflfaaDoorRows.lean that lists a variable, with what it lists TIED to the program's text (the seventh form; the later family's looks); each row that meets fmt, with fmt's text TOLD by the authors' own Lean function (tested against real Go, not proved from fmt's source: count such statements apart). THE CARD IS WHAT COUNTS. Prove the row's statement (the work); the ties are given (YtgfinjhhkmflfaaDoorTie.lean); close each card by the builder's one call (the guide's Derived/Test/ToyasCard.lean, 'card_holds'). Laid BY PROGRAM, IN A SANDBOX (cutbox-door.mjs). By AI agents, Wed Nov 11 2026. No macro, syntax, notation, axiom, sorry.
-/
import Derived.Test.YtgfinjhhkmflfaaDoorRows
import GoSem.ClaimSeven
namespace Go.Proofs.YtgfinjhhkmflfaaDoor
namespace Rows

/-- THE TIED CARD OF 'eddylaw1.FrameSums'. -/
def frameSumsCard : Claim7 := { stood := { row := frameSumsRow, standIns := [], harness := (true, "d75258cd9ff8cca17ce00de567abda14bcd2f7fd67318f6b8bc6f4c557870e12"), looks := false }, kinds := [], alts := [], laidByText := true, laidKinds := [.data], laidTests := true, laidLooks := .later }
def FrameSumsCardSaid : Prop := Claim7.holds Tryd.pinned (.plain (OpenSpec.ofChange frameSumsSpec)) frameSumsCard

/-- THE TIED CARD OF 'eddylaw1.FrameLinear'. -/
def frameLinearCard : Claim7 := { stood := { row := frameLinearRow, standIns := [], harness := (true, "d75258cd9ff8cca17ce00de567abda14bcd2f7fd67318f6b8bc6f4c557870e12"), looks := false }, kinds := [], alts := [], laidByText := true, laidKinds := [.data], laidTests := true, laidLooks := .later }
def FrameLinearCardSaid : Prop := Claim7.holds Tryd.pinned (.plain (OpenSpec.ofChange frameLinearSpec)) frameLinearCard

/-- THE TIED CARD OF 'eddylaw1.FrameWraps'. -/
def frameWrapsCard : Claim7 := { stood := { row := frameWrapsRow, standIns := [], harness := (true, "d75258cd9ff8cca17ce00de567abda14bcd2f7fd67318f6b8bc6f4c557870e12"), looks := false }, kinds := [], alts := [], laidByText := true, laidKinds := [.data], laidTests := true, laidLooks := .later }
def FrameWrapsCardSaid : Prop := Claim7.holds Tryd.pinned (.plain (OpenSpec.ofChange frameWrapsSpec)) frameWrapsCard

/-- THE TIED CARD OF 'eddylaw1.FrameUnwraps'. -/
def frameUnwrapsCard : Claim7 := { stood := { row := frameUnwrapsRow, standIns := [], harness := (true, "d75258cd9ff8cca17ce00de567abda14bcd2f7fd67318f6b8bc6f4c557870e12"), looks := false }, kinds := [], alts := [], laidByText := true, laidKinds := [.data], laidTests := true, laidLooks := .later }
def FrameUnwrapsCardSaid : Prop := Claim7.holds Tryd.pinned (.plain (OpenSpec.ofChange frameUnwrapsSpec)) frameUnwrapsCard

/-- THE TIED CARD OF 'eddylaw1.FrameExacts'. -/
def frameExactsCard : Claim7 := { stood := { row := frameExactsRow, standIns := [], harness := (true, "d75258cd9ff8cca17ce00de567abda14bcd2f7fd67318f6b8bc6f4c557870e12"), looks := false }, kinds := [], alts := [], laidByText := true, laidKinds := [.data], laidTests := true, laidLooks := .later }
def FrameExactsCardSaid : Prop := Claim7.holds Tryd.pinned (.plain (OpenSpec.ofChange frameExactsSpec)) frameExactsCard

/-- THE TIED CARD OF 'eddylaw1.FrameScans'. -/
def frameScansCard : Claim7 := { stood := { row := frameScansRow, standIns := [], harness := (true, "d75258cd9ff8cca17ce00de567abda14bcd2f7fd67318f6b8bc6f4c557870e12"), looks := false }, kinds := [], alts := [], laidByText := true, laidKinds := [.data], laidTests := true, laidLooks := .later }
def FrameScansCardSaid : Prop := Claim7.holds Tryd.pinned (.plain (OpenSpec.ofChange frameScansSpec)) frameScansCard

/-- THE TIED CARD OF 'eddylaw1.FrameJoin'. -/
def frameJoinCard : Claim7 := { stood := { row := frameJoinRow, standIns := [], harness := (true, "d75258cd9ff8cca17ce00de567abda14bcd2f7fd67318f6b8bc6f4c557870e12"), looks := false }, kinds := [], alts := [], laidByText := true, laidKinds := [.data], laidTests := true, laidLooks := .later }
def FrameJoinCardSaid : Prop := Claim7.holds Tryd.pinned (.plain (OpenSpec.ofChange frameJoinSpec)) frameJoinCard

/-- THE TIED CARD OF 'eddylaw1.FrameWalk'. -/
def frameWalkCard : Claim7 := { stood := { row := frameWalkRow, standIns := [], harness := (true, "d75258cd9ff8cca17ce00de567abda14bcd2f7fd67318f6b8bc6f4c557870e12"), looks := false }, kinds := [], alts := [], laidByText := true, laidKinds := [.data], laidTests := true, laidLooks := .later }
def FrameWalkCardSaid : Prop := Claim7.holds Tryd.pinned (.plain (OpenSpec.ofChange frameWalkSpec)) frameWalkCard

/-- THE TIED CARD OF 'eddylaw1.FrameFlip'. -/
def frameFlipCard : Claim7 := { stood := { row := frameFlipRow, standIns := [], harness := (true, "d75258cd9ff8cca17ce00de567abda14bcd2f7fd67318f6b8bc6f4c557870e12"), looks := false }, kinds := [], alts := [], laidByText := true, laidKinds := [.data], laidTests := true, laidLooks := .later }
def FrameFlipCardSaid : Prop := Claim7.holds Tryd.pinned (.plain (OpenSpec.ofChange frameFlipSpec)) frameFlipCard

/-- THE TIED CARD OF 'eddylaw1.FrameBurst'. -/
def frameBurstCard : Claim7 := { stood := { row := frameBurstRow, standIns := [], harness := (true, "d75258cd9ff8cca17ce00de567abda14bcd2f7fd67318f6b8bc6f4c557870e12"), looks := false }, kinds := [], alts := [], laidByText := true, laidKinds := [.data], laidTests := true, laidLooks := .later }
def FrameBurstCardSaid : Prop := Claim7.holds Tryd.pinned (.plain (OpenSpec.ofChange frameBurstSpec)) frameBurstCard

/-- THE TIED CARD OF 'eddylaw1.FrameBack'. -/
def frameBackCard : Claim7 := { stood := { row := frameBackRow, standIns := [], harness := (true, "d75258cd9ff8cca17ce00de567abda14bcd2f7fd67318f6b8bc6f4c557870e12"), looks := false }, kinds := [], alts := [], laidByText := true, laidKinds := [.data], laidTests := true, laidLooks := .later }
def FrameBackCardSaid : Prop := Claim7.holds Tryd.pinned (.plain (OpenSpec.ofChange frameBackSpec)) frameBackCard

/-- THE TIED CARD OF 'eddylaw1.FrameTorn'. -/
def frameTornCard : Claim7 := { stood := { row := frameTornRow, standIns := [], harness := (true, "d75258cd9ff8cca17ce00de567abda14bcd2f7fd67318f6b8bc6f4c557870e12"), looks := false }, kinds := [], alts := [], laidByText := true, laidKinds := [.data], laidTests := true, laidLooks := .later }
def FrameTornCardSaid : Prop := Claim7.holds Tryd.pinned (.plain (OpenSpec.ofChange frameTornSpec)) frameTornCard

/-- THE TIED CARD OF 'eddylaw1.FramePlays'. -/
def framePlaysCard : Claim7 := { stood := { row := framePlaysRow, standIns := [], harness := (true, "d75258cd9ff8cca17ce00de567abda14bcd2f7fd67318f6b8bc6f4c557870e12"), looks := false }, kinds := [], alts := [], laidByText := true, laidKinds := [.data], laidTests := true, laidLooks := .later }
def FramePlaysCardSaid : Prop := Claim7.holds Tryd.pinned (.plain (OpenSpec.ofChange framePlaysSpec)) framePlaysCard

/-- THE TIED CARD OF 'eddylaw1.FrameApart'. -/
def frameApartCard : Claim7 := { stood := { row := frameApartRow, standIns := [], harness := (true, "d75258cd9ff8cca17ce00de567abda14bcd2f7fd67318f6b8bc6f4c557870e12"), looks := false }, kinds := [], alts := [], laidByText := true, laidKinds := [.data], laidTests := true, laidLooks := .later }
def FrameApartCardSaid : Prop := Claim7.holds Tryd.pinned (.plain (OpenSpec.ofChange frameApartSpec)) frameApartCard

/-- THE SECOND FORM's CARD OF 'eddylaw1.FrameSums'. -/
def frameSumsUptoCard : Claim7 := { stood := { row := frameSumsUptoRow, standIns := [], harness := (true, "d75258cd9ff8cca17ce00de567abda14bcd2f7fd67318f6b8bc6f4c557870e12"), looks := false }, kinds := [], alts := [], laidByText := true, laidKinds := [.data], laidTests := true, laidLooks := .later }
def FrameSumsUptoCardSaid : Prop := Claim7.holds Tryd.pinned (.plain (OpenSpec.upto frameSumsSpec)) frameSumsUptoCard

/-- THE SECOND FORM's CARD OF 'eddylaw1.FrameLinear'. -/
def frameLinearUptoCard : Claim7 := { stood := { row := frameLinearUptoRow, standIns := [], harness := (true, "d75258cd9ff8cca17ce00de567abda14bcd2f7fd67318f6b8bc6f4c557870e12"), looks := false }, kinds := [], alts := [], laidByText := true, laidKinds := [.data], laidTests := true, laidLooks := .later }
def FrameLinearUptoCardSaid : Prop := Claim7.holds Tryd.pinned (.plain (OpenSpec.upto frameLinearSpec)) frameLinearUptoCard

/-- THE SECOND FORM's CARD OF 'eddylaw1.FrameWraps'. -/
def frameWrapsUptoCard : Claim7 := { stood := { row := frameWrapsUptoRow, standIns := [], harness := (true, "d75258cd9ff8cca17ce00de567abda14bcd2f7fd67318f6b8bc6f4c557870e12"), looks := false }, kinds := [], alts := [], laidByText := true, laidKinds := [.data], laidTests := true, laidLooks := .later }
def FrameWrapsUptoCardSaid : Prop := Claim7.holds Tryd.pinned (.plain (OpenSpec.upto frameWrapsSpec)) frameWrapsUptoCard

/-- THE SECOND FORM's CARD OF 'eddylaw1.FrameUnwraps'. -/
def frameUnwrapsUptoCard : Claim7 := { stood := { row := frameUnwrapsUptoRow, standIns := [], harness := (true, "d75258cd9ff8cca17ce00de567abda14bcd2f7fd67318f6b8bc6f4c557870e12"), looks := false }, kinds := [], alts := [], laidByText := true, laidKinds := [.data], laidTests := true, laidLooks := .later }
def FrameUnwrapsUptoCardSaid : Prop := Claim7.holds Tryd.pinned (.plain (OpenSpec.upto frameUnwrapsSpec)) frameUnwrapsUptoCard

/-- THE SECOND FORM's CARD OF 'eddylaw1.FrameExacts'. -/
def frameExactsUptoCard : Claim7 := { stood := { row := frameExactsUptoRow, standIns := [], harness := (true, "d75258cd9ff8cca17ce00de567abda14bcd2f7fd67318f6b8bc6f4c557870e12"), looks := false }, kinds := [], alts := [], laidByText := true, laidKinds := [.data], laidTests := true, laidLooks := .later }
def FrameExactsUptoCardSaid : Prop := Claim7.holds Tryd.pinned (.plain (OpenSpec.upto frameExactsSpec)) frameExactsUptoCard

/-- THE SECOND FORM's CARD OF 'eddylaw1.FrameScans'. -/
def frameScansUptoCard : Claim7 := { stood := { row := frameScansUptoRow, standIns := [], harness := (true, "d75258cd9ff8cca17ce00de567abda14bcd2f7fd67318f6b8bc6f4c557870e12"), looks := false }, kinds := [], alts := [], laidByText := true, laidKinds := [.data], laidTests := true, laidLooks := .later }
def FrameScansUptoCardSaid : Prop := Claim7.holds Tryd.pinned (.plain (OpenSpec.upto frameScansSpec)) frameScansUptoCard

/-- THE SECOND FORM's CARD OF 'eddylaw1.FrameJoin'. -/
def frameJoinUptoCard : Claim7 := { stood := { row := frameJoinUptoRow, standIns := [], harness := (true, "d75258cd9ff8cca17ce00de567abda14bcd2f7fd67318f6b8bc6f4c557870e12"), looks := false }, kinds := [], alts := [], laidByText := true, laidKinds := [.data], laidTests := true, laidLooks := .later }
def FrameJoinUptoCardSaid : Prop := Claim7.holds Tryd.pinned (.plain (OpenSpec.upto frameJoinSpec)) frameJoinUptoCard

/-- THE SECOND FORM's CARD OF 'eddylaw1.FrameWalk'. -/
def frameWalkUptoCard : Claim7 := { stood := { row := frameWalkUptoRow, standIns := [], harness := (true, "d75258cd9ff8cca17ce00de567abda14bcd2f7fd67318f6b8bc6f4c557870e12"), looks := false }, kinds := [], alts := [], laidByText := true, laidKinds := [.data], laidTests := true, laidLooks := .later }
def FrameWalkUptoCardSaid : Prop := Claim7.holds Tryd.pinned (.plain (OpenSpec.upto frameWalkSpec)) frameWalkUptoCard

/-- THE SECOND FORM's CARD OF 'eddylaw1.FrameFlip'. -/
def frameFlipUptoCard : Claim7 := { stood := { row := frameFlipUptoRow, standIns := [], harness := (true, "d75258cd9ff8cca17ce00de567abda14bcd2f7fd67318f6b8bc6f4c557870e12"), looks := false }, kinds := [], alts := [], laidByText := true, laidKinds := [.data], laidTests := true, laidLooks := .later }
def FrameFlipUptoCardSaid : Prop := Claim7.holds Tryd.pinned (.plain (OpenSpec.upto frameFlipSpec)) frameFlipUptoCard

/-- THE SECOND FORM's CARD OF 'eddylaw1.FrameBurst'. -/
def frameBurstUptoCard : Claim7 := { stood := { row := frameBurstUptoRow, standIns := [], harness := (true, "d75258cd9ff8cca17ce00de567abda14bcd2f7fd67318f6b8bc6f4c557870e12"), looks := false }, kinds := [], alts := [], laidByText := true, laidKinds := [.data], laidTests := true, laidLooks := .later }
def FrameBurstUptoCardSaid : Prop := Claim7.holds Tryd.pinned (.plain (OpenSpec.upto frameBurstSpec)) frameBurstUptoCard

/-- THE SECOND FORM's CARD OF 'eddylaw1.FrameBack'. -/
def frameBackUptoCard : Claim7 := { stood := { row := frameBackUptoRow, standIns := [], harness := (true, "d75258cd9ff8cca17ce00de567abda14bcd2f7fd67318f6b8bc6f4c557870e12"), looks := false }, kinds := [], alts := [], laidByText := true, laidKinds := [.data], laidTests := true, laidLooks := .later }
def FrameBackUptoCardSaid : Prop := Claim7.holds Tryd.pinned (.plain (OpenSpec.upto frameBackSpec)) frameBackUptoCard

/-- THE SECOND FORM's CARD OF 'eddylaw1.FrameTorn'. -/
def frameTornUptoCard : Claim7 := { stood := { row := frameTornUptoRow, standIns := [], harness := (true, "d75258cd9ff8cca17ce00de567abda14bcd2f7fd67318f6b8bc6f4c557870e12"), looks := false }, kinds := [], alts := [], laidByText := true, laidKinds := [.data], laidTests := true, laidLooks := .later }
def FrameTornUptoCardSaid : Prop := Claim7.holds Tryd.pinned (.plain (OpenSpec.upto frameTornSpec)) frameTornUptoCard

/-- THE SECOND FORM's CARD OF 'eddylaw1.FramePlays'. -/
def framePlaysUptoCard : Claim7 := { stood := { row := framePlaysUptoRow, standIns := [], harness := (true, "d75258cd9ff8cca17ce00de567abda14bcd2f7fd67318f6b8bc6f4c557870e12"), looks := false }, kinds := [], alts := [], laidByText := true, laidKinds := [.data], laidTests := true, laidLooks := .later }
def FramePlaysUptoCardSaid : Prop := Claim7.holds Tryd.pinned (.plain (OpenSpec.upto framePlaysSpec)) framePlaysUptoCard

/-- THE SECOND FORM's CARD OF 'eddylaw1.FrameApart'. -/
def frameApartUptoCard : Claim7 := { stood := { row := frameApartUptoRow, standIns := [], harness := (true, "d75258cd9ff8cca17ce00de567abda14bcd2f7fd67318f6b8bc6f4c557870e12"), looks := false }, kinds := [], alts := [], laidByText := true, laidKinds := [.data], laidTests := true, laidLooks := .later }
def FrameApartUptoCardSaid : Prop := Claim7.holds Tryd.pinned (.plain (OpenSpec.upto frameApartSpec)) frameApartUptoCard
end Rows
end Go.Proofs.YtgfinjhhkmflfaaDoor
