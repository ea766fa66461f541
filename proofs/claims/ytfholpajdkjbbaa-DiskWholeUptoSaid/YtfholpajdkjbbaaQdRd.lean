/- The reference's disk: Append; conditions: those in each theorem. -/
import Derived.Test.YtfholpajdkjbbaaQdGd
namespace Go.Proofs.Ytfholpajdkjbbaa.DK
open Go.Proofs.Ytfholpajdkjbbaa.PD
open Go.RowKit Go.Proofs.YtfholpajdkjbbaaW.PrintWords Go.Proofs.YtfholpajdkjbbaaW.PrintLast Go.Proofs.YtfholpajdkjbbaaW.PrintMore Go.Proofs.Ytfholpajdkjbbaa.Mo
set_option linter.unusedVariables false
set_option linter.unusedSimpArgs false
theorem FileAt.x2 {w : World} {p : Nat} {X : Nat → Prop} {s : St} {av : Sl} {rv : Bool → ByteArray → Sl} {a : Int} {i : Nat} {f : F} {g cav : Nat} {A1 : Option Addr} {c1 : Nat} {A2 : Option Addr} {c2 : Nat} (h : FileAt w p X s av rv a i f g cav A1 c1 A2 c2) {k : Nat} (hk : (Value.slice A2 f.loose.length c2).ownBlock = some k) : X k :=
  h.disk.files.xr _ (List.getElem_mem h.hi) true k (by rw [h.hf h.hi, h.s2]; exact hk)
end Go.Proofs.Ytfholpajdkjbbaa.DK
