/- Parts R5, R6, R7, R8, R9, Ra, Rb, Rc of this work, in one text. -/
import Derived.Test.YtfholpajdkjbbaaQdGc
import Derived.Test.YtfholpajdkjbbaaQdGb
import Derived.Test.YtfholpajdkjbbaaQdPa
/- The reference's disk: Read; conditions: those in each theorem. -/
namespace Go.Proofs.Ytfholpajdkjbbaa.DK
open Go.Proofs.Ytfholpajdkjbbaa.PD
open Go.RowKit Go.Proofs.YtfholpajdkjbbaaW.PrintWords Go.Proofs.YtfholpajdkjbbaaW.PrintLast Go.Proofs.YtfholpajdkjbbaaW.PrintMore Go.Proofs.Ytfholpajdkjbbaa.Mo
set_option linter.unusedVariables false
set_option linter.unusedSimpArgs false
end Go.Proofs.Ytfholpajdkjbbaa.DK
/- The reference's disk: List, Files; conditions: those in each theorem. -/
namespace Go.Proofs.Ytfholpajdkjbbaa.DK
open Go.Proofs.Ytfholpajdkjbbaa.PD
open Go.RowKit Go.Proofs.YtfholpajdkjbbaaW.PrintWords Go.Proofs.YtfholpajdkjbbaaW.PrintLast Go.Proofs.YtfholpajdkjbbaaW.PrintMore Go.Proofs.Ytfholpajdkjbbaa.Mo
set_option linter.unusedVariables false
set_option linter.unusedSimpArgs false
end Go.Proofs.Ytfholpajdkjbbaa.DK
/- The reference's disk: Files; conditions: those in each theorem. -/
namespace Go.Proofs.Ytfholpajdkjbbaa.DK
open Go.Proofs.Ytfholpajdkjbbaa.PD
open Go.RowKit Go.Proofs.YtfholpajdkjbbaaW.PrintWords Go.Proofs.YtfholpajdkjbbaaW.PrintLast Go.Proofs.YtfholpajdkjbbaaW.PrintMore Go.Proofs.Ytfholpajdkjbbaa.Mo
set_option linter.unusedVariables false
set_option linter.unusedSimpArgs false
end Go.Proofs.Ytfholpajdkjbbaa.DK
/- The reference's disk: put; conditions: those in each theorem. -/
namespace Go.Proofs.Ytfholpajdkjbbaa.DK
open Go.Proofs.Ytfholpajdkjbbaa.PD
open Go.RowKit Go.Proofs.YtfholpajdkjbbaaW.PrintWords Go.Proofs.YtfholpajdkjbbaaW.PrintLast Go.Proofs.YtfholpajdkjbbaaW.PrintMore Go.Proofs.Ytfholpajdkjbbaa.Mo
set_option linter.unusedVariables false
set_option linter.unusedSimpArgs false
theorem FileAt.below {w w' : World} {p : Nat} {X : Nat → Prop} {s : St} {av : Sl} {rv : Bool → ByteArray → Sl} {a : Int} {i : Nat} {f : F} {g cav : Nat} {A1 : Option Addr} {c1 : Nat} {A2 : Option Addr} {c2 : Nat} (h : FileAt w p X s av rv a i f g cav A1 c1 A2 c2) (hb : Below w.heap.size w w') : FileAt w' p X s av rv a i f g cav A1 c1 A2 c2 :=
  have hc : ∀ o, w'.cell? ⟨g, o, none⟩ = w.cell? ⟨g, o, none⟩ := fun o => World.cell?_of_block (hb.block g h.lt)
  have hf : ∀ o, w'.frozen? ⟨g, o, none⟩ = w.frozen? ⟨g, o, none⟩ := fun o => World.frozen?_of_block (hb.block g h.lt)
  ⟨h.disk.upd (Upd.of_below hb (fun _ => False)) (fun _ _ h => h), h.hi, h.hf, h.hA, h.hav, h.ne, Nat.lt_of_lt_of_le h.lt hb.size, h.s1, h.s2, h.l1, h.l2, Kd.R_below h.r1 hb, Kd.R_below h.r2 hb, Kd.C_below h.q1 hb, Kd.C_below h.q2 hb, h.di, blk_upd h.head (Upd.of_below hb (fun _ => False)) (fun h => h),
    (hc _).trans h.k0, (hc _).trans h.k1, (hc _).trans h.k2, (hf _).trans h.f0, (hf _).trans h.f1, (hf _).trans h.f2⟩
end Go.Proofs.Ytfholpajdkjbbaa.DK
/- The reference's disk: a file put in, one taken out; conditions: those in each theorem. -/
namespace Go.Proofs.Ytfholpajdkjbbaa.DK
open Go.Proofs.Ytfholpajdkjbbaa.PD
open Go.RowKit Go.Proofs.YtfholpajdkjbbaaW.PrintWords Go.Proofs.YtfholpajdkjbbaaW.PrintLast Go.Proofs.YtfholpajdkjbbaaW.PrintMore Go.Proofs.Ytfholpajdkjbbaa.Mo
set_option linter.unusedVariables false
set_option linter.unusedSimpArgs false
end Go.Proofs.Ytfholpajdkjbbaa.DK
/- The reference's disk: Remove; conditions: those in each theorem. -/
namespace Go.Proofs.Ytfholpajdkjbbaa.DK
open Go.Proofs.Ytfholpajdkjbbaa.PD
open Go.RowKit Go.Proofs.YtfholpajdkjbbaaW.PrintWords Go.Proofs.YtfholpajdkjbbaaW.PrintLast Go.Proofs.YtfholpajdkjbbaaW.PrintMore Go.Proofs.Ytfholpajdkjbbaa.Mo
set_option linter.unusedVariables false
set_option linter.unusedSimpArgs false
end Go.Proofs.Ytfholpajdkjbbaa.DK
/- The reference's disk: Trim; conditions: those in each theorem. -/
namespace Go.Proofs.Ytfholpajdkjbbaa.DK
open Go.Proofs.Ytfholpajdkjbbaa.PD
open Go.RowKit Go.Proofs.YtfholpajdkjbbaaW.PrintWords Go.Proofs.YtfholpajdkjbbaaW.PrintLast Go.Proofs.YtfholpajdkjbbaaW.PrintMore Go.Proofs.Ytfholpajdkjbbaa.Mo
set_option linter.unusedVariables false
set_option linter.unusedSimpArgs false
end Go.Proofs.Ytfholpajdkjbbaa.DK
/- The reference's disk: Append; conditions: those in each theorem. -/
namespace Go.Proofs.Ytfholpajdkjbbaa.DK
open Go.Proofs.Ytfholpajdkjbbaa.PD
open Go.RowKit Go.Proofs.YtfholpajdkjbbaaW.PrintWords Go.Proofs.YtfholpajdkjbbaaW.PrintLast Go.Proofs.YtfholpajdkjbbaaW.PrintMore Go.Proofs.Ytfholpajdkjbbaa.Mo
set_option linter.unusedVariables false
set_option linter.unusedSimpArgs false
def laid (nm : ByteArray) (data : List Int) (l : List F) : List F := upd nm (fun f => { f with loose := f.loose ++ data }) l
structure Lays (w2 wr : World) (p : Nat) (X : Nat → Prop) (s2 : St) (nm : ByteArray) (data : List Int) (n j : Nat) : Prop where
  le : j ≤ n
  st : RStep p X w2 wr { s2 with all := laid nm (data.take j) s2.all }
end Go.Proofs.Ytfholpajdkjbbaa.DK
