/- The law's pair of disks behind one call: Read, List, Files; conditions: those in each theorem. -/
import Derived.Test.YtfholpajdkjbbaaQdLd
namespace Go.Proofs.Ytfholpajdkjbbaa.DK
open Go.Proofs.Ytfholpajdkjbbaa.PD
open Go.RowKit Go.Proofs.YtfholpajdkjbbaaW.PrintWords Go.Proofs.YtfholpajdkjbbaaW.PrintLast Go.Proofs.YtfholpajdkjbbaaW.PrintMore Go.Proofs.Ytfholpajdkjbbaa.Mo
set_option linter.unusedVariables false
set_option linter.unusedSimpArgs false
theorem same_same (w : World) (A0 : Option Addr) (c0 : Nat) (l : List Int) (A1 : Option Addr) (c1 : Nat) (hr0 : (Kd.int .u8).C w A0 l.length l) (hc0 : l.length ≤ c0) (hr1 : (Kd.int .u8).C w A1 l.length l) (hc1 : l.length ≤ c1) (h0 : l.length < 2 ^ 62) :
    Calls Try.prog 37 #[.slice A0 l.length c0, .slice A1 l.length c1] w fun e w' => e = .returned (.bool true) ∧ Drawn0 w w' := by
  obtain ⟨k, hk⟩ := Ev.rounds (same_f l l h0)
  rw [decide_eq_true rfl] at hk
  exact PD.eddylaw10_same.calls k A0 c0 l A1 c1 l _ w hr0 hc0 hr1 hc1 hk
theorem read_small {s : St} (ok : Ok s) (nm : ByteArray) : (s.read nm).1.length < 2 ^ 62 := by
  unfold St.read
  split
  · simp
  · cases h : find s.all nm with
    | none => simp
    | some f =>
      have := ok.small f (find_some h).1
      show f.data.length < _
      rw [data_length]
      omega
end Go.Proofs.Ytfholpajdkjbbaa.DK
