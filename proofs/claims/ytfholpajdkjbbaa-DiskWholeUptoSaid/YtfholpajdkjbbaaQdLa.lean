/- The law's pair of disks: begin; conditions: those in each theorem. -/
import Derived.Test.YtfholpajdkjbbaaQdGd
import Derived.Test.YtfholpajdkjbbaaQdGa
import Derived.Test.YtfholpajdkjbbaaQdPa
namespace Go.Proofs.Ytfholpajdkjbbaa.DK
open Go.Proofs.Ytfholpajdkjbbaa.PD
open Go.RowKit Go.Proofs.YtfholpajdkjbbaaW.PrintWords Go.Proofs.YtfholpajdkjbbaaW.PrintLast Go.Proofs.YtfholpajdkjbbaaW.PrintMore Go.Proofs.Ytfholpajdkjbbaa.Mo
set_option linter.unusedVariables false
set_option linter.unusedSimpArgs false
/-- The pair at b holds two disks of one state, apart from one another. -/
structure Both (w : World) (b : Nat) (X1 X2 : Nat → Prop) (s : St) : Prop where
  disks : ∃ p1 p2, w.heap[b]? = some (.cells #[.pointer (some ⟨p1, 0, none⟩), .pointer (some ⟨p2, 0, none⟩)] 28 (0, 0)) ∧ Prog w p1 X1 s ∧ RefD w p2 X2 s
  ap : ∀ k, X1 k → ¬ X2 k
  n1 : ¬ X1 b
  n2 : ¬ X2 b
theorem num_calls (w : World) (a : Int) : Calls Try.prog 21 #[.int .i64 a] w fun e w' => e = .returned (.int .i64 a) ∧ Drawn0 w w' := PD.eddylaw10_num.calls a a w rfl
theorem copyFiles_calls (w : World) (A : Option Addr) (c : Nat) (l : List S67) (hr : k67.C w A l.length l) (hc : l.length ≤ c) (hl : l.length < 2 ^ 40) (hd : ∀ x ∈ l, x.f1.length ≤ 2 ^ 40) :
    Calls Try.prog 33 #[.slice A l.length c] w fun e w' => ∃ A' c', e = .returned (.slice A' l.length c') ∧ l.length ≤ c' ∧ k67.C w' A' l.length l ∧ Below w.heap.size w w' := by
  obtain ⟨k, hk⟩ := Ev.rounds (copyFiles_f l hl (fun x hx => by have := hd x hx; omega))
  refine (PD.eddylaw10_copyFiles.calls k A c l l w hr hc hk).mono ?_
  rintro e w' ⟨v, rfl, h, hb⟩
  obtain ⟨A', c', rfl, h1, h2⟩ := Kd.S_reads h
  exact ⟨A', c', rfl, h1, h2, hb⟩
end Go.Proofs.Ytfholpajdkjbbaa.DK
