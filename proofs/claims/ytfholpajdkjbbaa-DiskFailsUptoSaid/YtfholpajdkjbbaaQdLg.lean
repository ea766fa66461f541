/- The law's pair of disks behind one call: plays; conditions: those in each theorem. -/
import Derived.Test.YtfholpajdkjbbaaQdLe
namespace Go.Proofs.Ytfholpajdkjbbaa.DK
open Go.Proofs.Ytfholpajdkjbbaa.PD
open Go.RowKit Go.Proofs.YtfholpajdkjbbaaW.PrintWords Go.Proofs.YtfholpajdkjbbaaW.PrintLast Go.Proofs.YtfholpajdkjbbaaW.PrintMore Go.Proofs.Ytfholpajdkjbbaa.Mo
set_option linter.unusedVariables false
set_option linter.unusedSimpArgs false
theorem Pair.mono {w : World} {b : Nat} {Y Z : Nat → Prop} {s : St} (h : Pair w b Z s) (hy : ∀ k, Z k → Y k) (hb : ∀ k, Y k → k < w.heap.size) (hn : ¬ Y b) : Pair w b Y s := by
  obtain ⟨p1, p2, X1, X2, h1, h2, h3, h4, h5⟩ := h.disks
  exact ⟨hb, hn, p1, p2, X1, X2, h1, h2, h3, h4, fun k hk => hy k (h5 k hk)⟩
theorem PairStep.early {w w1 w' : World} {b : Nat} {Z : Nat → Prop} {s : St} (hs : PairStep b Z w1 w' s) (hb : Below w.heap.size w w1) (hlt : b < w.heap.size) (hz : ∀ k, Z k → k < w.heap.size) (hn : ¬ Z b) : PairStep b Z w w' s :=
  have hu : Upd Z w w' := (Upd.of_below hb Z).seq (hs.2.mono (fun _ _ h => .inl h))
  ⟨hs.1.mono (fun k hk => hk.elim .inl (fun h => .inr ⟨Nat.le_trans hb.size h.1, h.2⟩)) (fun k hk => hk.elim (fun h => Nat.lt_of_lt_of_le (hz k h) hu.size) (fun h => h.2)) (fun h => h.elim hn (fun h => absurd hlt (Nat.not_lt.2 h.1))), hu⟩
end Go.Proofs.Ytfholpajdkjbbaa.DK
