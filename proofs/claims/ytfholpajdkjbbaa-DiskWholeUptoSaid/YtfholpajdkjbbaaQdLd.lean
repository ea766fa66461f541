/- The law's pair of disks behind one call: words; the changing calls; conditions: those in each theorem. -/
import Derived.Test.YtfholpajdkjbbaaQdLc
import Derived.Test.YtfholpajdkjbbaaQdOa
import Derived.Test.YtfholpajdkjbbaaQdRd
import Derived.Test.YtfholpajdkjbbaaQdGc
import Derived.Test.YtfholpajdkjbbaaQdPb
namespace Go.Proofs.Ytfholpajdkjbbaa.DK
open Go.Proofs.Ytfholpajdkjbbaa.PD
open Go.RowKit Go.Proofs.YtfholpajdkjbbaaW.PrintWords Go.Proofs.YtfholpajdkjbbaaW.PrintLast Go.Proofs.YtfholpajdkjbbaaW.PrintMore Go.Proofs.Ytfholpajdkjbbaa.Mo
set_option linter.unusedVariables false
set_option linter.unusedSimpArgs false
/-- Since w0 two disks apart from one another have come to s1 and s2, in blocks of Z and new ones. -/
def Tr (w0 w : World) (p1 p2 : Nat) (Z : Nat → Prop) (s1 s2 : St) : Prop :=
  Upd Z w0 w ∧ ∃ X1 X2, Prog w p1 X1 s1 ∧ RefD w p2 X2 s2 ∧ (∀ k, X1 k → ¬ X2 k) ∧ ∀ k, X1 k ∨ X2 k → More Z w0 w k
theorem Tr.below {w0 w w' : World} {p1 p2 : Nat} {Z : Nat → Prop} {s1 s2 : St} (h : Tr w0 w p1 p2 Z s1 s2) (hb : Below w.heap.size w w') : Tr w0 w' p1 p2 Z s1 s2 := by
  obtain ⟨hu, X1, X2, hP, hR, ha, hz⟩ := h
  exact ⟨hu.seq (Upd.of_below hb _), X1, X2, hP.below hb, hR.below hb, ha, fun k hk => (hz k hk).elim .inl (fun h => .inr ⟨h.1, Nat.lt_of_lt_of_le h.2 hb.size⟩)⟩
/-- The pair at b holds two disks of one state, in blocks of Z. -/
structure Pair (w : World) (b : Nat) (Z : Nat → Prop) (s : St) : Prop where
  bd : ∀ k, Z k → k < w.heap.size
  nb : ¬ Z b
  disks : ∃ p1 p2 X1 X2, w.heap[b]? = some (.cells #[.pointer (some ⟨p1, 0, none⟩), .pointer (some ⟨p2, 0, none⟩)] 28 (0, 0)) ∧ Prog w p1 X1 s ∧ RefD w p2 X2 s ∧ (∀ k, X1 k → ¬ X2 k) ∧ ∀ k, X1 k ∨ X2 k → Z k
theorem Pair.lt {w : World} {b : Nat} {Z : Nat → Prop} {s : St} (h : Pair w b Z s) : b < w.heap.size := by
  obtain ⟨p1, p2, X1, X2, hb, _⟩ := h.disks
  exact blk_lt hb
theorem Pair.upd {w w' : World} {b : Nat} {Y Z : Nat → Prop} {s : St} (h : Pair w b Z s) (hu : Upd Y w w') (hy : ∀ k, Z k → ¬ Y k) (hb : ¬ Y b) : Pair w' b Z s := by
  obtain ⟨p1, p2, X1, X2, hc, hP, hR, ha, hz⟩ := h.disks
  exact ⟨fun k hk => Nat.lt_of_lt_of_le (h.bd k hk) hu.size, h.nb, p1, p2, X1, X2, blk_upd hc hu hb, hP.upd hu (fun k hk => hy k (hz k (.inl hk))), hR.upd hu (fun k hk => hy k (hz k (.inr hk))), ha, hz⟩
theorem Pair.below {w w' : World} {b : Nat} {Z : Nat → Prop} {s : St} (h : Pair w b Z s) (hb : Below w.heap.size w w') : Pair w' b Z s :=
  h.upd (Upd.of_below hb (fun _ => False)) (fun _ _ h => h) (fun h => h)
/-- One call of both. -/
def PairStep (b : Nat) (Z : Nat → Prop) (w w' : World) (s : St) : Prop := Pair w' b (More Z w w') s ∧ Upd Z w w'
/-- A pair, opened; new blocks may have come since. -/
theorem Pair.open_ {w w0 : World} {b : Nat} {Z : Nat → Prop} {s : St} (h : Pair w b Z s) (hb0 : Below w.heap.size w w0) :
    ∃ p1 p2, Tr w0 w0 p1 p2 Z s s ∧ ∀ w' s', Upd Z w0 w' → w'.heap[b]? = some (.cells #[.pointer (some ⟨p1, 0, none⟩), .pointer (some ⟨p2, 0, none⟩)] 28 (0, 0)) ∧ (Tr w0 w' p1 p2 Z s' s' → PairStep b Z w w' s') := by
  have hlt := h.lt
  obtain ⟨p1, p2, X1, X2, hc, hP, hR, ha, hz⟩ := h.disks
  refine ⟨p1, p2, ⟨Upd.refl _ _, X1, X2, hP.below hb0, hR.below hb0, ha, fun k hk => .inl (hz k hk)⟩, fun w' s' hu => ?_⟩
  have hc' := blk_upd (blk_upd hc (Upd.of_below hb0 (fun _ => False)) (fun h => h)) hu h.nb
  refine ⟨hc', fun ht => ?_⟩
  obtain ⟨_, Y1, Y2, hP', hR', ha', hz'⟩ := ht
  have hU : Upd Z w w' := (Upd.of_below hb0 Z).seq (hu.mono (fun _ _ hk => .inl hk))
  refine ⟨⟨fun k hk => hk.elim (fun hk => Nat.lt_of_lt_of_le (h.bd k hk) hU.size) (fun hk => hk.2), fun hk => hk.elim h.nb (fun hk => absurd hlt (Nat.not_lt.2 hk.1)), p1, p2, Y1, Y2, hc', hP', hR', ha', fun k hk => ?_⟩, hU⟩
  exact (hz' k hk).elim .inl (fun hk => .inr ⟨Nat.le_trans hb0.size hk.1, hk.2⟩)
/-- The op's lists, in memory older than B. -/
structure OpIn (w : World) (B : Nat) (bs : List Int) (A5 : Option Addr) (c5 : Nat) (ks : List Int) (A6 : Option Addr) (c6 : Nat) : Prop where
  l5 : bs.length ≤ c5
  l6 : ks.length ≤ c6
  r5 : ∀ w', Below B w w' → (Kd.int .u8).C w' A5 bs.length bs
  r6 : ∀ w', Below B w w' → (Kd.int .i64).C w' A6 ks.length ks
theorem OpIn.below {w w' : World} {B : Nat} {bs : List Int} {A5 : Option Addr} {c5 : Nat} {ks : List Int} {A6 : Option Addr} {c6 : Nat} (h : OpIn w B bs A5 c5 ks A6 c6) (hb : Below B w w') : OpIn w' B bs A5 c5 ks A6 c6 :=
  ⟨h.l5, h.l6, fun w2 h2 => h.r5 w2 (hb.trans h2), fun w2 h2 => h.r6 w2 (hb.trans h2)⟩
end Go.Proofs.Ytfholpajdkjbbaa.DK
