/- upTo: every call of a script is played; conditions: those in each theorem. -/
import Derived.Test.YtfholpajdkjbbaaQeLg
namespace Go.Proofs.Ytfholpajdkjbbaa.DK
open Go.Proofs.Ytfholpajdkjbbaa.PD
open Go.RowKit Go.Proofs.YtfholpajdkjbbaaW.PrintWords Go.Proofs.YtfholpajdkjbbaaW.PrintLast Go.Proofs.YtfholpajdkjbbaaW.PrintMore Go.Proofs.Ytfholpajdkjbbaa.Mo
set_option linter.unusedVariables false
set_option linter.unusedSimpArgs false
/-- What a script's op must be. -/
structure GoodK (o : S41) : Prop where
  g : Mo.Good o
  k : o.f6.length ≤ 2 ^ 40
theorem Both.pair {w : World} {b : Nat} {X1 X2 : Nat → Prop} {s : St} (h : Both w b X1 X2 s) : Pair w b (fun k => X1 k ∨ X2 k) s := by
  obtain ⟨p1, p2, hb, hP, hR⟩ := h.disks
  exact ⟨fun k hk => hk.elim (hP.bd k) (hR.bd k), fun hk => hk.elim h.n1 h.n2, p1, p2, X1, X2, hb, hP, hR, h.ap, fun _ h => h⟩
theorem cell_old {w w1 : World} (hb : Below w.heap.size w w1) {a : Addr} {v : Value} (h : w.cell? a = some v) : w1.cell? a = some v :=
  (hb.cell (World.block_lt_of_cell? w a h)).trans h
/-- An op of the script, as memory has it. -/
theorem op_at {w : World} {A : Option Addr} {ops : List S41} (h : Kd.C k41 w A ops.length ops) {i : Nat} (hi : i < ops.length) : ∃ ad A5 c5 A6 c6, A = some ad ∧
    (∀ wr, Below w.heap.size w wr → wr.cell? (ad.add (i * 7)) = some (.int .i64 ops[i].f0) ∧ wr.cell? ⟨(ad.add (i * 7)).block, (ad.add (i * 7)).off + 1, none⟩ = some (.int .i64 ops[i].f1) ∧ wr.cell? ⟨(ad.add (i * 7)).block, (ad.add (i * 7)).off + 2, none⟩ = some (.string ops[i].f2) ∧ wr.cell? ⟨(ad.add (i * 7)).block, (ad.add (i * 7)).off + 3, none⟩ = some (.int .i64 ops[i].f3) ∧ wr.cell? ⟨(ad.add (i * 7)).block, (ad.add (i * 7)).off + 4, none⟩ = some (.int .i64 ops[i].f4) ∧ wr.cell? ⟨(ad.add (i * 7)).block, (ad.add (i * 7)).off + 5, none⟩ = some (.slice A5 ops[i].f5.length c5) ∧ wr.cell? ⟨(ad.add (i * 7)).block, (ad.add (i * 7)).off + 6, none⟩ = some (.slice A6 ops[i].f6.length c6)) ∧
    ∀ wr, Below w.heap.size w wr → OpIn wr w.heap.size ops[i].f5 A5 c5 ops[i].f6 A6 c6 := by
  have h1 := at_T41 h (i : Int) (by omega) (by omega)
  rw [rd41_nat ops i hi] at h1
  obtain ⟨ad, A5, c5, A6, c6, e, c0, c1, c2, c3, c4, cc5, cc6, l5, g5, l6, g6⟩ := h1
  simp only [Int.toNat_natCast] at c0 c1 c2 c3 c4 cc5 cc6
  exact ⟨ad, A5, c5, A6, c6, e, fun wr hb => ⟨cell_old hb c0, cell_old hb c1, cell_old hb c2, cell_old hb c3, cell_old hb c4, cell_old hb cc5, cell_old hb cc6⟩,
    fun wr hb => ⟨l5, l6, fun w' h2 => Kd.C_below g5 (hb.trans h2), fun w' h2 => Kd.C_below g6 (hb.trans h2)⟩⟩
end Go.Proofs.Ytfholpajdkjbbaa.DK
