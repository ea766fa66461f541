/- One disk: works; a disk without files made; conditions: those in each theorem. -/
import Derived.Test.YtfholpajdkjbbaaQeLj
namespace Go.Proofs.Ytfholpajdkjbbaa.DK
open Go.Proofs.Ytfholpajdkjbbaa.PD
open Go.RowKit Go.Proofs.YtfholpajdkjbbaaW.PrintWords Go.Proofs.YtfholpajdkjbbaaW.PrintLast Go.Proofs.YtfholpajdkjbbaaW.PrintMore Go.Proofs.Ytfholpajdkjbbaa.Mo
set_option linter.unusedVariables false
set_option linter.unusedSimpArgs false
theorem lit_C {w : World} {k : Nat} {l : List Int} (h : w.heap[k]? = some (.cells (l.map fun x => Value.int .u8 x).toArray 5 (0, 0))) (hl : l.length ≤ 1000) : (Kd.int .u8).C w (some ⟨k, 0, none⟩) l.length l := by
  refine Kd.C_of_reads (d := (0 : Int)) (h1 := fun _ => rfl) ⟨rfl, Nat.le_trans hl (by decide), fun hn => ?_⟩
  refine ⟨_, rfl, fun j hj => ?_⟩
  have := blk_cell h j
  rw [show (⟨k, 0, none⟩ : Addr).add j = ⟨k, j, none⟩ by simp [Addr.add]; exact fun h => h.symm]
  rw [this]
  simp [List.getD_eq_getElem?_getD, hj]
end Go.Proofs.Ytfholpajdkjbbaa.DK
