/- What a row's opening gives of an argument []api.File: the words' kind, its length, its numbers, how great its bytes are; conditions: the row's own. -/
import Derived.Test.YtfholpajdkjbbaaQeLb
import Derived.Test.YtfholpajdkjbbaaRows
import Derived.ChangeSame
import Derived.Deep.SlicePairs
namespace Go.Proofs.Ytfholpajdkjbbaa.DK
open Go.Proofs.Ytfholpajdkjbbaa.PD
open Go.ChangeShapes Go.WideShapes Go.Deep Go.Proofs.YtfholpajdkjbbaaW.PrintWords
instance : Inhabited S67 := ⟨z67⟩
theorem ints_of_cells {k : IntKind} {w : World} {a : Option Addr} {len cap : Nat} {zs : List Int} (hl : len ≤ cap) (hm : cap ≤ maxLen) (hz : zs.length = cap) (ha : a = none → cap = 0)
    (hc : ∀ a', a = some a' → ∀ c, c < cap → w.cell? (a'.add c) = some (.int k (zs.getD c 0))) : (Kd.int k).C w a len (zs.take len) := by
  refine Kd.C_of_reads (d := (0 : Int)) (h1 := fun _ => rfl) ⟨by simp; omega, Nat.le_trans hl hm, fun hn => ?_⟩
  cases a with
  | none => exact absurd (ha rfl) (by omega)
  | some a' =>
    refine ⟨a', rfl, fun j hj => ?_⟩
    rw [hc a' rfl j (by omega)]
    simp [List.getD_eq_getElem?_getD, hj]
theorem bulk_lits {H : Type} (k : IntKind) : ∀ zs : List Int, Rows.uptoBulkAll (lits (H := H) k zs) = zs.length
  | [] => rfl
  | z :: zs => by
    show 1 + Rows.uptoBulkAll (lits (H := H) k zs) = _
    rw [bulk_lits k zs, List.length_cons]
    omega
end Go.Proofs.Ytfholpajdkjbbaa.DK
