/- What it is that the table of the package frame lies in memory as its initialiser lays it, told as a kind of element that is read; conditions: none (definitions and their small laws). -/
import Derived.Test.YtgfinjhhkmflfaaDoorProg
import Derived.Test.YtgfinjhhkmflfaaDoorWWords
namespace Go.Proofs.YtgfinjhhkmflfaaDoor.PF
open Go.RowKit Go.Proofs.YtgfinjhhkmflfaaDoorW.PrintWords
def halfL : List Int := [0, 498536548, 997073096, 651767980, 1994146192, 1802195444, 1303535960, 1342533948, 3988292384, 4027552580, 3604390888, 3412177804, 2607071920, 2262029012, 2685067896, 3183342108]
/-- The variable 'half' (block 0) holds the table. -/
def TabAt (w : World) : Prop := ∀ i, i < 16 → w.cell? ⟨0, i, none⟩ = some (.int .u32 (halfL.getD i 0))
theorem TabAt.below {w w1 : World} (h : TabAt w) (hb : Below w.heap.size w w1) : TabAt w1 := fun i hi => pw_cell_below hb (h i hi)
/-- A ghost: an element that is read only where the table lies. -/
def kTab : Kd Int where
  sz := 1
  E := []
  K := fun w x cs => cs = [.int .u32 x] ∧ TabAt w
  M := fun _ _ _ _ _ => False
  K_len := fun h => by rw [h.1]; rfl
  K_one := fun h u hu => by
    rw [h.1] at hu
    rw [List.mem_singleton.1 hu]
    rfl
  K_below := fun hb h => ⟨h.1, h.2.below hb⟩
  K_of_M := fun h => h.elim
  M_mono := fun _ h => h
  M_bound := fun h => h.elim
  M_move := fun _ h => h
  M_lower := fun _ h => h
theorem tab_of {w : World} {A : Option Addr} {n : Nat} {l : List Int} (h : kTab.C w A n l) (hl : l ≠ []) : TabAt w := by
  obtain ⟨h1, _, h3⟩ := h
  have hp : 0 < l.length := List.length_pos_iff.2 hl
  obtain ⟨ad, _, hc⟩ := h3 (by omega)
  obtain ⟨c, _, ⟨_, ht⟩, _⟩ := hc 0 _ (List.getElem?_eq_getElem hp)
  exact ht
/-- From the table itself: the ghost is the one element 0, read at the table's head. -/
theorem tab_ghost {w : World} (h : TabAt w) : kTab.C w (some ⟨0, 0, none⟩) 1 [0] := by
  refine ⟨rfl, by omega, fun _ => ⟨_, rfl, fun j p hj => ?_⟩⟩
  match j, hj with
  | 0, hj =>
    simp at hj
    subst hj
    refine ⟨[.int .u32 0], rfl, ⟨rfl, h⟩, fun i u hu => ?_⟩
    match i, hu with
    | 0, hu =>
      simp at hu
      subst hu
      exact h 0 (by decide)
end Go.Proofs.YtgfinjhhkmflfaaDoor.PF
