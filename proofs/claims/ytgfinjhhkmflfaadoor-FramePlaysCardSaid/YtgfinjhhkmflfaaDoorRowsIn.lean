/- What a row's opening gives of an argument [][]byte: the words' kind of a slice of slices, its length, its bytes; conditions: the row's own. -/
import Derived.Deep.Matrix
import Derived.SizedLaws
import Derived.Test.YtgfinjhhkmflfaaDoorWMore
import Derived.Test.YtgfinjhhkmflfaaDoorWSized
namespace Go.Proofs.YtgfinjhhkmflfaaDoorW.PrintWords
open Go.ChangeShapes Go.WideShapes Go.Deep
theorem ints_of_cells {k : IntKind} {w : World} {a : Option Addr} {len cap : Nat} {zs : List Int} (hl : len ≤ cap) (hm : cap ≤ maxLen) (hz : zs.length = cap) (ha : a = none → cap = 0)
    (hc : ∀ a', a = some a' → ∀ c, c < cap → w.cell? (a'.add c) = some (.int k (zs.getD c 0))) : (Kd.int k).C w a len (zs.take len) := by
  refine Kd.C_of_reads (d := (0 : Int)) (h1 := fun _ => rfl) ⟨by simp; omega, Nat.le_trans hl hm, fun hn => ?_⟩
  cases a with
  | none => exact absurd (ha rfl) (by omega)
  | some a' =>
    refine ⟨a', rfl, fun j hj => ?_⟩
    rw [hc a' rfl j (by omega)]
    simp [List.getD_eq_getElem?_getD, hj]
theorem rows_in {H : Type} {enc : TypeId × Value → H} {P : Program} {W : World} {base : Nat} {held : Bool} {t e q : TypeId} {k : IntKind} {a : Option Addr} {len cap : Nat} {d : DataW H} {ps : List MemPlace}
    {ts : List TypeId} {ds : List (DataW H)} {j : Nat} (hsz : (DataW.weightsEach P ts ds).all (· ≤ reachBytes) = true) (htj : ts[j]? = some t) (hdj : ds[j]? = some d) (ht : P.underlying t = some (.slice e)) (he : P.underlying e = some (.slice q)) (hq : P.underlying q = some (.int k)) (ce : P.cellsOf e = 1) (cq : P.cellsOf q = 1)
    (be : P.bytesOf e = 24) (bq : P.bytesOf q = 1)
    (h : DataW.Trod enc P W base (fun _ => true) held t (.slice a len cap) d ps) :
    ∃ l : List (List Int), len = l.length ∧ (Kd.slice q (Kd.int k)).C W a l.length l ∧ l.length ≤ cap ∧ l.length * 24 ≤ 140737488351232 ∧ ∀ c ∈ l, (∀ x ∈ c, (Lit.int k x).wf = true) ∧ c.length ≤ 140737488351232 := by
  obtain ⟨fuel, hf⟩ := h
  rcases open_int_rows ht he hq ce cq hf with ⟨hcs, _⟩ | ⟨x, n, c, A, L, C, Z, hcs, _, hl, hm, hx, hr⟩
  · simp [Value.cells] at hcs
    obtain ⟨rfl, rfl, rfl⟩ := hcs
    exact ⟨[], rfl, ⟨rfl, Nat.zero_le _, fun hh => absurd hh (by decide)⟩, Nat.le_refl _, by simp, fun c hc => by cases hc⟩
  · simp [Value.cells] at hcs
    obtain ⟨rfl, rfl, rfl⟩ := hcs
    obtain ⟨hd, _⟩ := Prod.mk.inj hx
    have z := sized_slice hsz htj (hd ▸ hdj) ht
    rw [be] at z
    simp only [List.length_map, List.length_range] at z
    have z' : (len + (cap - len)) * 24 ≤ 140737488351232 := z
    refine ⟨(List.range len).map fun r => (Z r).take (L r), by simp, ?_, by simpa using hl, by simp; omega, ?_⟩
    · rw [List.length_map, List.length_range]
      refine ⟨by simp, Nat.le_trans hl hm, fun _ => ⟨x, rfl, fun i p hi => ?_⟩⟩
      obtain ⟨hil, hip⟩ := List.getElem?_eq_some_iff.1 hi
      simp only [List.length_map, List.length_range] at hil
      simp only [List.getElem_map, List.getElem_range] at hip
      subst hip
      obtain ⟨r1, r2, r3, r4, r5, r6, r7⟩ := hr i (by omega)
      have hlen : ((Z i).take (L i)).length = L i := by simp; omega
      refine ⟨[.slice (A i) (L i) (C i)], rfl, ⟨A i, C i, by rw [hlen], by rw [hlen]; exact r2, by rw [hlen]; exact ints_of_cells r2 r3 r4 r6 (fun a' ha' => (r7 a' ha').2)⟩, fun m u hu => ?_⟩
      cases m with
      | zero =>
        have : Value.slice (A i) (L i) (C i) = u := by simpa using hu
        subst this
        simpa [Kd.slice] using r1
      | succ m => simp at hu
    · intro c hc
      obtain ⟨i, hi, rfl⟩ := List.mem_map.1 hc
      have hi' := List.mem_range.1 hi
      obtain ⟨r1, r2, r3, r4, r5, r6, r7⟩ := hr i (by omega)
      refine ⟨fun y hy => r5 y (List.mem_of_mem_take hy), ?_⟩
      have hlen : ((Z i).take (L i)).length = L i := by simp; omega
      rw [hlen]
      cases hA : A i with
      | none => have := r6 hA; omega
      | some a' =>
        have hmem : DataW.slice (lits (H := H) k ((Z i).take (L i))) (lits k ((Z i).drop (L i))) ∈ (List.range len).map fun r => intRow (H := H) k (A r) (L r) (Z r) :=
          List.mem_map.2 ⟨i, hi, by simp [intRow, hA]⟩
        have hw := List.all_eq_true.1 hsz
        have hin : ((lits (H := H) k ((Z i).take (L i))).length + (lits (H := H) k ((Z i).drop (L i))).length) * P.bytesOf q ∈ DataW.weightsEach P ts ds := by
          refine DataW.weights_mem_each htj (hd ▸ hdj) _ ?_
          simp only [DataW.weights, ht, List.mem_cons, List.mem_append]
          refine Or.inr (Or.inl ?_)
          have mem_all : ∀ {l : List (DataW H)} {d : DataW H}, d ∈ l → ∀ n ∈ d.weights P e, n ∈ DataW.weightsAll P e l := by
            intro l
            induction l with
            | nil => intro d hd; cases hd
            | cons d' r ih =>
              intro d hd n hn
              simp only [DataW.weightsAll, List.mem_append]
              rcases List.mem_cons.1 hd with rfl | h
              · exact Or.inl hn
              · exact Or.inr (ih h n hn)
          exact mem_all hmem _ (by simp [DataW.weights, he])
        have := of_decide_eq_true (hw _ hin)
        rw [bq] at this
        simp only [lits, List.length_map, List.length_take, List.length_drop] at this
        have hrb : reachBytes = 140737488351232 := rfl
        omega
end Go.Proofs.YtgfinjhhkmflfaaDoorW.PrintWords
