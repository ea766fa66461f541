/- What a row's opening gives of an argument []eddylaw1.Op: the words' kind, its length, its numbers and bytes; conditions: the row's own. -/
import Derived.Test.YtgfinjhhkmflfaaDoorRowsIn
import Derived.Test.YtgfinjhhkmflfaaDoorPFx0
import Derived.ChangeSame
namespace Go.Proofs.YtgfinjhhkmflfaaDoor.PF
open Go.ChangeShapes Go.WideShapes Go.Deep Go.Proofs.YtgfinjhhkmflfaaDoorW.PrintWords
theorem weightsAll_of {H : Type} {P : Program} {e : TypeId} : ∀ {l : List (DataW H)} {d : DataW H}, d ∈ l → ∀ n ∈ d.weights P e, n ∈ DataW.weightsAll P e l := by
  intro l
  induction l with
  | nil => intro d hd; cases hd
  | cons d' r ih =>
    intro d hd n hn
    simp only [DataW.weightsAll, List.mem_append]
    rcases List.mem_cons.1 hd with rfl | h
    · exact Or.inl hn
    · exact Or.inr (ih h n hn)
instance : Inhabited S56 := ⟨z56⟩
set_option maxRecDepth 100000 in
theorem ops_in {H : Type} {enc : TypeId × Value → H} {W : World} {base : Nat} {held : Bool} {a : Option Addr} {len cap : Nat} {d : DataW H} {ps : List MemPlace}
    {ts : List TypeId} {ds : List (DataW H)} {j : Nat} (hsz : (DataW.weightsEach Tryd.prog ts ds).all (· ≤ reachBytes) = true) (htj : ts[j]? = some 54) (hdj : ds[j]? = some d)
    (h : DataW.Trod enc Tryd.prog W base (fun _ => true) held 54 (.slice a len cap) d ps) :
    ∃ l : List S56, len = l.length ∧ Kd.C k56 W a l.length l ∧ l.length ≤ cap ∧ l.length < 2 ^ 50 ∧ ∀ o ∈ l, (Lit.int .u32 o.f1).wf = true ∧ (∀ x ∈ o.f2, (Lit.int .u8 x).wf = true) ∧ o.f2.length < 2 ^ 50 := by
  have ce : Tryd.prog.cellsOf 56 = 3 := by kernel_rfl
  have be : Tryd.prog.bytesOf 56 = 40 := by kernel_rfl
  have b5 : Tryd.prog.bytesOf 5 = 1 := by kernel_rfl
  have c5 : Tryd.prog.cellsOf 5 = 1 := by kernel_rfl
  have c3 : Tryd.prog.cellsOf 3 = 1 := by kernel_rfl
  have c22 : Tryd.prog.cellsOf 22 = 1 := by kernel_rfl
  have c23 : Tryd.prog.cellsOf 23 = 1 := by kernel_rfl
  have hrb : reachBytes = 140737488351232 := rfl
  obtain ⟨fuel, hf⟩ := h
  rcases open_slice Tryd.underlying54 hf with ⟨hcs, _⟩ | ⟨x, n, c, m, fu, D, Pl, hcs, _, hl, hm, hmm, hx, hr⟩
  · simp [Value.cells] at hcs
    obtain ⟨rfl, rfl, rfl⟩ := hcs
    exact ⟨[], rfl, ⟨rfl, Nat.zero_le _, fun hh => absurd hh (by decide)⟩, Nat.le_refl _, by simp, fun c hc => by cases hc⟩
  · simp [Value.cells] at hcs
    obtain ⟨rfl, rfl, rfl⟩ := hcs
    simp only [if_true] at hmm
    subst hmm
    obtain ⟨hd, _⟩ := Prod.mk.inj hx
    have z := sized_slice hsz htj (hd ▸ hdj) Tryd.underlying54
    rw [be, hrb] at z
    simp only [List.length_map, List.length_range] at z
    have each : ∀ i, i < m → ∃ (o : S56) (A : Option Addr) (C : Nat), W.cell? (x.add (i * 3)) = some (.int .i64 o.f0) ∧ W.cell? (x.add (i * 3 + 1)) = some (.int .u32 o.f1) ∧ W.cell? (x.add (i * 3 + 2)) = some (.slice A o.f2.length C) ∧
        o.f2.length ≤ C ∧ (Kd.int .u8).C W A o.f2.length o.f2 ∧ (Lit.int .u32 o.f1).wf = true ∧ (∀ y ∈ o.f2, (Lit.int .u8 y).wf = true) ∧ (i < len → o.f2.length < 2 ^ 50) := by
      intro i hi
      obtain ⟨cs', h1, h2⟩ := hr i hi
      rw [ce] at h1
      obtain ⟨_, hlen, hcell⟩ := World.cells?_some h1
      obtain ⟨xs, k, hk, hxy, _, hxl, hfi⟩ := DataW.trod_struct Tryd.underlying56 h2
      match xs, hxl, cs', hlen with
      | [y0, y1, y2], _, [v0, v1, v2], _ =>
        have g0 := hfi 0 _ rfl
        have g1 := hfi 1 _ rfl
        have g2 := hfi 2 _ rfl
        simp [c3, c22, c23] at g0 g1 g2
        have e0 := hcell 0 (by omega)
        have e1 := hcell 1 (by omega)
        have e2 := hcell 2 (by omega)
        rw [Deep.add_add] at e0 e1 e2
        simp at e0 e1 e2
        obtain ⟨n0, q0, _, _⟩ := DataW.trod_int Tryd.underlying3 g0
        obtain ⟨n1, q1, _, w1⟩ := DataW.trod_int Tryd.underlying22 g1
        simp at q0 q1
        subst q0 q1
        rcases open_ints Tryd.underlying23 Tryd.underlying5 c5 g2 with ⟨hcs, _⟩ | ⟨a', l', cap', zs, hcs, _, hl', hm', hz, hy, hcl, hwz⟩
        · simp at hcs
          subst hcs
          exact ⟨⟨n0, n1, []⟩, none, 0, e0, e1, e2, Nat.le_refl _, ⟨rfl, Nat.zero_le _, fun hh => absurd hh (Nat.lt_irrefl 0)⟩, w1, by simp, fun _ => by simp⟩
        · simp at hcs
          subst hcs
          simp only [if_true] at hz
          have hlz : (zs.take l').length = l' := by simp; omega
          refine ⟨⟨n0, n1, zs.take l'⟩, some a', cap', e0, e1, by rw [hlz]; exact e2, by rw [hlz]; exact hl', by rw [hlz]; exact ints_of_cells hl' hm' hz (fun hh => by cases hh) (fun a'' ha'' cc hcc => by cases ha''; exact hcl cc (by omega)), w1, fun y hy => hwz y (List.mem_of_mem_take hy), fun hil => ?_⟩
          show (zs.take l').length < 2 ^ 50
          rw [hlz]
          have hmem : D i ∈ (List.range len).map D := List.mem_map.2 ⟨i, List.mem_range.2 hil, rfl⟩
          have hDi : D i = .agg [y0.1, y1.1, y2.1] := by simpa using (Prod.mk.inj hxy).1
          have hy2 : y2.1 = .slice (lits .u8 (zs.take l')) (lits .u8 (zs.drop l')) := by rw [hy]
          have hin : ((lits (H := H) .u8 (zs.take l')).length + (lits (H := H) .u8 (zs.drop l')).length) * Tryd.prog.bytesOf 5 ∈ DataW.weightsEach Tryd.prog ts ds := by
            refine DataW.weights_mem_each htj (hd ▸ hdj) _ ?_
            simp only [DataW.weights, Tryd.underlying54, List.mem_cons, List.mem_append]
            refine Or.inr (Or.inl (weightsAll_of hmem _ ?_))
            rw [hDi, hy2]
            simp [DataW.weights, Tryd.underlying56, Tryd.underlying23, DataW.weightsEach]
          have := of_decide_eq_true (List.all_eq_true.1 hsz _ hin)
          rw [b5, hrb] at this
          simp only [lits, List.length_map, List.length_take, List.length_drop] at this
          omega
    obtain ⟨o, ho⟩ := choose_lt each
    refine ⟨(List.range len).map o, by simp, ?_, by simpa using hl, by simp; omega, ?_⟩
    · rw [List.length_map, List.length_range]
      refine ⟨by simp, Nat.le_trans hl hm, fun _ => ⟨x, rfl, fun i p hi => ?_⟩⟩
      obtain ⟨hil, hip⟩ := List.getElem?_eq_some_iff.1 hi
      simp only [List.length_map, List.length_range] at hil
      simp only [List.getElem_map, List.getElem_range] at hip
      subst hip
      obtain ⟨A, C, r0, r1, r2, r3, r4, _⟩ := ho i (by omega)
      refine ⟨_, rfl, k56_mk W (o i) r3 r4, fun q u hu => ?_⟩
      match q, hu with
      | 0, hu => simp at hu; subst hu; exact r0
      | 1, hu => simp at hu; subst hu; exact r1
      | 2, hu => simp at hu; subst hu; exact r2
    · intro q hq
      obtain ⟨i, hi, rfl⟩ := List.mem_map.1 hq
      have hi' := List.mem_range.1 hi
      obtain ⟨A, C, r0, r1, r2, r3, r4, r5, r6, r7⟩ := ho i (by omega)
      exact ⟨r5, r6, r7 hi'⟩
end Go.Proofs.YtgfinjhhkmflfaaDoor.PF
