/- What a row's opening gives of an argument []api.File: the words' kind, its length, its numbers, how great its bytes are; conditions: the row's own. -/
import Derived.Test.YtfholpajdkjbbaaQdLb
import Derived.Test.YtfholpajdkjbbaaRows
import Derived.ChangeSame
import Derived.Deep.SlicePairs
namespace Go.Proofs.Ytfholpajdkjbbaa.DK
open Go.Proofs.Ytfholpajdkjbbaa.PD
open Go.ChangeShapes Go.WideShapes Go.Deep Go.Proofs.YtfholpajdkjbbaaW.PrintWords
instance : Inhabited S67 := ⟨z67⟩
theorem ints_of_cells {k : IntKind} {w : World} {a : Option Addr} {len cap : Nat} {zs : List Int} (hl : len ≤ cap) (hm : cap ≤ maxLen) (hz : zs.length = cap) (ha : a = none → cap = 0)
    (hc : ∀ a', a = some a' → ∀ c, c < cap → w.cell? (a'.add c) = some (.int k (zs.getD c 0))) : (Kd.int k).C w a len (zs.take len) := by
  refine Kd.C_of_reads (d := (0 : Int)) (h1 := fun _ => rfl) ⟨by simp; omega, Nat.le_trans hl hm, fun hn => ?_⟩
  cases a with
  | none => exact absurd (ha rfl) (by omega)
  | some a' =>
    refine ⟨a', rfl, fun j hj => ?_⟩
    rw [hc a' rfl j (by omega)]
    simp [List.getD_eq_getElem?_getD, hj]
theorem bulk_lits {H : Type} (k : IntKind) : ∀ zs : List Int, Rows.uptoBulkAll (lits (H := H) k zs) = zs.length
  | [] => rfl
  | z :: zs => by
    show 1 + Rows.uptoBulkAll (lits (H := H) k zs) = _
    rw [bulk_lits k zs, List.length_cons]
    omega
theorem bulk_files {H : Type} (o : Nat → S67) (D : Nat → DataW H) : ∀ L : List Nat, (∀ i ∈ L, (o i).f1.length + 1 ≤ Rows.uptoBulk (D i)) → bulkF (L.map o) + L.length ≤ Rows.uptoBulkAll (L.map D)
  | [], _ => Nat.le_refl _
  | i :: L, h => by
    have h1 := h i (List.mem_cons_self ..)
    have h2 := bulk_files o D L (fun j hj => h j (List.mem_cons_of_mem _ hj))
    simp only [List.map_cons, bulkF, List.length_cons, Rows.uptoBulkAll]
    omega
set_option maxRecDepth 100000 in
theorem files_in {H : Type} {enc : TypeId × Value → H} {W : World} {base : Nat} {held : Bool} {a : Option Addr} {len cap : Nat} {d : DataW H} {ps : List MemPlace}
    (hb : Rows.uptoBulk d ≤ 1048576) (h : DataW.Trod enc Try.prog W base (fun _ => true) held 22 (.slice a len cap) d ps) :
    ∃ l : List S67, len = l.length ∧ Kd.C k67 W a l.length l ∧ l.length ≤ cap ∧ l.length ≤ 1048576 ∧ bulkF l ≤ 1048576 ∧ ∀ o ∈ l, (Lit.int .i64 o.f2).wf = true := by
  have ce : Try.prog.cellsOf 67 = 3 := by kernel_rfl
  have c5 : Try.prog.cellsOf 5 = 1 := by kernel_rfl
  have c3 : Try.prog.cellsOf 3 = 1 := by kernel_rfl
  have c9 : Try.prog.cellsOf 9 = 1 := by kernel_rfl
  have c38 : Try.prog.cellsOf 38 = 1 := by kernel_rfl
  obtain ⟨fuel, hf⟩ := h
  rcases open_slice Try.underlying22 hf with ⟨hcs, _⟩ | ⟨x, n, c, m, fu, D, Pl, hcs, _, hl, hm, hmm, hx, hr⟩
  · simp [Value.cells] at hcs
    obtain ⟨rfl, rfl, rfl⟩ := hcs
    exact ⟨[], rfl, ⟨rfl, Nat.zero_le _, fun hh => absurd hh (by decide)⟩, Nat.le_refl _, by simp, by simp [bulkF], fun c hc => by cases hc⟩
  · simp [Value.cells] at hcs
    obtain ⟨rfl, rfl, rfl⟩ := hcs
    simp only [if_true] at hmm
    subst hmm
    obtain ⟨hd, _⟩ := Prod.mk.inj hx
    have each : ∀ i, i < m → ∃ (o : S67) (A : Option Addr) (C : Nat), W.cell? (x.add (i * 3)) = some (.string o.f0) ∧ W.cell? (x.add (i * 3 + 1)) = some (.slice A o.f1.length C) ∧ W.cell? (x.add (i * 3 + 2)) = some (.int .i64 o.f2) ∧
        o.f1.length ≤ C ∧ (Kd.int .u8).C W A o.f1.length o.f1 ∧ (Lit.int .i64 o.f2).wf = true ∧ o.f1.length + 1 ≤ Rows.uptoBulk (D i) := by
      intro i hi
      obtain ⟨cs', h1, h2⟩ := hr i hi
      rw [ce] at h1
      obtain ⟨_, hlen, hcell⟩ := World.cells?_some h1
      obtain ⟨xs, k, hk, hxy, _, hxl, hfi⟩ := DataW.trod_struct Try.underlying67 h2
      match xs, hxl, cs', hlen with
      | [y0, y1, y2], _, [v0, v1, v2], _ =>
        have g0 := hfi 0 _ rfl
        have g1 := hfi 1 _ rfl
        have g2 := hfi 2 _ rfl
        simp [c3, c9, c38] at g0 g1 g2
        have e0 := hcell 0 (by omega)
        have e1 := hcell 1 (by omega)
        have e2 := hcell 2 (by omega)
        rw [Deep.add_add] at e0 e1 e2
        simp at e0 e1 e2
        obtain ⟨n0, q0, _, _⟩ := DataW.trod_string Try.underlying9 g0
        obtain ⟨n2, q2, _, w2⟩ := DataW.trod_int Try.underlying3 g2
        simp at q0 q2
        subst q0 q2
        rcases open_ints Try.underlying38 Try.underlying5 c5 g1 with ⟨hcs, _⟩ | ⟨a', l', cap', zs, hcs, _, hl', hm', hz, hy, hcl, hwz⟩
        · simp at hcs
          subst hcs
          exact ⟨⟨n0, [], n2⟩, none, 0, e0, e1, e2, Nat.le_refl _, ⟨rfl, Nat.zero_le _, fun hh => absurd hh (Nat.lt_irrefl 0)⟩, w2, by
            rw [show D i = .agg [y0.1, y1.1, y2.1] by simpa using (Prod.mk.inj hxy).1]
            show 0 + 1 ≤ Rows.uptoBulkAll _ + 1
            omega⟩
        · simp at hcs
          subst hcs
          simp only [if_true] at hz
          have hlz : (zs.take l').length = l' := by simp; omega
          refine ⟨⟨n0, zs.take l', n2⟩, some a', cap', e0, by rw [hlz]; exact e1, e2, by rw [hlz]; exact hl', by rw [hlz]; exact ints_of_cells hl' hm' hz (fun hh => by cases hh) (fun a'' ha'' cc hcc => by cases ha''; exact hcl cc (by omega)), w2, ?_⟩
          show (zs.take l').length + 1 ≤ _
          rw [hlz]
          have hDi : D i = .agg [y0.1, y1.1, y2.1] := by simpa using (Prod.mk.inj hxy).1
          have hy2 : y1.1 = .slice (lits .u8 (zs.take l')) (lits .u8 (zs.drop l')) := by rw [hy]
          rw [hDi, hy2]
          simp only [Rows.uptoBulk, Rows.uptoBulkAll, bulk_lits, hlz]
          omega
    obtain ⟨o, ho⟩ := choose_lt each
    have hbf := bulk_files o D (List.range len) (fun i hi => by
      obtain ⟨A, C, r0, r1, r2, r3, r4, r5, r6⟩ := ho i (by have := List.mem_range.1 hi; omega)
      exact r6)
    rw [List.length_range] at hbf
    rw [hd] at hb
    simp only [Rows.uptoBulk] at hb
    refine ⟨(List.range len).map o, by simp, ?_, by simpa using hl, ?_, ?_, ?_⟩
    · rw [List.length_map, List.length_range]
      refine ⟨by simp, Nat.le_trans hl hm, fun _ => ⟨x, rfl, fun i p hi => ?_⟩⟩
      obtain ⟨hil, hip⟩ := List.getElem?_eq_some_iff.1 hi
      simp only [List.length_map, List.length_range] at hil
      simp only [List.getElem_map, List.getElem_range] at hip
      subst hip
      obtain ⟨A, C, r0, r1, r2, r3, r4, _⟩ := ho i (by omega)
      refine ⟨_, rfl, k67_mk W (o i) r3 r4, fun q u hu => ?_⟩
      match q, hu with
      | 0, hu => simp at hu; subst hu; exact r0
      | 1, hu => simp at hu; subst hu; exact r1
      | 2, hu => simp at hu; subst hu; exact r2
    · simp only [List.length_map, List.length_range]
      omega
    · omega
    · intro q hq
      obtain ⟨i, hi, rfl⟩ := List.mem_map.1 hq
      have hi' := List.mem_range.1 hi
      obtain ⟨A, C, r0, r1, r2, r3, r4, r5, r6⟩ := ho i (by omega)
      exact r5
end Go.Proofs.Ytfholpajdkjbbaa.DK
