/- What a row's opening gives of an argument []Op: the words' kind, its length, its numbers, how great its lists are; conditions: the row's own. -/
import Derived.Test.YtfholpajdkjbbaaQeFilesIn
import Derived.Test.YtfholpajdkjbbaaQeOa
import Derived.DataShut
namespace Go.Proofs.Ytfholpajdkjbbaa.DK
open Go.Proofs.Ytfholpajdkjbbaa.PD
open Go.ChangeShapes Go.WideShapes Go.Deep Go.Proofs.YtfholpajdkjbbaaW.PrintWords
instance : Inhabited S41 := ⟨z41⟩
theorem bulk_ops {H : Type} (o : Nat → S41) (D : Nat → DataW H) : ∀ L : List Nat, (∀ i ∈ L, (o i).f5.length + (o i).f6.length + 1 ≤ Rows.uptoBulk (D i)) → bulkO (L.map o) + L.length ≤ Rows.uptoBulkAll (L.map D)
  | [], _ => Nat.le_refl _
  | i :: L, h => by
    have h1 := h i (List.mem_cons_self ..)
    have h2 := bulk_ops o D L (fun j hj => h j (List.mem_cons_of_mem _ hj))
    simp only [List.map_cons, bulkO, List.length_cons, Rows.uptoBulkAll]
    omega
structure WfO (o : S41) : Prop where
  a : (Lit.int .i64 o.f3).wf = true
  b : (Lit.int .i64 o.f4).wf = true
set_option maxRecDepth 100000 in
set_option maxHeartbeats 2000000 in
theorem ops_in {H : Type} {enc : TypeId × Value → H} {W : World} {base : Nat} {held : Bool} {a : Option Addr} {len cap : Nat} {d : DataW H} {ps : List MemPlace}
    (hb : Rows.uptoBulk d ≤ 1048576) (h : DataW.Trod enc Try.prog W base (fun _ => true) held 32 (.slice a len cap) d ps) :
    ∃ l : List S41, len = l.length ∧ Kd.C k41 W a l.length l ∧ l.length ≤ cap ∧ l.length ≤ 1048576 ∧ bulkO l ≤ 1048576 ∧ ∀ o ∈ l, WfO o := by
  have ce : Try.prog.cellsOf 41 = 7 := by kernel_rfl
  have c5 : Try.prog.cellsOf 5 = 1 := by kernel_rfl
  have c3 : Try.prog.cellsOf 3 = 1 := by kernel_rfl
  have c9 : Try.prog.cellsOf 9 = 1 := by kernel_rfl
  have c38 : Try.prog.cellsOf 38 = 1 := by kernel_rfl
  have c39 : Try.prog.cellsOf 39 = 1 := by kernel_rfl
  obtain ⟨fuel, hf⟩ := h
  rcases open_slice Try.underlying32 hf with ⟨hcs, _⟩ | ⟨x, n, c, m, fu, D, Pl, hcs, _, hl, hm, hmm, hx, hr⟩
  · simp [Value.cells] at hcs
    obtain ⟨rfl, rfl, rfl⟩ := hcs
    exact ⟨[], rfl, ⟨rfl, Nat.zero_le _, fun hh => absurd hh (by decide)⟩, Nat.le_refl _, by simp, by simp [bulkO], fun c hc => by cases hc⟩
  · simp [Value.cells] at hcs
    obtain ⟨rfl, rfl, rfl⟩ := hcs
    simp only [if_true] at hmm
    subst hmm
    obtain ⟨hd, _⟩ := Prod.mk.inj hx
    have each : ∀ i, i < m → ∃ (o : S41) (A5 : Option Addr) (C5 : Nat) (A6 : Option Addr) (C6 : Nat), W.cell? (x.add (i * 7)) = some (.int .i64 o.f0) ∧ W.cell? (x.add (i * 7 + 1)) = some (.int .i64 o.f1) ∧ W.cell? (x.add (i * 7 + 2)) = some (.string o.f2) ∧ W.cell? (x.add (i * 7 + 3)) = some (.int .i64 o.f3) ∧ W.cell? (x.add (i * 7 + 4)) = some (.int .i64 o.f4) ∧ W.cell? (x.add (i * 7 + 5)) = some (.slice A5 o.f5.length C5) ∧ W.cell? (x.add (i * 7 + 6)) = some (.slice A6 o.f6.length C6) ∧
        o.f5.length ≤ C5 ∧ (Kd.int .u8).C W A5 o.f5.length o.f5 ∧ o.f6.length ≤ C6 ∧ (Kd.int .i64).C W A6 o.f6.length o.f6 ∧ WfO o ∧ o.f5.length + o.f6.length + 1 ≤ Rows.uptoBulk (D i) := by
      intro i hi
      obtain ⟨cs', h1, h2⟩ := hr i hi
      rw [ce] at h1
      obtain ⟨_, hlen, hcell⟩ := World.cells?_some h1
      obtain ⟨xs, k, hk, hxy, _, hxl, hfi⟩ := DataW.trod_struct Try.underlying41 h2
      match xs, hxl, cs', hlen with
      | [y0, y1, y2, y3, y4, y5, y6], _, [v0, v1, v2, v3, v4, v5, v6], _ =>
        have g0 := hfi 0 _ rfl
        have g1 := hfi 1 _ rfl
        have g2 := hfi 2 _ rfl
        have g3 := hfi 3 _ rfl
        have g4 := hfi 4 _ rfl
        have g5 := hfi 5 _ rfl
        have g6 := hfi 6 _ rfl
        simp [c3, c9, c38, c39] at g0 g1 g2 g3 g4 g5 g6
        have e0 := hcell 0 (by omega)
        have e1 := hcell 1 (by omega)
        have e2 := hcell 2 (by omega)
        have e3 := hcell 3 (by omega)
        have e4 := hcell 4 (by omega)
        have e5 := hcell 5 (by omega)
        have e6 := hcell 6 (by omega)
        rw [Deep.add_add] at e0 e1 e2 e3 e4 e5 e6
        simp at e0 e1 e2 e3 e4 e5 e6
        obtain ⟨n0, q0, _, w0⟩ := DataW.trod_int Try.underlying3 g0
        obtain ⟨n1, q1, _, w1⟩ := DataW.trod_int Try.underlying3 g1
        obtain ⟨n2, q2, _, _⟩ := DataW.trod_string Try.underlying9 g2
        obtain ⟨n3, q3, _, w3⟩ := DataW.trod_int Try.underlying3 g3
        obtain ⟨n4, q4, _, w4⟩ := DataW.trod_int Try.underlying3 g4
        simp at q0 q1 q2 q3 q4
        subst q0 q1 q2 q3 q4
        have hDi : D i = .agg [y0.1, y1.1, y2.1, y3.1, y4.1, y5.1, y6.1] := by simpa using (Prod.mk.inj hxy).1
        have s5 : ∃ (zs : List Int) (A : Option Addr) (C : Nat), v5 = .slice A zs.length C ∧ zs.length ≤ C ∧ (Kd.int .u8).C W A zs.length zs ∧ zs.length ≤ Rows.uptoBulk y5.1 := by
          rcases open_ints Try.underlying38 Try.underlying5 c5 g5 with ⟨hcs, _⟩ | ⟨a', l', cap', zs, hcs, _, hl', hm', hz, hy, hcl, hwz⟩
          · simp at hcs
            exact ⟨[], none, 0, hcs, Nat.le_refl _, ⟨rfl, Nat.zero_le _, fun hh => absurd hh (Nat.lt_irrefl 0)⟩, Nat.zero_le _⟩
          · simp at hcs
            simp only [if_true] at hz
            have hlz : (zs.take l').length = l' := by simp; omega
            refine ⟨zs.take l', some a', cap', by rw [hlz]; exact hcs, by rw [hlz]; exact hl', by rw [hlz]; exact ints_of_cells hl' hm' hz (fun hh => by cases hh) (fun a'' ha'' cc hcc => by cases ha''; exact hcl cc (by omega)), ?_⟩
            have hy2 : y5.1 = .slice (lits .u8 (zs.take l')) (lits .u8 (zs.drop l')) := by rw [hy]
            rw [hy2]
            simp only [Rows.uptoBulk, bulk_lits]
            omega
        have s6 : ∃ (zs : List Int) (A : Option Addr) (C : Nat), v6 = .slice A zs.length C ∧ zs.length ≤ C ∧ (Kd.int .i64).C W A zs.length zs ∧ zs.length ≤ Rows.uptoBulk y6.1 := by
          rcases open_ints Try.underlying39 Try.underlying3 c3 g6 with ⟨hcs, _⟩ | ⟨a', l', cap', zs, hcs, _, hl', hm', hz, hy, hcl, hwz⟩
          · simp at hcs
            exact ⟨[], none, 0, hcs, Nat.le_refl _, ⟨rfl, Nat.zero_le _, fun hh => absurd hh (Nat.lt_irrefl 0)⟩, Nat.zero_le _⟩
          · simp at hcs
            simp only [if_true] at hz
            have hlz : (zs.take l').length = l' := by simp; omega
            refine ⟨zs.take l', some a', cap', by rw [hlz]; exact hcs, by rw [hlz]; exact hl', by rw [hlz]; exact ints_of_cells hl' hm' hz (fun hh => by cases hh) (fun a'' ha'' cc hcc => by cases ha''; exact hcl cc (by omega)), ?_⟩
            have hy2 : y6.1 = .slice (lits .i64 (zs.take l')) (lits .i64 (zs.drop l')) := by rw [hy]
            rw [hy2]
            simp only [Rows.uptoBulk, bulk_lits]
            omega
        obtain ⟨z5, A5, C5, rfl, l5, r5, u5⟩ := s5
        obtain ⟨z6, A6, C6, rfl, l6, r6, u6⟩ := s6
        refine ⟨⟨n0, n1, n2, n3, n4, z5, z6⟩, A5, C5, A6, C6, e0, e1, e2, e3, e4, e5, e6, l5, r5, l6, r6, ⟨w3, w4⟩, ?_⟩
        rw [hDi]
        simp only [Rows.uptoBulk, Rows.uptoBulkAll]
        omega
    obtain ⟨o, ho⟩ := choose_lt each
    have hbf := bulk_ops o D (List.range len) (fun i hi => by
      obtain ⟨A5, C5, A6, C6, r0, r1, r2, r3, r4, r5, r6, r7, r8, r9, r10, r11, r12⟩ := ho i (by have := List.mem_range.1 hi; omega)
      exact r12)
    rw [List.length_range] at hbf
    rw [hd] at hb
    simp only [Rows.uptoBulk] at hb
    refine ⟨(List.range len).map o, by simp, ?_, by simpa using hl, ?_, ?_, ?_⟩
    · rw [List.length_map, List.length_range]
      refine ⟨by simp, Nat.le_trans hl hm, fun _ => ⟨x, rfl, fun i p hi => ?_⟩⟩
      obtain ⟨hil, hip⟩ := List.getElem?_eq_some_iff.1 hi
      simp only [List.length_map, List.length_range] at hil
      simp only [List.getElem_map, List.getElem_range] at hip
      subst hip
      obtain ⟨A5, C5, A6, C6, r0, r1, r2, r3, r4, r5, r6, r7, r8, r9, r10, _⟩ := ho i (by omega)
      refine ⟨_, rfl, k41_mk W (o i) r7 r8 r9 r10, fun q u hu => ?_⟩
      match q, hu with
      | 0, hu => simp at hu; subst hu; exact r0
      | 1, hu => simp at hu; subst hu; exact r1
      | 2, hu => simp at hu; subst hu; exact r2
      | 3, hu => simp at hu; subst hu; exact r3
      | 4, hu => simp at hu; subst hu; exact r4
      | 5, hu => simp at hu; subst hu; exact r5
      | 6, hu => simp at hu; subst hu; exact r6
    · simp only [List.length_map, List.length_range]
      omega
    · omega
    · intro q hq
      obtain ⟨i, hi, rfl⟩ := List.mem_map.1 hq
      have hi' := List.mem_range.1 hi
      obtain ⟨A5, C5, A6, C6, r0, r1, r2, r3, r4, r5, r6, r7, r8, r9, r10, r11, _⟩ := ho i (by omega)
      exact r11
theorem good_of {l : List S41} (hb : bulkO l ≤ 1048576) (hw : ∀ o ∈ l, WfO o) : ∀ o ∈ l, Mo.Good o ∧ o.f6.length ≤ 2 ^ 40 := fun o ho => by
  have h1 := (Lit.wf_int_iff _ _).1 (hw o ho).a
  have h2 := (Lit.wf_int_iff _ _).1 (hw o ho).b
  have h3 := bulkO_mem ho
  exact ⟨⟨h1.2, h2.2, by omega⟩, by omega⟩
end Go.Proofs.Ytfholpajdkjbbaa.DK
