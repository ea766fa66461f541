/- One call as a step of the model; a well-formed disk stays one; conditions: those in each theorem. (Plain Lean.) -/
import Derived.Test.YtfholpajdkjbbaaQeGa
namespace Go.Proofs.Ytfholpajdkjbbaa.Mo
open Go.Proofs.Ytfholpajdkjbbaa.PD
set_option linter.unusedVariables false
theorem Ok.there {s : St} (h : Ok s) (nm : ByteArray) : Ok (s.there nm).1 := by
  unfold St.there
  split
  · exact h.ahead nm true
  · split
    · exact h.ahead nm true
    · split
      · exact (h.ahead nm true).pays (by decide)
      · exact (h.ahead nm true).fall
theorem Ok.change {s : St} (h : Ok s) (nm : ByteArray) (g : List F → List F) (hg : ∀ t : St, Ok t → Ok { t with all := g t.all }) : Ok (s.change nm g).1 := by
  unfold St.change
  split
  · exact h.there nm
  · exact hg _ (h.there nm)
theorem Ok.sync {s : St} (h : Ok s) (nm : ByteArray) : Ok (s.sync nm).1 :=
  h.change nm _ (fun t ht => ht.upd nm _ (fun _ => rfl) (fun f hf _ => by
    have := ht.small f hf
    unfold F.len at this ⊢
    dsimp only
    rw [List.length_append, List.length_nil]
    omega))
theorem Ok.trim {s : St} (h : Ok s) (nm : ByteArray) (size : Int) : Ok (s.trim nm size).1 :=
  h.change nm _ (fun t ht => ht.upd nm _ (fun _ => rfl) (fun f hf _ => by
    have := ht.small f hf
    unfold F.len at this ⊢
    dsimp only
    rw [List.length_take, List.length_take]
    omega))
theorem Ok.remove {s : St} (h : Ok s) (nm : ByteArray) : Ok (s.remove nm).1 :=
  h.change nm _ (fun t ht => ht.files _ (List.Pairwise.sublist List.filter_sublist ht.sorted) (fun f hf => ht.names f ((List.mem_filter.1 hf).1)) (fun f hf => ht.small f ((List.mem_filter.1 hf).1)) (Nat.le_trans (List.length_filter_le _ _) ht.few))
theorem Ok.arm {s : St} (h : Ok s) (u : Int) (hu : u ≤ 9223372036854775807) : Ok (s.arm u) := by
  unfold St.arm
  split
  · exact h
  · exact h.of_all rfl (by dsimp only; omega) (by dsimp only; omega) h.a0 h.a1 h.f0 h.f1 h.idle
theorem Ok.fail {s : St} (h : Ok s) (u v : Int) (hu : u ≤ 9223372036854775807) (hv : v ≤ 9223372036854775807) : Ok (s.fail u v) := by
  unfold St.fail
  split
  · exact h
  · split
    · rename_i hh
      exact h.of_all rfl h.l0 h.l1 hh.1 hu (by dsimp only; omega) hv (by dsimp only; omega)
    · exact h.of_all rfl h.l0 h.l1 (by dsimp only; omega) (by dsimp only; omega) (by dsimp only; omega) (by dsimp only; omega) (fun _ => rfl)
theorem mapIdx_mem {l : List F} {g : Nat → F → F} {x : F} (h : x ∈ l.mapIdx g) : ∃ i, ∃ y ∈ l, x = g i y := by
  obtain ⟨i, hi, rfl⟩ := List.mem_mapIdx.1 h
  exact ⟨i, l[i], List.getElem_mem hi, rfl⟩
theorem sorted_names {l l' : List F} (h : Sorted l) (hn : namesOf l' = namesOf l) : Sorted l' := by
  have e : ∀ m : List F, Sorted m ↔ (namesOf m).Pairwise (fun a b => lt a b = true) := fun m => by
    unfold namesOf
    rw [List.pairwise_map]
  rw [e] at h ⊢
  rw [hn]
  exact h
theorem kept_names (l : List F) (k : Nat → Int) : namesOf (l.mapIdx fun i f => St.F.kept f (k i)) = namesOf l := by
  refine List.ext_getElem (by simp) (fun i h1 h2 => ?_)
  simp [St.F.kept]
theorem Ok.restart {s : St} (h : Ok s) (keep : List Int) : Ok (s.restart keep) := by
  have h0 := h.fall
  refine Ok.of_all (s := { s.fall with all := s.all.mapIdx fun i f => St.F.kept f (St.keepOf keep i) }) ?_ rfl h0.l0 h0.l1 h0.a0 h0.a1 h0.f0 h0.f1 h0.idle
  refine h0.files _ (sorted_names h.sorted (kept_names _ _)) (fun f hf => ?_) (fun f hf => ?_) (by rw [List.length_mapIdx]; exact h.few)
  · obtain ⟨i, y, hy, rfl⟩ := mapIdx_mem hf
    exact h.names y hy
  · obtain ⟨i, y, hy, rfl⟩ := mapIdx_mem hf
    have := h.small y hy
    unfold F.len at this ⊢
    simp only [St.F.kept, List.length_append, List.length_take, List.length_nil]
    omega
theorem Ok.spoil {s : St} (h : Ok s) (nm : ByteArray) (bit : Int) : Ok (s.spoil nm bit).1 := by
  unfold St.spoil
  split
  · exact h
  · split
    · exact h
    · refine h.upd nm _ (fun f => spoilt_name f _ _) (fun f hf _ => ?_)
      have := h.small f hf
      unfold F.len at this ⊢
      unfold St.F.spoilt
      split <;> simp only [List.length_set] <;> omega
/-- One call: the disk behind it, and its answer as a number (Spoil: 1 or 0). -/
def St.op (s : St) (o : S41) : St × Int :=
  if o.f0 = 1 then s.append o.f2 o.f5
  else if o.f0 = 2 then s.sync o.f2
  else if o.f0 = 3 then s.trim o.f2 o.f3
  else if o.f0 = 4 then s.remove o.f2
  else if o.f0 = 5 then (s, (s.read o.f2).2)
  else if o.f0 = 6 then (s, s.list.2)
  else if o.f0 = 7 then (s.arm o.f3, 0)
  else if o.f0 = 8 then (s.fail o.f4 o.f3, 0)
  else if o.f0 = 9 then (s.fall, 0)
  else if o.f0 = 10 then (s.restart o.f6, 0)
  else if o.f0 = 11 then ((s.spoil o.f2 o.f3).1, if (s.spoil o.f2 o.f3).2 = true then 1 else 0)
  else (s, 0)
/-- An op's numbers are numbers of the program, its lists not too long. -/
structure Good (o : S41) : Prop where
  n : o.f3 ≤ 9223372036854775807
  a : o.f4 ≤ 9223372036854775807
  b : o.f5.length ≤ 2 ^ 40
theorem Ok.op {s : St} (h : Ok s) {o : S41} (g : Good o) : Ok (s.op o).1 := by
  unfold St.op
  by_cases h1 : o.f0 = 1
  · rw [if_pos h1]; exact h.append _ _
  rw [if_neg h1]
  by_cases h2 : o.f0 = 2
  · rw [if_pos h2]; exact h.sync _
  rw [if_neg h2]
  by_cases h3 : o.f0 = 3
  · rw [if_pos h3]; exact h.trim _ _
  rw [if_neg h3]
  by_cases h4 : o.f0 = 4
  · rw [if_pos h4]; exact h.remove _
  rw [if_neg h4]
  by_cases h5 : o.f0 = 5
  · rw [if_pos h5]; exact h
  rw [if_neg h5]
  by_cases h6 : o.f0 = 6
  · rw [if_pos h6]; exact h
  rw [if_neg h6]
  by_cases h7 : o.f0 = 7
  · rw [if_pos h7]; exact h.arm _ g.n
  rw [if_neg h7]
  by_cases h8 : o.f0 = 8
  · rw [if_pos h8]; exact h.fail _ _ g.a g.n
  rw [if_neg h8]
  by_cases h9 : o.f0 = 9
  · rw [if_pos h9]; exact h.fall
  rw [if_neg h9]
  by_cases h10 : o.f0 = 10
  · rw [if_pos h10]; exact h.restart _
  rw [if_neg h10]
  by_cases h11 : o.f0 = 11
  · rw [if_pos h11]; exact h.spoil _ _
  rw [if_neg h11]
  exact h
/-- The disk behind a list of calls. -/
def St.ops (s : St) (l : List S41) : St := l.foldl (fun t o => (t.op o).1) s
theorem Ok.ops {s : St} (h : Ok s) {l : List S41} (g : ∀ o ∈ l, Good o) : Ok (s.ops l) := by
  induction l generalizing s with
  | nil => exact h
  | cons o l ih => exact ih (h.op (g o List.mem_cons_self)) (fun x hx => g x (List.mem_cons_of_mem _ hx))
end Go.Proofs.Ytfholpajdkjbbaa.Mo
