/- The pure statement of FrameSums: whatever the numbers and bytes, the printed law answers true; conditions: what the row's reading gives (Plain Lean.) -/
import Derived.Test.YtgfinjhhkmflfaaDoorLa
namespace Go.Proofs.YtgfinjhhkmflfaaDoor.PF
open Go.RowKit Go.Proofs.YtgfinjhhkmflfaaDoorW.PrintWords Go.Proofs.YtgfinjhhkmflfaaDoorW.PrintLast Go.Proofs.YtgfinjhhkmflfaaDoorW.PrintMore
set_option linter.unusedVariables false
theorem bytes_of_wf {l : List Int} (h : ∀ x ∈ l, (Lit.int .u8 x).wf = true) : Bytes l := fun x hx => by
  have := h x hx
  simp [Lit.wf, IntKind.min, IntKind.max, IntKind.bits, IntKind.signed] at this
  omega
theorem u32_of_wf {a : Int} (h : (Lit.int .u32 a).wf = true) : 0 ≤ a ∧ a < 4294967296 := by
  simp [Lit.wf, IntKind.min, IntKind.max, IntKind.bits, IntKind.signed] at h
  omega
theorem Add_eq (a : Int) (h0 : 0 ≤ a) (h1 : a < 4294967296) (l : List Int) (hb : Bytes l) : frame_Add.f a l [0] = some ((4294967295 - Crc.reg (4294967295 - a.toNat) (l.map Int.toNat) : Nat) : Int) := by
  unfold frame_Add.f
  rw [if_pos ⟨h0, h1, hb, by simp⟩]
theorem Bytes.append {l m : List Int} (hl : Bytes l) (hm : Bytes m) : Bytes (l ++ m) := fun x hx => by
  rcases List.mem_append.1 hx with h | h
  · exact hl x h
  · exact hm x h
theorem joined_eq (l m : List Int) (h : l.length + m.length < 140737488355328) : eddylaw1_joined.f l m = some (l ++ m) := by
  unfold eddylaw1_joined.f
  rw [if_pos (by simp; omega)]
  simp only [Option.bind_some, List.nil_append]
  rw [if_pos (by omega)]
theorem Ev.pure_ {α β : Type} {g : Option α} {a : α} {f : Nat → α → Option β} {r : β} (h : g = some a) (k : Ev (fun n => f n a) r) : Ev (fun n => g.bind (f n)) r := by
  subst h
  exact k
theorem FrameSums_pure (a0 : Int) (w0 : (Lit.int .u32 a0).wf = true) (l1 : List Int) (y1 : l1.length * 1 ≤ 140737488351232) (hw1 : ∀ x ∈ l1, (Lit.int .u8 x).wf = true) (l2 : List Int) (y2 : l2.length * 1 ≤ 140737488351232) (hw2 : ∀ x ∈ l2, (Lit.int .u8 x).wf = true) :
    ∃ k, eddylaw1_FrameSums.f k a0 l1 l2 [0] = some true := by
  have b1 := bytes_of_wf hw1
  have b2 := bytes_of_wf hw2
  obtain ⟨h0, h1⟩ := u32_of_wf w0
  apply Ev.rounds
  unfold eddylaw1_FrameSums.f
  rw [w64 (by omega) (by omega)]
  by_cases hbig : (l1.length : Int) + (l2.length : Int) > 131072
  · simp only [if_pos hbig]
    exact Ev.now _
  · simp only [if_neg hbig]
    refine Ev.bind (refSum l1 b1 (by omega)) (Ev.bind (refAdd a0 h0 h1 l2 b2 (by omega)) (Ev.pure_ (frame_Sum_eq l1 [0] b1 (by simp)) (Ev.pure_ (Add_eq a0 h0 h1 l2 b2) ?_)))
    refine Ev.congr (fun k => if_pos rfl) ?_
    rw [bne_self_eq_false]
    apply Ev.step
    · intro k
      simp only [eddylaw1_FrameSums.j0, Bool.false_eq_true, if_false]
      exact rfl
    have hs := sumL_lt l1
    refine Ev.pure_ (Add_eq _ (by omega) (by omega) l2 b2) (Ev.pure_ (joined_eq l1 l2 (by omega)) (Ev.pure_ (frame_Sum_eq _ [0] (b1.append b2) (by simp)) ?_))
    have hr := Crc.reg_lt 4294967295 (l1.map Int.toNat) (by decide) (fun x hx => by
      obtain ⟨y, hy, rfl⟩ := List.mem_map.1 hx
      have := b1 y hy
      omega)
    have e : Crc.reg (4294967295 - ((sumL l1 : Nat) : Int).toNat) (l2.map Int.toNat) = Crc.reg 4294967295 ((l1 ++ l2).map Int.toNat) := by
      rw [List.map_append, Crc.reg_append, Int.toNat_natCast]
      congr 1
      unfold sumL
      omega
    rw [e]
    have e2 : ((4294967295 - Crc.reg 4294967295 ((l1 ++ l2).map Int.toNat) : Nat) : Int) = ((sumL (l1 ++ l2) : Nat) : Int) := rfl
    rw [e2]
    refine Ev.congr (fun k => if_pos rfl) ?_
    refine Ev.pure_ (Add_eq a0 h0 h1 [] (fun x hx => by cases hx)) ?_
    have e3 : ((4294967295 - Crc.reg (4294967295 - a0.toNat) (([] : List Int).map Int.toNat) : Nat) : Int) = a0 := by
      simp only [List.map_nil, Crc.reg]
      omega
    rw [e3]
    simp only [beq_self_eq_true]
    exact Ev.now _
end Go.Proofs.YtgfinjhhkmflfaaDoor.PF
