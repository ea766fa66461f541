/- The pure statement of FrameWalk: Scan is what Unwrap says, again and again; conditions: what the row's reading gives. (Plain Lean.) -/
import Derived.Test.YtgfinjhhkmflfaaDoorLc
import Derived.Test.YtgfinjhhkmflfaaDoorPFx9
namespace Go.Proofs.YtgfinjhhkmflfaaDoor.PF
open Go.RowKit Go.Proofs.YtgfinjhhkmflfaaDoorW.PrintWords Go.Proofs.YtgfinjhhkmflfaaDoorW.PrintLast Go.Proofs.YtgfinjhhkmflfaaDoorW.PrintMore
set_option linter.unusedVariables false
theorem walk_l0 (l : List Int) (hb : Bytes l) (hl : l.length < 2 ^ 40) : ∀ (f i : Nat) (acc : List (List Int)), i ≤ l.length → l.length - i ≤ f → acc.length + (l.length - i) < 2 ^ 50 →
    Ev (fun k => eddylaw1_FrameWalk.l0 k l (acc ++ (scanP f (l.drop i)).1) ((i : Int) + (scanP f (l.drop i)).2.1) (scanP f (l.drop i)).2.2 (i : Int) (acc.length : Int) [0]) true := by
  intro f
  induction f with
  | zero =>
    intro i acc hi hf hacc
    obtain rfl : i = l.length := by omega
    rw [show scanP 0 (l.drop l.length) = ([], 0, 0) from rfl, List.append_nil, Int.add_zero]
    apply Ev.step
    · intro k
      simp only [eddylaw1_FrameWalk.l0]
      rw [if_neg (by omega)]
    · refine Ev.pure_ rfl ?_
      refine Ev.congr (fun k => if_pos (by first | rfl | trivial)) ?_
      refine Ev.congr (fun k => if_pos (by first | rfl | trivial)) ?_
      rw [beq_self_eq_true]
      exact Ev.now _
  | succ f ih =>
    intro i acc hi hf hacc
    rcases Nat.lt_or_ge i l.length with hlt | hge
    · have hne : l.drop i ≠ [] := by
        intro h
        have := congrArg List.length h
        simp at this
        omega
      have hbd := hb.drop i
      have hld : (l.drop i).length = l.length - i := List.length_drop
      have hF := frame_Unwrap_eq (l.drop i) hbd (by omega)
      rcases unwrapP_cases (l.drop i) hbd with ⟨n, hn, hn1, hn2⟩ | ⟨e, he, hee⟩
      · rw [scanP_one f _ hne _ n hn]
        rw [hn] at hF
        rw [hld] at hn2
        have h := ih (i + (n + 8)) (acc ++ [((l.drop i).drop 4).take n]) (by omega) (by omega) (by simp; omega)
        rw [← List.drop_drop, List.append_assoc, List.singleton_append, List.length_append, List.length_singleton] at h
        have ec : ((i + (n + 8) : Nat) : Int) + (scanP f ((l.drop i).drop (n + 8))).2.1 = (i : Int) + ((n : Int) + 8 + (scanP f ((l.drop i).drop (n + 8))).2.1) := by omega
        rw [ec] at h
        have hrd : rd_L2 (acc ++ ((l.drop i).drop 4).take n :: (scanP f ((l.drop i).drop (n + 8))).1) (acc.length : Int) = ((l.drop i).drop 4).take n := by
          rw [rd_L2_nat _ _ (by simp)]
          simp
        apply Ev.step
        · intro k
          simp only [eddylaw1_FrameWalk.l0]
          rw [if_pos (by omega), if_pos (by omega), if_pos (by omega), Int.toNat_natCast, hF, Option.bind_some]
        · refine Ev.pure_ rfl ?_
          dsimp only
          rw [w64 (x := (l.length : Int) - (i : Int)) (by omega) (by omega), w64 (x := (i : Int) + ((n : Int) + 8)) (by omega) (by omega), w64 (x := (acc.length : Int) + 1) (by omega) (by omega), hrd]
          refine Ev.congr (fun k => if_pos (by first | rfl | trivial)) ?_
          refine Ev.congr (fun k => if_neg (by omega)) ?_
          refine Ev.congr (fun k => if_neg (by omega)) ?_
          refine Ev.congr (fun k => if_neg (by simp; omega)) ?_
          refine Ev.congr (fun k => if_pos (by omega)) ?_
          refine Ev.congr (fun k => if_pos (by simp; omega)) ?_
          refine Ev.bind (same_eq _ (by simp; omega)) ?_
          refine Ev.congr (fun k => if_pos (by first | rfl | trivial)) ?_
          exact h
      · have hne0 : e ≠ 0 := by omega
        rw [scanP_err f _ hne e he hne0, List.append_nil, Int.add_zero]
        rw [he] at hF
        apply Ev.step
        · intro k
          simp only [eddylaw1_FrameWalk.l0]
          rw [if_pos (by omega), if_pos (by omega), if_pos (by omega), Int.toNat_natCast, hF, Option.bind_some]
        · refine Ev.pure_ rfl ?_
          refine Ev.congr (fun k => if_neg hne0) ?_
          refine Ev.pure_ rfl (Ev.pure_ rfl ?_)
          refine Ev.congr (fun k => if_pos (by first | rfl | trivial)) ?_
          refine Ev.congr (fun k => if_pos (by first | rfl | trivial)) ?_
          rw [beq_self_eq_true]
          exact Ev.now _
    · obtain rfl : i = l.length := by omega
      rw [List.drop_length, scanP_nil, List.append_nil, Int.add_zero]
      apply Ev.step
      · intro k
        simp only [eddylaw1_FrameWalk.l0]
        rw [if_neg (by omega)]
      · refine Ev.pure_ rfl ?_
        refine Ev.congr (fun k => if_pos (by first | rfl | trivial)) ?_
        refine Ev.congr (fun k => if_pos (by first | rfl | trivial)) ?_
        rw [beq_self_eq_true]
        exact Ev.now _
theorem FrameWalk_pure (l0 : List Int) (y0 : l0.length * 1 ≤ 140737488351232) (hw0 : ∀ x ∈ l0, (Lit.int .u8 x).wf = true) : ∃ k, eddylaw1_FrameWalk.f k l0 [0] = some true := by
  have b0 := bytes_of_wf hw0
  apply Ev.rounds
  unfold eddylaw1_FrameWalk.f
  by_cases hbig : (l0.length : Int) > 131072
  · simp only [if_pos hbig]
    exact Ev.now _
  · simp only [if_neg hbig]
    refine Ev.pure_ unwraps_eq ?_
    refine Ev.congr (fun k => if_pos (by first | rfl | trivial)) ?_
    obtain ⟨h1, h2⟩ := scan_f l0 b0 (by omega)
    have h := walk_l0 l0 b0 (by omega) l0.length 0 [] (by omega) (by omega) (by simp; omega)
    simp only [List.drop_zero, List.nil_append, Int.natCast_zero, Int.zero_add, List.length_nil] at h
    exact Ev.bind h1 h
end Go.Proofs.YtgfinjhhkmflfaaDoor.PF
