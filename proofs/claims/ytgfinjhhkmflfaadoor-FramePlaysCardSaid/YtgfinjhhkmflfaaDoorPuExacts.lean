/- The pure statements of FrameWraps, FrameUnwraps and FrameExacts; conditions: what the row's reading gives. (Plain Lean.) -/
import Derived.Test.YtgfinjhhkmflfaaDoorLb
import Derived.Test.YtgfinjhhkmflfaaDoorPFx7
namespace Go.Proofs.YtgfinjhhkmflfaaDoor.PF
open Go.RowKit Go.Proofs.YtgfinjhhkmflfaaDoorW.PrintWords Go.Proofs.YtgfinjhhkmflfaaDoorW.PrintLast Go.Proofs.YtgfinjhhkmflfaaDoorW.PrintMore
set_option linter.unusedVariables false
theorem frame_Wrap_eq (l : List Int) (hb : Bytes l) : frame_Wrap.f l [0] = some (if l.length > 32768 then ([], 10) else (wrapL l, 0)) := by
  unfold frame_Wrap.f
  rw [if_pos ⟨hb, by simp⟩]
  split <;> rfl
theorem wrapL_len (l : List Int) : (wrapL l).length = l.length + 8 := by
  unfold wrapL le2
  simp
theorem unwrapP_len (l : List Int) : (unwrapP l).1.length ≤ l.length := by
  unfold unwrapP
  split
  · simp
  · simp; omega
theorem exactP_len (l : List Int) : (exactP l).1.length ≤ l.length := by
  unfold exactP
  split
  · simp
  · split
    · simp
    · simp; omega
theorem FrameWraps_pure (l0 : List Int) (y0 : l0.length * 1 ≤ 140737488351232) (hw0 : ∀ x ∈ l0, (Lit.int .u8 x).wf = true) : ∃ k, eddylaw1_FrameWraps.f k l0 [0] = some true := by
  have b0 := bytes_of_wf hw0
  apply Ev.rounds
  unfold eddylaw1_FrameWraps.f
  by_cases hbig : (l0.length : Int) > 131072
  · simp only [if_pos hbig]
    exact Ev.now _
  · simp only [if_neg hbig]
    refine Ev.bind (refWrap l0 b0 (by omega)) (Ev.pure_ (frame_Wrap_eq l0 b0) (Ev.pure_ rfl ?_))
    refine Ev.congr (fun k => if_pos rfl) ?_
    refine Ev.bind (same_eq _ ?_) (Ev.now _)
    split
    · simp
    · rw [wrapL_len]; omega
theorem FrameUnwraps_pure (l0 : List Int) (y0 : l0.length * 1 ≤ 140737488351232) (hw0 : ∀ x ∈ l0, (Lit.int .u8 x).wf = true) : ∃ k, eddylaw1_FrameUnwraps.f k l0 [0] = some true := by
  have b0 := bytes_of_wf hw0
  apply Ev.rounds
  unfold eddylaw1_FrameUnwraps.f
  by_cases hbig : (l0.length : Int) > 131072
  · simp only [if_pos hbig]
    exact Ev.now _
  · simp only [if_neg hbig]
    refine Ev.bind (refUnwrap l0 b0 (by omega)) (Ev.pure_ (frame_Unwrap_eq l0 b0 (by omega)) (Ev.pure_ rfl ?_))
    refine Ev.congr (fun k => if_pos rfl) ?_
    refine Ev.congr (fun k => if_pos rfl) ?_
    refine Ev.bind (same_eq _ ?_) (Ev.now _)
    have := unwrapP_len l0
    omega
theorem FrameExacts_pure (l0 : List Int) (y0 : l0.length * 1 ≤ 140737488351232) (hw0 : ∀ x ∈ l0, (Lit.int .u8 x).wf = true) : ∃ k, eddylaw1_FrameExacts.f k l0 [0] = some true := by
  have b0 := bytes_of_wf hw0
  apply Ev.rounds
  unfold eddylaw1_FrameExacts.f
  by_cases hbig : (l0.length : Int) > 131072
  · simp only [if_pos hbig]
    exact Ev.now _
  · simp only [if_neg hbig]
    refine Ev.bind (refExact l0 b0 (by omega)) (Ev.pure_ (frame_Exact_eq l0 b0) (Ev.pure_ rfl ?_))
    refine Ev.congr (fun k => if_pos rfl) ?_
    refine Ev.bind (same_eq _ ?_) (Ev.now _)
    have := exactP_len l0
    omega
end Go.Proofs.YtgfinjhhkmflfaaDoor.PF
