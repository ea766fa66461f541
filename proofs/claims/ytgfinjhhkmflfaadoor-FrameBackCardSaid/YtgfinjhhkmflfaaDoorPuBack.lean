/- The pure statement of FrameBack: what is wrapped comes back, whatever stands behind it; conditions: what the row's reading gives. (Plain Lean.) -/
import Derived.Test.YtgfinjhhkmflfaaDoorLd
import Derived.Test.YtgfinjhhkmflfaaDoorPFx12
namespace Go.Proofs.YtgfinjhhkmflfaaDoor.PF
open Go.RowKit Go.Proofs.YtgfinjhhkmflfaaDoorW.PrintWords Go.Proofs.YtgfinjhhkmflfaaDoorW.PrintLast Go.Proofs.YtgfinjhhkmflfaaDoorW.PrintMore
set_option linter.unusedVariables false
theorem FrameBack_pure (l0 : List Int) (y0 : l0.length * 1 ≤ 140737488351232) (hw0 : ∀ x ∈ l0, (Lit.int .u8 x).wf = true) (l1 : List Int) (y1 : l1.length * 1 ≤ 140737488351232) (hw1 : ∀ x ∈ l1, (Lit.int .u8 x).wf = true) :
    ∃ k, eddylaw1_FrameBack.f k l0 l1 [0] = some true := by
  have b0 := bytes_of_wf hw0
  have b1 := bytes_of_wf hw1
  apply Ev.rounds
  unfold eddylaw1_FrameBack.f
  rw [w64 (x := (l0.length : Int) + (l1.length : Int)) (by omega) (by omega)]
  by_cases hbig : (l0.length : Int) + (l1.length : Int) > 131072
  · simp only [if_pos hbig]
    exact Ev.now _
  · simp only [if_neg hbig]
    refine Ev.pure_ (frame_Wrap_eq l0 b0) ?_
    by_cases hl : l0.length > 32768
    · simp only [if_pos hl, if_pos (show (l0.length : Int) > 32768 by omega)]
      exact Ev.pure_ (r := true) rfl (Ev.now _)
    · simp only [if_neg hl, if_neg (show ¬ (l0.length : Int) > 32768 by omega)]
      refine Ev.pure_ rfl ?_
      refine Ev.congr (fun k => if_pos rfl) ?_
      have hwb := wrapL_bytes l0 b0 (by omega)
      rw [w64 (x := (l0.length : Int) + 8) (by omega) (by omega), show ((wrapL l0).length : Int) = (l0.length : Int) + 8 by rw [wrapL_len]; omega, bne_self_eq_false]
      apply Ev.step
      · intro k
        simp only [eddylaw1_FrameBack.j0, Bool.false_eq_true, if_false]
        exact rfl
      have hj := joined_eq (wrapL l0) l1 (by rw [wrapL_len]; omega)
      have hjl : (wrapL l0 ++ l1).length < 2 ^ 40 := by rw [List.length_append, wrapL_len]; omega
      refine Ev.pure_ hj ?_
      have hU := frame_Unwrap_eq (wrapL l0 ++ l1) (hwb.append b1) hjl
      rw [unwrapP_wrap l0 l1 b0 b1 (by omega)] at hU
      refine Ev.pure_ hU (Ev.pure_ rfl ?_)
      refine Ev.congr (fun k => if_pos rfl) ?_
      refine Ev.congr (fun k => if_pos (by show (l0.length : Int) + 8 = _; rw [wrapL_len]; omega)) ?_
      refine Ev.bind (same_eq l0 (by omega)) ?_
      apply Ev.step
      · intro k
        simp only [eddylaw1_FrameBack.j1, Bool.not_true, Bool.false_eq_true, if_false]
        exact rfl
      refine Ev.pure_ hj ?_
      have hE := frame_Exact_eq (wrapL l0 ++ l1) (hwb.append b1)
      rw [exactP_wrap l0 l1 b0 b1 (by omega)] at hE
      refine Ev.pure_ hE ?_
      by_cases hr : 0 < l1.length
      · simp only [if_pos hr, if_pos (show (l1.length : Int) > 0 by omega)]
        exact Ev.pure_ (r := true) rfl (Ev.now _)
      · simp only [if_neg hr, if_neg (show ¬ (l1.length : Int) > 0 by omega)]
        refine Ev.pure_ rfl ?_
        refine Ev.congr (fun k => if_pos rfl) ?_
        exact Ev.bind (same_eq l0 (by omega)) (Ev.now _)
end Go.Proofs.YtgfinjhhkmflfaaDoor.PF
