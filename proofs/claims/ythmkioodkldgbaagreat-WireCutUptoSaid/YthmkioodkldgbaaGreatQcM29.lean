/- eddylaw4.get, where the kind is 3; conditions: those in each theorem. -/
import Derived.Test.YthmkioodkldgbaaGreatQcM28
namespace Go.Proofs.YthmkioodkldgbaaGreat.DK
open Go.Proofs.YthmkioodkldgbaaGreat.PD
open Go.RowKit Go.Proofs.YthmkioodkldgbaaGreatW.PrintWords Go.Proofs.YthmkioodkldgbaaGreatW.PrintLast Go.Proofs.YthmkioodkldgbaaGreatW.PrintMore
set_option linter.unusedVariables false
set_option linter.unusedSimpArgs false
set_option maxRecDepth 100000
section
variable {w : World} {b0 : Nat} {A : Option Addr} {c : Nat} {l : List Int} {k : Int}
set_option maxHeartbeats 40000000 in
theorem get3_calls (h2 : ¬ k = 2) (h3 : k = 3) (hi : In (Kd.int .u8) b0 w A l) (hc : l.length ≤ c) (hr : ∀ x ∈ l, 0 ≤ x ∧ x ≤ 255) : Calls Tryz.prog 11 #[.int .i64 k, .slice A l.length c] w (GetP w (pGet k l)) := by
 have HI := Aside0.mk (In.mk hi.C (Nat.le_refl _))
 have HC := Aside0.mk hc
 have HRG := Aside0.mk hr
 clear hi hc hr
 have h2b : (k == 2) = false := by simpa using h2
 have H2 := Aside0.mk h2
 clear h2
 have h3b : (k == 3) = true := by simpa using h3
 have H3 := Aside0.mk h3
 clear h3
 go_enter Tryz.func11, Tryz.ntmps11
 have hN0 : ((w.alloc (.cells #[.int .i64 0, .string ⟨#[]⟩, .int .i64 0, .int .i64 0, .string ⟨#[]⟩, .slice none 0 0, .slice none 0 0, .int .i64 0, .slice none 0 0, .int .i64 0, .int .i64 0, .int .i64 0, .int .u32 0, .int .i64 0, .slice none 0 0, .int .i64 0, .slice none 0 0, .slice none 0 0, .slice none 0 0, .slice none 0 0, .int .i64 0, .int .u32 0, .slice none 0 0, .int .i64 0, .string ⟨#[]⟩, .int .i64 0, .int .i64 0, .string ⟨#[]⟩, .slice none 0 0, .slice none 0 0] 45)).alloc (.cells #[.int .i64 0, .string ⟨#[]⟩, .int .i64 0, .int .i64 0, .string ⟨#[]⟩, .slice none 0 0, .slice none 0 0, .int .i64 0, .slice none 0 0, .int .i64 0, .int .i64 0, .int .i64 0, .int .u32 0, .int .i64 0, .slice none 0 0, .int .i64 0, .slice none 0 0, .slice none 0 0, .slice none 0 0, .slice none 0 0, .int .i64 0, .int .u32 0, .slice none 0 0, .int .i64 0, .string ⟨#[]⟩, .int .i64 0, .int .i64 0, .string ⟨#[]⟩, .slice none 0 0, .slice none 0 0] 45)).heap[w.heap.size + 1]? = some (.cells #[.int .i64 0, .string ⟨#[]⟩, .int .i64 0, .int .i64 0, .string ⟨#[]⟩, .slice none 0 0, .slice none 0 0, .int .i64 0, .slice none 0 0, .int .i64 0, .int .i64 0, .int .i64 0, .int .u32 0, .int .i64 0, .slice none 0 0, .int .i64 0, .slice none 0 0, .slice none 0 0, .slice none 0 0, .slice none 0 0, .int .i64 0, .int .u32 0, .slice none 0 0, .int .i64 0, .string ⟨#[]⟩, .int .i64 0, .int .i64 0, .string ⟨#[]⟩, .slice none 0 0, .slice none 0 0] 45 (0, 0)) := new_at _ _ _ (by rw [size_alloc])
 have HN0 := Aside0.mk hN0
 clear hN0
 go_wp2_with (refine wpList_store_row ?z3_1 45 (.tmp 6) (.tmp 9) ?z3_2 ?z3_3 (w.heap.size + 1) ?z3_4 45 (#[.int .i64 0, .string ⟨#[]⟩, .int .i64 0, .int .i64 0, .string ⟨#[]⟩, .slice none 0 0, .slice none 0 0, .int .i64 0, .slice none 0 0, .int .i64 0, .int .i64 0, .int .i64 0, .int .u32 0, .int .i64 0, .slice none 0 0, .int .i64 0, .slice none 0 0, .slice none 0 0, .slice none 0 0, .slice none 0 0, .int .i64 0, .int .u32 0, .slice none 0 0, .int .i64 0, .string ⟨#[]⟩, .int .i64 0, .int .i64 0, .string ⟨#[]⟩, .slice none 0 0, .slice none 0 0]) [.int .i64 k, .string ⟨#[]⟩, .int .i64 0, .int .i64 0, .string ⟨#[]⟩, .slice none 0 0, .slice none 0 0, .int .i64 0, .slice none 0 0, .int .i64 0, .int .i64 0, .int .i64 0, .int .u32 0, .int .i64 0, .slice none 0 0, .int .i64 0, .slice none 0 0, .slice none 0 0, .slice none 0 0, .slice none 0 0, .int .i64 0, .int .u32 0, .slice none 0 0, .int .i64 0, .string ⟨#[]⟩, .int .i64 0, .int .i64 0, .string ⟨#[]⟩, .slice none 0 0, .slice none 0 0] ?z3_5 ?z3_6 ?z3_7 ?z3_8 ?z3_9 ?z3_0; (case z3_2 => rfl); (case z3_1 => rfl); (case z3_3 => rfl); (case z3_4 => rfl); (case z3_5 => rfl); (case z3_6 => exact HN0.out); (case z3_7 => rfl); (case z3_8 => exact size46); (case z3_9 => simp [Value.oneCell']))
 obtain ⟨hY0, hW2, hW3⟩ := filln HN0.out [.int .i64 k, .string ⟨#[]⟩, .int .i64 0, .int .i64 0, .string ⟨#[]⟩, .slice none 0 0, .slice none 0 0, .int .i64 0, .slice none 0 0, .int .i64 0, .int .i64 0, .int .i64 0, .int .u32 0, .int .i64 0, .slice none 0 0, .int .i64 0, .slice none 0 0, .slice none 0 0, .slice none 0 0, .slice none 0 0, .int .i64 0, .int .u32 0, .slice none 0 0, .int .i64 0, .string ⟨#[]⟩, .int .i64 0, .int .i64 0, .string ⟨#[]⟩, .slice none 0 0, .slice none 0 0] rfl
 have hB0 : Below w.heap.size w (sets ((w.alloc (.cells #[.int .i64 0, .string ⟨#[]⟩, .int .i64 0, .int .i64 0, .string ⟨#[]⟩, .slice none 0 0, .slice none 0 0, .int .i64 0, .slice none 0 0, .int .i64 0, .int .i64 0, .int .i64 0, .int .u32 0, .int .i64 0, .slice none 0 0, .int .i64 0, .slice none 0 0, .slice none 0 0, .slice none 0 0, .slice none 0 0, .int .i64 0, .int .u32 0, .slice none 0 0, .int .i64 0, .string ⟨#[]⟩, .int .i64 0, .int .i64 0, .string ⟨#[]⟩, .slice none 0 0, .slice none 0 0] 45)).alloc (.cells #[.int .i64 0, .string ⟨#[]⟩, .int .i64 0, .int .i64 0, .string ⟨#[]⟩, .slice none 0 0, .slice none 0 0, .int .i64 0, .slice none 0 0, .int .i64 0, .int .i64 0, .int .i64 0, .int .u32 0, .int .i64 0, .slice none 0 0, .int .i64 0, .slice none 0 0, .slice none 0 0, .slice none 0 0, .slice none 0 0, .int .i64 0, .int .u32 0, .slice none 0 0, .int .i64 0, .string ⟨#[]⟩, .int .i64 0, .int .i64 0, .string ⟨#[]⟩, .slice none 0 0, .slice none 0 0] 45)) (w.heap.size + 1) 0 [.int .i64 k, .string ⟨#[]⟩, .int .i64 0, .int .i64 0, .string ⟨#[]⟩, .slice none 0 0, .slice none 0 0, .int .i64 0, .slice none 0 0, .int .i64 0, .int .i64 0, .int .i64 0, .int .u32 0, .int .i64 0, .slice none 0 0, .int .i64 0, .slice none 0 0, .slice none 0 0, .slice none 0 0, .slice none 0 0, .int .i64 0, .int .u32 0, .slice none 0 0, .int .i64 0, .string ⟨#[]⟩, .int .i64 0, .int .i64 0, .string ⟨#[]⟩, .slice none 0 0, .slice none 0 0]) := (below_alloc (below_alloc (Below.refl _ _) _) _).trans ((hW3.below (Nat.le_of_lt (blk_lt HN0.out))).less (Nat.le_succ _))
 have hX0 := (hW2 w.heap.size (by omega)).trans (blk_alloc (heap_alloc_new w (.cells #[.int .i64 0, .string ⟨#[]⟩, .int .i64 0, .int .i64 0, .string ⟨#[]⟩, .slice none 0 0, .slice none 0 0, .int .i64 0, .slice none 0 0, .int .i64 0, .int .i64 0, .int .i64 0, .int .u32 0, .int .i64 0, .slice none 0 0, .int .i64 0, .slice none 0 0, .slice none 0 0, .slice none 0 0, .slice none 0 0, .int .i64 0, .int .u32 0, .slice none 0 0, .int .i64 0, .string ⟨#[]⟩, .int .i64 0, .int .i64 0, .string ⟨#[]⟩, .slice none 0 0, .slice none 0 0] 45)) (.cells #[.int .i64 0, .string ⟨#[]⟩, .int .i64 0, .int .i64 0, .string ⟨#[]⟩, .slice none 0 0, .slice none 0 0, .int .i64 0, .slice none 0 0, .int .i64 0, .int .i64 0, .int .i64 0, .int .u32 0, .int .i64 0, .slice none 0 0, .int .i64 0, .slice none 0 0, .slice none 0 0, .slice none 0 0, .slice none 0 0, .int .i64 0, .int .u32 0, .slice none 0 0, .int .i64 0, .string ⟨#[]⟩, .int .i64 0, .int .i64 0, .string ⟨#[]⟩, .slice none 0 0, .slice none 0 0] 45))
 clear hW2 hW3 HN0
 generalize (sets ((w.alloc (.cells #[.int .i64 0, .string ⟨#[]⟩, .int .i64 0, .int .i64 0, .string ⟨#[]⟩, .slice none 0 0, .slice none 0 0, .int .i64 0, .slice none 0 0, .int .i64 0, .int .i64 0, .int .i64 0, .int .u32 0, .int .i64 0, .slice none 0 0, .int .i64 0, .slice none 0 0, .slice none 0 0, .slice none 0 0, .slice none 0 0, .int .i64 0, .int .u32 0, .slice none 0 0, .int .i64 0, .string ⟨#[]⟩, .int .i64 0, .int .i64 0, .string ⟨#[]⟩, .slice none 0 0, .slice none 0 0] 45)).alloc (.cells #[.int .i64 0, .string ⟨#[]⟩, .int .i64 0, .int .i64 0, .string ⟨#[]⟩, .slice none 0 0, .slice none 0 0, .int .i64 0, .slice none 0 0, .int .i64 0, .int .i64 0, .int .i64 0, .int .u32 0, .int .i64 0, .slice none 0 0, .int .i64 0, .slice none 0 0, .slice none 0 0, .slice none 0 0, .slice none 0 0, .int .i64 0, .int .u32 0, .slice none 0 0, .int .i64 0, .string ⟨#[]⟩, .int .i64 0, .int .i64 0, .string ⟨#[]⟩, .slice none 0 0, .slice none 0 0] 45)) (w.heap.size + 1) 0 [.int .i64 k, .string ⟨#[]⟩, .int .i64 0, .int .i64 0, .string ⟨#[]⟩, .slice none 0 0, .slice none 0 0, .int .i64 0, .slice none 0 0, .int .i64 0, .int .i64 0, .int .i64 0, .int .u32 0, .int .i64 0, .slice none 0 0, .int .i64 0, .slice none 0 0, .slice none 0 0, .slice none 0 0, .slice none 0 0, .int .i64 0, .int .u32 0, .slice none 0 0, .int .i64 0, .string ⟨#[]⟩, .int .i64 0, .int .i64 0, .string ⟨#[]⟩, .slice none 0 0, .slice none 0 0]) = W0 at *
 refine (GetSeg_calls (HI.out.ext hB0) HC.out HRG.out).mono ?_
 rintro en w1 ⟨x, v5, v7, v8, v9, v10, e, rfl, h5, h7, h8, h9, h10, hb, hq⟩
 have hsz1 := hb.size
 have hw0 := hB0.size
 have hy0 := blk_lt hY0
 obtain ⟨sa5, sn5, sc5, rfl⟩ : ∃ A n c, v5 = .slice A n c := (Kd.R_slice h5).elim (fun A h => h.elim (fun c h => ⟨A, _, c, h⟩))
 obtain ⟨sa7, sn7, sc7, rfl⟩ : ∃ A n c, v7 = .slice A n c := (Kd.R_slice h7).elim (fun A h => h.elim (fun c h => ⟨A, _, c, h⟩))
 obtain ⟨sa8, sn8, sc8, rfl⟩ : ∃ A n c, v8 = .slice A n c := (Kd.R_slice h8).elim (fun A h => h.elim (fun c h => ⟨A, _, c, h⟩))
 obtain ⟨sa9, sn9, sc9, rfl⟩ : ∃ A n c, v9 = .slice A n c := (Kd.R_slice h9).elim (fun A h => h.elim (fun c h => ⟨A, _, c, h⟩))
 obtain ⟨sa10, sn10, sc10, rfl⟩ : ∃ A n c, v10 = .slice A n c := (Kd.R_slice h10).elim (fun A h => h.elim (fun c h => ⟨A, _, c, h⟩))
 have HQ5 := Aside0.mk (Kd.R_lower (base' := w.heap.size + 1 + 1) h5 (by omega))
 clear h5
 have HQ7 := Aside0.mk (Kd.R_lower (base' := w.heap.size + 1 + 1) h7 (by omega))
 clear h7
 have HQ8 := Aside0.mk (Kd.R_lower (base' := w.heap.size + 1 + 1) h8 (by omega))
 clear h8
 have HQ9 := Aside0.mk (Kd.R_lower (base' := w.heap.size + 1 + 1) h9 (by omega))
 clear h9
 have HQ10 := Aside0.mk (Kd.R_lower (base' := w.heap.size + 1 + 1) h10 (by omega))
 clear h10
 have HX := Aside0.mk ((hb.block w.heap.size (by omega)).trans hX0)
 have HY := Aside0.mk ((hb.block (w.heap.size + 1) (by omega)).trans hY0)
 have HB := Aside0.mk (hB0.trans (hb.mono hw0))
 have HE := Aside0.mk hq
 clear hb hq hB0 hX0 hY0
 have j0 := blk_cell HY.out 9
 have g0 := blk_frozen HY.out 9
 have j1 := blk_cell HY.out 10
 have g1 := blk_frozen HY.out 10
 have j2 := blk_cell HY.out 11
 have g2 := blk_frozen HY.out 11
 have j3 := blk_cell HY.out 12
 have g3 := blk_frozen HY.out 12
 have j4 := blk_cell HY.out 13
 have g4 := blk_frozen HY.out 13
 have j5 := blk_cell HY.out 14
 have g5 := blk_frozen HY.out 14
 have j6 := blk_cell HY.out 15
 have g6 := blk_frozen HY.out 15
 have j7 := blk_cell HY.out 16
 have g7 := blk_frozen HY.out 16
 have j8 := blk_cell HY.out 17
 have g8 := blk_frozen HY.out 17
 have j9 := blk_cell HY.out 18
 have g9 := blk_frozen HY.out 18
 have j10 := blk_cell HY.out 19
 have g10 := blk_frozen HY.out 19
 simp only [List.getElem?_toArray, List.getElem?_cons_succ, List.getElem?_cons_zero] at j0 j1 j2 j3 j4 j5 j6 j7 j8 j9 j10
 replace HQ5 := Aside0.mk (Kd.R_mono (ok' := News w) (Kd.R_far (Kd.R_bound HQ5.out) (p := ⟨w.heap.size + 1, 9, none⟩) (fun k hk => Nat.ne_of_gt (Nat.lt_of_succ_le hk.2.1)) (.int .i64 x.id)) (fun _ _ => trivial))
 replace HQ7 := Aside0.mk (Kd.R_mono (ok' := News w) (Kd.R_far (Kd.R_bound HQ7.out) (p := ⟨w.heap.size + 1, 9, none⟩) (fun k hk => Nat.ne_of_gt (Nat.lt_of_succ_le hk.2.1)) (.int .i64 x.id)) (fun _ _ => trivial))
 replace HQ8 := Aside0.mk (Kd.R_mono (ok' := News w) (Kd.R_far (Kd.R_bound HQ8.out) (p := ⟨w.heap.size + 1, 9, none⟩) (fun k hk => Nat.ne_of_gt (Nat.lt_of_succ_le hk.2.1)) (.int .i64 x.id)) (fun _ _ => trivial))
 replace HQ9 := Aside0.mk (Kd.R_mono (ok' := News w) (Kd.R_far (Kd.R_bound HQ9.out) (p := ⟨w.heap.size + 1, 9, none⟩) (fun k hk => Nat.ne_of_gt (Nat.lt_of_succ_le hk.2.1)) (.int .i64 x.id)) (fun _ _ => trivial))
 replace HQ10 := Aside0.mk (Kd.R_mono (ok' := News w) (Kd.R_far (Kd.R_bound HQ10.out) (p := ⟨w.heap.size + 1, 9, none⟩) (fun k hk => Nat.ne_of_gt (Nat.lt_of_succ_le hk.2.1)) (.int .i64 x.id)) (fun _ _ => trivial))
 replace HX := Aside0.mk ((Below.heap_setCell _ ⟨w.heap.size + 1, 9, none⟩ (.int .i64 x.id) w.heap.size (show w.heap.size ≠ w.heap.size + 1 by omega)).trans HX.out)
 replace HB := Aside0.mk (HB.out.trans (((UT.refl [45] (w.heap.size + 1) _).set HY.out (by simp) (Nat.le_refl _) 9 (.int .i64 x.id)).below (Nat.le_of_lt (blk_lt HY.out)) |>.less (Nat.le_succ _)))
 replace HY := Aside0.mk (blk_set (i := 9) (v := .int .i64 x.id) HY.out)
 replace HY := Aside0.mk (show (w1.setCell ⟨w.heap.size + 1, 9, none⟩ (.int .i64 x.id)).heap[w.heap.size + 1]? = some (.cells #[.int .i64 k, .string ⟨#[]⟩, .int .i64 0, .int .i64 0, .string ⟨#[]⟩, .slice none 0 0, .slice none 0 0, .int .i64 0, .slice none 0 0, .int .i64 x.id, .int .i64 0, .int .i64 0, .int .u32 0, .int .i64 0, .slice none 0 0, .int .i64 0, .slice none 0 0, .slice none 0 0, .slice none 0 0, .slice none 0 0, .int .i64 0, .int .u32 0, .slice none 0 0, .int .i64 0, .string ⟨#[]⟩, .int .i64 0, .int .i64 0, .string ⟨#[]⟩, .slice none 0 0, .slice none 0 0] 45 (0, 0)) from HY.out)
 replace HQ5 := Aside0.mk (Kd.R_mono (ok' := News w) (Kd.R_far (Kd.R_bound HQ5.out) (p := ⟨w.heap.size + 1, 10, none⟩) (fun k hk => Nat.ne_of_gt (Nat.lt_of_succ_le hk.2.1)) (.int .i64 x.task)) (fun _ _ => trivial))
 replace HQ7 := Aside0.mk (Kd.R_mono (ok' := News w) (Kd.R_far (Kd.R_bound HQ7.out) (p := ⟨w.heap.size + 1, 10, none⟩) (fun k hk => Nat.ne_of_gt (Nat.lt_of_succ_le hk.2.1)) (.int .i64 x.task)) (fun _ _ => trivial))
 replace HQ8 := Aside0.mk (Kd.R_mono (ok' := News w) (Kd.R_far (Kd.R_bound HQ8.out) (p := ⟨w.heap.size + 1, 10, none⟩) (fun k hk => Nat.ne_of_gt (Nat.lt_of_succ_le hk.2.1)) (.int .i64 x.task)) (fun _ _ => trivial))
 replace HQ9 := Aside0.mk (Kd.R_mono (ok' := News w) (Kd.R_far (Kd.R_bound HQ9.out) (p := ⟨w.heap.size + 1, 10, none⟩) (fun k hk => Nat.ne_of_gt (Nat.lt_of_succ_le hk.2.1)) (.int .i64 x.task)) (fun _ _ => trivial))
 replace HQ10 := Aside0.mk (Kd.R_mono (ok' := News w) (Kd.R_far (Kd.R_bound HQ10.out) (p := ⟨w.heap.size + 1, 10, none⟩) (fun k hk => Nat.ne_of_gt (Nat.lt_of_succ_le hk.2.1)) (.int .i64 x.task)) (fun _ _ => trivial))
 replace HX := Aside0.mk ((Below.heap_setCell _ ⟨w.heap.size + 1, 10, none⟩ (.int .i64 x.task) w.heap.size (show w.heap.size ≠ w.heap.size + 1 by omega)).trans HX.out)
 replace HB := Aside0.mk (HB.out.trans (((UT.refl [45] (w.heap.size + 1) _).set HY.out (by simp) (Nat.le_refl _) 10 (.int .i64 x.task)).below (Nat.le_of_lt (blk_lt HY.out)) |>.less (Nat.le_succ _)))
 replace HY := Aside0.mk (blk_set (i := 10) (v := .int .i64 x.task) HY.out)
 replace HY := Aside0.mk (show ((w1.setCell ⟨w.heap.size + 1, 9, none⟩ (.int .i64 x.id)).setCell ⟨w.heap.size + 1, 10, none⟩ (.int .i64 x.task)).heap[w.heap.size + 1]? = some (.cells #[.int .i64 k, .string ⟨#[]⟩, .int .i64 0, .int .i64 0, .string ⟨#[]⟩, .slice none 0 0, .slice none 0 0, .int .i64 0, .slice none 0 0, .int .i64 x.id, .int .i64 x.task, .int .i64 0, .int .u32 0, .int .i64 0, .slice none 0 0, .int .i64 0, .slice none 0 0, .slice none 0 0, .slice none 0 0, .slice none 0 0, .int .i64 0, .int .u32 0, .slice none 0 0, .int .i64 0, .string ⟨#[]⟩, .int .i64 0, .int .i64 0, .string ⟨#[]⟩, .slice none 0 0, .slice none 0 0] 45 (0, 0)) from HY.out)
 replace HQ5 := Aside0.mk (Kd.R_mono (ok' := News w) (Kd.R_far (Kd.R_bound HQ5.out) (p := ⟨w.heap.size + 1, 11, none⟩) (fun k hk => Nat.ne_of_gt (Nat.lt_of_succ_le hk.2.1)) (.int .i64 x.base)) (fun _ _ => trivial))
 replace HQ7 := Aside0.mk (Kd.R_mono (ok' := News w) (Kd.R_far (Kd.R_bound HQ7.out) (p := ⟨w.heap.size + 1, 11, none⟩) (fun k hk => Nat.ne_of_gt (Nat.lt_of_succ_le hk.2.1)) (.int .i64 x.base)) (fun _ _ => trivial))
 replace HQ8 := Aside0.mk (Kd.R_mono (ok' := News w) (Kd.R_far (Kd.R_bound HQ8.out) (p := ⟨w.heap.size + 1, 11, none⟩) (fun k hk => Nat.ne_of_gt (Nat.lt_of_succ_le hk.2.1)) (.int .i64 x.base)) (fun _ _ => trivial))
 replace HQ9 := Aside0.mk (Kd.R_mono (ok' := News w) (Kd.R_far (Kd.R_bound HQ9.out) (p := ⟨w.heap.size + 1, 11, none⟩) (fun k hk => Nat.ne_of_gt (Nat.lt_of_succ_le hk.2.1)) (.int .i64 x.base)) (fun _ _ => trivial))
 replace HQ10 := Aside0.mk (Kd.R_mono (ok' := News w) (Kd.R_far (Kd.R_bound HQ10.out) (p := ⟨w.heap.size + 1, 11, none⟩) (fun k hk => Nat.ne_of_gt (Nat.lt_of_succ_le hk.2.1)) (.int .i64 x.base)) (fun _ _ => trivial))
 replace HX := Aside0.mk ((Below.heap_setCell _ ⟨w.heap.size + 1, 11, none⟩ (.int .i64 x.base) w.heap.size (show w.heap.size ≠ w.heap.size + 1 by omega)).trans HX.out)
 replace HB := Aside0.mk (HB.out.trans (((UT.refl [45] (w.heap.size + 1) _).set HY.out (by simp) (Nat.le_refl _) 11 (.int .i64 x.base)).below (Nat.le_of_lt (blk_lt HY.out)) |>.less (Nat.le_succ _)))
 replace HY := Aside0.mk (blk_set (i := 11) (v := .int .i64 x.base) HY.out)
 replace HY := Aside0.mk (show (((w1.setCell ⟨w.heap.size + 1, 9, none⟩ (.int .i64 x.id)).setCell ⟨w.heap.size + 1, 10, none⟩ (.int .i64 x.task)).setCell ⟨w.heap.size + 1, 11, none⟩ (.int .i64 x.base)).heap[w.heap.size + 1]? = some (.cells #[.int .i64 k, .string ⟨#[]⟩, .int .i64 0, .int .i64 0, .string ⟨#[]⟩, .slice none 0 0, .slice none 0 0, .int .i64 0, .slice none 0 0, .int .i64 x.id, .int .i64 x.task, .int .i64 x.base, .int .u32 0, .int .i64 0, .slice none 0 0, .int .i64 0, .slice none 0 0, .slice none 0 0, .slice none 0 0, .slice none 0 0, .int .i64 0, .int .u32 0, .slice none 0 0, .int .i64 0, .string ⟨#[]⟩, .int .i64 0, .int .i64 0, .string ⟨#[]⟩, .slice none 0 0, .slice none 0 0] 45 (0, 0)) from HY.out)
 replace HQ5 := Aside0.mk (Kd.R_mono (ok' := News w) (Kd.R_far (Kd.R_bound HQ5.out) (p := ⟨w.heap.size + 1, 12, none⟩) (fun k hk => Nat.ne_of_gt (Nat.lt_of_succ_le hk.2.1)) (.int .u32 x.sum)) (fun _ _ => trivial))
 replace HQ7 := Aside0.mk (Kd.R_mono (ok' := News w) (Kd.R_far (Kd.R_bound HQ7.out) (p := ⟨w.heap.size + 1, 12, none⟩) (fun k hk => Nat.ne_of_gt (Nat.lt_of_succ_le hk.2.1)) (.int .u32 x.sum)) (fun _ _ => trivial))
 replace HQ8 := Aside0.mk (Kd.R_mono (ok' := News w) (Kd.R_far (Kd.R_bound HQ8.out) (p := ⟨w.heap.size + 1, 12, none⟩) (fun k hk => Nat.ne_of_gt (Nat.lt_of_succ_le hk.2.1)) (.int .u32 x.sum)) (fun _ _ => trivial))
 replace HQ9 := Aside0.mk (Kd.R_mono (ok' := News w) (Kd.R_far (Kd.R_bound HQ9.out) (p := ⟨w.heap.size + 1, 12, none⟩) (fun k hk => Nat.ne_of_gt (Nat.lt_of_succ_le hk.2.1)) (.int .u32 x.sum)) (fun _ _ => trivial))
 replace HQ10 := Aside0.mk (Kd.R_mono (ok' := News w) (Kd.R_far (Kd.R_bound HQ10.out) (p := ⟨w.heap.size + 1, 12, none⟩) (fun k hk => Nat.ne_of_gt (Nat.lt_of_succ_le hk.2.1)) (.int .u32 x.sum)) (fun _ _ => trivial))
 replace HX := Aside0.mk ((Below.heap_setCell _ ⟨w.heap.size + 1, 12, none⟩ (.int .u32 x.sum) w.heap.size (show w.heap.size ≠ w.heap.size + 1 by omega)).trans HX.out)
 replace HB := Aside0.mk (HB.out.trans (((UT.refl [45] (w.heap.size + 1) _).set HY.out (by simp) (Nat.le_refl _) 12 (.int .u32 x.sum)).below (Nat.le_of_lt (blk_lt HY.out)) |>.less (Nat.le_succ _)))
 replace HY := Aside0.mk (blk_set (i := 12) (v := .int .u32 x.sum) HY.out)
 replace HY := Aside0.mk (show ((((w1.setCell ⟨w.heap.size + 1, 9, none⟩ (.int .i64 x.id)).setCell ⟨w.heap.size + 1, 10, none⟩ (.int .i64 x.task)).setCell ⟨w.heap.size + 1, 11, none⟩ (.int .i64 x.base)).setCell ⟨w.heap.size + 1, 12, none⟩ (.int .u32 x.sum)).heap[w.heap.size + 1]? = some (.cells #[.int .i64 k, .string ⟨#[]⟩, .int .i64 0, .int .i64 0, .string ⟨#[]⟩, .slice none 0 0, .slice none 0 0, .int .i64 0, .slice none 0 0, .int .i64 x.id, .int .i64 x.task, .int .i64 x.base, .int .u32 x.sum, .int .i64 0, .slice none 0 0, .int .i64 0, .slice none 0 0, .slice none 0 0, .slice none 0 0, .slice none 0 0, .int .i64 0, .int .u32 0, .slice none 0 0, .int .i64 0, .string ⟨#[]⟩, .int .i64 0, .int .i64 0, .string ⟨#[]⟩, .slice none 0 0, .slice none 0 0] 45 (0, 0)) from HY.out)
 replace HQ5 := Aside0.mk (Kd.R_mono (ok' := News w) (Kd.R_far (Kd.R_bound HQ5.out) (p := ⟨w.heap.size + 1, 13, none⟩) (fun k hk => Nat.ne_of_gt (Nat.lt_of_succ_le hk.2.1)) (.int .i64 x.snum)) (fun _ _ => trivial))
 replace HQ7 := Aside0.mk (Kd.R_mono (ok' := News w) (Kd.R_far (Kd.R_bound HQ7.out) (p := ⟨w.heap.size + 1, 13, none⟩) (fun k hk => Nat.ne_of_gt (Nat.lt_of_succ_le hk.2.1)) (.int .i64 x.snum)) (fun _ _ => trivial))
 replace HQ8 := Aside0.mk (Kd.R_mono (ok' := News w) (Kd.R_far (Kd.R_bound HQ8.out) (p := ⟨w.heap.size + 1, 13, none⟩) (fun k hk => Nat.ne_of_gt (Nat.lt_of_succ_le hk.2.1)) (.int .i64 x.snum)) (fun _ _ => trivial))
 replace HQ9 := Aside0.mk (Kd.R_mono (ok' := News w) (Kd.R_far (Kd.R_bound HQ9.out) (p := ⟨w.heap.size + 1, 13, none⟩) (fun k hk => Nat.ne_of_gt (Nat.lt_of_succ_le hk.2.1)) (.int .i64 x.snum)) (fun _ _ => trivial))
 replace HQ10 := Aside0.mk (Kd.R_mono (ok' := News w) (Kd.R_far (Kd.R_bound HQ10.out) (p := ⟨w.heap.size + 1, 13, none⟩) (fun k hk => Nat.ne_of_gt (Nat.lt_of_succ_le hk.2.1)) (.int .i64 x.snum)) (fun _ _ => trivial))
 replace HX := Aside0.mk ((Below.heap_setCell _ ⟨w.heap.size + 1, 13, none⟩ (.int .i64 x.snum) w.heap.size (show w.heap.size ≠ w.heap.size + 1 by omega)).trans HX.out)
 replace HB := Aside0.mk (HB.out.trans (((UT.refl [45] (w.heap.size + 1) _).set HY.out (by simp) (Nat.le_refl _) 13 (.int .i64 x.snum)).below (Nat.le_of_lt (blk_lt HY.out)) |>.less (Nat.le_succ _)))
 replace HY := Aside0.mk (blk_set (i := 13) (v := .int .i64 x.snum) HY.out)
 replace HY := Aside0.mk (show (((((w1.setCell ⟨w.heap.size + 1, 9, none⟩ (.int .i64 x.id)).setCell ⟨w.heap.size + 1, 10, none⟩ (.int .i64 x.task)).setCell ⟨w.heap.size + 1, 11, none⟩ (.int .i64 x.base)).setCell ⟨w.heap.size + 1, 12, none⟩ (.int .u32 x.sum)).setCell ⟨w.heap.size + 1, 13, none⟩ (.int .i64 x.snum)).heap[w.heap.size + 1]? = some (.cells #[.int .i64 k, .string ⟨#[]⟩, .int .i64 0, .int .i64 0, .string ⟨#[]⟩, .slice none 0 0, .slice none 0 0, .int .i64 0, .slice none 0 0, .int .i64 x.id, .int .i64 x.task, .int .i64 x.base, .int .u32 x.sum, .int .i64 x.snum, .slice none 0 0, .int .i64 0, .slice none 0 0, .slice none 0 0, .slice none 0 0, .slice none 0 0, .int .i64 0, .int .u32 0, .slice none 0 0, .int .i64 0, .string ⟨#[]⟩, .int .i64 0, .int .i64 0, .string ⟨#[]⟩, .slice none 0 0, .slice none 0 0] 45 (0, 0)) from HY.out)
 replace HQ5 := Aside0.mk (Kd.R_mono (ok' := News w) (Kd.R_far (Kd.R_bound HQ5.out) (p := ⟨w.heap.size + 1, 14, none⟩) (fun k hk => Nat.ne_of_gt (Nat.lt_of_succ_le hk.2.1)) (.slice sa5 sn5 sc5)) (fun _ _ => trivial))
 replace HQ7 := Aside0.mk (Kd.R_mono (ok' := News w) (Kd.R_far (Kd.R_bound HQ7.out) (p := ⟨w.heap.size + 1, 14, none⟩) (fun k hk => Nat.ne_of_gt (Nat.lt_of_succ_le hk.2.1)) (.slice sa5 sn5 sc5)) (fun _ _ => trivial))
 replace HQ8 := Aside0.mk (Kd.R_mono (ok' := News w) (Kd.R_far (Kd.R_bound HQ8.out) (p := ⟨w.heap.size + 1, 14, none⟩) (fun k hk => Nat.ne_of_gt (Nat.lt_of_succ_le hk.2.1)) (.slice sa5 sn5 sc5)) (fun _ _ => trivial))
 replace HQ9 := Aside0.mk (Kd.R_mono (ok' := News w) (Kd.R_far (Kd.R_bound HQ9.out) (p := ⟨w.heap.size + 1, 14, none⟩) (fun k hk => Nat.ne_of_gt (Nat.lt_of_succ_le hk.2.1)) (.slice sa5 sn5 sc5)) (fun _ _ => trivial))
 replace HQ10 := Aside0.mk (Kd.R_mono (ok' := News w) (Kd.R_far (Kd.R_bound HQ10.out) (p := ⟨w.heap.size + 1, 14, none⟩) (fun k hk => Nat.ne_of_gt (Nat.lt_of_succ_le hk.2.1)) (.slice sa5 sn5 sc5)) (fun _ _ => trivial))
 replace HX := Aside0.mk ((Below.heap_setCell _ ⟨w.heap.size + 1, 14, none⟩ (.slice sa5 sn5 sc5) w.heap.size (show w.heap.size ≠ w.heap.size + 1 by omega)).trans HX.out)
 replace HB := Aside0.mk (HB.out.trans (((UT.refl [45] (w.heap.size + 1) _).set HY.out (by simp) (Nat.le_refl _) 14 (.slice sa5 sn5 sc5)).below (Nat.le_of_lt (blk_lt HY.out)) |>.less (Nat.le_succ _)))
 replace HY := Aside0.mk (blk_set (i := 14) (v := .slice sa5 sn5 sc5) HY.out)
 replace HY := Aside0.mk (show ((((((w1.setCell ⟨w.heap.size + 1, 9, none⟩ (.int .i64 x.id)).setCell ⟨w.heap.size + 1, 10, none⟩ (.int .i64 x.task)).setCell ⟨w.heap.size + 1, 11, none⟩ (.int .i64 x.base)).setCell ⟨w.heap.size + 1, 12, none⟩ (.int .u32 x.sum)).setCell ⟨w.heap.size + 1, 13, none⟩ (.int .i64 x.snum)).setCell ⟨w.heap.size + 1, 14, none⟩ (.slice sa5 sn5 sc5)).heap[w.heap.size + 1]? = some (.cells #[.int .i64 k, .string ⟨#[]⟩, .int .i64 0, .int .i64 0, .string ⟨#[]⟩, .slice none 0 0, .slice none 0 0, .int .i64 0, .slice none 0 0, .int .i64 x.id, .int .i64 x.task, .int .i64 x.base, .int .u32 x.sum, .int .i64 x.snum, .slice sa5 sn5 sc5, .int .i64 0, .slice none 0 0, .slice none 0 0, .slice none 0 0, .slice none 0 0, .int .i64 0, .int .u32 0, .slice none 0 0, .int .i64 0, .string ⟨#[]⟩, .int .i64 0, .int .i64 0, .string ⟨#[]⟩, .slice none 0 0, .slice none 0 0] 45 (0, 0)) from HY.out)
 replace HQ5 := Aside0.mk (Kd.R_mono (ok' := News w) (Kd.R_far (Kd.R_bound HQ5.out) (p := ⟨w.heap.size + 1, 15, none⟩) (fun k hk => Nat.ne_of_gt (Nat.lt_of_succ_le hk.2.1)) (.int .i64 x.dnum)) (fun _ _ => trivial))
 replace HQ7 := Aside0.mk (Kd.R_mono (ok' := News w) (Kd.R_far (Kd.R_bound HQ7.out) (p := ⟨w.heap.size + 1, 15, none⟩) (fun k hk => Nat.ne_of_gt (Nat.lt_of_succ_le hk.2.1)) (.int .i64 x.dnum)) (fun _ _ => trivial))
 replace HQ8 := Aside0.mk (Kd.R_mono (ok' := News w) (Kd.R_far (Kd.R_bound HQ8.out) (p := ⟨w.heap.size + 1, 15, none⟩) (fun k hk => Nat.ne_of_gt (Nat.lt_of_succ_le hk.2.1)) (.int .i64 x.dnum)) (fun _ _ => trivial))
 replace HQ9 := Aside0.mk (Kd.R_mono (ok' := News w) (Kd.R_far (Kd.R_bound HQ9.out) (p := ⟨w.heap.size + 1, 15, none⟩) (fun k hk => Nat.ne_of_gt (Nat.lt_of_succ_le hk.2.1)) (.int .i64 x.dnum)) (fun _ _ => trivial))
 replace HQ10 := Aside0.mk (Kd.R_mono (ok' := News w) (Kd.R_far (Kd.R_bound HQ10.out) (p := ⟨w.heap.size + 1, 15, none⟩) (fun k hk => Nat.ne_of_gt (Nat.lt_of_succ_le hk.2.1)) (.int .i64 x.dnum)) (fun _ _ => trivial))
 replace HX := Aside0.mk ((Below.heap_setCell _ ⟨w.heap.size + 1, 15, none⟩ (.int .i64 x.dnum) w.heap.size (show w.heap.size ≠ w.heap.size + 1 by omega)).trans HX.out)
 replace HB := Aside0.mk (HB.out.trans (((UT.refl [45] (w.heap.size + 1) _).set HY.out (by simp) (Nat.le_refl _) 15 (.int .i64 x.dnum)).below (Nat.le_of_lt (blk_lt HY.out)) |>.less (Nat.le_succ _)))
 replace HY := Aside0.mk (blk_set (i := 15) (v := .int .i64 x.dnum) HY.out)
 replace HY := Aside0.mk (show (((((((w1.setCell ⟨w.heap.size + 1, 9, none⟩ (.int .i64 x.id)).setCell ⟨w.heap.size + 1, 10, none⟩ (.int .i64 x.task)).setCell ⟨w.heap.size + 1, 11, none⟩ (.int .i64 x.base)).setCell ⟨w.heap.size + 1, 12, none⟩ (.int .u32 x.sum)).setCell ⟨w.heap.size + 1, 13, none⟩ (.int .i64 x.snum)).setCell ⟨w.heap.size + 1, 14, none⟩ (.slice sa5 sn5 sc5)).setCell ⟨w.heap.size + 1, 15, none⟩ (.int .i64 x.dnum)).heap[w.heap.size + 1]? = some (.cells #[.int .i64 k, .string ⟨#[]⟩, .int .i64 0, .int .i64 0, .string ⟨#[]⟩, .slice none 0 0, .slice none 0 0, .int .i64 0, .slice none 0 0, .int .i64 x.id, .int .i64 x.task, .int .i64 x.base, .int .u32 x.sum, .int .i64 x.snum, .slice sa5 sn5 sc5, .int .i64 x.dnum, .slice none 0 0, .slice none 0 0, .slice none 0 0, .slice none 0 0, .int .i64 0, .int .u32 0, .slice none 0 0, .int .i64 0, .string ⟨#[]⟩, .int .i64 0, .int .i64 0, .string ⟨#[]⟩, .slice none 0 0, .slice none 0 0] 45 (0, 0)) from HY.out)
 replace HQ5 := Aside0.mk (Kd.R_mono (ok' := News w) (Kd.R_far (Kd.R_bound HQ5.out) (p := ⟨w.heap.size + 1, 16, none⟩) (fun k hk => Nat.ne_of_gt (Nat.lt_of_succ_le hk.2.1)) (.slice sa7 sn7 sc7)) (fun _ _ => trivial))
 replace HQ7 := Aside0.mk (Kd.R_mono (ok' := News w) (Kd.R_far (Kd.R_bound HQ7.out) (p := ⟨w.heap.size + 1, 16, none⟩) (fun k hk => Nat.ne_of_gt (Nat.lt_of_succ_le hk.2.1)) (.slice sa7 sn7 sc7)) (fun _ _ => trivial))
 replace HQ8 := Aside0.mk (Kd.R_mono (ok' := News w) (Kd.R_far (Kd.R_bound HQ8.out) (p := ⟨w.heap.size + 1, 16, none⟩) (fun k hk => Nat.ne_of_gt (Nat.lt_of_succ_le hk.2.1)) (.slice sa7 sn7 sc7)) (fun _ _ => trivial))
 replace HQ9 := Aside0.mk (Kd.R_mono (ok' := News w) (Kd.R_far (Kd.R_bound HQ9.out) (p := ⟨w.heap.size + 1, 16, none⟩) (fun k hk => Nat.ne_of_gt (Nat.lt_of_succ_le hk.2.1)) (.slice sa7 sn7 sc7)) (fun _ _ => trivial))
 replace HQ10 := Aside0.mk (Kd.R_mono (ok' := News w) (Kd.R_far (Kd.R_bound HQ10.out) (p := ⟨w.heap.size + 1, 16, none⟩) (fun k hk => Nat.ne_of_gt (Nat.lt_of_succ_le hk.2.1)) (.slice sa7 sn7 sc7)) (fun _ _ => trivial))
 replace HX := Aside0.mk ((Below.heap_setCell _ ⟨w.heap.size + 1, 16, none⟩ (.slice sa7 sn7 sc7) w.heap.size (show w.heap.size ≠ w.heap.size + 1 by omega)).trans HX.out)
 replace HB := Aside0.mk (HB.out.trans (((UT.refl [45] (w.heap.size + 1) _).set HY.out (by simp) (Nat.le_refl _) 16 (.slice sa7 sn7 sc7)).below (Nat.le_of_lt (blk_lt HY.out)) |>.less (Nat.le_succ _)))
 replace HY := Aside0.mk (blk_set (i := 16) (v := .slice sa7 sn7 sc7) HY.out)
 replace HY := Aside0.mk (show ((((((((w1.setCell ⟨w.heap.size + 1, 9, none⟩ (.int .i64 x.id)).setCell ⟨w.heap.size + 1, 10, none⟩ (.int .i64 x.task)).setCell ⟨w.heap.size + 1, 11, none⟩ (.int .i64 x.base)).setCell ⟨w.heap.size + 1, 12, none⟩ (.int .u32 x.sum)).setCell ⟨w.heap.size + 1, 13, none⟩ (.int .i64 x.snum)).setCell ⟨w.heap.size + 1, 14, none⟩ (.slice sa5 sn5 sc5)).setCell ⟨w.heap.size + 1, 15, none⟩ (.int .i64 x.dnum)).setCell ⟨w.heap.size + 1, 16, none⟩ (.slice sa7 sn7 sc7)).heap[w.heap.size + 1]? = some (.cells #[.int .i64 k, .string ⟨#[]⟩, .int .i64 0, .int .i64 0, .string ⟨#[]⟩, .slice none 0 0, .slice none 0 0, .int .i64 0, .slice none 0 0, .int .i64 x.id, .int .i64 x.task, .int .i64 x.base, .int .u32 x.sum, .int .i64 x.snum, .slice sa5 sn5 sc5, .int .i64 x.dnum, .slice sa7 sn7 sc7, .slice none 0 0, .slice none 0 0, .slice none 0 0, .int .i64 0, .int .u32 0, .slice none 0 0, .int .i64 0, .string ⟨#[]⟩, .int .i64 0, .int .i64 0, .string ⟨#[]⟩, .slice none 0 0, .slice none 0 0] 45 (0, 0)) from HY.out)
 replace HQ5 := Aside0.mk (Kd.R_mono (ok' := News w) (Kd.R_far (Kd.R_bound HQ5.out) (p := ⟨w.heap.size + 1, 17, none⟩) (fun k hk => Nat.ne_of_gt (Nat.lt_of_succ_le hk.2.1)) (.slice sa8 sn8 sc8)) (fun _ _ => trivial))
 replace HQ7 := Aside0.mk (Kd.R_mono (ok' := News w) (Kd.R_far (Kd.R_bound HQ7.out) (p := ⟨w.heap.size + 1, 17, none⟩) (fun k hk => Nat.ne_of_gt (Nat.lt_of_succ_le hk.2.1)) (.slice sa8 sn8 sc8)) (fun _ _ => trivial))
 replace HQ8 := Aside0.mk (Kd.R_mono (ok' := News w) (Kd.R_far (Kd.R_bound HQ8.out) (p := ⟨w.heap.size + 1, 17, none⟩) (fun k hk => Nat.ne_of_gt (Nat.lt_of_succ_le hk.2.1)) (.slice sa8 sn8 sc8)) (fun _ _ => trivial))
 replace HQ9 := Aside0.mk (Kd.R_mono (ok' := News w) (Kd.R_far (Kd.R_bound HQ9.out) (p := ⟨w.heap.size + 1, 17, none⟩) (fun k hk => Nat.ne_of_gt (Nat.lt_of_succ_le hk.2.1)) (.slice sa8 sn8 sc8)) (fun _ _ => trivial))
 replace HQ10 := Aside0.mk (Kd.R_mono (ok' := News w) (Kd.R_far (Kd.R_bound HQ10.out) (p := ⟨w.heap.size + 1, 17, none⟩) (fun k hk => Nat.ne_of_gt (Nat.lt_of_succ_le hk.2.1)) (.slice sa8 sn8 sc8)) (fun _ _ => trivial))
 replace HX := Aside0.mk ((Below.heap_setCell _ ⟨w.heap.size + 1, 17, none⟩ (.slice sa8 sn8 sc8) w.heap.size (show w.heap.size ≠ w.heap.size + 1 by omega)).trans HX.out)
 replace HB := Aside0.mk (HB.out.trans (((UT.refl [45] (w.heap.size + 1) _).set HY.out (by simp) (Nat.le_refl _) 17 (.slice sa8 sn8 sc8)).below (Nat.le_of_lt (blk_lt HY.out)) |>.less (Nat.le_succ _)))
 replace HY := Aside0.mk (blk_set (i := 17) (v := .slice sa8 sn8 sc8) HY.out)
 replace HY := Aside0.mk (show (((((((((w1.setCell ⟨w.heap.size + 1, 9, none⟩ (.int .i64 x.id)).setCell ⟨w.heap.size + 1, 10, none⟩ (.int .i64 x.task)).setCell ⟨w.heap.size + 1, 11, none⟩ (.int .i64 x.base)).setCell ⟨w.heap.size + 1, 12, none⟩ (.int .u32 x.sum)).setCell ⟨w.heap.size + 1, 13, none⟩ (.int .i64 x.snum)).setCell ⟨w.heap.size + 1, 14, none⟩ (.slice sa5 sn5 sc5)).setCell ⟨w.heap.size + 1, 15, none⟩ (.int .i64 x.dnum)).setCell ⟨w.heap.size + 1, 16, none⟩ (.slice sa7 sn7 sc7)).setCell ⟨w.heap.size + 1, 17, none⟩ (.slice sa8 sn8 sc8)).heap[w.heap.size + 1]? = some (.cells #[.int .i64 k, .string ⟨#[]⟩, .int .i64 0, .int .i64 0, .string ⟨#[]⟩, .slice none 0 0, .slice none 0 0, .int .i64 0, .slice none 0 0, .int .i64 x.id, .int .i64 x.task, .int .i64 x.base, .int .u32 x.sum, .int .i64 x.snum, .slice sa5 sn5 sc5, .int .i64 x.dnum, .slice sa7 sn7 sc7, .slice sa8 sn8 sc8, .slice none 0 0, .slice none 0 0, .int .i64 0, .int .u32 0, .slice none 0 0, .int .i64 0, .string ⟨#[]⟩, .int .i64 0, .int .i64 0, .string ⟨#[]⟩, .slice none 0 0, .slice none 0 0] 45 (0, 0)) from HY.out)
 replace HQ5 := Aside0.mk (Kd.R_mono (ok' := News w) (Kd.R_far (Kd.R_bound HQ5.out) (p := ⟨w.heap.size + 1, 18, none⟩) (fun k hk => Nat.ne_of_gt (Nat.lt_of_succ_le hk.2.1)) (.slice sa9 sn9 sc9)) (fun _ _ => trivial))
 replace HQ7 := Aside0.mk (Kd.R_mono (ok' := News w) (Kd.R_far (Kd.R_bound HQ7.out) (p := ⟨w.heap.size + 1, 18, none⟩) (fun k hk => Nat.ne_of_gt (Nat.lt_of_succ_le hk.2.1)) (.slice sa9 sn9 sc9)) (fun _ _ => trivial))
 replace HQ8 := Aside0.mk (Kd.R_mono (ok' := News w) (Kd.R_far (Kd.R_bound HQ8.out) (p := ⟨w.heap.size + 1, 18, none⟩) (fun k hk => Nat.ne_of_gt (Nat.lt_of_succ_le hk.2.1)) (.slice sa9 sn9 sc9)) (fun _ _ => trivial))
 replace HQ9 := Aside0.mk (Kd.R_mono (ok' := News w) (Kd.R_far (Kd.R_bound HQ9.out) (p := ⟨w.heap.size + 1, 18, none⟩) (fun k hk => Nat.ne_of_gt (Nat.lt_of_succ_le hk.2.1)) (.slice sa9 sn9 sc9)) (fun _ _ => trivial))
 replace HQ10 := Aside0.mk (Kd.R_mono (ok' := News w) (Kd.R_far (Kd.R_bound HQ10.out) (p := ⟨w.heap.size + 1, 18, none⟩) (fun k hk => Nat.ne_of_gt (Nat.lt_of_succ_le hk.2.1)) (.slice sa9 sn9 sc9)) (fun _ _ => trivial))
 replace HX := Aside0.mk ((Below.heap_setCell _ ⟨w.heap.size + 1, 18, none⟩ (.slice sa9 sn9 sc9) w.heap.size (show w.heap.size ≠ w.heap.size + 1 by omega)).trans HX.out)
 replace HB := Aside0.mk (HB.out.trans (((UT.refl [45] (w.heap.size + 1) _).set HY.out (by simp) (Nat.le_refl _) 18 (.slice sa9 sn9 sc9)).below (Nat.le_of_lt (blk_lt HY.out)) |>.less (Nat.le_succ _)))
 replace HY := Aside0.mk (blk_set (i := 18) (v := .slice sa9 sn9 sc9) HY.out)
 replace HY := Aside0.mk (show ((((((((((w1.setCell ⟨w.heap.size + 1, 9, none⟩ (.int .i64 x.id)).setCell ⟨w.heap.size + 1, 10, none⟩ (.int .i64 x.task)).setCell ⟨w.heap.size + 1, 11, none⟩ (.int .i64 x.base)).setCell ⟨w.heap.size + 1, 12, none⟩ (.int .u32 x.sum)).setCell ⟨w.heap.size + 1, 13, none⟩ (.int .i64 x.snum)).setCell ⟨w.heap.size + 1, 14, none⟩ (.slice sa5 sn5 sc5)).setCell ⟨w.heap.size + 1, 15, none⟩ (.int .i64 x.dnum)).setCell ⟨w.heap.size + 1, 16, none⟩ (.slice sa7 sn7 sc7)).setCell ⟨w.heap.size + 1, 17, none⟩ (.slice sa8 sn8 sc8)).setCell ⟨w.heap.size + 1, 18, none⟩ (.slice sa9 sn9 sc9)).heap[w.heap.size + 1]? = some (.cells #[.int .i64 k, .string ⟨#[]⟩, .int .i64 0, .int .i64 0, .string ⟨#[]⟩, .slice none 0 0, .slice none 0 0, .int .i64 0, .slice none 0 0, .int .i64 x.id, .int .i64 x.task, .int .i64 x.base, .int .u32 x.sum, .int .i64 x.snum, .slice sa5 sn5 sc5, .int .i64 x.dnum, .slice sa7 sn7 sc7, .slice sa8 sn8 sc8, .slice sa9 sn9 sc9, .slice none 0 0, .int .i64 0, .int .u32 0, .slice none 0 0, .int .i64 0, .string ⟨#[]⟩, .int .i64 0, .int .i64 0, .string ⟨#[]⟩, .slice none 0 0, .slice none 0 0] 45 (0, 0)) from HY.out)
 replace HQ5 := Aside0.mk (Kd.R_mono (ok' := News w) (Kd.R_far (Kd.R_bound HQ5.out) (p := ⟨w.heap.size + 1, 19, none⟩) (fun k hk => Nat.ne_of_gt (Nat.lt_of_succ_le hk.2.1)) (.slice sa10 sn10 sc10)) (fun _ _ => trivial))
 replace HQ7 := Aside0.mk (Kd.R_mono (ok' := News w) (Kd.R_far (Kd.R_bound HQ7.out) (p := ⟨w.heap.size + 1, 19, none⟩) (fun k hk => Nat.ne_of_gt (Nat.lt_of_succ_le hk.2.1)) (.slice sa10 sn10 sc10)) (fun _ _ => trivial))
 replace HQ8 := Aside0.mk (Kd.R_mono (ok' := News w) (Kd.R_far (Kd.R_bound HQ8.out) (p := ⟨w.heap.size + 1, 19, none⟩) (fun k hk => Nat.ne_of_gt (Nat.lt_of_succ_le hk.2.1)) (.slice sa10 sn10 sc10)) (fun _ _ => trivial))
 replace HQ9 := Aside0.mk (Kd.R_mono (ok' := News w) (Kd.R_far (Kd.R_bound HQ9.out) (p := ⟨w.heap.size + 1, 19, none⟩) (fun k hk => Nat.ne_of_gt (Nat.lt_of_succ_le hk.2.1)) (.slice sa10 sn10 sc10)) (fun _ _ => trivial))
 replace HQ10 := Aside0.mk (Kd.R_mono (ok' := News w) (Kd.R_far (Kd.R_bound HQ10.out) (p := ⟨w.heap.size + 1, 19, none⟩) (fun k hk => Nat.ne_of_gt (Nat.lt_of_succ_le hk.2.1)) (.slice sa10 sn10 sc10)) (fun _ _ => trivial))
 replace HX := Aside0.mk ((Below.heap_setCell _ ⟨w.heap.size + 1, 19, none⟩ (.slice sa10 sn10 sc10) w.heap.size (show w.heap.size ≠ w.heap.size + 1 by omega)).trans HX.out)
 replace HB := Aside0.mk (HB.out.trans (((UT.refl [45] (w.heap.size + 1) _).set HY.out (by simp) (Nat.le_refl _) 19 (.slice sa10 sn10 sc10)).below (Nat.le_of_lt (blk_lt HY.out)) |>.less (Nat.le_succ _)))
 replace HY := Aside0.mk (blk_set (i := 19) (v := .slice sa10 sn10 sc10) HY.out)
 replace HY := Aside0.mk (show (((((((((((w1.setCell ⟨w.heap.size + 1, 9, none⟩ (.int .i64 x.id)).setCell ⟨w.heap.size + 1, 10, none⟩ (.int .i64 x.task)).setCell ⟨w.heap.size + 1, 11, none⟩ (.int .i64 x.base)).setCell ⟨w.heap.size + 1, 12, none⟩ (.int .u32 x.sum)).setCell ⟨w.heap.size + 1, 13, none⟩ (.int .i64 x.snum)).setCell ⟨w.heap.size + 1, 14, none⟩ (.slice sa5 sn5 sc5)).setCell ⟨w.heap.size + 1, 15, none⟩ (.int .i64 x.dnum)).setCell ⟨w.heap.size + 1, 16, none⟩ (.slice sa7 sn7 sc7)).setCell ⟨w.heap.size + 1, 17, none⟩ (.slice sa8 sn8 sc8)).setCell ⟨w.heap.size + 1, 18, none⟩ (.slice sa9 sn9 sc9)).setCell ⟨w.heap.size + 1, 19, none⟩ (.slice sa10 sn10 sc10)).heap[w.heap.size + 1]? = some (.cells #[.int .i64 k, .string ⟨#[]⟩, .int .i64 0, .int .i64 0, .string ⟨#[]⟩, .slice none 0 0, .slice none 0 0, .int .i64 0, .slice none 0 0, .int .i64 x.id, .int .i64 x.task, .int .i64 x.base, .int .u32 x.sum, .int .i64 x.snum, .slice sa5 sn5 sc5, .int .i64 x.dnum, .slice sa7 sn7 sc7, .slice sa8 sn8 sc8, .slice sa9 sn9 sc9, .slice sa10 sn10 sc10, .int .i64 0, .int .u32 0, .slice none 0 0, .int .i64 0, .string ⟨#[]⟩, .int .i64 0, .int .i64 0, .string ⟨#[]⟩, .slice none 0 0, .slice none 0 0] 45 (0, 0)) from HY.out)
 replace HY := Aside0.mk (show (((((((((((w1.setCell ⟨w.heap.size + 1, 9, none⟩ (.int .i64 x.id)).setCell ⟨w.heap.size + 1, 10, none⟩ (.int .i64 x.task)).setCell ⟨w.heap.size + 1, 11, none⟩ (.int .i64 x.base)).setCell ⟨w.heap.size + 1, 12, none⟩ (.int .u32 x.sum)).setCell ⟨w.heap.size + 1, 13, none⟩ (.int .i64 x.snum)).setCell ⟨w.heap.size + 1, 14, none⟩ (.slice sa5 sn5 sc5)).setCell ⟨w.heap.size + 1, 15, none⟩ (.int .i64 x.dnum)).setCell ⟨w.heap.size + 1, 16, none⟩ (.slice sa7 sn7 sc7)).setCell ⟨w.heap.size + 1, 17, none⟩ (.slice sa8 sn8 sc8)).setCell ⟨w.heap.size + 1, 18, none⟩ (.slice sa9 sn9 sc9)).setCell ⟨w.heap.size + 1, 19, none⟩ (.slice sa10 sn10 sc10)).heap[w.heap.size + 1]? = some (.cells #[.int .i64 k, .string ⟨#[]⟩, .int .i64 0, .int .i64 0, .string ⟨#[]⟩, .slice none 0 0, .slice none 0 0, .int .i64 0, .slice none 0 0, .int .i64 x.id, .int .i64 x.task, .int .i64 x.base, .int .u32 x.sum, .int .i64 x.snum, .slice sa5 sn5 sc5, .int .i64 x.dnum, .slice sa7 sn7 sc7, .slice sa8 sn8 sc8, .slice sa9 sn9 sc9, .slice sa10 sn10 sc10, .int .i64 0, .int .u32 0, .slice none 0 0, .int .i64 0, .string ⟨#[]⟩, .int .i64 0, .int .i64 0, .string ⟨#[]⟩, .slice none 0 0, .slice none 0 0] 45 (0, 0)) from HY.out)
 go_wp2
 refine start_ (n := 5) (S := fun w' => w'.heap[w.heap.size + 1]? = some (.cells #[.int .i64 k, .string ⟨#[]⟩, .int .i64 0, .int .i64 0, .string ⟨#[]⟩, .slice none 0 0, .slice none 0 0, .int .i64 0, .slice none 0 0, .int .i64 x.id, .int .i64 x.task, .int .i64 x.base, .int .u32 x.sum, .int .i64 x.snum, .slice sa5 sn5 sc5, .int .i64 x.dnum, .slice sa7 sn7 sc7, .slice sa8 sn8 sc8, .slice sa9 sn9 sc9, .slice sa10 sn10 sc10, .int .i64 0, .int .u32 0, .slice none 0 0, .int .i64 0, .string ⟨#[]⟩, .int .i64 0, .int .i64 0, .string ⟨#[]⟩, .slice none 0 0, .slice none 0 0] 45 (0, 0))) (ds := []) #[false, false, false, false, false] (by kernel_rfl) rfl rfl ((blk_drew HY.out)) (fun hHeld => ?_)
 refine zq 1 (some 50) ?_
 refine take_ (i := 0) (N := some 49) (v := ?_) (a' := ?_) #[true, true, false, false, false] rfl rfl (by kernel_rfl) (fun _ _ _ h => h) (Or.inl ⟨by rfl, ?_⟩) hHeld ?_ ?_
 rotate_left
 ·intro w' s0
  refine load_row_run 45 (.tmp 6) ?_ (w.heap.size + 1) ?_ 45 _ (0, 0) _ s0 Tryz.underlying45 rfl size46
  all_goals rfl
 rotate_left
 ·simp only [Act.put, zla, zlb, zlc, i64_w, i32_w]
  rfl
 refine one_ (i := 2) (N := some 51) #[true, true, true, false, false] rfl rfl (by kernel_rfl) (by decide) (fun K hK => ?_)
 refine goes_ Tryz.func21 (by kernel_rfl) rfl #[.int .i64 e] (by rfl) rfl rfl (by simp only [List.map_toArray, List.map_cons, List.map_nil]; rfl) ?_
 refine (eddylaw4_num.calls e e _ rfl).mono ?_
 rintro en w5 ⟨rfl, hdn⟩
 have hb5 := hdn.below
 refine ⟨_, rfl, ?_⟩
 have HX5 := Aside0.mk (blk_below (blk_drew HX.out) hb5)
 have HY5 := Aside0.mk (blk_below (blk_drew HY.out) hb5)
 have HB5 := Aside0.mk ((below_drew HB.out).trans (hb5.mono (below_drew HB.out).size))
 have HR5 := Aside0.mk (Kd.R_below (Kd.R_below HQ5.out (below_drew (Below.refl _ _))) hb5)
 have HR7 := Aside0.mk (Kd.R_below (Kd.R_below HQ7.out (below_drew (Below.refl _ _))) hb5)
 have HR8 := Aside0.mk (Kd.R_below (Kd.R_below HQ8.out (below_drew (Below.refl _ _))) hb5)
 have HR9 := Aside0.mk (Kd.R_below (Kd.R_below HQ9.out (below_drew (Below.refl _ _))) hb5)
 have HR10 := Aside0.mk (Kd.R_below (Kd.R_below HQ10.out (below_drew (Below.refl _ _))) hb5)
 refine hK.out _ _ (HY5.out) (fun hHeld => ?_)
 clear hK K
 refine norm_ (a' := ?_) ?_ ?_
 rotate_left
 ·show Act.put _ (some 51) _ = _
  simp only [Act.put, zla, zlb, zlc, i64_w, i32_w]
  rfl
 refine one_ (i := 3) (N := none) #[true, true, true, true, false] rfl rfl (by kernel_rfl) (by decide) (fun K hK => ?_)
 refine skip_ (w1 := sets w5 w.heap.size 0 [.int .i64 k, .string ⟨#[]⟩, .int .i64 0, .int .i64 0, .string ⟨#[]⟩, .slice none 0 0, .slice none 0 0, .int .i64 0, .slice none 0 0, .int .i64 x.id, .int .i64 x.task, .int .i64 x.base, .int .u32 x.sum, .int .i64 x.snum, .slice sa5 sn5 sc5, .int .i64 x.dnum, .slice sa7 sn7 sc7, .slice sa8 sn8 sc8, .slice sa9 sn9 sc9, .slice sa10 sn10 sc10, .int .i64 0, .int .u32 0, .slice none 0 0, .int .i64 0, .string ⟨#[]⟩, .int .i64 0, .int .i64 0, .string ⟨#[]⟩, .slice none 0 0, .slice none 0 0]) (by rfl) rfl ?_ ?_
 ·refine store_row_run 45 (.tmp 4) (.tmp 49) ?_ w.heap.size ?_ 45 _ #[.int .i64 k, .string ⟨#[]⟩, .int .i64 0, .int .i64 0, .string ⟨#[]⟩, .slice none 0 0, .slice none 0 0, .int .i64 0, .slice none 0 0, .int .i64 x.id, .int .i64 x.task, .int .i64 x.base, .int .u32 x.sum, .int .i64 x.snum, .slice sa5 sn5 sc5, .int .i64 x.dnum, .slice sa7 sn7 sc7, .slice sa8 sn8 sc8, .slice sa9 sn9 sc9, .slice sa10 sn10 sc10, .int .i64 0, .int .u32 0, .slice none 0 0, .int .i64 0, .string ⟨#[]⟩, .int .i64 0, .int .i64 0, .string ⟨#[]⟩, .slice none 0 0, .slice none 0 0] ?_ HX5.out rfl size46 ?_
  ·rfl
  ·rfl
  ·rfl
  ·simp [Value.oneCell']
 obtain ⟨hW1, hW2, hW3⟩ := filln HX5.out [.int .i64 k, .string ⟨#[]⟩, .int .i64 0, .int .i64 0, .string ⟨#[]⟩, .slice none 0 0, .slice none 0 0, .int .i64 0, .slice none 0 0, .int .i64 x.id, .int .i64 x.task, .int .i64 x.base, .int .u32 x.sum, .int .i64 x.snum, .slice sa5 sn5 sc5, .int .i64 x.dnum, .slice sa7 sn7 sc7, .slice sa8 sn8 sc8, .slice sa9 sn9 sc9, .slice sa10 sn10 sc10, .int .i64 0, .int .u32 0, .slice none 0 0, .int .i64 0, .string ⟨#[]⟩, .int .i64 0, .int .i64 0, .string ⟨#[]⟩, .slice none 0 0, .slice none 0 0] rfl
 have HG := Aside0.mk hW1
 have HF := Aside0.mk hW2
 have HT := Aside0.mk hW3
 clear hW1 hW2 hW3
 refine hK.out _ _ (((HF.out (w.heap.size + 1) (by omega)).trans HY5.out)) (fun hHeld => ?_)
 clear hK K
 refine zq 4 (some 5) ?_
 refine done_ (by kernel_rfl) ?_
 (try simp only [Exit.then])
 go_wp2
 (try simp only [Exit.inBlock, Exit.then])
 refine bodyPost_ret (results_ct rfl _ _ w.heap.size 45 _ (0, 0) _ rfl HG.out Tryz.underlying45 rfl size46) rfl ?_
 obtain ⟨_, _, ee, hl5, hC5⟩ := Kd.R_reads (Kd.R_mono (ok' := News w) (Kd.R_move (Kd.R_bound HR5.out) (fun q hq => HF.out q (by have := hq.2.1; omega))) (fun _ _ => trivial))
 injection ee with q1 q2 q3
 subst q1 q2 q3
 obtain ⟨_, _, ee, hl7, hC7⟩ := Kd.R_reads (Kd.R_mono (ok' := News w) (Kd.R_move (Kd.R_bound HR7.out) (fun q hq => HF.out q (by have := hq.2.1; omega))) (fun _ _ => trivial))
 injection ee with q1 q2 q3
 subst q1 q2 q3
 obtain ⟨_, _, ee, hl8, hC8⟩ := Kd.R_reads (Kd.R_mono (ok' := News w) (Kd.R_move (Kd.R_bound HR8.out) (fun q hq => HF.out q (by have := hq.2.1; omega))) (fun _ _ => trivial))
 injection ee with q1 q2 q3
 subst q1 q2 q3
 obtain ⟨_, _, ee, hl9, hC9⟩ := Kd.R_reads (Kd.R_mono (ok' := News w) (Kd.R_move (Kd.R_bound HR9.out) (fun q hq => HF.out q (by have := hq.2.1; omega))) (fun _ _ => trivial))
 injection ee with q1 q2 q3
 subst q1 q2 q3
 obtain ⟨_, _, ee, hl10, hC10⟩ := Kd.R_reads (Kd.R_mono (ok' := News w) (Kd.R_move (Kd.R_bound HR10.out) (fun q hq => HF.out q (by have := hq.2.1; omega))) (fun _ _ => trivial))
 injection ee with q1 q2 q3
 subst q1 q2 q3
 exact GetP.mk ⟨k, ⟨⟨#[]⟩, ⟨0, 0, ⟨#[]⟩, []⟩, []⟩, 0, [], x, 0, 0, [], 0, ⟨⟨#[]⟩, ⟨0, 0, ⟨#[]⟩, []⟩, []⟩⟩ ⟨⟨rfl, Nat.zero_le _, fun hh => absurd hh (Nat.lt_irrefl _)⟩, ⟨rfl, Nat.zero_le _, fun hh => absurd hh (Nat.lt_irrefl _)⟩, ⟨rfl, Nat.zero_le _, fun hh => absurd hh (Nat.lt_irrefl _)⟩, hC5, hC7, hC8, hC9, hC10, ⟨rfl, Nat.zero_le _, fun hh => absurd hh (Nat.lt_irrefl _)⟩, ⟨rfl, Nat.zero_le _, fun hh => absurd hh (Nat.lt_irrefl _)⟩, ⟨rfl, Nat.zero_le _, fun hh => absurd hh (Nat.lt_irrefl _)⟩, Nat.zero_le _, Nat.zero_le _, Nat.zero_le _, hl5, hl7, hl8, hl9, hl10, Nat.zero_le _, Nat.zero_le _, Nat.zero_le _⟩ (HB5.out.trans (HT.out.below HB5.out.size)) (by rw [pGet, if_neg H2.out, if_pos H3.out]; rcases HE.out with ⟨rfl, hq⟩ | ⟨_, hq, rfl⟩ <;> (rw [hq]; rfl))
end
end Go.Proofs.YthmkioodkldgbaaGreat.DK
