/- wire.whole, GetSegment; conditions: those in each theorem. -/
import Derived.Test.YthmkioodkldgbaaGreatQcM26
import Derived.Test.YthmkioodkldgbaaGreatQcM15
namespace Go.Proofs.YthmkioodkldgbaaGreat.DK
open Go.Proofs.YthmkioodkldgbaaGreat.PD
open Go.RowKit Go.Proofs.YthmkioodkldgbaaGreatW.PrintWords Go.Proofs.YthmkioodkldgbaaGreatW.PrintLast Go.Proofs.YthmkioodkldgbaaGreatW.PrintMore
set_option linter.unusedVariables false
set_option linter.unusedSimpArgs false
set_option maxRecDepth 100000
/-- What the whole says. -/
def WSeg (w : World) (r : Rd (Seg)) (en : Ending) (w' : World) : Prop := ∃ (x : Seg) (v5 v7 v8 v9 v10 : Value) (e : Int), en = .returned (.tuple #[.agg #[.int .i64 x.id, .int .i64 x.task, .int .i64 x.base, .int .u32 x.sum, .int .i64 x.snum, v5, .int .i64 x.dnum, v7, v8, v9, v10], .int .i64 e]) ∧ k121.R 129 w' w.heap.size (News w) v5 x.cells ∧ k121.R 129 w' w.heap.size (News w) v7 x.set ∧ Kd.string.R 9 w' w.heap.size (News w) v8 x.gone ∧ (Kd.slice 27 k28).R 36 w' w.heap.size (News w) v9 x.logs ∧ k28.R 27 w' w.heap.size (News w) v10 x.pend ∧ Below w.heap.size w w' ∧ ((e = 0 ∧ r = .ok x []) ∨ (e ≠ 0 ∧ r = .bad e ∧ x = ⟨0, 0, 0, 0, 0, [], 0, [], [], [], []⟩))
theorem WSeg.mk {w : World} {r : Rd (Seg)} {w' : World} (x : Seg) {v5 v7 v8 v9 v10 : Value} {e : Int} (h5 : k121.R 129 w' w.heap.size (News w) v5 x.cells) (h7 : k121.R 129 w' w.heap.size (News w) v7 x.set) (h8 : Kd.string.R 9 w' w.heap.size (News w) v8 x.gone) (h9 : (Kd.slice 27 k28).R 36 w' w.heap.size (News w) v9 x.logs) (h10 : k28.R 27 w' w.heap.size (News w) v10 x.pend) (hb : Below w.heap.size w w') (h : (e = 0 ∧ r = .ok x []) ∨ (e ≠ 0 ∧ r = .bad e ∧ x = ⟨0, 0, 0, 0, 0, [], 0, [], [], [], []⟩)) : WSeg w r (.returned (.tuple #[.agg #[.int .i64 x.id, .int .i64 x.task, .int .i64 x.base, .int .u32 x.sum, .int .i64 x.snum, v5, .int .i64 x.dnum, v7, v8, v9, v10], .int .i64 e])) w' := ⟨x, v5, v7, v8, v9, v10, e, rfl, h5, h7, h8, h9, h10, hb, h⟩
set_option maxHeartbeats 16000000 in
theorem wholeSeg_calls {w : World} {b0 : Nat} {A : Option Addr} {c : Nat} {l : List Int} (hi : In (Kd.int .u8) b0 w A l) (hc : l.length ≤ c) (hr : ∀ x ∈ l, 0 ≤ x ∧ x ≤ 255) : Calls Tryz.prog 62 #[.slice A l.length c, .func (.func 63) #[] #[]] w (WSeg w (pWhole pSeg l)) := by
 have HI := Aside0.mk (In.mk hi.C (Nat.le_refl _))
 have HC := Aside0.mk hc
 have HRG := Aside0.mk hr
 clear hi hc hr
 go_enter Tryz.func62, Tryz.ntmps62
 go_wp2_with fail
 have hB0 : Below w.heap.size w ((w.alloc (.cells #[.int .i64 0, .int .i64 0, .int .i64 0, .int .u32 0, .int .i64 0, .slice none 0 0, .int .i64 0, .slice none 0 0, .slice none 0 0, .slice none 0 0, .slice none 0 0] 38)).alloc (.cells #[.slice A l.length c, .int .i64 0] 172)) := below_alloc (below_alloc (Below.refl _ _) _) _
 have hX0 := blk_alloc (heap_alloc_new w (.cells #[.int .i64 0, .int .i64 0, .int .i64 0, .int .u32 0, .int .i64 0, .slice none 0 0, .int .i64 0, .slice none 0 0, .slice none 0 0, .slice none 0 0, .slice none 0 0] 38)) (.cells #[.slice A l.length c, .int .i64 0] 172)
 have hY0 : ((w.alloc (.cells #[.int .i64 0, .int .i64 0, .int .i64 0, .int .u32 0, .int .i64 0, .slice none 0 0, .int .i64 0, .slice none 0 0, .slice none 0 0, .slice none 0 0, .slice none 0 0] 38)).alloc (.cells #[.slice A l.length c, .int .i64 0] 172)).heap[w.heap.size + 1]? = some (.cells #[.slice A l.length c, .int .i64 0] 172 (0, 0)) := new_at _ _ _ (by rw [size_alloc])
 generalize ((w.alloc (.cells #[.int .i64 0, .int .i64 0, .int .i64 0, .int .u32 0, .int .i64 0, .slice none 0 0, .int .i64 0, .slice none 0 0, .slice none 0 0, .slice none 0 0, .slice none 0 0] 38)).alloc (.cells #[.slice A l.length c, .int .i64 0] 172)) = W0 at *
 have H0 : Rdr w.heap.size W0 (w.heap.size + 1) l 0 (.slice A l.length c) := ⟨hY0, by omega, ⟨A, c, rfl, HC.out, HI.out.ext hB0⟩, fun h => absurd rfl h, HRG.out⟩
 refine (getSegment_calls H0).mono ?_
 rintro en w1 ⟨x, v5, v7, v8, v9, v10, rfl, h5, h7, h8, h9, h10, l1, e1, u1, hg⟩
 have hsz1 := hg.ut.size
 have hw0 := hB0.size
 obtain ⟨sa5, sn5, sc5, rfl⟩ : ∃ A n c, v5 = .slice A n c := (Kd.R_slice h5).elim (fun A h => h.elim (fun c h => ⟨A, _, c, h⟩))
 obtain ⟨sa7, sn7, sc7, rfl⟩ : ∃ A n c, v7 = .slice A n c := (Kd.R_slice h7).elim (fun A h => h.elim (fun c h => ⟨A, _, c, h⟩))
 obtain ⟨sa8, sn8, sc8, rfl⟩ : ∃ A n c, v8 = .slice A n c := (Kd.R_slice h8).elim (fun A h => h.elim (fun c h => ⟨A, _, c, h⟩))
 obtain ⟨sa9, sn9, sc9, rfl⟩ : ∃ A n c, v9 = .slice A n c := (Kd.R_slice h9).elim (fun A h => h.elim (fun c h => ⟨A, _, c, h⟩))
 obtain ⟨sa10, sn10, sc10, rfl⟩ : ∃ A n c, v10 = .slice A n c := (Kd.R_slice h10).elim (fun A h => h.elim (fun c h => ⟨A, _, c, h⟩))
 have HQ5 := Aside0.mk (Kd.R_below (Kd.R_lower (base' := w.heap.size + 1 + 1) h5 (by have := blk_lt hY0; omega)) (below_alloc (Below.refl _ _) (.cells #[.int .i64 x.id, .int .i64 x.task, .int .i64 x.base, .int .u32 x.sum, .int .i64 x.snum, .slice sa5 sn5 sc5, .int .i64 x.dnum, .slice sa7 sn7 sc7, .slice sa8 sn8 sc8, .slice sa9 sn9 sc9, .slice sa10 sn10 sc10] 38)))
 clear h5
 have HQ7 := Aside0.mk (Kd.R_below (Kd.R_lower (base' := w.heap.size + 1 + 1) h7 (by have := blk_lt hY0; omega)) (below_alloc (Below.refl _ _) (.cells #[.int .i64 x.id, .int .i64 x.task, .int .i64 x.base, .int .u32 x.sum, .int .i64 x.snum, .slice sa5 sn5 sc5, .int .i64 x.dnum, .slice sa7 sn7 sc7, .slice sa8 sn8 sc8, .slice sa9 sn9 sc9, .slice sa10 sn10 sc10] 38)))
 clear h7
 have HQ8 := Aside0.mk (Kd.R_below (Kd.R_lower (base' := w.heap.size + 1 + 1) h8 (by have := blk_lt hY0; omega)) (below_alloc (Below.refl _ _) (.cells #[.int .i64 x.id, .int .i64 x.task, .int .i64 x.base, .int .u32 x.sum, .int .i64 x.snum, .slice sa5 sn5 sc5, .int .i64 x.dnum, .slice sa7 sn7 sc7, .slice sa8 sn8 sc8, .slice sa9 sn9 sc9, .slice sa10 sn10 sc10] 38)))
 clear h8
 have HQ9 := Aside0.mk (Kd.R_below (Kd.R_lower (base' := w.heap.size + 1 + 1) h9 (by have := blk_lt hY0; omega)) (below_alloc (Below.refl _ _) (.cells #[.int .i64 x.id, .int .i64 x.task, .int .i64 x.base, .int .u32 x.sum, .int .i64 x.snum, .slice sa5 sn5 sc5, .int .i64 x.dnum, .slice sa7 sn7 sc7, .slice sa8 sn8 sc8, .slice sa9 sn9 sc9, .slice sa10 sn10 sc10] 38)))
 clear h9
 have HQ10 := Aside0.mk (Kd.R_below (Kd.R_lower (base' := w.heap.size + 1 + 1) h10 (by have := blk_lt hY0; omega)) (below_alloc (Below.refl _ _) (.cells #[.int .i64 x.id, .int .i64 x.task, .int .i64 x.base, .int .u32 x.sum, .int .i64 x.snum, .slice sa5 sn5 sc5, .int .i64 x.dnum, .slice sa7 sn7 sc7, .slice sa8 sn8 sc8, .slice sa9 sn9 sc9, .slice sa10 sn10 sc10] 38)))
 clear h10
 have HX := Aside0.mk (blk_alloc (hg.ut.blk hX0 (by decide)) (.cells #[.int .i64 x.id, .int .i64 x.task, .int .i64 x.base, .int .u32 x.sum, .int .i64 x.snum, .slice sa5 sn5 sc5, .int .i64 x.dnum, .slice sa7 sn7 sc7, .slice sa8 sn8 sc8, .slice sa9 sn9 sc9, .slice sa10 sn10 sc10] 38))
 have HY := Aside0.mk (heap_alloc_new w1 (.cells #[.int .i64 x.id, .int .i64 x.task, .int .i64 x.base, .int .u32 x.sum, .int .i64 x.snum, .slice sa5 sn5 sc5, .int .i64 x.dnum, .slice sa7 sn7 sc7, .slice sa8 sn8 sc8, .slice sa9 sn9 sc9, .slice sa10 sn10 sc10] 38))
 have hh : w.heap.size + 1 < w1.heap.size := blk_lt hg.rdr.box
 have HG1 := Aside0.mk (hg.alloc (.cells #[.int .i64 x.id, .int .i64 x.task, .int .i64 x.base, .int .u32 x.sum, .int .i64 x.snum, .slice sa5 sn5 sc5, .int .i64 x.dnum, .slice sa7 sn7 sc7, .slice sa8 sn8 sc8, .slice sa9 sn9 sc9, .slice sa10 sn10 sc10] 38))
 have HB := Aside0.mk (hB0.trans (hg.ut.below hw0) |>.trans ((below_alloc (Below.refl _ _) (.cells #[.int .i64 x.id, .int .i64 x.task, .int .i64 x.base, .int .u32 x.sum, .int .i64 x.snum, .slice sa5 sn5 sc5, .int .i64 x.dnum, .slice sa7 sn7 sc7, .slice sa8 sn8 sc8, .slice sa9 sn9 sc9, .slice sa10 sn10 sc10] 38)).mono (Nat.le_trans hw0 hsz1)))
 clear hB0 hX0 hY0 H0
 obtain ⟨A1, c1, rfl, hc1, _⟩ := hg.rdr.inp
 clear hg
 have m0 := blk_cell HG1.out.rdr.box 0
 have m1 := blk_cell HG1.out.rdr.box 1
 simp only [List.getElem?_toArray, List.getElem?_cons_succ, List.getElem?_cons_zero] at m0 m1
 have hg1 := blk_lt HG1.out.rdr.box
 by_cases he : e1 = 0
 ·subst he
  by_cases hl : l1 = []
  ·subst hl
   have HE := Aside0.mk (HG1.out.ok rfl rfl)
   have n0 := blk_cell HX.out 0
   have f0 := blk_frozen HX.out 0
   have n1 := blk_cell HX.out 1
   have f1 := blk_frozen HX.out 1
   have n2 := blk_cell HX.out 2
   have f2 := blk_frozen HX.out 2
   have n3 := blk_cell HX.out 3
   have f3 := blk_frozen HX.out 3
   have n4 := blk_cell HX.out 4
   have f4 := blk_frozen HX.out 4
   have n5 := blk_cell HX.out 5
   have f5 := blk_frozen HX.out 5
   have n6 := blk_cell HX.out 6
   have f6 := blk_frozen HX.out 6
   have n7 := blk_cell HX.out 7
   have f7 := blk_frozen HX.out 7
   have n8 := blk_cell HX.out 8
   have f8 := blk_frozen HX.out 8
   have n9 := blk_cell HX.out 9
   have f9 := blk_frozen HX.out 9
   have n10 := blk_cell HX.out 10
   have f10 := blk_frozen HX.out 10
   have k0 := blk_cell HY.out 0
   have k1 := blk_cell HY.out 1
   have k2 := blk_cell HY.out 2
   have k3 := blk_cell HY.out 3
   have k4 := blk_cell HY.out 4
   have k5 := blk_cell HY.out 5
   have k6 := blk_cell HY.out 6
   have k7 := blk_cell HY.out 7
   have k8 := blk_cell HY.out 8
   have k9 := blk_cell HY.out 9
   have k10 := blk_cell HY.out 10
   simp only [List.getElem?_toArray, List.getElem?_cons_succ, List.getElem?_cons_zero] at n0 n1 n2 n3 n4 n5 n6 n7 n8 n9 n10 k0 k1 k2 k3 k4 k5 k6 k7 k8 k9 k10
   have hb4 := blk_lt HX.out
   obtain ⟨hW1, hW2, hW3⟩ := filln HX.out [.int .i64 x.id, .int .i64 x.task, .int .i64 x.base, .int .u32 x.sum, .int .i64 x.snum, .slice sa5 sn5 sc5, .int .i64 x.dnum, .slice sa7 sn7 sc7, .slice sa8 sn8 sc8, .slice sa9 sn9 sc9, .slice sa10 sn10 sc10] rfl
   have HF := Aside0.mk hW2
   have HT := Aside0.mk hW3
   have HG := Aside0.mk hW1
   clear hW1 hW2 hW3
   go_wp2
   (try simp only [Exit.inBlock, Exit.then])
   refine bodyPost_ret (results_ct rfl _ _ w.heap.size 38 _ (0, 0) _ rfl HG.out Tryz.underlying38 rfl size39) rfl ?_
   exact WSeg.mk x (Kd.R_lower (base' := w.heap.size) (Kd.R_mono (ok' := News w) (Kd.R_move (Kd.R_bound HQ5.out) (fun q hq => HF.out q (by have := hq.2.1; omega))) (fun _ _ => trivial)) (by omega)) (Kd.R_lower (base' := w.heap.size) (Kd.R_mono (ok' := News w) (Kd.R_move (Kd.R_bound HQ7.out) (fun q hq => HF.out q (by have := hq.2.1; omega))) (fun _ _ => trivial)) (by omega)) (Kd.R_lower (base' := w.heap.size) (Kd.R_mono (ok' := News w) (Kd.R_move (Kd.R_bound HQ8.out) (fun q hq => HF.out q (by have := hq.2.1; omega))) (fun _ _ => trivial)) (by omega)) (Kd.R_lower (base' := w.heap.size) (Kd.R_mono (ok' := News w) (Kd.R_move (Kd.R_bound HQ9.out) (fun q hq => HF.out q (by have := hq.2.1; omega))) (fun _ _ => trivial)) (by omega)) (Kd.R_lower (base' := w.heap.size) (Kd.R_mono (ok' := News w) (Kd.R_move (Kd.R_bound HQ10.out) (fun q hq => HF.out q (by have := hq.2.1; omega))) (fun _ _ => trivial)) (by omega)) (HB.out.trans (HT.out.below HB.out.size)) (.inl ⟨rfl, by rw [pWhole, HE.out]; rfl⟩)
  ·have hln : (l1.length : Int) > 0 := by have := List.length_pos_iff.2 hl; omega
   have HL := Aside0.mk hl
   have HE := Aside0.mk (HG1.out.ok rfl rfl)
   go_wp2_with fail
   refine (rfail_calls HG1.out.rdr 44).mono ?_
   rintro en w2 ⟨rfl, ⟨u2, hr2⟩, hu2⟩
   rw [bump_0] at hr2
   have HR2 := Aside0.mk hr2
   have HX2 := Aside0.mk (hu2.blk HX.out (by decide))
   have HB2 := Aside0.mk (HB.out.trans (hu2.below HB.out.size))
   have y1 := blk_cell hr2.box 1
   simp only [List.getElem?_toArray, List.getElem?_cons_succ, List.getElem?_cons_zero] at y1
   clear hr2 hu2 m0 m1
   have HZ := Aside0.mk (new_at w2 (.cells #[.int .i64 0, .int .i64 0, .int .i64 0, .int .u32 0, .int .i64 0, .slice none 0 0, .int .i64 0, .slice none 0 0, .slice none 0 0, .slice none 0 0, .slice none 0 0] 38) (w2.heap.size) (by first | rfl | rw [size_alloc]))
   have HX8 := Aside0.mk (blk_alloc HX2.out (.cells #[.int .i64 0, .int .i64 0, .int .i64 0, .int .u32 0, .int .i64 0, .slice none 0 0, .int .i64 0, .slice none 0 0, .slice none 0 0, .slice none 0 0, .slice none 0 0] 38))
   have HY8 := Aside0.mk (blk_alloc HR2.out.box (.cells #[.int .i64 0, .int .i64 0, .int .i64 0, .int .u32 0, .int .i64 0, .slice none 0 0, .int .i64 0, .slice none 0 0, .slice none 0 0, .slice none 0 0, .slice none 0 0] 38))
   have HB8 := Aside0.mk (HB2.out.trans ((below_alloc (Below.refl _ _) (.cells #[.int .i64 0, .int .i64 0, .int .i64 0, .int .u32 0, .int .i64 0, .slice none 0 0, .int .i64 0, .slice none 0 0, .slice none 0 0, .slice none 0 0, .slice none 0 0] 38)).mono HB2.out.size))
   have hz8 : w.heap.size + 1 < w2.heap.size := by have := blk_lt HR2.out.box; first | omega | (rw [size_alloc] at this; omega)
   obtain ⟨hW1, hW2, hW3⟩ := filln (blk_drew HX8.out) [.int .i64 0, .int .i64 0, .int .i64 0, .int .u32 0, .int .i64 0, .slice none 0 0, .int .i64 0, .slice none 0 0, .slice none 0 0, .slice none 0 0, .slice none 0 0] rfl
   have HG9 := Aside0.mk hW1
   have HZ9 := Aside0.mk ((hW2 (w2.heap.size) (by omega)).trans (blk_drew HZ.out))
   have HY9 := Aside0.mk ((hW2 (w.heap.size + 1) (by omega)).trans (blk_drew HY8.out))
   have HB9 := Aside0.mk ((below_drew HB8.out).trans (hW3.below (below_drew HB8.out).size))
   clear hW1 hW2 hW3
   go_wp2
   refine start_ (n := 7) (S := fun w' => w'.heap[w2.heap.size]? = some (.cells #[.int .i64 0, .int .i64 0, .int .i64 0, .int .u32 0, .int .i64 0, .slice none 0 0, .int .i64 0, .slice none 0 0, .slice none 0 0, .slice none 0 0, .slice none 0 0] 38 (0, 0)) ∧ w'.cell? ⟨w.heap.size + 1, 1, none⟩ = some (.int .i64 44)) (ds := []) #[false, false, false, false, false, false, false] (by kernel_rfl) rfl rfl ⟨(blk_drew HZ.out), (blk_cell (blk_drew HY8.out) 1)⟩ (fun hHeld => ?_)
   refine zq 1 (some 36) ?_
   refine zq 2 (some 37) ?_
   refine zq 3 (some 38) ?_
   refine take_ (i := 0) (N := some 35) (v := ?_) (a' := ?_) #[true, true, true, true, false, false, false] rfl rfl (by kernel_rfl) (fun _ _ _ h => h) (Or.inl ⟨by rfl, ?_⟩) hHeld ?_ ?_
   rotate_left
   ·rintro w' ⟨s0, s1⟩
    refine load_row_run 38 (.tmp 8) ?_ (w2.heap.size) ?_ 38 _ (0, 0) _ s0 Tryz.underlying38 rfl size39
    all_goals rfl
   rotate_left
   ·simp only [Act.put, zla, zlb, zlc, i64_w, i32_w]
    rfl
   refine zu 4 (some 39) hHeld ?_
   refine one_ (i := 5) (N := none) #[true, true, true, true, true, true, false] rfl rfl (by kernel_rfl) (by decide) (fun K hK => ?_)
   refine skip_ (w1 := sets (w2.alloc (.cells #[.int .i64 0, .int .i64 0, .int .i64 0, .int .u32 0, .int .i64 0, .slice none 0 0, .int .i64 0, .slice none 0 0, .slice none 0 0, .slice none 0 0, .slice none 0 0] 38)).drew w.heap.size 0 [.int .i64 0, .int .i64 0, .int .i64 0, .int .u32 0, .int .i64 0, .slice none 0 0, .int .i64 0, .slice none 0 0, .slice none 0 0, .slice none 0 0, .slice none 0 0]) (by rfl) rfl ?_ ?_
   ·refine store_row_run 38 (.tmp 4) (.tmp 35) ?_ w.heap.size ?_ 38 _ #[.int .i64 0, .int .i64 0, .int .i64 0, .int .u32 0, .int .i64 0, .slice none 0 0, .int .i64 0, .slice none 0 0, .slice none 0 0, .slice none 0 0, .slice none 0 0] ?_ (blk_drew HX8.out) rfl size39 ?_
    ·rfl
    ·rfl
    ·rfl
    ·simp [Value.oneCell']
   refine hK.out _ _ ⟨HZ9.out, (blk_cell HY9.out 1)⟩ (fun hHeld => ?_)
   clear hK K
   refine zq 6 (some 5) ?_
   refine done_ (by kernel_rfl) ?_
   go_wp2
   (try simp only [Exit.inBlock, Exit.then])
   refine bodyPost_ret (results_ct rfl _ _ w.heap.size 38 _ (0, 0) _ rfl HG9.out Tryz.underlying38 rfl size39) rfl ?_
   exact WSeg.mk ⟨0, 0, 0, 0, 0, [], 0, [], [], [], []⟩ (Kd.R_nil _ _ _ _ _) (Kd.R_nil _ _ _ _ _) (Kd.R_nil _ _ _ _ _) (Kd.R_nil _ _ _ _ _) (Kd.R_nil _ _ _ _ _) HB9.out (.inr ⟨by decide, by rw [pWhole, HE.out]; exact if_neg HL.out, rfl⟩)
 ·have heb : (e1 == 0) = false := by simpa using he
  have hnb : (e1 != 0) = true := by simpa using he
  have HE := Aside0.mk he
  have HZ := Aside0.mk (new_at (w1.alloc (.cells #[.int .i64 x.id, .int .i64 x.task, .int .i64 x.base, .int .u32 x.sum, .int .i64 x.snum, .slice sa5 sn5 sc5, .int .i64 x.dnum, .slice sa7 sn7 sc7, .slice sa8 sn8 sc8, .slice sa9 sn9 sc9, .slice sa10 sn10 sc10] 38)) (.cells #[.int .i64 0, .int .i64 0, .int .i64 0, .int .u32 0, .int .i64 0, .slice none 0 0, .int .i64 0, .slice none 0 0, .slice none 0 0, .slice none 0 0, .slice none 0 0] 38) (w1.heap.size + 1) (by first | rfl | rw [size_alloc]))
  have HX8 := Aside0.mk (blk_alloc HX.out (.cells #[.int .i64 0, .int .i64 0, .int .i64 0, .int .u32 0, .int .i64 0, .slice none 0 0, .int .i64 0, .slice none 0 0, .slice none 0 0, .slice none 0 0, .slice none 0 0] 38))
  have HY8 := Aside0.mk (blk_alloc HG1.out.rdr.box (.cells #[.int .i64 0, .int .i64 0, .int .i64 0, .int .u32 0, .int .i64 0, .slice none 0 0, .int .i64 0, .slice none 0 0, .slice none 0 0, .slice none 0 0, .slice none 0 0] 38))
  have HB8 := Aside0.mk (HB.out.trans ((below_alloc (Below.refl _ _) (.cells #[.int .i64 0, .int .i64 0, .int .i64 0, .int .u32 0, .int .i64 0, .slice none 0 0, .int .i64 0, .slice none 0 0, .slice none 0 0, .slice none 0 0, .slice none 0 0] 38)).mono HB.out.size))
  have hz8 : w.heap.size + 1 < w1.heap.size + 1 := by have := blk_lt HG1.out.rdr.box; first | omega | (rw [size_alloc] at this; omega)
  obtain ⟨hW1, hW2, hW3⟩ := filln (blk_drew HX8.out) [.int .i64 0, .int .i64 0, .int .i64 0, .int .u32 0, .int .i64 0, .slice none 0 0, .int .i64 0, .slice none 0 0, .slice none 0 0, .slice none 0 0, .slice none 0 0] rfl
  have HG9 := Aside0.mk hW1
  have HZ9 := Aside0.mk ((hW2 (w1.heap.size + 1) (by omega)).trans (blk_drew HZ.out))
  have HY9 := Aside0.mk ((hW2 (w.heap.size + 1) (by omega)).trans (blk_drew HY8.out))
  have HB9 := Aside0.mk ((below_drew HB8.out).trans (hW3.below (below_drew HB8.out).size))
  clear hW1 hW2 hW3
  go_wp2
  refine start_ (n := 7) (S := fun w' => w'.heap[w1.heap.size + 1]? = some (.cells #[.int .i64 0, .int .i64 0, .int .i64 0, .int .u32 0, .int .i64 0, .slice none 0 0, .int .i64 0, .slice none 0 0, .slice none 0 0, .slice none 0 0, .slice none 0 0] 38 (0, 0)) ∧ w'.cell? ⟨w.heap.size + 1, 1, none⟩ = some (.int .i64 e1)) (ds := []) #[false, false, false, false, false, false, false] (by kernel_rfl) rfl rfl ⟨(blk_drew HZ.out), (blk_cell (blk_drew HY8.out) 1)⟩ (fun hHeld => ?_)
  refine zq 1 (some 36) ?_
  refine zq 2 (some 37) ?_
  refine zq 3 (some 38) ?_
  refine take_ (i := 0) (N := some 35) (v := ?_) (a' := ?_) #[true, true, true, true, false, false, false] rfl rfl (by kernel_rfl) (fun _ _ _ h => h) (Or.inl ⟨by rfl, ?_⟩) hHeld ?_ ?_
  rotate_left
  ·rintro w' ⟨s0, s1⟩
   refine load_row_run 38 (.tmp 8) ?_ (w1.heap.size + 1) ?_ 38 _ (0, 0) _ s0 Tryz.underlying38 rfl size39
   all_goals rfl
  rotate_left
  ·simp only [Act.put, zla, zlb, zlc, i64_w, i32_w]
   rfl
  refine zu 4 (some 39) hHeld ?_
  refine one_ (i := 5) (N := none) #[true, true, true, true, true, true, false] rfl rfl (by kernel_rfl) (by decide) (fun K hK => ?_)
  refine skip_ (w1 := sets ((w1.alloc (.cells #[.int .i64 x.id, .int .i64 x.task, .int .i64 x.base, .int .u32 x.sum, .int .i64 x.snum, .slice sa5 sn5 sc5, .int .i64 x.dnum, .slice sa7 sn7 sc7, .slice sa8 sn8 sc8, .slice sa9 sn9 sc9, .slice sa10 sn10 sc10] 38)).alloc (.cells #[.int .i64 0, .int .i64 0, .int .i64 0, .int .u32 0, .int .i64 0, .slice none 0 0, .int .i64 0, .slice none 0 0, .slice none 0 0, .slice none 0 0, .slice none 0 0] 38)).drew w.heap.size 0 [.int .i64 0, .int .i64 0, .int .i64 0, .int .u32 0, .int .i64 0, .slice none 0 0, .int .i64 0, .slice none 0 0, .slice none 0 0, .slice none 0 0, .slice none 0 0]) (by rfl) rfl ?_ ?_
  ·refine store_row_run 38 (.tmp 4) (.tmp 35) ?_ w.heap.size ?_ 38 _ #[.int .i64 0, .int .i64 0, .int .i64 0, .int .u32 0, .int .i64 0, .slice none 0 0, .int .i64 0, .slice none 0 0, .slice none 0 0, .slice none 0 0, .slice none 0 0] ?_ (blk_drew HX8.out) rfl size39 ?_
   ·rfl
   ·rfl
   ·rfl
   ·simp [Value.oneCell']
  refine hK.out _ _ ⟨HZ9.out, (blk_cell HY9.out 1)⟩ (fun hHeld => ?_)
  clear hK K
  refine zq 6 (some 5) ?_
  refine done_ (by kernel_rfl) ?_
  go_wp2
  (try simp only [Exit.inBlock, Exit.then])
  refine bodyPost_ret (results_ct rfl _ _ w.heap.size 38 _ (0, 0) _ rfl HG9.out Tryz.underlying38 rfl size39) rfl ?_
  exact WSeg.mk ⟨0, 0, 0, 0, 0, [], 0, [], [], [], []⟩ (Kd.R_nil _ _ _ _ _) (Kd.R_nil _ _ _ _ _) (Kd.R_nil _ _ _ _ _) (Kd.R_nil _ _ _ _ _) (Kd.R_nil _ _ _ _ _) HB9.out (.inr ⟨HE.out, by rw [pWhole, HG1.out.bad rfl HE.out]; rfl, rfl⟩)
set_option maxHeartbeats 16000000 in
theorem GetSeg_calls {w : World} {b0 : Nat} {A : Option Addr} {c : Nat} {l : List Int} (hi : In (Kd.int .u8) b0 w A l) (hc : l.length ≤ c) (hr : ∀ x ∈ l, 0 ≤ x ∧ x ≤ 255) : Calls Tryz.prog 27 #[.slice A l.length c] w (WSeg w (pWhole pSeg l)) := by
 have HI := Aside0.mk (In.mk hi.C (Nat.le_refl _))
 have HC := Aside0.mk hc
 have HRG := Aside0.mk hr
 clear hi hc hr
 go_enter Tryz.func27, Tryz.ntmps27
 go_wp2_with fail
 refine (wholeSeg_calls (HI.out.below (below_alloc (Below.refl _ _) _)) HC.out HRG.out).mono ?_
 rintro en w1 ⟨x, v5, v7, v8, v9, v10, e, rfl, h5, h7, h8, h9, h10, hb, hq⟩
 have hsz : (w.alloc (.cells #[.int .i64 0, .int .i64 0, .int .i64 0, .int .u32 0, .int .i64 0, .slice none 0 0, .int .i64 0, .slice none 0 0, .slice none 0 0, .slice none 0 0, .slice none 0 0] 38)).heap.size = w.heap.size + 1 := size_alloc _ _
 obtain ⟨sa5, sn5, sc5, rfl⟩ : ∃ A n c, v5 = .slice A n c := (Kd.R_slice h5).elim (fun A h => h.elim (fun c h => ⟨A, _, c, h⟩))
 obtain ⟨sa7, sn7, sc7, rfl⟩ : ∃ A n c, v7 = .slice A n c := (Kd.R_slice h7).elim (fun A h => h.elim (fun c h => ⟨A, _, c, h⟩))
 obtain ⟨sa8, sn8, sc8, rfl⟩ : ∃ A n c, v8 = .slice A n c := (Kd.R_slice h8).elim (fun A h => h.elim (fun c h => ⟨A, _, c, h⟩))
 obtain ⟨sa9, sn9, sc9, rfl⟩ : ∃ A n c, v9 = .slice A n c := (Kd.R_slice h9).elim (fun A h => h.elim (fun c h => ⟨A, _, c, h⟩))
 obtain ⟨sa10, sn10, sc10, rfl⟩ : ∃ A n c, v10 = .slice A n c := (Kd.R_slice h10).elim (fun A h => h.elim (fun c h => ⟨A, _, c, h⟩))
 have HQ5 := Aside0.mk (Kd.R_lower (base' := w.heap.size + 1) h5 (Nat.le_of_eq hsz.symm))
 clear h5
 have HQ7 := Aside0.mk (Kd.R_lower (base' := w.heap.size + 1) h7 (Nat.le_of_eq hsz.symm))
 clear h7
 have HQ8 := Aside0.mk (Kd.R_lower (base' := w.heap.size + 1) h8 (Nat.le_of_eq hsz.symm))
 clear h8
 have HQ9 := Aside0.mk (Kd.R_lower (base' := w.heap.size + 1) h9 (Nat.le_of_eq hsz.symm))
 clear h9
 have HQ10 := Aside0.mk (Kd.R_lower (base' := w.heap.size + 1) h10 (Nat.le_of_eq hsz.symm))
 clear h10
 have HX := Aside0.mk ((hb.block w.heap.size (by omega)).trans (heap_alloc_new w _))
 have HB := Aside0.mk (show Below w.heap.size w w1 from (below_alloc (Below.refl _ _) _).trans (hb.mono (by omega)))
 have HE := Aside0.mk hq
 clear hb hq
 have n0 := blk_cell HX.out 0
 have f0 := blk_frozen HX.out 0
 have n1 := blk_cell HX.out 1
 have f1 := blk_frozen HX.out 1
 have n2 := blk_cell HX.out 2
 have f2 := blk_frozen HX.out 2
 have n3 := blk_cell HX.out 3
 have f3 := blk_frozen HX.out 3
 have n4 := blk_cell HX.out 4
 have f4 := blk_frozen HX.out 4
 have n5 := blk_cell HX.out 5
 have f5 := blk_frozen HX.out 5
 have n6 := blk_cell HX.out 6
 have f6 := blk_frozen HX.out 6
 have n7 := blk_cell HX.out 7
 have f7 := blk_frozen HX.out 7
 have n8 := blk_cell HX.out 8
 have f8 := blk_frozen HX.out 8
 have n9 := blk_cell HX.out 9
 have f9 := blk_frozen HX.out 9
 have n10 := blk_cell HX.out 10
 have f10 := blk_frozen HX.out 10
 simp only [List.getElem?_toArray, List.getElem?_cons_succ, List.getElem?_cons_zero] at n0 n1 n2 n3 n4 n5 n6 n7 n8 n9 n10
 have hb4 := blk_lt HX.out
 obtain ⟨hW1, hW2, hW3⟩ := filln HX.out [.int .i64 x.id, .int .i64 x.task, .int .i64 x.base, .int .u32 x.sum, .int .i64 x.snum, .slice sa5 sn5 sc5, .int .i64 x.dnum, .slice sa7 sn7 sc7, .slice sa8 sn8 sc8, .slice sa9 sn9 sc9, .slice sa10 sn10 sc10] rfl
 have HF := Aside0.mk hW2
 have HT := Aside0.mk hW3
 have HG := Aside0.mk hW1
 clear hW1 hW2 hW3
 go_wp2
 (try simp only [Exit.inBlock, Exit.then])
 refine bodyPost_ret (results_ct rfl _ _ w.heap.size 38 _ (0, 0) _ rfl HG.out Tryz.underlying38 rfl size39) rfl ?_
 exact WSeg.mk x (Kd.R_lower (base' := w.heap.size) (Kd.R_mono (ok' := News w) (Kd.R_move (Kd.R_bound HQ5.out) (fun q hq => HF.out q (by have := hq.2.1; omega))) (fun _ _ => trivial)) (by omega)) (Kd.R_lower (base' := w.heap.size) (Kd.R_mono (ok' := News w) (Kd.R_move (Kd.R_bound HQ7.out) (fun q hq => HF.out q (by have := hq.2.1; omega))) (fun _ _ => trivial)) (by omega)) (Kd.R_lower (base' := w.heap.size) (Kd.R_mono (ok' := News w) (Kd.R_move (Kd.R_bound HQ8.out) (fun q hq => HF.out q (by have := hq.2.1; omega))) (fun _ _ => trivial)) (by omega)) (Kd.R_lower (base' := w.heap.size) (Kd.R_mono (ok' := News w) (Kd.R_move (Kd.R_bound HQ9.out) (fun q hq => HF.out q (by have := hq.2.1; omega))) (fun _ _ => trivial)) (by omega)) (Kd.R_lower (base' := w.heap.size) (Kd.R_mono (ok' := News w) (Kd.R_move (Kd.R_bound HQ10.out) (fun q hq => HF.out q (by have := hq.2.1; omega))) (fun _ _ => trivial)) (by omega)) (HB.out.trans (HT.out.below HB.out.size)) HE.out
end Go.Proofs.YthmkioodkldgbaaGreat.DK
/- Whole structs loaded and stored; the thing that bytes say; conditions: those in each theorem. -/
namespace Go.Proofs.YthmkioodkldgbaaGreat.DK
open Go.Proofs.YthmkioodkldgbaaGreat.PD
open Go.RowKit Go.Proofs.YthmkioodkldgbaaGreatW.PrintWords Go.Proofs.YthmkioodkldgbaaGreatW.PrintLast Go.Proofs.YthmkioodkldgbaaGreatW.PrintMore
set_option linter.unusedVariables false
set_option linter.unusedSimpArgs false
set_option maxRecDepth 100000
/-- An empty thing of a kind. -/
def zT (k : Int) : Thg := ⟨k, ⟨⟨#[]⟩, ⟨0, 0, ⟨#[]⟩, []⟩, []⟩, 0, [], ⟨0, 0, 0, 0, 0, [], 0, [], [], [], []⟩, 0, 0, [], 0, ⟨⟨#[]⟩, ⟨0, 0, ⟨#[]⟩, []⟩, []⟩⟩
/-- The thing, or the error and nothing. -/
def orZ {α : Type} (r : Rd α) (k : Int) (f : α → Thg) : Int × Thg := match r with | .ok x _ => (0, f x) | .bad c => (c, zT k)
/-- The thing of a kind that bytes say. -/
def pGet (k : Int) (l : List Int) : Int × Thg :=
 if k = 2 then orZ (pWhole pState l) k fun x => { zT k with sn := x.1, sc := x.2 }
 else if k = 3 then orZ (pWhole pSeg l) k fun x => { zT k with g := x }
 else if k = 4 then orZ (pWhole pMan l) k fun x => { zT k with mi := x.1, ms := x.2.1, mr := x.2.2 }
 else if k = 5 then orZ (pWhole pOut l) k fun x => { zT k with oa := x.1, ox := x.2 }
 else orZ (pWhole pRec l) k fun x => { zT k with r := x }
theorem size46 : (Tryz.prog.info? 45).map (·.size) = some 30 := by kernel_rfl
end Go.Proofs.YthmkioodkldgbaaGreat.DK
