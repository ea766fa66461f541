/- wire.getSegment; conditions: those in each theorem. -/
import Derived.Test.YthmkioodkldgbaaGreatQcM23
import Derived.Laws.IdiomCopy
namespace Go.Proofs.YthmkioodkldgbaaGreat.DK
open Go.Proofs.YthmkioodkldgbaaGreat.PD
open Go.RowKit Go.Proofs.YthmkioodkldgbaaGreatW.PrintWords Go.Proofs.YthmkioodkldgbaaGreatW.PrintLast Go.Proofs.YthmkioodkldgbaaGreatW.PrintMore
set_option linter.unusedVariables false
set_option linter.unusedSimpArgs false
set_option maxRecDepth 100000
section
variable {b : Nat} {w : World} {g : Nat} {l : List Int} {e : Int} {u : Value}
theorem joinA {w1 w2 : World} {e1 e2 : Int} {f : Frt} {s : Seg} {l1 l2 : List Int} {u1 u2 : Value} (h : GotS b w g e (pFront l) f w1 l1 e1 u1) (hf : f.2 = 0) (k : GotS b w g e1 (pSegA f l1) s w2 l2 e2 u2) : GotS b w g e (pSeg l) s w2 l2 e2 u2 :=
 GotS.join (f := fun (f : Frt) l' => if f.2 = 0 then pSegA f l' else pSegB f l') h (by simp only [if_pos hf]; exact k)
theorem joinB {w1 w2 : World} {e1 e2 : Int} {f : Frt} {s : Seg} {l1 l2 : List Int} {u1 u2 : Value} (h : GotS b w g e (pFront l) f w1 l1 e1 u1) (hf : ¬ f.2 = 0) (k : GotS b w g e1 (pSegB f l1) s w2 l2 e2 u2) : GotS b w g e (pSeg l) s w2 l2 e2 u2 :=
 GotS.join (f := fun (f : Frt) l' => if f.2 = 0 then pSegA f l' else pSegB f l') h (by simp only [if_neg hf]; exact k)
set_option maxHeartbeats 40000000 in
theorem getSegment_calls (h : Rdr b w g l e u) : Calls Tryz.prog 63 #[.pointer (some ⟨g, 0, none⟩)] w (SegG b w g e (pSeg l)) := by
 have H := Aside0.mk h
 clear h
 go_enter Tryz.func63, Tryz.ntmps63
 have HX := Aside0.mk (heap_alloc_new w (.cells #[.int .i64 0, .int .i64 0, .int .i64 0, .int .u32 0, .int .i64 0, .slice none 0 0, .int .i64 0, .slice none 0 0, .slice none 0 0, .slice none 0 0, .slice none 0 0] 38))
 have HK := Aside0.mk (GotS.pass0 (H.out) (below_alloc (Below.refl _ _) (.cells #[.int .i64 0, .int .i64 0, .int .i64 0, .int .u32 0, .int .i64 0, .slice none 0 0, .int .i64 0, .slice none 0 0, .slice none 0 0, .slice none 0 0, .slice none 0 0] 38)))
 have hX0 : w.heap.size < (w.alloc (.cells #[.int .i64 0, .int .i64 0, .int .i64 0, .int .u32 0, .int .i64 0, .slice none 0 0, .int .i64 0, .slice none 0 0, .slice none 0 0, .slice none 0 0, .slice none 0 0] 38)).heap.size := blk_lt HX.out
 go_wp2_with fail
 refine (rmark_got HK.out.rdr 83).mono ?_
 rintro en w1 ⟨rfl, l1, e1, u1, hg⟩
 have hsz1 := hg.ut.size
 replace HX := Aside0.mk (hg.ut.blk HX.out (by decide))
 replace HK := Aside0.mk (HK.out.bind (f := fun _ l => _) hg)
 clear hg 
 go_wp2_with fail
 refine (rnumber_got HK.out.rdr 9999).mono ?_
 rintro en w2 ⟨id, rfl, _, _, l2, e2, u2, hg⟩
 have hsz2 := hg.ut.size
 replace HX := Aside0.mk (hg.ut.blk HX.out (by decide))
 replace HK := Aside0.mk (HK.out.and hg)
 clear hg 
 have hh : w.heap.size < w2.heap.size := blk_lt HX.out
 have HY := Aside0.mk (heap_alloc_new w2 (.cells #[.int .i64 id, .int .i64 0, .int .i64 0, .int .u32 0, .int .i64 0, .slice none 0 0, .int .i64 0, .slice none 0 0, .slice none 0 0, .slice none 0 0, .slice none 0 0] 38))
 replace HX := Aside0.mk (blk_alloc HX.out (.cells #[.int .i64 id, .int .i64 0, .int .i64 0, .int .u32 0, .int .i64 0, .slice none 0 0, .int .i64 0, .slice none 0 0, .slice none 0 0, .slice none 0 0, .slice none 0 0] 38))
 replace HK := Aside0.mk (HK.out.alloc (.cells #[.int .i64 id, .int .i64 0, .int .i64 0, .int .u32 0, .int .i64 0, .slice none 0 0, .int .i64 0, .slice none 0 0, .slice none 0 0, .slice none 0 0, .slice none 0 0] 38))
 go_wp2_with fail
 refine (rnumber_got HK.out.rdr 11).mono ?_
 rintro en w3 ⟨task, rfl, _, _, l3, e3, u3, hg⟩
 have hsz3 := hg.ut.size
 replace HX := Aside0.mk (hg.ut.blk HX.out (by decide))
 replace HY := Aside0.mk (hg.ut.blk HY.out (by decide))
 replace HK := Aside0.mk (HK.out.and hg)
 clear hg 
 have j0 := blk_cell HY.out 1
 have g0 := blk_frozen HY.out 1
 simp only [List.getElem?_toArray, List.getElem?_cons_succ, List.getElem?_cons_zero] at j0
 replace HK := Aside0.mk (GotS.fill (T := [38]) HK.out ((UT.refl [38] w.heap.size _).set HY.out (by simp) (by omega) 1 (.int .i64 task)) (by decide) H.out.le)
 replace HX := Aside0.mk ((Below.heap_setCell _ ⟨w2.heap.size, 1, none⟩ (.int .i64 task) w.heap.size (show w.heap.size ≠ w2.heap.size by omega)).trans HX.out)
 replace HY := Aside0.mk (blk_set (i := 1) (v := .int .i64 task) HY.out)
 replace HY := Aside0.mk (show (w3.setCell ⟨w2.heap.size, 1, none⟩ (.int .i64 task)).heap[w2.heap.size]? = some (.cells #[.int .i64 id, .int .i64 task, .int .i64 0, .int .u32 0, .int .i64 0, .slice none 0 0, .int .i64 0, .slice none 0 0, .slice none 0 0, .slice none 0 0, .slice none 0 0] 38 (0, 0)) from HY.out)
 go_wp2_with fail
 refine (rnumber_got HK.out.rdr 9999).mono ?_
 rintro en w4 ⟨base, rfl, _, _, l4, e4, u4, hg⟩
 have hsz4 := hg.ut.size
 replace HX := Aside0.mk (hg.ut.blk HX.out (by decide))
 replace HY := Aside0.mk (hg.ut.blk HY.out (by decide))
 replace HK := Aside0.mk (HK.out.and hg)
 clear hg 
 have j0 := blk_cell HY.out 2
 have g0 := blk_frozen HY.out 2
 simp only [List.getElem?_toArray, List.getElem?_cons_succ, List.getElem?_cons_zero] at j0
 replace HK := Aside0.mk (GotS.fill (T := [38]) HK.out ((UT.refl [38] w.heap.size _).set HY.out (by simp) (by omega) 2 (.int .i64 base)) (by decide) H.out.le)
 replace HX := Aside0.mk ((Below.heap_setCell _ ⟨w2.heap.size, 2, none⟩ (.int .i64 base) w.heap.size (show w.heap.size ≠ w2.heap.size by omega)).trans HX.out)
 replace HY := Aside0.mk (blk_set (i := 2) (v := .int .i64 base) HY.out)
 replace HY := Aside0.mk (show (w4.setCell ⟨w2.heap.size, 2, none⟩ (.int .i64 base)).heap[w2.heap.size]? = some (.cells #[.int .i64 id, .int .i64 task, .int .i64 base, .int .u32 0, .int .i64 0, .slice none 0 0, .int .i64 0, .slice none 0 0, .slice none 0 0, .slice none 0 0, .slice none 0 0] 38 (0, 0)) from HY.out)
 have HKF := HK
 replace HK := Aside0.mk (GotS.again HK.out)
 have r2 := blk_cell HY.out 2
 simp only [List.getElem?_toArray, List.getElem?_cons_succ, List.getElem?_cons_zero] at r2
 by_cases hbase : base = 0
 ·skip
  have HBZ := Aside0.mk hbase
  have hbb : (base == 0) = true := by simpa using hbase
  clear hbase
  go_wp2_with fail
  refine (getState_calls HK.out.rdr).mono ?_
  rintro en w5 ⟨st, v5, rfl, hR, l5, e5, u5, hg⟩
  obtain ⟨sa5, sn5, sc5, rfl⟩ : ∃ A n c, v5 = .slice A n c := (Kd.R_slice hR).elim (fun A h => h.elim (fun c h => ⟨A, _, c, h⟩))
  have hsz5 := hg.ut.size
  have HQ5 := Aside0.mk (Kd.R_lower (base' := w2.heap.size + 1) hR (by have := blk_lt HY.out; omega))
  replace HX := Aside0.mk (hg.ut.blk HX.out (by decide))
  replace HY := Aside0.mk (hg.ut.blk HY.out (by decide))
  replace HK := Aside0.mk (HK.out.bind (f := fun _ l => _) hg)
  clear hg hR
  have j0 := blk_cell HY.out 4
  have g0 := blk_frozen HY.out 4
  have j1 := blk_cell HY.out 5
  have g1 := blk_frozen HY.out 5
  simp only [List.getElem?_toArray, List.getElem?_cons_succ, List.getElem?_cons_zero] at j0 j1
  replace HK := Aside0.mk (GotS.fill (T := [38]) HK.out ((UT.refl [38] w.heap.size _).set HY.out (by simp) (by omega) 4 (.int .i64 st.1)) (by decide) H.out.le)
  replace HQ5 := Aside0.mk (Kd.R_mono (ok' := News w) (Kd.R_far (Kd.R_bound HQ5.out) (p := ⟨w2.heap.size, 4, none⟩) (fun k hk => Nat.ne_of_gt (Nat.lt_of_succ_le hk.2.1)) (.int .i64 st.1)) (fun _ _ => trivial))
  replace HX := Aside0.mk ((Below.heap_setCell _ ⟨w2.heap.size, 4, none⟩ (.int .i64 st.1) w.heap.size (show w.heap.size ≠ w2.heap.size by omega)).trans HX.out)
  replace HY := Aside0.mk (blk_set (i := 4) (v := .int .i64 st.1) HY.out)
  replace HK := Aside0.mk (GotS.fill (T := [38]) HK.out ((UT.refl [38] w.heap.size _).set HY.out (by simp) (by omega) 5 (.slice sa5 sn5 sc5)) (by decide) H.out.le)
  replace HQ5 := Aside0.mk (Kd.R_mono (ok' := News w) (Kd.R_far (Kd.R_bound HQ5.out) (p := ⟨w2.heap.size, 5, none⟩) (fun k hk => Nat.ne_of_gt (Nat.lt_of_succ_le hk.2.1)) (.slice sa5 sn5 sc5)) (fun _ _ => trivial))
  replace HX := Aside0.mk ((Below.heap_setCell _ ⟨w2.heap.size, 5, none⟩ (.slice sa5 sn5 sc5) w.heap.size (show w.heap.size ≠ w2.heap.size by omega)).trans HX.out)
  replace HY := Aside0.mk (blk_set (i := 5) (v := .slice sa5 sn5 sc5) HY.out)
  replace HY := Aside0.mk (show ((w5.setCell ⟨w2.heap.size, 4, none⟩ (.int .i64 st.1)).setCell ⟨w2.heap.size, 5, none⟩ (.slice sa5 sn5 sc5)).heap[w2.heap.size]? = some (.cells #[.int .i64 id, .int .i64 task, .int .i64 base, .int .u32 0, .int .i64 st.1, .slice sa5 sn5 sc5, .int .i64 0, .slice none 0 0, .slice none 0 0, .slice none 0 0, .slice none 0 0] 38 (0, 0)) from HY.out)
  go_wp2_with fail
  refine (getLogs_calls HK.out.rdr 4 (by decide)).mono ?_
  rintro en w6 ⟨v9, lg, rfl, hR, l8, e8, u8, hg⟩
  obtain ⟨sa9, sn9, sc9, rfl⟩ : ∃ A n c, v9 = .slice A n c := (Kd.R_slice hR).elim (fun A h => h.elim (fun c h => ⟨A, _, c, h⟩))
  have hsz6 := hg.ut.size
  have HQ9 := Aside0.mk (Kd.R_lower (base' := w2.heap.size + 1) hR (by have := blk_lt HY.out; omega))
  replace HQ5 := Aside0.mk (R_ut HQ5.out hg.ut (by decide))
  replace HX := Aside0.mk (hg.ut.blk HX.out (by decide))
  replace HY := Aside0.mk (hg.ut.blk HY.out (by decide))
  replace HK := Aside0.mk (HK.out.and hg)
  clear hg hR
  have j0 := blk_cell HY.out 9
  have g0 := blk_frozen HY.out 9
  simp only [List.getElem?_toArray, List.getElem?_cons_succ, List.getElem?_cons_zero] at j0
  replace HK := Aside0.mk (GotS.fill (T := [38]) HK.out ((UT.refl [38] w.heap.size _).set HY.out (by simp) (by omega) 9 (.slice sa9 sn9 sc9)) (by decide) H.out.le)
  replace HQ5 := Aside0.mk (Kd.R_mono (ok' := News w) (Kd.R_far (Kd.R_bound HQ5.out) (p := ⟨w2.heap.size, 9, none⟩) (fun k hk => Nat.ne_of_gt (Nat.lt_of_succ_le hk.2.1)) (.slice sa9 sn9 sc9)) (fun _ _ => trivial))
  replace HQ9 := Aside0.mk (Kd.R_mono (ok' := News w) (Kd.R_far (Kd.R_bound HQ9.out) (p := ⟨w2.heap.size, 9, none⟩) (fun k hk => Nat.ne_of_gt (Nat.lt_of_succ_le hk.2.1)) (.slice sa9 sn9 sc9)) (fun _ _ => trivial))
  replace HX := Aside0.mk ((Below.heap_setCell _ ⟨w2.heap.size, 9, none⟩ (.slice sa9 sn9 sc9) w.heap.size (show w.heap.size ≠ w2.heap.size by omega)).trans HX.out)
  replace HY := Aside0.mk (blk_set (i := 9) (v := .slice sa9 sn9 sc9) HY.out)
  replace HY := Aside0.mk (show (w6.setCell ⟨w2.heap.size, 9, none⟩ (.slice sa9 sn9 sc9)).heap[w2.heap.size]? = some (.cells #[.int .i64 id, .int .i64 task, .int .i64 base, .int .u32 0, .int .i64 st.1, .slice sa5 sn5 sc5, .int .i64 0, .slice none 0 0, .slice none 0 0, .slice sa9 sn9 sc9, .slice none 0 0] 38 (0, 0)) from HY.out)
  go_wp2_with fail
  refine (getRecords_calls HK.out.rdr).mono ?_
  rintro en w7 ⟨v10, pd, rfl, hR, l9, e9, u9, hg⟩
  obtain ⟨sa10, sn10, sc10, rfl⟩ : ∃ A n c, v10 = .slice A n c := (Kd.R_slice hR).elim (fun A h => h.elim (fun c h => ⟨A, _, c, h⟩))
  have hsz7 := hg.ut.size
  have HQ10 := Aside0.mk (Kd.R_lower (base' := w2.heap.size + 1) hR (by have := blk_lt HY.out; omega))
  replace HQ5 := Aside0.mk (R_ut HQ5.out hg.ut (by decide))
  replace HQ9 := Aside0.mk (R_ut HQ9.out hg.ut (by decide))
  replace HX := Aside0.mk (hg.ut.blk HX.out (by decide))
  replace HY := Aside0.mk (hg.ut.blk HY.out (by decide))
  replace HK := Aside0.mk (HK.out.and hg)
  clear hg hR
  have j0 := blk_cell HY.out 10
  have g0 := blk_frozen HY.out 10
  simp only [List.getElem?_toArray, List.getElem?_cons_succ, List.getElem?_cons_zero] at j0
  replace HK := Aside0.mk (GotS.fill (T := [38]) HK.out ((UT.refl [38] w.heap.size _).set HY.out (by simp) (by omega) 10 (.slice sa10 sn10 sc10)) (by decide) H.out.le)
  replace HQ5 := Aside0.mk (Kd.R_mono (ok' := News w) (Kd.R_far (Kd.R_bound HQ5.out) (p := ⟨w2.heap.size, 10, none⟩) (fun k hk => Nat.ne_of_gt (Nat.lt_of_succ_le hk.2.1)) (.slice sa10 sn10 sc10)) (fun _ _ => trivial))
  replace HQ9 := Aside0.mk (Kd.R_mono (ok' := News w) (Kd.R_far (Kd.R_bound HQ9.out) (p := ⟨w2.heap.size, 10, none⟩) (fun k hk => Nat.ne_of_gt (Nat.lt_of_succ_le hk.2.1)) (.slice sa10 sn10 sc10)) (fun _ _ => trivial))
  replace HQ10 := Aside0.mk (Kd.R_mono (ok' := News w) (Kd.R_far (Kd.R_bound HQ10.out) (p := ⟨w2.heap.size, 10, none⟩) (fun k hk => Nat.ne_of_gt (Nat.lt_of_succ_le hk.2.1)) (.slice sa10 sn10 sc10)) (fun _ _ => trivial))
  replace HX := Aside0.mk ((Below.heap_setCell _ ⟨w2.heap.size, 10, none⟩ (.slice sa10 sn10 sc10) w.heap.size (show w.heap.size ≠ w2.heap.size by omega)).trans HX.out)
  replace HY := Aside0.mk (blk_set (i := 10) (v := .slice sa10 sn10 sc10) HY.out)
  replace HY := Aside0.mk (show (w7.setCell ⟨w2.heap.size, 10, none⟩ (.slice sa10 sn10 sc10)).heap[w2.heap.size]? = some (.cells #[.int .i64 id, .int .i64 task, .int .i64 base, .int .u32 0, .int .i64 st.1, .slice sa5 sn5 sc5, .int .i64 0, .slice none 0 0, .slice none 0 0, .slice sa9 sn9 sc9, .slice sa10 sn10 sc10] 38 (0, 0)) from HY.out)
  have n0 := blk_cell HX.out 0
  have f0 := blk_frozen HX.out 0
  have n1 := blk_cell HX.out 1
  have f1 := blk_frozen HX.out 1
  have n2 := blk_cell HX.out 2
  have f2 := blk_frozen HX.out 2
  have n3 := blk_cell HX.out 3
  have f3 := blk_frozen HX.out 3
  have n4 := blk_cell HX.out 4
  have f4 := blk_frozen HX.out 4
  have n5 := blk_cell HX.out 5
  have f5 := blk_frozen HX.out 5
  have n6 := blk_cell HX.out 6
  have f6 := blk_frozen HX.out 6
  have n7 := blk_cell HX.out 7
  have f7 := blk_frozen HX.out 7
  have n8 := blk_cell HX.out 8
  have f8 := blk_frozen HX.out 8
  have n9 := blk_cell HX.out 9
  have f9 := blk_frozen HX.out 9
  have n10 := blk_cell HX.out 10
  have f10 := blk_frozen HX.out 10
  have k0 := blk_cell HY.out 0
  have k1 := blk_cell HY.out 1
  have k2 := blk_cell HY.out 2
  have k3 := blk_cell HY.out 3
  have k4 := blk_cell HY.out 4
  have k5 := blk_cell HY.out 5
  have k6 := blk_cell HY.out 6
  have k7 := blk_cell HY.out 7
  have k8 := blk_cell HY.out 8
  have k9 := blk_cell HY.out 9
  have k10 := blk_cell HY.out 10
  simp only [List.getElem?_toArray, List.getElem?_cons_succ, List.getElem?_cons_zero] at n0 n1 n2 n3 n4 n5 n6 n7 n8 n9 n10 k0 k1 k2 k3 k4 k5 k6 k7 k8 k9 k10
  have hb4 := blk_lt HX.out
  obtain ⟨hW1, hW2, hW3⟩ := filln HX.out [.int .i64 id, .int .i64 task, .int .i64 base, .int .u32 0, .int .i64 st.1, .slice sa5 sn5 sc5, .int .i64 0, .slice none 0 0, .slice none 0 0, .slice sa9 sn9 sc9, .slice sa10 sn10 sc10] rfl
  have HF := Aside0.mk hW2
  have HT := Aside0.mk hW3
  have HG := Aside0.mk hW1
  clear hW1 hW2 hW3
  go_wp2
  (try simp only [Exit.inBlock, Exit.then])
  refine bodyPost_ret (results_cell_row rfl _ _ w.heap.size 38 _ (0, 0) _ rfl HG.out Tryz.underlying38 rfl size39) rfl ?_
  have hQ5 := Kd.R_lower (base' := w.heap.size) (Kd.R_mono (ok' := News w) (Kd.R_move (Kd.R_bound HQ5.out) (fun q hq => HF.out q (by have := hq.2.1; omega))) (fun _ _ => trivial)) (by omega)
  have hQ9 := Kd.R_lower (base' := w.heap.size) (Kd.R_mono (ok' := News w) (Kd.R_move (Kd.R_bound HQ9.out) (fun q hq => HF.out q (by have := hq.2.1; omega))) (fun _ _ => trivial)) (by omega)
  have hQ10 := Kd.R_lower (base' := w.heap.size) (Kd.R_mono (ok' := News w) (Kd.R_move (Kd.R_bound HQ10.out) (fun q hq => HF.out q (by have := hq.2.1; omega))) (fun _ _ => trivial)) (by omega)
  have hgot := GotS.fill HK.out HT.out (by decide) H.out.le
  have hz := hgot.map (f := fun x : ((Int × List S121) × List (List S28)) × List S28 => (⟨id, task, base, 0, x.1.1.1, x.1.1.2, 0, [], [], x.1.2, x.2⟩ : Seg))
  exact SegG.mk ⟨id, task, base, 0, st.1, st.2, 0, [], [], lg, pd⟩ (joinA (f := ((((), id), task), base)) HKF.out HBZ.out hz) hQ5 (Kd.R_nil _ _ _ _ _) (Kd.R_nil _ _ _ _ _) hQ9 hQ10
 ·have hbb : (base == 0) = false := by simpa using hbase
  have HBZ := Aside0.mk hbase
  go_wp2_with fail
  refine (rword_got HK.out.rdr).mono ?_
  rintro en w5 ⟨sm, rfl, l5, e5, u5, hg⟩
  have hsz5 := hg.ut.size
  replace HX := Aside0.mk (hg.ut.blk HX.out (by decide))
  replace HY := Aside0.mk (hg.ut.blk HY.out (by decide))
  replace HK := Aside0.mk (HK.out.bind (f := fun _ l => _) hg)
  clear hg 
  have j0 := blk_cell HY.out 3
  have g0 := blk_frozen HY.out 3
  simp only [List.getElem?_toArray, List.getElem?_cons_succ, List.getElem?_cons_zero] at j0
  replace HK := Aside0.mk (GotS.fill (T := [38]) HK.out ((UT.refl [38] w.heap.size _).set HY.out (by simp) (by omega) 3 (.int .u32 sm)) (by decide) H.out.le)
  replace HX := Aside0.mk ((Below.heap_setCell _ ⟨w2.heap.size, 3, none⟩ (.int .u32 sm) w.heap.size (show w.heap.size ≠ w2.heap.size by omega)).trans HX.out)
  replace HY := Aside0.mk (blk_set (i := 3) (v := .int .u32 sm) HY.out)
  replace HY := Aside0.mk (show (w5.setCell ⟨w2.heap.size, 3, none⟩ (.int .u32 sm)).heap[w2.heap.size]? = some (.cells #[.int .i64 id, .int .i64 task, .int .i64 base, .int .u32 sm, .int .i64 0, .slice none 0 0, .int .i64 0, .slice none 0 0, .slice none 0 0, .slice none 0 0, .slice none 0 0] 38 (0, 0)) from HY.out)
  go_wp2_with fail
  refine (rnumber_got HK.out.rdr 1073741824).mono ?_
  rintro en w6 ⟨dn, rfl, _, _, l6, e6, u6, hg⟩
  have hsz6 := hg.ut.size
  replace HX := Aside0.mk (hg.ut.blk HX.out (by decide))
  replace HY := Aside0.mk (hg.ut.blk HY.out (by decide))
  replace HK := Aside0.mk (HK.out.and hg)
  clear hg 
  have j0 := blk_cell HY.out 6
  have g0 := blk_frozen HY.out 6
  simp only [List.getElem?_toArray, List.getElem?_cons_succ, List.getElem?_cons_zero] at j0
  replace HK := Aside0.mk (GotS.fill (T := [38]) HK.out ((UT.refl [38] w.heap.size _).set HY.out (by simp) (by omega) 6 (.int .i64 dn)) (by decide) H.out.le)
  replace HX := Aside0.mk ((Below.heap_setCell _ ⟨w2.heap.size, 6, none⟩ (.int .i64 dn) w.heap.size (show w.heap.size ≠ w2.heap.size by omega)).trans HX.out)
  replace HY := Aside0.mk (blk_set (i := 6) (v := .int .i64 dn) HY.out)
  replace HY := Aside0.mk (show (w6.setCell ⟨w2.heap.size, 6, none⟩ (.int .i64 dn)).heap[w2.heap.size]? = some (.cells #[.int .i64 id, .int .i64 task, .int .i64 base, .int .u32 sm, .int .i64 0, .slice none 0 0, .int .i64 dn, .slice none 0 0, .slice none 0 0, .slice none 0 0, .slice none 0 0] 38 (0, 0)) from HY.out)
  go_wp2_with fail
  refine (getCells_calls HK.out.rdr 64 (by decide)).mono ?_
  rintro en w7 ⟨v7, st, rfl, hR, l7, e7, u7, hg⟩
  obtain ⟨sa7, sn7, sc7, rfl⟩ : ∃ A n c, v7 = .slice A n c := (Kd.R_slice hR).elim (fun A h => h.elim (fun c h => ⟨A, _, c, h⟩))
  have hsz7 := hg.ut.size
  have HQ7 := Aside0.mk (Kd.R_lower (base' := w2.heap.size + 1) hR (by have := blk_lt HY.out; omega))
  replace HX := Aside0.mk (hg.ut.blk HX.out (by decide))
  replace HY := Aside0.mk (hg.ut.blk HY.out (by decide))
  replace HK := Aside0.mk (HK.out.and hg)
  clear hg hR
  have j0 := blk_cell HY.out 7
  have g0 := blk_frozen HY.out 7
  simp only [List.getElem?_toArray, List.getElem?_cons_succ, List.getElem?_cons_zero] at j0
  replace HK := Aside0.mk (GotS.fill (T := [38]) HK.out ((UT.refl [38] w.heap.size _).set HY.out (by simp) (by omega) 7 (.slice sa7 sn7 sc7)) (by decide) H.out.le)
  replace HQ7 := Aside0.mk (Kd.R_mono (ok' := News w) (Kd.R_far (Kd.R_bound HQ7.out) (p := ⟨w2.heap.size, 7, none⟩) (fun k hk => Nat.ne_of_gt (Nat.lt_of_succ_le hk.2.1)) (.slice sa7 sn7 sc7)) (fun _ _ => trivial))
  replace HX := Aside0.mk ((Below.heap_setCell _ ⟨w2.heap.size, 7, none⟩ (.slice sa7 sn7 sc7) w.heap.size (show w.heap.size ≠ w2.heap.size by omega)).trans HX.out)
  replace HY := Aside0.mk (blk_set (i := 7) (v := .slice sa7 sn7 sc7) HY.out)
  replace HY := Aside0.mk (show (w7.setCell ⟨w2.heap.size, 7, none⟩ (.slice sa7 sn7 sc7)).heap[w2.heap.size]? = some (.cells #[.int .i64 id, .int .i64 task, .int .i64 base, .int .u32 sm, .int .i64 0, .slice none 0 0, .int .i64 dn, .slice sa7 sn7 sc7, .slice none 0 0, .slice none 0 0, .slice none 0 0] 38 (0, 0)) from HY.out)
  go_wp2_with fail
  refine (getKeys_calls HK.out.rdr 64 (by decide)).mono ?_
  rintro en w8 ⟨v8, gn, rfl, hR, l7, e7, u7, hg⟩
  obtain ⟨sa8, sn8, sc8, rfl⟩ : ∃ A n c, v8 = .slice A n c := (Kd.R_slice hR).elim (fun A h => h.elim (fun c h => ⟨A, _, c, h⟩))
  have hsz8 := hg.ut.size
  have HQ8 := Aside0.mk (Kd.R_lower (base' := w2.heap.size + 1) hR (by have := blk_lt HY.out; omega))
  replace HQ7 := Aside0.mk (R_ut HQ7.out hg.ut (by decide))
  replace HX := Aside0.mk (hg.ut.blk HX.out (by decide))
  replace HY := Aside0.mk (hg.ut.blk HY.out (by decide))
  replace HK := Aside0.mk (HK.out.and hg)
  clear hg hR
  have j0 := blk_cell HY.out 8
  have g0 := blk_frozen HY.out 8
  simp only [List.getElem?_toArray, List.getElem?_cons_succ, List.getElem?_cons_zero] at j0
  replace HK := Aside0.mk (GotS.fill (T := [38]) HK.out ((UT.refl [38] w.heap.size _).set HY.out (by simp) (by omega) 8 (.slice sa8 sn8 sc8)) (by decide) H.out.le)
  replace HQ7 := Aside0.mk (Kd.R_mono (ok' := News w) (Kd.R_far (Kd.R_bound HQ7.out) (p := ⟨w2.heap.size, 8, none⟩) (fun k hk => Nat.ne_of_gt (Nat.lt_of_succ_le hk.2.1)) (.slice sa8 sn8 sc8)) (fun _ _ => trivial))
  replace HQ8 := Aside0.mk (Kd.R_mono (ok' := News w) (Kd.R_far (Kd.R_bound HQ8.out) (p := ⟨w2.heap.size, 8, none⟩) (fun k hk => Nat.ne_of_gt (Nat.lt_of_succ_le hk.2.1)) (.slice sa8 sn8 sc8)) (fun _ _ => trivial))
  replace HX := Aside0.mk ((Below.heap_setCell _ ⟨w2.heap.size, 8, none⟩ (.slice sa8 sn8 sc8) w.heap.size (show w.heap.size ≠ w2.heap.size by omega)).trans HX.out)
  replace HY := Aside0.mk (blk_set (i := 8) (v := .slice sa8 sn8 sc8) HY.out)
  replace HY := Aside0.mk (show (w8.setCell ⟨w2.heap.size, 8, none⟩ (.slice sa8 sn8 sc8)).heap[w2.heap.size]? = some (.cells #[.int .i64 id, .int .i64 task, .int .i64 base, .int .u32 sm, .int .i64 0, .slice none 0 0, .int .i64 dn, .slice sa7 sn7 sc7, .slice sa8 sn8 sc8, .slice none 0 0, .slice none 0 0] 38 (0, 0)) from HY.out)
  go_wp2_with fail
  refine (getLogs_calls HK.out.rdr 4 (by decide)).mono ?_
  rintro en w9 ⟨v9, lg, rfl, hR, l8, e8, u8, hg⟩
  obtain ⟨sa9, sn9, sc9, rfl⟩ : ∃ A n c, v9 = .slice A n c := (Kd.R_slice hR).elim (fun A h => h.elim (fun c h => ⟨A, _, c, h⟩))
  have hsz9 := hg.ut.size
  have HQ9 := Aside0.mk (Kd.R_lower (base' := w2.heap.size + 1) hR (by have := blk_lt HY.out; omega))
  replace HQ7 := Aside0.mk (R_ut HQ7.out hg.ut (by decide))
  replace HQ8 := Aside0.mk (R_ut HQ8.out hg.ut (by decide))
  replace HX := Aside0.mk (hg.ut.blk HX.out (by decide))
  replace HY := Aside0.mk (hg.ut.blk HY.out (by decide))
  replace HK := Aside0.mk (HK.out.and hg)
  clear hg hR
  have j0 := blk_cell HY.out 9
  have g0 := blk_frozen HY.out 9
  simp only [List.getElem?_toArray, List.getElem?_cons_succ, List.getElem?_cons_zero] at j0
  replace HK := Aside0.mk (GotS.fill (T := [38]) HK.out ((UT.refl [38] w.heap.size _).set HY.out (by simp) (by omega) 9 (.slice sa9 sn9 sc9)) (by decide) H.out.le)
  replace HQ7 := Aside0.mk (Kd.R_mono (ok' := News w) (Kd.R_far (Kd.R_bound HQ7.out) (p := ⟨w2.heap.size, 9, none⟩) (fun k hk => Nat.ne_of_gt (Nat.lt_of_succ_le hk.2.1)) (.slice sa9 sn9 sc9)) (fun _ _ => trivial))
  replace HQ8 := Aside0.mk (Kd.R_mono (ok' := News w) (Kd.R_far (Kd.R_bound HQ8.out) (p := ⟨w2.heap.size, 9, none⟩) (fun k hk => Nat.ne_of_gt (Nat.lt_of_succ_le hk.2.1)) (.slice sa9 sn9 sc9)) (fun _ _ => trivial))
  replace HQ9 := Aside0.mk (Kd.R_mono (ok' := News w) (Kd.R_far (Kd.R_bound HQ9.out) (p := ⟨w2.heap.size, 9, none⟩) (fun k hk => Nat.ne_of_gt (Nat.lt_of_succ_le hk.2.1)) (.slice sa9 sn9 sc9)) (fun _ _ => trivial))
  replace HX := Aside0.mk ((Below.heap_setCell _ ⟨w2.heap.size, 9, none⟩ (.slice sa9 sn9 sc9) w.heap.size (show w.heap.size ≠ w2.heap.size by omega)).trans HX.out)
  replace HY := Aside0.mk (blk_set (i := 9) (v := .slice sa9 sn9 sc9) HY.out)
  replace HY := Aside0.mk (show (w9.setCell ⟨w2.heap.size, 9, none⟩ (.slice sa9 sn9 sc9)).heap[w2.heap.size]? = some (.cells #[.int .i64 id, .int .i64 task, .int .i64 base, .int .u32 sm, .int .i64 0, .slice none 0 0, .int .i64 dn, .slice sa7 sn7 sc7, .slice sa8 sn8 sc8, .slice sa9 sn9 sc9, .slice none 0 0] 38 (0, 0)) from HY.out)
  go_wp2_with fail
  refine (getRecords_calls HK.out.rdr).mono ?_
  rintro en w10 ⟨v10, pd, rfl, hR, l9, e9, u9, hg⟩
  obtain ⟨sa10, sn10, sc10, rfl⟩ : ∃ A n c, v10 = .slice A n c := (Kd.R_slice hR).elim (fun A h => h.elim (fun c h => ⟨A, _, c, h⟩))
  have hsz10 := hg.ut.size
  have HQ10 := Aside0.mk (Kd.R_lower (base' := w2.heap.size + 1) hR (by have := blk_lt HY.out; omega))
  replace HQ7 := Aside0.mk (R_ut HQ7.out hg.ut (by decide))
  replace HQ8 := Aside0.mk (R_ut HQ8.out hg.ut (by decide))
  replace HQ9 := Aside0.mk (R_ut HQ9.out hg.ut (by decide))
  replace HX := Aside0.mk (hg.ut.blk HX.out (by decide))
  replace HY := Aside0.mk (hg.ut.blk HY.out (by decide))
  replace HK := Aside0.mk (HK.out.and hg)
  clear hg hR
  have j0 := blk_cell HY.out 10
  have g0 := blk_frozen HY.out 10
  simp only [List.getElem?_toArray, List.getElem?_cons_succ, List.getElem?_cons_zero] at j0
  replace HK := Aside0.mk (GotS.fill (T := [38]) HK.out ((UT.refl [38] w.heap.size _).set HY.out (by simp) (by omega) 10 (.slice sa10 sn10 sc10)) (by decide) H.out.le)
  replace HQ7 := Aside0.mk (Kd.R_mono (ok' := News w) (Kd.R_far (Kd.R_bound HQ7.out) (p := ⟨w2.heap.size, 10, none⟩) (fun k hk => Nat.ne_of_gt (Nat.lt_of_succ_le hk.2.1)) (.slice sa10 sn10 sc10)) (fun _ _ => trivial))
  replace HQ8 := Aside0.mk (Kd.R_mono (ok' := News w) (Kd.R_far (Kd.R_bound HQ8.out) (p := ⟨w2.heap.size, 10, none⟩) (fun k hk => Nat.ne_of_gt (Nat.lt_of_succ_le hk.2.1)) (.slice sa10 sn10 sc10)) (fun _ _ => trivial))
  replace HQ9 := Aside0.mk (Kd.R_mono (ok' := News w) (Kd.R_far (Kd.R_bound HQ9.out) (p := ⟨w2.heap.size, 10, none⟩) (fun k hk => Nat.ne_of_gt (Nat.lt_of_succ_le hk.2.1)) (.slice sa10 sn10 sc10)) (fun _ _ => trivial))
  replace HQ10 := Aside0.mk (Kd.R_mono (ok' := News w) (Kd.R_far (Kd.R_bound HQ10.out) (p := ⟨w2.heap.size, 10, none⟩) (fun k hk => Nat.ne_of_gt (Nat.lt_of_succ_le hk.2.1)) (.slice sa10 sn10 sc10)) (fun _ _ => trivial))
  replace HX := Aside0.mk ((Below.heap_setCell _ ⟨w2.heap.size, 10, none⟩ (.slice sa10 sn10 sc10) w.heap.size (show w.heap.size ≠ w2.heap.size by omega)).trans HX.out)
  replace HY := Aside0.mk (blk_set (i := 10) (v := .slice sa10 sn10 sc10) HY.out)
  replace HY := Aside0.mk (show (w10.setCell ⟨w2.heap.size, 10, none⟩ (.slice sa10 sn10 sc10)).heap[w2.heap.size]? = some (.cells #[.int .i64 id, .int .i64 task, .int .i64 base, .int .u32 sm, .int .i64 0, .slice none 0 0, .int .i64 dn, .slice sa7 sn7 sc7, .slice sa8 sn8 sc8, .slice sa9 sn9 sc9, .slice sa10 sn10 sc10] 38 (0, 0)) from HY.out)
  have n0 := blk_cell HX.out 0
  have f0 := blk_frozen HX.out 0
  have n1 := blk_cell HX.out 1
  have f1 := blk_frozen HX.out 1
  have n2 := blk_cell HX.out 2
  have f2 := blk_frozen HX.out 2
  have n3 := blk_cell HX.out 3
  have f3 := blk_frozen HX.out 3
  have n4 := blk_cell HX.out 4
  have f4 := blk_frozen HX.out 4
  have n5 := blk_cell HX.out 5
  have f5 := blk_frozen HX.out 5
  have n6 := blk_cell HX.out 6
  have f6 := blk_frozen HX.out 6
  have n7 := blk_cell HX.out 7
  have f7 := blk_frozen HX.out 7
  have n8 := blk_cell HX.out 8
  have f8 := blk_frozen HX.out 8
  have n9 := blk_cell HX.out 9
  have f9 := blk_frozen HX.out 9
  have n10 := blk_cell HX.out 10
  have f10 := blk_frozen HX.out 10
  have k0 := blk_cell HY.out 0
  have k1 := blk_cell HY.out 1
  have k2 := blk_cell HY.out 2
  have k3 := blk_cell HY.out 3
  have k4 := blk_cell HY.out 4
  have k5 := blk_cell HY.out 5
  have k6 := blk_cell HY.out 6
  have k7 := blk_cell HY.out 7
  have k8 := blk_cell HY.out 8
  have k9 := blk_cell HY.out 9
  have k10 := blk_cell HY.out 10
  simp only [List.getElem?_toArray, List.getElem?_cons_succ, List.getElem?_cons_zero] at n0 n1 n2 n3 n4 n5 n6 n7 n8 n9 n10 k0 k1 k2 k3 k4 k5 k6 k7 k8 k9 k10
  have hb4 := blk_lt HX.out
  obtain ⟨hW1, hW2, hW3⟩ := filln HX.out [.int .i64 id, .int .i64 task, .int .i64 base, .int .u32 sm, .int .i64 0, .slice none 0 0, .int .i64 dn, .slice sa7 sn7 sc7, .slice sa8 sn8 sc8, .slice sa9 sn9 sc9, .slice sa10 sn10 sc10] rfl
  have HF := Aside0.mk hW2
  have HT := Aside0.mk hW3
  have HG := Aside0.mk hW1
  clear hW1 hW2 hW3
  go_wp2
  (try simp only [Exit.inBlock, Exit.then])
  refine bodyPost_ret (results_cell_row rfl _ _ w.heap.size 38 _ (0, 0) _ rfl HG.out Tryz.underlying38 rfl size39) rfl ?_
  have hQ7 := Kd.R_lower (base' := w.heap.size) (Kd.R_mono (ok' := News w) (Kd.R_move (Kd.R_bound HQ7.out) (fun q hq => HF.out q (by have := hq.2.1; omega))) (fun _ _ => trivial)) (by omega)
  have hQ8 := Kd.R_lower (base' := w.heap.size) (Kd.R_mono (ok' := News w) (Kd.R_move (Kd.R_bound HQ8.out) (fun q hq => HF.out q (by have := hq.2.1; omega))) (fun _ _ => trivial)) (by omega)
  have hQ9 := Kd.R_lower (base' := w.heap.size) (Kd.R_mono (ok' := News w) (Kd.R_move (Kd.R_bound HQ9.out) (fun q hq => HF.out q (by have := hq.2.1; omega))) (fun _ _ => trivial)) (by omega)
  have hQ10 := Kd.R_lower (base' := w.heap.size) (Kd.R_mono (ok' := News w) (Kd.R_move (Kd.R_bound HQ10.out) (fun q hq => HF.out q (by have := hq.2.1; omega))) (fun _ _ => trivial)) (by omega)
  have hgot := GotS.fill HK.out HT.out (by decide) H.out.le
  have hz := hgot.map (f := fun x : ((((Int × Int) × List S121) × List ByteArray) × List (List S28)) × List S28 => (⟨id, task, base, x.1.1.1.1.1, 0, [], x.1.1.1.1.2, x.1.1.1.2, x.1.1.2, x.1.2, x.2⟩ : Seg))
  exact SegG.mk ⟨id, task, base, sm, 0, [], dn, st, gn, lg, pd⟩ (joinB (f := ((((), id), task), base)) HKF.out HBZ.out hz) (Kd.R_nil _ _ _ _ _) hQ7 hQ8 hQ9 hQ10
end
end Go.Proofs.YthmkioodkldgbaaGreat.DK
/- Whole structs loaded and stored; conditions: those in each theorem. -/
namespace Go.Proofs.YthmkioodkldgbaaGreat.DK
open Go.Proofs.YthmkioodkldgbaaGreat.PD
open Go.RowKit Go.Proofs.YthmkioodkldgbaaGreatW.PrintWords Go.Proofs.YthmkioodkldgbaaGreatW.PrintLast Go.Proofs.YthmkioodkldgbaaGreatW.PrintMore
set_option linter.unusedVariables false
set_option linter.unusedSimpArgs false
set_option maxRecDepth 100000
section
variable {P : Program} {o : Oper} {a : Act} {w : World}
theorem load_row_run (ty : TypeId) (x : Operand) (ho : o.op = .load ty x) (g : Nat) (hx : a.eval x = .pointer (some ⟨g, 0, none⟩)) (t : TypeId) (cs : Array Value) (fr : Nat × Nat) (d : TypeDesc) (hg : w.heap[g]? = some (.cells cs t fr))
  (hu : P.underlying ty = some d) (hd : (match d with | .struct _ | .array _ _ => true | _ => false) = true) (hi : (P.info? ty).map (·.size) = some cs.size) : (execOp a.eval o).run P w = .ok (.value (.agg cs)) w := by
 unfold execOp
 simp only [ho, hx, Instr.loadAt, Instr.sureAddr, Sem.run_bind, Sem.run_pure, Result.andThen_ok, run_loadVar_row w g t ty cs fr d hg hu hd hi]
theorem setCells_sets (B : Nat) : ∀ (vs : List Value) (i : Nat) (w : World), w.setCells B i vs = sets w B i vs
 | [], i, w => rfl
 | v :: vs, i, w => setCells_sets B vs (i + 1) _
theorem store_row_run (ty : TypeId) (p x : Operand) (ho : o.op = .store ty p x) (B : Nat) (hp : a.eval p = .pointer (some ⟨B, 0, none⟩)) (t : TypeId) (cs vs : Array Value) (hx : a.eval x = .agg vs) (hg : w.heap[B]? = some (.cells cs t (0, 0)))
  (hs : cs.size = vs.size) (hi : (P.info? ty).map (·.size) = some vs.size) (h1 : ∀ v ∈ vs.toList, v.oneCell' = true) : (execOp a.eval o).run P w = .ok .skip (sets w B 0 vs.toList) := by
 have hst := run_storeCells_cells (P := P) B 0 vs.toList 0 w (fun j hj => by rw [cell_of_row w B _ cs t (0, 0) hg]; simp at hj ⊢; omega) (fun j hj => by simpa using blk_frozen hg (0 + 0 + j)) h1
 rw [Nat.add_zero, setCells_sets] at hst
 cases hq : P.info? ty with
 | none => simp [hq] at hi
 | some i =>
  have hsz : i.size = vs.size := by simpa [hq] using hi
  unfold execOp
  simp [ho, hp, hx, Instr.storeAt, Instr.sureAddr, storeVar, Value.cells, sizeOf, typeInfo, hq, hsz, hst]
theorem wpList_store_row {ops : Array Oper} {rest : List Oper} {Q : Exit → Act → World → Prop} (hgd : o.guard = none) (ty : TypeId) (p x : Operand) (ho : o.op = .store ty p x) (hd : o.dst = none) (B : Nat) (hp : a.eval p = .pointer (some ⟨B, 0, none⟩)) (t : TypeId) (cs : Array Value) (vs : List Value) (hx : a.eval x = .agg vs.toArray) (hg : w.heap[B]? = some (.cells cs t (0, 0)))
  (hs : cs.size = vs.length) (hi : (P.info? ty).map (·.size) = some vs.length) (h1 : ∀ v ∈ vs, v.oneCell' = true) (h : wpList P ops Q rest a (sets w B 0 vs)) : wpList P ops Q (o :: rest) a w := by
 refine wpList_plain hgd fun K hK => ?_
 have hr := store_row_run (P := P) (o := o) (a := a) (w := w) ty p x ho B hp t cs vs.toArray hx hg (by simpa using hs) (by simpa using hi) (by simpa using h1)
 unfold Oper.wp
 rw [hr]
 simp only [Oper.upon, hd, Act.put]
 exact hK _ _ h
end
end Go.Proofs.YthmkioodkldgbaaGreat.DK
