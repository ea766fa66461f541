/- wire.whole at the five things; conditions: those in each theorem. -/
import Derived.Test.YthmkioodkldgbaaGreatQcM25
namespace Go.Proofs.YthmkioodkldgbaaGreat.DK
open Go.Proofs.YthmkioodkldgbaaGreat.PD
open Go.RowKit Go.Proofs.YthmkioodkldgbaaGreatW.PrintWords Go.Proofs.YthmkioodkldgbaaGreatW.PrintLast Go.Proofs.YthmkioodkldgbaaGreatW.PrintMore
set_option linter.unusedVariables false
set_option linter.unusedSimpArgs false
set_option maxRecDepth 100000
/-- One thing and nothing behind it. -/
def pWhole {α : Type} (p : List Int → Rd α) (l : List Int) : Rd α := (p l).bind fun x l' => if l' = [] then .ok x [] else .bad 44
/-- What the whole says. -/
def WRec (w : World) (r : Rd (S28)) (en : Ending) (w' : World) : Prop := ∃ (x : S28) (v4 v5 : Value) (e : Int), en = .returned (.tuple #[.agg #[.string x.f0, .int .i64 x.f1.f0, .int .i64 x.f1.f1, .string x.f1.f2, v4, v5], .int .i64 e]) ∧ k25.R 24 w' w.heap.size (News w) v4 x.f1.f3 ∧ (Kd.int .i64).R 3 w' w.heap.size (News w) v5 x.f2 ∧ Below w.heap.size w w' ∧ ((e = 0 ∧ r = .ok x []) ∨ (e ≠ 0 ∧ r = .bad e ∧ x = ⟨⟨#[]⟩, ⟨0, 0, ⟨#[]⟩, []⟩, []⟩))
theorem WRec.mk {w : World} {r : Rd (S28)} {w' : World} (x : S28) {v4 v5 : Value} {e : Int} (h4 : k25.R 24 w' w.heap.size (News w) v4 x.f1.f3) (h5 : (Kd.int .i64).R 3 w' w.heap.size (News w) v5 x.f2) (hb : Below w.heap.size w w') (h : (e = 0 ∧ r = .ok x []) ∨ (e ≠ 0 ∧ r = .bad e ∧ x = ⟨⟨#[]⟩, ⟨0, 0, ⟨#[]⟩, []⟩, []⟩)) : WRec w r (.returned (.tuple #[.agg #[.string x.f0, .int .i64 x.f1.f0, .int .i64 x.f1.f1, .string x.f1.f2, v4, v5], .int .i64 e])) w' := ⟨x, v4, v5, e, rfl, h4, h5, hb, h⟩
set_option maxHeartbeats 16000000 in
theorem wholeRec_calls {w : World} {b0 : Nat} {A : Option Addr} {c : Nat} {l : List Int} (hi : In (Kd.int .u8) b0 w A l) (hc : l.length ≤ c) (hr : ∀ x ∈ l, 0 ≤ x ∧ x ≤ 255) : Calls Tryz.prog 68 #[.slice A l.length c, .func (.func 69) #[] #[]] w (WRec w (pWhole pRec l)) := by
 have HI := Aside0.mk (In.mk hi.C (Nat.le_refl _))
 have HC := Aside0.mk hc
 have HRG := Aside0.mk hr
 clear hi hc hr
 go_enter Tryz.func68, Tryz.ntmps68
 go_wp2_with fail
 have hB0 : Below w.heap.size w ((w.alloc (.cells #[.string ⟨#[]⟩, .int .i64 0, .int .i64 0, .string ⟨#[]⟩, .slice none 0 0, .slice none 0 0] 27)).alloc (.cells #[.slice A l.length c, .int .i64 0] 172)) := below_alloc (below_alloc (Below.refl _ _) _) _
 have hX0 := blk_alloc (heap_alloc_new w (.cells #[.string ⟨#[]⟩, .int .i64 0, .int .i64 0, .string ⟨#[]⟩, .slice none 0 0, .slice none 0 0] 27)) (.cells #[.slice A l.length c, .int .i64 0] 172)
 have hY0 : ((w.alloc (.cells #[.string ⟨#[]⟩, .int .i64 0, .int .i64 0, .string ⟨#[]⟩, .slice none 0 0, .slice none 0 0] 27)).alloc (.cells #[.slice A l.length c, .int .i64 0] 172)).heap[w.heap.size + 1]? = some (.cells #[.slice A l.length c, .int .i64 0] 172 (0, 0)) := new_at _ _ _ (by rw [size_alloc])
 generalize ((w.alloc (.cells #[.string ⟨#[]⟩, .int .i64 0, .int .i64 0, .string ⟨#[]⟩, .slice none 0 0, .slice none 0 0] 27)).alloc (.cells #[.slice A l.length c, .int .i64 0] 172)) = W0 at *
 have H0 : Rdr w.heap.size W0 (w.heap.size + 1) l 0 (.slice A l.length c) := ⟨hY0, by omega, ⟨A, c, rfl, HC.out, HI.out.ext hB0⟩, fun h => absurd rfl h, HRG.out⟩
 refine (getRecord_calls H0).mono ?_
 rintro en w1 ⟨x, v4, v5, rfl, h4, h5, l1, e1, u1, hg⟩
 have hsz1 := hg.ut.size
 have hw0 := hB0.size
 obtain ⟨sa4, sn4, sc4, rfl⟩ : ∃ A n c, v4 = .slice A n c := (Kd.R_slice h4).elim (fun A h => h.elim (fun c h => ⟨A, _, c, h⟩))
 obtain ⟨sa5, sn5, sc5, rfl⟩ : ∃ A n c, v5 = .slice A n c := (Kd.R_slice h5).elim (fun A h => h.elim (fun c h => ⟨A, _, c, h⟩))
 have HQ4 := Aside0.mk (Kd.R_below (Kd.R_lower (base' := w.heap.size + 1 + 1) h4 (by have := blk_lt hY0; omega)) (below_alloc (Below.refl _ _) (.cells #[.string x.f0, .int .i64 x.f1.f0, .int .i64 x.f1.f1, .string x.f1.f2, .slice sa4 sn4 sc4, .slice sa5 sn5 sc5] 27)))
 clear h4
 have HQ5 := Aside0.mk (Kd.R_below (Kd.R_lower (base' := w.heap.size + 1 + 1) h5 (by have := blk_lt hY0; omega)) (below_alloc (Below.refl _ _) (.cells #[.string x.f0, .int .i64 x.f1.f0, .int .i64 x.f1.f1, .string x.f1.f2, .slice sa4 sn4 sc4, .slice sa5 sn5 sc5] 27)))
 clear h5
 have HX := Aside0.mk (blk_alloc (hg.ut.blk hX0 (by decide)) (.cells #[.string x.f0, .int .i64 x.f1.f0, .int .i64 x.f1.f1, .string x.f1.f2, .slice sa4 sn4 sc4, .slice sa5 sn5 sc5] 27))
 have HY := Aside0.mk (heap_alloc_new w1 (.cells #[.string x.f0, .int .i64 x.f1.f0, .int .i64 x.f1.f1, .string x.f1.f2, .slice sa4 sn4 sc4, .slice sa5 sn5 sc5] 27))
 have hh : w.heap.size + 1 < w1.heap.size := blk_lt hg.rdr.box
 have HG1 := Aside0.mk (hg.alloc (.cells #[.string x.f0, .int .i64 x.f1.f0, .int .i64 x.f1.f1, .string x.f1.f2, .slice sa4 sn4 sc4, .slice sa5 sn5 sc5] 27))
 have HB := Aside0.mk (hB0.trans (hg.ut.below hw0) |>.trans ((below_alloc (Below.refl _ _) (.cells #[.string x.f0, .int .i64 x.f1.f0, .int .i64 x.f1.f1, .string x.f1.f2, .slice sa4 sn4 sc4, .slice sa5 sn5 sc5] 27)).mono (Nat.le_trans hw0 hsz1)))
 clear hB0 hX0 hY0 H0
 obtain ⟨A1, c1, rfl, hc1, _⟩ := hg.rdr.inp
 clear hg
 have m0 := blk_cell HG1.out.rdr.box 0
 have m1 := blk_cell HG1.out.rdr.box 1
 simp only [List.getElem?_toArray, List.getElem?_cons_succ, List.getElem?_cons_zero] at m0 m1
 have hg1 := blk_lt HG1.out.rdr.box
 by_cases he : e1 = 0
 ·subst he
  by_cases hl : l1 = []
  ·subst hl
   have HE := Aside0.mk (HG1.out.ok rfl rfl)
   have n0 := blk_cell HX.out 0
   have f0 := blk_frozen HX.out 0
   have n1 := blk_cell HX.out 1
   have f1 := blk_frozen HX.out 1
   have n2 := blk_cell HX.out 2
   have f2 := blk_frozen HX.out 2
   have n3 := blk_cell HX.out 3
   have f3 := blk_frozen HX.out 3
   have n4 := blk_cell HX.out 4
   have f4 := blk_frozen HX.out 4
   have n5 := blk_cell HX.out 5
   have f5 := blk_frozen HX.out 5
   have k0 := blk_cell HY.out 0
   have k1 := blk_cell HY.out 1
   have k2 := blk_cell HY.out 2
   have k3 := blk_cell HY.out 3
   have k4 := blk_cell HY.out 4
   have k5 := blk_cell HY.out 5
   simp only [List.getElem?_toArray, List.getElem?_cons_succ, List.getElem?_cons_zero] at n0 n1 n2 n3 n4 n5 k0 k1 k2 k3 k4 k5
   have hb4 := blk_lt HX.out
   obtain ⟨hW1, hW2, hW3⟩ := filln HX.out [.string x.f0, .int .i64 x.f1.f0, .int .i64 x.f1.f1, .string x.f1.f2, .slice sa4 sn4 sc4, .slice sa5 sn5 sc5] rfl
   have HF := Aside0.mk hW2
   have HT := Aside0.mk hW3
   have HG := Aside0.mk hW1
   clear hW1 hW2 hW3
   go_wp2
   (try simp only [Exit.inBlock, Exit.then])
   refine bodyPost_ret (results_ct rfl _ _ w.heap.size 27 _ (0, 0) _ rfl HG.out Tryz.underlying27 rfl size28) rfl ?_
   exact WRec.mk x (Kd.R_lower (base' := w.heap.size) (Kd.R_mono (ok' := News w) (Kd.R_move (Kd.R_bound HQ4.out) (fun q hq => HF.out q (by have := hq.2.1; omega))) (fun _ _ => trivial)) (by omega)) (Kd.R_lower (base' := w.heap.size) (Kd.R_mono (ok' := News w) (Kd.R_move (Kd.R_bound HQ5.out) (fun q hq => HF.out q (by have := hq.2.1; omega))) (fun _ _ => trivial)) (by omega)) (HB.out.trans (HT.out.below HB.out.size)) (.inl ⟨rfl, by rw [pWhole, HE.out]; rfl⟩)
  ·have hln : (l1.length : Int) > 0 := by have := List.length_pos_iff.2 hl; omega
   have HL := Aside0.mk hl
   have HE := Aside0.mk (HG1.out.ok rfl rfl)
   go_wp2_with fail
   refine (rfail_calls HG1.out.rdr 44).mono ?_
   rintro en w2 ⟨rfl, ⟨u2, hr2⟩, hu2⟩
   rw [bump_0] at hr2
   have HR2 := Aside0.mk hr2
   have HX2 := Aside0.mk (hu2.blk HX.out (by decide))
   have HB2 := Aside0.mk (HB.out.trans (hu2.below HB.out.size))
   have y1 := blk_cell hr2.box 1
   simp only [List.getElem?_toArray, List.getElem?_cons_succ, List.getElem?_cons_zero] at y1
   clear hr2 hu2 m0 m1
   have HZ := Aside0.mk (new_at w2 (.cells #[.string ⟨#[]⟩, .int .i64 0, .int .i64 0, .string ⟨#[]⟩, .slice none 0 0, .slice none 0 0] 27) (w2.heap.size) (by first | rfl | rw [size_alloc]))
   have HX8 := Aside0.mk (blk_alloc HX2.out (.cells #[.string ⟨#[]⟩, .int .i64 0, .int .i64 0, .string ⟨#[]⟩, .slice none 0 0, .slice none 0 0] 27))
   have HY8 := Aside0.mk (blk_alloc HR2.out.box (.cells #[.string ⟨#[]⟩, .int .i64 0, .int .i64 0, .string ⟨#[]⟩, .slice none 0 0, .slice none 0 0] 27))
   have HB8 := Aside0.mk (HB2.out.trans ((below_alloc (Below.refl _ _) (.cells #[.string ⟨#[]⟩, .int .i64 0, .int .i64 0, .string ⟨#[]⟩, .slice none 0 0, .slice none 0 0] 27)).mono HB2.out.size))
   have hz8 : w.heap.size + 1 < w2.heap.size := by have := blk_lt HR2.out.box; first | omega | (rw [size_alloc] at this; omega)
   obtain ⟨hW1, hW2, hW3⟩ := filln (blk_drew HX8.out) [.string ⟨#[]⟩, .int .i64 0, .int .i64 0, .string ⟨#[]⟩, .slice none 0 0, .slice none 0 0] rfl
   have HG9 := Aside0.mk hW1
   have HZ9 := Aside0.mk ((hW2 (w2.heap.size) (by omega)).trans (blk_drew HZ.out))
   have HY9 := Aside0.mk ((hW2 (w.heap.size + 1) (by omega)).trans (blk_drew HY8.out))
   have HB9 := Aside0.mk ((below_drew HB8.out).trans (hW3.below (below_drew HB8.out).size))
   clear hW1 hW2 hW3
   go_wp2
   refine start_ (n := 7) (S := fun w' => w'.heap[w2.heap.size]? = some (.cells #[.string ⟨#[]⟩, .int .i64 0, .int .i64 0, .string ⟨#[]⟩, .slice none 0 0, .slice none 0 0] 27 (0, 0)) ∧ w'.cell? ⟨w.heap.size + 1, 1, none⟩ = some (.int .i64 44)) (ds := []) #[false, false, false, false, false, false, false] (by kernel_rfl) rfl rfl ⟨(blk_drew HZ.out), (blk_cell (blk_drew HY8.out) 1)⟩ (fun hHeld => ?_)
   refine zq 1 (some 36) ?_
   refine zq 2 (some 37) ?_
   refine zq 3 (some 38) ?_
   refine take_ (i := 0) (N := some 35) (v := ?_) (a' := ?_) #[true, true, true, true, false, false, false] rfl rfl (by kernel_rfl) (fun _ _ _ h => h) (Or.inl ⟨by rfl, ?_⟩) hHeld ?_ ?_
   rotate_left
   ·rintro w' ⟨s0, s1⟩
    refine load_row_run 27 (.tmp 8) ?_ (w2.heap.size) ?_ 27 _ (0, 0) _ s0 Tryz.underlying27 rfl size28
    all_goals rfl
   rotate_left
   ·simp only [Act.put, zla, zlb, zlc, i64_w, i32_w]
    rfl
   refine zu 4 (some 39) hHeld ?_
   refine one_ (i := 5) (N := none) #[true, true, true, true, true, true, false] rfl rfl (by kernel_rfl) (by decide) (fun K hK => ?_)
   refine skip_ (w1 := sets (w2.alloc (.cells #[.string ⟨#[]⟩, .int .i64 0, .int .i64 0, .string ⟨#[]⟩, .slice none 0 0, .slice none 0 0] 27)).drew w.heap.size 0 [.string ⟨#[]⟩, .int .i64 0, .int .i64 0, .string ⟨#[]⟩, .slice none 0 0, .slice none 0 0]) (by rfl) rfl ?_ ?_
   ·refine store_row_run 27 (.tmp 4) (.tmp 35) ?_ w.heap.size ?_ 27 _ #[.string ⟨#[]⟩, .int .i64 0, .int .i64 0, .string ⟨#[]⟩, .slice none 0 0, .slice none 0 0] ?_ (blk_drew HX8.out) rfl size28 ?_
    ·rfl
    ·rfl
    ·rfl
    ·simp [Value.oneCell']
   refine hK.out _ _ ⟨HZ9.out, (blk_cell HY9.out 1)⟩ (fun hHeld => ?_)
   clear hK K
   refine zq 6 (some 5) ?_
   refine done_ (by kernel_rfl) ?_
   go_wp2
   (try simp only [Exit.inBlock, Exit.then])
   refine bodyPost_ret (results_ct rfl _ _ w.heap.size 27 _ (0, 0) _ rfl HG9.out Tryz.underlying27 rfl size28) rfl ?_
   exact WRec.mk ⟨⟨#[]⟩, ⟨0, 0, ⟨#[]⟩, []⟩, []⟩ (Kd.R_nil _ _ _ _ _) (Kd.R_nil _ _ _ _ _) HB9.out (.inr ⟨by decide, by rw [pWhole, HE.out]; exact if_neg HL.out, rfl⟩)
 ·have heb : (e1 == 0) = false := by simpa using he
  have hnb : (e1 != 0) = true := by simpa using he
  have HE := Aside0.mk he
  have HZ := Aside0.mk (new_at (w1.alloc (.cells #[.string x.f0, .int .i64 x.f1.f0, .int .i64 x.f1.f1, .string x.f1.f2, .slice sa4 sn4 sc4, .slice sa5 sn5 sc5] 27)) (.cells #[.string ⟨#[]⟩, .int .i64 0, .int .i64 0, .string ⟨#[]⟩, .slice none 0 0, .slice none 0 0] 27) (w1.heap.size + 1) (by first | rfl | rw [size_alloc]))
  have HX8 := Aside0.mk (blk_alloc HX.out (.cells #[.string ⟨#[]⟩, .int .i64 0, .int .i64 0, .string ⟨#[]⟩, .slice none 0 0, .slice none 0 0] 27))
  have HY8 := Aside0.mk (blk_alloc HG1.out.rdr.box (.cells #[.string ⟨#[]⟩, .int .i64 0, .int .i64 0, .string ⟨#[]⟩, .slice none 0 0, .slice none 0 0] 27))
  have HB8 := Aside0.mk (HB.out.trans ((below_alloc (Below.refl _ _) (.cells #[.string ⟨#[]⟩, .int .i64 0, .int .i64 0, .string ⟨#[]⟩, .slice none 0 0, .slice none 0 0] 27)).mono HB.out.size))
  have hz8 : w.heap.size + 1 < w1.heap.size + 1 := by have := blk_lt HG1.out.rdr.box; first | omega | (rw [size_alloc] at this; omega)
  obtain ⟨hW1, hW2, hW3⟩ := filln (blk_drew HX8.out) [.string ⟨#[]⟩, .int .i64 0, .int .i64 0, .string ⟨#[]⟩, .slice none 0 0, .slice none 0 0] rfl
  have HG9 := Aside0.mk hW1
  have HZ9 := Aside0.mk ((hW2 (w1.heap.size + 1) (by omega)).trans (blk_drew HZ.out))
  have HY9 := Aside0.mk ((hW2 (w.heap.size + 1) (by omega)).trans (blk_drew HY8.out))
  have HB9 := Aside0.mk ((below_drew HB8.out).trans (hW3.below (below_drew HB8.out).size))
  clear hW1 hW2 hW3
  go_wp2
  refine start_ (n := 7) (S := fun w' => w'.heap[w1.heap.size + 1]? = some (.cells #[.string ⟨#[]⟩, .int .i64 0, .int .i64 0, .string ⟨#[]⟩, .slice none 0 0, .slice none 0 0] 27 (0, 0)) ∧ w'.cell? ⟨w.heap.size + 1, 1, none⟩ = some (.int .i64 e1)) (ds := []) #[false, false, false, false, false, false, false] (by kernel_rfl) rfl rfl ⟨(blk_drew HZ.out), (blk_cell (blk_drew HY8.out) 1)⟩ (fun hHeld => ?_)
  refine zq 1 (some 36) ?_
  refine zq 2 (some 37) ?_
  refine zq 3 (some 38) ?_
  refine take_ (i := 0) (N := some 35) (v := ?_) (a' := ?_) #[true, true, true, true, false, false, false] rfl rfl (by kernel_rfl) (fun _ _ _ h => h) (Or.inl ⟨by rfl, ?_⟩) hHeld ?_ ?_
  rotate_left
  ·rintro w' ⟨s0, s1⟩
   refine load_row_run 27 (.tmp 8) ?_ (w1.heap.size + 1) ?_ 27 _ (0, 0) _ s0 Tryz.underlying27 rfl size28
   all_goals rfl
  rotate_left
  ·simp only [Act.put, zla, zlb, zlc, i64_w, i32_w]
   rfl
  refine zu 4 (some 39) hHeld ?_
  refine one_ (i := 5) (N := none) #[true, true, true, true, true, true, false] rfl rfl (by kernel_rfl) (by decide) (fun K hK => ?_)
  refine skip_ (w1 := sets ((w1.alloc (.cells #[.string x.f0, .int .i64 x.f1.f0, .int .i64 x.f1.f1, .string x.f1.f2, .slice sa4 sn4 sc4, .slice sa5 sn5 sc5] 27)).alloc (.cells #[.string ⟨#[]⟩, .int .i64 0, .int .i64 0, .string ⟨#[]⟩, .slice none 0 0, .slice none 0 0] 27)).drew w.heap.size 0 [.string ⟨#[]⟩, .int .i64 0, .int .i64 0, .string ⟨#[]⟩, .slice none 0 0, .slice none 0 0]) (by rfl) rfl ?_ ?_
  ·refine store_row_run 27 (.tmp 4) (.tmp 35) ?_ w.heap.size ?_ 27 _ #[.string ⟨#[]⟩, .int .i64 0, .int .i64 0, .string ⟨#[]⟩, .slice none 0 0, .slice none 0 0] ?_ (blk_drew HX8.out) rfl size28 ?_
   ·rfl
   ·rfl
   ·rfl
   ·simp [Value.oneCell']
  refine hK.out _ _ ⟨HZ9.out, (blk_cell HY9.out 1)⟩ (fun hHeld => ?_)
  clear hK K
  refine zq 6 (some 5) ?_
  refine done_ (by kernel_rfl) ?_
  go_wp2
  (try simp only [Exit.inBlock, Exit.then])
  refine bodyPost_ret (results_ct rfl _ _ w.heap.size 27 _ (0, 0) _ rfl HG9.out Tryz.underlying27 rfl size28) rfl ?_
  exact WRec.mk ⟨⟨#[]⟩, ⟨0, 0, ⟨#[]⟩, []⟩, []⟩ (Kd.R_nil _ _ _ _ _) (Kd.R_nil _ _ _ _ _) HB9.out (.inr ⟨HE.out, by rw [pWhole, HG1.out.bad rfl HE.out]; rfl, rfl⟩)
set_option maxHeartbeats 16000000 in
theorem GetRec_calls {w : World} {b0 : Nat} {A : Option Addr} {c : Nat} {l : List Int} (hi : In (Kd.int .u8) b0 w A l) (hc : l.length ≤ c) (hr : ∀ x ∈ l, 0 ≤ x ∧ x ≤ 255) : Calls Tryz.prog 30 #[.slice A l.length c] w (WRec w (pWhole pRec l)) := by
 have HI := Aside0.mk (In.mk hi.C (Nat.le_refl _))
 have HC := Aside0.mk hc
 have HRG := Aside0.mk hr
 clear hi hc hr
 go_enter Tryz.func30, Tryz.ntmps30
 go_wp2_with fail
 refine (wholeRec_calls (HI.out.below (below_alloc (Below.refl _ _) _)) HC.out HRG.out).mono ?_
 rintro en w1 ⟨x, v4, v5, e, rfl, h4, h5, hb, hq⟩
 have hsz : (w.alloc (.cells #[.string ⟨#[]⟩, .int .i64 0, .int .i64 0, .string ⟨#[]⟩, .slice none 0 0, .slice none 0 0] 27)).heap.size = w.heap.size + 1 := size_alloc _ _
 obtain ⟨sa4, sn4, sc4, rfl⟩ : ∃ A n c, v4 = .slice A n c := (Kd.R_slice h4).elim (fun A h => h.elim (fun c h => ⟨A, _, c, h⟩))
 obtain ⟨sa5, sn5, sc5, rfl⟩ : ∃ A n c, v5 = .slice A n c := (Kd.R_slice h5).elim (fun A h => h.elim (fun c h => ⟨A, _, c, h⟩))
 have HQ4 := Aside0.mk (Kd.R_lower (base' := w.heap.size + 1) h4 (Nat.le_of_eq hsz.symm))
 clear h4
 have HQ5 := Aside0.mk (Kd.R_lower (base' := w.heap.size + 1) h5 (Nat.le_of_eq hsz.symm))
 clear h5
 have HX := Aside0.mk ((hb.block w.heap.size (by omega)).trans (heap_alloc_new w _))
 have HB := Aside0.mk (show Below w.heap.size w w1 from (below_alloc (Below.refl _ _) _).trans (hb.mono (by omega)))
 have HE := Aside0.mk hq
 clear hb hq
 have n0 := blk_cell HX.out 0
 have f0 := blk_frozen HX.out 0
 have n1 := blk_cell HX.out 1
 have f1 := blk_frozen HX.out 1
 have n2 := blk_cell HX.out 2
 have f2 := blk_frozen HX.out 2
 have n3 := blk_cell HX.out 3
 have f3 := blk_frozen HX.out 3
 have n4 := blk_cell HX.out 4
 have f4 := blk_frozen HX.out 4
 have n5 := blk_cell HX.out 5
 have f5 := blk_frozen HX.out 5
 simp only [List.getElem?_toArray, List.getElem?_cons_succ, List.getElem?_cons_zero] at n0 n1 n2 n3 n4 n5
 have hb4 := blk_lt HX.out
 obtain ⟨hW1, hW2, hW3⟩ := filln HX.out [.string x.f0, .int .i64 x.f1.f0, .int .i64 x.f1.f1, .string x.f1.f2, .slice sa4 sn4 sc4, .slice sa5 sn5 sc5] rfl
 have HF := Aside0.mk hW2
 have HT := Aside0.mk hW3
 have HG := Aside0.mk hW1
 clear hW1 hW2 hW3
 go_wp2
 (try simp only [Exit.inBlock, Exit.then])
 refine bodyPost_ret (results_ct rfl _ _ w.heap.size 27 _ (0, 0) _ rfl HG.out Tryz.underlying27 rfl size28) rfl ?_
 exact WRec.mk x (Kd.R_lower (base' := w.heap.size) (Kd.R_mono (ok' := News w) (Kd.R_move (Kd.R_bound HQ4.out) (fun q hq => HF.out q (by have := hq.2.1; omega))) (fun _ _ => trivial)) (by omega)) (Kd.R_lower (base' := w.heap.size) (Kd.R_mono (ok' := News w) (Kd.R_move (Kd.R_bound HQ5.out) (fun q hq => HF.out q (by have := hq.2.1; omega))) (fun _ _ => trivial)) (by omega)) (HB.out.trans (HT.out.below HB.out.size)) HE.out
/-- What the whole says. -/
def WSt (w : World) (r : Rd (Int × List S121)) (en : Ending) (w' : World) : Prop := ∃ (x : Int × List S121) (v1 : Value) (e : Int), en = .returned (.tuple #[.agg #[.int .i64 x.1, v1], .int .i64 e]) ∧ k121.R 129 w' w.heap.size (News w) v1 x.2 ∧ Below w.heap.size w w' ∧ ((e = 0 ∧ r = .ok x []) ∨ (e ≠ 0 ∧ r = .bad e ∧ x = (0, [])))
theorem WSt.mk {w : World} {r : Rd (Int × List S121)} {w' : World} (x : Int × List S121) {v1 : Value} {e : Int} (h1 : k121.R 129 w' w.heap.size (News w) v1 x.2) (hb : Below w.heap.size w w') (h : (e = 0 ∧ r = .ok x []) ∨ (e ≠ 0 ∧ r = .bad e ∧ x = (0, []))) : WSt w r (.returned (.tuple #[.agg #[.int .i64 x.1, v1], .int .i64 e])) w' := ⟨x, v1, e, rfl, h1, hb, h⟩
set_option maxHeartbeats 16000000 in
theorem wholeSt_calls {w : World} {b0 : Nat} {A : Option Addr} {c : Nat} {l : List Int} (hi : In (Kd.int .u8) b0 w A l) (hc : l.length ≤ c) (hr : ∀ x ∈ l, 0 ≤ x ∧ x ≤ 255) : Calls Tryz.prog 60 #[.slice A l.length c, .func (.func 61) #[] #[]] w (WSt w (pWhole pState l)) := by
 have HI := Aside0.mk (In.mk hi.C (Nat.le_refl _))
 have HC := Aside0.mk hc
 have HRG := Aside0.mk hr
 clear hi hc hr
 go_enter Tryz.func60, Tryz.ntmps60
 go_wp2_with fail
 have hB0 : Below w.heap.size w ((w.alloc (.cells #[.int .i64 0, .slice none 0 0] 30)).alloc (.cells #[.slice A l.length c, .int .i64 0] 172)) := below_alloc (below_alloc (Below.refl _ _) _) _
 have hX0 := blk_alloc (heap_alloc_new w (.cells #[.int .i64 0, .slice none 0 0] 30)) (.cells #[.slice A l.length c, .int .i64 0] 172)
 have hY0 : ((w.alloc (.cells #[.int .i64 0, .slice none 0 0] 30)).alloc (.cells #[.slice A l.length c, .int .i64 0] 172)).heap[w.heap.size + 1]? = some (.cells #[.slice A l.length c, .int .i64 0] 172 (0, 0)) := new_at _ _ _ (by rw [size_alloc])
 generalize ((w.alloc (.cells #[.int .i64 0, .slice none 0 0] 30)).alloc (.cells #[.slice A l.length c, .int .i64 0] 172)) = W0 at *
 have H0 : Rdr w.heap.size W0 (w.heap.size + 1) l 0 (.slice A l.length c) := ⟨hY0, by omega, ⟨A, c, rfl, HC.out, HI.out.ext hB0⟩, fun h => absurd rfl h, HRG.out⟩
 refine (getState_calls H0).mono ?_
 rintro en w1 ⟨x, v1, rfl, h1, l1, e1, u1, hg⟩
 have hsz1 := hg.ut.size
 have hw0 := hB0.size
 obtain ⟨sa1, sn1, sc1, rfl⟩ : ∃ A n c, v1 = .slice A n c := (Kd.R_slice h1).elim (fun A h => h.elim (fun c h => ⟨A, _, c, h⟩))
 have HQ1 := Aside0.mk (Kd.R_below (Kd.R_lower (base' := w.heap.size + 1 + 1) h1 (by have := blk_lt hY0; omega)) (below_alloc (Below.refl _ _) (.cells #[.int .i64 x.1, .slice sa1 sn1 sc1] 30)))
 clear h1
 have HX := Aside0.mk (blk_alloc (hg.ut.blk hX0 (by decide)) (.cells #[.int .i64 x.1, .slice sa1 sn1 sc1] 30))
 have HY := Aside0.mk (heap_alloc_new w1 (.cells #[.int .i64 x.1, .slice sa1 sn1 sc1] 30))
 have hh : w.heap.size + 1 < w1.heap.size := blk_lt hg.rdr.box
 have HG1 := Aside0.mk (hg.alloc (.cells #[.int .i64 x.1, .slice sa1 sn1 sc1] 30))
 have HB := Aside0.mk (hB0.trans (hg.ut.below hw0) |>.trans ((below_alloc (Below.refl _ _) (.cells #[.int .i64 x.1, .slice sa1 sn1 sc1] 30)).mono (Nat.le_trans hw0 hsz1)))
 clear hB0 hX0 hY0 H0
 obtain ⟨A1, c1, rfl, hc1, _⟩ := hg.rdr.inp
 clear hg
 have m0 := blk_cell HG1.out.rdr.box 0
 have m1 := blk_cell HG1.out.rdr.box 1
 simp only [List.getElem?_toArray, List.getElem?_cons_succ, List.getElem?_cons_zero] at m0 m1
 have hg1 := blk_lt HG1.out.rdr.box
 by_cases he : e1 = 0
 ·subst he
  by_cases hl : l1 = []
  ·subst hl
   have HE := Aside0.mk (HG1.out.ok rfl rfl)
   have n0 := blk_cell HX.out 0
   have f0 := blk_frozen HX.out 0
   have n1 := blk_cell HX.out 1
   have f1 := blk_frozen HX.out 1
   have k0 := blk_cell HY.out 0
   have k1 := blk_cell HY.out 1
   simp only [List.getElem?_toArray, List.getElem?_cons_succ, List.getElem?_cons_zero] at n0 n1 k0 k1
   have hb4 := blk_lt HX.out
   obtain ⟨hW1, hW2, hW3⟩ := filln HX.out [.int .i64 x.1, .slice sa1 sn1 sc1] rfl
   have HF := Aside0.mk hW2
   have HT := Aside0.mk hW3
   have HG := Aside0.mk hW1
   clear hW1 hW2 hW3
   go_wp2
   (try simp only [Exit.inBlock, Exit.then])
   refine bodyPost_ret (results_ct rfl _ _ w.heap.size 30 _ (0, 0) _ rfl HG.out Tryz.underlying30 rfl size31) rfl ?_
   exact WSt.mk x (Kd.R_lower (base' := w.heap.size) (Kd.R_mono (ok' := News w) (Kd.R_move (Kd.R_bound HQ1.out) (fun q hq => HF.out q (by have := hq.2.1; omega))) (fun _ _ => trivial)) (by omega)) (HB.out.trans (HT.out.below HB.out.size)) (.inl ⟨rfl, by rw [pWhole, HE.out]; rfl⟩)
  ·have hln : (l1.length : Int) > 0 := by have := List.length_pos_iff.2 hl; omega
   have HL := Aside0.mk hl
   have HE := Aside0.mk (HG1.out.ok rfl rfl)
   go_wp2_with fail
   refine (rfail_calls HG1.out.rdr 44).mono ?_
   rintro en w2 ⟨rfl, ⟨u2, hr2⟩, hu2⟩
   rw [bump_0] at hr2
   have HR2 := Aside0.mk hr2
   have HX2 := Aside0.mk (hu2.blk HX.out (by decide))
   have HB2 := Aside0.mk (HB.out.trans (hu2.below HB.out.size))
   have y1 := blk_cell hr2.box 1
   simp only [List.getElem?_toArray, List.getElem?_cons_succ, List.getElem?_cons_zero] at y1
   clear hr2 hu2 m0 m1
   have HZ := Aside0.mk (new_at w2 (.cells #[.int .i64 0, .slice none 0 0] 30) (w2.heap.size) (by first | rfl | rw [size_alloc]))
   have HX8 := Aside0.mk (blk_alloc HX2.out (.cells #[.int .i64 0, .slice none 0 0] 30))
   have HY8 := Aside0.mk (blk_alloc HR2.out.box (.cells #[.int .i64 0, .slice none 0 0] 30))
   have HB8 := Aside0.mk (HB2.out.trans ((below_alloc (Below.refl _ _) (.cells #[.int .i64 0, .slice none 0 0] 30)).mono HB2.out.size))
   have hz8 : w.heap.size + 1 < w2.heap.size := by have := blk_lt HR2.out.box; first | omega | (rw [size_alloc] at this; omega)
   obtain ⟨hW1, hW2, hW3⟩ := filln (blk_drew HX8.out) [.int .i64 0, .slice none 0 0] rfl
   have HG9 := Aside0.mk hW1
   have HZ9 := Aside0.mk ((hW2 (w2.heap.size) (by omega)).trans (blk_drew HZ.out))
   have HY9 := Aside0.mk ((hW2 (w.heap.size + 1) (by omega)).trans (blk_drew HY8.out))
   have HB9 := Aside0.mk ((below_drew HB8.out).trans (hW3.below (below_drew HB8.out).size))
   clear hW1 hW2 hW3
   go_wp2
   refine start_ (n := 7) (S := fun w' => w'.heap[w2.heap.size]? = some (.cells #[.int .i64 0, .slice none 0 0] 30 (0, 0)) ∧ w'.cell? ⟨w.heap.size + 1, 1, none⟩ = some (.int .i64 44)) (ds := []) #[false, false, false, false, false, false, false] (by kernel_rfl) rfl rfl ⟨(blk_drew HZ.out), (blk_cell (blk_drew HY8.out) 1)⟩ (fun hHeld => ?_)
   refine zq 1 (some 36) ?_
   refine zq 2 (some 37) ?_
   refine zq 3 (some 38) ?_
   refine take_ (i := 0) (N := some 35) (v := ?_) (a' := ?_) #[true, true, true, true, false, false, false] rfl rfl (by kernel_rfl) (fun _ _ _ h => h) (Or.inl ⟨by rfl, ?_⟩) hHeld ?_ ?_
   rotate_left
   ·rintro w' ⟨s0, s1⟩
    refine load_row_run 30 (.tmp 8) ?_ (w2.heap.size) ?_ 30 _ (0, 0) _ s0 Tryz.underlying30 rfl size31
    all_goals rfl
   rotate_left
   ·simp only [Act.put, zla, zlb, zlc, i64_w, i32_w]
    rfl
   refine zu 4 (some 39) hHeld ?_
   refine one_ (i := 5) (N := none) #[true, true, true, true, true, true, false] rfl rfl (by kernel_rfl) (by decide) (fun K hK => ?_)
   refine skip_ (w1 := sets (w2.alloc (.cells #[.int .i64 0, .slice none 0 0] 30)).drew w.heap.size 0 [.int .i64 0, .slice none 0 0]) (by rfl) rfl ?_ ?_
   ·refine store_row_run 30 (.tmp 4) (.tmp 35) ?_ w.heap.size ?_ 30 _ #[.int .i64 0, .slice none 0 0] ?_ (blk_drew HX8.out) rfl size31 ?_
    ·rfl
    ·rfl
    ·rfl
    ·simp [Value.oneCell']
   refine hK.out _ _ ⟨HZ9.out, (blk_cell HY9.out 1)⟩ (fun hHeld => ?_)
   clear hK K
   refine zq 6 (some 5) ?_
   refine done_ (by kernel_rfl) ?_
   go_wp2
   (try simp only [Exit.inBlock, Exit.then])
   refine bodyPost_ret (results_ct rfl _ _ w.heap.size 30 _ (0, 0) _ rfl HG9.out Tryz.underlying30 rfl size31) rfl ?_
   exact WSt.mk (0, []) (Kd.R_nil _ _ _ _ _) HB9.out (.inr ⟨by decide, by rw [pWhole, HE.out]; exact if_neg HL.out, rfl⟩)
 ·have heb : (e1 == 0) = false := by simpa using he
  have hnb : (e1 != 0) = true := by simpa using he
  have HE := Aside0.mk he
  have HZ := Aside0.mk (new_at (w1.alloc (.cells #[.int .i64 x.1, .slice sa1 sn1 sc1] 30)) (.cells #[.int .i64 0, .slice none 0 0] 30) (w1.heap.size + 1) (by first | rfl | rw [size_alloc]))
  have HX8 := Aside0.mk (blk_alloc HX.out (.cells #[.int .i64 0, .slice none 0 0] 30))
  have HY8 := Aside0.mk (blk_alloc HG1.out.rdr.box (.cells #[.int .i64 0, .slice none 0 0] 30))
  have HB8 := Aside0.mk (HB.out.trans ((below_alloc (Below.refl _ _) (.cells #[.int .i64 0, .slice none 0 0] 30)).mono HB.out.size))
  have hz8 : w.heap.size + 1 < w1.heap.size + 1 := by have := blk_lt HG1.out.rdr.box; first | omega | (rw [size_alloc] at this; omega)
  obtain ⟨hW1, hW2, hW3⟩ := filln (blk_drew HX8.out) [.int .i64 0, .slice none 0 0] rfl
  have HG9 := Aside0.mk hW1
  have HZ9 := Aside0.mk ((hW2 (w1.heap.size + 1) (by omega)).trans (blk_drew HZ.out))
  have HY9 := Aside0.mk ((hW2 (w.heap.size + 1) (by omega)).trans (blk_drew HY8.out))
  have HB9 := Aside0.mk ((below_drew HB8.out).trans (hW3.below (below_drew HB8.out).size))
  clear hW1 hW2 hW3
  go_wp2
  refine start_ (n := 7) (S := fun w' => w'.heap[w1.heap.size + 1]? = some (.cells #[.int .i64 0, .slice none 0 0] 30 (0, 0)) ∧ w'.cell? ⟨w.heap.size + 1, 1, none⟩ = some (.int .i64 e1)) (ds := []) #[false, false, false, false, false, false, false] (by kernel_rfl) rfl rfl ⟨(blk_drew HZ.out), (blk_cell (blk_drew HY8.out) 1)⟩ (fun hHeld => ?_)
  refine zq 1 (some 36) ?_
  refine zq 2 (some 37) ?_
  refine zq 3 (some 38) ?_
  refine take_ (i := 0) (N := some 35) (v := ?_) (a' := ?_) #[true, true, true, true, false, false, false] rfl rfl (by kernel_rfl) (fun _ _ _ h => h) (Or.inl ⟨by rfl, ?_⟩) hHeld ?_ ?_
  rotate_left
  ·rintro w' ⟨s0, s1⟩
   refine load_row_run 30 (.tmp 8) ?_ (w1.heap.size + 1) ?_ 30 _ (0, 0) _ s0 Tryz.underlying30 rfl size31
   all_goals rfl
  rotate_left
  ·simp only [Act.put, zla, zlb, zlc, i64_w, i32_w]
   rfl
  refine zu 4 (some 39) hHeld ?_
  refine one_ (i := 5) (N := none) #[true, true, true, true, true, true, false] rfl rfl (by kernel_rfl) (by decide) (fun K hK => ?_)
  refine skip_ (w1 := sets ((w1.alloc (.cells #[.int .i64 x.1, .slice sa1 sn1 sc1] 30)).alloc (.cells #[.int .i64 0, .slice none 0 0] 30)).drew w.heap.size 0 [.int .i64 0, .slice none 0 0]) (by rfl) rfl ?_ ?_
  ·refine store_row_run 30 (.tmp 4) (.tmp 35) ?_ w.heap.size ?_ 30 _ #[.int .i64 0, .slice none 0 0] ?_ (blk_drew HX8.out) rfl size31 ?_
   ·rfl
   ·rfl
   ·rfl
   ·simp [Value.oneCell']
  refine hK.out _ _ ⟨HZ9.out, (blk_cell HY9.out 1)⟩ (fun hHeld => ?_)
  clear hK K
  refine zq 6 (some 5) ?_
  refine done_ (by kernel_rfl) ?_
  go_wp2
  (try simp only [Exit.inBlock, Exit.then])
  refine bodyPost_ret (results_ct rfl _ _ w.heap.size 30 _ (0, 0) _ rfl HG9.out Tryz.underlying30 rfl size31) rfl ?_
  exact WSt.mk (0, []) (Kd.R_nil _ _ _ _ _) HB9.out (.inr ⟨HE.out, by rw [pWhole, HG1.out.bad rfl HE.out]; rfl, rfl⟩)
set_option maxHeartbeats 16000000 in
theorem GetSt_calls {w : World} {b0 : Nat} {A : Option Addr} {c : Nat} {l : List Int} (hi : In (Kd.int .u8) b0 w A l) (hc : l.length ≤ c) (hr : ∀ x ∈ l, 0 ≤ x ∧ x ≤ 255) : Calls Tryz.prog 26 #[.slice A l.length c] w (WSt w (pWhole pState l)) := by
 have HI := Aside0.mk (In.mk hi.C (Nat.le_refl _))
 have HC := Aside0.mk hc
 have HRG := Aside0.mk hr
 clear hi hc hr
 go_enter Tryz.func26, Tryz.ntmps26
 go_wp2_with fail
 refine (wholeSt_calls (HI.out.below (below_alloc (Below.refl _ _) _)) HC.out HRG.out).mono ?_
 rintro en w1 ⟨x, v1, e, rfl, h1, hb, hq⟩
 have hsz : (w.alloc (.cells #[.int .i64 0, .slice none 0 0] 30)).heap.size = w.heap.size + 1 := size_alloc _ _
 obtain ⟨sa1, sn1, sc1, rfl⟩ : ∃ A n c, v1 = .slice A n c := (Kd.R_slice h1).elim (fun A h => h.elim (fun c h => ⟨A, _, c, h⟩))
 have HQ1 := Aside0.mk (Kd.R_lower (base' := w.heap.size + 1) h1 (Nat.le_of_eq hsz.symm))
 clear h1
 have HX := Aside0.mk ((hb.block w.heap.size (by omega)).trans (heap_alloc_new w _))
 have HB := Aside0.mk (show Below w.heap.size w w1 from (below_alloc (Below.refl _ _) _).trans (hb.mono (by omega)))
 have HE := Aside0.mk hq
 clear hb hq
 have n0 := blk_cell HX.out 0
 have f0 := blk_frozen HX.out 0
 have n1 := blk_cell HX.out 1
 have f1 := blk_frozen HX.out 1
 simp only [List.getElem?_toArray, List.getElem?_cons_succ, List.getElem?_cons_zero] at n0 n1
 have hb4 := blk_lt HX.out
 obtain ⟨hW1, hW2, hW3⟩ := filln HX.out [.int .i64 x.1, .slice sa1 sn1 sc1] rfl
 have HF := Aside0.mk hW2
 have HT := Aside0.mk hW3
 have HG := Aside0.mk hW1
 clear hW1 hW2 hW3
 go_wp2
 (try simp only [Exit.inBlock, Exit.then])
 refine bodyPost_ret (results_ct rfl _ _ w.heap.size 30 _ (0, 0) _ rfl HG.out Tryz.underlying30 rfl size31) rfl ?_
 exact WSt.mk x (Kd.R_lower (base' := w.heap.size) (Kd.R_mono (ok' := News w) (Kd.R_move (Kd.R_bound HQ1.out) (fun q hq => HF.out q (by have := hq.2.1; omega))) (fun _ _ => trivial)) (by omega)) (HB.out.trans (HT.out.below HB.out.size)) HE.out
/-- What the whole says. -/
def WMan (w : World) (r : Rd (Int × Int × List S108)) (en : Ending) (w' : World) : Prop := ∃ (x : Int × Int × List S108) (v2 : Value) (e : Int), en = .returned (.tuple #[.agg #[.int .i64 x.1, .int .u32 x.2.1, v2], .int .i64 e]) ∧ k108.R 111 w' w.heap.size (News w) v2 x.2.2 ∧ Below w.heap.size w w' ∧ ((e = 0 ∧ r = .ok x []) ∨ (e ≠ 0 ∧ r = .bad e ∧ x = (0, 0, [])))
theorem WMan.mk {w : World} {r : Rd (Int × Int × List S108)} {w' : World} (x : Int × Int × List S108) {v2 : Value} {e : Int} (h2 : k108.R 111 w' w.heap.size (News w) v2 x.2.2) (hb : Below w.heap.size w w') (h : (e = 0 ∧ r = .ok x []) ∨ (e ≠ 0 ∧ r = .bad e ∧ x = (0, 0, []))) : WMan w r (.returned (.tuple #[.agg #[.int .i64 x.1, .int .u32 x.2.1, v2], .int .i64 e])) w' := ⟨x, v2, e, rfl, h2, hb, h⟩
set_option maxHeartbeats 16000000 in
theorem wholeMan_calls {w : World} {b0 : Nat} {A : Option Addr} {c : Nat} {l : List Int} (hi : In (Kd.int .u8) b0 w A l) (hc : l.length ≤ c) (hr : ∀ x ∈ l, 0 ≤ x ∧ x ≤ 255) : Calls Tryz.prog 64 #[.slice A l.length c, .func (.func 65) #[] #[]] w (WMan w (pWhole pMan l)) := by
 have HI := Aside0.mk (In.mk hi.C (Nat.le_refl _))
 have HC := Aside0.mk hc
 have HRG := Aside0.mk hr
 clear hi hc hr
 go_enter Tryz.func64, Tryz.ntmps64
 go_wp2_with fail
 have hB0 : Below w.heap.size w ((w.alloc (.cells #[.int .i64 0, .int .u32 0, .slice none 0 0] 41)).alloc (.cells #[.slice A l.length c, .int .i64 0] 172)) := below_alloc (below_alloc (Below.refl _ _) _) _
 have hX0 := blk_alloc (heap_alloc_new w (.cells #[.int .i64 0, .int .u32 0, .slice none 0 0] 41)) (.cells #[.slice A l.length c, .int .i64 0] 172)
 have hY0 : ((w.alloc (.cells #[.int .i64 0, .int .u32 0, .slice none 0 0] 41)).alloc (.cells #[.slice A l.length c, .int .i64 0] 172)).heap[w.heap.size + 1]? = some (.cells #[.slice A l.length c, .int .i64 0] 172 (0, 0)) := new_at _ _ _ (by rw [size_alloc])
 generalize ((w.alloc (.cells #[.int .i64 0, .int .u32 0, .slice none 0 0] 41)).alloc (.cells #[.slice A l.length c, .int .i64 0] 172)) = W0 at *
 have H0 : Rdr w.heap.size W0 (w.heap.size + 1) l 0 (.slice A l.length c) := ⟨hY0, by omega, ⟨A, c, rfl, HC.out, HI.out.ext hB0⟩, fun h => absurd rfl h, HRG.out⟩
 refine (getManifest_calls H0).mono ?_
 rintro en w1 ⟨x, v2, rfl, h2, l1, e1, u1, hg⟩
 have hsz1 := hg.ut.size
 have hw0 := hB0.size
 obtain ⟨sa2, sn2, sc2, rfl⟩ : ∃ A n c, v2 = .slice A n c := (Kd.R_slice h2).elim (fun A h => h.elim (fun c h => ⟨A, _, c, h⟩))
 have HQ2 := Aside0.mk (Kd.R_below (Kd.R_lower (base' := w.heap.size + 1 + 1) h2 (by have := blk_lt hY0; omega)) (below_alloc (Below.refl _ _) (.cells #[.int .i64 x.1, .int .u32 x.2.1, .slice sa2 sn2 sc2] 41)))
 clear h2
 have HX := Aside0.mk (blk_alloc (hg.ut.blk hX0 (by decide)) (.cells #[.int .i64 x.1, .int .u32 x.2.1, .slice sa2 sn2 sc2] 41))
 have HY := Aside0.mk (heap_alloc_new w1 (.cells #[.int .i64 x.1, .int .u32 x.2.1, .slice sa2 sn2 sc2] 41))
 have hh : w.heap.size + 1 < w1.heap.size := blk_lt hg.rdr.box
 have HG1 := Aside0.mk (hg.alloc (.cells #[.int .i64 x.1, .int .u32 x.2.1, .slice sa2 sn2 sc2] 41))
 have HB := Aside0.mk (hB0.trans (hg.ut.below hw0) |>.trans ((below_alloc (Below.refl _ _) (.cells #[.int .i64 x.1, .int .u32 x.2.1, .slice sa2 sn2 sc2] 41)).mono (Nat.le_trans hw0 hsz1)))
 clear hB0 hX0 hY0 H0
 obtain ⟨A1, c1, rfl, hc1, _⟩ := hg.rdr.inp
 clear hg
 have m0 := blk_cell HG1.out.rdr.box 0
 have m1 := blk_cell HG1.out.rdr.box 1
 simp only [List.getElem?_toArray, List.getElem?_cons_succ, List.getElem?_cons_zero] at m0 m1
 have hg1 := blk_lt HG1.out.rdr.box
 by_cases he : e1 = 0
 ·subst he
  by_cases hl : l1 = []
  ·subst hl
   have HE := Aside0.mk (HG1.out.ok rfl rfl)
   have n0 := blk_cell HX.out 0
   have f0 := blk_frozen HX.out 0
   have n1 := blk_cell HX.out 1
   have f1 := blk_frozen HX.out 1
   have n2 := blk_cell HX.out 2
   have f2 := blk_frozen HX.out 2
   have k0 := blk_cell HY.out 0
   have k1 := blk_cell HY.out 1
   have k2 := blk_cell HY.out 2
   simp only [List.getElem?_toArray, List.getElem?_cons_succ, List.getElem?_cons_zero] at n0 n1 n2 k0 k1 k2
   have hb4 := blk_lt HX.out
   obtain ⟨hW1, hW2, hW3⟩ := filln HX.out [.int .i64 x.1, .int .u32 x.2.1, .slice sa2 sn2 sc2] rfl
   have HF := Aside0.mk hW2
   have HT := Aside0.mk hW3
   have HG := Aside0.mk hW1
   clear hW1 hW2 hW3
   go_wp2
   (try simp only [Exit.inBlock, Exit.then])
   refine bodyPost_ret (results_ct rfl _ _ w.heap.size 41 _ (0, 0) _ rfl HG.out Tryz.underlying41 rfl size42) rfl ?_
   exact WMan.mk x (Kd.R_lower (base' := w.heap.size) (Kd.R_mono (ok' := News w) (Kd.R_move (Kd.R_bound HQ2.out) (fun q hq => HF.out q (by have := hq.2.1; omega))) (fun _ _ => trivial)) (by omega)) (HB.out.trans (HT.out.below HB.out.size)) (.inl ⟨rfl, by rw [pWhole, HE.out]; rfl⟩)
  ·have hln : (l1.length : Int) > 0 := by have := List.length_pos_iff.2 hl; omega
   have HL := Aside0.mk hl
   have HE := Aside0.mk (HG1.out.ok rfl rfl)
   go_wp2_with fail
   refine (rfail_calls HG1.out.rdr 44).mono ?_
   rintro en w2 ⟨rfl, ⟨u2, hr2⟩, hu2⟩
   rw [bump_0] at hr2
   have HR2 := Aside0.mk hr2
   have HX2 := Aside0.mk (hu2.blk HX.out (by decide))
   have HB2 := Aside0.mk (HB.out.trans (hu2.below HB.out.size))
   have y1 := blk_cell hr2.box 1
   simp only [List.getElem?_toArray, List.getElem?_cons_succ, List.getElem?_cons_zero] at y1
   clear hr2 hu2 m0 m1
   have HZ := Aside0.mk (new_at w2 (.cells #[.int .i64 0, .int .u32 0, .slice none 0 0] 41) (w2.heap.size) (by first | rfl | rw [size_alloc]))
   have HX8 := Aside0.mk (blk_alloc HX2.out (.cells #[.int .i64 0, .int .u32 0, .slice none 0 0] 41))
   have HY8 := Aside0.mk (blk_alloc HR2.out.box (.cells #[.int .i64 0, .int .u32 0, .slice none 0 0] 41))
   have HB8 := Aside0.mk (HB2.out.trans ((below_alloc (Below.refl _ _) (.cells #[.int .i64 0, .int .u32 0, .slice none 0 0] 41)).mono HB2.out.size))
   have hz8 : w.heap.size + 1 < w2.heap.size := by have := blk_lt HR2.out.box; first | omega | (rw [size_alloc] at this; omega)
   obtain ⟨hW1, hW2, hW3⟩ := filln (blk_drew HX8.out) [.int .i64 0, .int .u32 0, .slice none 0 0] rfl
   have HG9 := Aside0.mk hW1
   have HZ9 := Aside0.mk ((hW2 (w2.heap.size) (by omega)).trans (blk_drew HZ.out))
   have HY9 := Aside0.mk ((hW2 (w.heap.size + 1) (by omega)).trans (blk_drew HY8.out))
   have HB9 := Aside0.mk ((below_drew HB8.out).trans (hW3.below (below_drew HB8.out).size))
   clear hW1 hW2 hW3
   go_wp2
   refine start_ (n := 7) (S := fun w' => w'.heap[w2.heap.size]? = some (.cells #[.int .i64 0, .int .u32 0, .slice none 0 0] 41 (0, 0)) ∧ w'.cell? ⟨w.heap.size + 1, 1, none⟩ = some (.int .i64 44)) (ds := []) #[false, false, false, false, false, false, false] (by kernel_rfl) rfl rfl ⟨(blk_drew HZ.out), (blk_cell (blk_drew HY8.out) 1)⟩ (fun hHeld => ?_)
   refine zq 1 (some 36) ?_
   refine zq 2 (some 37) ?_
   refine zq 3 (some 38) ?_
   refine take_ (i := 0) (N := some 35) (v := ?_) (a' := ?_) #[true, true, true, true, false, false, false] rfl rfl (by kernel_rfl) (fun _ _ _ h => h) (Or.inl ⟨by rfl, ?_⟩) hHeld ?_ ?_
   rotate_left
   ·rintro w' ⟨s0, s1⟩
    refine load_row_run 41 (.tmp 8) ?_ (w2.heap.size) ?_ 41 _ (0, 0) _ s0 Tryz.underlying41 rfl size42
    all_goals rfl
   rotate_left
   ·simp only [Act.put, zla, zlb, zlc, i64_w, i32_w]
    rfl
   refine zu 4 (some 39) hHeld ?_
   refine one_ (i := 5) (N := none) #[true, true, true, true, true, true, false] rfl rfl (by kernel_rfl) (by decide) (fun K hK => ?_)
   refine skip_ (w1 := sets (w2.alloc (.cells #[.int .i64 0, .int .u32 0, .slice none 0 0] 41)).drew w.heap.size 0 [.int .i64 0, .int .u32 0, .slice none 0 0]) (by rfl) rfl ?_ ?_
   ·refine store_row_run 41 (.tmp 4) (.tmp 35) ?_ w.heap.size ?_ 41 _ #[.int .i64 0, .int .u32 0, .slice none 0 0] ?_ (blk_drew HX8.out) rfl size42 ?_
    ·rfl
    ·rfl
    ·rfl
    ·simp [Value.oneCell']
   refine hK.out _ _ ⟨HZ9.out, (blk_cell HY9.out 1)⟩ (fun hHeld => ?_)
   clear hK K
   refine zq 6 (some 5) ?_
   refine done_ (by kernel_rfl) ?_
   go_wp2
   (try simp only [Exit.inBlock, Exit.then])
   refine bodyPost_ret (results_ct rfl _ _ w.heap.size 41 _ (0, 0) _ rfl HG9.out Tryz.underlying41 rfl size42) rfl ?_
   exact WMan.mk (0, 0, []) (Kd.R_nil _ _ _ _ _) HB9.out (.inr ⟨by decide, by rw [pWhole, HE.out]; exact if_neg HL.out, rfl⟩)
 ·have heb : (e1 == 0) = false := by simpa using he
  have hnb : (e1 != 0) = true := by simpa using he
  have HE := Aside0.mk he
  have HZ := Aside0.mk (new_at (w1.alloc (.cells #[.int .i64 x.1, .int .u32 x.2.1, .slice sa2 sn2 sc2] 41)) (.cells #[.int .i64 0, .int .u32 0, .slice none 0 0] 41) (w1.heap.size + 1) (by first | rfl | rw [size_alloc]))
  have HX8 := Aside0.mk (blk_alloc HX.out (.cells #[.int .i64 0, .int .u32 0, .slice none 0 0] 41))
  have HY8 := Aside0.mk (blk_alloc HG1.out.rdr.box (.cells #[.int .i64 0, .int .u32 0, .slice none 0 0] 41))
  have HB8 := Aside0.mk (HB.out.trans ((below_alloc (Below.refl _ _) (.cells #[.int .i64 0, .int .u32 0, .slice none 0 0] 41)).mono HB.out.size))
  have hz8 : w.heap.size + 1 < w1.heap.size + 1 := by have := blk_lt HG1.out.rdr.box; first | omega | (rw [size_alloc] at this; omega)
  obtain ⟨hW1, hW2, hW3⟩ := filln (blk_drew HX8.out) [.int .i64 0, .int .u32 0, .slice none 0 0] rfl
  have HG9 := Aside0.mk hW1
  have HZ9 := Aside0.mk ((hW2 (w1.heap.size + 1) (by omega)).trans (blk_drew HZ.out))
  have HY9 := Aside0.mk ((hW2 (w.heap.size + 1) (by omega)).trans (blk_drew HY8.out))
  have HB9 := Aside0.mk ((below_drew HB8.out).trans (hW3.below (below_drew HB8.out).size))
  clear hW1 hW2 hW3
  go_wp2
  refine start_ (n := 7) (S := fun w' => w'.heap[w1.heap.size + 1]? = some (.cells #[.int .i64 0, .int .u32 0, .slice none 0 0] 41 (0, 0)) ∧ w'.cell? ⟨w.heap.size + 1, 1, none⟩ = some (.int .i64 e1)) (ds := []) #[false, false, false, false, false, false, false] (by kernel_rfl) rfl rfl ⟨(blk_drew HZ.out), (blk_cell (blk_drew HY8.out) 1)⟩ (fun hHeld => ?_)
  refine zq 1 (some 36) ?_
  refine zq 2 (some 37) ?_
  refine zq 3 (some 38) ?_
  refine take_ (i := 0) (N := some 35) (v := ?_) (a' := ?_) #[true, true, true, true, false, false, false] rfl rfl (by kernel_rfl) (fun _ _ _ h => h) (Or.inl ⟨by rfl, ?_⟩) hHeld ?_ ?_
  rotate_left
  ·rintro w' ⟨s0, s1⟩
   refine load_row_run 41 (.tmp 8) ?_ (w1.heap.size + 1) ?_ 41 _ (0, 0) _ s0 Tryz.underlying41 rfl size42
   all_goals rfl
  rotate_left
  ·simp only [Act.put, zla, zlb, zlc, i64_w, i32_w]
   rfl
  refine zu 4 (some 39) hHeld ?_
  refine one_ (i := 5) (N := none) #[true, true, true, true, true, true, false] rfl rfl (by kernel_rfl) (by decide) (fun K hK => ?_)
  refine skip_ (w1 := sets ((w1.alloc (.cells #[.int .i64 x.1, .int .u32 x.2.1, .slice sa2 sn2 sc2] 41)).alloc (.cells #[.int .i64 0, .int .u32 0, .slice none 0 0] 41)).drew w.heap.size 0 [.int .i64 0, .int .u32 0, .slice none 0 0]) (by rfl) rfl ?_ ?_
  ·refine store_row_run 41 (.tmp 4) (.tmp 35) ?_ w.heap.size ?_ 41 _ #[.int .i64 0, .int .u32 0, .slice none 0 0] ?_ (blk_drew HX8.out) rfl size42 ?_
   ·rfl
   ·rfl
   ·rfl
   ·simp [Value.oneCell']
  refine hK.out _ _ ⟨HZ9.out, (blk_cell HY9.out 1)⟩ (fun hHeld => ?_)
  clear hK K
  refine zq 6 (some 5) ?_
  refine done_ (by kernel_rfl) ?_
  go_wp2
  (try simp only [Exit.inBlock, Exit.then])
  refine bodyPost_ret (results_ct rfl _ _ w.heap.size 41 _ (0, 0) _ rfl HG9.out Tryz.underlying41 rfl size42) rfl ?_
  exact WMan.mk (0, 0, []) (Kd.R_nil _ _ _ _ _) HB9.out (.inr ⟨HE.out, by rw [pWhole, HG1.out.bad rfl HE.out]; rfl, rfl⟩)
set_option maxHeartbeats 16000000 in
theorem GetMan_calls {w : World} {b0 : Nat} {A : Option Addr} {c : Nat} {l : List Int} (hi : In (Kd.int .u8) b0 w A l) (hc : l.length ≤ c) (hr : ∀ x ∈ l, 0 ≤ x ∧ x ≤ 255) : Calls Tryz.prog 28 #[.slice A l.length c] w (WMan w (pWhole pMan l)) := by
 have HI := Aside0.mk (In.mk hi.C (Nat.le_refl _))
 have HC := Aside0.mk hc
 have HRG := Aside0.mk hr
 clear hi hc hr
 go_enter Tryz.func28, Tryz.ntmps28
 go_wp2_with fail
 refine (wholeMan_calls (HI.out.below (below_alloc (Below.refl _ _) _)) HC.out HRG.out).mono ?_
 rintro en w1 ⟨x, v2, e, rfl, h2, hb, hq⟩
 have hsz : (w.alloc (.cells #[.int .i64 0, .int .u32 0, .slice none 0 0] 41)).heap.size = w.heap.size + 1 := size_alloc _ _
 obtain ⟨sa2, sn2, sc2, rfl⟩ : ∃ A n c, v2 = .slice A n c := (Kd.R_slice h2).elim (fun A h => h.elim (fun c h => ⟨A, _, c, h⟩))
 have HQ2 := Aside0.mk (Kd.R_lower (base' := w.heap.size + 1) h2 (Nat.le_of_eq hsz.symm))
 clear h2
 have HX := Aside0.mk ((hb.block w.heap.size (by omega)).trans (heap_alloc_new w _))
 have HB := Aside0.mk (show Below w.heap.size w w1 from (below_alloc (Below.refl _ _) _).trans (hb.mono (by omega)))
 have HE := Aside0.mk hq
 clear hb hq
 have n0 := blk_cell HX.out 0
 have f0 := blk_frozen HX.out 0
 have n1 := blk_cell HX.out 1
 have f1 := blk_frozen HX.out 1
 have n2 := blk_cell HX.out 2
 have f2 := blk_frozen HX.out 2
 simp only [List.getElem?_toArray, List.getElem?_cons_succ, List.getElem?_cons_zero] at n0 n1 n2
 have hb4 := blk_lt HX.out
 obtain ⟨hW1, hW2, hW3⟩ := filln HX.out [.int .i64 x.1, .int .u32 x.2.1, .slice sa2 sn2 sc2] rfl
 have HF := Aside0.mk hW2
 have HT := Aside0.mk hW3
 have HG := Aside0.mk hW1
 clear hW1 hW2 hW3
 go_wp2
 (try simp only [Exit.inBlock, Exit.then])
 refine bodyPost_ret (results_ct rfl _ _ w.heap.size 41 _ (0, 0) _ rfl HG.out Tryz.underlying41 rfl size42) rfl ?_
 exact WMan.mk x (Kd.R_lower (base' := w.heap.size) (Kd.R_mono (ok' := News w) (Kd.R_move (Kd.R_bound HQ2.out) (fun q hq => HF.out q (by have := hq.2.1; omega))) (fun _ _ => trivial)) (by omega)) (HB.out.trans (HT.out.below HB.out.size)) HE.out
/-- What the whole says. -/
def WOut (w : World) (r : Rd (Int × S28)) (en : Ending) (w' : World) : Prop := ∃ (x : Int × S28) (v4 v5 : Value) (e : Int), en = .returned (.tuple #[.agg #[.int .i64 x.1, .string x.2.f0, .int .i64 x.2.f1.f0, .int .i64 x.2.f1.f1, .string x.2.f1.f2, v4, v5], .int .i64 e]) ∧ k25.R 24 w' w.heap.size (News w) v4 x.2.f1.f3 ∧ (Kd.int .i64).R 3 w' w.heap.size (News w) v5 x.2.f2 ∧ Below w.heap.size w w' ∧ ((e = 0 ∧ r = .ok x []) ∨ (e ≠ 0 ∧ r = .bad e ∧ x = (0, ⟨⟨#[]⟩, ⟨0, 0, ⟨#[]⟩, []⟩, []⟩)))
theorem WOut.mk {w : World} {r : Rd (Int × S28)} {w' : World} (x : Int × S28) {v4 v5 : Value} {e : Int} (h4 : k25.R 24 w' w.heap.size (News w) v4 x.2.f1.f3) (h5 : (Kd.int .i64).R 3 w' w.heap.size (News w) v5 x.2.f2) (hb : Below w.heap.size w w') (h : (e = 0 ∧ r = .ok x []) ∨ (e ≠ 0 ∧ r = .bad e ∧ x = (0, ⟨⟨#[]⟩, ⟨0, 0, ⟨#[]⟩, []⟩, []⟩))) : WOut w r (.returned (.tuple #[.agg #[.int .i64 x.1, .string x.2.f0, .int .i64 x.2.f1.f0, .int .i64 x.2.f1.f1, .string x.2.f1.f2, v4, v5], .int .i64 e])) w' := ⟨x, v4, v5, e, rfl, h4, h5, hb, h⟩
set_option maxHeartbeats 16000000 in
theorem wholeOut_calls {w : World} {b0 : Nat} {A : Option Addr} {c : Nat} {l : List Int} (hi : In (Kd.int .u8) b0 w A l) (hc : l.length ≤ c) (hr : ∀ x ∈ l, 0 ≤ x ∧ x ≤ 255) : Calls Tryz.prog 66 #[.slice A l.length c, .func (.func 67) #[] #[]] w (WOut w (pWhole pOut l)) := by
 have HI := Aside0.mk (In.mk hi.C (Nat.le_refl _))
 have HC := Aside0.mk hc
 have HRG := Aside0.mk hr
 clear hi hc hr
 go_enter Tryz.func66, Tryz.ntmps66
 go_wp2_with fail
 have hB0 : Below w.heap.size w ((w.alloc (.cells #[.int .i64 0, .string ⟨#[]⟩, .int .i64 0, .int .i64 0, .string ⟨#[]⟩, .slice none 0 0, .slice none 0 0] 43)).alloc (.cells #[.slice A l.length c, .int .i64 0] 172)) := below_alloc (below_alloc (Below.refl _ _) _) _
 have hX0 := blk_alloc (heap_alloc_new w (.cells #[.int .i64 0, .string ⟨#[]⟩, .int .i64 0, .int .i64 0, .string ⟨#[]⟩, .slice none 0 0, .slice none 0 0] 43)) (.cells #[.slice A l.length c, .int .i64 0] 172)
 have hY0 : ((w.alloc (.cells #[.int .i64 0, .string ⟨#[]⟩, .int .i64 0, .int .i64 0, .string ⟨#[]⟩, .slice none 0 0, .slice none 0 0] 43)).alloc (.cells #[.slice A l.length c, .int .i64 0] 172)).heap[w.heap.size + 1]? = some (.cells #[.slice A l.length c, .int .i64 0] 172 (0, 0)) := new_at _ _ _ (by rw [size_alloc])
 generalize ((w.alloc (.cells #[.int .i64 0, .string ⟨#[]⟩, .int .i64 0, .int .i64 0, .string ⟨#[]⟩, .slice none 0 0, .slice none 0 0] 43)).alloc (.cells #[.slice A l.length c, .int .i64 0] 172)) = W0 at *
 have H0 : Rdr w.heap.size W0 (w.heap.size + 1) l 0 (.slice A l.length c) := ⟨hY0, by omega, ⟨A, c, rfl, HC.out, HI.out.ext hB0⟩, fun h => absurd rfl h, HRG.out⟩
 refine (getOut_calls H0).mono ?_
 rintro en w1 ⟨x, v4, v5, rfl, h4, h5, l1, e1, u1, hg⟩
 have hsz1 := hg.ut.size
 have hw0 := hB0.size
 obtain ⟨sa4, sn4, sc4, rfl⟩ : ∃ A n c, v4 = .slice A n c := (Kd.R_slice h4).elim (fun A h => h.elim (fun c h => ⟨A, _, c, h⟩))
 obtain ⟨sa5, sn5, sc5, rfl⟩ : ∃ A n c, v5 = .slice A n c := (Kd.R_slice h5).elim (fun A h => h.elim (fun c h => ⟨A, _, c, h⟩))
 have HQ4 := Aside0.mk (Kd.R_below (Kd.R_lower (base' := w.heap.size + 1 + 1) h4 (by have := blk_lt hY0; omega)) (below_alloc (Below.refl _ _) (.cells #[.int .i64 x.1, .string x.2.f0, .int .i64 x.2.f1.f0, .int .i64 x.2.f1.f1, .string x.2.f1.f2, .slice sa4 sn4 sc4, .slice sa5 sn5 sc5] 43)))
 clear h4
 have HQ5 := Aside0.mk (Kd.R_below (Kd.R_lower (base' := w.heap.size + 1 + 1) h5 (by have := blk_lt hY0; omega)) (below_alloc (Below.refl _ _) (.cells #[.int .i64 x.1, .string x.2.f0, .int .i64 x.2.f1.f0, .int .i64 x.2.f1.f1, .string x.2.f1.f2, .slice sa4 sn4 sc4, .slice sa5 sn5 sc5] 43)))
 clear h5
 have HX := Aside0.mk (blk_alloc (hg.ut.blk hX0 (by decide)) (.cells #[.int .i64 x.1, .string x.2.f0, .int .i64 x.2.f1.f0, .int .i64 x.2.f1.f1, .string x.2.f1.f2, .slice sa4 sn4 sc4, .slice sa5 sn5 sc5] 43))
 have HY := Aside0.mk (heap_alloc_new w1 (.cells #[.int .i64 x.1, .string x.2.f0, .int .i64 x.2.f1.f0, .int .i64 x.2.f1.f1, .string x.2.f1.f2, .slice sa4 sn4 sc4, .slice sa5 sn5 sc5] 43))
 have hh : w.heap.size + 1 < w1.heap.size := blk_lt hg.rdr.box
 have HG1 := Aside0.mk (hg.alloc (.cells #[.int .i64 x.1, .string x.2.f0, .int .i64 x.2.f1.f0, .int .i64 x.2.f1.f1, .string x.2.f1.f2, .slice sa4 sn4 sc4, .slice sa5 sn5 sc5] 43))
 have HB := Aside0.mk (hB0.trans (hg.ut.below hw0) |>.trans ((below_alloc (Below.refl _ _) (.cells #[.int .i64 x.1, .string x.2.f0, .int .i64 x.2.f1.f0, .int .i64 x.2.f1.f1, .string x.2.f1.f2, .slice sa4 sn4 sc4, .slice sa5 sn5 sc5] 43)).mono (Nat.le_trans hw0 hsz1)))
 clear hB0 hX0 hY0 H0
 obtain ⟨A1, c1, rfl, hc1, _⟩ := hg.rdr.inp
 clear hg
 have m0 := blk_cell HG1.out.rdr.box 0
 have m1 := blk_cell HG1.out.rdr.box 1
 simp only [List.getElem?_toArray, List.getElem?_cons_succ, List.getElem?_cons_zero] at m0 m1
 have hg1 := blk_lt HG1.out.rdr.box
 by_cases he : e1 = 0
 ·subst he
  by_cases hl : l1 = []
  ·subst hl
   have HE := Aside0.mk (HG1.out.ok rfl rfl)
   have n0 := blk_cell HX.out 0
   have f0 := blk_frozen HX.out 0
   have n1 := blk_cell HX.out 1
   have f1 := blk_frozen HX.out 1
   have n2 := blk_cell HX.out 2
   have f2 := blk_frozen HX.out 2
   have n3 := blk_cell HX.out 3
   have f3 := blk_frozen HX.out 3
   have n4 := blk_cell HX.out 4
   have f4 := blk_frozen HX.out 4
   have n5 := blk_cell HX.out 5
   have f5 := blk_frozen HX.out 5
   have n6 := blk_cell HX.out 6
   have f6 := blk_frozen HX.out 6
   have k0 := blk_cell HY.out 0
   have k1 := blk_cell HY.out 1
   have k2 := blk_cell HY.out 2
   have k3 := blk_cell HY.out 3
   have k4 := blk_cell HY.out 4
   have k5 := blk_cell HY.out 5
   have k6 := blk_cell HY.out 6
   simp only [List.getElem?_toArray, List.getElem?_cons_succ, List.getElem?_cons_zero] at n0 n1 n2 n3 n4 n5 n6 k0 k1 k2 k3 k4 k5 k6
   have hb4 := blk_lt HX.out
   obtain ⟨hW1, hW2, hW3⟩ := filln HX.out [.int .i64 x.1, .string x.2.f0, .int .i64 x.2.f1.f0, .int .i64 x.2.f1.f1, .string x.2.f1.f2, .slice sa4 sn4 sc4, .slice sa5 sn5 sc5] rfl
   have HF := Aside0.mk hW2
   have HT := Aside0.mk hW3
   have HG := Aside0.mk hW1
   clear hW1 hW2 hW3
   go_wp2
   (try simp only [Exit.inBlock, Exit.then])
   refine bodyPost_ret (results_ct rfl _ _ w.heap.size 43 _ (0, 0) _ rfl HG.out Tryz.underlying43 rfl size44) rfl ?_
   exact WOut.mk x (Kd.R_lower (base' := w.heap.size) (Kd.R_mono (ok' := News w) (Kd.R_move (Kd.R_bound HQ4.out) (fun q hq => HF.out q (by have := hq.2.1; omega))) (fun _ _ => trivial)) (by omega)) (Kd.R_lower (base' := w.heap.size) (Kd.R_mono (ok' := News w) (Kd.R_move (Kd.R_bound HQ5.out) (fun q hq => HF.out q (by have := hq.2.1; omega))) (fun _ _ => trivial)) (by omega)) (HB.out.trans (HT.out.below HB.out.size)) (.inl ⟨rfl, by rw [pWhole, HE.out]; rfl⟩)
  ·have hln : (l1.length : Int) > 0 := by have := List.length_pos_iff.2 hl; omega
   have HL := Aside0.mk hl
   have HE := Aside0.mk (HG1.out.ok rfl rfl)
   go_wp2_with fail
   refine (rfail_calls HG1.out.rdr 44).mono ?_
   rintro en w2 ⟨rfl, ⟨u2, hr2⟩, hu2⟩
   rw [bump_0] at hr2
   have HR2 := Aside0.mk hr2
   have HX2 := Aside0.mk (hu2.blk HX.out (by decide))
   have HB2 := Aside0.mk (HB.out.trans (hu2.below HB.out.size))
   have y1 := blk_cell hr2.box 1
   simp only [List.getElem?_toArray, List.getElem?_cons_succ, List.getElem?_cons_zero] at y1
   clear hr2 hu2 m0 m1
   have HZ := Aside0.mk (new_at w2 (.cells #[.int .i64 0, .string ⟨#[]⟩, .int .i64 0, .int .i64 0, .string ⟨#[]⟩, .slice none 0 0, .slice none 0 0] 43) (w2.heap.size) (by first | rfl | rw [size_alloc]))
   have HX8 := Aside0.mk (blk_alloc HX2.out (.cells #[.int .i64 0, .string ⟨#[]⟩, .int .i64 0, .int .i64 0, .string ⟨#[]⟩, .slice none 0 0, .slice none 0 0] 43))
   have HY8 := Aside0.mk (blk_alloc HR2.out.box (.cells #[.int .i64 0, .string ⟨#[]⟩, .int .i64 0, .int .i64 0, .string ⟨#[]⟩, .slice none 0 0, .slice none 0 0] 43))
   have HB8 := Aside0.mk (HB2.out.trans ((below_alloc (Below.refl _ _) (.cells #[.int .i64 0, .string ⟨#[]⟩, .int .i64 0, .int .i64 0, .string ⟨#[]⟩, .slice none 0 0, .slice none 0 0] 43)).mono HB2.out.size))
   have hz8 : w.heap.size + 1 < w2.heap.size := by have := blk_lt HR2.out.box; first | omega | (rw [size_alloc] at this; omega)
   obtain ⟨hW1, hW2, hW3⟩ := filln (blk_drew HX8.out) [.int .i64 0, .string ⟨#[]⟩, .int .i64 0, .int .i64 0, .string ⟨#[]⟩, .slice none 0 0, .slice none 0 0] rfl
   have HG9 := Aside0.mk hW1
   have HZ9 := Aside0.mk ((hW2 (w2.heap.size) (by omega)).trans (blk_drew HZ.out))
   have HY9 := Aside0.mk ((hW2 (w.heap.size + 1) (by omega)).trans (blk_drew HY8.out))
   have HB9 := Aside0.mk ((below_drew HB8.out).trans (hW3.below (below_drew HB8.out).size))
   clear hW1 hW2 hW3
   go_wp2
   refine start_ (n := 7) (S := fun w' => w'.heap[w2.heap.size]? = some (.cells #[.int .i64 0, .string ⟨#[]⟩, .int .i64 0, .int .i64 0, .string ⟨#[]⟩, .slice none 0 0, .slice none 0 0] 43 (0, 0)) ∧ w'.cell? ⟨w.heap.size + 1, 1, none⟩ = some (.int .i64 44)) (ds := []) #[false, false, false, false, false, false, false] (by kernel_rfl) rfl rfl ⟨(blk_drew HZ.out), (blk_cell (blk_drew HY8.out) 1)⟩ (fun hHeld => ?_)
   refine zq 1 (some 36) ?_
   refine zq 2 (some 37) ?_
   refine zq 3 (some 38) ?_
   refine take_ (i := 0) (N := some 35) (v := ?_) (a' := ?_) #[true, true, true, true, false, false, false] rfl rfl (by kernel_rfl) (fun _ _ _ h => h) (Or.inl ⟨by rfl, ?_⟩) hHeld ?_ ?_
   rotate_left
   ·rintro w' ⟨s0, s1⟩
    refine load_row_run 43 (.tmp 8) ?_ (w2.heap.size) ?_ 43 _ (0, 0) _ s0 Tryz.underlying43 rfl size44
    all_goals rfl
   rotate_left
   ·simp only [Act.put, zla, zlb, zlc, i64_w, i32_w]
    rfl
   refine zu 4 (some 39) hHeld ?_
   refine one_ (i := 5) (N := none) #[true, true, true, true, true, true, false] rfl rfl (by kernel_rfl) (by decide) (fun K hK => ?_)
   refine skip_ (w1 := sets (w2.alloc (.cells #[.int .i64 0, .string ⟨#[]⟩, .int .i64 0, .int .i64 0, .string ⟨#[]⟩, .slice none 0 0, .slice none 0 0] 43)).drew w.heap.size 0 [.int .i64 0, .string ⟨#[]⟩, .int .i64 0, .int .i64 0, .string ⟨#[]⟩, .slice none 0 0, .slice none 0 0]) (by rfl) rfl ?_ ?_
   ·refine store_row_run 43 (.tmp 4) (.tmp 35) ?_ w.heap.size ?_ 43 _ #[.int .i64 0, .string ⟨#[]⟩, .int .i64 0, .int .i64 0, .string ⟨#[]⟩, .slice none 0 0, .slice none 0 0] ?_ (blk_drew HX8.out) rfl size44 ?_
    ·rfl
    ·rfl
    ·rfl
    ·simp [Value.oneCell']
   refine hK.out _ _ ⟨HZ9.out, (blk_cell HY9.out 1)⟩ (fun hHeld => ?_)
   clear hK K
   refine zq 6 (some 5) ?_
   refine done_ (by kernel_rfl) ?_
   go_wp2
   (try simp only [Exit.inBlock, Exit.then])
   refine bodyPost_ret (results_ct rfl _ _ w.heap.size 43 _ (0, 0) _ rfl HG9.out Tryz.underlying43 rfl size44) rfl ?_
   exact WOut.mk (0, ⟨⟨#[]⟩, ⟨0, 0, ⟨#[]⟩, []⟩, []⟩) (Kd.R_nil _ _ _ _ _) (Kd.R_nil _ _ _ _ _) HB9.out (.inr ⟨by decide, by rw [pWhole, HE.out]; exact if_neg HL.out, rfl⟩)
 ·have heb : (e1 == 0) = false := by simpa using he
  have hnb : (e1 != 0) = true := by simpa using he
  have HE := Aside0.mk he
  have HZ := Aside0.mk (new_at (w1.alloc (.cells #[.int .i64 x.1, .string x.2.f0, .int .i64 x.2.f1.f0, .int .i64 x.2.f1.f1, .string x.2.f1.f2, .slice sa4 sn4 sc4, .slice sa5 sn5 sc5] 43)) (.cells #[.int .i64 0, .string ⟨#[]⟩, .int .i64 0, .int .i64 0, .string ⟨#[]⟩, .slice none 0 0, .slice none 0 0] 43) (w1.heap.size + 1) (by first | rfl | rw [size_alloc]))
  have HX8 := Aside0.mk (blk_alloc HX.out (.cells #[.int .i64 0, .string ⟨#[]⟩, .int .i64 0, .int .i64 0, .string ⟨#[]⟩, .slice none 0 0, .slice none 0 0] 43))
  have HY8 := Aside0.mk (blk_alloc HG1.out.rdr.box (.cells #[.int .i64 0, .string ⟨#[]⟩, .int .i64 0, .int .i64 0, .string ⟨#[]⟩, .slice none 0 0, .slice none 0 0] 43))
  have HB8 := Aside0.mk (HB.out.trans ((below_alloc (Below.refl _ _) (.cells #[.int .i64 0, .string ⟨#[]⟩, .int .i64 0, .int .i64 0, .string ⟨#[]⟩, .slice none 0 0, .slice none 0 0] 43)).mono HB.out.size))
  have hz8 : w.heap.size + 1 < w1.heap.size + 1 := by have := blk_lt HG1.out.rdr.box; first | omega | (rw [size_alloc] at this; omega)
  obtain ⟨hW1, hW2, hW3⟩ := filln (blk_drew HX8.out) [.int .i64 0, .string ⟨#[]⟩, .int .i64 0, .int .i64 0, .string ⟨#[]⟩, .slice none 0 0, .slice none 0 0] rfl
  have HG9 := Aside0.mk hW1
  have HZ9 := Aside0.mk ((hW2 (w1.heap.size + 1) (by omega)).trans (blk_drew HZ.out))
  have HY9 := Aside0.mk ((hW2 (w.heap.size + 1) (by omega)).trans (blk_drew HY8.out))
  have HB9 := Aside0.mk ((below_drew HB8.out).trans (hW3.below (below_drew HB8.out).size))
  clear hW1 hW2 hW3
  go_wp2
  refine start_ (n := 7) (S := fun w' => w'.heap[w1.heap.size + 1]? = some (.cells #[.int .i64 0, .string ⟨#[]⟩, .int .i64 0, .int .i64 0, .string ⟨#[]⟩, .slice none 0 0, .slice none 0 0] 43 (0, 0)) ∧ w'.cell? ⟨w.heap.size + 1, 1, none⟩ = some (.int .i64 e1)) (ds := []) #[false, false, false, false, false, false, false] (by kernel_rfl) rfl rfl ⟨(blk_drew HZ.out), (blk_cell (blk_drew HY8.out) 1)⟩ (fun hHeld => ?_)
  refine zq 1 (some 36) ?_
  refine zq 2 (some 37) ?_
  refine zq 3 (some 38) ?_
  refine take_ (i := 0) (N := some 35) (v := ?_) (a' := ?_) #[true, true, true, true, false, false, false] rfl rfl (by kernel_rfl) (fun _ _ _ h => h) (Or.inl ⟨by rfl, ?_⟩) hHeld ?_ ?_
  rotate_left
  ·rintro w' ⟨s0, s1⟩
   refine load_row_run 43 (.tmp 8) ?_ (w1.heap.size + 1) ?_ 43 _ (0, 0) _ s0 Tryz.underlying43 rfl size44
   all_goals rfl
  rotate_left
  ·simp only [Act.put, zla, zlb, zlc, i64_w, i32_w]
   rfl
  refine zu 4 (some 39) hHeld ?_
  refine one_ (i := 5) (N := none) #[true, true, true, true, true, true, false] rfl rfl (by kernel_rfl) (by decide) (fun K hK => ?_)
  refine skip_ (w1 := sets ((w1.alloc (.cells #[.int .i64 x.1, .string x.2.f0, .int .i64 x.2.f1.f0, .int .i64 x.2.f1.f1, .string x.2.f1.f2, .slice sa4 sn4 sc4, .slice sa5 sn5 sc5] 43)).alloc (.cells #[.int .i64 0, .string ⟨#[]⟩, .int .i64 0, .int .i64 0, .string ⟨#[]⟩, .slice none 0 0, .slice none 0 0] 43)).drew w.heap.size 0 [.int .i64 0, .string ⟨#[]⟩, .int .i64 0, .int .i64 0, .string ⟨#[]⟩, .slice none 0 0, .slice none 0 0]) (by rfl) rfl ?_ ?_
  ·refine store_row_run 43 (.tmp 4) (.tmp 35) ?_ w.heap.size ?_ 43 _ #[.int .i64 0, .string ⟨#[]⟩, .int .i64 0, .int .i64 0, .string ⟨#[]⟩, .slice none 0 0, .slice none 0 0] ?_ (blk_drew HX8.out) rfl size44 ?_
   ·rfl
   ·rfl
   ·rfl
   ·simp [Value.oneCell']
  refine hK.out _ _ ⟨HZ9.out, (blk_cell HY9.out 1)⟩ (fun hHeld => ?_)
  clear hK K
  refine zq 6 (some 5) ?_
  refine done_ (by kernel_rfl) ?_
  go_wp2
  (try simp only [Exit.inBlock, Exit.then])
  refine bodyPost_ret (results_ct rfl _ _ w.heap.size 43 _ (0, 0) _ rfl HG9.out Tryz.underlying43 rfl size44) rfl ?_
  exact WOut.mk (0, ⟨⟨#[]⟩, ⟨0, 0, ⟨#[]⟩, []⟩, []⟩) (Kd.R_nil _ _ _ _ _) (Kd.R_nil _ _ _ _ _) HB9.out (.inr ⟨HE.out, by rw [pWhole, HG1.out.bad rfl HE.out]; rfl, rfl⟩)
set_option maxHeartbeats 16000000 in
theorem GetOut_calls {w : World} {b0 : Nat} {A : Option Addr} {c : Nat} {l : List Int} (hi : In (Kd.int .u8) b0 w A l) (hc : l.length ≤ c) (hr : ∀ x ∈ l, 0 ≤ x ∧ x ≤ 255) : Calls Tryz.prog 29 #[.slice A l.length c] w (WOut w (pWhole pOut l)) := by
 have HI := Aside0.mk (In.mk hi.C (Nat.le_refl _))
 have HC := Aside0.mk hc
 have HRG := Aside0.mk hr
 clear hi hc hr
 go_enter Tryz.func29, Tryz.ntmps29
 go_wp2_with fail
 refine (wholeOut_calls (HI.out.below (below_alloc (Below.refl _ _) _)) HC.out HRG.out).mono ?_
 rintro en w1 ⟨x, v4, v5, e, rfl, h4, h5, hb, hq⟩
 have hsz : (w.alloc (.cells #[.int .i64 0, .string ⟨#[]⟩, .int .i64 0, .int .i64 0, .string ⟨#[]⟩, .slice none 0 0, .slice none 0 0] 43)).heap.size = w.heap.size + 1 := size_alloc _ _
 obtain ⟨sa4, sn4, sc4, rfl⟩ : ∃ A n c, v4 = .slice A n c := (Kd.R_slice h4).elim (fun A h => h.elim (fun c h => ⟨A, _, c, h⟩))
 obtain ⟨sa5, sn5, sc5, rfl⟩ : ∃ A n c, v5 = .slice A n c := (Kd.R_slice h5).elim (fun A h => h.elim (fun c h => ⟨A, _, c, h⟩))
 have HQ4 := Aside0.mk (Kd.R_lower (base' := w.heap.size + 1) h4 (Nat.le_of_eq hsz.symm))
 clear h4
 have HQ5 := Aside0.mk (Kd.R_lower (base' := w.heap.size + 1) h5 (Nat.le_of_eq hsz.symm))
 clear h5
 have HX := Aside0.mk ((hb.block w.heap.size (by omega)).trans (heap_alloc_new w _))
 have HB := Aside0.mk (show Below w.heap.size w w1 from (below_alloc (Below.refl _ _) _).trans (hb.mono (by omega)))
 have HE := Aside0.mk hq
 clear hb hq
 have n0 := blk_cell HX.out 0
 have f0 := blk_frozen HX.out 0
 have n1 := blk_cell HX.out 1
 have f1 := blk_frozen HX.out 1
 have n2 := blk_cell HX.out 2
 have f2 := blk_frozen HX.out 2
 have n3 := blk_cell HX.out 3
 have f3 := blk_frozen HX.out 3
 have n4 := blk_cell HX.out 4
 have f4 := blk_frozen HX.out 4
 have n5 := blk_cell HX.out 5
 have f5 := blk_frozen HX.out 5
 have n6 := blk_cell HX.out 6
 have f6 := blk_frozen HX.out 6
 simp only [List.getElem?_toArray, List.getElem?_cons_succ, List.getElem?_cons_zero] at n0 n1 n2 n3 n4 n5 n6
 have hb4 := blk_lt HX.out
 obtain ⟨hW1, hW2, hW3⟩ := filln HX.out [.int .i64 x.1, .string x.2.f0, .int .i64 x.2.f1.f0, .int .i64 x.2.f1.f1, .string x.2.f1.f2, .slice sa4 sn4 sc4, .slice sa5 sn5 sc5] rfl
 have HF := Aside0.mk hW2
 have HT := Aside0.mk hW3
 have HG := Aside0.mk hW1
 clear hW1 hW2 hW3
 go_wp2
 (try simp only [Exit.inBlock, Exit.then])
 refine bodyPost_ret (results_ct rfl _ _ w.heap.size 43 _ (0, 0) _ rfl HG.out Tryz.underlying43 rfl size44) rfl ?_
 exact WOut.mk x (Kd.R_lower (base' := w.heap.size) (Kd.R_mono (ok' := News w) (Kd.R_move (Kd.R_bound HQ4.out) (fun q hq => HF.out q (by have := hq.2.1; omega))) (fun _ _ => trivial)) (by omega)) (Kd.R_lower (base' := w.heap.size) (Kd.R_mono (ok' := News w) (Kd.R_move (Kd.R_bound HQ5.out) (fun q hq => HF.out q (by have := hq.2.1; omega))) (fun _ _ => trivial)) (by omega)) (HB.out.trans (HT.out.below HB.out.size)) HE.out
end Go.Proofs.YthmkioodkldgbaaGreat.DK
