/- eddylaw4.get, where the kind is 2; conditions: those in each theorem. -/
import Derived.Test.YthmkioodkldgbaaGreatQcM27
namespace Go.Proofs.YthmkioodkldgbaaGreat.DK
open Go.Proofs.YthmkioodkldgbaaGreat.PD
open Go.RowKit Go.Proofs.YthmkioodkldgbaaGreatW.PrintWords Go.Proofs.YthmkioodkldgbaaGreatW.PrintLast Go.Proofs.YthmkioodkldgbaaGreatW.PrintMore
set_option linter.unusedVariables false
set_option linter.unusedSimpArgs false
set_option maxRecDepth 100000
/-- What get hands out. -/
def GetP (w : World) (q : Int × Thg) (en : Ending) (w' : World) : Prop := ∃ (t : Thg) (a1 a2 a3 a4 a5 a6 a7 a8 a9 a10 a11 : Option Addr) (c1 c2 c3 c4 c5 c6 c7 c8 c9 c10 c11 : Nat) (e : Int), en = .returned (.tuple #[.agg #[.int .i64 t.kind, .string t.r.f0, .int .i64 t.r.f1.f0, .int .i64 t.r.f1.f1, .string t.r.f1.f2, .slice a1 t.r.f1.f3.length c1, .slice a2 t.r.f2.length c2, .int .i64 t.sn, .slice a3 t.sc.length c3, .int .i64 t.g.id, .int .i64 t.g.task, .int .i64 t.g.base, .int .u32 t.g.sum, .int .i64 t.g.snum, .slice a4 t.g.cells.length c4, .int .i64 t.g.dnum, .slice a5 t.g.set.length c5, .slice a6 t.g.gone.length c6, .slice a7 t.g.logs.length c7, .slice a8 t.g.pend.length c8, .int .i64 t.mi, .int .u32 t.ms, .slice a9 t.mr.length c9, .int .i64 t.oa, .string t.ox.f0, .int .i64 t.ox.f1.f0, .int .i64 t.ox.f1.f1, .string t.ox.f1.f2, .slice a10 t.ox.f1.f3.length c10, .slice a11 t.ox.f2.length c11], .int .i64 e]) ∧ ThIn w' t a1 a2 a3 a4 a5 a6 a7 a8 a9 a10 a11 c1 c2 c3 c4 c5 c6 c7 c8 c9 c10 c11 ∧ Below w.heap.size w w' ∧ q = (e, t)
theorem GetP.mk {w : World} {q : Int × Thg} {w' : World} (t : Thg) {a1 a2 a3 a4 a5 a6 a7 a8 a9 a10 a11 : Option Addr} {c1 c2 c3 c4 c5 c6 c7 c8 c9 c10 c11 : Nat} {e : Int} (h : ThIn w' t a1 a2 a3 a4 a5 a6 a7 a8 a9 a10 a11 c1 c2 c3 c4 c5 c6 c7 c8 c9 c10 c11) (hb : Below w.heap.size w w') (hq : q = (e, t)) : GetP w q (.returned (.tuple #[.agg #[.int .i64 t.kind, .string t.r.f0, .int .i64 t.r.f1.f0, .int .i64 t.r.f1.f1, .string t.r.f1.f2, .slice a1 t.r.f1.f3.length c1, .slice a2 t.r.f2.length c2, .int .i64 t.sn, .slice a3 t.sc.length c3, .int .i64 t.g.id, .int .i64 t.g.task, .int .i64 t.g.base, .int .u32 t.g.sum, .int .i64 t.g.snum, .slice a4 t.g.cells.length c4, .int .i64 t.g.dnum, .slice a5 t.g.set.length c5, .slice a6 t.g.gone.length c6, .slice a7 t.g.logs.length c7, .slice a8 t.g.pend.length c8, .int .i64 t.mi, .int .u32 t.ms, .slice a9 t.mr.length c9, .int .i64 t.oa, .string t.ox.f0, .int .i64 t.ox.f1.f0, .int .i64 t.ox.f1.f1, .string t.ox.f1.f2, .slice a10 t.ox.f1.f3.length c10, .slice a11 t.ox.f2.length c11], .int .i64 e])) w' := ⟨t, a1, a2, a3, a4, a5, a6, a7, a8, a9, a10, a11, c1, c2, c3, c4, c5, c6, c7, c8, c9, c10, c11, e, rfl, h, hb, hq⟩
section
variable {w : World} {b0 : Nat} {A : Option Addr} {c : Nat} {l : List Int} {k : Int}
set_option maxHeartbeats 40000000 in
theorem get2_calls (h2 : k = 2) (hi : In (Kd.int .u8) b0 w A l) (hc : l.length ≤ c) (hr : ∀ x ∈ l, 0 ≤ x ∧ x ≤ 255) : Calls Tryz.prog 11 #[.int .i64 k, .slice A l.length c] w (GetP w (pGet k l)) := by
 have HI := Aside0.mk (In.mk hi.C (Nat.le_refl _))
 have HC := Aside0.mk hc
 have HRG := Aside0.mk hr
 clear hi hc hr
 have h2b : (k == 2) = true := by simpa using h2
 have H2 := Aside0.mk h2
 clear h2
 go_enter Tryz.func11, Tryz.ntmps11
 have hN0 : ((w.alloc (.cells #[.int .i64 0, .string ⟨#[]⟩, .int .i64 0, .int .i64 0, .string ⟨#[]⟩, .slice none 0 0, .slice none 0 0, .int .i64 0, .slice none 0 0, .int .i64 0, .int .i64 0, .int .i64 0, .int .u32 0, .int .i64 0, .slice none 0 0, .int .i64 0, .slice none 0 0, .slice none 0 0, .slice none 0 0, .slice none 0 0, .int .i64 0, .int .u32 0, .slice none 0 0, .int .i64 0, .string ⟨#[]⟩, .int .i64 0, .int .i64 0, .string ⟨#[]⟩, .slice none 0 0, .slice none 0 0] 45)).alloc (.cells #[.int .i64 0, .string ⟨#[]⟩, .int .i64 0, .int .i64 0, .string ⟨#[]⟩, .slice none 0 0, .slice none 0 0, .int .i64 0, .slice none 0 0, .int .i64 0, .int .i64 0, .int .i64 0, .int .u32 0, .int .i64 0, .slice none 0 0, .int .i64 0, .slice none 0 0, .slice none 0 0, .slice none 0 0, .slice none 0 0, .int .i64 0, .int .u32 0, .slice none 0 0, .int .i64 0, .string ⟨#[]⟩, .int .i64 0, .int .i64 0, .string ⟨#[]⟩, .slice none 0 0, .slice none 0 0] 45)).heap[w.heap.size + 1]? = some (.cells #[.int .i64 0, .string ⟨#[]⟩, .int .i64 0, .int .i64 0, .string ⟨#[]⟩, .slice none 0 0, .slice none 0 0, .int .i64 0, .slice none 0 0, .int .i64 0, .int .i64 0, .int .i64 0, .int .u32 0, .int .i64 0, .slice none 0 0, .int .i64 0, .slice none 0 0, .slice none 0 0, .slice none 0 0, .slice none 0 0, .int .i64 0, .int .u32 0, .slice none 0 0, .int .i64 0, .string ⟨#[]⟩, .int .i64 0, .int .i64 0, .string ⟨#[]⟩, .slice none 0 0, .slice none 0 0] 45 (0, 0)) := new_at _ _ _ (by rw [size_alloc])
 have HN0 := Aside0.mk hN0
 clear hN0
 go_wp2_with (refine wpList_store_row ?z2_1 45 (.tmp 6) (.tmp 9) ?z2_2 ?z2_3 (w.heap.size + 1) ?z2_4 45 (#[.int .i64 0, .string ⟨#[]⟩, .int .i64 0, .int .i64 0, .string ⟨#[]⟩, .slice none 0 0, .slice none 0 0, .int .i64 0, .slice none 0 0, .int .i64 0, .int .i64 0, .int .i64 0, .int .u32 0, .int .i64 0, .slice none 0 0, .int .i64 0, .slice none 0 0, .slice none 0 0, .slice none 0 0, .slice none 0 0, .int .i64 0, .int .u32 0, .slice none 0 0, .int .i64 0, .string ⟨#[]⟩, .int .i64 0, .int .i64 0, .string ⟨#[]⟩, .slice none 0 0, .slice none 0 0]) [.int .i64 k, .string ⟨#[]⟩, .int .i64 0, .int .i64 0, .string ⟨#[]⟩, .slice none 0 0, .slice none 0 0, .int .i64 0, .slice none 0 0, .int .i64 0, .int .i64 0, .int .i64 0, .int .u32 0, .int .i64 0, .slice none 0 0, .int .i64 0, .slice none 0 0, .slice none 0 0, .slice none 0 0, .slice none 0 0, .int .i64 0, .int .u32 0, .slice none 0 0, .int .i64 0, .string ⟨#[]⟩, .int .i64 0, .int .i64 0, .string ⟨#[]⟩, .slice none 0 0, .slice none 0 0] ?z2_5 ?z2_6 ?z2_7 ?z2_8 ?z2_9 ?z2_0; (case z2_2 => rfl); (case z2_1 => rfl); (case z2_3 => rfl); (case z2_4 => rfl); (case z2_5 => rfl); (case z2_6 => exact HN0.out); (case z2_7 => rfl); (case z2_8 => exact size46); (case z2_9 => simp [Value.oneCell']))
 obtain ⟨hY0, hW2, hW3⟩ := filln HN0.out [.int .i64 k, .string ⟨#[]⟩, .int .i64 0, .int .i64 0, .string ⟨#[]⟩, .slice none 0 0, .slice none 0 0, .int .i64 0, .slice none 0 0, .int .i64 0, .int .i64 0, .int .i64 0, .int .u32 0, .int .i64 0, .slice none 0 0, .int .i64 0, .slice none 0 0, .slice none 0 0, .slice none 0 0, .slice none 0 0, .int .i64 0, .int .u32 0, .slice none 0 0, .int .i64 0, .string ⟨#[]⟩, .int .i64 0, .int .i64 0, .string ⟨#[]⟩, .slice none 0 0, .slice none 0 0] rfl
 have hB0 : Below w.heap.size w (sets ((w.alloc (.cells #[.int .i64 0, .string ⟨#[]⟩, .int .i64 0, .int .i64 0, .string ⟨#[]⟩, .slice none 0 0, .slice none 0 0, .int .i64 0, .slice none 0 0, .int .i64 0, .int .i64 0, .int .i64 0, .int .u32 0, .int .i64 0, .slice none 0 0, .int .i64 0, .slice none 0 0, .slice none 0 0, .slice none 0 0, .slice none 0 0, .int .i64 0, .int .u32 0, .slice none 0 0, .int .i64 0, .string ⟨#[]⟩, .int .i64 0, .int .i64 0, .string ⟨#[]⟩, .slice none 0 0, .slice none 0 0] 45)).alloc (.cells #[.int .i64 0, .string ⟨#[]⟩, .int .i64 0, .int .i64 0, .string ⟨#[]⟩, .slice none 0 0, .slice none 0 0, .int .i64 0, .slice none 0 0, .int .i64 0, .int .i64 0, .int .i64 0, .int .u32 0, .int .i64 0, .slice none 0 0, .int .i64 0, .slice none 0 0, .slice none 0 0, .slice none 0 0, .slice none 0 0, .int .i64 0, .int .u32 0, .slice none 0 0, .int .i64 0, .string ⟨#[]⟩, .int .i64 0, .int .i64 0, .string ⟨#[]⟩, .slice none 0 0, .slice none 0 0] 45)) (w.heap.size + 1) 0 [.int .i64 k, .string ⟨#[]⟩, .int .i64 0, .int .i64 0, .string ⟨#[]⟩, .slice none 0 0, .slice none 0 0, .int .i64 0, .slice none 0 0, .int .i64 0, .int .i64 0, .int .i64 0, .int .u32 0, .int .i64 0, .slice none 0 0, .int .i64 0, .slice none 0 0, .slice none 0 0, .slice none 0 0, .slice none 0 0, .int .i64 0, .int .u32 0, .slice none 0 0, .int .i64 0, .string ⟨#[]⟩, .int .i64 0, .int .i64 0, .string ⟨#[]⟩, .slice none 0 0, .slice none 0 0]) := (below_alloc (below_alloc (Below.refl _ _) _) _).trans ((hW3.below (Nat.le_of_lt (blk_lt HN0.out))).less (Nat.le_succ _))
 have hX0 := (hW2 w.heap.size (by omega)).trans (blk_alloc (heap_alloc_new w (.cells #[.int .i64 0, .string ⟨#[]⟩, .int .i64 0, .int .i64 0, .string ⟨#[]⟩, .slice none 0 0, .slice none 0 0, .int .i64 0, .slice none 0 0, .int .i64 0, .int .i64 0, .int .i64 0, .int .u32 0, .int .i64 0, .slice none 0 0, .int .i64 0, .slice none 0 0, .slice none 0 0, .slice none 0 0, .slice none 0 0, .int .i64 0, .int .u32 0, .slice none 0 0, .int .i64 0, .string ⟨#[]⟩, .int .i64 0, .int .i64 0, .string ⟨#[]⟩, .slice none 0 0, .slice none 0 0] 45)) (.cells #[.int .i64 0, .string ⟨#[]⟩, .int .i64 0, .int .i64 0, .string ⟨#[]⟩, .slice none 0 0, .slice none 0 0, .int .i64 0, .slice none 0 0, .int .i64 0, .int .i64 0, .int .i64 0, .int .u32 0, .int .i64 0, .slice none 0 0, .int .i64 0, .slice none 0 0, .slice none 0 0, .slice none 0 0, .slice none 0 0, .int .i64 0, .int .u32 0, .slice none 0 0, .int .i64 0, .string ⟨#[]⟩, .int .i64 0, .int .i64 0, .string ⟨#[]⟩, .slice none 0 0, .slice none 0 0] 45))
 clear hW2 hW3 HN0
 generalize (sets ((w.alloc (.cells #[.int .i64 0, .string ⟨#[]⟩, .int .i64 0, .int .i64 0, .string ⟨#[]⟩, .slice none 0 0, .slice none 0 0, .int .i64 0, .slice none 0 0, .int .i64 0, .int .i64 0, .int .i64 0, .int .u32 0, .int .i64 0, .slice none 0 0, .int .i64 0, .slice none 0 0, .slice none 0 0, .slice none 0 0, .slice none 0 0, .int .i64 0, .int .u32 0, .slice none 0 0, .int .i64 0, .string ⟨#[]⟩, .int .i64 0, .int .i64 0, .string ⟨#[]⟩, .slice none 0 0, .slice none 0 0] 45)).alloc (.cells #[.int .i64 0, .string ⟨#[]⟩, .int .i64 0, .int .i64 0, .string ⟨#[]⟩, .slice none 0 0, .slice none 0 0, .int .i64 0, .slice none 0 0, .int .i64 0, .int .i64 0, .int .i64 0, .int .u32 0, .int .i64 0, .slice none 0 0, .int .i64 0, .slice none 0 0, .slice none 0 0, .slice none 0 0, .slice none 0 0, .int .i64 0, .int .u32 0, .slice none 0 0, .int .i64 0, .string ⟨#[]⟩, .int .i64 0, .int .i64 0, .string ⟨#[]⟩, .slice none 0 0, .slice none 0 0] 45)) (w.heap.size + 1) 0 [.int .i64 k, .string ⟨#[]⟩, .int .i64 0, .int .i64 0, .string ⟨#[]⟩, .slice none 0 0, .slice none 0 0, .int .i64 0, .slice none 0 0, .int .i64 0, .int .i64 0, .int .i64 0, .int .u32 0, .int .i64 0, .slice none 0 0, .int .i64 0, .slice none 0 0, .slice none 0 0, .slice none 0 0, .slice none 0 0, .int .i64 0, .int .u32 0, .slice none 0 0, .int .i64 0, .string ⟨#[]⟩, .int .i64 0, .int .i64 0, .string ⟨#[]⟩, .slice none 0 0, .slice none 0 0]) = W0 at *
 refine (GetSt_calls (HI.out.ext hB0) HC.out HRG.out).mono ?_
 rintro en w1 ⟨x, v1, e, rfl, h1, hb, hq⟩
 have hsz1 := hb.size
 have hw0 := hB0.size
 have hy0 := blk_lt hY0
 obtain ⟨sa1, sn1, sc1, rfl⟩ : ∃ A n c, v1 = .slice A n c := (Kd.R_slice h1).elim (fun A h => h.elim (fun c h => ⟨A, _, c, h⟩))
 have HQ1 := Aside0.mk (Kd.R_lower (base' := w.heap.size + 1 + 1) h1 (by omega))
 clear h1
 have HX := Aside0.mk ((hb.block w.heap.size (by omega)).trans hX0)
 have HY := Aside0.mk ((hb.block (w.heap.size + 1) (by omega)).trans hY0)
 have HB := Aside0.mk (hB0.trans (hb.mono hw0))
 have HE := Aside0.mk hq
 clear hb hq hB0 hX0 hY0
 have j0 := blk_cell HY.out 7
 have g0 := blk_frozen HY.out 7
 have j1 := blk_cell HY.out 8
 have g1 := blk_frozen HY.out 8
 simp only [List.getElem?_toArray, List.getElem?_cons_succ, List.getElem?_cons_zero] at j0 j1
 replace HQ1 := Aside0.mk (Kd.R_mono (ok' := News w) (Kd.R_far (Kd.R_bound HQ1.out) (p := ⟨w.heap.size + 1, 7, none⟩) (fun k hk => Nat.ne_of_gt (Nat.lt_of_succ_le hk.2.1)) (.int .i64 x.1)) (fun _ _ => trivial))
 replace HX := Aside0.mk ((Below.heap_setCell _ ⟨w.heap.size + 1, 7, none⟩ (.int .i64 x.1) w.heap.size (show w.heap.size ≠ w.heap.size + 1 by omega)).trans HX.out)
 replace HB := Aside0.mk (HB.out.trans (((UT.refl [45] (w.heap.size + 1) _).set HY.out (by simp) (Nat.le_refl _) 7 (.int .i64 x.1)).below (Nat.le_of_lt (blk_lt HY.out)) |>.less (Nat.le_succ _)))
 replace HY := Aside0.mk (blk_set (i := 7) (v := .int .i64 x.1) HY.out)
 replace HY := Aside0.mk (show (w1.setCell ⟨w.heap.size + 1, 7, none⟩ (.int .i64 x.1)).heap[w.heap.size + 1]? = some (.cells #[.int .i64 k, .string ⟨#[]⟩, .int .i64 0, .int .i64 0, .string ⟨#[]⟩, .slice none 0 0, .slice none 0 0, .int .i64 x.1, .slice none 0 0, .int .i64 0, .int .i64 0, .int .i64 0, .int .u32 0, .int .i64 0, .slice none 0 0, .int .i64 0, .slice none 0 0, .slice none 0 0, .slice none 0 0, .slice none 0 0, .int .i64 0, .int .u32 0, .slice none 0 0, .int .i64 0, .string ⟨#[]⟩, .int .i64 0, .int .i64 0, .string ⟨#[]⟩, .slice none 0 0, .slice none 0 0] 45 (0, 0)) from HY.out)
 replace HQ1 := Aside0.mk (Kd.R_mono (ok' := News w) (Kd.R_far (Kd.R_bound HQ1.out) (p := ⟨w.heap.size + 1, 8, none⟩) (fun k hk => Nat.ne_of_gt (Nat.lt_of_succ_le hk.2.1)) (.slice sa1 sn1 sc1)) (fun _ _ => trivial))
 replace HX := Aside0.mk ((Below.heap_setCell _ ⟨w.heap.size + 1, 8, none⟩ (.slice sa1 sn1 sc1) w.heap.size (show w.heap.size ≠ w.heap.size + 1 by omega)).trans HX.out)
 replace HB := Aside0.mk (HB.out.trans (((UT.refl [45] (w.heap.size + 1) _).set HY.out (by simp) (Nat.le_refl _) 8 (.slice sa1 sn1 sc1)).below (Nat.le_of_lt (blk_lt HY.out)) |>.less (Nat.le_succ _)))
 replace HY := Aside0.mk (blk_set (i := 8) (v := .slice sa1 sn1 sc1) HY.out)
 replace HY := Aside0.mk (show ((w1.setCell ⟨w.heap.size + 1, 7, none⟩ (.int .i64 x.1)).setCell ⟨w.heap.size + 1, 8, none⟩ (.slice sa1 sn1 sc1)).heap[w.heap.size + 1]? = some (.cells #[.int .i64 k, .string ⟨#[]⟩, .int .i64 0, .int .i64 0, .string ⟨#[]⟩, .slice none 0 0, .slice none 0 0, .int .i64 x.1, .slice sa1 sn1 sc1, .int .i64 0, .int .i64 0, .int .i64 0, .int .u32 0, .int .i64 0, .slice none 0 0, .int .i64 0, .slice none 0 0, .slice none 0 0, .slice none 0 0, .slice none 0 0, .int .i64 0, .int .u32 0, .slice none 0 0, .int .i64 0, .string ⟨#[]⟩, .int .i64 0, .int .i64 0, .string ⟨#[]⟩, .slice none 0 0, .slice none 0 0] 45 (0, 0)) from HY.out)
 replace HY := Aside0.mk (show ((w1.setCell ⟨w.heap.size + 1, 7, none⟩ (.int .i64 x.1)).setCell ⟨w.heap.size + 1, 8, none⟩ (.slice sa1 sn1 sc1)).heap[w.heap.size + 1]? = some (.cells #[.int .i64 k, .string ⟨#[]⟩, .int .i64 0, .int .i64 0, .string ⟨#[]⟩, .slice none 0 0, .slice none 0 0, .int .i64 x.1, .slice sa1 sn1 sc1, .int .i64 0, .int .i64 0, .int .i64 0, .int .u32 0, .int .i64 0, .slice none 0 0, .int .i64 0, .slice none 0 0, .slice none 0 0, .slice none 0 0, .slice none 0 0, .int .i64 0, .int .u32 0, .slice none 0 0, .int .i64 0, .string ⟨#[]⟩, .int .i64 0, .int .i64 0, .string ⟨#[]⟩, .slice none 0 0, .slice none 0 0] 45 (0, 0)) from HY.out)
 go_wp2
 refine start_ (n := 5) (S := fun w' => w'.heap[w.heap.size + 1]? = some (.cells #[.int .i64 k, .string ⟨#[]⟩, .int .i64 0, .int .i64 0, .string ⟨#[]⟩, .slice none 0 0, .slice none 0 0, .int .i64 x.1, .slice sa1 sn1 sc1, .int .i64 0, .int .i64 0, .int .i64 0, .int .u32 0, .int .i64 0, .slice none 0 0, .int .i64 0, .slice none 0 0, .slice none 0 0, .slice none 0 0, .slice none 0 0, .int .i64 0, .int .u32 0, .slice none 0 0, .int .i64 0, .string ⟨#[]⟩, .int .i64 0, .int .i64 0, .string ⟨#[]⟩, .slice none 0 0, .slice none 0 0] 45 (0, 0))) (ds := []) #[false, false, false, false, false] (by kernel_rfl) rfl rfl ((blk_drew HY.out)) (fun hHeld => ?_)
 refine zq 1 (some 50) ?_
 refine take_ (i := 0) (N := some 49) (v := ?_) (a' := ?_) #[true, true, false, false, false] rfl rfl (by kernel_rfl) (fun _ _ _ h => h) (Or.inl ⟨by rfl, ?_⟩) hHeld ?_ ?_
 rotate_left
 ·intro w' s0
  refine load_row_run 45 (.tmp 6) ?_ (w.heap.size + 1) ?_ 45 _ (0, 0) _ s0 Tryz.underlying45 rfl size46
  all_goals rfl
 rotate_left
 ·simp only [Act.put, zla, zlb, zlc, i64_w, i32_w]
  rfl
 refine one_ (i := 2) (N := some 51) #[true, true, true, false, false] rfl rfl (by kernel_rfl) (by decide) (fun K hK => ?_)
 refine goes_ Tryz.func21 (by kernel_rfl) rfl #[.int .i64 e] (by rfl) rfl rfl (by simp only [List.map_toArray, List.map_cons, List.map_nil]; rfl) ?_
 refine (eddylaw4_num.calls e e _ rfl).mono ?_
 rintro en w5 ⟨rfl, hdn⟩
 have hb5 := hdn.below
 refine ⟨_, rfl, ?_⟩
 have HX5 := Aside0.mk (blk_below (blk_drew HX.out) hb5)
 have HY5 := Aside0.mk (blk_below (blk_drew HY.out) hb5)
 have HB5 := Aside0.mk ((below_drew HB.out).trans (hb5.mono (below_drew HB.out).size))
 have HR1 := Aside0.mk (Kd.R_below (Kd.R_below HQ1.out (below_drew (Below.refl _ _))) hb5)
 refine hK.out _ _ (HY5.out) (fun hHeld => ?_)
 clear hK K
 refine norm_ (a' := ?_) ?_ ?_
 rotate_left
 ·show Act.put _ (some 51) _ = _
  simp only [Act.put, zla, zlb, zlc, i64_w, i32_w]
  rfl
 refine one_ (i := 3) (N := none) #[true, true, true, true, false] rfl rfl (by kernel_rfl) (by decide) (fun K hK => ?_)
 refine skip_ (w1 := sets w5 w.heap.size 0 [.int .i64 k, .string ⟨#[]⟩, .int .i64 0, .int .i64 0, .string ⟨#[]⟩, .slice none 0 0, .slice none 0 0, .int .i64 x.1, .slice sa1 sn1 sc1, .int .i64 0, .int .i64 0, .int .i64 0, .int .u32 0, .int .i64 0, .slice none 0 0, .int .i64 0, .slice none 0 0, .slice none 0 0, .slice none 0 0, .slice none 0 0, .int .i64 0, .int .u32 0, .slice none 0 0, .int .i64 0, .string ⟨#[]⟩, .int .i64 0, .int .i64 0, .string ⟨#[]⟩, .slice none 0 0, .slice none 0 0]) (by rfl) rfl ?_ ?_
 ·refine store_row_run 45 (.tmp 4) (.tmp 49) ?_ w.heap.size ?_ 45 _ #[.int .i64 k, .string ⟨#[]⟩, .int .i64 0, .int .i64 0, .string ⟨#[]⟩, .slice none 0 0, .slice none 0 0, .int .i64 x.1, .slice sa1 sn1 sc1, .int .i64 0, .int .i64 0, .int .i64 0, .int .u32 0, .int .i64 0, .slice none 0 0, .int .i64 0, .slice none 0 0, .slice none 0 0, .slice none 0 0, .slice none 0 0, .int .i64 0, .int .u32 0, .slice none 0 0, .int .i64 0, .string ⟨#[]⟩, .int .i64 0, .int .i64 0, .string ⟨#[]⟩, .slice none 0 0, .slice none 0 0] ?_ HX5.out rfl size46 ?_
  ·rfl
  ·rfl
  ·rfl
  ·simp [Value.oneCell']
 obtain ⟨hW1, hW2, hW3⟩ := filln HX5.out [.int .i64 k, .string ⟨#[]⟩, .int .i64 0, .int .i64 0, .string ⟨#[]⟩, .slice none 0 0, .slice none 0 0, .int .i64 x.1, .slice sa1 sn1 sc1, .int .i64 0, .int .i64 0, .int .i64 0, .int .u32 0, .int .i64 0, .slice none 0 0, .int .i64 0, .slice none 0 0, .slice none 0 0, .slice none 0 0, .slice none 0 0, .int .i64 0, .int .u32 0, .slice none 0 0, .int .i64 0, .string ⟨#[]⟩, .int .i64 0, .int .i64 0, .string ⟨#[]⟩, .slice none 0 0, .slice none 0 0] rfl
 have HG := Aside0.mk hW1
 have HF := Aside0.mk hW2
 have HT := Aside0.mk hW3
 clear hW1 hW2 hW3
 refine hK.out _ _ (((HF.out (w.heap.size + 1) (by omega)).trans HY5.out)) (fun hHeld => ?_)
 clear hK K
 refine zq 4 (some 5) ?_
 refine done_ (by kernel_rfl) ?_
 (try simp only [Exit.then])
 go_wp2
 (try simp only [Exit.inBlock, Exit.then])
 refine bodyPost_ret (results_ct rfl _ _ w.heap.size 45 _ (0, 0) _ rfl HG.out Tryz.underlying45 rfl size46) rfl ?_
 obtain ⟨_, _, ee, hl1, hC1⟩ := Kd.R_reads (Kd.R_mono (ok' := News w) (Kd.R_move (Kd.R_bound HR1.out) (fun q hq => HF.out q (by have := hq.2.1; omega))) (fun _ _ => trivial))
 injection ee with q1 q2 q3
 subst q1 q2 q3
 exact GetP.mk ⟨k, ⟨⟨#[]⟩, ⟨0, 0, ⟨#[]⟩, []⟩, []⟩, x.1, x.2, ⟨0, 0, 0, 0, 0, [], 0, [], [], [], []⟩, 0, 0, [], 0, ⟨⟨#[]⟩, ⟨0, 0, ⟨#[]⟩, []⟩, []⟩⟩ ⟨⟨rfl, Nat.zero_le _, fun hh => absurd hh (Nat.lt_irrefl _)⟩, ⟨rfl, Nat.zero_le _, fun hh => absurd hh (Nat.lt_irrefl _)⟩, hC1, ⟨rfl, Nat.zero_le _, fun hh => absurd hh (Nat.lt_irrefl _)⟩, ⟨rfl, Nat.zero_le _, fun hh => absurd hh (Nat.lt_irrefl _)⟩, ⟨rfl, Nat.zero_le _, fun hh => absurd hh (Nat.lt_irrefl _)⟩, ⟨rfl, Nat.zero_le _, fun hh => absurd hh (Nat.lt_irrefl _)⟩, ⟨rfl, Nat.zero_le _, fun hh => absurd hh (Nat.lt_irrefl _)⟩, ⟨rfl, Nat.zero_le _, fun hh => absurd hh (Nat.lt_irrefl _)⟩, ⟨rfl, Nat.zero_le _, fun hh => absurd hh (Nat.lt_irrefl _)⟩, ⟨rfl, Nat.zero_le _, fun hh => absurd hh (Nat.lt_irrefl _)⟩, Nat.zero_le _, Nat.zero_le _, hl1, Nat.zero_le _, Nat.zero_le _, Nat.zero_le _, Nat.zero_le _, Nat.zero_le _, Nat.zero_le _, Nat.zero_le _, Nat.zero_le _⟩ (HB5.out.trans (HT.out.below HB5.out.size)) (by rw [pGet, if_pos H2.out]; rcases HE.out with ⟨rfl, hq⟩ | ⟨_, hq, rfl⟩ <;> (rw [hq]; rfl))
end
end Go.Proofs.YthmkioodkldgbaaGreat.DK
