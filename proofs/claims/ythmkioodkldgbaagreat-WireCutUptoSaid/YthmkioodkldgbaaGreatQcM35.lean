/- eddylaw4.known; conditions: none. -/
import Derived.Test.YthmkioodkldgbaaGreatQcM34
import Derived.Test.YthmkioodkldgbaaGreatQcM10
namespace Go.Proofs.YthmkioodkldgbaaGreat.DK
open Go.Proofs.YthmkioodkldgbaaGreat.PD
open Go.RowKit Go.Proofs.YthmkioodkldgbaaGreatW.PrintWords Go.Proofs.YthmkioodkldgbaaGreatW.PrintLast Go.Proofs.YthmkioodkldgbaaGreatW.PrintMore
set_option linter.unusedVariables false
set_option linter.unusedSimpArgs false
set_option maxRecDepth 100000
/-- The example as a thing. -/
def fiveT : Thg := { zT 1 with r := five }
theorem five_okS : okS five.f1 := by rw [okS_eq]; simp [five, okL]
theorem zero_okS : okS ⟨0, 0, ⟨#[]⟩, []⟩ := by rw [okS_eq]; simp [okL]
theorem zT_ok (k : Int) : (zT k).Ok := ⟨zero_okS, (by intro x h; cases h), ⟨⟨Int.le_refl _, (by decide : (0 : Int) ≤ 4294967295)⟩, (by intro x h; cases h), (by intro x h; cases h), (by intro x h; cases h), (by intro x h; cases h)⟩, ⟨Int.le_refl _, (by decide : (0 : Int) ≤ 4294967295)⟩, (by intro x h; cases h), zero_okS⟩
theorem fiveT_ok : fiveT.Ok := ⟨five_okS, (zT_ok 1).sc, (zT_ok 1).g, (zT_ok 1).ms, (zT_ok 1).mr, (zT_ok 1).ox⟩
theorem fiveT_C : putC fiveT = 0 := by
 unfold putC
 simp [fiveT, zT, five_recC]
theorem fiveT_B : putB fiveT = want := by
 unfold putB
 simp [fiveT, zT, five_enc]
theorem want_rng : ∀ x ∈ want, 0 ≤ x ∧ x ≤ 255 := by decide
theorem three_new (w : World) (o1 o2 o3 : Obj) : (((w.alloc o1).alloc o2).alloc o3).heap[w.heap.size + 1]? = some o2 ∧ Below w.heap.size w (((w.alloc o1).alloc o2).alloc o3) :=
 ⟨blk_alloc (new_at _ _ _ (by rw [size_alloc])) _, below_alloc (below_alloc (below_alloc (Below.refl _ _) _) _) _⟩
set_option maxHeartbeats 40000000 in
theorem known_calls (w : World) : Calls Tryz.prog 7 #[] w (TrueB w) := by
 go_enter Tryz.func7, Tryz.ntmps7
 go_wp2_with fail
 have hi := own_lit w w.heap.size 3 .i64 [0, 2] (Nat.le_refl _) (by decide)
 obtain ⟨Ai, ci, ei, li, ri⟩ := own_reads_of_le (enc := Value.int .i64) (d := (0 : Int)) (show World.ownsRow _ _ _ _ _ _ (encs (Value.int .i64) [0, 2]) from hi)
 injection ei with e1 e2 e3
 subst e1 e3
 have hC := Kd.C_of_reads (h1 := fun _ => rfl) ri
 have hbt := R5.lit ((w.alloc (.cells #[.int .i64 0, .int .i64 2] 3)).alloc (.cells #[.string ⟨#[97]⟩, .int .i64 1, .int .i64 5, .string ⟨#[]⟩, .slice none 0 0, .slice (some ⟨w.heap.size, 0, none⟩) 2 2] 27)) w.heap.size want (Nat.le_trans (Nat.le_succ _) (by rw [size_alloc, size_alloc]; omega)) (by decide)
 obtain ⟨hx, hb⟩ := three_new w (.cells #[.int .i64 0, .int .i64 2] 3) (.cells #[.string ⟨#[97]⟩, .int .i64 1, .int .i64 5, .string ⟨#[]⟩, .slice none 0 0, .slice (some ⟨w.heap.size, 0, none⟩) 2 2] 27) (.cells #[.int .u8 1, .int .u8 97, .int .u8 1, .int .u8 10, .int .u8 2, .int .u8 0, .int .u8 2] 5)
 have hC0 : (Kd.int .i64).C (((w.alloc (.cells #[.int .i64 0, .int .i64 2] 3)).alloc (.cells #[.string ⟨#[97]⟩, .int .i64 1, .int .i64 5, .string ⟨#[]⟩, .slice none 0 0, .slice (some ⟨w.heap.size, 0, none⟩) 2 2] 27)).alloc (.cells #[.int .u8 1, .int .u8 97, .int .u8 1, .int .u8 10, .int .u8 2, .int .u8 0, .int .u8 2] 5)) (some ⟨w.heap.size, 0, none⟩) 2 [0, 2] := Kd.C_below hC (below_alloc (below_alloc (Below.refl _ _) _) _)
 have hbt' : R5 w.heap.size (((w.alloc (.cells #[.int .i64 0, .int .i64 2] 3)).alloc (.cells #[.string ⟨#[97]⟩, .int .i64 1, .int .i64 5, .string ⟨#[]⟩, .slice none 0 0, .slice (some ⟨w.heap.size, 0, none⟩) 2 2] 27)).alloc (.cells #[.int .u8 1, .int .u8 97, .int .u8 1, .int .u8 10, .int .u8 2, .int .u8 0, .int .u8 2] 5)) (.slice (some ⟨w.heap.size + 1 + 1, 0, none⟩) 7 7) want := by
  have h := hbt
  rw [size_alloc, size_alloc] at h
  exact h
 generalize ((w.alloc (.cells #[.int .i64 0, .int .i64 2] 3)).alloc (.cells #[.string ⟨#[97]⟩, .int .i64 1, .int .i64 5, .string ⟨#[]⟩, .slice none 0 0, .slice (some ⟨w.heap.size, 0, none⟩) 2 2] 27)).alloc (.cells #[.int .u8 1, .int .u8 97, .int .u8 1, .int .u8 10, .int .u8 2, .int .u8 0, .int .u8 2] 5) = W0 at *
 have HX := Aside0.mk hx
 have HB := Aside0.mk hb
 have HC := Aside0.mk hC0
 have HW := Aside0.mk hbt'
 clear hi li ri hC hbt hx hb hC0 hbt'
 refine (put_calls W0 fiveT none (some ⟨w.heap.size, 0, none⟩) none none none none none none none none none 0 2 0 0 0 0 0 0 0 0 0 ⟨Kd.C_nil _ _, HC.out, Kd.C_nil _ _, Kd.C_nil _ _, Kd.C_nil _ _, Kd.C_nil _ _, Kd.C_nil _ _, Kd.C_nil _ _, Kd.C_nil _ _, Kd.C_nil _ _, Kd.C_nil _ _, Nat.le_refl _, Nat.le_refl _, Nat.le_refl _, Nat.le_refl _, Nat.le_refl _, Nat.le_refl _, Nat.le_refl _, Nat.le_refl _, Nat.le_refl _, Nat.le_refl _, Nat.le_refl _⟩ fiveT_ok).mono ?_
 rintro en w1 ⟨u, rfl, hu, hb1⟩
 rw [fiveT_C, if_pos rfl, fiveT_B] at hu
 rw [fiveT_C]
 have HU := Aside0.mk hu
 have HX1 := Aside0.mk ((hb1.block _ (blk_lt HX.out)).trans HX.out)
 have HW1 := Aside0.mk (HW.out.below hb1)
 have HC1 := Aside0.mk (Kd.C_below HC.out hb1)
 have HB1 := Aside0.mk (HB.out.trans (hb1.mono HB.out.size))
 obtain ⟨Au, cu, rfl, _⟩ := hu.reads
 clear hu hb1
 go_wp2_with fail
 refine (same_calls HU.out HW1.out (Below.refl w1.heap.size w1)).mono ?_
 rintro en w2 ⟨rfl, hb2⟩
 have HX2 := Aside0.mk ((hb2.block _ (blk_lt HX1.out)).trans HX1.out)
 have HW2 := Aside0.mk (HW1.out.below hb2)
 have HC2 := Aside0.mk (Kd.C_below HC1.out hb2)
 have HB2 := Aside0.mk (HB1.out.trans (hb2.mono HB1.out.size))
 clear hb2
 obtain ⟨Aw, cw, ew, rw_⟩ := HW2.out.reads
 injection ew with ew1 ew2 ew3
 subst ew1 ew3
 go_wp2_with fail
 refine (get_calls 1 (In.mk (Kd.C_of_reads (h1 := fun _ => rfl) rw_) (Nat.le_refl _)) (by decide) want_rng).mono ?_
 rintro en w3 ⟨t, a1, a2, a3, a4, a5, a6, a7, a8, a9, a10, a11, c1, c2, c3, c4, c5, c6, c7, c8, c9, c10, c11, e, rfl, ht, hb3, hq⟩
 rw [want_get] at hq
 injection hq with hq1 hq2
 subst hq1
 have HQ := Aside0.mk (show t = fiveT from hq2.symm)
 clear hq2
 have HT := Aside0.mk ht
 have HX3 := Aside0.mk ((hb3.block _ (blk_lt HX2.out)).trans HX2.out)
 have HC3 := Aside0.mk (Kd.C_below HC2.out hb3)
 have HB3 := Aside0.mk (HB2.out.trans (hb3.mono HB2.out.size))
 have HN := Aside0.mk (heap_alloc_new w3 (.cells #[.int .i64 0, .string ⟨#[]⟩, .int .i64 0, .int .i64 0, .string ⟨#[]⟩, .slice none 0 0, .slice none 0 0, .int .i64 0, .slice none 0 0, .int .i64 0, .int .i64 0, .int .i64 0, .int .u32 0, .int .i64 0, .slice none 0 0, .int .i64 0, .slice none 0 0, .slice none 0 0, .slice none 0 0, .slice none 0 0, .int .i64 0, .int .u32 0, .slice none 0 0, .int .i64 0, .string ⟨#[]⟩, .int .i64 0, .int .i64 0, .string ⟨#[]⟩, .slice none 0 0, .slice none 0 0] 45))
 clear ht hb3 rw_
 iterate 14 (first | go_values | go_skip | go_guarded | go_step | go_upon | go_back | go_simp)
 refine wpList_store_row ?z1 45 (.tmp 5) (.tmp 28) ?z2 ?z3 w3.heap.size ?z4 45 (#[.int .i64 0, .string ⟨#[]⟩, .int .i64 0, .int .i64 0, .string ⟨#[]⟩, .slice none 0 0, .slice none 0 0, .int .i64 0, .slice none 0 0, .int .i64 0, .int .i64 0, .int .i64 0, .int .u32 0, .int .i64 0, .slice none 0 0, .int .i64 0, .slice none 0 0, .slice none 0 0, .slice none 0 0, .slice none 0 0, .int .i64 0, .int .u32 0, .slice none 0 0, .int .i64 0, .string ⟨#[]⟩, .int .i64 0, .int .i64 0, .string ⟨#[]⟩, .slice none 0 0, .slice none 0 0]) [.int .i64 t.kind, .string t.r.f0, .int .i64 t.r.f1.f0, .int .i64 t.r.f1.f1, .string t.r.f1.f2, .slice a1 t.r.f1.f3.length c1, .slice a2 t.r.f2.length c2, .int .i64 t.sn, .slice a3 t.sc.length c3, .int .i64 t.g.id, .int .i64 t.g.task, .int .i64 t.g.base, .int .u32 t.g.sum, .int .i64 t.g.snum, .slice a4 t.g.cells.length c4, .int .i64 t.g.dnum, .slice a5 t.g.set.length c5, .slice a6 t.g.gone.length c6, .slice a7 t.g.logs.length c7, .slice a8 t.g.pend.length c8, .int .i64 t.mi, .int .u32 t.ms, .slice a9 t.mr.length c9, .int .i64 t.oa, .string t.ox.f0, .int .i64 t.ox.f1.f0, .int .i64 t.ox.f1.f1, .string t.ox.f1.f2, .slice a10 t.ox.f1.f3.length c10, .slice a11 t.ox.f2.length c11] ?z5 ?z6 ?z7 ?z8 ?z9 ?z0
 (case z2 => rfl)
 (case z1 => rfl)
 (case z3 => rfl)
 (case z4 => rfl)
 (case z5 => rfl)
 (case z6 => exact HN.out)
 (case z7 => rfl)
 (case z8 => exact size46)
 (case z9 => simp [Value.oneCell'])
 obtain ⟨hW1, hW2, hW3⟩ := filln HN.out [.int .i64 t.kind, .string t.r.f0, .int .i64 t.r.f1.f0, .int .i64 t.r.f1.f1, .string t.r.f1.f2, .slice a1 t.r.f1.f3.length c1, .slice a2 t.r.f2.length c2, .int .i64 t.sn, .slice a3 t.sc.length c3, .int .i64 t.g.id, .int .i64 t.g.task, .int .i64 t.g.base, .int .u32 t.g.sum, .int .i64 t.g.snum, .slice a4 t.g.cells.length c4, .int .i64 t.g.dnum, .slice a5 t.g.set.length c5, .slice a6 t.g.gone.length c6, .slice a7 t.g.logs.length c7, .slice a8 t.g.pend.length c8, .int .i64 t.mi, .int .u32 t.ms, .slice a9 t.mr.length c9, .int .i64 t.oa, .string t.ox.f0, .int .i64 t.ox.f1.f0, .int .i64 t.ox.f1.f1, .string t.ox.f1.f2, .slice a10 t.ox.f1.f3.length c10, .slice a11 t.ox.f2.length c11] rfl
 have hx3 := blk_lt HX3.out
 have HY4 := Aside0.mk hW1
 have HX4 := Aside0.mk ((hW2 (w.heap.size + 1) (by omega)).trans (blk_alloc HX3.out _))
 have hb4 : Below w3.heap.size w3 (sets (w3.alloc (.cells #[.int .i64 0, .string ⟨#[]⟩, .int .i64 0, .int .i64 0, .string ⟨#[]⟩, .slice none 0 0, .slice none 0 0, .int .i64 0, .slice none 0 0, .int .i64 0, .int .i64 0, .int .i64 0, .int .u32 0, .int .i64 0, .slice none 0 0, .int .i64 0, .slice none 0 0, .slice none 0 0, .slice none 0 0, .slice none 0 0, .int .i64 0, .int .u32 0, .slice none 0 0, .int .i64 0, .string ⟨#[]⟩, .int .i64 0, .int .i64 0, .string ⟨#[]⟩, .slice none 0 0, .slice none 0 0] 45)) w3.heap.size 0 [.int .i64 t.kind, .string t.r.f0, .int .i64 t.r.f1.f0, .int .i64 t.r.f1.f1, .string t.r.f1.f2, .slice a1 t.r.f1.f3.length c1, .slice a2 t.r.f2.length c2, .int .i64 t.sn, .slice a3 t.sc.length c3, .int .i64 t.g.id, .int .i64 t.g.task, .int .i64 t.g.base, .int .u32 t.g.sum, .int .i64 t.g.snum, .slice a4 t.g.cells.length c4, .int .i64 t.g.dnum, .slice a5 t.g.set.length c5, .slice a6 t.g.gone.length c6, .slice a7 t.g.logs.length c7, .slice a8 t.g.pend.length c8, .int .i64 t.mi, .int .u32 t.ms, .slice a9 t.mr.length c9, .int .i64 t.oa, .string t.ox.f0, .int .i64 t.ox.f1.f0, .int .i64 t.ox.f1.f1, .string t.ox.f1.f2, .slice a10 t.ox.f1.f3.length c10, .slice a11 t.ox.f2.length c11]) := (below_alloc (Below.refl _ _) _).trans (hW3.below (Nat.le_of_lt (blk_lt HN.out)))
 have HC4 := Aside0.mk (Kd.C_below HC3.out hb4)
 have HB4 := Aside0.mk (HB3.out.trans (hb4.mono HB3.out.size))
 have H1 := Aside0.mk (Kd.C_below HT.out.i1 hb4)
 have H2 := Aside0.mk (Kd.C_below HT.out.i2 hb4)
 have hl1 := HT.out.l1
 have hl2 := HT.out.l2
 clear hW1 hW2 hW3 hb4 HN
 generalize sets (w3.alloc (.cells #[.int .i64 0, .string ⟨#[]⟩, .int .i64 0, .int .i64 0, .string ⟨#[]⟩, .slice none 0 0, .slice none 0 0, .int .i64 0, .slice none 0 0, .int .i64 0, .int .i64 0, .int .i64 0, .int .u32 0, .int .i64 0, .slice none 0 0, .int .i64 0, .slice none 0 0, .slice none 0 0, .slice none 0 0, .slice none 0 0, .int .i64 0, .int .u32 0, .slice none 0 0, .int .i64 0, .string ⟨#[]⟩, .int .i64 0, .int .i64 0, .string ⟨#[]⟩, .slice none 0 0, .slice none 0 0] 45)) w3.heap.size 0 [.int .i64 t.kind, .string t.r.f0, .int .i64 t.r.f1.f0, .int .i64 t.r.f1.f1, .string t.r.f1.f2, .slice a1 t.r.f1.f3.length c1, .slice a2 t.r.f2.length c2, .int .i64 t.sn, .slice a3 t.sc.length c3, .int .i64 t.g.id, .int .i64 t.g.task, .int .i64 t.g.base, .int .u32 t.g.sum, .int .i64 t.g.snum, .slice a4 t.g.cells.length c4, .int .i64 t.g.dnum, .slice a5 t.g.set.length c5, .slice a6 t.g.gone.length c6, .slice a7 t.g.logs.length c7, .slice a8 t.g.pend.length c8, .int .i64 t.mi, .int .u32 t.ms, .slice a9 t.mr.length c9, .int .i64 t.oa, .string t.ox.f0, .int .i64 t.ox.f1.f0, .int .i64 t.ox.f1.f1, .string t.ox.f1.f2, .slice a10 t.ox.f1.f3.length c10, .slice a11 t.ox.f2.length c11] = W4 at *
 have n1 := blk_cell HY4.out 1
 have n2 := blk_cell HY4.out 2
 have n3 := blk_cell HY4.out 3
 have n4 := blk_cell HY4.out 4
 have n5 := blk_cell HY4.out 5
 have n6 := blk_cell HY4.out 6
 have m0 := blk_cell HX4.out 0
 have m1 := blk_cell HX4.out 1
 have m2 := blk_cell HX4.out 2
 have m3 := blk_cell HX4.out 3
 have m4 := blk_cell HX4.out 4
 have m5 := blk_cell HX4.out 5
 simp only [List.getElem?_toArray, List.getElem?_cons_succ, List.getElem?_cons_zero] at n1 n2 n3 n4 n5 n6 m0 m1 m2 m3 m4 m5
 go_wp2_with fail
 refine (sameRecord_calls t.r five _ _ a1 c1 a2 c2 none 0 (some ⟨w.heap.size, 0, none⟩) 2 (In.ofC H1.out (Below.refl _ _) (Nat.le_refl _)) (In.ofC H2.out (Below.refl _ _) (Nat.le_refl _)) (In.ofC (Kd.C_nil _ _) (Below.refl _ _) (Nat.le_refl _)) (In.ofC HC4.out (Below.refl _ _) (Nat.le_refl _)) (Nat.le_refl _) hl1 hl2 (Nat.le_refl _) (Nat.le_refl _)).mono ?_
 rintro en w5 ⟨r, rfl, hr, hb5⟩
 obtain rfl : r = true := hr.2 (by rw [HQ.out]; rfl)
 clear hr
 have HB5 := Aside0.mk (HB4.out.trans (hb5.mono HB4.out.size))
 clear hb5
 go_wp2
 go_ret
 exact ⟨rfl, HB5.out⟩
end Go.Proofs.YthmkioodkldgbaaGreat.DK
