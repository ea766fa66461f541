/- eddylaw4.WireRound walked; conditions: those in the theorem. -/
import Derived.Test.YthmkioodkldgbaaGreatQuM32
import Derived.Test.YthmkioodkldgbaaGreatQuM33
import Derived.Test.YthmkioodkldgbaaGreatQuM29
import Derived.Test.YthmkioodkldgbaaGreatQuM31
import Derived.Test.YthmkioodkldgbaaGreatQuM30
namespace Go.Proofs.YthmkioodkldgbaaGreat.DK
open Go.Proofs.YthmkioodkldgbaaGreat.PD
open Go.RowKit Go.Proofs.YthmkioodkldgbaaGreatW.PrintWords Go.Proofs.YthmkioodkldgbaaGreatW.PrintLast Go.Proofs.YthmkioodkldgbaaGreatW.PrintMore
set_option linter.unusedVariables false
set_option linter.unusedSimpArgs false
set_option maxRecDepth 100000
set_option maxHeartbeats 40000000 in
theorem WireRound_calls (w : World) (t : Thg) (a1 a2 a3 a4 a5 a6 a7 a8 a9 a10 a11 : Option Addr) (c1 c2 c3 c4 c5 c6 c7 c8 c9 c10 c11 : Nat) (hi : ThIn w t a1 a2 a3 a4 a5 a6 a7 a8 a9 a10 a11 c1 c2 c3 c4 c5 c6 c7 c8 c9 c10 c11) (ho : t.Ok) : Calls Tryz.prog 3 #[.agg #[.int .i64 t.kind, .string t.r.f0, .int .i64 t.r.f1.f0, .int .i64 t.r.f1.f1, .string t.r.f1.f2, .slice a1 t.r.f1.f3.length c1, .slice a2 t.r.f2.length c2, .int .i64 t.sn, .slice a3 t.sc.length c3, .int .i64 t.g.id, .int .i64 t.g.task, .int .i64 t.g.base, .int .u32 t.g.sum, .int .i64 t.g.snum, .slice a4 t.g.cells.length c4, .int .i64 t.g.dnum, .slice a5 t.g.set.length c5, .slice a6 t.g.gone.length c6, .slice a7 t.g.logs.length c7, .slice a8 t.g.pend.length c8, .int .i64 t.mi, .int .u32 t.ms, .slice a9 t.mr.length c9, .int .i64 t.oa, .string t.ox.f0, .int .i64 t.ox.f1.f0, .int .i64 t.ox.f1.f1, .string t.ox.f1.f2, .slice a10 t.ox.f1.f3.length c10, .slice a11 t.ox.f2.length c11]] w (TrueB w) := by
 have HO := Aside0.mk ho
 have HI := Aside0.mk hi
 clear hi ho
 have X0 := Aside0.mk (heap_alloc_new w (.cells #[.int .i64 t.kind, .string t.r.f0, .int .i64 t.r.f1.f0, .int .i64 t.r.f1.f1, .string t.r.f1.f2, .slice a1 t.r.f1.f3.length c1, .slice a2 t.r.f2.length c2, .int .i64 t.sn, .slice a3 t.sc.length c3, .int .i64 t.g.id, .int .i64 t.g.task, .int .i64 t.g.base, .int .u32 t.g.sum, .int .i64 t.g.snum, .slice a4 t.g.cells.length c4, .int .i64 t.g.dnum, .slice a5 t.g.set.length c5, .slice a6 t.g.gone.length c6, .slice a7 t.g.logs.length c7, .slice a8 t.g.pend.length c8, .int .i64 t.mi, .int .u32 t.ms, .slice a9 t.mr.length c9, .int .i64 t.oa, .string t.ox.f0, .int .i64 t.ox.f1.f0, .int .i64 t.ox.f1.f1, .string t.ox.f1.f2, .slice a10 t.ox.f1.f3.length c10, .slice a11 t.ox.f2.length c11] 45))
 go_enter Tryz.func3, Tryz.ntmps3
 go_wp2_with fail
 refine (known_calls _).mono ?_
 rintro en w1 ⟨rfl, hb1⟩
 have X1 := Aside0.mk ((hb1.block _ (blk_lt X0.out)).trans X0.out)
 have HB1 := Aside0.mk (show Below w.heap.size w w1 from (below_alloc (Below.refl _ _) _).trans (hb1.mono (by rw [size_alloc]; omega)))
 clear hb1
 go_wp2_with (refine wpList_load_row rfl 45 (.tmp 1) rfl w.heap.size rfl 45 _ (0, 0) _ X1.out Tryz.underlying45 rfl (by kernel_rfl) ?_)
 refine (small_calls _ t a1 a2 a3 a4 a5 a6 a7 a8 a9 a10 a11 c1 c2 c3 c4 c5 c6 c7 c8 c9 c10 c11 (HI.out.below HB1.out)).mono ?_
 rintro en w2 ⟨bb, rfl, hb2⟩
 have X2 := Aside0.mk ((hb2.block _ (blk_lt X1.out)).trans X1.out)
 have HB2 := Aside0.mk (HB1.out.trans (hb2.mono HB1.out.size))
 clear hb2
 cases bb
 case false =>
  go_wp2
  go_ret
  exact ⟨rfl, HB2.out⟩
 go_wp2_with (refine wpList_load_row rfl 45 (.tmp 1) rfl w.heap.size rfl 45 _ (0, 0) _ X2.out Tryz.underlying45 rfl (by kernel_rfl) ?_)
 refine (only_calls HI.out).mono ?_
 rintro en w3 ⟨d1, d2, d3, d4, d5, d6, d7, d8, d9, d10, d11, n1, n2, n3, n4, n5, n6, n7, n8, n9, n10, n11, rfl, ht, hb3⟩
 have X3 := Aside0.mk ((hb3.block _ (blk_lt X2.out)).trans X2.out)
 have HB3 := Aside0.mk (HB2.out.trans (hb3.mono HB2.out.size))
 have HT := Aside0.mk ht
 have HOK := Aside0.mk (onlyT_ok HO.out)
 have HG := Aside0.mk (@get_only t)
 clear hb3 ht
 generalize onlyT t = s at *
 iterate 2 (first | go_values | go_skip | go_guarded | go_step | go_upon | go_back | go_simp)
 refine wpList_store_row ?z1 45 (.tmp 1) (.tmp 15) ?z2 ?z3 w.heap.size ?z4 45 (#[.int .i64 t.kind, .string t.r.f0, .int .i64 t.r.f1.f0, .int .i64 t.r.f1.f1, .string t.r.f1.f2, .slice a1 t.r.f1.f3.length c1, .slice a2 t.r.f2.length c2, .int .i64 t.sn, .slice a3 t.sc.length c3, .int .i64 t.g.id, .int .i64 t.g.task, .int .i64 t.g.base, .int .u32 t.g.sum, .int .i64 t.g.snum, .slice a4 t.g.cells.length c4, .int .i64 t.g.dnum, .slice a5 t.g.set.length c5, .slice a6 t.g.gone.length c6, .slice a7 t.g.logs.length c7, .slice a8 t.g.pend.length c8, .int .i64 t.mi, .int .u32 t.ms, .slice a9 t.mr.length c9, .int .i64 t.oa, .string t.ox.f0, .int .i64 t.ox.f1.f0, .int .i64 t.ox.f1.f1, .string t.ox.f1.f2, .slice a10 t.ox.f1.f3.length c10, .slice a11 t.ox.f2.length c11]) [.int .i64 s.kind, .string s.r.f0, .int .i64 s.r.f1.f0, .int .i64 s.r.f1.f1, .string s.r.f1.f2, .slice d1 s.r.f1.f3.length n1, .slice d2 s.r.f2.length n2, .int .i64 s.sn, .slice d3 s.sc.length n3, .int .i64 s.g.id, .int .i64 s.g.task, .int .i64 s.g.base, .int .u32 s.g.sum, .int .i64 s.g.snum, .slice d4 s.g.cells.length n4, .int .i64 s.g.dnum, .slice d5 s.g.set.length n5, .slice d6 s.g.gone.length n6, .slice d7 s.g.logs.length n7, .slice d8 s.g.pend.length n8, .int .i64 s.mi, .int .u32 s.ms, .slice d9 s.mr.length n9, .int .i64 s.oa, .string s.ox.f0, .int .i64 s.ox.f1.f0, .int .i64 s.ox.f1.f1, .string s.ox.f1.f2, .slice d10 s.ox.f1.f3.length n10, .slice d11 s.ox.f2.length n11] ?z5 ?z6 ?z7 ?z8 ?z9 ?z0
 (case z2 => rfl)
 (case z1 => rfl)
 (case z3 => rfl)
 (case z4 => rfl)
 (case z5 => rfl)
 (case z6 => exact X3.out)
 (case z7 => rfl)
 (case z8 => exact size46)
 (case z9 => simp [Value.oneCell'])
 obtain ⟨hW1, hW2, hW3⟩ := filln X3.out [.int .i64 s.kind, .string s.r.f0, .int .i64 s.r.f1.f0, .int .i64 s.r.f1.f1, .string s.r.f1.f2, .slice d1 s.r.f1.f3.length n1, .slice d2 s.r.f2.length n2, .int .i64 s.sn, .slice d3 s.sc.length n3, .int .i64 s.g.id, .int .i64 s.g.task, .int .i64 s.g.base, .int .u32 s.g.sum, .int .i64 s.g.snum, .slice d4 s.g.cells.length n4, .int .i64 s.g.dnum, .slice d5 s.g.set.length n5, .slice d6 s.g.gone.length n6, .slice d7 s.g.logs.length n7, .slice d8 s.g.pend.length n8, .int .i64 s.mi, .int .u32 s.ms, .slice d9 s.mr.length n9, .int .i64 s.oa, .string s.ox.f0, .int .i64 s.ox.f1.f0, .int .i64 s.ox.f1.f1, .string s.ox.f1.f2, .slice d10 s.ox.f1.f3.length n10, .slice d11 s.ox.f2.length n11] rfl
 have HB4 := Aside0.mk (HB3.out.trans (hW3.below HB3.out.size))
 have X4 := Aside0.mk hW1
 clear hW1 hW2 hW3
 generalize sets w3 w.heap.size 0 [.int .i64 s.kind, .string s.r.f0, .int .i64 s.r.f1.f0, .int .i64 s.r.f1.f1, .string s.r.f1.f2, .slice d1 s.r.f1.f3.length n1, .slice d2 s.r.f2.length n2, .int .i64 s.sn, .slice d3 s.sc.length n3, .int .i64 s.g.id, .int .i64 s.g.task, .int .i64 s.g.base, .int .u32 s.g.sum, .int .i64 s.g.snum, .slice d4 s.g.cells.length n4, .int .i64 s.g.dnum, .slice d5 s.g.set.length n5, .slice d6 s.g.gone.length n6, .slice d7 s.g.logs.length n7, .slice d8 s.g.pend.length n8, .int .i64 s.mi, .int .u32 s.ms, .slice d9 s.mr.length n9, .int .i64 s.oa, .string s.ox.f0, .int .i64 s.ox.f1.f0, .int .i64 s.ox.f1.f1, .string s.ox.f1.f2, .slice d10 s.ox.f1.f3.length n10, .slice d11 s.ox.f2.length n11] = W4 at *
 go_wp2_with (refine wpList_load_row rfl 45 (.tmp 1) rfl w.heap.size rfl 45 _ (0, 0) _ X4.out Tryz.underlying45 rfl (by kernel_rfl) ?_)
 refine (put_calls W4 s d1 d2 d3 d4 d5 d6 d7 d8 d9 d10 d11 n1 n2 n3 n4 n5 n6 n7 n8 n9 n10 n11 (HT.out.below HB4.out) HOK.out).mono ?_
 rintro en w5 ⟨u, rfl, hu, hb5⟩
 have X5 := Aside0.mk ((hb5.block _ (blk_lt X4.out)).trans X4.out)
 have HB5 := Aside0.mk (HB4.out.trans (hb5.mono HB4.out.size))
 clear hb5
 by_cases h0 : putC s = 0
 case neg =>
  rw [if_neg h0] at hu
  obtain ⟨Au, cu, rfl, _⟩ := hu.reads
  clear hu
  have h0b : (putC s != 0) = true := bne_iff_ne.2 h0
  clear h0
  generalize putC s = r at *
  go_wp2
  go_ret
  exact ⟨rfl, HB5.out⟩
 rw [if_pos h0] at hu
 rw [h0]
 have HQ := Aside0.mk (show ThgQ s from ⟨HOK.out, h0⟩)
 have HU := Aside0.mk hu
 clear h0 hu
 replace HG := Aside0.mk (HG.out HQ.out)
 have HZ := Aside0.mk (Byt.putB HOK.out)
 have HPB := Aside0.mk (rfl : putB s = putB s)
 obtain ⟨Az, cz, ez, hcz, rz⟩ := own_reads_of_le (enc := Value.int .u8) (d := (0 : Int)) (show World.ownsRow _ _ _ _ _ _ (encs (Value.int .u8) (putB s)) from HU.out)
 subst ez
 have HCZ := Aside0.mk (Kd.C_of_reads (h1 := fun _ => rfl) rz)
 clear rz
 have m0 := blk_cell X5.out 0
 have fm0 := blk_frozen X5.out 0
 simp only [List.getElem?_toArray, List.getElem?_cons_succ, List.getElem?_cons_zero] at m0
 generalize hzs : putB s = zs at *
 have HZS := Aside0.mk hzs
 clear hzs
 go_wp2_with fail
 refine (get_calls s.kind (In.mk HCZ.out (Nat.le_refl _)) hcz HZ.out).mono ?_
 rintro en w6 ⟨q, qa1, qa2, qa3, qa4, qa5, qa6, qa7, qa8, qa9, qa10, qa11, qc1, qc2, qc3, qc4, qc5, qc6, qc7, qc8, qc9, qc10, qc11, e, rfl, hqi, hb6, hq⟩
 rw [HG.out] at hq
 injection hq with hq1 hq2
 subst hq1 hq2
 have HQI := Aside0.mk hqi
 have X6 := Aside0.mk ((hb6.block _ (blk_lt X5.out)).trans X5.out)
 have HB6 := Aside0.mk (HB5.out.trans (hb6.mono HB5.out.size))
 have HU6 := Aside0.mk (HU.out.below hb6)
 have HN := Aside0.mk (heap_alloc_new w6 (.cells #[.int .i64 0, .string ⟨#[]⟩, .int .i64 0, .int .i64 0, .string ⟨#[]⟩, .slice none 0 0, .slice none 0 0, .int .i64 0, .slice none 0 0, .int .i64 0, .int .i64 0, .int .i64 0, .int .u32 0, .int .i64 0, .slice none 0 0, .int .i64 0, .slice none 0 0, .slice none 0 0, .slice none 0 0, .slice none 0 0, .int .i64 0, .int .u32 0, .slice none 0 0, .int .i64 0, .string ⟨#[]⟩, .int .i64 0, .int .i64 0, .string ⟨#[]⟩, .slice none 0 0, .slice none 0 0] 45))
 clear hqi hb6 m0 fm0
 iterate 14 (first | go_values | go_skip | go_guarded | go_step | go_upon | go_back | go_simp)
 refine wpList_store_row ?y1 45 (.tmp 5) (.tmp 31) ?y2 ?y3 w6.heap.size ?y4 45 (#[.int .i64 0, .string ⟨#[]⟩, .int .i64 0, .int .i64 0, .string ⟨#[]⟩, .slice none 0 0, .slice none 0 0, .int .i64 0, .slice none 0 0, .int .i64 0, .int .i64 0, .int .i64 0, .int .u32 0, .int .i64 0, .slice none 0 0, .int .i64 0, .slice none 0 0, .slice none 0 0, .slice none 0 0, .slice none 0 0, .int .i64 0, .int .u32 0, .slice none 0 0, .int .i64 0, .string ⟨#[]⟩, .int .i64 0, .int .i64 0, .string ⟨#[]⟩, .slice none 0 0, .slice none 0 0]) [.int .i64 s.kind, .string s.r.f0, .int .i64 s.r.f1.f0, .int .i64 s.r.f1.f1, .string s.r.f1.f2, .slice qa1 s.r.f1.f3.length qc1, .slice qa2 s.r.f2.length qc2, .int .i64 s.sn, .slice qa3 s.sc.length qc3, .int .i64 s.g.id, .int .i64 s.g.task, .int .i64 s.g.base, .int .u32 s.g.sum, .int .i64 s.g.snum, .slice qa4 s.g.cells.length qc4, .int .i64 s.g.dnum, .slice qa5 s.g.set.length qc5, .slice qa6 s.g.gone.length qc6, .slice qa7 s.g.logs.length qc7, .slice qa8 s.g.pend.length qc8, .int .i64 s.mi, .int .u32 s.ms, .slice qa9 s.mr.length qc9, .int .i64 s.oa, .string s.ox.f0, .int .i64 s.ox.f1.f0, .int .i64 s.ox.f1.f1, .string s.ox.f1.f2, .slice qa10 s.ox.f1.f3.length qc10, .slice qa11 s.ox.f2.length qc11] ?y5 ?y6 ?y7 ?y8 ?y9 ?y0
 (case y2 => rfl)
 (case y1 => rfl)
 (case y3 => rfl)
 (case y4 => rfl)
 (case y5 => rfl)
 (case y6 => exact HN.out)
 (case y7 => rfl)
 (case y8 => exact size46)
 (case y9 => simp [Value.oneCell'])
 obtain ⟨hW1, hW2, hW3⟩ := filln HN.out [.int .i64 s.kind, .string s.r.f0, .int .i64 s.r.f1.f0, .int .i64 s.r.f1.f1, .string s.r.f1.f2, .slice qa1 s.r.f1.f3.length qc1, .slice qa2 s.r.f2.length qc2, .int .i64 s.sn, .slice qa3 s.sc.length qc3, .int .i64 s.g.id, .int .i64 s.g.task, .int .i64 s.g.base, .int .u32 s.g.sum, .int .i64 s.g.snum, .slice qa4 s.g.cells.length qc4, .int .i64 s.g.dnum, .slice qa5 s.g.set.length qc5, .slice qa6 s.g.gone.length qc6, .slice qa7 s.g.logs.length qc7, .slice qa8 s.g.pend.length qc8, .int .i64 s.mi, .int .u32 s.ms, .slice qa9 s.mr.length qc9, .int .i64 s.oa, .string s.ox.f0, .int .i64 s.ox.f1.f0, .int .i64 s.ox.f1.f1, .string s.ox.f1.f2, .slice qa10 s.ox.f1.f3.length qc10, .slice qa11 s.ox.f2.length qc11] rfl
 have hx6 := blk_lt X6.out
 have hb7 : Below w6.heap.size w6 (sets (w6.alloc (.cells #[.int .i64 0, .string ⟨#[]⟩, .int .i64 0, .int .i64 0, .string ⟨#[]⟩, .slice none 0 0, .slice none 0 0, .int .i64 0, .slice none 0 0, .int .i64 0, .int .i64 0, .int .i64 0, .int .u32 0, .int .i64 0, .slice none 0 0, .int .i64 0, .slice none 0 0, .slice none 0 0, .slice none 0 0, .slice none 0 0, .int .i64 0, .int .u32 0, .slice none 0 0, .int .i64 0, .string ⟨#[]⟩, .int .i64 0, .int .i64 0, .string ⟨#[]⟩, .slice none 0 0, .slice none 0 0] 45)) w6.heap.size 0 [.int .i64 s.kind, .string s.r.f0, .int .i64 s.r.f1.f0, .int .i64 s.r.f1.f1, .string s.r.f1.f2, .slice qa1 s.r.f1.f3.length qc1, .slice qa2 s.r.f2.length qc2, .int .i64 s.sn, .slice qa3 s.sc.length qc3, .int .i64 s.g.id, .int .i64 s.g.task, .int .i64 s.g.base, .int .u32 s.g.sum, .int .i64 s.g.snum, .slice qa4 s.g.cells.length qc4, .int .i64 s.g.dnum, .slice qa5 s.g.set.length qc5, .slice qa6 s.g.gone.length qc6, .slice qa7 s.g.logs.length qc7, .slice qa8 s.g.pend.length qc8, .int .i64 s.mi, .int .u32 s.ms, .slice qa9 s.mr.length qc9, .int .i64 s.oa, .string s.ox.f0, .int .i64 s.ox.f1.f0, .int .i64 s.ox.f1.f1, .string s.ox.f1.f2, .slice qa10 s.ox.f1.f3.length qc10, .slice qa11 s.ox.f2.length qc11]) := (below_alloc (Below.refl _ _) _).trans (hW3.below (Nat.le_of_lt (blk_lt HN.out)))
 have Y7 := Aside0.mk hW1
 have X7 := Aside0.mk ((hb7.block _ hx6).trans X6.out)
 have HB67 := Aside0.mk hb7
 have HB7 := Aside0.mk (HB6.out.trans (hb7.mono HB6.out.size))
 have HU7 := Aside0.mk (HU6.out.below hb7)
 clear hW1 hW2 hW3 hb7 HN
 generalize sets (w6.alloc (.cells #[.int .i64 0, .string ⟨#[]⟩, .int .i64 0, .int .i64 0, .string ⟨#[]⟩, .slice none 0 0, .slice none 0 0, .int .i64 0, .slice none 0 0, .int .i64 0, .int .i64 0, .int .i64 0, .int .u32 0, .int .i64 0, .slice none 0 0, .int .i64 0, .slice none 0 0, .slice none 0 0, .slice none 0 0, .slice none 0 0, .int .i64 0, .int .u32 0, .slice none 0 0, .int .i64 0, .string ⟨#[]⟩, .int .i64 0, .int .i64 0, .string ⟨#[]⟩, .slice none 0 0, .slice none 0 0] 45)) w6.heap.size 0 [.int .i64 s.kind, .string s.r.f0, .int .i64 s.r.f1.f0, .int .i64 s.r.f1.f1, .string s.r.f1.f2, .slice qa1 s.r.f1.f3.length qc1, .slice qa2 s.r.f2.length qc2, .int .i64 s.sn, .slice qa3 s.sc.length qc3, .int .i64 s.g.id, .int .i64 s.g.task, .int .i64 s.g.base, .int .u32 s.g.sum, .int .i64 s.g.snum, .slice qa4 s.g.cells.length qc4, .int .i64 s.g.dnum, .slice qa5 s.g.set.length qc5, .slice qa6 s.g.gone.length qc6, .slice qa7 s.g.logs.length qc7, .slice qa8 s.g.pend.length qc8, .int .i64 s.mi, .int .u32 s.ms, .slice qa9 s.mr.length qc9, .int .i64 s.oa, .string s.ox.f0, .int .i64 s.ox.f1.f0, .int .i64 s.ox.f1.f1, .string s.ox.f1.f2, .slice qa10 s.ox.f1.f3.length qc10, .slice qa11 s.ox.f2.length qc11] = W7 at *
 go_wp2_with (first | refine wpList_load_row_g ?ha 45 (.tmp 1) rfl w.heap.size rfl 45 _ (0, 0) _ X7.out Tryz.underlying45 rfl (by kernel_rfl) ?_ | refine wpList_load_row_g ?hb 45 (.tmp 5) rfl w6.heap.size rfl 45 _ (0, 0) _ Y7.out Tryz.underlying45 rfl (by kernel_rfl) ?_)
 refine (sameThing_calls W7 w w6 s s d1 d2 d3 d4 d5 d6 d7 d8 d9 d10 d11 qa1 qa2 qa3 qa4 qa5 qa6 qa7 qa8 qa9 qa10 qa11 n1 n2 n3 n4 n5 n6 n7 n8 n9 n10 n11 qc1 qc2 qc3 qc4 qc5 qc6 qc7 qc8 qc9 qc10 qc11 HT.out HQI.out HB7.out HB67.out).mono ?_
 rintro en w8 ⟨r, rfl, h1, h2⟩
 obtain rfl : r = true := h1.2 ⟨rfl, ⟨rfl, rfl⟩, rfl, ⟨rfl, rfl, rfl⟩, ⟨rfl, rfl⟩⟩
 have Y8 := Aside0.mk ((h2.block _ (blk_lt Y7.out)).trans Y7.out)
 have HB8 := Aside0.mk (HB7.out.trans (h2.mono HB7.out.size))
 have HB68 := Aside0.mk (HB67.out.trans (h2.mono HB67.out.size))
 have HU8 := Aside0.mk (HU7.out.below h2)
 clear h1 h2
 go_wp2_with (refine wpList_load_row rfl 45 (.tmp 5) rfl w6.heap.size rfl 45 _ (0, 0) _ Y8.out Tryz.underlying45 rfl (by kernel_rfl) ?_)
 refine (put_calls w8 s qa1 qa2 qa3 qa4 qa5 qa6 qa7 qa8 qa9 qa10 qa11 qc1 qc2 qc3 qc4 qc5 qc6 qc7 qc8 qc9 qc10 qc11 (HQI.out.below HB68.out) HOK.out).mono ?_
 rintro en w9 ⟨u, rfl, hu, hb9⟩
 rw [HQ.out.2, if_pos rfl, HZS.out] at hu
 rw [HQ.out.2]
 have HV := Aside0.mk hu
 have HU9 := Aside0.mk (HU8.out.below hb9)
 have HB9 := Aside0.mk (HB8.out.trans (hb9.mono HB8.out.size))
 obtain ⟨Av, cv, rfl, _⟩ := hu.reads
 clear hu hb9
 go_wp2_with fail
 refine (same_calls HU9.out HV.out HB9.out).mono ?_
 rintro en w10 ⟨rfl, hb⟩
 go_wp2
 go_ret
 exact ⟨rfl, hb⟩
end Go.Proofs.YthmkioodkldgbaaGreat.DK
