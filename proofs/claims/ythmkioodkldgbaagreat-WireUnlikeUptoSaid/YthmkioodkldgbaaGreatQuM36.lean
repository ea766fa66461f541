/- eddylaw4.WireUnlike walked; conditions: those in the theorem. -/
import Derived.Test.YthmkioodkldgbaaGreatQuM32
import Derived.Test.YthmkioodkldgbaaGreatQuM33
import Derived.Test.YthmkioodkldgbaaGreatQuM29
import Derived.Test.YthmkioodkldgbaaGreatQuM31
import Derived.Test.YthmkioodkldgbaaGreatQuM30
namespace Go.Proofs.YthmkioodkldgbaaGreat.DK
open Go.Proofs.YthmkioodkldgbaaGreat.PD
open Go.RowKit Go.Proofs.YthmkioodkldgbaaGreatW.PrintWords Go.Proofs.YthmkioodkldgbaaGreatW.PrintLast Go.Proofs.YthmkioodkldgbaaGreatW.PrintMore
set_option linter.unusedVariables false
set_option linter.unusedSimpArgs false
set_option maxRecDepth 100000
theorem thg_eq {t u : Thg} (h : ThgEq t u) (hk : t.kind = u.kind) : t = u := by
 obtain ⟨h1, ⟨h2, h3⟩, h4, ⟨h5, h6, h7⟩, h8, h9⟩ := h
 cases t
 cases u
 simp only at *
 subst hk h1 h2 h3 h4 h5 h6 h7 h8 h9
 rfl
theorem thg_refl (t : Thg) : ThgEq t t := ⟨rfl, ⟨rfl, rfl⟩, rfl, ⟨rfl, rfl, rfl⟩, ⟨rfl, rfl⟩⟩
theorem ThIn.kind {w : World} {u : Thg} {p1 p2 p3 p4 p5 p6 p7 p8 p9 p10 p11 : Option Addr} {y1 y2 y3 y4 y5 y6 y7 y8 y9 y10 y11 : Nat} (k : Int) (h : ThIn w u p1 p2 p3 p4 p5 p6 p7 p8 p9 p10 p11 y1 y2 y3 y4 y5 y6 y7 y8 y9 y10 y11) : ThIn w { u with kind := k } p1 p2 p3 p4 p5 p6 p7 p8 p9 p10 p11 y1 y2 y3 y4 y5 y6 y7 y8 y9 y10 y11 := ⟨h.i1, h.i2, h.i3, h.i4, h.i5, h.i6, h.i7, h.i8, h.i9, h.i10, h.i11, h.l1, h.l2, h.l3, h.l4, h.l5, h.l6, h.l7, h.l8, h.l9, h.l10, h.l11⟩
theorem Thg.Ok.kind {u : Thg} (k : Int) (h : u.Ok) : ({ u with kind := k } : Thg).Ok := ⟨h.r, h.sc, h.g, h.ms, h.mr, h.ox⟩
set_option maxHeartbeats 80000000 in
theorem WireUnlike_calls (w : World) (t : Thg) (a1 a2 a3 a4 a5 a6 a7 a8 a9 a10 a11 : Option Addr) (c1 c2 c3 c4 c5 c6 c7 c8 c9 c10 c11 : Nat) (hi : ThIn w t a1 a2 a3 a4 a5 a6 a7 a8 a9 a10 a11 c1 c2 c3 c4 c5 c6 c7 c8 c9 c10 c11) (ho : t.Ok) (u : Thg) (p1 p2 p3 p4 p5 p6 p7 p8 p9 p10 p11 : Option Addr) (y1 y2 y3 y4 y5 y6 y7 y8 y9 y10 y11 : Nat) (hj : ThIn w u p1 p2 p3 p4 p5 p6 p7 p8 p9 p10 p11 y1 y2 y3 y4 y5 y6 y7 y8 y9 y10 y11) (hp : u.Ok) : Calls Tryz.prog 6 #[.agg #[.int .i64 t.kind, .string t.r.f0, .int .i64 t.r.f1.f0, .int .i64 t.r.f1.f1, .string t.r.f1.f2, .slice a1 t.r.f1.f3.length c1, .slice a2 t.r.f2.length c2, .int .i64 t.sn, .slice a3 t.sc.length c3, .int .i64 t.g.id, .int .i64 t.g.task, .int .i64 t.g.base, .int .u32 t.g.sum, .int .i64 t.g.snum, .slice a4 t.g.cells.length c4, .int .i64 t.g.dnum, .slice a5 t.g.set.length c5, .slice a6 t.g.gone.length c6, .slice a7 t.g.logs.length c7, .slice a8 t.g.pend.length c8, .int .i64 t.mi, .int .u32 t.ms, .slice a9 t.mr.length c9, .int .i64 t.oa, .string t.ox.f0, .int .i64 t.ox.f1.f0, .int .i64 t.ox.f1.f1, .string t.ox.f1.f2, .slice a10 t.ox.f1.f3.length c10, .slice a11 t.ox.f2.length c11], .agg #[.int .i64 u.kind, .string u.r.f0, .int .i64 u.r.f1.f0, .int .i64 u.r.f1.f1, .string u.r.f1.f2, .slice p1 u.r.f1.f3.length y1, .slice p2 u.r.f2.length y2, .int .i64 u.sn, .slice p3 u.sc.length y3, .int .i64 u.g.id, .int .i64 u.g.task, .int .i64 u.g.base, .int .u32 u.g.sum, .int .i64 u.g.snum, .slice p4 u.g.cells.length y4, .int .i64 u.g.dnum, .slice p5 u.g.set.length y5, .slice p6 u.g.gone.length y6, .slice p7 u.g.logs.length y7, .slice p8 u.g.pend.length y8, .int .i64 u.mi, .int .u32 u.ms, .slice p9 u.mr.length y9, .int .i64 u.oa, .string u.ox.f0, .int .i64 u.ox.f1.f0, .int .i64 u.ox.f1.f1, .string u.ox.f1.f2, .slice p10 u.ox.f1.f3.length y10, .slice p11 u.ox.f2.length y11]] w (TrueB w) := by
 have HO := Aside0.mk ho
 have HI := Aside0.mk hi
 have HP := Aside0.mk (hp.kind t.kind)
 have HJ := Aside0.mk (hj.kind t.kind)
 clear hi ho hj hp
 have H0 := Aside0.mk (Two.start w 45 #[.int .i64 t.kind, .string t.r.f0, .int .i64 t.r.f1.f0, .int .i64 t.r.f1.f1, .string t.r.f1.f2, .slice a1 t.r.f1.f3.length c1, .slice a2 t.r.f2.length c2, .int .i64 t.sn, .slice a3 t.sc.length c3, .int .i64 t.g.id, .int .i64 t.g.task, .int .i64 t.g.base, .int .u32 t.g.sum, .int .i64 t.g.snum, .slice a4 t.g.cells.length c4, .int .i64 t.g.dnum, .slice a5 t.g.set.length c5, .slice a6 t.g.gone.length c6, .slice a7 t.g.logs.length c7, .slice a8 t.g.pend.length c8, .int .i64 t.mi, .int .u32 t.ms, .slice a9 t.mr.length c9, .int .i64 t.oa, .string t.ox.f0, .int .i64 t.ox.f1.f0, .int .i64 t.ox.f1.f1, .string t.ox.f1.f2, .slice a10 t.ox.f1.f3.length c10, .slice a11 t.ox.f2.length c11] #[.int .i64 u.kind, .string u.r.f0, .int .i64 u.r.f1.f0, .int .i64 u.r.f1.f1, .string u.r.f1.f2, .slice p1 u.r.f1.f3.length y1, .slice p2 u.r.f2.length y2, .int .i64 u.sn, .slice p3 u.sc.length y3, .int .i64 u.g.id, .int .i64 u.g.task, .int .i64 u.g.base, .int .u32 u.g.sum, .int .i64 u.g.snum, .slice p4 u.g.cells.length y4, .int .i64 u.g.dnum, .slice p5 u.g.set.length y5, .slice p6 u.g.gone.length y6, .slice p7 u.g.logs.length y7, .slice p8 u.g.pend.length y8, .int .i64 u.mi, .int .u32 u.ms, .slice p9 u.mr.length y9, .int .i64 u.oa, .string u.ox.f0, .int .i64 u.ox.f1.f0, .int .i64 u.ox.f1.f1, .string u.ox.f1.f2, .slice p10 u.ox.f1.f3.length y10, .slice p11 u.ox.f2.length y11])
 have HB0 := Aside0.mk (below_alloc (below_alloc (Below.refl w.heap.size w) (.cells #[.int .i64 t.kind, .string t.r.f0, .int .i64 t.r.f1.f0, .int .i64 t.r.f1.f1, .string t.r.f1.f2, .slice a1 t.r.f1.f3.length c1, .slice a2 t.r.f2.length c2, .int .i64 t.sn, .slice a3 t.sc.length c3, .int .i64 t.g.id, .int .i64 t.g.task, .int .i64 t.g.base, .int .u32 t.g.sum, .int .i64 t.g.snum, .slice a4 t.g.cells.length c4, .int .i64 t.g.dnum, .slice a5 t.g.set.length c5, .slice a6 t.g.gone.length c6, .slice a7 t.g.logs.length c7, .slice a8 t.g.pend.length c8, .int .i64 t.mi, .int .u32 t.ms, .slice a9 t.mr.length c9, .int .i64 t.oa, .string t.ox.f0, .int .i64 t.ox.f1.f0, .int .i64 t.ox.f1.f1, .string t.ox.f1.f2, .slice a10 t.ox.f1.f3.length c10, .slice a11 t.ox.f2.length c11] 45)) (.cells #[.int .i64 u.kind, .string u.r.f0, .int .i64 u.r.f1.f0, .int .i64 u.r.f1.f1, .string u.r.f1.f2, .slice p1 u.r.f1.f3.length y1, .slice p2 u.r.f2.length y2, .int .i64 u.sn, .slice p3 u.sc.length y3, .int .i64 u.g.id, .int .i64 u.g.task, .int .i64 u.g.base, .int .u32 u.g.sum, .int .i64 u.g.snum, .slice p4 u.g.cells.length y4, .int .i64 u.g.dnum, .slice p5 u.g.set.length y5, .slice p6 u.g.gone.length y6, .slice p7 u.g.logs.length y7, .slice p8 u.g.pend.length y8, .int .i64 u.mi, .int .u32 u.ms, .slice p9 u.mr.length y9, .int .i64 u.oa, .string u.ox.f0, .int .i64 u.ox.f1.f0, .int .i64 u.ox.f1.f1, .string u.ox.f1.f2, .slice p10 u.ox.f1.f3.length y10, .slice p11 u.ox.f2.length y11] 45))
 have hu45 := Tryz.underlying45
 go_enter Tryz.func6, Tryz.ntmps6
 go_wp2_with fail
 refine (known_calls _).mono ?_
 rintro en w1 ⟨rfl, hb1⟩
 have H1 := Aside0.mk (H0.out.next hb1)
 have HB1 := Aside0.mk (HB0.out.trans (hb1.mono HB0.out.size))
 clear hb1 H0 HB0
 have m0 := blk_cell H1.out.1 0
 have fm0 := blk_frozen H1.out.1 0
 have n0 := blk_cell H1.out.2 0
 have fn0 := blk_frozen H1.out.2 0
 simp only [List.getElem?_toArray, List.getElem?_cons_succ, List.getElem?_cons_zero] at m0 n0
 go_upto_region 4 with fail
 have X2 := Aside0.mk ((Below.heap_setCell w1 ⟨w.heap.size + 1, 0, none⟩ (.int .i64 t.kind) w.heap.size (by simp)).trans H1.out.1)
 have Y2 : Aside0 ((w1.setCell ⟨w.heap.size + 1, 0, none⟩ (.int .i64 t.kind)).heap[w.heap.size + 1]? = some (.cells #[.int .i64 t.kind, .string u.r.f0, .int .i64 u.r.f1.f0, .int .i64 u.r.f1.f1, .string u.r.f1.f2, .slice p1 u.r.f1.f3.length y1, .slice p2 u.r.f2.length y2, .int .i64 u.sn, .slice p3 u.sc.length y3, .int .i64 u.g.id, .int .i64 u.g.task, .int .i64 u.g.base, .int .u32 u.g.sum, .int .i64 u.g.snum, .slice p4 u.g.cells.length y4, .int .i64 u.g.dnum, .slice p5 u.g.set.length y5, .slice p6 u.g.gone.length y6, .slice p7 u.g.logs.length y7, .slice p8 u.g.pend.length y8, .int .i64 u.mi, .int .u32 u.ms, .slice p9 u.mr.length y9, .int .i64 u.oa, .string u.ox.f0, .int .i64 u.ox.f1.f0, .int .i64 u.ox.f1.f1, .string u.ox.f1.f2, .slice p10 u.ox.f1.f3.length y10, .slice p11 u.ox.f2.length y11] 45 (0, 0))) := Aside0.mk (Go.Proofs.YthmkioodkldgbaaGreat.DK.blk_set H1.out.2)
 have HB2 := Aside0.mk (HB1.out.setCell (p := ⟨w.heap.size + 1, 0, none⟩) (by simp) (.int .i64 t.kind))
 generalize w1.setCell ⟨w.heap.size + 1, 0, none⟩ (.int .i64 t.kind) = w2 at *
 clear m0 fm0 n0 fn0
 generalize hv : ({ u with kind := t.kind } : Thg) = v at *
 have Y2' : Aside0 (w2.heap[w.heap.size + 1]? = some (.cells #[.int .i64 v.kind, .string v.r.f0, .int .i64 v.r.f1.f0, .int .i64 v.r.f1.f1, .string v.r.f1.f2, .slice p1 v.r.f1.f3.length y1, .slice p2 v.r.f2.length y2, .int .i64 v.sn, .slice p3 v.sc.length y3, .int .i64 v.g.id, .int .i64 v.g.task, .int .i64 v.g.base, .int .u32 v.g.sum, .int .i64 v.g.snum, .slice p4 v.g.cells.length y4, .int .i64 v.g.dnum, .slice p5 v.g.set.length y5, .slice p6 v.g.gone.length y6, .slice p7 v.g.logs.length y7, .slice p8 v.g.pend.length y8, .int .i64 v.mi, .int .u32 v.ms, .slice p9 v.mr.length y9, .int .i64 v.oa, .string v.ox.f0, .int .i64 v.ox.f1.f0, .int .i64 v.ox.f1.f1, .string v.ox.f1.f2, .slice p10 v.ox.f1.f3.length y10, .slice p11 v.ox.f2.length y11] 45 (0, 0))) := Aside0.mk (by rw [← hv]; exact Y2.out)
 have HKD := Aside0.mk (only_kind t v (by rw [← hv]))
 have HKI := Aside0.mk (@only_inj t v)
 clear hv Y2
 go_wp2_with (refine wpList_load_row rfl 45 (.tmp 2) rfl w.heap.size rfl 45 _ (0, 0) _ X2.out Tryz.underlying45 rfl (by kernel_rfl) ?_)
 refine (only_calls HI.out).mono ?_
 rintro en w3 ⟨d1, d2, d3, d4, d5, d6, d7, d8, d9, d10, d11, n1, n2, n3, n4, n5, n6, n7, n8, n9, n10, n11, rfl, ht, hb3⟩
 have X3 := Aside0.mk ((hb3.block _ (blk_lt X2.out)).trans X2.out)
 have Y3 := Aside0.mk ((hb3.block _ (blk_lt Y2'.out)).trans Y2'.out)
 have HB3 := Aside0.mk (HB2.out.trans (hb3.mono HB2.out.size))
 have HT := Aside0.mk ht
 have HOK := Aside0.mk (onlyT_ok HO.out)
 clear hb3 ht
 generalize onlyT t = s at *
 iterate 2 (first | go_values | go_skip | go_guarded | go_step | go_upon | go_back | go_simp)
 refine wpList_store_row ?z1 45 (.tmp 2) (.tmp 15) ?z2 ?z3 w.heap.size ?z4 45 (#[.int .i64 t.kind, .string t.r.f0, .int .i64 t.r.f1.f0, .int .i64 t.r.f1.f1, .string t.r.f1.f2, .slice a1 t.r.f1.f3.length c1, .slice a2 t.r.f2.length c2, .int .i64 t.sn, .slice a3 t.sc.length c3, .int .i64 t.g.id, .int .i64 t.g.task, .int .i64 t.g.base, .int .u32 t.g.sum, .int .i64 t.g.snum, .slice a4 t.g.cells.length c4, .int .i64 t.g.dnum, .slice a5 t.g.set.length c5, .slice a6 t.g.gone.length c6, .slice a7 t.g.logs.length c7, .slice a8 t.g.pend.length c8, .int .i64 t.mi, .int .u32 t.ms, .slice a9 t.mr.length c9, .int .i64 t.oa, .string t.ox.f0, .int .i64 t.ox.f1.f0, .int .i64 t.ox.f1.f1, .string t.ox.f1.f2, .slice a10 t.ox.f1.f3.length c10, .slice a11 t.ox.f2.length c11]) [.int .i64 s.kind, .string s.r.f0, .int .i64 s.r.f1.f0, .int .i64 s.r.f1.f1, .string s.r.f1.f2, .slice d1 s.r.f1.f3.length n1, .slice d2 s.r.f2.length n2, .int .i64 s.sn, .slice d3 s.sc.length n3, .int .i64 s.g.id, .int .i64 s.g.task, .int .i64 s.g.base, .int .u32 s.g.sum, .int .i64 s.g.snum, .slice d4 s.g.cells.length n4, .int .i64 s.g.dnum, .slice d5 s.g.set.length n5, .slice d6 s.g.gone.length n6, .slice d7 s.g.logs.length n7, .slice d8 s.g.pend.length n8, .int .i64 s.mi, .int .u32 s.ms, .slice d9 s.mr.length n9, .int .i64 s.oa, .string s.ox.f0, .int .i64 s.ox.f1.f0, .int .i64 s.ox.f1.f1, .string s.ox.f1.f2, .slice d10 s.ox.f1.f3.length n10, .slice d11 s.ox.f2.length n11] ?z5 ?z6 ?z7 ?z8 ?z9 ?z0
 (case z2 => rfl)
 (case z1 => rfl)
 (case z3 => rfl)
 (case z4 => rfl)
 (case z5 => rfl)
 (case z6 => exact X3.out)
 (case z7 => rfl)
 (case z8 => exact size46)
 (case z9 => simp [Value.oneCell'])
 obtain ⟨hW1, hW2, hW3⟩ := filln X3.out [.int .i64 s.kind, .string s.r.f0, .int .i64 s.r.f1.f0, .int .i64 s.r.f1.f1, .string s.r.f1.f2, .slice d1 s.r.f1.f3.length n1, .slice d2 s.r.f2.length n2, .int .i64 s.sn, .slice d3 s.sc.length n3, .int .i64 s.g.id, .int .i64 s.g.task, .int .i64 s.g.base, .int .u32 s.g.sum, .int .i64 s.g.snum, .slice d4 s.g.cells.length n4, .int .i64 s.g.dnum, .slice d5 s.g.set.length n5, .slice d6 s.g.gone.length n6, .slice d7 s.g.logs.length n7, .slice d8 s.g.pend.length n8, .int .i64 s.mi, .int .u32 s.ms, .slice d9 s.mr.length n9, .int .i64 s.oa, .string s.ox.f0, .int .i64 s.ox.f1.f0, .int .i64 s.ox.f1.f1, .string s.ox.f1.f2, .slice d10 s.ox.f1.f3.length n10, .slice d11 s.ox.f2.length n11] rfl
 have HB4 := Aside0.mk (HB3.out.trans (hW3.below HB3.out.size))
 have X4 := Aside0.mk hW1
 have Y4 := Aside0.mk ((hW2 (w.heap.size + 1) (by omega)).trans Y3.out)
 clear hW1 hW2 hW3
 generalize sets w3 w.heap.size 0 [.int .i64 s.kind, .string s.r.f0, .int .i64 s.r.f1.f0, .int .i64 s.r.f1.f1, .string s.r.f1.f2, .slice d1 s.r.f1.f3.length n1, .slice d2 s.r.f2.length n2, .int .i64 s.sn, .slice d3 s.sc.length n3, .int .i64 s.g.id, .int .i64 s.g.task, .int .i64 s.g.base, .int .u32 s.g.sum, .int .i64 s.g.snum, .slice d4 s.g.cells.length n4, .int .i64 s.g.dnum, .slice d5 s.g.set.length n5, .slice d6 s.g.gone.length n6, .slice d7 s.g.logs.length n7, .slice d8 s.g.pend.length n8, .int .i64 s.mi, .int .u32 s.ms, .slice d9 s.mr.length n9, .int .i64 s.oa, .string s.ox.f0, .int .i64 s.ox.f1.f0, .int .i64 s.ox.f1.f1, .string s.ox.f1.f2, .slice d10 s.ox.f1.f3.length n10, .slice d11 s.ox.f2.length n11] = w4 at *
 go_wp2_with (refine wpList_load_row rfl 45 (.tmp 3) rfl (w.heap.size + 1) rfl 45 _ (0, 0) _ Y4.out Tryz.underlying45 rfl (by kernel_rfl) ?_)
 refine (only_calls HJ.out).mono ?_
 rintro en w5 ⟨qa1, qa2, qa3, qa4, qa5, qa6, qa7, qa8, qa9, qa10, qa11, qc1, qc2, qc3, qc4, qc5, qc6, qc7, qc8, qc9, qc10, qc11, rfl, ht, hb5⟩
 have X5 := Aside0.mk ((hb5.block _ (blk_lt X4.out)).trans X4.out)
 have Y5 := Aside0.mk ((hb5.block _ (blk_lt Y4.out)).trans Y4.out)
 have HB5 := Aside0.mk (HB4.out.trans (hb5.mono HB4.out.size))
 have HR := Aside0.mk ht
 have HPK := Aside0.mk (onlyT_ok HP.out)
 clear hb5 ht
 generalize onlyT v = r at *
 iterate 2 (first | go_values | go_skip | go_guarded | go_step | go_upon | go_back | go_simp)
 refine wpList_store_row ?x1 45 (.tmp 3) (.tmp 17) ?x2 ?x3 (w.heap.size + 1) ?x4 45 (#[.int .i64 v.kind, .string v.r.f0, .int .i64 v.r.f1.f0, .int .i64 v.r.f1.f1, .string v.r.f1.f2, .slice p1 v.r.f1.f3.length y1, .slice p2 v.r.f2.length y2, .int .i64 v.sn, .slice p3 v.sc.length y3, .int .i64 v.g.id, .int .i64 v.g.task, .int .i64 v.g.base, .int .u32 v.g.sum, .int .i64 v.g.snum, .slice p4 v.g.cells.length y4, .int .i64 v.g.dnum, .slice p5 v.g.set.length y5, .slice p6 v.g.gone.length y6, .slice p7 v.g.logs.length y7, .slice p8 v.g.pend.length y8, .int .i64 v.mi, .int .u32 v.ms, .slice p9 v.mr.length y9, .int .i64 v.oa, .string v.ox.f0, .int .i64 v.ox.f1.f0, .int .i64 v.ox.f1.f1, .string v.ox.f1.f2, .slice p10 v.ox.f1.f3.length y10, .slice p11 v.ox.f2.length y11]) [.int .i64 r.kind, .string r.r.f0, .int .i64 r.r.f1.f0, .int .i64 r.r.f1.f1, .string r.r.f1.f2, .slice qa1 r.r.f1.f3.length qc1, .slice qa2 r.r.f2.length qc2, .int .i64 r.sn, .slice qa3 r.sc.length qc3, .int .i64 r.g.id, .int .i64 r.g.task, .int .i64 r.g.base, .int .u32 r.g.sum, .int .i64 r.g.snum, .slice qa4 r.g.cells.length qc4, .int .i64 r.g.dnum, .slice qa5 r.g.set.length qc5, .slice qa6 r.g.gone.length qc6, .slice qa7 r.g.logs.length qc7, .slice qa8 r.g.pend.length qc8, .int .i64 r.mi, .int .u32 r.ms, .slice qa9 r.mr.length qc9, .int .i64 r.oa, .string r.ox.f0, .int .i64 r.ox.f1.f0, .int .i64 r.ox.f1.f1, .string r.ox.f1.f2, .slice qa10 r.ox.f1.f3.length qc10, .slice qa11 r.ox.f2.length qc11] ?x5 ?x6 ?x7 ?x8 ?x9 ?x0
 (case x2 => rfl)
 (case x1 => rfl)
 (case x3 => rfl)
 (case x4 => rfl)
 (case x5 => rfl)
 (case x6 => exact Y5.out)
 (case x7 => rfl)
 (case x8 => exact size46)
 (case x9 => simp [Value.oneCell'])
 obtain ⟨hW1, hW2, hW3⟩ := filln Y5.out [.int .i64 r.kind, .string r.r.f0, .int .i64 r.r.f1.f0, .int .i64 r.r.f1.f1, .string r.r.f1.f2, .slice qa1 r.r.f1.f3.length qc1, .slice qa2 r.r.f2.length qc2, .int .i64 r.sn, .slice qa3 r.sc.length qc3, .int .i64 r.g.id, .int .i64 r.g.task, .int .i64 r.g.base, .int .u32 r.g.sum, .int .i64 r.g.snum, .slice qa4 r.g.cells.length qc4, .int .i64 r.g.dnum, .slice qa5 r.g.set.length qc5, .slice qa6 r.g.gone.length qc6, .slice qa7 r.g.logs.length qc7, .slice qa8 r.g.pend.length qc8, .int .i64 r.mi, .int .u32 r.ms, .slice qa9 r.mr.length qc9, .int .i64 r.oa, .string r.ox.f0, .int .i64 r.ox.f1.f0, .int .i64 r.ox.f1.f1, .string r.ox.f1.f2, .slice qa10 r.ox.f1.f3.length qc10, .slice qa11 r.ox.f2.length qc11] rfl
 have HB6 := Aside0.mk (HB5.out.trans ((hW3.below (Nat.le_of_lt (blk_lt Y5.out))).mono (Nat.le_succ _)))
 have Y6 := Aside0.mk hW1
 have X6 := Aside0.mk ((hW2 w.heap.size (by omega)).trans X5.out)
 clear hW1 hW2 hW3
 generalize sets w5 (w.heap.size + 1) 0 [.int .i64 r.kind, .string r.r.f0, .int .i64 r.r.f1.f0, .int .i64 r.r.f1.f1, .string r.r.f1.f2, .slice qa1 r.r.f1.f3.length qc1, .slice qa2 r.r.f2.length qc2, .int .i64 r.sn, .slice qa3 r.sc.length qc3, .int .i64 r.g.id, .int .i64 r.g.task, .int .i64 r.g.base, .int .u32 r.g.sum, .int .i64 r.g.snum, .slice qa4 r.g.cells.length qc4, .int .i64 r.g.dnum, .slice qa5 r.g.set.length qc5, .slice qa6 r.g.gone.length qc6, .slice qa7 r.g.logs.length qc7, .slice qa8 r.g.pend.length qc8, .int .i64 r.mi, .int .u32 r.ms, .slice qa9 r.mr.length qc9, .int .i64 r.oa, .string r.ox.f0, .int .i64 r.ox.f1.f0, .int .i64 r.ox.f1.f1, .string r.ox.f1.f2, .slice qa10 r.ox.f1.f3.length qc10, .slice qa11 r.ox.f2.length qc11] = w6 at *
 go_wp2_with (refine wpList_load_row rfl 45 (.tmp 2) rfl w.heap.size rfl 45 _ (0, 0) _ X6.out Tryz.underlying45 rfl (by kernel_rfl) ?_)
 refine (small_calls _ s d1 d2 d3 d4 d5 d6 d7 d8 d9 d10 d11 n1 n2 n3 n4 n5 n6 n7 n8 n9 n10 n11 (HT.out.below HB6.out)).mono ?_
 rintro en w7 ⟨bb, rfl, hb7⟩
 have X7 := Aside0.mk ((hb7.block _ (blk_lt X6.out)).trans X6.out)
 have Y7 := Aside0.mk ((hb7.block _ (blk_lt Y6.out)).trans Y6.out)
 have HB7 := Aside0.mk (HB6.out.trans (hb7.mono HB6.out.size))
 clear hb7
 cases bb
 case false =>
  go_wp2
  go_ret
  exact ⟨rfl, HB7.out⟩
 go_wp2_with (refine wpList_load_row_g ?hg1 45 (.tmp 3) rfl (w.heap.size + 1) rfl 45 _ (0, 0) _ Y7.out Tryz.underlying45 rfl (by kernel_rfl) ?_)
 refine (small_calls _ r qa1 qa2 qa3 qa4 qa5 qa6 qa7 qa8 qa9 qa10 qa11 qc1 qc2 qc3 qc4 qc5 qc6 qc7 qc8 qc9 qc10 qc11 (HR.out.below HB7.out)).mono ?_
 rintro en w8 ⟨bb, rfl, hb8⟩
 have X8 := Aside0.mk ((hb8.block _ (blk_lt X7.out)).trans X7.out)
 have Y8 := Aside0.mk ((hb8.block _ (blk_lt Y7.out)).trans Y7.out)
 have HB8 := Aside0.mk (HB7.out.trans (hb8.mono HB7.out.size))
 clear hb8
 cases bb
 case false =>
  go_wp2
  go_ret
  exact ⟨rfl, HB8.out⟩
 go_wp2_with (refine wpList_load_row rfl 45 (.tmp 2) rfl w.heap.size rfl 45 _ (0, 0) _ X8.out Tryz.underlying45 rfl (by kernel_rfl) ?_)
 refine (put_calls w8 s d1 d2 d3 d4 d5 d6 d7 d8 d9 d10 d11 n1 n2 n3 n4 n5 n6 n7 n8 n9 n10 n11 (HT.out.below HB8.out) HOK.out).mono ?_
 rintro en w9 ⟨u1, rfl, hu, hb9⟩
 have X9 := Aside0.mk ((hb9.block _ (blk_lt X8.out)).trans X8.out)
 have Y9 := Aside0.mk ((hb9.block _ (blk_lt Y8.out)).trans Y8.out)
 have HB9 := Aside0.mk (HB8.out.trans (hb9.mono HB8.out.size))
 have HU := Aside0.mk hu
 clear hu hb9
 go_wp2_with (refine wpList_load_row rfl 45 (.tmp 3) rfl (w.heap.size + 1) rfl 45 _ (0, 0) _ Y9.out Tryz.underlying45 rfl (by kernel_rfl) ?_)
 refine (put_calls w9 r qa1 qa2 qa3 qa4 qa5 qa6 qa7 qa8 qa9 qa10 qa11 qc1 qc2 qc3 qc4 qc5 qc6 qc7 qc8 qc9 qc10 qc11 (HR.out.below HB9.out) HPK.out).mono ?_
 rintro en wa ⟨u2, rfl, hu, hba⟩
 have XA := Aside0.mk ((hba.block _ (blk_lt X9.out)).trans X9.out)
 have YA := Aside0.mk ((hba.block _ (blk_lt Y9.out)).trans Y9.out)
 have HBA := Aside0.mk (HB9.out.trans (hba.mono HB9.out.size))
 have HU1 := Aside0.mk (HU.out.below hba)
 have HV := Aside0.mk hu
 clear hu hba
 have HL := Aside0.mk (fun (h : ThgEq s r) => congrArg putC (thg_eq h HKD.out))
 have HE := Aside0.mk (fun (h1 : putC s = 0) (h2 : putC r = 0) => (⟨fun e => (HKI.out ⟨HOK.out, h1⟩ ⟨HPK.out, h2⟩ HKD.out e) ▸ thg_refl _, fun h => congrArg putB (thg_eq h HKD.out)⟩ : putB s = putB r ↔ ThgEq s r))
 generalize putC s = r1 at *
 generalize putC r = r2 at *
 by_cases h1 : r1 = 0
 case neg =>
  have hb1 : (r1 != 0) = true := bne_iff_ne.2 h1
  clear h1
  go_wp2_with (first | refine wpList_load_row rfl 45 (.tmp 2) rfl w.heap.size rfl 45 _ (0, 0) _ XA.out Tryz.underlying45 rfl (by kernel_rfl) ?_ | refine wpList_load_row rfl 45 (.tmp 3) rfl (w.heap.size + 1) rfl 45 _ (0, 0) _ YA.out Tryz.underlying45 rfl (by kernel_rfl) ?_)
  refine (sameThing_calls wa w w s r d1 d2 d3 d4 d5 d6 d7 d8 d9 d10 d11 qa1 qa2 qa3 qa4 qa5 qa6 qa7 qa8 qa9 qa10 qa11 n1 n2 n3 n4 n5 n6 n7 n8 n9 n10 n11 qc1 qc2 qc3 qc4 qc5 qc6 qc7 qc8 qc9 qc10 qc11 (HT.out) (HR.out) HBA.out HBA.out).mono ?_
  rintro en wb ⟨bb, rfl, h1, h2⟩
  have HH := Aside0.mk h1
  have HBB := Aside0.mk (HBA.out.trans (h2.mono HBA.out.size))
  clear h1 h2
  cases bb
  case false =>
   go_wp2
   go_ret
   exact ⟨rfl, HBB.out⟩
  have hrr : (r1 == r2) = true := beq_iff_eq.2 (HL.out (HH.out.1 (by trivial)))
  go_wp2
  go_ret
  exact ⟨rfl, HBB.out⟩
 by_cases h2 : r2 = 0
 case neg =>
  have hb1 : (r1 != 0) = false := by rw [h1]; rfl
  have hb2 : (r2 != 0) = true := bne_iff_ne.2 h2
  clear h1 h2
  go_wp2_with (first | refine wpList_load_row rfl 45 (.tmp 2) rfl w.heap.size rfl 45 _ (0, 0) _ XA.out Tryz.underlying45 rfl (by kernel_rfl) ?_ | refine wpList_load_row rfl 45 (.tmp 3) rfl (w.heap.size + 1) rfl 45 _ (0, 0) _ YA.out Tryz.underlying45 rfl (by kernel_rfl) ?_)
  refine (sameThing_calls wa w w s r d1 d2 d3 d4 d5 d6 d7 d8 d9 d10 d11 qa1 qa2 qa3 qa4 qa5 qa6 qa7 qa8 qa9 qa10 qa11 n1 n2 n3 n4 n5 n6 n7 n8 n9 n10 n11 qc1 qc2 qc3 qc4 qc5 qc6 qc7 qc8 qc9 qc10 qc11 (HT.out) (HR.out) HBA.out HBA.out).mono ?_
  rintro en wb ⟨bb, rfl, h1, h2⟩
  have HH := Aside0.mk h1
  have HBB := Aside0.mk (HBA.out.trans (h2.mono HBA.out.size))
  clear h1 h2
  cases bb
  case false =>
   go_wp2
   go_ret
   exact ⟨rfl, HBB.out⟩
  have hrr : (r1 == r2) = true := beq_iff_eq.2 (HL.out (HH.out.1 (by trivial)))
  go_wp2
  go_ret
  exact ⟨rfl, HBB.out⟩
 replace HE := Aside0.mk (HE.out h1 h2)
 subst h1 h2
 have HU2 : Aside0 (R5 w8.heap.size wa u1 (putB s)) := Aside0.mk (by have h := HU1.out; rwa [if_pos rfl] at h)
 have HV2 : Aside0 (R5 w9.heap.size wa u2 (putB r)) := Aside0.mk (by have h := HV.out; rwa [if_pos rfl] at h)
 clear HU HU1 HV
 generalize putB s = zs at *
 generalize putB r = ys at *
 obtain ⟨Au, cu, rfl, lu, ru⟩ := own_reads_of_le (enc := Value.int .u8) (d := (0 : Int)) (show World.ownsRow _ _ _ _ _ _ (encs (Value.int .u8) zs) from HU2.out)
 have HC1 := Aside0.mk (Kd.C_of_reads (h1 := fun _ => rfl) ru)
 clear ru
 obtain ⟨Av, cv, rfl, lv, rv⟩ := own_reads_of_le (enc := Value.int .u8) (d := (0 : Int)) (show World.ownsRow _ _ _ _ _ _ (encs (Value.int .u8) ys) from HV2.out)
 have HC2 := Aside0.mk (Kd.C_of_reads (h1 := fun _ => rfl) rv)
 clear rv
 go_wp2
 refine start_ (n := 8) (S := fun w' => w'.heap[w.heap.size]? = some (.cells #[.int .i64 s.kind, .string s.r.f0, .int .i64 s.r.f1.f0, .int .i64 s.r.f1.f1, .string s.r.f1.f2, .slice d1 s.r.f1.f3.length n1, .slice d2 s.r.f2.length n2, .int .i64 s.sn, .slice d3 s.sc.length n3, .int .i64 s.g.id, .int .i64 s.g.task, .int .i64 s.g.base, .int .u32 s.g.sum, .int .i64 s.g.snum, .slice d4 s.g.cells.length n4, .int .i64 s.g.dnum, .slice d5 s.g.set.length n5, .slice d6 s.g.gone.length n6, .slice d7 s.g.logs.length n7, .slice d8 s.g.pend.length n8, .int .i64 s.mi, .int .u32 s.ms, .slice d9 s.mr.length n9, .int .i64 s.oa, .string s.ox.f0, .int .i64 s.ox.f1.f0, .int .i64 s.ox.f1.f1, .string s.ox.f1.f2, .slice d10 s.ox.f1.f3.length n10, .slice d11 s.ox.f2.length n11] 45 (0, 0)) ∧ w'.heap[w.heap.size + 1]? = some (.cells #[.int .i64 r.kind, .string r.r.f0, .int .i64 r.r.f1.f0, .int .i64 r.r.f1.f1, .string r.r.f1.f2, .slice qa1 r.r.f1.f3.length qc1, .slice qa2 r.r.f2.length qc2, .int .i64 r.sn, .slice qa3 r.sc.length qc3, .int .i64 r.g.id, .int .i64 r.g.task, .int .i64 r.g.base, .int .u32 r.g.sum, .int .i64 r.g.snum, .slice qa4 r.g.cells.length qc4, .int .i64 r.g.dnum, .slice qa5 r.g.set.length qc5, .slice qa6 r.g.gone.length qc6, .slice qa7 r.g.logs.length qc7, .slice qa8 r.g.pend.length qc8, .int .i64 r.mi, .int .u32 r.ms, .slice qa9 r.mr.length qc9, .int .i64 r.oa, .string r.ox.f0, .int .i64 r.ox.f1.f0, .int .i64 r.ox.f1.f1, .string r.ox.f1.f2, .slice qa10 r.ox.f1.f3.length qc10, .slice qa11 r.ox.f2.length qc11] 45 (0, 0))) (ds := [5]) #[false, false, false, false, false, false, false, false] (by kernel_rfl) rfl rfl ⟨XA.out, YA.out⟩ (fun hHeld => ?_)
 refine pure_ (i := 0) (N := some 51) (v := ?_) (a' := ?_) #[true, false, false, false, false, false, false, false] rfl rfl (by kernel_rfl) (fun _ _ _ h => h) (Or.inl ⟨by rfl, ?_⟩) ?_ ?_
 rotate_left
 ·intro w'
  go_simp
  with_reducible rfl
 rotate_left
 ·simp only [Act.put, List.setIfInBounds_toArray, List.set_cons_zero, List.set_cons_succ, i64_w, i32_w]
  rfl
 refine pure_ (i := 1) (N := some 52) (v := ?_) (a' := ?_) #[true, true, false, false, false, false, false, false] rfl rfl (by kernel_rfl) (fun _ _ _ h => h) (Or.inl ⟨by rfl, ?_⟩) ?_ ?_
 rotate_left
 ·intro w'
  go_simp
  with_reducible rfl
 rotate_left
 ·simp only [Act.put, List.setIfInBounds_toArray, List.set_cons_zero, List.set_cons_succ, i64_w, i32_w]
  rfl
 refine take_ (i := 3) (N := some 54) (v := ?_) (a' := ?_) #[true, true, false, true, false, false, false, false] rfl rfl (by kernel_rfl) (fun _ _ _ h => h) (Or.inl ⟨by rfl, ?_⟩) hHeld ?_ ?_
 rotate_left
 ·rintro w' ⟨s0, s1⟩
  refine load_row_run 45 (.tmp 2) ?_ (w.heap.size) ?_ 45 _ (0, 0) _ s0 Tryz.underlying45 rfl size46
  all_goals rfl
 rotate_left
 ·simp only [Act.put, List.setIfInBounds_toArray, List.set_cons_zero, List.set_cons_succ, i64_w, i32_w]
  rfl
 refine take_ (i := 4) (N := some 55) (v := ?_) (a' := ?_) #[true, true, false, true, true, false, false, false] rfl rfl (by kernel_rfl) (fun _ _ _ h => h) (Or.inl ⟨by rfl, ?_⟩) hHeld ?_ ?_
 rotate_left
 ·rintro w' ⟨s0, s1⟩
  refine load_row_run 45 (.tmp 3) ?_ (w.heap.size + 1) ?_ 45 _ (0, 0) _ s1 Tryz.underlying45 rfl size46
  all_goals rfl
 rotate_left
 ·simp only [Act.put, List.setIfInBounds_toArray, List.set_cons_zero, List.set_cons_succ, i64_w, i32_w]
  rfl
 refine one_ (i := 2) (N := some 53) #[true, true, true, true, true, false, false, false] rfl rfl (by kernel_rfl) (by decide) (fun K hK => ?_)
 refine goes_ Tryz.func13 (by kernel_rfl) rfl #[.slice Au zs.length cu, .slice Av ys.length cv] (by rfl) rfl rfl (by simp only [List.map_toArray, List.map_cons, List.map_nil]; rfl) ?_
 refine (sameBytes_calls zs ys wa.drew wa.heap.size Au cu Av cv (In.ofC HC1.out (below_drew (Below.refl _ _)) (Nat.le_refl _)) (In.ofC HC2.out (below_drew (Below.refl _ _)) (Nat.le_refl _)) (Nat.le_refl _)).mono ?_
 rintro en wb ⟨b1, rfl, h1, h2⟩
 have HH1 := Aside0.mk h1
 have HBb := Aside0.mk ((below_drew (Below.refl wa.heap.size wa)).trans h2)
 clear h1 h2
 refine ⟨_, rfl, ?_⟩
 refine hK.out _ _ ⟨((HBb.out.block _ (blk_lt XA.out)).trans XA.out), ((HBb.out.block _ (blk_lt YA.out)).trans YA.out)⟩ (fun hHeld => ?_)
 clear hK K
 refine norm_ (a' := ?_) ?_ ?_
 rotate_left
 ·show Act.put _ (some 53) _ = _
  simp only [Act.put, List.setIfInBounds_toArray, List.set_cons_zero, List.set_cons_succ, i64_w, i32_w]
  rfl
 refine last_ (i := 5) (N := some 56) #[true, true, true, true, true, true, false, false] rfl rfl (by kernel_rfl) (by decide) (fun K hK => ?_)
 refine goes_ Tryz.func12 (by kernel_rfl) rfl #[.agg #[.int .i64 s.kind, .string s.r.f0, .int .i64 s.r.f1.f0, .int .i64 s.r.f1.f1, .string s.r.f1.f2, .slice d1 s.r.f1.f3.length n1, .slice d2 s.r.f2.length n2, .int .i64 s.sn, .slice d3 s.sc.length n3, .int .i64 s.g.id, .int .i64 s.g.task, .int .i64 s.g.base, .int .u32 s.g.sum, .int .i64 s.g.snum, .slice d4 s.g.cells.length n4, .int .i64 s.g.dnum, .slice d5 s.g.set.length n5, .slice d6 s.g.gone.length n6, .slice d7 s.g.logs.length n7, .slice d8 s.g.pend.length n8, .int .i64 s.mi, .int .u32 s.ms, .slice d9 s.mr.length n9, .int .i64 s.oa, .string s.ox.f0, .int .i64 s.ox.f1.f0, .int .i64 s.ox.f1.f1, .string s.ox.f1.f2, .slice d10 s.ox.f1.f3.length n10, .slice d11 s.ox.f2.length n11], .agg #[.int .i64 r.kind, .string r.r.f0, .int .i64 r.r.f1.f0, .int .i64 r.r.f1.f1, .string r.r.f1.f2, .slice qa1 r.r.f1.f3.length qc1, .slice qa2 r.r.f2.length qc2, .int .i64 r.sn, .slice qa3 r.sc.length qc3, .int .i64 r.g.id, .int .i64 r.g.task, .int .i64 r.g.base, .int .u32 r.g.sum, .int .i64 r.g.snum, .slice qa4 r.g.cells.length qc4, .int .i64 r.g.dnum, .slice qa5 r.g.set.length qc5, .slice qa6 r.g.gone.length qc6, .slice qa7 r.g.logs.length qc7, .slice qa8 r.g.pend.length qc8, .int .i64 r.mi, .int .u32 r.ms, .slice qa9 r.mr.length qc9, .int .i64 r.oa, .string r.ox.f0, .int .i64 r.ox.f1.f0, .int .i64 r.ox.f1.f1, .string r.ox.f1.f2, .slice qa10 r.ox.f1.f3.length qc10, .slice qa11 r.ox.f2.length qc11]] (by rfl) rfl rfl (by simp only [List.map_toArray, List.map_cons, List.map_nil]; rfl) ?_
 refine (sameThing_calls _ w w s r d1 d2 d3 d4 d5 d6 d7 d8 d9 d10 d11 qa1 qa2 qa3 qa4 qa5 qa6 qa7 qa8 qa9 qa10 qa11 n1 n2 n3 n4 n5 n6 n7 n8 n9 n10 n11 qc1 qc2 qc3 qc4 qc5 qc6 qc7 qc8 qc9 qc10 qc11 HT.out HR.out ?hx ?hy).mono ?_
 case hx => exact HBA.out.trans (HBb.out.mono HBA.out.size)
 case hy => exact HBA.out.trans (HBb.out.mono HBA.out.size)
 rintro en wd ⟨b2, rfl, h1, h2⟩
 obtain rfl : b1 = b2 := by
  have h3 := HH1.out.trans (HE.out.trans h1.symm)
  cases b1 <;> cases b2 <;> simp_all
 have HBd := Aside0.mk ((HBA.out.trans (HBb.out.mono HBA.out.size)).trans (h2.mono (HBA.out.trans (HBb.out.mono HBA.out.size)).size))
 clear h1 h2
 refine ⟨_, rfl, ?_⟩
 refine hK.out _ _ ?_
 clear hK K
 refine norm_ (a' := ?_) ?_ ?_
 rotate_left
 ·show Act.put _ (some 56) _ = _
  simp only [Act.put, List.setIfInBounds_toArray, List.set_cons_zero, List.set_cons_succ, i64_w, i32_w]
  rfl
 refine pure_ (i := 6) (N := some 57) (v := ?_) (a' := ?_) #[true, true, true, true, true, true, true, false] rfl rfl (by kernel_rfl) (fun _ _ _ h => h) (Or.inl ⟨by rfl, ?_⟩) ?_ ?_
 rotate_left
 ·intro w'
  go_simp
  with_reducible rfl
 rotate_left
 ·simp only [Act.put, List.setIfInBounds_toArray, List.set_cons_zero, List.set_cons_succ, i64_w, i32_w]
  rfl
 refine pure_ (i := 7) (N := some 4) (v := ?_) (a' := ?_) #[true, true, true, true, true, true, true, true] rfl rfl (by kernel_rfl) (fun _ _ _ h => h) (Or.inl ⟨by rfl, ?_⟩) ?_ ?_
 rotate_left
 ·intro w'
  go_simp
  with_reducible rfl
 rotate_left
 ·simp only [Act.put, List.setIfInBounds_toArray, List.set_cons_zero, List.set_cons_succ, i64_w, i32_w]
  rfl
 refine done_ (by kernel_rfl) ?_
 go_wp2
 go_ret
 exact ⟨rfl, HBd.out⟩
end Go.Proofs.YthmkioodkldgbaaGreat.DK
