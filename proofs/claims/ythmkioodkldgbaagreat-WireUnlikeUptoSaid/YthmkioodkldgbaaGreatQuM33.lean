/- eddylaw4.sameThing: it answers whether the two are the same but for their kind; conditions: those in each theorem. -/
import Derived.Test.YthmkioodkldgbaaGreatQuM32
import Derived.Test.YthmkioodkldgbaaGreatQuM24
import Derived.Deep.CutBlock
import Derived.Deep.CutRange
import Derived.Test.YthmkioodkldgbaaGreatQuM29
import Derived.ChangeSame
import Derived.Deep.SlicePairs
import Derived.DataShut
namespace Go.Proofs.YthmkioodkldgbaaGreat.DK
open Go.Proofs.YthmkioodkldgbaaGreat.PD
open Go.RowKit Go.Proofs.YthmkioodkldgbaaGreatW.PrintWords Go.Proofs.YthmkioodkldgbaaGreatW.PrintLast Go.Proofs.YthmkioodkldgbaaGreatW.PrintMore
set_option linter.unusedVariables false
set_option linter.unusedSimpArgs false
set_option maxRecDepth 100000
/-- The same, but for the kind. -/
structure ThgEq (t u : Thg) : Prop where
 r : t.r = u.r
 s : t.sn = u.sn ∧ t.sc = u.sc
 g : t.g = u.g
 m : t.mi = u.mi ∧ t.ms = u.ms ∧ t.mr = u.mr
 o : t.oa = u.oa ∧ t.ox = u.ox
set_option maxHeartbeats 40000000 in
theorem sameThing_calls (w w1 w2 : World) (t u : Thg) (a1 a2 a3 a4 a5 a6 a7 a8 a9 a10 a11 p1 p2 p3 p4 p5 p6 p7 p8 p9 p10 p11 : Option Addr) (c1 c2 c3 c4 c5 c6 c7 c8 c9 c10 c11 q1 q2 q3 q4 q5 q6 q7 q8 q9 q10 q11 : Nat) (hi : ThIn w1 t a1 a2 a3 a4 a5 a6 a7 a8 a9 a10 a11 c1 c2 c3 c4 c5 c6 c7 c8 c9 c10 c11) (hj : ThIn w2 u p1 p2 p3 p4 p5 p6 p7 p8 p9 p10 p11 q1 q2 q3 q4 q5 q6 q7 q8 q9 q10 q11) (hb1 : Below w1.heap.size w1 w) (hb2 : Below w2.heap.size w2 w) :
  Calls Tryz.prog 12 #[.agg #[.int .i64 t.kind, .string t.r.f0, .int .i64 t.r.f1.f0, .int .i64 t.r.f1.f1, .string t.r.f1.f2, .slice a1 t.r.f1.f3.length c1, .slice a2 t.r.f2.length c2, .int .i64 t.sn, .slice a3 t.sc.length c3, .int .i64 t.g.id, .int .i64 t.g.task, .int .i64 t.g.base, .int .u32 t.g.sum, .int .i64 t.g.snum, .slice a4 t.g.cells.length c4, .int .i64 t.g.dnum, .slice a5 t.g.set.length c5, .slice a6 t.g.gone.length c6, .slice a7 t.g.logs.length c7, .slice a8 t.g.pend.length c8, .int .i64 t.mi, .int .u32 t.ms, .slice a9 t.mr.length c9, .int .i64 t.oa, .string t.ox.f0, .int .i64 t.ox.f1.f0, .int .i64 t.ox.f1.f1, .string t.ox.f1.f2, .slice a10 t.ox.f1.f3.length c10, .slice a11 t.ox.f2.length c11], .agg #[.int .i64 u.kind, .string u.r.f0, .int .i64 u.r.f1.f0, .int .i64 u.r.f1.f1, .string u.r.f1.f2, .slice p1 u.r.f1.f3.length q1, .slice p2 u.r.f2.length q2, .int .i64 u.sn, .slice p3 u.sc.length q3, .int .i64 u.g.id, .int .i64 u.g.task, .int .i64 u.g.base, .int .u32 u.g.sum, .int .i64 u.g.snum, .slice p4 u.g.cells.length q4, .int .i64 u.g.dnum, .slice p5 u.g.set.length q5, .slice p6 u.g.gone.length q6, .slice p7 u.g.logs.length q7, .slice p8 u.g.pend.length q8, .int .i64 u.mi, .int .u32 u.ms, .slice p9 u.mr.length q9, .int .i64 u.oa, .string u.ox.f0, .int .i64 u.ox.f1.f0, .int .i64 u.ox.f1.f1, .string u.ox.f1.f2, .slice p10 u.ox.f1.f3.length q10, .slice p11 u.ox.f2.length q11]] w (Tells (ThgEq t u) w) := by
 have HI := Aside0.mk (hi.below hb1)
 have HJ := Aside0.mk (hj.below hb2)
 clear hi hj hb1 hb2
 have hu46 := Tryz.underlying45
 have hu31 := Tryz.underlying30
 have hu44 := Tryz.underlying43
 have hu28 := Tryz.underlying27
 have hu39 := Tryz.underlying38
 have hu42 := Tryz.underlying41
 have H0 := Aside0.mk (Two.start w 45 #[.int .i64 t.kind, .string t.r.f0, .int .i64 t.r.f1.f0, .int .i64 t.r.f1.f1, .string t.r.f1.f2, .slice a1 t.r.f1.f3.length c1, .slice a2 t.r.f2.length c2, .int .i64 t.sn, .slice a3 t.sc.length c3, .int .i64 t.g.id, .int .i64 t.g.task, .int .i64 t.g.base, .int .u32 t.g.sum, .int .i64 t.g.snum, .slice a4 t.g.cells.length c4, .int .i64 t.g.dnum, .slice a5 t.g.set.length c5, .slice a6 t.g.gone.length c6, .slice a7 t.g.logs.length c7, .slice a8 t.g.pend.length c8, .int .i64 t.mi, .int .u32 t.ms, .slice a9 t.mr.length c9, .int .i64 t.oa, .string t.ox.f0, .int .i64 t.ox.f1.f0, .int .i64 t.ox.f1.f1, .string t.ox.f1.f2, .slice a10 t.ox.f1.f3.length c10, .slice a11 t.ox.f2.length c11] #[.int .i64 u.kind, .string u.r.f0, .int .i64 u.r.f1.f0, .int .i64 u.r.f1.f1, .string u.r.f1.f2, .slice p1 u.r.f1.f3.length q1, .slice p2 u.r.f2.length q2, .int .i64 u.sn, .slice p3 u.sc.length q3, .int .i64 u.g.id, .int .i64 u.g.task, .int .i64 u.g.base, .int .u32 u.g.sum, .int .i64 u.g.snum, .slice p4 u.g.cells.length q4, .int .i64 u.g.dnum, .slice p5 u.g.set.length q5, .slice p6 u.g.gone.length q6, .slice p7 u.g.logs.length q7, .slice p8 u.g.pend.length q8, .int .i64 u.mi, .int .u32 u.ms, .slice p9 u.mr.length q9, .int .i64 u.oa, .string u.ox.f0, .int .i64 u.ox.f1.f0, .int .i64 u.ox.f1.f1, .string u.ox.f1.f2, .slice p10 u.ox.f1.f3.length q10, .slice p11 u.ox.f2.length q11])
 have HB := Aside0.mk (below_two w (.cells #[.int .i64 t.kind, .string t.r.f0, .int .i64 t.r.f1.f0, .int .i64 t.r.f1.f1, .string t.r.f1.f2, .slice a1 t.r.f1.f3.length c1, .slice a2 t.r.f2.length c2, .int .i64 t.sn, .slice a3 t.sc.length c3, .int .i64 t.g.id, .int .i64 t.g.task, .int .i64 t.g.base, .int .u32 t.g.sum, .int .i64 t.g.snum, .slice a4 t.g.cells.length c4, .int .i64 t.g.dnum, .slice a5 t.g.set.length c5, .slice a6 t.g.gone.length c6, .slice a7 t.g.logs.length c7, .slice a8 t.g.pend.length c8, .int .i64 t.mi, .int .u32 t.ms, .slice a9 t.mr.length c9, .int .i64 t.oa, .string t.ox.f0, .int .i64 t.ox.f1.f0, .int .i64 t.ox.f1.f1, .string t.ox.f1.f2, .slice a10 t.ox.f1.f3.length c10, .slice a11 t.ox.f2.length c11] 45) (.cells #[.int .i64 u.kind, .string u.r.f0, .int .i64 u.r.f1.f0, .int .i64 u.r.f1.f1, .string u.r.f1.f2, .slice p1 u.r.f1.f3.length q1, .slice p2 u.r.f2.length q2, .int .i64 u.sn, .slice p3 u.sc.length q3, .int .i64 u.g.id, .int .i64 u.g.task, .int .i64 u.g.base, .int .u32 u.g.sum, .int .i64 u.g.snum, .slice p4 u.g.cells.length q4, .int .i64 u.g.dnum, .slice p5 u.g.set.length q5, .slice p6 u.g.gone.length q6, .slice p7 u.g.logs.length q7, .slice p8 u.g.pend.length q8, .int .i64 u.mi, .int .u32 u.ms, .slice p9 u.mr.length q9, .int .i64 u.oa, .string u.ox.f0, .int .i64 u.ox.f1.f0, .int .i64 u.ox.f1.f1, .string u.ox.f1.f2, .slice p10 u.ox.f1.f3.length q10, .slice p11 u.ox.f2.length q11] 45))
 go_enter Tryz.func12, Tryz.ntmps12
 go_upto_region 1 with fail
 generalize (w.alloc (.cells #[.int .i64 t.kind, .string t.r.f0, .int .i64 t.r.f1.f0, .int .i64 t.r.f1.f1, .string t.r.f1.f2, .slice a1 t.r.f1.f3.length c1, .slice a2 t.r.f2.length c2, .int .i64 t.sn, .slice a3 t.sc.length c3, .int .i64 t.g.id, .int .i64 t.g.task, .int .i64 t.g.base, .int .u32 t.g.sum, .int .i64 t.g.snum, .slice a4 t.g.cells.length c4, .int .i64 t.g.dnum, .slice a5 t.g.set.length c5, .slice a6 t.g.gone.length c6, .slice a7 t.g.logs.length c7, .slice a8 t.g.pend.length c8, .int .i64 t.mi, .int .u32 t.ms, .slice a9 t.mr.length c9, .int .i64 t.oa, .string t.ox.f0, .int .i64 t.ox.f1.f0, .int .i64 t.ox.f1.f1, .string t.ox.f1.f2, .slice a10 t.ox.f1.f3.length c10, .slice a11 t.ox.f2.length c11] 45)).alloc (.cells #[.int .i64 u.kind, .string u.r.f0, .int .i64 u.r.f1.f0, .int .i64 u.r.f1.f1, .string u.r.f1.f2, .slice p1 u.r.f1.f3.length q1, .slice p2 u.r.f2.length q2, .int .i64 u.sn, .slice p3 u.sc.length q3, .int .i64 u.g.id, .int .i64 u.g.task, .int .i64 u.g.base, .int .u32 u.g.sum, .int .i64 u.g.snum, .slice p4 u.g.cells.length q4, .int .i64 u.g.dnum, .slice p5 u.g.set.length q5, .slice p6 u.g.gone.length q6, .slice p7 u.g.logs.length q7, .slice p8 u.g.pend.length q8, .int .i64 u.mi, .int .u32 u.ms, .slice p9 u.mr.length q9, .int .i64 u.oa, .string u.ox.f0, .int .i64 u.ox.f1.f0, .int .i64 u.ox.f1.f1, .string u.ox.f1.f2, .slice p10 u.ox.f1.f3.length q10, .slice p11 u.ox.f2.length q11] 45) = wa at *
 have x7 := blk_cell H0.out.1 7
 have x8 := blk_cell H0.out.1 8
 have fx7 := blk_frozen H0.out.1 7
 have fx8 := blk_frozen H0.out.1 8
 simp only [List.getElem?_toArray, List.getElem?_cons_succ, List.getElem?_cons_zero] at x7 x8
 have y7 := blk_cell H0.out.2 7
 have y8 := blk_cell H0.out.2 8
 have fy7 := blk_frozen H0.out.2 7
 have fy8 := blk_frozen H0.out.2 8
 simp only [List.getElem?_toArray, List.getElem?_cons_succ, List.getElem?_cons_zero] at y7 y8
 go_cut [5] from 7 to 22 (fun v w' => (∃ b1 : Bool, v = .bool b1 ∧ (b1 = true ↔ t.sn = u.sn ∧ t.sc = u.sc)) ∧ Below wa.heap.size wa w')
 case first =>
  cases h : t.sn == u.sn with
  | false =>
   go_wp2_with fail
   go_meet
   case rel => exact ⟨⟨false, rfl, by have := beq_eq_false_iff_ne.1 h; simp [this]⟩, Below.refl _ _⟩
  | true =>
   have HE := Aside0.mk (eq_of_beq h)
   go_wp2_with fail
   refine (sameCells_calls t.sc u.sc _ w.heap.size a3 c3 p3 q3 (In.ofC HI.out.i3 HB.out (Nat.le_refl _)) (In.ofC HJ.out.i3 HB.out (Nat.le_refl _)) HB.out.size).mono ?_
   rintro e w3 ⟨r3, rfl, h1, h2⟩
   have R3 := Aside0.mk h1
   have B3 := Aside0.mk h2
   clear h1 h2
   go_wp2_with fail
   go_meet
   case rel => exact ⟨⟨r3, rfl, R3.out.trans ⟨fun h => ⟨HE.out, h⟩, fun h => h.2⟩⟩, B3.out⟩
 case rest =>
  clear x7 y7 fx7 fy7 x8 y8 fx8 fy8
  obtain ⟨⟨b1, rfl, k1⟩, k2⟩ := hcut
  have K1 := Aside0.mk k1
  have H1 := Aside0.mk (H0.out.next k2)
  have HB1 := Aside0.mk (HB.out.trans (k2.mono HB.out.size))
  clear k1 k2
  generalize wc = wb at *
  go_upto_region 2 with fail
  have x23 := blk_cell H1.out.1 23
  have x24 := blk_cell H1.out.1 24
  have x25 := blk_cell H1.out.1 25
  have x26 := blk_cell H1.out.1 26
  have x27 := blk_cell H1.out.1 27
  have x28 := blk_cell H1.out.1 28
  have x29 := blk_cell H1.out.1 29
  have fx23 := blk_frozen H1.out.1 23
  have fx24 := blk_frozen H1.out.1 24
  have fx25 := blk_frozen H1.out.1 25
  have fx26 := blk_frozen H1.out.1 26
  have fx27 := blk_frozen H1.out.1 27
  have fx28 := blk_frozen H1.out.1 28
  have fx29 := blk_frozen H1.out.1 29
  simp only [List.getElem?_toArray, List.getElem?_cons_succ, List.getElem?_cons_zero] at x23 x24 x25 x26 x27 x28 x29
  have y23 := blk_cell H1.out.2 23
  have y24 := blk_cell H1.out.2 24
  have y25 := blk_cell H1.out.2 25
  have y26 := blk_cell H1.out.2 26
  have y27 := blk_cell H1.out.2 27
  have y28 := blk_cell H1.out.2 28
  have y29 := blk_cell H1.out.2 29
  have fy23 := blk_frozen H1.out.2 23
  have fy24 := blk_frozen H1.out.2 24
  have fy25 := blk_frozen H1.out.2 25
  have fy26 := blk_frozen H1.out.2 26
  have fy27 := blk_frozen H1.out.2 27
  have fy28 := blk_frozen H1.out.2 28
  have fy29 := blk_frozen H1.out.2 29
  simp only [List.getElem?_toArray, List.getElem?_cons_succ, List.getElem?_cons_zero] at y23 y24 y25 y26 y27 y28 y29
  go_cut [6] from 23 to 38 (fun v w' => (∃ b2 : Bool, v = .bool b2 ∧ (b2 = true ↔ t.oa = u.oa ∧ t.ox = u.ox)) ∧ Below wb.heap.size wb w')
  case first =>
   cases h : t.oa == u.oa with
   | false =>
    go_wp2_with fail
    go_meet
    case rel => exact ⟨⟨false, rfl, by have := beq_eq_false_iff_ne.1 h; simp [this]⟩, Below.refl _ _⟩
   | true =>
    have HE := Aside0.mk (eq_of_beq h)
    go_wp2_with fail
    refine (sameRecord_calls t.ox u.ox _ w.heap.size a10 c10 a11 c11 p10 q10 p11 q11 (In.ofC HI.out.i10 HB1.out (Nat.le_refl _)) (In.ofC HI.out.i11 HB1.out (Nat.le_refl _)) (In.ofC HJ.out.i10 HB1.out (Nat.le_refl _)) (In.ofC HJ.out.i11 HB1.out (Nat.le_refl _)) HB1.out.size HI.out.l10 HI.out.l11 HJ.out.l10 HJ.out.l11).mono ?_
    rintro e w4 ⟨r4, rfl, h1, h2⟩
    have R4 := Aside0.mk h1
    have B4 := Aside0.mk h2
    clear h1 h2
    go_wp2_with fail
    go_meet
    case rel => exact ⟨⟨r4, rfl, R4.out.trans ⟨fun h => ⟨HE.out, h⟩, fun h => h.2⟩⟩, B4.out⟩
  case rest =>
   clear x23 y23 fx23 fy23 x24 y24 fx24 fy24 x25 y25 fx25 fy25 x26 y26 fx26 fy26 x27 y27 fx27 fy27 x28 y28 fx28 fy28 x29 y29 fx29 fy29
   obtain ⟨⟨b2, rfl, k1⟩, k2⟩ := hcut
   have K2 := Aside0.mk k1
   have H2 := Aside0.mk (H1.out.next k2)
   have HB2 := Aside0.mk (HB1.out.trans (k2.mono HB1.out.size))
   clear k1 k2
   generalize wc = wd at *
   have x1 := blk_cell H2.out.1 1
   have x2 := blk_cell H2.out.1 2
   have x3 := blk_cell H2.out.1 3
   have x4 := blk_cell H2.out.1 4
   have x5 := blk_cell H2.out.1 5
   have x6 := blk_cell H2.out.1 6
   have fx1 := blk_frozen H2.out.1 1
   have fx2 := blk_frozen H2.out.1 2
   have fx3 := blk_frozen H2.out.1 3
   have fx4 := blk_frozen H2.out.1 4
   have fx5 := blk_frozen H2.out.1 5
   have fx6 := blk_frozen H2.out.1 6
   simp only [List.getElem?_toArray, List.getElem?_cons_succ, List.getElem?_cons_zero] at x1 x2 x3 x4 x5 x6
   have y1 := blk_cell H2.out.2 1
   have y2 := blk_cell H2.out.2 2
   have y3 := blk_cell H2.out.2 3
   have y4 := blk_cell H2.out.2 4
   have y5 := blk_cell H2.out.2 5
   have y6 := blk_cell H2.out.2 6
   have fy1 := blk_frozen H2.out.2 1
   have fy2 := blk_frozen H2.out.2 2
   have fy3 := blk_frozen H2.out.2 3
   have fy4 := blk_frozen H2.out.2 4
   have fy5 := blk_frozen H2.out.2 5
   have fy6 := blk_frozen H2.out.2 6
   simp only [List.getElem?_toArray, List.getElem?_cons_succ, List.getElem?_cons_zero] at y1 y2 y3 y4 y5 y6
   go_wp2_with fail
   refine (sameRecord_calls t.r u.r _ w.heap.size a1 c1 a2 c2 p1 q1 p2 q2 (In.ofC HI.out.i1 HB2.out (Nat.le_refl _)) (In.ofC HI.out.i2 HB2.out (Nat.le_refl _)) (In.ofC HJ.out.i1 HB2.out (Nat.le_refl _)) (In.ofC HJ.out.i2 HB2.out (Nat.le_refl _)) HB2.out.size HI.out.l1 HI.out.l2 HJ.out.l1 HJ.out.l2).mono ?_
   rintro e w5 ⟨r5, rfl, h1, h2⟩
   have R5 := Aside0.mk h1
   have B5 := Aside0.mk h2
   clear h1 h2
   clear x1 y1 fx1 fy1 x2 y2 fx2 fy2 x3 y3 fx3 fy3 x4 y4 fx4 fy4 x5 y5 fx5 fy5 x6 y6 fx6 fy6
   have H3 := Aside0.mk (H2.out.next B5.out)
   have HB3 := Aside0.mk (HB2.out.trans (B5.out.mono HB2.out.size))
   cases r5
   case false =>
    go_wp2
    go_ret
    exact Tells.no (fun h => by have := R5.out.2 h.r; cases this) HB3.out
   cases b1
   case false =>
    go_wp2
    go_ret
    exact Tells.no (fun h => by have := K1.out.2 h.s; cases this) HB3.out
   cases b2
   case false =>
    go_wp2
    go_ret
    exact Tells.no (fun h => by have := K2.out.2 h.o; cases this) HB3.out
   have x9 := blk_cell H3.out.1 9
   have x10 := blk_cell H3.out.1 10
   have x11 := blk_cell H3.out.1 11
   have x12 := blk_cell H3.out.1 12
   have x13 := blk_cell H3.out.1 13
   have x14 := blk_cell H3.out.1 14
   have x15 := blk_cell H3.out.1 15
   have x16 := blk_cell H3.out.1 16
   have x17 := blk_cell H3.out.1 17
   have x18 := blk_cell H3.out.1 18
   have x19 := blk_cell H3.out.1 19
   have fx9 := blk_frozen H3.out.1 9
   have fx10 := blk_frozen H3.out.1 10
   have fx11 := blk_frozen H3.out.1 11
   have fx12 := blk_frozen H3.out.1 12
   have fx13 := blk_frozen H3.out.1 13
   have fx14 := blk_frozen H3.out.1 14
   have fx15 := blk_frozen H3.out.1 15
   have fx16 := blk_frozen H3.out.1 16
   have fx17 := blk_frozen H3.out.1 17
   have fx18 := blk_frozen H3.out.1 18
   have fx19 := blk_frozen H3.out.1 19
   simp only [List.getElem?_toArray, List.getElem?_cons_succ, List.getElem?_cons_zero] at x9 x10 x11 x12 x13 x14 x15 x16 x17 x18 x19
   have y9 := blk_cell H3.out.2 9
   have y10 := blk_cell H3.out.2 10
   have y11 := blk_cell H3.out.2 11
   have y12 := blk_cell H3.out.2 12
   have y13 := blk_cell H3.out.2 13
   have y14 := blk_cell H3.out.2 14
   have y15 := blk_cell H3.out.2 15
   have y16 := blk_cell H3.out.2 16
   have y17 := blk_cell H3.out.2 17
   have y18 := blk_cell H3.out.2 18
   have y19 := blk_cell H3.out.2 19
   have fy9 := blk_frozen H3.out.2 9
   have fy10 := blk_frozen H3.out.2 10
   have fy11 := blk_frozen H3.out.2 11
   have fy12 := blk_frozen H3.out.2 12
   have fy13 := blk_frozen H3.out.2 13
   have fy14 := blk_frozen H3.out.2 14
   have fy15 := blk_frozen H3.out.2 15
   have fy16 := blk_frozen H3.out.2 16
   have fy17 := blk_frozen H3.out.2 17
   have fy18 := blk_frozen H3.out.2 18
   have fy19 := blk_frozen H3.out.2 19
   simp only [List.getElem?_toArray, List.getElem?_cons_succ, List.getElem?_cons_zero] at y9 y10 y11 y12 y13 y14 y15 y16 y17 y18 y19
   go_wp2_with fail
   refine (sameSegment_calls t.g u.g _ w.heap.size a4 c4 p4 q4 a5 c5 p5 q5 a6 c6 p6 q6 a7 c7 p7 q7 a8 c8 p8 q8 (In.ofC HI.out.i4 HB3.out (Nat.le_refl _)) (In.ofC HJ.out.i4 HB3.out (Nat.le_refl _)) (In.ofC HI.out.i5 HB3.out (Nat.le_refl _)) (In.ofC HJ.out.i5 HB3.out (Nat.le_refl _)) (In.ofC HI.out.i6 HB3.out (Nat.le_refl _)) (In.ofC HJ.out.i6 HB3.out (Nat.le_refl _)) (In.ofC HI.out.i7 HB3.out (Nat.le_refl _)) (In.ofC HJ.out.i7 HB3.out (Nat.le_refl _)) (In.ofC HI.out.i8 HB3.out (Nat.le_refl _)) (In.ofC HJ.out.i8 HB3.out (Nat.le_refl _)) HB3.out.size).mono ?_
   rintro e w6 ⟨r6, rfl, h1, h2⟩
   have R6 := Aside0.mk h1
   have B6 := Aside0.mk h2
   clear h1 h2
   clear x9 y9 fx9 fy9 x10 y10 fx10 fy10 x11 y11 fx11 fy11 x12 y12 fx12 fy12 x13 y13 fx13 fy13 x14 y14 fx14 fy14 x15 y15 fx15 fy15 x16 y16 fx16 fy16 x17 y17 fx17 fy17 x18 y18 fx18 fy18 x19 y19 fx19 fy19
   have H4 := Aside0.mk (H3.out.next B6.out)
   have HB4 := Aside0.mk (HB3.out.trans (B6.out.mono HB3.out.size))
   cases r6
   case false =>
    go_wp2
    go_ret
    exact Tells.no (fun h => by have := R6.out.2 h.g; cases this) HB4.out
   have x20 := blk_cell H4.out.1 20
   have x21 := blk_cell H4.out.1 21
   have x22 := blk_cell H4.out.1 22
   have fx20 := blk_frozen H4.out.1 20
   have fx21 := blk_frozen H4.out.1 21
   have fx22 := blk_frozen H4.out.1 22
   simp only [List.getElem?_toArray, List.getElem?_cons_succ, List.getElem?_cons_zero] at x20 x21 x22
   have y20 := blk_cell H4.out.2 20
   have y21 := blk_cell H4.out.2 21
   have y22 := blk_cell H4.out.2 22
   have fy20 := blk_frozen H4.out.2 20
   have fy21 := blk_frozen H4.out.2 21
   have fy22 := blk_frozen H4.out.2 22
   simp only [List.getElem?_toArray, List.getElem?_cons_succ, List.getElem?_cons_zero] at y20 y21 y22
   go_wp2_with fail
   refine (sameManifest_calls t.mi u.mi t.ms u.ms t.mr u.mr _ w.heap.size a9 c9 p9 q9 (In.ofC HI.out.i9 HB4.out (Nat.le_refl _)) (In.ofC HJ.out.i9 HB4.out (Nat.le_refl _)) HB4.out.size).mono ?_
   rintro e w7 ⟨r7, rfl, h1, h2⟩
   have R7 := Aside0.mk h1
   have B7 := Aside0.mk h2
   clear h1 h2
   have HB5 := Aside0.mk (HB4.out.trans (B7.out.mono HB4.out.size))
   go_wp2
   go_ret
   exact ⟨r7, rfl, R7.out.trans ⟨fun h => ⟨R5.out.1 (by trivial), K1.out.1 (by trivial), R6.out.1 (by trivial), h, K2.out.1 (by trivial)⟩, fun h => h.m⟩, HB5.out⟩
end Go.Proofs.YthmkioodkldgbaaGreat.DK
/- What a row's opening gives of an argument: kinds by kinds, then one of the five things; conditions: those in each theorem. -/
namespace Go.Proofs.YthmkioodkldgbaaGreat.DK
open Go.Proofs.YthmkioodkldgbaaGreat.PD
open Go.ChangeShapes Go.WideShapes Go.Deep Go.Proofs.YthmkioodkldgbaaGreatW.PrintWords
set_option linter.unusedVariables false
set_option maxRecDepth 100000
/-- One value laid out as cells of type t, read by d, is such. -/
def Opens {H : Type} (enc : TypeId × Value → H) (W : World) {α : Type} (n : Nat) (t : TypeId) (d : Kd α) (ok : α → Prop) : Prop :=
 ∀ cs x, DataW.trod enc Tryz.prog W 0 (fun _ => true) true n t cs = some x → ∃ y : α, d.K W y cs ∧ ok y
section
variable {H : Type} {enc : TypeId × Value → H} {W : World} {n : Nat}
theorem opens_int {t : TypeId} {k : IntKind} (hu : Tryz.prog.underlying t = some (.int k)) : Opens enc W n t (Kd.int k) (fun y => (Lit.int k y).wf = true) := fun cs x h => by
 obtain ⟨y, rfl, _, hw⟩ := DataW.trod_int hu h
 exact ⟨y, rfl, hw⟩
theorem opens_str {t : TypeId} (hu : Tryz.prog.underlying t = some .string) : Opens enc W n t Kd.string (fun _ => True) := fun cs x h => by
 obtain ⟨y, rfl, _, hw⟩ := DataW.trod_string hu h
 exact ⟨y, rfl, trivial⟩
theorem list_of {α : Type} {P : Nat → α → Prop} : ∀ m, (∀ j, j < m → ∃ p, P j p) → ∃ l : List α, l.length = m ∧ ∀ j p, l[j]? = some p → P j p
 | 0, _ => ⟨[], rfl, fun j p h => by simp at h⟩
 | m + 1, h => by
  obtain ⟨l, hl, hp⟩ := list_of m (fun j hj => h j (by omega))
  obtain ⟨p, hq⟩ := h m (by omega)
  refine ⟨l ++ [p], by simp [hl], fun j q hj => ?_⟩
  by_cases hjm : j < m
  ·rw [List.getElem?_append_left (by omega)] at hj
   exact hp j q hj
  ·rw [List.getElem?_append_right (by omega)] at hj
   have hj2 : j - l.length < [p].length := (List.getElem?_eq_some_iff.1 hj).1
   simp only [List.length_cons, List.length_nil] at hj2
   obtain rfl : j = m := by omega
   rw [show j - l.length = 0 by omega] at hj
   simp at hj
   exact hj ▸ hq
theorem opens_slice {t e e' : TypeId} {α : Type} {d : Kd α} {ok : α → Prop} (hu : Tryz.prog.underlying t = some (.slice e)) (he : Tryz.prog.cellsOf e = d.sz) (h : ∀ m, m < n → Opens enc W m e d ok) : Opens enc W n t (Kd.slice e' d) (fun l => ∀ y ∈ l, ok y) := fun cs x hx => by
 rcases DataW.trod_slice hu hx with ⟨rfl, _⟩ | ⟨a, len, cap, elems, rest, m, rfl, rfl, _, _, hl, hm, hlen, hel, _, _⟩
 ·exact ⟨[], ⟨none, 0, rfl, Nat.le_refl _, ⟨rfl, Nat.zero_le _, fun hh => absurd hh (Nat.lt_irrefl _)⟩⟩, fun y hy => by cases hy⟩
 ·obtain ⟨l, hll, hp⟩ := list_of (P := fun i y => (∃ c, c.length = d.sz ∧ d.K W y c ∧ ∀ j u, c[j]? = some u → W.cell? (a.add (i * d.sz + j)) = some u) ∧ ok y) len (fun i hi => by
   have h1 := hel i hi
   rw [List.getElem?_eq_getElem (by omega)] at h1
   cases hc : W.cells? 0 (a.add (i * Tryz.prog.cellsOf e)) (Tryz.prog.cellsOf e) with
   | none => rw [hc] at h1; cases h1
   | some c =>
    rw [hc] at h1
    obtain ⟨_, hcl, hcc⟩ := World.cells?_some hc
    obtain ⟨y, hK, hok⟩ := h m (by omega) c _ h1
    rw [he] at hcl hcc
    refine ⟨y, ⟨c, hcl, hK, fun j u hju => ?_⟩, hok⟩
    have hj : j < d.sz := by have := (List.getElem?_eq_some_iff.1 hju).1; omega
    have h2 := hcc j hj
    rw [Deep.add_add] at h2
    rw [h2, hju])
  subst hll
  exact ⟨l, ⟨some a, cap, rfl, hl, ⟨rfl, Nat.le_trans hl hm, fun _ => ⟨a, rfl, fun j p hj => (hp j p hj).1⟩⟩⟩, fun y hy => by
   obtain ⟨i, hi⟩ := List.mem_iff_getElem?.1 hy
   exact (hp i y hi).2⟩
theorem fld {t : TypeId} {fs : Array Field} {cs : List Value} {x : DataW H × List MemPlace} (hu : Tryz.prog.underlying t = some (.struct fs)) (h : DataW.trod enc Tryz.prog W 0 (fun _ => true) true n t cs = some x) :
  cs.length = Tryz.prog.cellsOf t ∧ ∃ m, n = m + 1 ∧ ∀ (i : Nat) (f : Field), fs[i]? = some f → ∃ y, DataW.trod enc Tryz.prog W 0 (fun _ => true) true m f.type ((cs.drop f.offset).take (Tryz.prog.cellsOf f.type)) = some y := by
 obtain ⟨xs, m, rfl, _, hl, hlen, hf⟩ := DataW.trod_struct hu h
 refine ⟨hl, m, rfl, fun i f hi => ?_⟩
 have h1 := hf i f hi
 have hi2 : i < fs.size := (Array.getElem?_eq_some_iff.1 hi).1
 rw [List.getElem?_eq_getElem (by omega)] at h1
 exact ⟨_, h1⟩
theorem f_last {α : Type} {d : Kd α} {ok : α → Prop} {t : TypeId} {cs : List Value} (off : Nat) (h : Opens enc W n t d ok) (hl : cs.length = off + Tryz.prog.cellsOf t) (g : ∃ y, DataW.trod enc Tryz.prog W 0 (fun _ => true) true n t ((cs.drop off).take (Tryz.prog.cellsOf t)) = some y) :
  ∃ y, d.K W y (cs.drop off) ∧ ok y := by
 obtain ⟨y, g⟩ := g
 rw [List.take_of_length_le (by rw [List.length_drop]; omega)] at g
 exact h _ _ g
theorem f_cons {α β : Type} {a : Kd α} {b : Kd β} {oka : α → Prop} {okb : β → Prop} {t : TypeId} {cs : List Value} (off s : Nat) (h : Opens enc W n t a oka) (he : Tryz.prog.cellsOf t = s) (g : ∃ y, DataW.trod enc Tryz.prog W 0 (fun _ => true) true n t ((cs.drop off).take (Tryz.prog.cellsOf t)) = some y)
  (k : ∃ y, b.K W y (cs.drop (off + s)) ∧ okb y) : ∃ y : α × β, (Kd.pair a b).K W y (cs.drop off) ∧ (oka y.1 ∧ okb y.2) := by
 obtain ⟨y, g⟩ := g
 rw [he] at g
 obtain ⟨y0, h0, o0⟩ := h _ _ g
 obtain ⟨y1, h1, o1⟩ := k
 exact ⟨(y0, y1), ⟨(cs.drop off).take s, cs.drop (off + s), by rw [← List.drop_drop, List.take_append_drop], h0, h1⟩, o0, o1⟩
theorem okL_of : ∀ {l : List S25}, (∀ y ∈ l, okS y) → okL l
 | [], _ => by rw [okL]; trivial
 | x :: l, h => by
  rw [okL]
  exact ⟨h x (List.mem_cons_self ..), okL_of (fun y hy => h y (List.mem_cons_of_mem _ hy))⟩
theorem wf64 {y : Int} (h : (Lit.int .i64 y).wf = true) : -9223372036854775808 ≤ y ∧ y ≤ 9223372036854775807 := by have := (Lit.wf_int_iff _ _).1 h; exact ⟨this.1, this.2⟩
theorem wf32 {y : Int} (h : (Lit.int .u32 y).wf = true) : 0 ≤ y ∧ y ≤ 4294967295 := by have := (Lit.wf_int_iff _ _).1 h; exact ⟨this.1, this.2⟩
theorem ce3 : Tryz.prog.cellsOf 3 = 1 := by kernel_rfl
theorem ce2 : Tryz.prog.cellsOf 2 = 1 := by kernel_rfl
theorem ce9 : Tryz.prog.cellsOf 9 = 1 := by kernel_rfl
theorem ce32 : Tryz.prog.cellsOf 31 = 1 := by kernel_rfl
theorem ce23 : Tryz.prog.cellsOf 22 = 1 := by kernel_rfl
theorem ce25 : Tryz.prog.cellsOf 24 = 4 := by kernel_rfl
theorem ce26 : Tryz.prog.cellsOf 25 = 1 := by kernel_rfl
theorem ce28 : Tryz.prog.cellsOf 27 = 6 := by kernel_rfl
theorem ce29 : Tryz.prog.cellsOf 28 = 1 := by kernel_rfl
theorem ce31 : Tryz.prog.cellsOf 30 = 2 := by kernel_rfl
theorem ce33 : Tryz.prog.cellsOf 32 = 1 := by kernel_rfl
theorem ce35 : Tryz.prog.cellsOf 34 = 3 := by kernel_rfl
theorem ce36 : Tryz.prog.cellsOf 35 = 1 := by kernel_rfl
theorem ce37 : Tryz.prog.cellsOf 36 = 1 := by kernel_rfl
theorem ce39 : Tryz.prog.cellsOf 38 = 11 := by kernel_rfl
theorem ce40 : Tryz.prog.cellsOf 39 = 1 := by kernel_rfl
theorem ce42 : Tryz.prog.cellsOf 41 = 3 := by kernel_rfl
theorem ce44 : Tryz.prog.cellsOf 43 = 7 := by kernel_rfl
theorem ce46 : Tryz.prog.cellsOf 45 = 30 := by kernel_rfl
theorem ce108 : Tryz.prog.cellsOf 111 = 2 := by kernel_rfl
theorem ce121 : Tryz.prog.cellsOf 129 = 2 := by kernel_rfl
theorem opens25 : ∀ n, Opens enc W n 24 k25 okS := fun n => by
 induction n using Nat.strongRecOn with
 | _ n ih =>
  intro cs x h
  obtain ⟨hl, m, rfl, hf⟩ := fld Tryz.underlying24 h
  rw [ce25] at hl
  obtain ⟨⟨y0, y1, y2, y3⟩, hK, o0, o1, _, o3⟩ := f_cons 0 1 (opens_int Tryz.underlying3) ce3 (hf 0 _ rfl) (f_cons 1 1 (opens_int Tryz.underlying2) ce2 (hf 1 _ rfl) (f_cons 2 1 (opens_str Tryz.underlying9) ce9 (hf 2 _ rfl)
   (f_last 3 (opens_slice (e' := 24) Tryz.underlying22 ce25 (fun m' hm' => ih m' (by omega))) (by rw [ce23, hl]) (hf 3 _ rfl))))
  obtain ⟨_, _, e, rfl, _, _, rfl, rfl, _, _, rfl, rfl, A3, c3, rfl, l3, g3⟩ := hK
  rw [List.drop_zero] at e
  subst e
  exact ⟨⟨y0, y1, y2, y3⟩, k25_mk W ⟨y0, y1, y2, y3⟩ l3 g3, by rw [okS_eq]; exact ⟨wf64 o0, wf64 o1, okL_of o3⟩⟩
theorem opens121 : Opens enc W n 129 k121 (fun x => okL x.f1) := fun cs x h => by
 obtain ⟨hl, m, rfl, hf⟩ := fld Tryz.underlying129 h
 rw [ce121] at hl
 obtain ⟨⟨y0, y1⟩, hK, _, o1⟩ := f_cons 0 1 (opens_str Tryz.underlying9) ce9 (hf 0 _ rfl) (f_last 1 (opens_slice (e' := 24) Tryz.underlying22 ce25 (fun m' _ => opens25 m')) (by rw [ce23, hl]) (hf 1 _ rfl))
 rw [List.drop_zero] at hK
 exact ⟨⟨y0, y1⟩, hK, okL_of o1⟩
theorem opens28 : Opens enc W n 27 k28 (fun x => okS x.f1) := fun cs x h => by
 obtain ⟨hl, m, rfl, hf⟩ := fld Tryz.underlying27 h
 rw [ce28] at hl
 obtain ⟨⟨y0, y1, y2⟩, hK, _, o1, _⟩ := f_cons 0 1 (opens_str Tryz.underlying9) ce9 (hf 0 _ rfl) (f_cons 1 4 (opens25 m) ce25 (hf 1 _ rfl) (f_last 5 (opens_slice (e' := 3) (d := Kd.int .i64) Tryz.underlying25 ce3 (fun m' _ => opens_int Tryz.underlying3)) (by rw [ce26, hl]) (hf 2 _ rfl)))
 rw [List.drop_zero] at hK
 exact ⟨⟨y0, y1, y2⟩, hK, o1⟩
theorem opens108 : Opens enc W n 111 k108 (fun x => 0 ≤ x.f1 ∧ x.f1 ≤ 4294967295) := fun cs x h => by
 obtain ⟨hl, m, rfl, hf⟩ := fld Tryz.underlying111 h
 rw [ce108] at hl
 obtain ⟨⟨y0, y1⟩, hK, _, o1⟩ := f_cons 0 1 (opens_int Tryz.underlying3) ce3 (hf 0 _ rfl) (f_last 1 (opens_int Tryz.underlying31) (by rw [ce32, hl]) (hf 1 _ rfl))
 rw [List.drop_zero] at hK
 exact ⟨⟨y0, y1⟩, hK, wf32 o1⟩
def kSt : Kd (Int × List S121) := Kd.pair (Kd.int .i64) (Kd.slice 129 k121)
def kDl : Kd (Int × List S121 × List ByteArray) := Kd.pair (Kd.int .i64) (Kd.pair (Kd.slice 129 k121) (Kd.slice 9 Kd.string))
def kSg : Kd (Int × Int × Int × Int × (Int × List S121) × (Int × List S121 × List ByteArray) × List (List S28) × List S28) :=
 Kd.pair (Kd.int .i64) (Kd.pair (Kd.int .i64) (Kd.pair (Kd.int .i64) (Kd.pair (Kd.int .u32) (Kd.pair kSt (Kd.pair kDl (Kd.pair (Kd.slice 36 (Kd.slice 27 k28)) (Kd.slice 27 k28)))))))
def kMn : Kd (Int × Int × List S108) := Kd.pair (Kd.int .i64) (Kd.pair (Kd.int .u32) (Kd.slice 111 k108))
def kRw : Kd (Int × S28) := Kd.pair (Kd.int .i64) k28
theorem opens31 : Opens enc W n 30 kSt (fun y => ∀ x ∈ y.2, okL x.f1) := fun cs x h => by
 obtain ⟨hl, m, rfl, hf⟩ := fld Tryz.underlying30 h
 rw [ce31] at hl
 obtain ⟨y, hK, _, o1⟩ := f_cons 0 1 (opens_int Tryz.underlying3) ce3 (hf 0 _ rfl) (f_last 1 (opens_slice (e' := 129) Tryz.underlying28 ce121 (fun m' _ => opens121)) (by rw [ce29, hl]) (hf 1 _ rfl))
 rw [List.drop_zero] at hK
 exact ⟨y, hK, o1⟩
theorem opens35 : Opens enc W n 34 kDl (fun y => ∀ x ∈ y.2.1, okL x.f1) := fun cs x h => by
 obtain ⟨hl, m, rfl, hf⟩ := fld Tryz.underlying34 h
 rw [ce35] at hl
 obtain ⟨y, hK, _, o1, _⟩ := f_cons 0 1 (opens_int Tryz.underlying3) ce3 (hf 0 _ rfl) (f_cons 1 1 (opens_slice (e' := 129) Tryz.underlying28 ce121 (fun m' _ => opens121)) ce29 (hf 1 _ rfl) (f_last 2 (opens_slice (e' := 9) (d := Kd.string) Tryz.underlying32 ce9 (fun m' _ => opens_str Tryz.underlying9)) (by rw [ce33, hl]) (hf 2 _ rfl)))
 rw [List.drop_zero] at hK
 exact ⟨y, hK, o1⟩
theorem opens37 : Opens enc W n 36 (Kd.slice 27 k28) (fun l => ∀ x ∈ l, okS x.f1) := opens_slice Tryz.underlying36 ce28 (fun m' _ => opens28)
def SgOk (y : Int × Int × Int × Int × (Int × List S121) × (Int × List S121 × List ByteArray) × List (List S28) × List S28) : Prop :=
 (0 ≤ y.2.2.2.1 ∧ y.2.2.2.1 ≤ 4294967295) ∧ (∀ x ∈ y.2.2.2.2.1.2, okL x.f1) ∧ (∀ x ∈ y.2.2.2.2.2.1.2.1, okL x.f1) ∧ (∀ l ∈ y.2.2.2.2.2.2.1, ∀ x ∈ l, okS x.f1) ∧ ∀ x ∈ y.2.2.2.2.2.2.2, okS x.f1
theorem opens39 : Opens enc W n 38 kSg SgOk := fun cs x h => by
 obtain ⟨hl, m, rfl, hf⟩ := fld Tryz.underlying38 h
 rw [ce39] at hl
 obtain ⟨y, hK, _, _, _, o1, o2, o3, o4, o5⟩ := f_cons 0 1 (opens_int Tryz.underlying3) ce3 (hf 0 _ rfl) (f_cons 1 1 (opens_int Tryz.underlying3) ce3 (hf 1 _ rfl) (f_cons 2 1 (opens_int Tryz.underlying3) ce3 (hf 2 _ rfl) (f_cons 3 1 (opens_int Tryz.underlying31) ce32 (hf 3 _ rfl)
  (f_cons 4 2 opens31 ce31 (hf 4 _ rfl) (f_cons 6 3 opens35 ce35 (hf 5 _ rfl) (f_cons 9 1 (opens_slice (e' := 36) (d := Kd.slice 27 k28) Tryz.underlying35 ce37 (fun m' _ => opens37)) ce36 (hf 6 _ rfl) (f_last 10 opens37 (by rw [ce37, hl]) (hf 7 _ rfl))))))))
 rw [List.drop_zero] at hK
 exact ⟨y, hK, wf32 o1, o2, o3, o4, o5⟩
theorem opens42 : Opens enc W n 41 kMn (fun y => (0 ≤ y.2.1 ∧ y.2.1 ≤ 4294967295) ∧ ∀ x ∈ y.2.2, 0 ≤ x.f1 ∧ x.f1 ≤ 4294967295) := fun cs x h => by
 obtain ⟨hl, m, rfl, hf⟩ := fld Tryz.underlying41 h
 rw [ce42] at hl
 obtain ⟨y, hK, _, o1, o2⟩ := f_cons 0 1 (opens_int Tryz.underlying3) ce3 (hf 0 _ rfl) (f_cons 1 1 (opens_int Tryz.underlying31) ce32 (hf 1 _ rfl) (f_last 2 (opens_slice (e' := 111) Tryz.underlying39 ce108 (fun m' _ => opens108)) (by rw [ce40, hl]) (hf 2 _ rfl)))
 rw [List.drop_zero] at hK
 exact ⟨y, hK, wf32 o1, o2⟩
theorem opens44 : Opens enc W n 43 kRw (fun y => okS y.2.f1) := fun cs x h => by
 obtain ⟨hl, m, rfl, hf⟩ := fld Tryz.underlying43 h
 rw [ce44] at hl
 obtain ⟨y, hK, _, o1⟩ := f_cons 0 1 (opens_int Tryz.underlying3) ce3 (hf 0 _ rfl) (f_last 1 opens28 (by rw [ce28, hl]) (hf 1 _ rfl))
 rw [List.drop_zero] at hK
 exact ⟨y, hK, o1⟩
theorem thing_in {cs : List Value} {x : DataW H × List MemPlace} (h : DataW.trod enc Tryz.prog W 0 (fun _ => true) true n 45 cs = some x) :
  ∃ (t : Thg) (a1 a2 a3 a4 a5 a6 a7 a8 a9 a10 a11 : Option Addr) (c1 c2 c3 c4 c5 c6 c7 c8 c9 c10 c11 : Nat), cs = [.int .i64 t.kind, .string t.r.f0, .int .i64 t.r.f1.f0, .int .i64 t.r.f1.f1, .string t.r.f1.f2, .slice a1 t.r.f1.f3.length c1, .slice a2 t.r.f2.length c2, .int .i64 t.sn, .slice a3 t.sc.length c3,
   .int .i64 t.g.id, .int .i64 t.g.task, .int .i64 t.g.base, .int .u32 t.g.sum, .int .i64 t.g.snum, .slice a4 t.g.cells.length c4, .int .i64 t.g.dnum, .slice a5 t.g.set.length c5, .slice a6 t.g.gone.length c6, .slice a7 t.g.logs.length c7, .slice a8 t.g.pend.length c8,
   .int .i64 t.mi, .int .u32 t.ms, .slice a9 t.mr.length c9, .int .i64 t.oa, .string t.ox.f0, .int .i64 t.ox.f1.f0, .int .i64 t.ox.f1.f1, .string t.ox.f1.f2, .slice a10 t.ox.f1.f3.length c10, .slice a11 t.ox.f2.length c11] ∧
   ThIn W t a1 a2 a3 a4 a5 a6 a7 a8 a9 a10 a11 c1 c2 c3 c4 c5 c6 c7 c8 c9 c10 c11 ∧ t.Ok := by
 obtain ⟨hl, m, rfl, hf⟩ := fld Tryz.underlying45 h
 rw [ce46] at hl
 obtain ⟨⟨y0, r, st, g, mn, rw⟩, hK, _, o1, o2, o3, o4, o5⟩ := f_cons 0 1 (opens_int Tryz.underlying3) ce3 (hf 0 _ rfl) (f_cons 1 6 opens28 ce28 (hf 1 _ rfl) (f_cons 7 2 opens31 ce31 (hf 2 _ rfl) (f_cons 9 11 opens39 ce39 (hf 3 _ rfl) (f_cons 20 3 opens42 ce42 (hf 4 _ rfl) (f_last 23 opens44 (by rw [ce44, hl]) (hf 5 _ rfl))))))
 obtain ⟨sn, sc⟩ := st
 obtain ⟨id, task, base, sum, ⟨snum, cells⟩, ⟨dnum, set_, gone⟩, logs, pend⟩ := g
 obtain ⟨mi, ms, mr⟩ := mn
 obtain ⟨oa, ox⟩ := rw
 obtain ⟨p0, q0, e, k0, p1, q1, e1, k1, p2, q2, e2, k2, p3, q3, e3, k3, p4, q4, e4, k4, k5⟩ := hK
 obtain ⟨a1, c1, a2, c2, f1, l1, i1, l2, i2⟩ := k28_open k1
 obtain ⟨_, _, f2, rfl, a3, c3, rfl, l3, i3⟩ := k2
 obtain ⟨_, _, f3, rfl, _, _, rfl, rfl, _, _, rfl, rfl, _, _, rfl, rfl, _, _, rfl, ⟨_, _, rfl, rfl, a4, c4, rfl, l4, i4⟩, _, _, rfl, ⟨_, _, rfl, rfl, _, _, rfl, ⟨a5, c5, rfl, l5, i5⟩, a6, c6, rfl, l6, i6⟩, _, _, rfl, ⟨a7, c7, rfl, l7, i7⟩, a8, c8, rfl, l8, i8⟩ := k3
 obtain ⟨_, _, f4, rfl, _, _, rfl, rfl, a9, c9, rfl, l9, i9⟩ := k4
 obtain ⟨_, _, f5, rfl, k5⟩ := k5
 obtain ⟨a10, c10, a11, c11, f6, l10, i10, l11, i11⟩ := k28_open k5
 obtain ⟨w1, w2, w3, w4, w5⟩ := o3
 rw [List.drop_zero] at e
 refine ⟨⟨y0, r, sn, sc, ⟨id, task, base, sum, snum, cells, dnum, set_, gone, logs, pend⟩, mi, ms, mr, oa, ox⟩, a1, a2, a3, a4, a5, a6, a7, a8, a9, a10, a11, c1, c2, c3, c4, c5, c6, c7, c8, c9, c10, c11, ?_,
  ⟨i1, i2, i3, i4, i5, i6, i7, i8, i9, i10, i11, l1, l2, l3, l4, l5, l6, l7, l8, l9, l10, l11⟩, ⟨o1, o2, ⟨w1, w2, w3, w4, w5⟩, o4.1, o4.2, o5⟩⟩
 have k0' : p0 = [.int .i64 y0] := k0
 rw [e, k0', e1, f1, e2, f2, e3, f3, e4, f4, f5, f6]
 rfl
theorem thing_arg {v : Value} {d : DataW H} {ps : List MemPlace} (h : DataW.Trod enc Tryz.prog W 0 (fun _ => true) true 45 v d ps) :
  ∃ (t : Thg) (a1 a2 a3 a4 a5 a6 a7 a8 a9 a10 a11 : Option Addr) (c1 c2 c3 c4 c5 c6 c7 c8 c9 c10 c11 : Nat), v = .agg #[.int .i64 t.kind, .string t.r.f0, .int .i64 t.r.f1.f0, .int .i64 t.r.f1.f1, .string t.r.f1.f2, .slice a1 t.r.f1.f3.length c1, .slice a2 t.r.f2.length c2, .int .i64 t.sn, .slice a3 t.sc.length c3,
   .int .i64 t.g.id, .int .i64 t.g.task, .int .i64 t.g.base, .int .u32 t.g.sum, .int .i64 t.g.snum, .slice a4 t.g.cells.length c4, .int .i64 t.g.dnum, .slice a5 t.g.set.length c5, .slice a6 t.g.gone.length c6, .slice a7 t.g.logs.length c7, .slice a8 t.g.pend.length c8,
   .int .i64 t.mi, .int .u32 t.ms, .slice a9 t.mr.length c9, .int .i64 t.oa, .string t.ox.f0, .int .i64 t.ox.f1.f0, .int .i64 t.ox.f1.f1, .string t.ox.f1.f2, .slice a10 t.ox.f1.f3.length c10, .slice a11 t.ox.f2.length c11] ∧
   ThIn W t a1 a2 a3 a4 a5 a6 a7 a8 a9 a10 a11 c1 c2 c3 c4 c5 c6 c7 c8 c9 c10 c11 ∧ t.Ok := by
 obtain ⟨n, h⟩ := h
 obtain ⟨t, a1, a2, a3, a4, a5, a6, a7, a8, a9, a10, a11, c1, c2, c3, c4, c5, c6, c7, c8, c9, c10, c11, e, i, o⟩ := thing_in h
 refine ⟨t, a1, a2, a3, a4, a5, a6, a7, a8, a9, a10, a11, c1, c2, c3, c4, c5, c6, c7, c8, c9, c10, c11, ?_, i, o⟩
 cases v with
 | agg cs =>
  have e' : cs.toList = _ := e
  congr 1
  rw [← Array.toList_inj, e']
 | _ =>
  have h1 := congrArg List.length e
  simp [Value.cells] at h1
end
end Go.Proofs.YthmkioodkldgbaaGreat.DK
