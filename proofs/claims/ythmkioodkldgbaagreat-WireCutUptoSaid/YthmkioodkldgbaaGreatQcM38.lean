/- eddylaw4.sameSegment: it answers whether the two are the same; conditions: those in each theorem. -/
import Derived.Test.YthmkioodkldgbaaGreatQcM09
import Derived.Test.YthmkioodkldgbaaGreatQcM37
import Derived.Test.YthmkioodkldgbaaGreatQcM15
import Derived.Deep.CutBlock
import Derived.Deep.CutRange
import Derived.Test.YthmkioodkldgbaaGreatQcM35
namespace Go.Proofs.YthmkioodkldgbaaGreat.DK
open Go.Proofs.YthmkioodkldgbaaGreat.PD
open Go.RowKit Go.Proofs.YthmkioodkldgbaaGreatW.PrintWords Go.Proofs.YthmkioodkldgbaaGreatW.PrintLast Go.Proofs.YthmkioodkldgbaaGreatW.PrintMore
set_option linter.unusedVariables false
set_option linter.unusedSimpArgs false
set_option maxRecDepth 100000
set_option maxHeartbeats 8000000 in
theorem sameSegment_calls (s t : Seg) (w : World) (b : Nat) (A5 : Option Addr) (c5 : Nat) (B5 : Option Addr) (d5 : Nat) (A7 : Option Addr) (c7 : Nat) (B7 : Option Addr) (d7 : Nat) (A8 : Option Addr) (c8 : Nat) (B8 : Option Addr) (d8 : Nat) (A9 : Option Addr) (c9 : Nat) (B9 : Option Addr) (d9 : Nat) (A10 : Option Addr) (c10 : Nat) (B10 : Option Addr) (d10 : Nat) (h5 : In k121 b w A5 s.cells) (g5 : In k121 b w B5 t.cells) (h7 : In k121 b w A7 s.set) (g7 : In k121 b w B7 t.set) (h8 : In Kd.string b w A8 s.gone) (g8 : In Kd.string b w B8 t.gone) (h9 : In (Kd.slice 27 k28) b w A9 s.logs) (g9 : In (Kd.slice 27 k28) b w B9 t.logs) (h10 : In k28 b w A10 s.pend) (g10 : In k28 b w B10 t.pend) (hb : b ≤ w.heap.size) :
  Calls Tryz.prog 32 #[.agg #[.int .i64 s.id, .int .i64 s.task, .int .i64 s.base, .int .u32 s.sum, .int .i64 s.snum, .slice A5 s.cells.length c5, .int .i64 s.dnum, .slice A7 s.set.length c7, .slice A8 s.gone.length c8, .slice A9 s.logs.length c9, .slice A10 s.pend.length c10], .agg #[.int .i64 t.id, .int .i64 t.task, .int .i64 t.base, .int .u32 t.sum, .int .i64 t.snum, .slice B5 t.cells.length d5, .int .i64 t.dnum, .slice B7 t.set.length d7, .slice B8 t.gone.length d8, .slice B9 t.logs.length d9, .slice B10 t.pend.length d10]] w (Tells (s = t) w) := by
 obtain ⟨i, ta, ba, su, sn, ce, dn, se, go, lo, pe⟩ := s
 obtain ⟨i', ta', ba', su', sn', ce', dn', se', go', lo', pe'⟩ := t
 dsimp only at *
 have H5 := Aside0.mk h5
 have G5 := Aside0.mk g5
 have H7 := Aside0.mk h7
 have G7 := Aside0.mk g7
 have H8 := Aside0.mk h8
 have G8 := Aside0.mk g8
 have H9 := Aside0.mk h9
 have G9 := Aside0.mk g9
 have H10 := Aside0.mk h10
 have G10 := Aside0.mk g10
 have hm : lo.length ≤ 9223372036854775807 := h9.max
 have hm' : lo'.length ≤ 9223372036854775807 := g9.max
 clear h5 g5 h7 g7 h8 g8 h9 g9 h10 g10
 have hu39 := Tryz.underlying38
 have hu31 := Tryz.underlying30
 have hu35 := Tryz.underlying34
 by_cases c_i : i = i'
 case neg =>
  go_enter Tryz.func32, Tryz.ntmps32
  go_wp2
  go_ret
  exact Tells.no (fun h => c_i (congrArg Seg.id h)) (below_two _ _ _)
 subst c_i
 by_cases c_ta : ta = ta'
 case neg =>
  go_enter Tryz.func32, Tryz.ntmps32
  go_wp2
  go_ret
  exact Tells.no (fun h => c_ta (congrArg Seg.task h)) (below_two _ _ _)
 subst c_ta
 by_cases c_ba : ba = ba'
 case neg =>
  go_enter Tryz.func32, Tryz.ntmps32
  go_wp2
  go_ret
  exact Tells.no (fun h => c_ba (congrArg Seg.base h)) (below_two _ _ _)
 subst c_ba
 by_cases c_su : su = su'
 case neg =>
  go_enter Tryz.func32, Tryz.ntmps32
  go_wp2
  go_ret
  exact Tells.no (fun h => c_su (congrArg Seg.sum h)) (below_two _ _ _)
 subst c_su
 generalize hq : lo'.length = q at *
 have HQ := Aside0.mk hq
 clear hq
 by_cases c3 : q = lo.length
 case neg =>
  have hne : ¬ (lo.length : Int) = (q : Int) := by omega
  go_enter Tryz.func32, Tryz.ntmps32
  go_wp2
  go_ret
  exact Tells.no (fun h => c3 (HQ.out.symm.trans (congrArg (fun s : Seg => s.logs.length) h.symm))) (below_two _ _ _)
 subst c3
 by_cases c_sn : sn = sn'
 case neg =>
  go_enter Tryz.func32, Tryz.ntmps32
  go_wp2
  go_ret
  exact Tells.no (fun h => c_sn (congrArg Seg.snum h)) (below_two _ _ _)
 subst c_sn
 by_cases c_dn : dn = dn'
 case neg =>
  go_enter Tryz.func32, Tryz.ntmps32
  go_wp2
  go_ret
  exact Tells.no (fun h => c_dn (congrArg Seg.dnum h)) (below_two _ _ _)
 subst c_dn
 go_enter Tryz.func32, Tryz.ntmps32
 go_wp2
 go_loopw [5] (fun iv wr => SameE (Two w 38 #[.int .i64 i, .int .i64 ta, .int .i64 ba, .int .u32 su, .int .i64 sn, .slice A5 ce.length c5, .int .i64 dn, .slice A7 se.length c7, .slice A8 go.length c8, .slice A9 lo.length c9, .slice A10 pe.length c10] #[.int .i64 i, .int .i64 ta, .int .i64 ba, .int .u32 su, .int .i64 sn, .slice B5 ce'.length d5, .int .i64 dn, .slice B7 se'.length d7, .slice B8 go'.length d8, .slice B9 lo.length d9, .slice B10 pe'.length d10]) w lo lo' iv wr) (fun iv _ => lo.length - (intOf iv).toNat)
 case atStart => exact SameI.start (below_two _ _ _) (Two.start _ _ _ _)
 case round =>
  obtain ⟨j, rfl, HI⟩ := hrel
  have HX := Aside0.mk HI
  clear HI
  have x5 := blk_cell HX.out.k.1 5
  have x7 := blk_cell HX.out.k.1 7
  have x8 := blk_cell HX.out.k.1 8
  have x9 := blk_cell HX.out.k.1 9
  have x10 := blk_cell HX.out.k.1 10
  have fx5 := blk_frozen HX.out.k.1 5
  have fx7 := blk_frozen HX.out.k.1 7
  have fx8 := blk_frozen HX.out.k.1 8
  have fx9 := blk_frozen HX.out.k.1 9
  have fx10 := blk_frozen HX.out.k.1 10
  simp only [List.getElem?_toArray, List.getElem?_cons_succ, List.getElem?_cons_zero] at x5 x7 x8 x9 x10
  have y5 := blk_cell HX.out.k.2 5
  have y7 := blk_cell HX.out.k.2 7
  have y8 := blk_cell HX.out.k.2 8
  have y9 := blk_cell HX.out.k.2 9
  have y10 := blk_cell HX.out.k.2 10
  have fy5 := blk_frozen HX.out.k.2 5
  have fy7 := blk_frozen HX.out.k.2 7
  have fy8 := blk_frozen HX.out.k.2 8
  have fy9 := blk_frozen HX.out.k.2 9
  have fy10 := blk_frozen HX.out.k.2 10
  simp only [List.getElem?_toArray, List.getElem?_cons_succ, List.getElem?_cons_zero] at y5 y7 y8 y9 y10
  have hle := HX.out.le
  have hbr : b ≤ wr.heap.size := Nat.le_trans hb HX.out.b.size
  by_cases hlt : j < lo.length
  ·skip
   have hlt' : j < lo'.length := by rw [HQ.out]; exact hlt
   obtain ⟨ad, P1, p1, rfl, d0, l1, g1⟩ := (H9.out.ext (HX.out.b.mono hb)).atSlice hlt
   obtain ⟨ae, Q1, q1, rfl, n0, m1, f1⟩ := (G9.out.ext (HX.out.b.mono hb)).atSlice hlt'
   have HN := Aside0.mk (fun (h : lo[j] = lo'[j]) (W : World) (hw : Below wr.heap.size wr W) => HX.out.next hlt hlt' h hw (HX.out.k.next hw))
   have HS := Aside0.mk (HX.out.stop hlt hlt')
   have HC := Aside0.mk (fun (W : World) (hw : Below wr.heap.size wr W) => (sameRecords_calls lo[j] lo'[j] W b P1 p1 Q1 q1 (g1.ext (hw.mono hbr)) (f1.ext (hw.mono hbr)) (Nat.le_trans hbr hw.size)).mono fun e w' => Tells.at hw)
   clear g1 f1
   generalize lo[j] = x at *
   generalize lo'[j] = y at *
   go_wp2
   refine start_ (n := 12) (S := fun w' => w'.cell? ⟨w.heap.size, 9, none⟩ = some (.slice (some ad) lo.length c9) ∧ w'.cell? ⟨w.heap.size + 1, 9, none⟩ = some (.slice (some ae) lo.length d9) ∧ w'.cell? (ad.add j) = some (.slice P1 x.length p1) ∧ w'.cell? (ae.add j) = some (.slice Q1 y.length q1)) (ds := [10]) #[false, false, false, false, false, false, false, false, false, false, false, false] (by kernel_rfl) rfl rfl ⟨x9, y9, d0, n0⟩ (fun hHeld => ?_)
   refine zq 0 (some 65) ?_
   refine zq 2 (some 67) ?_
   refine zq 5 (some 70) ?_
   refine zq 7 (some 72) ?_
   refine zu 1 (some 66) hHeld ?_
   refine zq 3 (some 68) ?_
   refine zu 4 (some 69) hHeld ?_
   refine zu 6 (some 71) hHeld ?_
   refine zq 8 (some 73) ?_
   refine zu 9 (some 74) hHeld ?_
   refine last_ (i := 10) (N := some 75) #[true, true, true, true, true, true, true, true, true, true, true, false] rfl rfl (by kernel_rfl) (by decide) (fun K hK => ?_)
   refine goes_ Tryz.func70 (by kernel_rfl) rfl #[.slice P1 x.length p1, .slice Q1 y.length q1] (by rfl) rfl rfl (by simp only [List.map_toArray, List.map_cons, List.map_nil]; rfl) ?_
   refine (HC.out _ ?hw).mono ?_
   case hw => repeat (with_reducible first | exact Below.refl _ _ | apply below_drew | apply pw_below_drewN | apply below_alloc)
   rintro e w5 ⟨r, rfl, h1, h2⟩
   have HR := Aside0.mk h1
   have HBL := Aside0.mk h2
   clear h1 h2
   refine ⟨_, rfl, ?_⟩
   refine hK.out _ _ ?_
   clear hK K
   refine norm_ (a' := ?_) ?_ ?_
   rotate_left
   ·show Act.put _ (some 75) _ = _
    simp only [Act.put, zla, zlb, zlc, i64_w, i32_w]
    rfl
   refine zq 11 (some 76) ?_
   refine done_ (by kernel_rfl) ?_
   cases r
   ·go_wp2
    go_ret
    exact Tells.no (fun h => HS.out (fun e => by have := HR.out.2 e; cases this) (congrArg Seg.logs h)) (HX.out.b.trans (HBL.out.mono HX.out.b.size))
   ·go_wp2
    go_roundw
    case rel => exact ⟨j + 1, by simp, HN.out (HR.out.1 (by first | rfl | trivial)) _ HBL.out⟩
    case measure => simp [intOf]; omega
  ·skip
   have hir : ¬ (j : Int) < (lo.length : Int) := by omega
   have HL := Aside0.mk (HX.out.done hlt HQ.out)
   go_wp2_with fail
   refine (sameCells_calls ce ce' _ b A5 c5 B5 d5 (H5.out.ext ((HX.out.b.mono hb).trans ((Below.refl wr.heap.size wr).mono hbr))) (G5.out.ext ((HX.out.b.mono hb).trans ((Below.refl wr.heap.size wr).mono hbr))) (Nat.le_trans hbr (Below.size (Below.refl wr.heap.size wr)))).mono ?_
   rintro e w1 ⟨r1, rfl, h1, h2⟩
   have R1 := Aside0.mk h1
   have BL1 := Aside0.mk (Below.trans (Below.refl wr.heap.size wr) (h2.mono (Below.size (Below.refl wr.heap.size wr))))
   clear h1 h2
   have z1_7 := (BL1.out.cell (World.block_lt_of_cell? _ _ x7)).trans x7
   have z1_8 := (BL1.out.cell (World.block_lt_of_cell? _ _ x8)).trans x8
   have z1_10 := (BL1.out.cell (World.block_lt_of_cell? _ _ x10)).trans x10
   have u1_7 := (BL1.out.cell (World.block_lt_of_cell? _ _ y7)).trans y7
   have u1_8 := (BL1.out.cell (World.block_lt_of_cell? _ _ y8)).trans y8
   have u1_10 := (BL1.out.cell (World.block_lt_of_cell? _ _ y10)).trans y10
   cases r1
   case false =>
    go_wp2
    go_ret
    exact Tells.no (fun h => by have := R1.out.2 (congrArg Seg.cells h); cases this) (HX.out.b.trans (BL1.out.mono HX.out.b.size))
   go_wp2_with fail
   refine (sameCells_calls se se' _ b A7 c7 B7 d7 (H7.out.ext ((HX.out.b.mono hb).trans (BL1.out.mono hbr))) (G7.out.ext ((HX.out.b.mono hb).trans (BL1.out.mono hbr))) (Nat.le_trans hbr (Below.size BL1.out))).mono ?_
   rintro e w2 ⟨r2, rfl, h1, h2⟩
   have R2 := Aside0.mk h1
   have BL2 := Aside0.mk (Below.trans BL1.out (h2.mono (Below.size BL1.out)))
   clear h1 h2
   have z2_7 := (BL2.out.cell (World.block_lt_of_cell? _ _ x7)).trans x7
   have z2_8 := (BL2.out.cell (World.block_lt_of_cell? _ _ x8)).trans x8
   have z2_10 := (BL2.out.cell (World.block_lt_of_cell? _ _ x10)).trans x10
   have u2_7 := (BL2.out.cell (World.block_lt_of_cell? _ _ y7)).trans y7
   have u2_8 := (BL2.out.cell (World.block_lt_of_cell? _ _ y8)).trans y8
   have u2_10 := (BL2.out.cell (World.block_lt_of_cell? _ _ y10)).trans y10
   cases r2
   case false =>
    go_wp2
    go_ret
    exact Tells.no (fun h => by have := R2.out.2 (congrArg Seg.set h); cases this) (HX.out.b.trans (BL2.out.mono HX.out.b.size))
   go_wp2_with fail
   refine (sameTexts_calls go go' _ b A8 c8 B8 d8 (H8.out.ext ((HX.out.b.mono hb).trans (BL2.out.mono hbr))) (G8.out.ext ((HX.out.b.mono hb).trans (BL2.out.mono hbr))) (Nat.le_trans hbr (Below.size BL2.out))).mono ?_
   rintro e w3 ⟨r3, rfl, h1, h2⟩
   have R3 := Aside0.mk h1
   have BL3 := Aside0.mk (Below.trans BL2.out (h2.mono (Below.size BL2.out)))
   clear h1 h2
   have z3_7 := (BL3.out.cell (World.block_lt_of_cell? _ _ x7)).trans x7
   have z3_8 := (BL3.out.cell (World.block_lt_of_cell? _ _ x8)).trans x8
   have z3_10 := (BL3.out.cell (World.block_lt_of_cell? _ _ x10)).trans x10
   have u3_7 := (BL3.out.cell (World.block_lt_of_cell? _ _ y7)).trans y7
   have u3_8 := (BL3.out.cell (World.block_lt_of_cell? _ _ y8)).trans y8
   have u3_10 := (BL3.out.cell (World.block_lt_of_cell? _ _ y10)).trans y10
   cases r3
   case false =>
    go_wp2
    go_ret
    exact Tells.no (fun h => by have := R3.out.2 (congrArg Seg.gone h); cases this) (HX.out.b.trans (BL3.out.mono HX.out.b.size))
   go_wp2_with fail
   refine (sameRecords_calls pe pe' _ b A10 c10 B10 d10 (H10.out.ext ((HX.out.b.mono hb).trans (BL3.out.mono hbr))) (G10.out.ext ((HX.out.b.mono hb).trans (BL3.out.mono hbr))) (Nat.le_trans hbr (Below.size BL3.out))).mono ?_
   rintro e w4 ⟨r4, rfl, h1, h2⟩
   have R4 := Aside0.mk h1
   have BL4 := Aside0.mk (Below.trans BL3.out (h2.mono (Below.size BL3.out)))
   clear h1 h2
   cases r4
   case false =>
    go_wp2
    go_ret
    exact Tells.no (fun h => by have := R4.out.2 (congrArg Seg.pend h); cases this) (HX.out.b.trans (BL4.out.mono HX.out.b.size))
   go_wp2
   go_ret
   exact Tells.yes (by rw [HL.out, R1.out.1 (by trivial), R2.out.1 (by trivial), R3.out.1 (by trivial), R4.out.1 (by trivial)]) (HX.out.b.trans (BL4.out.mono HX.out.b.size))
end Go.Proofs.YthmkioodkldgbaaGreat.DK
/- eddylaw4.sameThing: it answers whether the two are the same but for their kind; conditions: those in each theorem. -/
namespace Go.Proofs.YthmkioodkldgbaaGreat.DK
open Go.Proofs.YthmkioodkldgbaaGreat.PD
open Go.RowKit Go.Proofs.YthmkioodkldgbaaGreatW.PrintWords Go.Proofs.YthmkioodkldgbaaGreatW.PrintLast Go.Proofs.YthmkioodkldgbaaGreatW.PrintMore
set_option linter.unusedVariables false
set_option linter.unusedSimpArgs false
set_option maxRecDepth 100000
/-- The same, but for the kind. -/
structure ThgEq (t u : Thg) : Prop where
 r : t.r = u.r
 s : t.sn = u.sn ∧ t.sc = u.sc
 g : t.g = u.g
 m : t.mi = u.mi ∧ t.ms = u.ms ∧ t.mr = u.mr
 o : t.oa = u.oa ∧ t.ox = u.ox
set_option maxHeartbeats 40000000 in
theorem sameThing_calls (w w1 w2 : World) (t u : Thg) (a1 a2 a3 a4 a5 a6 a7 a8 a9 a10 a11 p1 p2 p3 p4 p5 p6 p7 p8 p9 p10 p11 : Option Addr) (c1 c2 c3 c4 c5 c6 c7 c8 c9 c10 c11 q1 q2 q3 q4 q5 q6 q7 q8 q9 q10 q11 : Nat) (hi : ThIn w1 t a1 a2 a3 a4 a5 a6 a7 a8 a9 a10 a11 c1 c2 c3 c4 c5 c6 c7 c8 c9 c10 c11) (hj : ThIn w2 u p1 p2 p3 p4 p5 p6 p7 p8 p9 p10 p11 q1 q2 q3 q4 q5 q6 q7 q8 q9 q10 q11) (hb1 : Below w1.heap.size w1 w) (hb2 : Below w2.heap.size w2 w) :
  Calls Tryz.prog 12 #[.agg #[.int .i64 t.kind, .string t.r.f0, .int .i64 t.r.f1.f0, .int .i64 t.r.f1.f1, .string t.r.f1.f2, .slice a1 t.r.f1.f3.length c1, .slice a2 t.r.f2.length c2, .int .i64 t.sn, .slice a3 t.sc.length c3, .int .i64 t.g.id, .int .i64 t.g.task, .int .i64 t.g.base, .int .u32 t.g.sum, .int .i64 t.g.snum, .slice a4 t.g.cells.length c4, .int .i64 t.g.dnum, .slice a5 t.g.set.length c5, .slice a6 t.g.gone.length c6, .slice a7 t.g.logs.length c7, .slice a8 t.g.pend.length c8, .int .i64 t.mi, .int .u32 t.ms, .slice a9 t.mr.length c9, .int .i64 t.oa, .string t.ox.f0, .int .i64 t.ox.f1.f0, .int .i64 t.ox.f1.f1, .string t.ox.f1.f2, .slice a10 t.ox.f1.f3.length c10, .slice a11 t.ox.f2.length c11], .agg #[.int .i64 u.kind, .string u.r.f0, .int .i64 u.r.f1.f0, .int .i64 u.r.f1.f1, .string u.r.f1.f2, .slice p1 u.r.f1.f3.length q1, .slice p2 u.r.f2.length q2, .int .i64 u.sn, .slice p3 u.sc.length q3, .int .i64 u.g.id, .int .i64 u.g.task, .int .i64 u.g.base, .int .u32 u.g.sum, .int .i64 u.g.snum, .slice p4 u.g.cells.length q4, .int .i64 u.g.dnum, .slice p5 u.g.set.length q5, .slice p6 u.g.gone.length q6, .slice p7 u.g.logs.length q7, .slice p8 u.g.pend.length q8, .int .i64 u.mi, .int .u32 u.ms, .slice p9 u.mr.length q9, .int .i64 u.oa, .string u.ox.f0, .int .i64 u.ox.f1.f0, .int .i64 u.ox.f1.f1, .string u.ox.f1.f2, .slice p10 u.ox.f1.f3.length q10, .slice p11 u.ox.f2.length q11]] w (Tells (ThgEq t u) w) := by
 have HI := Aside0.mk (hi.below hb1)
 have HJ := Aside0.mk (hj.below hb2)
 clear hi hj hb1 hb2
 have hu46 := Tryz.underlying45
 have hu31 := Tryz.underlying30
 have hu44 := Tryz.underlying43
 have hu28 := Tryz.underlying27
 have hu39 := Tryz.underlying38
 have hu42 := Tryz.underlying41
 have H0 := Aside0.mk (Two.start w 45 #[.int .i64 t.kind, .string t.r.f0, .int .i64 t.r.f1.f0, .int .i64 t.r.f1.f1, .string t.r.f1.f2, .slice a1 t.r.f1.f3.length c1, .slice a2 t.r.f2.length c2, .int .i64 t.sn, .slice a3 t.sc.length c3, .int .i64 t.g.id, .int .i64 t.g.task, .int .i64 t.g.base, .int .u32 t.g.sum, .int .i64 t.g.snum, .slice a4 t.g.cells.length c4, .int .i64 t.g.dnum, .slice a5 t.g.set.length c5, .slice a6 t.g.gone.length c6, .slice a7 t.g.logs.length c7, .slice a8 t.g.pend.length c8, .int .i64 t.mi, .int .u32 t.ms, .slice a9 t.mr.length c9, .int .i64 t.oa, .string t.ox.f0, .int .i64 t.ox.f1.f0, .int .i64 t.ox.f1.f1, .string t.ox.f1.f2, .slice a10 t.ox.f1.f3.length c10, .slice a11 t.ox.f2.length c11] #[.int .i64 u.kind, .string u.r.f0, .int .i64 u.r.f1.f0, .int .i64 u.r.f1.f1, .string u.r.f1.f2, .slice p1 u.r.f1.f3.length q1, .slice p2 u.r.f2.length q2, .int .i64 u.sn, .slice p3 u.sc.length q3, .int .i64 u.g.id, .int .i64 u.g.task, .int .i64 u.g.base, .int .u32 u.g.sum, .int .i64 u.g.snum, .slice p4 u.g.cells.length q4, .int .i64 u.g.dnum, .slice p5 u.g.set.length q5, .slice p6 u.g.gone.length q6, .slice p7 u.g.logs.length q7, .slice p8 u.g.pend.length q8, .int .i64 u.mi, .int .u32 u.ms, .slice p9 u.mr.length q9, .int .i64 u.oa, .string u.ox.f0, .int .i64 u.ox.f1.f0, .int .i64 u.ox.f1.f1, .string u.ox.f1.f2, .slice p10 u.ox.f1.f3.length q10, .slice p11 u.ox.f2.length q11])
 have HB := Aside0.mk (below_two w (.cells #[.int .i64 t.kind, .string t.r.f0, .int .i64 t.r.f1.f0, .int .i64 t.r.f1.f1, .string t.r.f1.f2, .slice a1 t.r.f1.f3.length c1, .slice a2 t.r.f2.length c2, .int .i64 t.sn, .slice a3 t.sc.length c3, .int .i64 t.g.id, .int .i64 t.g.task, .int .i64 t.g.base, .int .u32 t.g.sum, .int .i64 t.g.snum, .slice a4 t.g.cells.length c4, .int .i64 t.g.dnum, .slice a5 t.g.set.length c5, .slice a6 t.g.gone.length c6, .slice a7 t.g.logs.length c7, .slice a8 t.g.pend.length c8, .int .i64 t.mi, .int .u32 t.ms, .slice a9 t.mr.length c9, .int .i64 t.oa, .string t.ox.f0, .int .i64 t.ox.f1.f0, .int .i64 t.ox.f1.f1, .string t.ox.f1.f2, .slice a10 t.ox.f1.f3.length c10, .slice a11 t.ox.f2.length c11] 45) (.cells #[.int .i64 u.kind, .string u.r.f0, .int .i64 u.r.f1.f0, .int .i64 u.r.f1.f1, .string u.r.f1.f2, .slice p1 u.r.f1.f3.length q1, .slice p2 u.r.f2.length q2, .int .i64 u.sn, .slice p3 u.sc.length q3, .int .i64 u.g.id, .int .i64 u.g.task, .int .i64 u.g.base, .int .u32 u.g.sum, .int .i64 u.g.snum, .slice p4 u.g.cells.length q4, .int .i64 u.g.dnum, .slice p5 u.g.set.length q5, .slice p6 u.g.gone.length q6, .slice p7 u.g.logs.length q7, .slice p8 u.g.pend.length q8, .int .i64 u.mi, .int .u32 u.ms, .slice p9 u.mr.length q9, .int .i64 u.oa, .string u.ox.f0, .int .i64 u.ox.f1.f0, .int .i64 u.ox.f1.f1, .string u.ox.f1.f2, .slice p10 u.ox.f1.f3.length q10, .slice p11 u.ox.f2.length q11] 45))
 go_enter Tryz.func12, Tryz.ntmps12
 go_upto_region 1 with fail
 generalize (w.alloc (.cells #[.int .i64 t.kind, .string t.r.f0, .int .i64 t.r.f1.f0, .int .i64 t.r.f1.f1, .string t.r.f1.f2, .slice a1 t.r.f1.f3.length c1, .slice a2 t.r.f2.length c2, .int .i64 t.sn, .slice a3 t.sc.length c3, .int .i64 t.g.id, .int .i64 t.g.task, .int .i64 t.g.base, .int .u32 t.g.sum, .int .i64 t.g.snum, .slice a4 t.g.cells.length c4, .int .i64 t.g.dnum, .slice a5 t.g.set.length c5, .slice a6 t.g.gone.length c6, .slice a7 t.g.logs.length c7, .slice a8 t.g.pend.length c8, .int .i64 t.mi, .int .u32 t.ms, .slice a9 t.mr.length c9, .int .i64 t.oa, .string t.ox.f0, .int .i64 t.ox.f1.f0, .int .i64 t.ox.f1.f1, .string t.ox.f1.f2, .slice a10 t.ox.f1.f3.length c10, .slice a11 t.ox.f2.length c11] 45)).alloc (.cells #[.int .i64 u.kind, .string u.r.f0, .int .i64 u.r.f1.f0, .int .i64 u.r.f1.f1, .string u.r.f1.f2, .slice p1 u.r.f1.f3.length q1, .slice p2 u.r.f2.length q2, .int .i64 u.sn, .slice p3 u.sc.length q3, .int .i64 u.g.id, .int .i64 u.g.task, .int .i64 u.g.base, .int .u32 u.g.sum, .int .i64 u.g.snum, .slice p4 u.g.cells.length q4, .int .i64 u.g.dnum, .slice p5 u.g.set.length q5, .slice p6 u.g.gone.length q6, .slice p7 u.g.logs.length q7, .slice p8 u.g.pend.length q8, .int .i64 u.mi, .int .u32 u.ms, .slice p9 u.mr.length q9, .int .i64 u.oa, .string u.ox.f0, .int .i64 u.ox.f1.f0, .int .i64 u.ox.f1.f1, .string u.ox.f1.f2, .slice p10 u.ox.f1.f3.length q10, .slice p11 u.ox.f2.length q11] 45) = wa at *
 have x7 := blk_cell H0.out.1 7
 have x8 := blk_cell H0.out.1 8
 have fx7 := blk_frozen H0.out.1 7
 have fx8 := blk_frozen H0.out.1 8
 simp only [List.getElem?_toArray, List.getElem?_cons_succ, List.getElem?_cons_zero] at x7 x8
 have y7 := blk_cell H0.out.2 7
 have y8 := blk_cell H0.out.2 8
 have fy7 := blk_frozen H0.out.2 7
 have fy8 := blk_frozen H0.out.2 8
 simp only [List.getElem?_toArray, List.getElem?_cons_succ, List.getElem?_cons_zero] at y7 y8
 go_cut [5] from 7 to 22 (fun v w' => (∃ b1 : Bool, v = .bool b1 ∧ (b1 = true ↔ t.sn = u.sn ∧ t.sc = u.sc)) ∧ Below wa.heap.size wa w')
 case first =>
  cases h : t.sn == u.sn with
  | false =>
   go_wp2_with fail
   go_meet
   case rel => exact ⟨⟨false, rfl, by have := beq_eq_false_iff_ne.1 h; simp [this]⟩, Below.refl _ _⟩
  | true =>
   have HE := Aside0.mk (eq_of_beq h)
   go_wp2_with fail
   refine (sameCells_calls t.sc u.sc _ w.heap.size a3 c3 p3 q3 (In.ofC HI.out.i3 HB.out (Nat.le_refl _)) (In.ofC HJ.out.i3 HB.out (Nat.le_refl _)) HB.out.size).mono ?_
   rintro e w3 ⟨r3, rfl, h1, h2⟩
   have R3 := Aside0.mk h1
   have B3 := Aside0.mk h2
   clear h1 h2
   go_wp2_with fail
   go_meet
   case rel => exact ⟨⟨r3, rfl, R3.out.trans ⟨fun h => ⟨HE.out, h⟩, fun h => h.2⟩⟩, B3.out⟩
 case rest =>
  clear x7 y7 fx7 fy7 x8 y8 fx8 fy8
  obtain ⟨⟨b1, rfl, k1⟩, k2⟩ := hcut
  have K1 := Aside0.mk k1
  have H1 := Aside0.mk (H0.out.next k2)
  have HB1 := Aside0.mk (HB.out.trans (k2.mono HB.out.size))
  clear k1 k2
  generalize wc = wb at *
  go_upto_region 2 with fail
  have x23 := blk_cell H1.out.1 23
  have x24 := blk_cell H1.out.1 24
  have x25 := blk_cell H1.out.1 25
  have x26 := blk_cell H1.out.1 26
  have x27 := blk_cell H1.out.1 27
  have x28 := blk_cell H1.out.1 28
  have x29 := blk_cell H1.out.1 29
  have fx23 := blk_frozen H1.out.1 23
  have fx24 := blk_frozen H1.out.1 24
  have fx25 := blk_frozen H1.out.1 25
  have fx26 := blk_frozen H1.out.1 26
  have fx27 := blk_frozen H1.out.1 27
  have fx28 := blk_frozen H1.out.1 28
  have fx29 := blk_frozen H1.out.1 29
  simp only [List.getElem?_toArray, List.getElem?_cons_succ, List.getElem?_cons_zero] at x23 x24 x25 x26 x27 x28 x29
  have y23 := blk_cell H1.out.2 23
  have y24 := blk_cell H1.out.2 24
  have y25 := blk_cell H1.out.2 25
  have y26 := blk_cell H1.out.2 26
  have y27 := blk_cell H1.out.2 27
  have y28 := blk_cell H1.out.2 28
  have y29 := blk_cell H1.out.2 29
  have fy23 := blk_frozen H1.out.2 23
  have fy24 := blk_frozen H1.out.2 24
  have fy25 := blk_frozen H1.out.2 25
  have fy26 := blk_frozen H1.out.2 26
  have fy27 := blk_frozen H1.out.2 27
  have fy28 := blk_frozen H1.out.2 28
  have fy29 := blk_frozen H1.out.2 29
  simp only [List.getElem?_toArray, List.getElem?_cons_succ, List.getElem?_cons_zero] at y23 y24 y25 y26 y27 y28 y29
  go_cut [6] from 23 to 38 (fun v w' => (∃ b2 : Bool, v = .bool b2 ∧ (b2 = true ↔ t.oa = u.oa ∧ t.ox = u.ox)) ∧ Below wb.heap.size wb w')
  case first =>
   cases h : t.oa == u.oa with
   | false =>
    go_wp2_with fail
    go_meet
    case rel => exact ⟨⟨false, rfl, by have := beq_eq_false_iff_ne.1 h; simp [this]⟩, Below.refl _ _⟩
   | true =>
    have HE := Aside0.mk (eq_of_beq h)
    go_wp2_with fail
    refine (sameRecord_calls t.ox u.ox _ w.heap.size a10 c10 a11 c11 p10 q10 p11 q11 (In.ofC HI.out.i10 HB1.out (Nat.le_refl _)) (In.ofC HI.out.i11 HB1.out (Nat.le_refl _)) (In.ofC HJ.out.i10 HB1.out (Nat.le_refl _)) (In.ofC HJ.out.i11 HB1.out (Nat.le_refl _)) HB1.out.size HI.out.l10 HI.out.l11 HJ.out.l10 HJ.out.l11).mono ?_
    rintro e w4 ⟨r4, rfl, h1, h2⟩
    have R4 := Aside0.mk h1
    have B4 := Aside0.mk h2
    clear h1 h2
    go_wp2_with fail
    go_meet
    case rel => exact ⟨⟨r4, rfl, R4.out.trans ⟨fun h => ⟨HE.out, h⟩, fun h => h.2⟩⟩, B4.out⟩
  case rest =>
   clear x23 y23 fx23 fy23 x24 y24 fx24 fy24 x25 y25 fx25 fy25 x26 y26 fx26 fy26 x27 y27 fx27 fy27 x28 y28 fx28 fy28 x29 y29 fx29 fy29
   obtain ⟨⟨b2, rfl, k1⟩, k2⟩ := hcut
   have K2 := Aside0.mk k1
   have H2 := Aside0.mk (H1.out.next k2)
   have HB2 := Aside0.mk (HB1.out.trans (k2.mono HB1.out.size))
   clear k1 k2
   generalize wc = wd at *
   have x1 := blk_cell H2.out.1 1
   have x2 := blk_cell H2.out.1 2
   have x3 := blk_cell H2.out.1 3
   have x4 := blk_cell H2.out.1 4
   have x5 := blk_cell H2.out.1 5
   have x6 := blk_cell H2.out.1 6
   have fx1 := blk_frozen H2.out.1 1
   have fx2 := blk_frozen H2.out.1 2
   have fx3 := blk_frozen H2.out.1 3
   have fx4 := blk_frozen H2.out.1 4
   have fx5 := blk_frozen H2.out.1 5
   have fx6 := blk_frozen H2.out.1 6
   simp only [List.getElem?_toArray, List.getElem?_cons_succ, List.getElem?_cons_zero] at x1 x2 x3 x4 x5 x6
   have y1 := blk_cell H2.out.2 1
   have y2 := blk_cell H2.out.2 2
   have y3 := blk_cell H2.out.2 3
   have y4 := blk_cell H2.out.2 4
   have y5 := blk_cell H2.out.2 5
   have y6 := blk_cell H2.out.2 6
   have fy1 := blk_frozen H2.out.2 1
   have fy2 := blk_frozen H2.out.2 2
   have fy3 := blk_frozen H2.out.2 3
   have fy4 := blk_frozen H2.out.2 4
   have fy5 := blk_frozen H2.out.2 5
   have fy6 := blk_frozen H2.out.2 6
   simp only [List.getElem?_toArray, List.getElem?_cons_succ, List.getElem?_cons_zero] at y1 y2 y3 y4 y5 y6
   go_wp2_with fail
   refine (sameRecord_calls t.r u.r _ w.heap.size a1 c1 a2 c2 p1 q1 p2 q2 (In.ofC HI.out.i1 HB2.out (Nat.le_refl _)) (In.ofC HI.out.i2 HB2.out (Nat.le_refl _)) (In.ofC HJ.out.i1 HB2.out (Nat.le_refl _)) (In.ofC HJ.out.i2 HB2.out (Nat.le_refl _)) HB2.out.size HI.out.l1 HI.out.l2 HJ.out.l1 HJ.out.l2).mono ?_
   rintro e w5 ⟨r5, rfl, h1, h2⟩
   have R5 := Aside0.mk h1
   have B5 := Aside0.mk h2
   clear h1 h2
   clear x1 y1 fx1 fy1 x2 y2 fx2 fy2 x3 y3 fx3 fy3 x4 y4 fx4 fy4 x5 y5 fx5 fy5 x6 y6 fx6 fy6
   have H3 := Aside0.mk (H2.out.next B5.out)
   have HB3 := Aside0.mk (HB2.out.trans (B5.out.mono HB2.out.size))
   cases r5
   case false =>
    go_wp2
    go_ret
    exact Tells.no (fun h => by have := R5.out.2 h.r; cases this) HB3.out
   cases b1
   case false =>
    go_wp2
    go_ret
    exact Tells.no (fun h => by have := K1.out.2 h.s; cases this) HB3.out
   cases b2
   case false =>
    go_wp2
    go_ret
    exact Tells.no (fun h => by have := K2.out.2 h.o; cases this) HB3.out
   have x9 := blk_cell H3.out.1 9
   have x10 := blk_cell H3.out.1 10
   have x11 := blk_cell H3.out.1 11
   have x12 := blk_cell H3.out.1 12
   have x13 := blk_cell H3.out.1 13
   have x14 := blk_cell H3.out.1 14
   have x15 := blk_cell H3.out.1 15
   have x16 := blk_cell H3.out.1 16
   have x17 := blk_cell H3.out.1 17
   have x18 := blk_cell H3.out.1 18
   have x19 := blk_cell H3.out.1 19
   have fx9 := blk_frozen H3.out.1 9
   have fx10 := blk_frozen H3.out.1 10
   have fx11 := blk_frozen H3.out.1 11
   have fx12 := blk_frozen H3.out.1 12
   have fx13 := blk_frozen H3.out.1 13
   have fx14 := blk_frozen H3.out.1 14
   have fx15 := blk_frozen H3.out.1 15
   have fx16 := blk_frozen H3.out.1 16
   have fx17 := blk_frozen H3.out.1 17
   have fx18 := blk_frozen H3.out.1 18
   have fx19 := blk_frozen H3.out.1 19
   simp only [List.getElem?_toArray, List.getElem?_cons_succ, List.getElem?_cons_zero] at x9 x10 x11 x12 x13 x14 x15 x16 x17 x18 x19
   have y9 := blk_cell H3.out.2 9
   have y10 := blk_cell H3.out.2 10
   have y11 := blk_cell H3.out.2 11
   have y12 := blk_cell H3.out.2 12
   have y13 := blk_cell H3.out.2 13
   have y14 := blk_cell H3.out.2 14
   have y15 := blk_cell H3.out.2 15
   have y16 := blk_cell H3.out.2 16
   have y17 := blk_cell H3.out.2 17
   have y18 := blk_cell H3.out.2 18
   have y19 := blk_cell H3.out.2 19
   have fy9 := blk_frozen H3.out.2 9
   have fy10 := blk_frozen H3.out.2 10
   have fy11 := blk_frozen H3.out.2 11
   have fy12 := blk_frozen H3.out.2 12
   have fy13 := blk_frozen H3.out.2 13
   have fy14 := blk_frozen H3.out.2 14
   have fy15 := blk_frozen H3.out.2 15
   have fy16 := blk_frozen H3.out.2 16
   have fy17 := blk_frozen H3.out.2 17
   have fy18 := blk_frozen H3.out.2 18
   have fy19 := blk_frozen H3.out.2 19
   simp only [List.getElem?_toArray, List.getElem?_cons_succ, List.getElem?_cons_zero] at y9 y10 y11 y12 y13 y14 y15 y16 y17 y18 y19
   go_wp2_with fail
   refine (sameSegment_calls t.g u.g _ w.heap.size a4 c4 p4 q4 a5 c5 p5 q5 a6 c6 p6 q6 a7 c7 p7 q7 a8 c8 p8 q8 (In.ofC HI.out.i4 HB3.out (Nat.le_refl _)) (In.ofC HJ.out.i4 HB3.out (Nat.le_refl _)) (In.ofC HI.out.i5 HB3.out (Nat.le_refl _)) (In.ofC HJ.out.i5 HB3.out (Nat.le_refl _)) (In.ofC HI.out.i6 HB3.out (Nat.le_refl _)) (In.ofC HJ.out.i6 HB3.out (Nat.le_refl _)) (In.ofC HI.out.i7 HB3.out (Nat.le_refl _)) (In.ofC HJ.out.i7 HB3.out (Nat.le_refl _)) (In.ofC HI.out.i8 HB3.out (Nat.le_refl _)) (In.ofC HJ.out.i8 HB3.out (Nat.le_refl _)) HB3.out.size).mono ?_
   rintro e w6 ⟨r6, rfl, h1, h2⟩
   have R6 := Aside0.mk h1
   have B6 := Aside0.mk h2
   clear h1 h2
   clear x9 y9 fx9 fy9 x10 y10 fx10 fy10 x11 y11 fx11 fy11 x12 y12 fx12 fy12 x13 y13 fx13 fy13 x14 y14 fx14 fy14 x15 y15 fx15 fy15 x16 y16 fx16 fy16 x17 y17 fx17 fy17 x18 y18 fx18 fy18 x19 y19 fx19 fy19
   have H4 := Aside0.mk (H3.out.next B6.out)
   have HB4 := Aside0.mk (HB3.out.trans (B6.out.mono HB3.out.size))
   cases r6
   case false =>
    go_wp2
    go_ret
    exact Tells.no (fun h => by have := R6.out.2 h.g; cases this) HB4.out
   have x20 := blk_cell H4.out.1 20
   have x21 := blk_cell H4.out.1 21
   have x22 := blk_cell H4.out.1 22
   have fx20 := blk_frozen H4.out.1 20
   have fx21 := blk_frozen H4.out.1 21
   have fx22 := blk_frozen H4.out.1 22
   simp only [List.getElem?_toArray, List.getElem?_cons_succ, List.getElem?_cons_zero] at x20 x21 x22
   have y20 := blk_cell H4.out.2 20
   have y21 := blk_cell H4.out.2 21
   have y22 := blk_cell H4.out.2 22
   have fy20 := blk_frozen H4.out.2 20
   have fy21 := blk_frozen H4.out.2 21
   have fy22 := blk_frozen H4.out.2 22
   simp only [List.getElem?_toArray, List.getElem?_cons_succ, List.getElem?_cons_zero] at y20 y21 y22
   go_wp2_with fail
   refine (sameManifest_calls t.mi u.mi t.ms u.ms t.mr u.mr _ w.heap.size a9 c9 p9 q9 (In.ofC HI.out.i9 HB4.out (Nat.le_refl _)) (In.ofC HJ.out.i9 HB4.out (Nat.le_refl _)) HB4.out.size).mono ?_
   rintro e w7 ⟨r7, rfl, h1, h2⟩
   have R7 := Aside0.mk h1
   have B7 := Aside0.mk h2
   clear h1 h2
   have HB5 := Aside0.mk (HB4.out.trans (B7.out.mono HB4.out.size))
   go_wp2
   go_ret
   exact ⟨r7, rfl, R7.out.trans ⟨fun h => ⟨R5.out.1 (by trivial), K1.out.1 (by trivial), R6.out.1 (by trivial), h, K2.out.1 (by trivial)⟩, fun h => h.m⟩, HB5.out⟩
end Go.Proofs.YthmkioodkldgbaaGreat.DK
/- eddylaw4.WireOne walked; conditions: those in the theorem. -/
namespace Go.Proofs.YthmkioodkldgbaaGreat.DK
open Go.Proofs.YthmkioodkldgbaaGreat.PD
open Go.RowKit Go.Proofs.YthmkioodkldgbaaGreatW.PrintWords Go.Proofs.YthmkioodkldgbaaGreatW.PrintLast Go.Proofs.YthmkioodkldgbaaGreatW.PrintMore
set_option linter.unusedVariables false
set_option linter.unusedSimpArgs false
set_option maxRecDepth 100000
theorem zT_in (w : World) (k : Int) : ThIn w (zT k) none none none none none none none none none none none 0 0 0 0 0 0 0 0 0 0 0 :=
 ⟨Kd.C_nil _ _, Kd.C_nil _ _, Kd.C_nil _ _, Kd.C_nil _ _, Kd.C_nil _ _, Kd.C_nil _ _, Kd.C_nil _ _, Kd.C_nil _ _, Kd.C_nil _ _, Kd.C_nil _ _, Kd.C_nil _ _, Nat.le_refl _, Nat.le_refl _, Nat.le_refl _, Nat.le_refl _, Nat.le_refl _, Nat.le_refl _, Nat.le_refl _, Nat.le_refl _, Nat.le_refl _, Nat.le_refl _, Nat.le_refl _⟩
theorem zT_eq (k m : Int) : ThgEq (zT k) (zT m) := ⟨rfl, ⟨rfl, rfl⟩, rfl, ⟨rfl, rfl, rfl⟩, ⟨rfl, rfl⟩⟩
end Go.Proofs.YthmkioodkldgbaaGreat.DK
