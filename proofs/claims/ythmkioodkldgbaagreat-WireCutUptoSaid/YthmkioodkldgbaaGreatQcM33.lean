/- eddylaw4.inside, small, WirePuts; conditions: those in each theorem. -/
import Derived.Test.YthmkioodkldgbaaGreatQcM15
namespace Go.Proofs.YthmkioodkldgbaaGreat.DK
open Go.Proofs.YthmkioodkldgbaaGreat.PD
open Go.RowKit Go.Proofs.YthmkioodkldgbaaGreatW.PrintWords Go.Proofs.YthmkioodkldgbaaGreatW.PrintLast Go.Proofs.YthmkioodkldgbaaGreatW.PrintMore
set_option linter.unusedVariables false
set_option linter.unusedSimpArgs false
set_option maxRecDepth 100000
def SomeB (w : World) (e : Ending) (w' : World) : Prop := ∃ b : Bool, e = .returned (.bool b) ∧ Below w.heap.size w w'
theorem SomeB.mk {w w' : World} {e : Ending} (b : Bool) (h : e = .returned (.bool b)) (hb : Below w.heap.size w w') : SomeB w e w' := ⟨b, h, hb⟩
theorem wpList_load_row_g {P : Program} {ops : Array Oper} {rest : List Oper} {o : Oper} {a : Act} {w : World} {Q : Exit → Act → World → Prop} (hgd : Region.wanted o (yielded ops a.tmps) = true) (ty : TypeId) (x : Operand) (ho : o.op = .load ty x)
  (g : Nat) (hx : a.eval x = .pointer (some ⟨g, 0, none⟩)) (t : TypeId) (cs : Array Value) (fr : Nat × Nat) (d : TypeDesc) (hg : w.heap[g]? = some (.cells cs t fr))
  (hu : P.underlying ty = some d) (hd : (match d with | .struct _ | .array _ _ => true | _ => false) = true) (hi : (P.info? ty).map (·.size) = some cs.size)
  (h : wpList P ops Q rest (a.put o.dst (.agg cs)) w) : wpList P ops Q (o :: rest) a w := by
 rw [wpList, if_pos hgd]; exact .inl (wp_load_row ty x ho g hx t cs fr d hg hu hd hi h)
set_option maxHeartbeats 16000000 in
theorem inside_calls (w : World) (t : Thg) (a1 a2 a3 a4 a5 a6 a7 a8 a9 a10 a11 : Option Addr) (c1 c2 c3 c4 c5 c6 c7 c8 c9 c10 c11 : Nat) (hi : ThIn w t a1 a2 a3 a4 a5 a6 a7 a8 a9 a10 a11 c1 c2 c3 c4 c5 c6 c7 c8 c9 c10 c11) : Calls Tryz.prog 19 #[.agg #[.int .i64 t.kind, .string t.r.f0, .int .i64 t.r.f1.f0, .int .i64 t.r.f1.f1, .string t.r.f1.f2, .slice a1 t.r.f1.f3.length c1, .slice a2 t.r.f2.length c2, .int .i64 t.sn, .slice a3 t.sc.length c3, .int .i64 t.g.id, .int .i64 t.g.task, .int .i64 t.g.base, .int .u32 t.g.sum, .int .i64 t.g.snum, .slice a4 t.g.cells.length c4, .int .i64 t.g.dnum, .slice a5 t.g.set.length c5, .slice a6 t.g.gone.length c6, .slice a7 t.g.logs.length c7, .slice a8 t.g.pend.length c8, .int .i64 t.mi, .int .u32 t.ms, .slice a9 t.mr.length c9, .int .i64 t.oa, .string t.ox.f0, .int .i64 t.ox.f1.f0, .int .i64 t.ox.f1.f1, .string t.ox.f1.f2, .slice a10 t.ox.f1.f3.length c10, .slice a11 t.ox.f2.length c11]] w (SomeB w) := by
 have HI := Aside0.mk hi
 have hl6 : t.g.gone.length ≤ 9223372036854775807 := hi.i6.2.1
 clear hi
 unfold SomeB
 go_enter Tryz.func19, Tryz.ntmps19
 go_wp2_with fail
 refine (eddysize_New.calls _ w _ ?hd rfl).mono ?_
 case hd => repeat (with_reducible first | exact Below.refl _ _ | apply below_drew | apply pw_below_drewN | apply below_alloc)
 rintro e w1 ⟨g, rfl, hI, hB, hB2⟩
 have hx0 := (hB2.block w.heap.size (by simp)).trans (heap_alloc_new w (.cells #[.int .i64 t.kind, .string t.r.f0, .int .i64 t.r.f1.f0, .int .i64 t.r.f1.f1, .string t.r.f1.f2, .slice a1 t.r.f1.f3.length c1, .slice a2 t.r.f2.length c2, .int .i64 t.sn, .slice a3 t.sc.length c3, .int .i64 t.g.id, .int .i64 t.g.task, .int .i64 t.g.base, .int .u32 t.g.sum, .int .i64 t.g.snum, .slice a4 t.g.cells.length c4, .int .i64 t.g.dnum, .slice a5 t.g.set.length c5, .slice a6 t.g.gone.length c6, .slice a7 t.g.logs.length c7, .slice a8 t.g.pend.length c8, .int .i64 t.mi, .int .u32 t.ms, .slice a9 t.mr.length c9, .int .i64 t.oa, .string t.ox.f0, .int .i64 t.ox.f1.f0, .int .i64 t.ox.f1.f1, .string t.ox.f1.f2, .slice a10 t.ox.f1.f3.length c10, .slice a11 t.ox.f2.length c11] 45))
 have hne : w.heap.size ≠ g := fun e => by have h1 := hI.1; rw [← e, hx0] at h1; injection h1 with h1; injection h1 with _ h1; cases h1
 have H0 := Aside0.mk (show Cnt w g w1 from ⟨_, hI, hB⟩)
 have X0 := Aside0.mk hx0
 have hgl := blk_lt hx0
 clear hI hB hB2 hx0
 have x0_1 := blk_cell X0.out 1
 have x0_2 := blk_cell X0.out 2
 have x0_3 := blk_cell X0.out 3
 have x0_4 := blk_cell X0.out 4
 have x0_5 := blk_cell X0.out 5
 have x0_6 := blk_cell X0.out 6
 simp only [List.getElem?_toArray, List.getElem?_cons_succ, List.getElem?_cons_zero] at x0_1 x0_2 x0_3 x0_4 x0_5 x0_6
 go_wp2_with fail
 refine (rec_cnt w _ g (H0.out.step ?hd) t.r a1 c1 a2 c2 HI.out.i1 HI.out.l1 HI.out.i2 HI.out.l2).mono ?_
 case hd => repeat (with_reducible first | exact Below.refl _ _ | apply below_drew | apply pw_below_drewN | apply below_alloc)
 rintro e w2 ⟨rfl, h1, k1⟩
 have H1 := Aside0.mk h1
 have X1 := Aside0.mk (KeepBut.blk (row := none) (w := w1) (g := g) (by first | exact k1 | exact keep_tr (keep_bel (by repeat (with_reducible first | exact Below.refl _ _ | apply below_drew | apply pw_below_drewN | apply below_alloc))) k1) X0.out hne (by simp))
 clear h1 k1 x0_1 x0_2 x0_3 x0_4 x0_5 x0_6
 have x1_8 := blk_cell X1.out 8
 simp only [List.getElem?_toArray, List.getElem?_cons_succ, List.getElem?_cons_zero] at x1_8
 go_wp2_with fail
 refine (cells_cnt w _ g (H1.out.step ?hd) t.sc a3 c3 HI.out.i3 HI.out.l3).mono ?_
 case hd => repeat (with_reducible first | exact Below.refl _ _ | apply below_drew | apply pw_below_drewN | apply below_alloc)
 rintro e w3 ⟨rfl, h1, k1⟩
 have H2 := Aside0.mk h1
 have X2 := Aside0.mk (KeepBut.blk (row := none) (w := w2) (g := g) (by first | exact k1 | exact keep_tr (keep_bel (by repeat (with_reducible first | exact Below.refl _ _ | apply below_drew | apply pw_below_drewN | apply below_alloc))) k1) X1.out hne (by simp))
 clear h1 k1 x1_8
 have x2_13 := blk_cell X2.out 13
 have x2_14 := blk_cell X2.out 14
 have x2_18 := blk_cell X2.out 18
 have x2_19 := blk_cell X2.out 19
 simp only [List.getElem?_toArray, List.getElem?_cons_succ, List.getElem?_cons_zero] at x2_13 x2_14 x2_18 x2_19
 go_wp2_with fail
 refine (part_cnt w _ g (H2.out.step ?hd) t.g.snum t.g.cells t.g.logs t.g.pend a4 a7 a8 c4 c7 c8 HI.out.i4 HI.out.l4 HI.out.i7 HI.out.l7 HI.out.i8 HI.out.l8).mono ?_
 case hd => repeat (with_reducible first | exact Below.refl _ _ | apply below_drew | apply pw_below_drewN | apply below_alloc)
 rintro e w4 ⟨rfl, h1, k1⟩
 have H3 := Aside0.mk h1
 have X3 := Aside0.mk (KeepBut.blk (row := none) (w := w3) (g := g) (by first | exact k1 | exact keep_tr (keep_bel (by repeat (with_reducible first | exact Below.refl _ _ | apply below_drew | apply pw_below_drewN | apply below_alloc))) k1) X2.out hne (by simp))
 clear h1 k1 x2_13 x2_14 x2_18 x2_19
 have x3_15 := blk_cell X3.out 15
 have x3_16 := blk_cell X3.out 16
 have x3_17 := blk_cell X3.out 17
 simp only [List.getElem?_toArray, List.getElem?_cons_succ, List.getElem?_cons_zero] at x3_15 x3_16 x3_17
 go_wp2_with fail
 refine (delta_cnt w _ g (H3.out.step ?hd) t.g.dnum t.g.set t.g.gone a5 a6 c5 c6 HI.out.i5 HI.out.l5 hl6).mono ?_
 case hd => repeat (with_reducible first | exact Below.refl _ _ | apply below_drew | apply pw_below_drewN | apply below_alloc)
 rintro e w5 ⟨rfl, h1, k1⟩
 have H4 := Aside0.mk h1
 have X4 := Aside0.mk (KeepBut.blk (row := none) (w := w4) (g := g) (by first | exact k1 | exact keep_tr (keep_bel (by repeat (with_reducible first | exact Below.refl _ _ | apply below_drew | apply pw_below_drewN | apply below_alloc))) k1) X3.out hne (by simp))
 clear h1 k1 x3_15 x3_16 x3_17
 have x4_24 := blk_cell X4.out 24
 have x4_25 := blk_cell X4.out 25
 have x4_26 := blk_cell X4.out 26
 have x4_27 := blk_cell X4.out 27
 have x4_28 := blk_cell X4.out 28
 have x4_29 := blk_cell X4.out 29
 simp only [List.getElem?_toArray, List.getElem?_cons_succ, List.getElem?_cons_zero] at x4_24 x4_25 x4_26 x4_27 x4_28 x4_29
 go_wp2_with fail
 refine (rec_cnt w _ g (H4.out.step ?hd) t.ox a10 c10 a11 c11 HI.out.i10 HI.out.l10 HI.out.i11 HI.out.l11).mono ?_
 case hd => repeat (with_reducible first | exact Below.refl _ _ | apply below_drew | apply pw_below_drewN | apply below_alloc)
 rintro e w6 ⟨rfl, h1, k1⟩
 have H5 := Aside0.mk h1
 have X5 := Aside0.mk (KeepBut.blk (row := none) (w := w5) (g := g) (by first | exact k1 | exact keep_tr (keep_bel (by repeat (with_reducible first | exact Below.refl _ _ | apply below_drew | apply pw_below_drewN | apply below_alloc))) k1) X4.out hne (by simp))
 clear h1 k1 x4_24 x4_25 x4_26 x4_27 x4_28 x4_29
 obtain ⟨qq, hI, hB⟩ := H5.out
 have HI2 := Aside0.mk hI
 have HB2 := Aside0.mk hB
 clear hI hB
 go_wp2_with fail
 refine (eddysize_Count_Ok.calls g qq _ _ w _ ?hi ?hb rfl).mono ?_
 case hi => repeat (first | exact HI2.out | apply IsS170.alloc | apply IsS170.drewN | apply IsS170.drew)
 case hb => repeat (with_reducible first | exact HB2.out | apply below_alloc | apply pw_below_drewN | apply below_drew1)
 rintro e w9 ⟨rfl, -, hB3, -⟩
 have HB3 := Aside0.mk hB3
 clear hB3
 go_wp2
 go_ret
 exact ⟨_, rfl, HB3.out⟩
def SmE (w : World) (cs : Array Value) (m : Nat) (nv iv : Value) (wr : World) : Prop := ∃ (i : Nat) (n : Int), iv = .int .i64 i ∧ nv = .int .i64 n ∧ i ≤ m ∧ wr.heap[w.heap.size]? = some (.cells cs 45 (0, 0)) ∧ Below w.heap.size w wr
set_option maxHeartbeats 16000000 in
theorem small_calls (w : World) (t : Thg) (a1 a2 a3 a4 a5 a6 a7 a8 a9 a10 a11 : Option Addr) (c1 c2 c3 c4 c5 c6 c7 c8 c9 c10 c11 : Nat) (hi : ThIn w t a1 a2 a3 a4 a5 a6 a7 a8 a9 a10 a11 c1 c2 c3 c4 c5 c6 c7 c8 c9 c10 c11) : Calls Tryz.prog 8 #[.agg #[.int .i64 t.kind, .string t.r.f0, .int .i64 t.r.f1.f0, .int .i64 t.r.f1.f1, .string t.r.f1.f2, .slice a1 t.r.f1.f3.length c1, .slice a2 t.r.f2.length c2, .int .i64 t.sn, .slice a3 t.sc.length c3, .int .i64 t.g.id, .int .i64 t.g.task, .int .i64 t.g.base, .int .u32 t.g.sum, .int .i64 t.g.snum, .slice a4 t.g.cells.length c4, .int .i64 t.g.dnum, .slice a5 t.g.set.length c5, .slice a6 t.g.gone.length c6, .slice a7 t.g.logs.length c7, .slice a8 t.g.pend.length c8, .int .i64 t.mi, .int .u32 t.ms, .slice a9 t.mr.length c9, .int .i64 t.oa, .string t.ox.f0, .int .i64 t.ox.f1.f0, .int .i64 t.ox.f1.f1, .string t.ox.f1.f2, .slice a10 t.ox.f1.f3.length c10, .slice a11 t.ox.f2.length c11]] w (SomeB w) := by
 have HI := Aside0.mk hi
 have HJ := Aside0.mk (fun (W : World) (hb : Below w.heap.size w W) => inside_calls W t a1 a2 a3 a4 a5 a6 a7 a8 a9 a10 a11 c1 c2 c3 c4 c5 c6 c7 c8 c9 c10 c11 (hi.below hb))
 have hz3 : t.sc.length ≤ 9223372036854775807 := hi.i3.2.1
 have hz4 : t.g.cells.length ≤ 9223372036854775807 := hi.i4.2.1
 have hz5 : t.g.set.length ≤ 9223372036854775807 := hi.i5.2.1
 have hz6 : t.g.gone.length ≤ 9223372036854775807 := hi.i6.2.1
 have hz7 : t.g.logs.length ≤ 9223372036854775807 := hi.i7.2.1
 have hz8 : t.g.pend.length ≤ 9223372036854775807 := hi.i8.2.1
 have hz9 : t.mr.length ≤ 9223372036854775807 := hi.i9.2.1
 clear hi
 go_enter Tryz.func8, Tryz.ntmps8
 go_wp2
 go_loopw [3, 4] (fun nv iv wr => SmE w #[.int .i64 t.kind, .string t.r.f0, .int .i64 t.r.f1.f0, .int .i64 t.r.f1.f1, .string t.r.f1.f2, .slice a1 t.r.f1.f3.length c1, .slice a2 t.r.f2.length c2, .int .i64 t.sn, .slice a3 t.sc.length c3, .int .i64 t.g.id, .int .i64 t.g.task, .int .i64 t.g.base, .int .u32 t.g.sum, .int .i64 t.g.snum, .slice a4 t.g.cells.length c4, .int .i64 t.g.dnum, .slice a5 t.g.set.length c5, .slice a6 t.g.gone.length c6, .slice a7 t.g.logs.length c7, .slice a8 t.g.pend.length c8, .int .i64 t.mi, .int .u32 t.ms, .slice a9 t.mr.length c9, .int .i64 t.oa, .string t.ox.f0, .int .i64 t.ox.f1.f0, .int .i64 t.ox.f1.f1, .string t.ox.f1.f2, .slice a10 t.ox.f1.f3.length c10, .slice a11 t.ox.f2.length c11] t.g.logs.length nv iv wr) (fun _ iv _ => t.g.logs.length - (intOf iv).toNat)
 case atStart => exact ⟨0, _, rfl, rfl, Nat.zero_le _, heap_alloc_new w _, below_alloc (Below.refl _ _) _⟩
 case round =>
  obtain ⟨i, n, rfl, rfl, hle, hx, hb⟩ := hrel
  have X := Aside0.mk hx
  have HB := Aside0.mk hb
  clear hx hb
  have x_18 := blk_cell X.out 18
  simp only [List.getElem?_toArray, List.getElem?_cons_succ, List.getElem?_cons_zero] at x_18
  by_cases hlt : i < t.g.logs.length ∧ i < 4096
  ·obtain ⟨hl1, hl2⟩ := hlt
   obtain ⟨ad, A1, k1, rfl, d0, l1, g1⟩ := slice_at (HI.out.below HB.out).i7 hl1
   clear l1 g1
   generalize t.g.logs[i] = y at *
   go_wp2
   go_roundw
   case rel => exact ⟨i + 1, _, by simp, rfl, hl1, X.out, HB.out⟩
   case measure => simp [intOf]; omega
  ·skip
   by_cases hl1 : i < t.g.logs.length
   ·have hl2 : ¬ (i : Int) < 4096 := by omega
    have hl1' : (i : Int) < (t.g.logs.length : Int) := by omega
    clear hlt
    by_cases hn : n ≤ 4096
    ·skip
     by_cases hm : t.g.logs.length ≤ 4096
     ·skip
      omega
     ·go_wp2
      go_ret
      exact SomeB.mk _ rfl HB.out
    ·go_wp2
     go_ret
     exact SomeB.mk _ rfl HB.out
   ·have hir : ¬ (i : Int) < (t.g.logs.length : Int) := by omega
    clear hlt
    by_cases hn : n ≤ 4096
    ·skip
     by_cases hm : t.g.logs.length ≤ 4096
     ·skip
      go_wp2_with (refine wpList_load_row_g ?hwhd2 45 (.tmp 1) rfl w.heap.size rfl 45 _ (0, 0) _ X.out Tryz.underlying45 rfl (by kernel_rfl) ?_)
      case hwhd2 => omega
      go_wp2_with fail
      refine ((HJ.out _ ?hd2).mono ?_)
      case hd2 => exact HB.out.trans (Below.mono (by repeat (with_reducible first | exact Below.refl _ _ | apply below_drew | apply pw_below_drewN | apply below_alloc)) HB.out.size)
      rintro e w2 ⟨b, rfl, h1⟩
      have HB2 := Aside0.mk (HB.out.trans (h1.mono HB.out.size))
      clear h1
      go_wp2
      go_ret
      exact SomeB.mk b rfl HB2.out
     ·go_wp2
      go_ret
      exact SomeB.mk _ rfl HB.out
    ·go_wp2
     go_ret
     exact SomeB.mk _ rfl HB.out
end Go.Proofs.YthmkioodkldgbaaGreat.DK
