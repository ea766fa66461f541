/- eddylaw4.inside, small, WirePuts; conditions: those in each theorem. -/
import Derived.Test.YthmkioodkldgbaaQpM28
import Derived.ChangeSame
import Derived.Deep.SlicePairs
import Derived.DataShut
namespace Go.Proofs.Ythmkioodkldgbaa.DK
open Go.Proofs.Ythmkioodkldgbaa.PD
open Go.RowKit Go.Proofs.YthmkioodkldgbaaW.PrintWords Go.Proofs.YthmkioodkldgbaaW.PrintLast Go.Proofs.YthmkioodkldgbaaW.PrintMore
set_option linter.unusedVariables false
set_option linter.unusedSimpArgs false
set_option maxRecDepth 100000
def SomeB (w : World) (e : Ending) (w' : World) : Prop := ∃ b : Bool, e = .returned (.bool b) ∧ Below w.heap.size w w'
theorem SomeB.mk {w w' : World} {e : Ending} (b : Bool) (h : e = .returned (.bool b)) (hb : Below w.heap.size w w') : SomeB w e w' := ⟨b, h, hb⟩
theorem same_refl (l : List Int) (hl : l.length ≤ 9223372036854775807) : ∀ (d i : Nat), i + d = l.length → Ev (fun k => eddylaw4_same.l0 k l l i) true
 | 0, i, h => Ev.step (f := fun _ => some true) (fun k => by rw [eddylaw4_same.l0, if_neg (by omega)]) (Ev.now _)
 | d + 1, i, h => by
  have hi : i < l.length := by omega
  have ih := same_refl l hl d (i + 1) (by omega)
  refine Ev.step (f := fun k => eddylaw4_same.l0 k l l ((i + 1 : Nat) : Int)) (fun k => ?_) ih
  rw [eddylaw4_same.l0]
  simp only [w64s hi hl]
  repeat (first | rw [if_pos trivial] | rw [if_pos (by omega)] | rw [if_pos rfl])
theorem wpList_load_row_g {P : Program} {ops : Array Oper} {rest : List Oper} {o : Oper} {a : Act} {w : World} {Q : Exit → Act → World → Prop} (hgd : Region.wanted o (yielded ops a.tmps) = true) (ty : TypeId) (x : Operand) (ho : o.op = .load ty x)
  (g : Nat) (hx : a.eval x = .pointer (some ⟨g, 0, none⟩)) (t : TypeId) (cs : Array Value) (fr : Nat × Nat) (d : TypeDesc) (hg : w.heap[g]? = some (.cells cs t fr))
  (hu : P.underlying ty = some d) (hd : (match d with | .struct _ | .array _ _ => true | _ => false) = true) (hi : (P.info? ty).map (·.size) = some cs.size)
  (h : wpList P ops Q rest (a.put o.dst (.agg cs)) w) : wpList P ops Q (o :: rest) a w := by
 rw [wpList, if_pos hgd]; exact .inl (wp_load_row ty x ho g hx t cs fr d hg hu hd hi h)
set_option maxHeartbeats 16000000 in
theorem inside_calls (w : World) (t : Thg) (a1 a2 a3 a4 a5 a6 a7 a8 a9 a10 a11 : Option Addr) (c1 c2 c3 c4 c5 c6 c7 c8 c9 c10 c11 : Nat) (hi : ThIn w t a1 a2 a3 a4 a5 a6 a7 a8 a9 a10 a11 c1 c2 c3 c4 c5 c6 c7 c8 c9 c10 c11) : Calls Try.prog 31 #[.agg #[.int .i64 t.kind, .string t.r.f0, .int .i64 t.r.f1.f0, .int .i64 t.r.f1.f1, .string t.r.f1.f2, .slice a1 t.r.f1.f3.length c1, .slice a2 t.r.f2.length c2, .int .i64 t.sn, .slice a3 t.sc.length c3, .int .i64 t.g.id, .int .i64 t.g.task, .int .i64 t.g.base, .int .u32 t.g.sum, .int .i64 t.g.snum, .slice a4 t.g.cells.length c4, .int .i64 t.g.dnum, .slice a5 t.g.set.length c5, .slice a6 t.g.gone.length c6, .slice a7 t.g.logs.length c7, .slice a8 t.g.pend.length c8, .int .i64 t.mi, .int .u32 t.ms, .slice a9 t.mr.length c9, .int .i64 t.oa, .string t.ox.f0, .int .i64 t.ox.f1.f0, .int .i64 t.ox.f1.f1, .string t.ox.f1.f2, .slice a10 t.ox.f1.f3.length c10, .slice a11 t.ox.f2.length c11]] w (SomeB w) := by
 have HI := Aside0.mk hi
 have hl6 : t.g.gone.length ≤ 9223372036854775807 := hi.i6.2.1
 clear hi
 unfold SomeB
 go_enter Try.func31, Try.ntmps31
 go_wp2_with fail
 refine (eddysize_New.calls _ w _ ?hd rfl).mono ?_
 case hd => repeat (with_reducible first | exact Below.refl _ _ | apply below_drew | apply pw_below_drewN | apply below_alloc)
 rintro e w1 ⟨g, rfl, hI, hB, hB2⟩
 have hx0 := (hB2.block w.heap.size (by simp)).trans (heap_alloc_new w (.cells #[.int .i64 t.kind, .string t.r.f0, .int .i64 t.r.f1.f0, .int .i64 t.r.f1.f1, .string t.r.f1.f2, .slice a1 t.r.f1.f3.length c1, .slice a2 t.r.f2.length c2, .int .i64 t.sn, .slice a3 t.sc.length c3, .int .i64 t.g.id, .int .i64 t.g.task, .int .i64 t.g.base, .int .u32 t.g.sum, .int .i64 t.g.snum, .slice a4 t.g.cells.length c4, .int .i64 t.g.dnum, .slice a5 t.g.set.length c5, .slice a6 t.g.gone.length c6, .slice a7 t.g.logs.length c7, .slice a8 t.g.pend.length c8, .int .i64 t.mi, .int .u32 t.ms, .slice a9 t.mr.length c9, .int .i64 t.oa, .string t.ox.f0, .int .i64 t.ox.f1.f0, .int .i64 t.ox.f1.f1, .string t.ox.f1.f2, .slice a10 t.ox.f1.f3.length c10, .slice a11 t.ox.f2.length c11] 46))
 have hne : w.heap.size ≠ g := fun e => by have h1 := hI.1; rw [← e, hx0] at h1; injection h1 with h1; injection h1 with _ h1; cases h1
 have H0 := Aside0.mk (show Cnt w g w1 from ⟨_, hI, hB⟩)
 have X0 := Aside0.mk hx0
 have hgl := blk_lt hx0
 clear hI hB hB2 hx0
 have x0_1 := blk_cell X0.out 1
 have x0_2 := blk_cell X0.out 2
 have x0_3 := blk_cell X0.out 3
 have x0_4 := blk_cell X0.out 4
 have x0_5 := blk_cell X0.out 5
 have x0_6 := blk_cell X0.out 6
 simp only [List.getElem?_toArray, List.getElem?_cons_succ, List.getElem?_cons_zero] at x0_1 x0_2 x0_3 x0_4 x0_5 x0_6
 go_wp2_with fail
 refine (rec_cnt w _ g (H0.out.step ?hd) t.r a1 c1 a2 c2 HI.out.i1 HI.out.l1 HI.out.i2 HI.out.l2).mono ?_
 case hd => repeat (with_reducible first | exact Below.refl _ _ | apply below_drew | apply pw_below_drewN | apply below_alloc)
 rintro e w2 ⟨rfl, h1, k1⟩
 have H1 := Aside0.mk h1
 have X1 := Aside0.mk (KeepBut.blk (row := none) (w := w1) (g := g) (by first | exact k1 | exact keep_tr (keep_bel (by repeat (with_reducible first | exact Below.refl _ _ | apply below_drew | apply pw_below_drewN | apply below_alloc))) k1) X0.out hne (by simp))
 clear h1 k1 x0_1 x0_2 x0_3 x0_4 x0_5 x0_6
 have x1_8 := blk_cell X1.out 8
 simp only [List.getElem?_toArray, List.getElem?_cons_succ, List.getElem?_cons_zero] at x1_8
 go_wp2_with fail
 refine (cells_cnt w _ g (H1.out.step ?hd) t.sc a3 c3 HI.out.i3 HI.out.l3).mono ?_
 case hd => repeat (with_reducible first | exact Below.refl _ _ | apply below_drew | apply pw_below_drewN | apply below_alloc)
 rintro e w3 ⟨rfl, h1, k1⟩
 have H2 := Aside0.mk h1
 have X2 := Aside0.mk (KeepBut.blk (row := none) (w := w2) (g := g) (by first | exact k1 | exact keep_tr (keep_bel (by repeat (with_reducible first | exact Below.refl _ _ | apply below_drew | apply pw_below_drewN | apply below_alloc))) k1) X1.out hne (by simp))
 clear h1 k1 x1_8
 have x2_13 := blk_cell X2.out 13
 have x2_14 := blk_cell X2.out 14
 have x2_18 := blk_cell X2.out 18
 have x2_19 := blk_cell X2.out 19
 simp only [List.getElem?_toArray, List.getElem?_cons_succ, List.getElem?_cons_zero] at x2_13 x2_14 x2_18 x2_19
 go_wp2_with fail
 refine (part_cnt w _ g (H2.out.step ?hd) t.g.snum t.g.cells t.g.logs t.g.pend a4 a7 a8 c4 c7 c8 HI.out.i4 HI.out.l4 HI.out.i7 HI.out.l7 HI.out.i8 HI.out.l8).mono ?_
 case hd => repeat (with_reducible first | exact Below.refl _ _ | apply below_drew | apply pw_below_drewN | apply below_alloc)
 rintro e w4 ⟨rfl, h1, k1⟩
 have H3 := Aside0.mk h1
 have X3 := Aside0.mk (KeepBut.blk (row := none) (w := w3) (g := g) (by first | exact k1 | exact keep_tr (keep_bel (by repeat (with_reducible first | exact Below.refl _ _ | apply below_drew | apply pw_below_drewN | apply below_alloc))) k1) X2.out hne (by simp))
 clear h1 k1 x2_13 x2_14 x2_18 x2_19
 have x3_15 := blk_cell X3.out 15
 have x3_16 := blk_cell X3.out 16
 have x3_17 := blk_cell X3.out 17
 simp only [List.getElem?_toArray, List.getElem?_cons_succ, List.getElem?_cons_zero] at x3_15 x3_16 x3_17
 go_wp2_with fail
 refine (delta_cnt w _ g (H3.out.step ?hd) t.g.dnum t.g.set t.g.gone a5 a6 c5 c6 HI.out.i5 HI.out.l5 hl6).mono ?_
 case hd => repeat (with_reducible first | exact Below.refl _ _ | apply below_drew | apply pw_below_drewN | apply below_alloc)
 rintro e w5 ⟨rfl, h1, k1⟩
 have H4 := Aside0.mk h1
 have X4 := Aside0.mk (KeepBut.blk (row := none) (w := w4) (g := g) (by first | exact k1 | exact keep_tr (keep_bel (by repeat (with_reducible first | exact Below.refl _ _ | apply below_drew | apply pw_below_drewN | apply below_alloc))) k1) X3.out hne (by simp))
 clear h1 k1 x3_15 x3_16 x3_17
 have x4_24 := blk_cell X4.out 24
 have x4_25 := blk_cell X4.out 25
 have x4_26 := blk_cell X4.out 26
 have x4_27 := blk_cell X4.out 27
 have x4_28 := blk_cell X4.out 28
 have x4_29 := blk_cell X4.out 29
 simp only [List.getElem?_toArray, List.getElem?_cons_succ, List.getElem?_cons_zero] at x4_24 x4_25 x4_26 x4_27 x4_28 x4_29
 go_wp2_with fail
 refine (rec_cnt w _ g (H4.out.step ?hd) t.ox a10 c10 a11 c11 HI.out.i10 HI.out.l10 HI.out.i11 HI.out.l11).mono ?_
 case hd => repeat (with_reducible first | exact Below.refl _ _ | apply below_drew | apply pw_below_drewN | apply below_alloc)
 rintro e w6 ⟨rfl, h1, k1⟩
 have H5 := Aside0.mk h1
 have X5 := Aside0.mk (KeepBut.blk (row := none) (w := w5) (g := g) (by first | exact k1 | exact keep_tr (keep_bel (by repeat (with_reducible first | exact Below.refl _ _ | apply below_drew | apply pw_below_drewN | apply below_alloc))) k1) X4.out hne (by simp))
 clear h1 k1 x4_24 x4_25 x4_26 x4_27 x4_28 x4_29
 obtain ⟨qq, hI, hB⟩ := H5.out
 have HI2 := Aside0.mk hI
 have HB2 := Aside0.mk hB
 clear hI hB
 go_wp2_with fail
 refine (eddysize_Count_Ok.calls g qq _ _ w _ ?hi ?hb rfl).mono ?_
 case hi => repeat (first | exact HI2.out | apply IsS170.alloc | apply IsS170.drewN | apply IsS170.drew)
 case hb => repeat (with_reducible first | exact HB2.out | apply below_alloc | apply pw_below_drewN | apply below_drew1)
 rintro e w9 ⟨rfl, -, hB3, -⟩
 have HB3 := Aside0.mk hB3
 clear hB3
 go_wp2
 go_ret
 exact ⟨_, rfl, HB3.out⟩
def SmE (w : World) (cs : Array Value) (m : Nat) (nv iv : Value) (wr : World) : Prop := ∃ (i : Nat) (n : Int), iv = .int .i64 i ∧ nv = .int .i64 n ∧ i ≤ m ∧ wr.heap[w.heap.size]? = some (.cells cs 46 (0, 0)) ∧ Below w.heap.size w wr
set_option maxHeartbeats 16000000 in
theorem small_calls (w : World) (t : Thg) (a1 a2 a3 a4 a5 a6 a7 a8 a9 a10 a11 : Option Addr) (c1 c2 c3 c4 c5 c6 c7 c8 c9 c10 c11 : Nat) (hi : ThIn w t a1 a2 a3 a4 a5 a6 a7 a8 a9 a10 a11 c1 c2 c3 c4 c5 c6 c7 c8 c9 c10 c11) : Calls Try.prog 10 #[.agg #[.int .i64 t.kind, .string t.r.f0, .int .i64 t.r.f1.f0, .int .i64 t.r.f1.f1, .string t.r.f1.f2, .slice a1 t.r.f1.f3.length c1, .slice a2 t.r.f2.length c2, .int .i64 t.sn, .slice a3 t.sc.length c3, .int .i64 t.g.id, .int .i64 t.g.task, .int .i64 t.g.base, .int .u32 t.g.sum, .int .i64 t.g.snum, .slice a4 t.g.cells.length c4, .int .i64 t.g.dnum, .slice a5 t.g.set.length c5, .slice a6 t.g.gone.length c6, .slice a7 t.g.logs.length c7, .slice a8 t.g.pend.length c8, .int .i64 t.mi, .int .u32 t.ms, .slice a9 t.mr.length c9, .int .i64 t.oa, .string t.ox.f0, .int .i64 t.ox.f1.f0, .int .i64 t.ox.f1.f1, .string t.ox.f1.f2, .slice a10 t.ox.f1.f3.length c10, .slice a11 t.ox.f2.length c11]] w (SomeB w) := by
 have HI := Aside0.mk hi
 have HJ := Aside0.mk (fun (W : World) (hb : Below w.heap.size w W) => inside_calls W t a1 a2 a3 a4 a5 a6 a7 a8 a9 a10 a11 c1 c2 c3 c4 c5 c6 c7 c8 c9 c10 c11 (hi.below hb))
 have hz3 : t.sc.length ≤ 9223372036854775807 := hi.i3.2.1
 have hz4 : t.g.cells.length ≤ 9223372036854775807 := hi.i4.2.1
 have hz5 : t.g.set.length ≤ 9223372036854775807 := hi.i5.2.1
 have hz6 : t.g.gone.length ≤ 9223372036854775807 := hi.i6.2.1
 have hz7 : t.g.logs.length ≤ 9223372036854775807 := hi.i7.2.1
 have hz8 : t.g.pend.length ≤ 9223372036854775807 := hi.i8.2.1
 have hz9 : t.mr.length ≤ 9223372036854775807 := hi.i9.2.1
 clear hi
 go_enter Try.func10, Try.ntmps10
 go_wp2
 go_loopw [3, 4] (fun nv iv wr => SmE w #[.int .i64 t.kind, .string t.r.f0, .int .i64 t.r.f1.f0, .int .i64 t.r.f1.f1, .string t.r.f1.f2, .slice a1 t.r.f1.f3.length c1, .slice a2 t.r.f2.length c2, .int .i64 t.sn, .slice a3 t.sc.length c3, .int .i64 t.g.id, .int .i64 t.g.task, .int .i64 t.g.base, .int .u32 t.g.sum, .int .i64 t.g.snum, .slice a4 t.g.cells.length c4, .int .i64 t.g.dnum, .slice a5 t.g.set.length c5, .slice a6 t.g.gone.length c6, .slice a7 t.g.logs.length c7, .slice a8 t.g.pend.length c8, .int .i64 t.mi, .int .u32 t.ms, .slice a9 t.mr.length c9, .int .i64 t.oa, .string t.ox.f0, .int .i64 t.ox.f1.f0, .int .i64 t.ox.f1.f1, .string t.ox.f1.f2, .slice a10 t.ox.f1.f3.length c10, .slice a11 t.ox.f2.length c11] t.g.logs.length nv iv wr) (fun _ iv _ => t.g.logs.length - (intOf iv).toNat)
 case atStart => exact ⟨0, _, rfl, rfl, Nat.zero_le _, heap_alloc_new w _, below_alloc (Below.refl _ _) _⟩
 case round =>
  obtain ⟨i, n, rfl, rfl, hle, hx, hb⟩ := hrel
  have X := Aside0.mk hx
  have HB := Aside0.mk hb
  clear hx hb
  have x_18 := blk_cell X.out 18
  simp only [List.getElem?_toArray, List.getElem?_cons_succ, List.getElem?_cons_zero] at x_18
  by_cases hlt : i < t.g.logs.length ∧ i < 4096
  ·obtain ⟨hl1, hl2⟩ := hlt
   obtain ⟨ad, A1, k1, rfl, d0, l1, g1⟩ := slice_at (HI.out.below HB.out).i7 hl1
   clear l1 g1
   generalize t.g.logs[i] = y at *
   go_wp2
   go_roundw
   case rel => exact ⟨i + 1, _, by simp, rfl, hl1, X.out, HB.out⟩
   case measure => simp [intOf]; omega
  ·skip
   by_cases hl1 : i < t.g.logs.length
   ·have hl2 : ¬ (i : Int) < 4096 := by omega
    have hl1' : (i : Int) < (t.g.logs.length : Int) := by omega
    clear hlt
    by_cases hn : n ≤ 4096
    ·skip
     by_cases hm : t.g.logs.length ≤ 4096
     ·skip
      omega
     ·go_wp2
      go_ret
      exact SomeB.mk _ rfl HB.out
    ·go_wp2
     go_ret
     exact SomeB.mk _ rfl HB.out
   ·have hir : ¬ (i : Int) < (t.g.logs.length : Int) := by omega
    clear hlt
    by_cases hn : n ≤ 4096
    ·skip
     by_cases hm : t.g.logs.length ≤ 4096
     ·skip
      go_wp2_with (refine wpList_load_row_g ?hwhd2 46 (.tmp 1) rfl w.heap.size rfl 46 _ (0, 0) _ X.out Try.underlying46 rfl (by kernel_rfl) ?_)
      case hwhd2 => omega
      go_wp2_with fail
      refine ((HJ.out _ ?hd2).mono ?_)
      case hd2 => exact HB.out.trans (Below.mono (by repeat (with_reducible first | exact Below.refl _ _ | apply below_drew | apply pw_below_drewN | apply below_alloc)) HB.out.size)
      rintro e w2 ⟨b, rfl, h1⟩
      have HB2 := Aside0.mk (HB.out.trans (h1.mono HB.out.size))
      clear h1
      go_wp2
      go_ret
      exact SomeB.mk b rfl HB2.out
     ·go_wp2
      go_ret
      exact SomeB.mk _ rfl HB.out
    ·go_wp2
     go_ret
     exact SomeB.mk _ rfl HB.out
end Go.Proofs.Ythmkioodkldgbaa.DK
/- eddylaw4.WirePuts; conditions: those in each theorem. -/
namespace Go.Proofs.Ythmkioodkldgbaa.DK
open Go.Proofs.Ythmkioodkldgbaa.PD
open Go.RowKit Go.Proofs.YthmkioodkldgbaaW.PrintWords Go.Proofs.YthmkioodkldgbaaW.PrintLast Go.Proofs.YthmkioodkldgbaaW.PrintMore
set_option linter.unusedVariables false
set_option linter.unusedSimpArgs false
set_option maxRecDepth 100000
theorem same_calls {w0 w : World} {b b' : Nat} {v u : Value} {l : List Int} (h : R5 b w v l) (h' : R5 b' w u l) (hb : Below w0.heap.size w0 w) : Calls Try.prog 13 #[v, u] w fun e w' => e = .returned (.bool true) ∧ Below w0.heap.size w0 w' := by
 obtain ⟨A0, c0, rfl, l0, r0⟩ := own_reads_of_le (enc := Value.int .u8) (d := (0 : Int)) (show World.ownsRow _ _ _ _ _ _ (encs (Value.int .u8) l) from h)
 obtain ⟨A1, c1, rfl, l1, r1⟩ := own_reads_of_le (enc := Value.int .u8) (d := (0 : Int)) (show World.ownsRow _ _ _ _ _ _ (encs (Value.int .u8) l) from h')
 have e0 := Kd.C_of_reads (h1 := fun _ => rfl) r0
 have e1 := Kd.C_of_reads (h1 := fun _ => rfl) r1
 obtain ⟨k, hk⟩ := (same_refl l e0.2.1 l.length 0 (by omega)).rounds
 refine (eddylaw4_same.calls k A0 c0 l A1 c1 l true w e0 l0 e1 l1 (by rw [eddylaw4_same.f, if_pos rfl]; exact hk)).mono ?_
 rintro e w' ⟨rfl, hd⟩
 exact ⟨rfl, hb.trans (hd.below.mono hb.size)⟩
def TrueB (w : World) (e : Ending) (w' : World) : Prop := e = .returned (.bool true) ∧ Below w.heap.size w w'
set_option maxHeartbeats 8000000 in
theorem WirePuts_calls (w : World) (t : Thg) (a1 a2 a3 a4 a5 a6 a7 a8 a9 a10 a11 : Option Addr) (c1 c2 c3 c4 c5 c6 c7 c8 c9 c10 c11 : Nat) (hi : ThIn w t a1 a2 a3 a4 a5 a6 a7 a8 a9 a10 a11 c1 c2 c3 c4 c5 c6 c7 c8 c9 c10 c11) (ho : t.Ok) : Calls Try.prog 4 #[.agg #[.int .i64 t.kind, .string t.r.f0, .int .i64 t.r.f1.f0, .int .i64 t.r.f1.f1, .string t.r.f1.f2, .slice a1 t.r.f1.f3.length c1, .slice a2 t.r.f2.length c2, .int .i64 t.sn, .slice a3 t.sc.length c3, .int .i64 t.g.id, .int .i64 t.g.task, .int .i64 t.g.base, .int .u32 t.g.sum, .int .i64 t.g.snum, .slice a4 t.g.cells.length c4, .int .i64 t.g.dnum, .slice a5 t.g.set.length c5, .slice a6 t.g.gone.length c6, .slice a7 t.g.logs.length c7, .slice a8 t.g.pend.length c8, .int .i64 t.mi, .int .u32 t.ms, .slice a9 t.mr.length c9, .int .i64 t.oa, .string t.ox.f0, .int .i64 t.ox.f1.f0, .int .i64 t.ox.f1.f1, .string t.ox.f1.f2, .slice a10 t.ox.f1.f3.length c10, .slice a11 t.ox.f2.length c11]] w (TrueB w) := by
 have HO := Aside0.mk ho
 have HI := Aside0.mk (fun (W : World) (hb : Below w.heap.size w W) => hi.below hb)
 clear hi ho
 unfold TrueB
 have hx0 := heap_alloc_new w (.cells #[.int .i64 t.kind, .string t.r.f0, .int .i64 t.r.f1.f0, .int .i64 t.r.f1.f1, .string t.r.f1.f2, .slice a1 t.r.f1.f3.length c1, .slice a2 t.r.f2.length c2, .int .i64 t.sn, .slice a3 t.sc.length c3, .int .i64 t.g.id, .int .i64 t.g.task, .int .i64 t.g.base, .int .u32 t.g.sum, .int .i64 t.g.snum, .slice a4 t.g.cells.length c4, .int .i64 t.g.dnum, .slice a5 t.g.set.length c5, .slice a6 t.g.gone.length c6, .slice a7 t.g.logs.length c7, .slice a8 t.g.pend.length c8, .int .i64 t.mi, .int .u32 t.ms, .slice a9 t.mr.length c9, .int .i64 t.oa, .string t.ox.f0, .int .i64 t.ox.f1.f0, .int .i64 t.ox.f1.f1, .string t.ox.f1.f2, .slice a10 t.ox.f1.f3.length c10, .slice a11 t.ox.f2.length c11] 46)
 have X0 := Aside0.mk hx0
 clear hx0
 skip
 go_enter Try.func4, Try.ntmps4
 go_wp2_with (refine wpList_load_row_g ?hw0 46 (.tmp 1) rfl w.heap.size rfl 46 _ (0, 0) _ X0.out Try.underlying46 rfl (by kernel_rfl) ?_)
 go_wp2_with fail
 have H1 := Aside0.mk (show Below w.heap.size w (w.alloc (.cells #[.int .i64 t.kind, .string t.r.f0, .int .i64 t.r.f1.f0, .int .i64 t.r.f1.f1, .string t.r.f1.f2, .slice a1 t.r.f1.f3.length c1, .slice a2 t.r.f2.length c2, .int .i64 t.sn, .slice a3 t.sc.length c3, .int .i64 t.g.id, .int .i64 t.g.task, .int .i64 t.g.base, .int .u32 t.g.sum, .int .i64 t.g.snum, .slice a4 t.g.cells.length c4, .int .i64 t.g.dnum, .slice a5 t.g.set.length c5, .slice a6 t.g.gone.length c6, .slice a7 t.g.logs.length c7, .slice a8 t.g.pend.length c8, .int .i64 t.mi, .int .u32 t.ms, .slice a9 t.mr.length c9, .int .i64 t.oa, .string t.ox.f0, .int .i64 t.ox.f1.f0, .int .i64 t.ox.f1.f1, .string t.ox.f1.f2, .slice a10 t.ox.f1.f3.length c10, .slice a11 t.ox.f2.length c11] 46)) from below_alloc (Below.refl _ _) _)
 refine (small_calls _ t a1 a2 a3 a4 a5 a6 a7 a8 a9 a10 a11 c1 c2 c3 c4 c5 c6 c7 c8 c9 c10 c11 (HI.out _ H1.out)).mono ?_
 rintro e w1 ⟨b, rfl, h1⟩
 have HB1 := Aside0.mk (H1.out.trans (h1.mono H1.out.size))
 have hx1 := (h1.block w.heap.size (by simp)).trans X0.out
 have X1 := Aside0.mk hx1
 clear h1 hx1
 cases b
 ·go_wp2
  go_ret
  exact ⟨rfl, HB1.out⟩
 ·go_wp2_with (refine wpList_load_row_g ?hw1 46 (.tmp 1) rfl w.heap.size rfl 46 _ (0, 0) _ X1.out Try.underlying46 rfl (by kernel_rfl) ?_)
  go_wp2_with fail
  refine (putRef_calls w1 t a1 a2 a3 a4 a5 a6 a7 a8 a9 a10 a11 c1 c2 c3 c4 c5 c6 c7 c8 c9 c10 c11 (HI.out _ HB1.out) HO.out).mono ?_
  rintro e w2 ⟨u, rfl, h1, h2⟩
  have HR2 := Aside0.mk h1
  have HB2 := Aside0.mk (HB1.out.trans (h2.mono HB1.out.size))
  have hx2 := (h2.block w.heap.size (blk_lt X1.out)).trans X1.out
  have X2 := Aside0.mk hx2
  clear h1 h2 hx2
  go_wp2_with (refine wpList_load_row_g ?hw2 46 (.tmp 1) rfl w.heap.size rfl 46 _ (0, 0) _ X2.out Try.underlying46 rfl (by kernel_rfl) ?_)
  go_wp2_with fail
  refine (put_calls w2 t a1 a2 a3 a4 a5 a6 a7 a8 a9 a10 a11 c1 c2 c3 c4 c5 c6 c7 c8 c9 c10 c11 (HI.out _ HB2.out) HO.out).mono ?_
  rintro e w3 ⟨u', rfl, h1, h2⟩
  have HR3 := Aside0.mk h1
  have HR2' := Aside0.mk (HR2.out.below (h2.mono (Nat.le_refl _)))
  have HB3 := Aside0.mk (HB2.out.trans (h2.mono HB2.out.size))
  clear h1 h2
  go_wp2_with fail
  refine (same_calls HR3.out HR2'.out HB3.out).mono ?_
  rintro e w4 ⟨rfl, hb⟩
  go_wp2
  go_ret
  exact ⟨rfl, hb⟩
end Go.Proofs.Ythmkioodkldgbaa.DK
/- What a row's opening gives of an argument: kinds by kinds, then one of the five things; conditions: those in each theorem. -/
namespace Go.Proofs.Ythmkioodkldgbaa.DK
open Go.Proofs.Ythmkioodkldgbaa.PD
open Go.ChangeShapes Go.WideShapes Go.Deep Go.Proofs.YthmkioodkldgbaaW.PrintWords
set_option linter.unusedVariables false
set_option maxRecDepth 100000
/-- One value laid out as cells of type t, read by d, is such. -/
def Opens {H : Type} (enc : TypeId × Value → H) (W : World) {α : Type} (n : Nat) (t : TypeId) (d : Kd α) (ok : α → Prop) : Prop :=
 ∀ cs x, DataW.trod enc Try.prog W 0 (fun _ => true) true n t cs = some x → ∃ y : α, d.K W y cs ∧ ok y
section
variable {H : Type} {enc : TypeId × Value → H} {W : World} {n : Nat}
theorem opens_int {t : TypeId} {k : IntKind} (hu : Try.prog.underlying t = some (.int k)) : Opens enc W n t (Kd.int k) (fun y => (Lit.int k y).wf = true) := fun cs x h => by
 obtain ⟨y, rfl, _, hw⟩ := DataW.trod_int hu h
 exact ⟨y, rfl, hw⟩
theorem opens_str {t : TypeId} (hu : Try.prog.underlying t = some .string) : Opens enc W n t Kd.string (fun _ => True) := fun cs x h => by
 obtain ⟨y, rfl, _, hw⟩ := DataW.trod_string hu h
 exact ⟨y, rfl, trivial⟩
theorem list_of {α : Type} {P : Nat → α → Prop} : ∀ m, (∀ j, j < m → ∃ p, P j p) → ∃ l : List α, l.length = m ∧ ∀ j p, l[j]? = some p → P j p
 | 0, _ => ⟨[], rfl, fun j p h => by simp at h⟩
 | m + 1, h => by
  obtain ⟨l, hl, hp⟩ := list_of m (fun j hj => h j (by omega))
  obtain ⟨p, hq⟩ := h m (by omega)
  refine ⟨l ++ [p], by simp [hl], fun j q hj => ?_⟩
  by_cases hjm : j < m
  ·rw [List.getElem?_append_left (by omega)] at hj
   exact hp j q hj
  ·rw [List.getElem?_append_right (by omega)] at hj
   have hj2 : j - l.length < [p].length := (List.getElem?_eq_some_iff.1 hj).1
   simp only [List.length_cons, List.length_nil] at hj2
   obtain rfl : j = m := by omega
   rw [show j - l.length = 0 by omega] at hj
   simp at hj
   exact hj ▸ hq
theorem opens_slice {t e e' : TypeId} {α : Type} {d : Kd α} {ok : α → Prop} (hu : Try.prog.underlying t = some (.slice e)) (he : Try.prog.cellsOf e = d.sz) (h : ∀ m, m < n → Opens enc W m e d ok) : Opens enc W n t (Kd.slice e' d) (fun l => ∀ y ∈ l, ok y) := fun cs x hx => by
 rcases DataW.trod_slice hu hx with ⟨rfl, _⟩ | ⟨a, len, cap, elems, rest, m, rfl, rfl, _, _, hl, hm, hlen, hel, _, _⟩
 ·exact ⟨[], ⟨none, 0, rfl, Nat.le_refl _, ⟨rfl, Nat.zero_le _, fun hh => absurd hh (Nat.lt_irrefl _)⟩⟩, fun y hy => by cases hy⟩
 ·obtain ⟨l, hll, hp⟩ := list_of (P := fun i y => (∃ c, c.length = d.sz ∧ d.K W y c ∧ ∀ j u, c[j]? = some u → W.cell? (a.add (i * d.sz + j)) = some u) ∧ ok y) len (fun i hi => by
   have h1 := hel i hi
   rw [List.getElem?_eq_getElem (by omega)] at h1
   cases hc : W.cells? 0 (a.add (i * Try.prog.cellsOf e)) (Try.prog.cellsOf e) with
   | none => rw [hc] at h1; cases h1
   | some c =>
    rw [hc] at h1
    obtain ⟨_, hcl, hcc⟩ := World.cells?_some hc
    obtain ⟨y, hK, hok⟩ := h m (by omega) c _ h1
    rw [he] at hcl hcc
    refine ⟨y, ⟨c, hcl, hK, fun j u hju => ?_⟩, hok⟩
    have hj : j < d.sz := by have := (List.getElem?_eq_some_iff.1 hju).1; omega
    have h2 := hcc j hj
    rw [Deep.add_add] at h2
    rw [h2, hju])
  subst hll
  exact ⟨l, ⟨some a, cap, rfl, hl, ⟨rfl, Nat.le_trans hl hm, fun _ => ⟨a, rfl, fun j p hj => (hp j p hj).1⟩⟩⟩, fun y hy => by
   obtain ⟨i, hi⟩ := List.mem_iff_getElem?.1 hy
   exact (hp i y hi).2⟩
theorem fld {t : TypeId} {fs : Array Field} {cs : List Value} {x : DataW H × List MemPlace} (hu : Try.prog.underlying t = some (.struct fs)) (h : DataW.trod enc Try.prog W 0 (fun _ => true) true n t cs = some x) :
  cs.length = Try.prog.cellsOf t ∧ ∃ m, n = m + 1 ∧ ∀ (i : Nat) (f : Field), fs[i]? = some f → ∃ y, DataW.trod enc Try.prog W 0 (fun _ => true) true m f.type ((cs.drop f.offset).take (Try.prog.cellsOf f.type)) = some y := by
 obtain ⟨xs, m, rfl, _, hl, hlen, hf⟩ := DataW.trod_struct hu h
 refine ⟨hl, m, rfl, fun i f hi => ?_⟩
 have h1 := hf i f hi
 have hi2 : i < fs.size := (Array.getElem?_eq_some_iff.1 hi).1
 rw [List.getElem?_eq_getElem (by omega)] at h1
 exact ⟨_, h1⟩
theorem f_last {α : Type} {d : Kd α} {ok : α → Prop} {t : TypeId} {cs : List Value} (off : Nat) (h : Opens enc W n t d ok) (hl : cs.length = off + Try.prog.cellsOf t) (g : ∃ y, DataW.trod enc Try.prog W 0 (fun _ => true) true n t ((cs.drop off).take (Try.prog.cellsOf t)) = some y) :
  ∃ y, d.K W y (cs.drop off) ∧ ok y := by
 obtain ⟨y, g⟩ := g
 rw [List.take_of_length_le (by rw [List.length_drop]; omega)] at g
 exact h _ _ g
theorem f_cons {α β : Type} {a : Kd α} {b : Kd β} {oka : α → Prop} {okb : β → Prop} {t : TypeId} {cs : List Value} (off s : Nat) (h : Opens enc W n t a oka) (he : Try.prog.cellsOf t = s) (g : ∃ y, DataW.trod enc Try.prog W 0 (fun _ => true) true n t ((cs.drop off).take (Try.prog.cellsOf t)) = some y)
  (k : ∃ y, b.K W y (cs.drop (off + s)) ∧ okb y) : ∃ y : α × β, (Kd.pair a b).K W y (cs.drop off) ∧ (oka y.1 ∧ okb y.2) := by
 obtain ⟨y, g⟩ := g
 rw [he] at g
 obtain ⟨y0, h0, o0⟩ := h _ _ g
 obtain ⟨y1, h1, o1⟩ := k
 exact ⟨(y0, y1), ⟨(cs.drop off).take s, cs.drop (off + s), by rw [← List.drop_drop, List.take_append_drop], h0, h1⟩, o0, o1⟩
theorem okL_of : ∀ {l : List S25}, (∀ y ∈ l, okS y) → okL l
 | [], _ => by rw [okL]; trivial
 | x :: l, h => by
  rw [okL]
  exact ⟨h x (List.mem_cons_self ..), okL_of (fun y hy => h y (List.mem_cons_of_mem _ hy))⟩
theorem wf64 {y : Int} (h : (Lit.int .i64 y).wf = true) : -9223372036854775808 ≤ y ∧ y ≤ 9223372036854775807 := by have := (Lit.wf_int_iff _ _).1 h; exact ⟨this.1, this.2⟩
theorem wf32 {y : Int} (h : (Lit.int .u32 y).wf = true) : 0 ≤ y ∧ y ≤ 4294967295 := by have := (Lit.wf_int_iff _ _).1 h; exact ⟨this.1, this.2⟩
theorem ce3 : Try.prog.cellsOf 3 = 1 := by kernel_rfl
theorem ce2 : Try.prog.cellsOf 2 = 1 := by kernel_rfl
theorem ce9 : Try.prog.cellsOf 9 = 1 := by kernel_rfl
theorem ce32 : Try.prog.cellsOf 32 = 1 := by kernel_rfl
theorem ce23 : Try.prog.cellsOf 23 = 1 := by kernel_rfl
theorem ce25 : Try.prog.cellsOf 25 = 4 := by kernel_rfl
theorem ce26 : Try.prog.cellsOf 26 = 1 := by kernel_rfl
theorem ce28 : Try.prog.cellsOf 28 = 6 := by kernel_rfl
theorem ce29 : Try.prog.cellsOf 29 = 1 := by kernel_rfl
theorem ce31 : Try.prog.cellsOf 31 = 2 := by kernel_rfl
theorem ce33 : Try.prog.cellsOf 33 = 1 := by kernel_rfl
theorem ce35 : Try.prog.cellsOf 35 = 3 := by kernel_rfl
theorem ce36 : Try.prog.cellsOf 36 = 1 := by kernel_rfl
theorem ce37 : Try.prog.cellsOf 37 = 1 := by kernel_rfl
theorem ce39 : Try.prog.cellsOf 39 = 11 := by kernel_rfl
theorem ce40 : Try.prog.cellsOf 40 = 1 := by kernel_rfl
theorem ce42 : Try.prog.cellsOf 42 = 3 := by kernel_rfl
theorem ce44 : Try.prog.cellsOf 44 = 7 := by kernel_rfl
theorem ce46 : Try.prog.cellsOf 46 = 30 := by kernel_rfl
theorem ce108 : Try.prog.cellsOf 108 = 2 := by kernel_rfl
theorem ce121 : Try.prog.cellsOf 121 = 2 := by kernel_rfl
theorem opens25 : ∀ n, Opens enc W n 25 k25 okS := fun n => by
 induction n using Nat.strongRecOn with
 | _ n ih =>
  intro cs x h
  obtain ⟨hl, m, rfl, hf⟩ := fld Try.underlying25 h
  rw [ce25] at hl
  obtain ⟨⟨y0, y1, y2, y3⟩, hK, o0, o1, _, o3⟩ := f_cons 0 1 (opens_int Try.underlying3) ce3 (hf 0 _ rfl) (f_cons 1 1 (opens_int Try.underlying2) ce2 (hf 1 _ rfl) (f_cons 2 1 (opens_str Try.underlying9) ce9 (hf 2 _ rfl)
   (f_last 3 (opens_slice (e' := 25) Try.underlying23 ce25 (fun m' hm' => ih m' (by omega))) (by rw [ce23, hl]) (hf 3 _ rfl))))
  obtain ⟨_, _, e, rfl, _, _, rfl, rfl, _, _, rfl, rfl, A3, c3, rfl, l3, g3⟩ := hK
  rw [List.drop_zero] at e
  subst e
  exact ⟨⟨y0, y1, y2, y3⟩, k25_mk W ⟨y0, y1, y2, y3⟩ l3 g3, by rw [okS_eq]; exact ⟨wf64 o0, wf64 o1, okL_of o3⟩⟩
theorem opens121 : Opens enc W n 121 k121 (fun x => okL x.f1) := fun cs x h => by
 obtain ⟨hl, m, rfl, hf⟩ := fld Try.underlying121 h
 rw [ce121] at hl
 obtain ⟨⟨y0, y1⟩, hK, _, o1⟩ := f_cons 0 1 (opens_str Try.underlying9) ce9 (hf 0 _ rfl) (f_last 1 (opens_slice (e' := 25) Try.underlying23 ce25 (fun m' _ => opens25 m')) (by rw [ce23, hl]) (hf 1 _ rfl))
 rw [List.drop_zero] at hK
 exact ⟨⟨y0, y1⟩, hK, okL_of o1⟩
theorem opens28 : Opens enc W n 28 k28 (fun x => okS x.f1) := fun cs x h => by
 obtain ⟨hl, m, rfl, hf⟩ := fld Try.underlying28 h
 rw [ce28] at hl
 obtain ⟨⟨y0, y1, y2⟩, hK, _, o1, _⟩ := f_cons 0 1 (opens_str Try.underlying9) ce9 (hf 0 _ rfl) (f_cons 1 4 (opens25 m) ce25 (hf 1 _ rfl) (f_last 5 (opens_slice (e' := 3) (d := Kd.int .i64) Try.underlying26 ce3 (fun m' _ => opens_int Try.underlying3)) (by rw [ce26, hl]) (hf 2 _ rfl)))
 rw [List.drop_zero] at hK
 exact ⟨⟨y0, y1, y2⟩, hK, o1⟩
theorem opens108 : Opens enc W n 108 k108 (fun x => 0 ≤ x.f1 ∧ x.f1 ≤ 4294967295) := fun cs x h => by
 obtain ⟨hl, m, rfl, hf⟩ := fld Try.underlying108 h
 rw [ce108] at hl
 obtain ⟨⟨y0, y1⟩, hK, _, o1⟩ := f_cons 0 1 (opens_int Try.underlying3) ce3 (hf 0 _ rfl) (f_last 1 (opens_int Try.underlying32) (by rw [ce32, hl]) (hf 1 _ rfl))
 rw [List.drop_zero] at hK
 exact ⟨⟨y0, y1⟩, hK, wf32 o1⟩
def kSt : Kd (Int × List S121) := Kd.pair (Kd.int .i64) (Kd.slice 121 k121)
def kDl : Kd (Int × List S121 × List ByteArray) := Kd.pair (Kd.int .i64) (Kd.pair (Kd.slice 121 k121) (Kd.slice 9 Kd.string))
def kSg : Kd (Int × Int × Int × Int × (Int × List S121) × (Int × List S121 × List ByteArray) × List (List S28) × List S28) :=
 Kd.pair (Kd.int .i64) (Kd.pair (Kd.int .i64) (Kd.pair (Kd.int .i64) (Kd.pair (Kd.int .u32) (Kd.pair kSt (Kd.pair kDl (Kd.pair (Kd.slice 37 (Kd.slice 28 k28)) (Kd.slice 28 k28)))))))
def kMn : Kd (Int × Int × List S108) := Kd.pair (Kd.int .i64) (Kd.pair (Kd.int .u32) (Kd.slice 108 k108))
def kRw : Kd (Int × S28) := Kd.pair (Kd.int .i64) k28
theorem opens31 : Opens enc W n 31 kSt (fun y => ∀ x ∈ y.2, okL x.f1) := fun cs x h => by
 obtain ⟨hl, m, rfl, hf⟩ := fld Try.underlying31 h
 rw [ce31] at hl
 obtain ⟨y, hK, _, o1⟩ := f_cons 0 1 (opens_int Try.underlying3) ce3 (hf 0 _ rfl) (f_last 1 (opens_slice (e' := 121) Try.underlying29 ce121 (fun m' _ => opens121)) (by rw [ce29, hl]) (hf 1 _ rfl))
 rw [List.drop_zero] at hK
 exact ⟨y, hK, o1⟩
theorem opens35 : Opens enc W n 35 kDl (fun y => ∀ x ∈ y.2.1, okL x.f1) := fun cs x h => by
 obtain ⟨hl, m, rfl, hf⟩ := fld Try.underlying35 h
 rw [ce35] at hl
 obtain ⟨y, hK, _, o1, _⟩ := f_cons 0 1 (opens_int Try.underlying3) ce3 (hf 0 _ rfl) (f_cons 1 1 (opens_slice (e' := 121) Try.underlying29 ce121 (fun m' _ => opens121)) ce29 (hf 1 _ rfl) (f_last 2 (opens_slice (e' := 9) (d := Kd.string) Try.underlying33 ce9 (fun m' _ => opens_str Try.underlying9)) (by rw [ce33, hl]) (hf 2 _ rfl)))
 rw [List.drop_zero] at hK
 exact ⟨y, hK, o1⟩
theorem opens37 : Opens enc W n 37 (Kd.slice 28 k28) (fun l => ∀ x ∈ l, okS x.f1) := opens_slice Try.underlying37 ce28 (fun m' _ => opens28)
def SgOk (y : Int × Int × Int × Int × (Int × List S121) × (Int × List S121 × List ByteArray) × List (List S28) × List S28) : Prop :=
 (0 ≤ y.2.2.2.1 ∧ y.2.2.2.1 ≤ 4294967295) ∧ (∀ x ∈ y.2.2.2.2.1.2, okL x.f1) ∧ (∀ x ∈ y.2.2.2.2.2.1.2.1, okL x.f1) ∧ (∀ l ∈ y.2.2.2.2.2.2.1, ∀ x ∈ l, okS x.f1) ∧ ∀ x ∈ y.2.2.2.2.2.2.2, okS x.f1
theorem opens39 : Opens enc W n 39 kSg SgOk := fun cs x h => by
 obtain ⟨hl, m, rfl, hf⟩ := fld Try.underlying39 h
 rw [ce39] at hl
 obtain ⟨y, hK, _, _, _, o1, o2, o3, o4, o5⟩ := f_cons 0 1 (opens_int Try.underlying3) ce3 (hf 0 _ rfl) (f_cons 1 1 (opens_int Try.underlying3) ce3 (hf 1 _ rfl) (f_cons 2 1 (opens_int Try.underlying3) ce3 (hf 2 _ rfl) (f_cons 3 1 (opens_int Try.underlying32) ce32 (hf 3 _ rfl)
  (f_cons 4 2 opens31 ce31 (hf 4 _ rfl) (f_cons 6 3 opens35 ce35 (hf 5 _ rfl) (f_cons 9 1 (opens_slice (e' := 37) (d := Kd.slice 28 k28) Try.underlying36 ce37 (fun m' _ => opens37)) ce36 (hf 6 _ rfl) (f_last 10 opens37 (by rw [ce37, hl]) (hf 7 _ rfl))))))))
 rw [List.drop_zero] at hK
 exact ⟨y, hK, wf32 o1, o2, o3, o4, o5⟩
theorem opens42 : Opens enc W n 42 kMn (fun y => (0 ≤ y.2.1 ∧ y.2.1 ≤ 4294967295) ∧ ∀ x ∈ y.2.2, 0 ≤ x.f1 ∧ x.f1 ≤ 4294967295) := fun cs x h => by
 obtain ⟨hl, m, rfl, hf⟩ := fld Try.underlying42 h
 rw [ce42] at hl
 obtain ⟨y, hK, _, o1, o2⟩ := f_cons 0 1 (opens_int Try.underlying3) ce3 (hf 0 _ rfl) (f_cons 1 1 (opens_int Try.underlying32) ce32 (hf 1 _ rfl) (f_last 2 (opens_slice (e' := 108) Try.underlying40 ce108 (fun m' _ => opens108)) (by rw [ce40, hl]) (hf 2 _ rfl)))
 rw [List.drop_zero] at hK
 exact ⟨y, hK, wf32 o1, o2⟩
theorem opens44 : Opens enc W n 44 kRw (fun y => okS y.2.f1) := fun cs x h => by
 obtain ⟨hl, m, rfl, hf⟩ := fld Try.underlying44 h
 rw [ce44] at hl
 obtain ⟨y, hK, _, o1⟩ := f_cons 0 1 (opens_int Try.underlying3) ce3 (hf 0 _ rfl) (f_last 1 opens28 (by rw [ce28, hl]) (hf 1 _ rfl))
 rw [List.drop_zero] at hK
 exact ⟨y, hK, o1⟩
theorem thing_in {cs : List Value} {x : DataW H × List MemPlace} (h : DataW.trod enc Try.prog W 0 (fun _ => true) true n 46 cs = some x) :
  ∃ (t : Thg) (a1 a2 a3 a4 a5 a6 a7 a8 a9 a10 a11 : Option Addr) (c1 c2 c3 c4 c5 c6 c7 c8 c9 c10 c11 : Nat), cs = [.int .i64 t.kind, .string t.r.f0, .int .i64 t.r.f1.f0, .int .i64 t.r.f1.f1, .string t.r.f1.f2, .slice a1 t.r.f1.f3.length c1, .slice a2 t.r.f2.length c2, .int .i64 t.sn, .slice a3 t.sc.length c3,
   .int .i64 t.g.id, .int .i64 t.g.task, .int .i64 t.g.base, .int .u32 t.g.sum, .int .i64 t.g.snum, .slice a4 t.g.cells.length c4, .int .i64 t.g.dnum, .slice a5 t.g.set.length c5, .slice a6 t.g.gone.length c6, .slice a7 t.g.logs.length c7, .slice a8 t.g.pend.length c8,
   .int .i64 t.mi, .int .u32 t.ms, .slice a9 t.mr.length c9, .int .i64 t.oa, .string t.ox.f0, .int .i64 t.ox.f1.f0, .int .i64 t.ox.f1.f1, .string t.ox.f1.f2, .slice a10 t.ox.f1.f3.length c10, .slice a11 t.ox.f2.length c11] ∧
   ThIn W t a1 a2 a3 a4 a5 a6 a7 a8 a9 a10 a11 c1 c2 c3 c4 c5 c6 c7 c8 c9 c10 c11 ∧ t.Ok := by
 obtain ⟨hl, m, rfl, hf⟩ := fld Try.underlying46 h
 rw [ce46] at hl
 obtain ⟨⟨y0, r, st, g, mn, rw⟩, hK, _, o1, o2, o3, o4, o5⟩ := f_cons 0 1 (opens_int Try.underlying3) ce3 (hf 0 _ rfl) (f_cons 1 6 opens28 ce28 (hf 1 _ rfl) (f_cons 7 2 opens31 ce31 (hf 2 _ rfl) (f_cons 9 11 opens39 ce39 (hf 3 _ rfl) (f_cons 20 3 opens42 ce42 (hf 4 _ rfl) (f_last 23 opens44 (by rw [ce44, hl]) (hf 5 _ rfl))))))
 obtain ⟨sn, sc⟩ := st
 obtain ⟨id, task, base, sum, ⟨snum, cells⟩, ⟨dnum, set_, gone⟩, logs, pend⟩ := g
 obtain ⟨mi, ms, mr⟩ := mn
 obtain ⟨oa, ox⟩ := rw
 obtain ⟨p0, q0, e, k0, p1, q1, e1, k1, p2, q2, e2, k2, p3, q3, e3, k3, p4, q4, e4, k4, k5⟩ := hK
 obtain ⟨a1, c1, a2, c2, f1, l1, i1, l2, i2⟩ := k28_open k1
 obtain ⟨_, _, f2, rfl, a3, c3, rfl, l3, i3⟩ := k2
 obtain ⟨_, _, f3, rfl, _, _, rfl, rfl, _, _, rfl, rfl, _, _, rfl, rfl, _, _, rfl, ⟨_, _, rfl, rfl, a4, c4, rfl, l4, i4⟩, _, _, rfl, ⟨_, _, rfl, rfl, _, _, rfl, ⟨a5, c5, rfl, l5, i5⟩, a6, c6, rfl, l6, i6⟩, _, _, rfl, ⟨a7, c7, rfl, l7, i7⟩, a8, c8, rfl, l8, i8⟩ := k3
 obtain ⟨_, _, f4, rfl, _, _, rfl, rfl, a9, c9, rfl, l9, i9⟩ := k4
 obtain ⟨_, _, f5, rfl, k5⟩ := k5
 obtain ⟨a10, c10, a11, c11, f6, l10, i10, l11, i11⟩ := k28_open k5
 obtain ⟨w1, w2, w3, w4, w5⟩ := o3
 rw [List.drop_zero] at e
 refine ⟨⟨y0, r, sn, sc, ⟨id, task, base, sum, snum, cells, dnum, set_, gone, logs, pend⟩, mi, ms, mr, oa, ox⟩, a1, a2, a3, a4, a5, a6, a7, a8, a9, a10, a11, c1, c2, c3, c4, c5, c6, c7, c8, c9, c10, c11, ?_,
  ⟨i1, i2, i3, i4, i5, i6, i7, i8, i9, i10, i11, l1, l2, l3, l4, l5, l6, l7, l8, l9, l10, l11⟩, ⟨o1, o2, ⟨w1, w2, w3, w4, w5⟩, o4.1, o4.2, o5⟩⟩
 have k0' : p0 = [.int .i64 y0] := k0
 rw [e, k0', e1, f1, e2, f2, e3, f3, e4, f4, f5, f6]
 rfl
theorem thing_arg {v : Value} {d : DataW H} {ps : List MemPlace} (h : DataW.Trod enc Try.prog W 0 (fun _ => true) true 46 v d ps) :
  ∃ (t : Thg) (a1 a2 a3 a4 a5 a6 a7 a8 a9 a10 a11 : Option Addr) (c1 c2 c3 c4 c5 c6 c7 c8 c9 c10 c11 : Nat), v = .agg #[.int .i64 t.kind, .string t.r.f0, .int .i64 t.r.f1.f0, .int .i64 t.r.f1.f1, .string t.r.f1.f2, .slice a1 t.r.f1.f3.length c1, .slice a2 t.r.f2.length c2, .int .i64 t.sn, .slice a3 t.sc.length c3,
   .int .i64 t.g.id, .int .i64 t.g.task, .int .i64 t.g.base, .int .u32 t.g.sum, .int .i64 t.g.snum, .slice a4 t.g.cells.length c4, .int .i64 t.g.dnum, .slice a5 t.g.set.length c5, .slice a6 t.g.gone.length c6, .slice a7 t.g.logs.length c7, .slice a8 t.g.pend.length c8,
   .int .i64 t.mi, .int .u32 t.ms, .slice a9 t.mr.length c9, .int .i64 t.oa, .string t.ox.f0, .int .i64 t.ox.f1.f0, .int .i64 t.ox.f1.f1, .string t.ox.f1.f2, .slice a10 t.ox.f1.f3.length c10, .slice a11 t.ox.f2.length c11] ∧
   ThIn W t a1 a2 a3 a4 a5 a6 a7 a8 a9 a10 a11 c1 c2 c3 c4 c5 c6 c7 c8 c9 c10 c11 ∧ t.Ok := by
 obtain ⟨n, h⟩ := h
 obtain ⟨t, a1, a2, a3, a4, a5, a6, a7, a8, a9, a10, a11, c1, c2, c3, c4, c5, c6, c7, c8, c9, c10, c11, e, i, o⟩ := thing_in h
 refine ⟨t, a1, a2, a3, a4, a5, a6, a7, a8, a9, a10, a11, c1, c2, c3, c4, c5, c6, c7, c8, c9, c10, c11, ?_, i, o⟩
 cases v with
 | agg cs =>
  have e' : cs.toList = _ := e
  congr 1
  rw [← Array.toList_inj, e']
 | _ =>
  have h1 := congrArg List.length e
  simp [Value.cells] at h1
end
end Go.Proofs.Ythmkioodkldgbaa.DK
