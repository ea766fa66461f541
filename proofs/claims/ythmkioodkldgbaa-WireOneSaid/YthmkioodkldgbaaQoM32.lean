/- eddylaw4.WireOne walked; conditions: those in the theorem. -/
import Derived.Test.YthmkioodkldgbaaQoM30
import Derived.Test.YthmkioodkldgbaaQoM31
import Derived.Test.YthmkioodkldgbaaQoM28
namespace Go.Proofs.Ythmkioodkldgbaa.DK
open Go.Proofs.Ythmkioodkldgbaa.PD
open Go.RowKit Go.Proofs.YthmkioodkldgbaaW.PrintWords Go.Proofs.YthmkioodkldgbaaW.PrintLast Go.Proofs.YthmkioodkldgbaaW.PrintMore
set_option linter.unusedVariables false
set_option linter.unusedSimpArgs false
set_option maxRecDepth 100000
theorem zT_in (w : World) (k : Int) : ThIn w (zT k) none none none none none none none none none none none 0 0 0 0 0 0 0 0 0 0 0 :=
 ⟨Kd.C_nil _ _, Kd.C_nil _ _, Kd.C_nil _ _, Kd.C_nil _ _, Kd.C_nil _ _, Kd.C_nil _ _, Kd.C_nil _ _, Kd.C_nil _ _, Kd.C_nil _ _, Kd.C_nil _ _, Kd.C_nil _ _, Nat.le_refl _, Nat.le_refl _, Nat.le_refl _, Nat.le_refl _, Nat.le_refl _, Nat.le_refl _, Nat.le_refl _, Nat.le_refl _, Nat.le_refl _, Nat.le_refl _, Nat.le_refl _⟩
theorem zT_eq (k m : Int) : ThgEq (zT k) (zT m) := ⟨rfl, ⟨rfl, rfl⟩, rfl, ⟨rfl, rfl, rfl⟩, ⟨rfl, rfl⟩⟩
set_option maxHeartbeats 40000000 in
theorem WireOne_calls (w : World) (k : Int) (l : List Int) (A : Option Addr) (c : Nat) (hi : (Kd.int .u8).C w A l.length l) (hc : l.length ≤ c) (hr : ∀ x ∈ l, 0 ≤ x ∧ x ≤ 255) : Calls Try.prog 5 #[.int .i64 k, .slice A l.length c] w (TrueB w) := by
 have HI := Aside0.mk hi
 have HR := Aside0.mk hr
 have hm : l.length ≤ 9223372036854775807 := hi.2.1
 clear hi hr
 go_enter Try.func5, Try.ntmps5
 go_wp2_with fail
 refine (known_calls _).mono ?_
 rintro en w1 ⟨rfl, hb1⟩
 have HB1 := Aside0.mk hb1
 clear hb1
 by_cases hl : 262144 < l.length
 ·go_wp2
  go_ret
  exact ⟨rfl, HB1.out⟩
 go_wp2_with fail
 refine (get_calls k (In.ofC HI.out HB1.out (Nat.le_refl _)) hc HR.out).mono ?_
 rintro en w2 ⟨t, a1, a2, a3, a4, a5, a6, a7, a8, a9, a10, a11, c1, c2, c3, c4, c5, c6, c7, c8, c9, c10, c11, e, rfl, ht, hb2, hq⟩
 have HT := Aside0.mk ht
 have HQ := Aside0.mk hq
 have HB2 := Aside0.mk (HB1.out.trans (hb2.mono HB1.out.size))
 have HN := Aside0.mk (heap_alloc_new w2 (.cells #[.int .i64 0, .string ⟨#[]⟩, .int .i64 0, .int .i64 0, .string ⟨#[]⟩, .slice none 0 0, .slice none 0 0, .int .i64 0, .slice none 0 0, .int .i64 0, .int .i64 0, .int .i64 0, .int .u32 0, .int .i64 0, .slice none 0 0, .int .i64 0, .slice none 0 0, .slice none 0 0, .slice none 0 0, .slice none 0 0, .int .i64 0, .int .u32 0, .slice none 0 0, .int .i64 0, .string ⟨#[]⟩, .int .i64 0, .int .i64 0, .string ⟨#[]⟩, .slice none 0 0, .slice none 0 0] 46))
 clear ht hq hb2
 iterate 14 (first | go_values | go_skip | go_guarded | go_step | go_upon | go_back | go_simp)
 refine wpList_store_row ?y1 46 (.tmp 5) (.tmp 18) ?y2 ?y3 w2.heap.size ?y4 46 (#[.int .i64 0, .string ⟨#[]⟩, .int .i64 0, .int .i64 0, .string ⟨#[]⟩, .slice none 0 0, .slice none 0 0, .int .i64 0, .slice none 0 0, .int .i64 0, .int .i64 0, .int .i64 0, .int .u32 0, .int .i64 0, .slice none 0 0, .int .i64 0, .slice none 0 0, .slice none 0 0, .slice none 0 0, .slice none 0 0, .int .i64 0, .int .u32 0, .slice none 0 0, .int .i64 0, .string ⟨#[]⟩, .int .i64 0, .int .i64 0, .string ⟨#[]⟩, .slice none 0 0, .slice none 0 0]) [.int .i64 t.kind, .string t.r.f0, .int .i64 t.r.f1.f0, .int .i64 t.r.f1.f1, .string t.r.f1.f2, .slice a1 t.r.f1.f3.length c1, .slice a2 t.r.f2.length c2, .int .i64 t.sn, .slice a3 t.sc.length c3, .int .i64 t.g.id, .int .i64 t.g.task, .int .i64 t.g.base, .int .u32 t.g.sum, .int .i64 t.g.snum, .slice a4 t.g.cells.length c4, .int .i64 t.g.dnum, .slice a5 t.g.set.length c5, .slice a6 t.g.gone.length c6, .slice a7 t.g.logs.length c7, .slice a8 t.g.pend.length c8, .int .i64 t.mi, .int .u32 t.ms, .slice a9 t.mr.length c9, .int .i64 t.oa, .string t.ox.f0, .int .i64 t.ox.f1.f0, .int .i64 t.ox.f1.f1, .string t.ox.f1.f2, .slice a10 t.ox.f1.f3.length c10, .slice a11 t.ox.f2.length c11] ?y5 ?y6 ?y7 ?y8 ?y9 ?y0
 (case y2 => rfl)
 (case y1 => rfl)
 (case y3 => rfl)
 (case y4 => rfl)
 (case y5 => rfl)
 (case y6 => exact HN.out)
 (case y7 => rfl)
 (case y8 => exact size46)
 (case y9 => simp [Value.oneCell'])
 obtain ⟨hW1, hW2, hW3⟩ := filln HN.out [.int .i64 t.kind, .string t.r.f0, .int .i64 t.r.f1.f0, .int .i64 t.r.f1.f1, .string t.r.f1.f2, .slice a1 t.r.f1.f3.length c1, .slice a2 t.r.f2.length c2, .int .i64 t.sn, .slice a3 t.sc.length c3, .int .i64 t.g.id, .int .i64 t.g.task, .int .i64 t.g.base, .int .u32 t.g.sum, .int .i64 t.g.snum, .slice a4 t.g.cells.length c4, .int .i64 t.g.dnum, .slice a5 t.g.set.length c5, .slice a6 t.g.gone.length c6, .slice a7 t.g.logs.length c7, .slice a8 t.g.pend.length c8, .int .i64 t.mi, .int .u32 t.ms, .slice a9 t.mr.length c9, .int .i64 t.oa, .string t.ox.f0, .int .i64 t.ox.f1.f0, .int .i64 t.ox.f1.f1, .string t.ox.f1.f2, .slice a10 t.ox.f1.f3.length c10, .slice a11 t.ox.f2.length c11] rfl
 have hb3 : Below w2.heap.size w2 (sets (w2.alloc (.cells #[.int .i64 0, .string ⟨#[]⟩, .int .i64 0, .int .i64 0, .string ⟨#[]⟩, .slice none 0 0, .slice none 0 0, .int .i64 0, .slice none 0 0, .int .i64 0, .int .i64 0, .int .i64 0, .int .u32 0, .int .i64 0, .slice none 0 0, .int .i64 0, .slice none 0 0, .slice none 0 0, .slice none 0 0, .slice none 0 0, .int .i64 0, .int .u32 0, .slice none 0 0, .int .i64 0, .string ⟨#[]⟩, .int .i64 0, .int .i64 0, .string ⟨#[]⟩, .slice none 0 0, .slice none 0 0] 46)) w2.heap.size 0 [.int .i64 t.kind, .string t.r.f0, .int .i64 t.r.f1.f0, .int .i64 t.r.f1.f1, .string t.r.f1.f2, .slice a1 t.r.f1.f3.length c1, .slice a2 t.r.f2.length c2, .int .i64 t.sn, .slice a3 t.sc.length c3, .int .i64 t.g.id, .int .i64 t.g.task, .int .i64 t.g.base, .int .u32 t.g.sum, .int .i64 t.g.snum, .slice a4 t.g.cells.length c4, .int .i64 t.g.dnum, .slice a5 t.g.set.length c5, .slice a6 t.g.gone.length c6, .slice a7 t.g.logs.length c7, .slice a8 t.g.pend.length c8, .int .i64 t.mi, .int .u32 t.ms, .slice a9 t.mr.length c9, .int .i64 t.oa, .string t.ox.f0, .int .i64 t.ox.f1.f0, .int .i64 t.ox.f1.f1, .string t.ox.f1.f2, .slice a10 t.ox.f1.f3.length c10, .slice a11 t.ox.f2.length c11]) := (below_alloc (Below.refl _ _) _).trans (hW3.below (Nat.le_of_lt (blk_lt HN.out)))
 have X3 := Aside0.mk hW1
 have HB3 := Aside0.mk hb3
 clear hW1 hW2 hW3 hb3 HN
 generalize sets (w2.alloc (.cells #[.int .i64 0, .string ⟨#[]⟩, .int .i64 0, .int .i64 0, .string ⟨#[]⟩, .slice none 0 0, .slice none 0 0, .int .i64 0, .slice none 0 0, .int .i64 0, .int .i64 0, .int .i64 0, .int .u32 0, .int .i64 0, .slice none 0 0, .int .i64 0, .slice none 0 0, .slice none 0 0, .slice none 0 0, .slice none 0 0, .int .i64 0, .int .u32 0, .slice none 0 0, .int .i64 0, .string ⟨#[]⟩, .int .i64 0, .int .i64 0, .string ⟨#[]⟩, .slice none 0 0, .slice none 0 0] 46)) w2.heap.size 0 [.int .i64 t.kind, .string t.r.f0, .int .i64 t.r.f1.f0, .int .i64 t.r.f1.f1, .string t.r.f1.f2, .slice a1 t.r.f1.f3.length c1, .slice a2 t.r.f2.length c2, .int .i64 t.sn, .slice a3 t.sc.length c3, .int .i64 t.g.id, .int .i64 t.g.task, .int .i64 t.g.base, .int .u32 t.g.sum, .int .i64 t.g.snum, .slice a4 t.g.cells.length c4, .int .i64 t.g.dnum, .slice a5 t.g.set.length c5, .slice a6 t.g.gone.length c6, .slice a7 t.g.logs.length c7, .slice a8 t.g.pend.length c8, .int .i64 t.mi, .int .u32 t.ms, .slice a9 t.mr.length c9, .int .i64 t.oa, .string t.ox.f0, .int .i64 t.ox.f1.f0, .int .i64 t.ox.f1.f1, .string t.ox.f1.f2, .slice a10 t.ox.f1.f3.length c10, .slice a11 t.ox.f2.length c11] = w3 at *
 have HB := Aside0.mk (HB2.out.trans (HB3.out.mono HB2.out.size))
 by_cases he : e = 0
 case neg =>
  have heb : (e != 0) = true := bne_iff_ne.2 he
  have HZ := Aside0.mk (get_zero HQ.out he)
  clear he
  go_wp2_with (refine wpList_load_row rfl 46 (.tmp 5) rfl w2.heap.size rfl 46 _ (0, 0) _ X3.out Try.underlying46 rfl (by kernel_rfl) ?_)
  refine (sameThing_calls w3 w2 w3 t (zT 0) a1 a2 a3 a4 a5 a6 a7 a8 a9 a10 a11 none none none none none none none none none none none c1 c2 c3 c4 c5 c6 c7 c8 c9 c10 c11 0 0 0 0 0 0 0 0 0 0 0 HT.out (zT_in _ _) HB3.out (Below.refl _ _)).mono ?_
  rintro en w4 ⟨r, rfl, h1, h2⟩
  obtain rfl : r = true := h1.2 (by rw [HZ.out]; exact zT_eq _ _)
  have HB4 := Aside0.mk (HB.out.trans (h2.mono HB.out.size))
  clear h1 h2
  go_wp2
  go_ret
  exact ⟨rfl, HB4.out⟩
 subst he
 have HO := Aside0.mk (get_one HR.out HQ.out)
 go_wp2_with (refine wpList_load_row rfl 46 (.tmp 5) rfl w2.heap.size rfl 46 _ (0, 0) _ X3.out Try.underlying46 rfl (by kernel_rfl) ?_)
 refine (put_calls w3 t a1 a2 a3 a4 a5 a6 a7 a8 a9 a10 a11 c1 c2 c3 c4 c5 c6 c7 c8 c9 c10 c11 (HT.out.below HB3.out) HO.out.1.1).mono ?_
 rintro en w5 ⟨u, rfl, hu, hb5⟩
 rw [HO.out.1.2, if_pos rfl, HO.out.2] at hu
 rw [HO.out.1.2]
 have HB5 := Aside0.mk (HB.out.trans (hb5.mono HB.out.size))
 have HU := Aside0.mk hu
 clear hb5
 obtain ⟨Au, cu, rfl, lu, ru⟩ := own_reads_of_le (enc := Value.int .u8) (d := (0 : Int)) (show World.ownsRow _ _ _ _ _ _ (encs (Value.int .u8) l) from hu)
 have HC := Aside0.mk (Kd.C_of_reads (h1 := fun _ => rfl) ru)
 clear hu ru
 go_wp2_with fail
 refine (sameBytes_calls l l w5 w5.heap.size A c Au cu (In.ofC HI.out HB5.out (Nat.le_trans HB5.out.size (Nat.le_refl _))) (In.ofC HC.out (Below.refl _ _) (Nat.le_refl _)) (Nat.le_refl _)).mono ?_
 rintro en w6 ⟨r, rfl, h1, h2⟩
 obtain rfl : r = true := h1.2 rfl
 have HB6 := Aside0.mk (HB5.out.trans (h2.mono HB5.out.size))
 clear h1 h2
 go_wp2
 go_ret
 exact ⟨rfl, HB6.out⟩
end Go.Proofs.Ythmkioodkldgbaa.DK
