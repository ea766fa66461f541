/- wire.putSegment, a manifest's rows; conditions: those in each theorem. -/
import Derived.Test.YthmkioodkldgbaaGreatQcM08
namespace Go.Proofs.YthmkioodkldgbaaGreat.DK
open Go.Proofs.YthmkioodkldgbaaGreat.PD
open Go.RowKit Go.Proofs.YthmkioodkldgbaaGreatW.PrintWords Go.Proofs.YthmkioodkldgbaaGreatW.PrintLast Go.Proofs.YthmkioodkldgbaaGreatW.PrintMore
set_option linter.unusedVariables false
set_option linter.unusedSimpArgs false
set_option maxRecDepth 100000
structure Seg where
 id : Int
 task : Int
 base : Int
 sum : Int
 snum : Int
 cells : List S121
 dnum : Int
 set : List S121
 gone : List ByteArray
 logs : List (List S28)
 pend : List S28
def encFront (s : Seg) : List Int := 83 :: grp s.id ++ grp s.task ++ grp s.base
def encDelta (s : Seg) : List Int := word s.sum ++ grp s.dnum ++ lst encC s.set ++ lst keyB s.gone
def encLogs (s : Seg) : List Int := lst (lst encR) s.logs ++ lst encR s.pend
def encSeg (s : Seg) : List Int := encFront s ++ (if s.base = 0 then encSt s.snum s.cells else encDelta s) ++ encLogs s
structure okSeg (s : Seg) : Prop where
 id : 0 ≤ s.id ∧ s.id ≤ 9999
 task : 0 ≤ s.task ∧ s.task ≤ 11
 base : 0 ≤ s.base ∧ s.base ≤ 9999
 sum : 0 ≤ s.sum ∧ s.sum ≤ 4294967295
 snum : s.base = 0 → 0 ≤ s.snum ∧ s.snum ≤ 1073741824
 cells : s.base = 0 → ∀ x ∈ s.cells, okCell x
 dnum : s.base ≠ 0 → 0 ≤ s.dnum ∧ s.dnum ≤ 1073741824
 set : s.base ≠ 0 → ∀ x ∈ s.set, okCell x
 gone : s.base ≠ 0 → ∀ x ∈ s.gone, x.size ≤ 140737488355328
 logs : ∀ l ∈ s.logs, ∀ x ∈ l, okRec x
 pend : ∀ x ∈ s.pend, okRec x
set_option maxHeartbeats 4000000 in
theorem putRow1_calls (b : Nat) (w : World) (u : Value) (xs : List Int) (x : S108) (HO : R5 b w u xs) (hb : b ≤ w.heap.size) (hk : okRow x) (hl : (xs ++ encRow x).length ≤ 140737488355328) :
  Calls Tryz.prog 57 #[u, .agg #[.int .i64 x.f0, .int .u32 x.f1]] w (Ext b w (xs ++ encRow x)) := by
 have hl1 : (xs ++ grp x.f0).length ≤ 140737488355328 := by unfold encRow at hl; simp only [List.length_append] at hl ⊢; omega
 have hl2 : (xs ++ grp x.f0).length + 4 ≤ 140737488355328 := by unfold encRow word at hl; simp only [List.length_append, List.length_cons, List.length_nil] at hl ⊢; omega
 have HR := Aside0.mk HO
 have HK := Aside0.mk hk
 clear HO hk hl
 unfold Ext
 obtain ⟨k, l⟩ := x
 dsimp only at *
 go_enter Tryz.func57, Tryz.ntmps57
 go_wp2
 have hbx : (w.alloc (.cells #[.int .i64 k, .int .u32 l] 111)).heap[w.heap.size]? = some (.cells #[.int .i64 k, .int .u32 l] 111 (0, 0)) := heap_alloc_new w _
 have m0 := blk_cell hbx 0
 have m1 := blk_cell hbx 1
 simp only [List.getElem?_toArray, List.getElem?_cons_succ, List.getElem?_cons_zero] at m0 m1
 have HB := Aside0.mk hbx
 clear hbx
 refine start_ (n := 8) (S := fun w' => w'.cell? ⟨w.heap.size, 0, none⟩ = some (.int .i64 k) ∧ w'.cell? ⟨w.heap.size, 1, none⟩ = some (.int .u32 l)) (ds := [6]) #[false, false, false, false, false, false, false, false] (by kernel_rfl) rfl rfl ⟨m0, m1⟩ (fun hHeld => ?_)
 refine zq 0 (some 5) ?_
 refine zq 1 (some 6) ?_
 refine zq 4 (some 9) ?_
 refine zu 2 (some 7) hHeld ?_
 refine zu 5 (some 10) hHeld ?_
 refine one_ (i := 3) (N := some 8) #[true, true, true, true, true, true, false, false] rfl rfl (by kernel_rfl) (by decide) (fun K hK => ?_)
 refine goes_ Tryz.func54 (by kernel_rfl) rfl #[u, .int .i64 k] (by rfl) rfl rfl (by simp only [List.map_toArray, List.map_cons, List.map_nil]; rfl) ?_
 refine (putNumber_calls b _ u xs k HK.out.size.1 HK.out.size.2 ?hr ?hs hl1).mono ?_
 case hr => exact (by repeat (with_reducible first | exact HR.out | apply R5.drew | apply R5.drewN | apply R5.alloc))
 case hs => exact (Nat.le_trans hb (U5.size (b := b) (by repeat (with_reducible first | exact U5.refl _ _ | apply U5.drew | apply U5.drewN | apply U5.alloc))))
 rintro e w1 ⟨u1, rfl, h1, h2⟩
 have HR1 := Aside0.mk h1
 have HU1 := Aside0.mk (U5.trans (b := b) (w := w) (by repeat (with_reducible first | exact U5.refl _ _ | apply U5.drew | apply U5.drewN | apply U5.alloc)) h2)
 have HB1 := Aside0.mk (h2.blk (by repeat (with_reducible first | exact HB.out | apply blk_drew | apply blk_drewN | apply blk_alloc)) (by decide))
 clear h1 h2
 refine ⟨_, rfl, ?_⟩
 refine hK.out _ _ ⟨(blk_cell HB1.out 0), (blk_cell HB1.out 1)⟩ (fun hHeld => ?_)
 clear hK K
 refine norm_ (a' := ?_) ?_ ?_
 rotate_left
 ·show Act.put _ (some 8) _ = _
  simp only [Act.put, zla, zlb, zlc, i64_w, i32_w]
  rfl
 refine last_ (i := 6) (N := some 11) #[true, true, true, true, true, true, true, false] rfl rfl (by kernel_rfl) (by decide) (fun K hK => ?_)
 refine goes_ Tryz.func55 (by kernel_rfl) rfl #[u1, .int .u32 l] (by rfl) rfl rfl (by simp only [List.map_toArray, List.map_cons, List.map_nil]; rfl) ?_
 refine (putWord_calls b _ u1 _ l HK.out.check.1 HK.out.check.2 ?hr ?hs hl2).mono ?_
 case hr => exact (by repeat (with_reducible first | exact HR1.out | apply R5.drew | apply R5.drewN | apply R5.alloc))
 case hs => exact (Nat.le_trans hb (U5.size (b := b) (by repeat (with_reducible first | exact HU1.out | apply U5.drew | apply U5.drewN | apply U5.alloc))))
 rintro e w2 ⟨u2, rfl, h1, h2⟩
 have HR2 := Aside0.mk h1
 have HU2 := Aside0.mk (U5.trans (b := b) (w := w) (by repeat (with_reducible first | exact HU1.out | apply U5.drew | apply U5.drewN | apply U5.alloc)) h2)
 have HB2 := Aside0.mk (h2.blk (by repeat (with_reducible first | exact HB1.out | apply blk_drew | apply blk_drewN | apply blk_alloc)) (by decide))
 clear h1 h2
 refine ⟨_, rfl, ?_⟩
 refine hK.out _ _ ?_
 clear hK K
 refine norm_ (a' := ?_) ?_ ?_
 rotate_left
 ·show Act.put _ (some 11) _ = _
  simp only [Act.put, zla, zlb, zlc, i64_w, i32_w]
  rfl
 refine zq 7 (some 4) ?_
 refine done_ (by kernel_rfl) ?_
 go_wp2
 go_ret
 exact ⟨u2, rfl, (by have h := HR2.out; simpa only [encRow, lst, List.append_assoc] using h), (by repeat (with_reducible first | exact HU2.out | apply U5.drew | apply U5.drewN | apply U5.alloc))⟩
set_option maxHeartbeats 4000000 in
theorem putRows_calls (b : Nat) (w : World) (u : Value) (xs : List Int) (l : List S108) (A : Option Addr) (c : Nat) (HO : R5 b w u xs) (hb : b ≤ w.heap.size) (hB : In k108 b w A l) (hk : ∀ x ∈ l, okRow x) (hl : (xs ++ lst encRow l).length ≤ 140737488355328) :
  Calls Tryz.prog 56 #[u, .slice A l.length c, .func (.func 57) #[] #[]] w (Ext b w (xs ++ lst encRow l)) := by
 have HR := Aside0.mk HO
 have HC := Aside0.mk hB
 have hlen : l.length ≤ 9223372036854775807 := hB.max
 have HK := Aside0.mk hk
 have HL := Aside0.mk hl
 have hl1 : (xs ++ grp (l.length : Int)).length ≤ 140737488355328 := by unfold lst at hl; simp only [List.length_append] at hl ⊢; omega
 clear hB HO hk hl
 unfold Ext
 go_enter Tryz.func56, Tryz.ntmps56
 go_wp2_with fail
 refine (putNumber_calls b w u xs l.length (by omega) (by omega) HR.out hb hl1).mono ?_
 rintro e w1 ⟨u1, rfl, h1, h2⟩
 have HR1 := Aside0.mk h1
 have HU1 := Aside0.mk h2
 have hb1 : b ≤ w1.heap.size := Nat.le_trans hb h2.size
 clear h1 h2
 go_wp2
 go_loopw [0, 15] (fun u iv wr => LstE b w1 encRow l (xs ++ lst encRow l) u iv wr) (fun _ iv _ => l.length - (intOf iv).toNat)
 case atStart => exact ⟨0, _, rfl, Nat.zero_le _, HR1.out, U5.refl _ _, by unfold lst; simp⟩
 case round =>
  obtain ⟨i, ys, rfl, hle, hrow, hup, heq⟩ := hrel
  have HRW := Aside0.mk hrow
  have HUP := Aside0.mk (HU1.out.trans hup)
  have HUP1 := Aside0.mk hup
  have hbr : b ≤ wr.heap.size := Nat.le_trans hb1 hup.size
  clear hrow hup
  by_cases hlt : i < l.length
  ·have hdrop : l.drop i = l[i] :: l.drop (i + 1) := List.drop_eq_getElem_cons hlt
   have hC := HC.out.ext (HUP.out.below hb)
   obtain ⟨ad, rfl, d0, d1⟩ := hC.at108 hlt
   have HKX := Aside0.mk (HK.out l[i] (List.getElem_mem hlt))
   rw [hdrop, List.flatMap_cons, ← List.append_assoc] at heq
   have hll : (ys ++ encRow l[i]).length ≤ 140737488355328 := by
    have h := HL.out
    rw [← heq] at h
    simp only [List.length_append] at h ⊢
    omega
   have HEQ := Aside0.mk heq
   have HX := Aside0.mk (fun (W : World) (hw : Below wr.heap.size wr W) => putRow1_calls b W u0 ys l[i] (HRW.out.below hw) (Nat.le_trans hbr hw.size) HKX.out hll)
   clear hC heq hdrop hll
   clear HC
   generalize l[i] = x at *
   go_wp2_with fail
   refine (HX.out _ ?hw).mono ?_
   case hw => repeat (with_reducible first | exact Below.refl _ _ | apply below_drew | apply pw_below_drewN | apply below_alloc)
   rintro e w5 ⟨u5, rfl, h1, h2⟩
   have HR5 := Aside0.mk h1
   have HU5 := Aside0.mk ((HUP1.out.alloc _).trans h2)
   clear h1 h2
   go_wp2
   go_roundw
   case rel => exact ⟨i + 1, _, by simp, hlt, HR5.out, HU5.out, HEQ.out⟩
   case measure => simp [intOf]; omega
  ·have hi : i = l.length := by omega
   rw [hi, List.drop_length, List.flatMap_nil, List.append_nil] at heq
   have hir : ¬ (i : Int) < (l.length : Int) := by omega
   have HEQ := Aside0.mk heq
   clear heq hi
   go_wp2
   go_ret
   exact ⟨_, rfl, by have h := HRW.out; rwa [HEQ.out] at h, HUP.out⟩
set_option maxHeartbeats 8000000 in
theorem putSegment_calls (w : World) (s : Seg) (A5 A7 A8 A9 A10 : Option Addr) (c5 c7 c8 c9 c10 : Nat) (h5 : In k121 w.heap.size w A5 s.cells) (h7 : In k121 w.heap.size w A7 s.set) (h8 : In Kd.string w.heap.size w A8 s.gone) (h9 : In (Kd.slice 27 k28) w.heap.size w A9 s.logs) (h10 : In k28 w.heap.size w A10 s.pend) (l5 : s.cells.length ≤ c5) (l7 : s.set.length ≤ c7) (l8 : s.gone.length ≤ c8) (l9 : s.logs.length ≤ c9) (l10 : s.pend.length ≤ c10) (hk : okSeg s) (hl : (encSeg s).length ≤ 140737488355328) :
  Calls Tryz.prog 53 #[.agg #[.int .i64 s.id, .int .i64 s.task, .int .i64 s.base, .int .u32 s.sum, .int .i64 s.snum, .slice A5 s.cells.length c5, .int .i64 s.dnum, .slice A7 s.set.length c7, .slice A8 s.gone.length c8, .slice A9 s.logs.length c9, .slice A10 s.pend.length c10]] w (Bytes5 w (encSeg s)) := by
 have HI5 := Aside0.mk h5
 have HI7 := Aside0.mk h7
 have HI8 := Aside0.mk h8
 have HI9 := Aside0.mk h9
 have HI10 := Aside0.mk h10
 have HK := Aside0.mk hk
 have HL := Aside0.mk hl
 clear h5 h7 h8 h9 h10 hk hl
 have hb : w.heap.size ≤ w.heap.size := Nat.le_refl _
 unfold Bytes5
 by_cases hz : s.base = 0
 ·skip
  have e2 : (s.base == 0) = true := by simpa using hz
  have hz' := Aside0.mk hz
  clear hz
  have hE : encSeg s = encFront s ++ encSt s.snum s.cells ++ encLogs s := by unfold encSeg; rw [if_pos hz'.out]
  have HE := Aside0.mk hE
  clear hE
  go_enter Tryz.func53, Tryz.ntmps53
  go_wp2_with fail
  have HB := Aside0.mk (blk_alloc (heap_alloc_new w (.cells #[.int .i64 s.id, .int .i64 s.task, .int .i64 s.base, .int .u32 s.sum, .int .i64 s.snum, .slice A5 s.cells.length c5, .int .i64 s.dnum, .slice A7 s.set.length c7, .slice A8 s.gone.length c8, .slice A9 s.logs.length c9, .slice A10 s.pend.length c10] 38)) (.cells #[.int .u8 83] 5))
  have HR : Aside0 (R5 w.heap.size ((w.alloc (.cells #[.int .i64 s.id, .int .i64 s.task, .int .i64 s.base, .int .u32 s.sum, .int .i64 s.snum, .slice A5 s.cells.length c5, .int .i64 s.dnum, .slice A7 s.set.length c7, .slice A8 s.gone.length c8, .slice A9 s.logs.length c9, .slice A10 s.pend.length c10] 38)).alloc (.cells #[.int .u8 83] 5)) (.slice (some ⟨w.heap.size + 1, 0, none⟩) 1 1) [83]) := ⟨by have h := R5.lit (w.alloc (.cells #[.int .i64 s.id, .int .i64 s.task, .int .i64 s.base, .int .u32 s.sum, .int .i64 s.snum, .slice A5 s.cells.length c5, .int .i64 s.dnum, .slice A7 s.set.length c7, .slice A8 s.gone.length c8, .slice A9 s.logs.length c9, .slice A10 s.pend.length c10] 38)) w.heap.size [83] (by simp) (by decide); (have e : (w.alloc (.cells #[.int .i64 s.id, .int .i64 s.task, .int .i64 s.base, .int .u32 s.sum, .int .i64 s.snum, .slice A5 s.cells.length c5, .int .i64 s.dnum, .slice A7 s.set.length c7, .slice A8 s.gone.length c8, .slice A9 s.logs.length c9, .slice A10 s.pend.length c10] 38)).heap.size = w.heap.size + 1 := by simp); rw [e] at h; exact h⟩
  refine (putNumber_calls w.heap.size _ _ [83] s.id HK.out.id.1 (by have := HK.out.id.2; omega) ?hr ?hs (by have h := HL.out; rw [HE.out] at h; simp only [encFront, encDelta, encLogs, encSt, List.length_append, List.length_cons, List.length_nil, word] at h ⊢; omega)).mono ?_
  case hr => exact HR.out
  case hs => simp; omega
  rintro e w1 ⟨u1, rfl, h1, h2⟩
  have HR1 := Aside0.mk h1
  have HU1 := Aside0.mk (U5.trans (b := w.heap.size) (w := w) (by repeat (with_reducible first | exact U5.refl _ _ | apply U5.drew | apply U5.drewN | apply U5.alloc)) h2)
  have HB1 := Aside0.mk (h2.blk (by repeat (with_reducible first | exact HB.out | apply blk_drew | apply blk_drewN | apply blk_alloc)) (by decide))
  clear h1 h2
  have n1_1 := blk_cell HB1.out 1
  have n1_2 := blk_cell HB1.out 2
  simp only [List.getElem?_toArray, List.getElem?_cons_succ, List.getElem?_cons_zero] at n1_1 n1_2
  go_wp2
  refine start_ (n := 8) (S := fun w' => w'.cell? ⟨w.heap.size, 1, none⟩ = some (.int .i64 s.task) ∧ w'.cell? ⟨w.heap.size, 2, none⟩ = some (.int .i64 s.base)) (ds := [6]) #[false, false, false, false, false, false, false, false] (by kernel_rfl) rfl rfl ⟨n1_1, n1_2⟩ (fun hHeld => ?_)
  refine zq 0 (some 8) ?_
  refine zq 1 (some 9) ?_
  refine zq 4 (some 12) ?_
  refine zu 2 (some 10) hHeld ?_
  refine zu 5 (some 13) hHeld ?_
  refine one_ (i := 3) (N := some 11) #[true, true, true, true, true, true, false, false] rfl rfl (by kernel_rfl) (by decide) (fun K hK => ?_)
  refine goes_ Tryz.func54 (by kernel_rfl) rfl #[u1, .int .i64 s.task] (by rfl) rfl rfl (by simp only [List.map_toArray, List.map_cons, List.map_nil]; rfl) ?_
  refine (putNumber_calls w.heap.size _ u1 ([83] ++ grp s.id) s.task HK.out.task.1 (by have := HK.out.task.2; omega) ?hr ?hs (by have h := HL.out; rw [HE.out] at h; simp only [encFront, encDelta, encLogs, encSt, List.length_append, List.length_cons, List.length_nil, word] at h ⊢; omega)).mono ?_
  case hr => exact (by repeat (with_reducible first | exact HR1.out | apply R5.drew | apply R5.drewN | apply R5.alloc))
  case hs => exact (Nat.le_trans hb (U5.size (b := w.heap.size) (by repeat (with_reducible first | exact HU1.out | apply U5.drew | apply U5.drewN | apply U5.alloc))))
  rintro e w2 ⟨u2, rfl, h1, h2⟩
  have HR2 := Aside0.mk h1
  have HU2 := Aside0.mk (U5.trans (b := w.heap.size) (w := w) (by repeat (with_reducible first | exact HU1.out | apply U5.drew | apply U5.drewN | apply U5.alloc)) h2)
  have HB2 := Aside0.mk (h2.blk (by repeat (with_reducible first | exact HB1.out | apply blk_drew | apply blk_drewN | apply blk_alloc)) (by decide))
  clear h1 h2
  refine ⟨_, rfl, ?_⟩
  refine hK.out _ _ ⟨(blk_cell HB2.out 1), (blk_cell HB2.out 2)⟩ (fun hHeld => ?_)
  clear hK K
  refine norm_ (a' := ?_) ?_ ?_
  rotate_left
  ·show Act.put _ (some 11) _ = _
   simp only [Act.put, zla, zlb, zlc, i64_w, i32_w]
   rfl
  refine last_ (i := 6) (N := some 14) #[true, true, true, true, true, true, true, false] rfl rfl (by kernel_rfl) (by decide) (fun K hK => ?_)
  refine goes_ Tryz.func54 (by kernel_rfl) rfl #[u2, .int .i64 s.base] (by rfl) rfl rfl (by simp only [List.map_toArray, List.map_cons, List.map_nil]; rfl) ?_
  refine (putNumber_calls w.heap.size _ u2 (([83] ++ grp s.id) ++ grp s.task) s.base HK.out.base.1 (by have := HK.out.base.2; omega) ?hr ?hs (by have h := HL.out; rw [HE.out] at h; simp only [encFront, encDelta, encLogs, encSt, List.length_append, List.length_cons, List.length_nil, word] at h ⊢; omega)).mono ?_
  case hr => exact (by repeat (with_reducible first | exact HR2.out | apply R5.drew | apply R5.drewN | apply R5.alloc))
  case hs => exact (Nat.le_trans hb (U5.size (b := w.heap.size) (by repeat (with_reducible first | exact HU2.out | apply U5.drew | apply U5.drewN | apply U5.alloc))))
  rintro e w3 ⟨u3, rfl, h1, h2⟩
  have HR3 := Aside0.mk h1
  have HU3 := Aside0.mk (U5.trans (b := w.heap.size) (w := w) (by repeat (with_reducible first | exact HU2.out | apply U5.drew | apply U5.drewN | apply U5.alloc)) h2)
  have HB3 := Aside0.mk (h2.blk (by repeat (with_reducible first | exact HB2.out | apply blk_drew | apply blk_drewN | apply blk_alloc)) (by decide))
  clear h1 h2
  refine ⟨_, rfl, ?_⟩
  refine hK.out _ _ ?_
  clear hK K
  refine norm_ (a' := ?_) ?_ ?_
  rotate_left
  ·show Act.put _ (some 14) _ = _
   simp only [Act.put, zla, zlb, zlc, i64_w, i32_w]
   rfl
  refine zq 7 (some 3) ?_
  refine done_ (by kernel_rfl) ?_
  have n3_2 := blk_cell HB3.out 2
  simp only [List.getElem?_toArray, List.getElem?_cons_succ, List.getElem?_cons_zero] at n3_2
  clear n3_2
  have n3_2 := blk_cell HB3.out 2
  have n3_4 := blk_cell HB3.out 4
  have n3_5 := blk_cell HB3.out 5
  simp only [List.getElem?_toArray, List.getElem?_cons_succ, List.getElem?_cons_zero] at n3_2 n3_4 n3_5
  go_wp2_with fail
  refine (putState_calls w.heap.size _ u3 ((([83] ++ grp s.id) ++ grp s.task) ++ grp s.base) s.snum s.cells A5 c5 ?hr ?hs ?hi0 l5 (HK.out.snum hz'.out).1 (by have := (HK.out.snum hz'.out).2; omega) (HK.out.cells hz'.out) (by have h := HL.out; rw [HE.out] at h; simp only [encFront, encDelta, encLogs, encSt, List.length_append, List.length_cons, List.length_nil, word] at h ⊢; omega)).mono ?_
  case hr => exact (by repeat (with_reducible first | exact HR3.out | apply R5.drew | apply R5.drewN | apply R5.alloc))
  case hs => exact (Nat.le_trans hb (U5.size (b := w.heap.size) (by repeat (with_reducible first | exact HU3.out | apply U5.drew | apply U5.drewN | apply U5.alloc))))
  case hi0 => exact (HI5.out.ext5 hb (by repeat (with_reducible first | exact HU3.out | apply U5.drew | apply U5.drewN | apply U5.alloc)))
  rintro e w4 ⟨u4, rfl, h1, h2⟩
  have HR4 := Aside0.mk h1
  have HU4 := Aside0.mk (U5.trans (b := w.heap.size) (w := w) (by repeat (with_reducible first | exact HU3.out | apply U5.drew | apply U5.drewN | apply U5.alloc)) h2)
  have HB4 := Aside0.mk (h2.blk (by repeat (with_reducible first | exact HB3.out | apply blk_drew | apply blk_drewN | apply blk_alloc)) (by decide))
  clear h1 h2
  have n4_9 := blk_cell HB4.out 9
  have n4_10 := blk_cell HB4.out 10
  simp only [List.getElem?_toArray, List.getElem?_cons_succ, List.getElem?_cons_zero] at n4_9 n4_10
  go_wp2
  refine start_ (n := 8) (S := fun w' => w'.cell? ⟨w.heap.size, 9, none⟩ = some (.slice A9 s.logs.length c9) ∧ w'.cell? ⟨w.heap.size, 10, none⟩ = some (.slice A10 s.pend.length c10)) (ds := [6]) #[false, false, false, false, false, false, false, false] (by kernel_rfl) rfl rfl ⟨n4_9, n4_10⟩ (fun hHeld => ?_)
  refine zq 0 (some 40) ?_
  refine zq 1 (some 41) ?_
  refine zq 4 (some 44) ?_
  refine zu 2 (some 42) hHeld ?_
  refine zu 5 (some 45) hHeld ?_
  refine one_ (i := 3) (N := some 43) #[true, true, true, true, true, true, false, false] rfl rfl (by kernel_rfl) (by decide) (fun K hK => ?_)
  refine goes_ Tryz.func97 (by kernel_rfl) rfl #[u4, .slice A9 s.logs.length c9, .func (.func 96) #[] #[]] (by rfl) rfl rfl (by simp only [List.map_toArray, List.map_cons, List.map_nil]; rfl) ?_
  refine (putLogs_calls w.heap.size _ u4 (((([83] ++ grp s.id) ++ grp s.task) ++ grp s.base) ++ encSt s.snum s.cells) s.logs A9 c9 ?hr ?hs ?hi0 HK.out.logs (by have h := HL.out; rw [HE.out] at h; simp only [encFront, encDelta, encLogs, encSt, List.length_append, List.length_cons, List.length_nil, word] at h ⊢; omega)).mono ?_
  case hr => exact (by repeat (with_reducible first | exact HR4.out | apply R5.drew | apply R5.drewN | apply R5.alloc))
  case hs => exact (Nat.le_trans hb (U5.size (b := w.heap.size) (by repeat (with_reducible first | exact HU4.out | apply U5.drew | apply U5.drewN | apply U5.alloc))))
  case hi0 => exact (HI9.out.ext5 hb (by repeat (with_reducible first | exact HU4.out | apply U5.drew | apply U5.drewN | apply U5.alloc)))
  rintro e w5 ⟨u5, rfl, h1, h2⟩
  have HR5 := Aside0.mk h1
  have HU5 := Aside0.mk (U5.trans (b := w.heap.size) (w := w) (by repeat (with_reducible first | exact HU4.out | apply U5.drew | apply U5.drewN | apply U5.alloc)) h2)
  have HB5 := Aside0.mk (h2.blk (by repeat (with_reducible first | exact HB4.out | apply blk_drew | apply blk_drewN | apply blk_alloc)) (by decide))
  clear h1 h2
  refine ⟨_, rfl, ?_⟩
  refine hK.out _ _ ⟨(blk_cell HB5.out 9), (blk_cell HB5.out 10)⟩ (fun hHeld => ?_)
  clear hK K
  refine norm_ (a' := ?_) ?_ ?_
  rotate_left
  ·show Act.put _ (some 43) _ = _
   simp only [Act.put, zla, zlb, zlc, i64_w, i32_w]
   rfl
  refine last_ (i := 6) (N := some 46) #[true, true, true, true, true, true, true, false] rfl rfl (by kernel_rfl) (by decide) (fun K hK => ?_)
  refine goes_ Tryz.func96 (by kernel_rfl) rfl #[u5, .slice A10 s.pend.length c10] (by rfl) rfl rfl (by simp only [List.map_toArray, List.map_cons, List.map_nil]; rfl) ?_
  refine (putRecords_calls w.heap.size _ u5 ((((([83] ++ grp s.id) ++ grp s.task) ++ grp s.base) ++ encSt s.snum s.cells) ++ lst (lst encR) s.logs) s.pend A10 c10 ?hr ?hs ?hi0 HK.out.pend (by have h := HL.out; rw [HE.out] at h; simp only [encFront, encDelta, encLogs, encSt, List.length_append, List.length_cons, List.length_nil, word] at h ⊢; omega)).mono ?_
  case hr => exact (by repeat (with_reducible first | exact HR5.out | apply R5.drew | apply R5.drewN | apply R5.alloc))
  case hs => exact (Nat.le_trans hb (U5.size (b := w.heap.size) (by repeat (with_reducible first | exact HU5.out | apply U5.drew | apply U5.drewN | apply U5.alloc))))
  case hi0 => exact (HI10.out.ext5 hb (by repeat (with_reducible first | exact HU5.out | apply U5.drew | apply U5.drewN | apply U5.alloc)))
  rintro e w6 ⟨u6, rfl, h1, h2⟩
  have HR6 := Aside0.mk h1
  have HU6 := Aside0.mk (U5.trans (b := w.heap.size) (w := w) (by repeat (with_reducible first | exact HU5.out | apply U5.drew | apply U5.drewN | apply U5.alloc)) h2)
  have HB6 := Aside0.mk (h2.blk (by repeat (with_reducible first | exact HB5.out | apply blk_drew | apply blk_drewN | apply blk_alloc)) (by decide))
  clear h1 h2
  refine ⟨_, rfl, ?_⟩
  refine hK.out _ _ ?_
  clear hK K
  refine norm_ (a' := ?_) ?_ ?_
  rotate_left
  ·show Act.put _ (some 46) _ = _
   simp only [Act.put, zla, zlb, zlc, i64_w, i32_w]
   rfl
  refine zq 7 (some 2) ?_
  refine done_ (by kernel_rfl) ?_
  go_wp2
  go_ret
  exact ⟨u6, rfl, (by have h := HR6.out; rw [HE.out]; simpa only [encFront, encDelta, encLogs, encSt, List.append_assoc, List.cons_append, List.nil_append] using h), U5.below (b := w.heap.size) (by repeat (with_reducible first | exact HU6.out | apply U5.drew | apply U5.drewN | apply U5.alloc)) (Nat.le_refl _)⟩
 ·skip
  have e2 : (s.base == 0) = false := by simpa using hz
  have hz' := Aside0.mk hz
  clear hz
  have hE : encSeg s = encFront s ++ encDelta s ++ encLogs s := by unfold encSeg; rw [if_neg hz'.out]
  have HE := Aside0.mk hE
  clear hE
  go_enter Tryz.func53, Tryz.ntmps53
  go_wp2_with fail
  have HB := Aside0.mk (blk_alloc (heap_alloc_new w (.cells #[.int .i64 s.id, .int .i64 s.task, .int .i64 s.base, .int .u32 s.sum, .int .i64 s.snum, .slice A5 s.cells.length c5, .int .i64 s.dnum, .slice A7 s.set.length c7, .slice A8 s.gone.length c8, .slice A9 s.logs.length c9, .slice A10 s.pend.length c10] 38)) (.cells #[.int .u8 83] 5))
  have HR : Aside0 (R5 w.heap.size ((w.alloc (.cells #[.int .i64 s.id, .int .i64 s.task, .int .i64 s.base, .int .u32 s.sum, .int .i64 s.snum, .slice A5 s.cells.length c5, .int .i64 s.dnum, .slice A7 s.set.length c7, .slice A8 s.gone.length c8, .slice A9 s.logs.length c9, .slice A10 s.pend.length c10] 38)).alloc (.cells #[.int .u8 83] 5)) (.slice (some ⟨w.heap.size + 1, 0, none⟩) 1 1) [83]) := ⟨by have h := R5.lit (w.alloc (.cells #[.int .i64 s.id, .int .i64 s.task, .int .i64 s.base, .int .u32 s.sum, .int .i64 s.snum, .slice A5 s.cells.length c5, .int .i64 s.dnum, .slice A7 s.set.length c7, .slice A8 s.gone.length c8, .slice A9 s.logs.length c9, .slice A10 s.pend.length c10] 38)) w.heap.size [83] (by simp) (by decide); (have e : (w.alloc (.cells #[.int .i64 s.id, .int .i64 s.task, .int .i64 s.base, .int .u32 s.sum, .int .i64 s.snum, .slice A5 s.cells.length c5, .int .i64 s.dnum, .slice A7 s.set.length c7, .slice A8 s.gone.length c8, .slice A9 s.logs.length c9, .slice A10 s.pend.length c10] 38)).heap.size = w.heap.size + 1 := by simp); rw [e] at h; exact h⟩
  refine (putNumber_calls w.heap.size _ _ [83] s.id HK.out.id.1 (by have := HK.out.id.2; omega) ?hr ?hs (by have h := HL.out; rw [HE.out] at h; simp only [encFront, encDelta, encLogs, encSt, List.length_append, List.length_cons, List.length_nil, word] at h ⊢; omega)).mono ?_
  case hr => exact HR.out
  case hs => simp; omega
  rintro e w1 ⟨u1, rfl, h1, h2⟩
  have HR1 := Aside0.mk h1
  have HU1 := Aside0.mk (U5.trans (b := w.heap.size) (w := w) (by repeat (with_reducible first | exact U5.refl _ _ | apply U5.drew | apply U5.drewN | apply U5.alloc)) h2)
  have HB1 := Aside0.mk (h2.blk (by repeat (with_reducible first | exact HB.out | apply blk_drew | apply blk_drewN | apply blk_alloc)) (by decide))
  clear h1 h2
  have n1_1 := blk_cell HB1.out 1
  have n1_2 := blk_cell HB1.out 2
  simp only [List.getElem?_toArray, List.getElem?_cons_succ, List.getElem?_cons_zero] at n1_1 n1_2
  go_wp2
  refine start_ (n := 8) (S := fun w' => w'.cell? ⟨w.heap.size, 1, none⟩ = some (.int .i64 s.task) ∧ w'.cell? ⟨w.heap.size, 2, none⟩ = some (.int .i64 s.base)) (ds := [6]) #[false, false, false, false, false, false, false, false] (by kernel_rfl) rfl rfl ⟨n1_1, n1_2⟩ (fun hHeld => ?_)
  refine zq 0 (some 8) ?_
  refine zq 1 (some 9) ?_
  refine zq 4 (some 12) ?_
  refine zu 2 (some 10) hHeld ?_
  refine zu 5 (some 13) hHeld ?_
  refine one_ (i := 3) (N := some 11) #[true, true, true, true, true, true, false, false] rfl rfl (by kernel_rfl) (by decide) (fun K hK => ?_)
  refine goes_ Tryz.func54 (by kernel_rfl) rfl #[u1, .int .i64 s.task] (by rfl) rfl rfl (by simp only [List.map_toArray, List.map_cons, List.map_nil]; rfl) ?_
  refine (putNumber_calls w.heap.size _ u1 ([83] ++ grp s.id) s.task HK.out.task.1 (by have := HK.out.task.2; omega) ?hr ?hs (by have h := HL.out; rw [HE.out] at h; simp only [encFront, encDelta, encLogs, encSt, List.length_append, List.length_cons, List.length_nil, word] at h ⊢; omega)).mono ?_
  case hr => exact (by repeat (with_reducible first | exact HR1.out | apply R5.drew | apply R5.drewN | apply R5.alloc))
  case hs => exact (Nat.le_trans hb (U5.size (b := w.heap.size) (by repeat (with_reducible first | exact HU1.out | apply U5.drew | apply U5.drewN | apply U5.alloc))))
  rintro e w2 ⟨u2, rfl, h1, h2⟩
  have HR2 := Aside0.mk h1
  have HU2 := Aside0.mk (U5.trans (b := w.heap.size) (w := w) (by repeat (with_reducible first | exact HU1.out | apply U5.drew | apply U5.drewN | apply U5.alloc)) h2)
  have HB2 := Aside0.mk (h2.blk (by repeat (with_reducible first | exact HB1.out | apply blk_drew | apply blk_drewN | apply blk_alloc)) (by decide))
  clear h1 h2
  refine ⟨_, rfl, ?_⟩
  refine hK.out _ _ ⟨(blk_cell HB2.out 1), (blk_cell HB2.out 2)⟩ (fun hHeld => ?_)
  clear hK K
  refine norm_ (a' := ?_) ?_ ?_
  rotate_left
  ·show Act.put _ (some 11) _ = _
   simp only [Act.put, zla, zlb, zlc, i64_w, i32_w]
   rfl
  refine last_ (i := 6) (N := some 14) #[true, true, true, true, true, true, true, false] rfl rfl (by kernel_rfl) (by decide) (fun K hK => ?_)
  refine goes_ Tryz.func54 (by kernel_rfl) rfl #[u2, .int .i64 s.base] (by rfl) rfl rfl (by simp only [List.map_toArray, List.map_cons, List.map_nil]; rfl) ?_
  refine (putNumber_calls w.heap.size _ u2 (([83] ++ grp s.id) ++ grp s.task) s.base HK.out.base.1 (by have := HK.out.base.2; omega) ?hr ?hs (by have h := HL.out; rw [HE.out] at h; simp only [encFront, encDelta, encLogs, encSt, List.length_append, List.length_cons, List.length_nil, word] at h ⊢; omega)).mono ?_
  case hr => exact (by repeat (with_reducible first | exact HR2.out | apply R5.drew | apply R5.drewN | apply R5.alloc))
  case hs => exact (Nat.le_trans hb (U5.size (b := w.heap.size) (by repeat (with_reducible first | exact HU2.out | apply U5.drew | apply U5.drewN | apply U5.alloc))))
  rintro e w3 ⟨u3, rfl, h1, h2⟩
  have HR3 := Aside0.mk h1
  have HU3 := Aside0.mk (U5.trans (b := w.heap.size) (w := w) (by repeat (with_reducible first | exact HU2.out | apply U5.drew | apply U5.drewN | apply U5.alloc)) h2)
  have HB3 := Aside0.mk (h2.blk (by repeat (with_reducible first | exact HB2.out | apply blk_drew | apply blk_drewN | apply blk_alloc)) (by decide))
  clear h1 h2
  refine ⟨_, rfl, ?_⟩
  refine hK.out _ _ ?_
  clear hK K
  refine norm_ (a' := ?_) ?_ ?_
  rotate_left
  ·show Act.put _ (some 14) _ = _
   simp only [Act.put, zla, zlb, zlc, i64_w, i32_w]
   rfl
  refine zq 7 (some 3) ?_
  refine done_ (by kernel_rfl) ?_
  have n3_2 := blk_cell HB3.out 2
  simp only [List.getElem?_toArray, List.getElem?_cons_succ, List.getElem?_cons_zero] at n3_2
  clear n3_2
  have n3_2 := blk_cell HB3.out 2
  have n3_3 := blk_cell HB3.out 3
  simp only [List.getElem?_toArray, List.getElem?_cons_succ, List.getElem?_cons_zero] at n3_2 n3_3
  go_wp2_with fail
  refine (putWord_calls w.heap.size _ u3 ((([83] ++ grp s.id) ++ grp s.task) ++ grp s.base) s.sum HK.out.sum.1 HK.out.sum.2 ?hr ?hs (by have h := HL.out; rw [HE.out] at h; simp only [encFront, encDelta, encLogs, encSt, List.length_append, List.length_cons, List.length_nil, word] at h ⊢; omega)).mono ?_
  case hr => exact (by repeat (with_reducible first | exact HR3.out | apply R5.drew | apply R5.drewN | apply R5.alloc))
  case hs => exact (Nat.le_trans hb (U5.size (b := w.heap.size) (by repeat (with_reducible first | exact HU3.out | apply U5.drew | apply U5.drewN | apply U5.alloc))))
  rintro e w4 ⟨u4, rfl, h1, h2⟩
  have HR4 := Aside0.mk h1
  have HU4 := Aside0.mk (U5.trans (b := w.heap.size) (w := w) (by repeat (with_reducible first | exact HU3.out | apply U5.drew | apply U5.drewN | apply U5.alloc)) h2)
  have HB4 := Aside0.mk (h2.blk (by repeat (with_reducible first | exact HB3.out | apply blk_drew | apply blk_drewN | apply blk_alloc)) (by decide))
  clear h1 h2
  have n4_6 := blk_cell HB4.out 6
  have n4_7 := blk_cell HB4.out 7
  simp only [List.getElem?_toArray, List.getElem?_cons_succ, List.getElem?_cons_zero] at n4_6 n4_7
  go_wp2
  refine start_ (n := 10) (S := fun w' => w'.cell? ⟨w.heap.size, 6, none⟩ = some (.int .i64 s.dnum) ∧ w'.cell? ⟨w.heap.size, 7, none⟩ = some (.slice A7 s.set.length c7)) (ds := [8]) #[false, false, false, false, false, false, false, false, false, false] (by kernel_rfl) rfl rfl ⟨n4_6, n4_7⟩ (fun hHeld => ?_)
  refine zq 0 (some 26) ?_
  refine zq 1 (some 27) ?_
  refine zq 2 (some 28) ?_
  refine zq 5 (some 31) ?_
  refine zq 6 (some 32) ?_
  refine zu 3 (some 29) hHeld ?_
  refine zu 7 (some 33) hHeld ?_
  refine one_ (i := 4) (N := some 30) #[true, true, true, true, true, true, true, true, false, false] rfl rfl (by kernel_rfl) (by decide) (fun K hK => ?_)
  refine goes_ Tryz.func54 (by kernel_rfl) rfl #[u4, .int .i64 s.dnum] (by rfl) rfl rfl (by simp only [List.map_toArray, List.map_cons, List.map_nil]; rfl) ?_
  refine (putNumber_calls w.heap.size _ u4 (((([83] ++ grp s.id) ++ grp s.task) ++ grp s.base) ++ word s.sum) s.dnum (HK.out.dnum hz'.out).1 (by have := (HK.out.dnum hz'.out).2; omega) ?hr ?hs (by have h := HL.out; rw [HE.out] at h; simp only [encFront, encDelta, encLogs, encSt, List.length_append, List.length_cons, List.length_nil, word] at h ⊢; omega)).mono ?_
  case hr => exact (by repeat (with_reducible first | exact HR4.out | apply R5.drew | apply R5.drewN | apply R5.alloc))
  case hs => exact (Nat.le_trans hb (U5.size (b := w.heap.size) (by repeat (with_reducible first | exact HU4.out | apply U5.drew | apply U5.drewN | apply U5.alloc))))
  rintro e w5 ⟨u5, rfl, h1, h2⟩
  have HR5 := Aside0.mk h1
  have HU5 := Aside0.mk (U5.trans (b := w.heap.size) (w := w) (by repeat (with_reducible first | exact HU4.out | apply U5.drew | apply U5.drewN | apply U5.alloc)) h2)
  have HB5 := Aside0.mk (h2.blk (by repeat (with_reducible first | exact HB4.out | apply blk_drew | apply blk_drewN | apply blk_alloc)) (by decide))
  clear h1 h2
  refine ⟨_, rfl, ?_⟩
  refine hK.out _ _ ⟨(blk_cell HB5.out 6), (blk_cell HB5.out 7)⟩ (fun hHeld => ?_)
  clear hK K
  refine norm_ (a' := ?_) ?_ ?_
  rotate_left
  ·show Act.put _ (some 30) _ = _
   simp only [Act.put, zla, zlb, zlc, i64_w, i32_w]
   rfl
  refine last_ (i := 8) (N := some 34) #[true, true, true, true, true, true, true, true, true, false] rfl rfl (by kernel_rfl) (by decide) (fun K hK => ?_)
  refine goes_ Tryz.func90 (by kernel_rfl) rfl #[u5, .slice A7 s.set.length c7, .func (.func 91) #[] #[]] (by rfl) rfl rfl (by simp only [List.map_toArray, List.map_cons, List.map_nil]; rfl) ?_
  refine (putCells_calls w.heap.size _ u5 ((((([83] ++ grp s.id) ++ grp s.task) ++ grp s.base) ++ word s.sum) ++ grp s.dnum) s.set A7 c7 ?hr ?hs ?hi0 (HK.out.set hz'.out) (by have h := HL.out; rw [HE.out] at h; simp only [encFront, encDelta, encLogs, encSt, List.length_append, List.length_cons, List.length_nil, word] at h ⊢; omega)).mono ?_
  case hr => exact (by repeat (with_reducible first | exact HR5.out | apply R5.drew | apply R5.drewN | apply R5.alloc))
  case hs => exact (Nat.le_trans hb (U5.size (b := w.heap.size) (by repeat (with_reducible first | exact HU5.out | apply U5.drew | apply U5.drewN | apply U5.alloc))))
  case hi0 => exact (HI7.out.ext5 hb (by repeat (with_reducible first | exact HU5.out | apply U5.drew | apply U5.drewN | apply U5.alloc)))
  rintro e w6 ⟨u6, rfl, h1, h2⟩
  have HR6 := Aside0.mk h1
  have HU6 := Aside0.mk (U5.trans (b := w.heap.size) (w := w) (by repeat (with_reducible first | exact HU5.out | apply U5.drew | apply U5.drewN | apply U5.alloc)) h2)
  have HB6 := Aside0.mk (h2.blk (by repeat (with_reducible first | exact HB5.out | apply blk_drew | apply blk_drewN | apply blk_alloc)) (by decide))
  clear h1 h2
  refine ⟨_, rfl, ?_⟩
  refine hK.out _ _ ?_
  clear hK K
  refine norm_ (a' := ?_) ?_ ?_
  rotate_left
  ·show Act.put _ (some 34) _ = _
   simp only [Act.put, zla, zlb, zlc, i64_w, i32_w]
   rfl
  refine zq 9 (some 3) ?_
  refine done_ (by kernel_rfl) ?_
  have n6_8 := blk_cell HB6.out 8
  simp only [List.getElem?_toArray, List.getElem?_cons_succ, List.getElem?_cons_zero] at n6_8
  go_wp2_with fail
  refine (putKeys_calls w.heap.size _ u6 (((((([83] ++ grp s.id) ++ grp s.task) ++ grp s.base) ++ word s.sum) ++ grp s.dnum) ++ lst encC s.set) s.gone A8 c8 ?hr ?hs ?hi0 (HK.out.gone hz'.out) (by have h := HL.out; rw [HE.out] at h; simp only [encFront, encDelta, encLogs, encSt, List.length_append, List.length_cons, List.length_nil, word] at h ⊢; omega)).mono ?_
  case hr => exact (by repeat (with_reducible first | exact HR6.out | apply R5.drew | apply R5.drewN | apply R5.alloc))
  case hs => exact (Nat.le_trans hb (U5.size (b := w.heap.size) (by repeat (with_reducible first | exact HU6.out | apply U5.drew | apply U5.drewN | apply U5.alloc))))
  case hi0 => exact (HI8.out.ext5 hb (by repeat (with_reducible first | exact HU6.out | apply U5.drew | apply U5.drewN | apply U5.alloc)))
  rintro e w7 ⟨u7, rfl, h1, h2⟩
  have HR7 := Aside0.mk h1
  have HU7 := Aside0.mk (U5.trans (b := w.heap.size) (w := w) (by repeat (with_reducible first | exact HU6.out | apply U5.drew | apply U5.drewN | apply U5.alloc)) h2)
  have HB7 := Aside0.mk (h2.blk (by repeat (with_reducible first | exact HB6.out | apply blk_drew | apply blk_drewN | apply blk_alloc)) (by decide))
  clear h1 h2
  have n7_9 := blk_cell HB7.out 9
  have n7_10 := blk_cell HB7.out 10
  simp only [List.getElem?_toArray, List.getElem?_cons_succ, List.getElem?_cons_zero] at n7_9 n7_10
  go_wp2
  refine start_ (n := 8) (S := fun w' => w'.cell? ⟨w.heap.size, 9, none⟩ = some (.slice A9 s.logs.length c9) ∧ w'.cell? ⟨w.heap.size, 10, none⟩ = some (.slice A10 s.pend.length c10)) (ds := [6]) #[false, false, false, false, false, false, false, false] (by kernel_rfl) rfl rfl ⟨n7_9, n7_10⟩ (fun hHeld => ?_)
  refine zq 0 (some 40) ?_
  refine zq 1 (some 41) ?_
  refine zq 4 (some 44) ?_
  refine zu 2 (some 42) hHeld ?_
  refine zu 5 (some 45) hHeld ?_
  refine one_ (i := 3) (N := some 43) #[true, true, true, true, true, true, false, false] rfl rfl (by kernel_rfl) (by decide) (fun K hK => ?_)
  refine goes_ Tryz.func97 (by kernel_rfl) rfl #[u7, .slice A9 s.logs.length c9, .func (.func 96) #[] #[]] (by rfl) rfl rfl (by simp only [List.map_toArray, List.map_cons, List.map_nil]; rfl) ?_
  refine (putLogs_calls w.heap.size _ u7 ((((((([83] ++ grp s.id) ++ grp s.task) ++ grp s.base) ++ word s.sum) ++ grp s.dnum) ++ lst encC s.set) ++ lst keyB s.gone) s.logs A9 c9 ?hr ?hs ?hi0 HK.out.logs (by have h := HL.out; rw [HE.out] at h; simp only [encFront, encDelta, encLogs, encSt, List.length_append, List.length_cons, List.length_nil, word] at h ⊢; omega)).mono ?_
  case hr => exact (by repeat (with_reducible first | exact HR7.out | apply R5.drew | apply R5.drewN | apply R5.alloc))
  case hs => exact (Nat.le_trans hb (U5.size (b := w.heap.size) (by repeat (with_reducible first | exact HU7.out | apply U5.drew | apply U5.drewN | apply U5.alloc))))
  case hi0 => exact (HI9.out.ext5 hb (by repeat (with_reducible first | exact HU7.out | apply U5.drew | apply U5.drewN | apply U5.alloc)))
  rintro e w8 ⟨u8, rfl, h1, h2⟩
  have HR8 := Aside0.mk h1
  have HU8 := Aside0.mk (U5.trans (b := w.heap.size) (w := w) (by repeat (with_reducible first | exact HU7.out | apply U5.drew | apply U5.drewN | apply U5.alloc)) h2)
  have HB8 := Aside0.mk (h2.blk (by repeat (with_reducible first | exact HB7.out | apply blk_drew | apply blk_drewN | apply blk_alloc)) (by decide))
  clear h1 h2
  refine ⟨_, rfl, ?_⟩
  refine hK.out _ _ ⟨(blk_cell HB8.out 9), (blk_cell HB8.out 10)⟩ (fun hHeld => ?_)
  clear hK K
  refine norm_ (a' := ?_) ?_ ?_
  rotate_left
  ·show Act.put _ (some 43) _ = _
   simp only [Act.put, zla, zlb, zlc, i64_w, i32_w]
   rfl
  refine last_ (i := 6) (N := some 46) #[true, true, true, true, true, true, true, false] rfl rfl (by kernel_rfl) (by decide) (fun K hK => ?_)
  refine goes_ Tryz.func96 (by kernel_rfl) rfl #[u8, .slice A10 s.pend.length c10] (by rfl) rfl rfl (by simp only [List.map_toArray, List.map_cons, List.map_nil]; rfl) ?_
  refine (putRecords_calls w.heap.size _ u8 (((((((([83] ++ grp s.id) ++ grp s.task) ++ grp s.base) ++ word s.sum) ++ grp s.dnum) ++ lst encC s.set) ++ lst keyB s.gone) ++ lst (lst encR) s.logs) s.pend A10 c10 ?hr ?hs ?hi0 HK.out.pend (by have h := HL.out; rw [HE.out] at h; simp only [encFront, encDelta, encLogs, encSt, List.length_append, List.length_cons, List.length_nil, word] at h ⊢; omega)).mono ?_
  case hr => exact (by repeat (with_reducible first | exact HR8.out | apply R5.drew | apply R5.drewN | apply R5.alloc))
  case hs => exact (Nat.le_trans hb (U5.size (b := w.heap.size) (by repeat (with_reducible first | exact HU8.out | apply U5.drew | apply U5.drewN | apply U5.alloc))))
  case hi0 => exact (HI10.out.ext5 hb (by repeat (with_reducible first | exact HU8.out | apply U5.drew | apply U5.drewN | apply U5.alloc)))
  rintro e w9 ⟨u9, rfl, h1, h2⟩
  have HR9 := Aside0.mk h1
  have HU9 := Aside0.mk (U5.trans (b := w.heap.size) (w := w) (by repeat (with_reducible first | exact HU8.out | apply U5.drew | apply U5.drewN | apply U5.alloc)) h2)
  have HB9 := Aside0.mk (h2.blk (by repeat (with_reducible first | exact HB8.out | apply blk_drew | apply blk_drewN | apply blk_alloc)) (by decide))
  clear h1 h2
  refine ⟨_, rfl, ?_⟩
  refine hK.out _ _ ?_
  clear hK K
  refine norm_ (a' := ?_) ?_ ?_
  rotate_left
  ·show Act.put _ (some 46) _ = _
   simp only [Act.put, zla, zlb, zlc, i64_w, i32_w]
   rfl
  refine zq 7 (some 2) ?_
  refine done_ (by kernel_rfl) ?_
  go_wp2
  go_ret
  exact ⟨u9, rfl, (by have h := HR9.out; rw [HE.out]; simpa only [encFront, encDelta, encLogs, encSt, List.append_assoc, List.cons_append, List.nil_append] using h), U5.below (b := w.heap.size) (by repeat (with_reducible first | exact HU9.out | apply U5.drew | apply U5.drewN | apply U5.alloc)) (Nat.le_refl _)⟩
end Go.Proofs.YthmkioodkldgbaaGreat.DK
