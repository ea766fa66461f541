/- What each Go function named in this text computes, as a Lean function, and that the Go code comes to it; conditions: those in each theorem. (Lines written by this session's program.) -/
import Derived.Test.YthmkioodkldgbaaQpM04
import Derived.Test.YthmkioodkldgbaaQpM06
import Derived.Test.YthmkioodkldgbaaQpM07
namespace Go.Proofs.Ythmkioodkldgbaa.PD
open Go.RowKit Go.Proofs.YthmkioodkldgbaaW.PrintWords Go.Proofs.YthmkioodkldgbaaW.PrintLast Go.Proofs.YthmkioodkldgbaaW.PrintMore
attribute [local go_sem] max2_int min2_int max_two min_two max_three min_three max_four min_four   -- for this text's walks alone
set_option linter.unusedVariables false
set_option linter.unusedSimpArgs false
/-! ### wire_fitSegment: function 78 -/
mutual
def wire_fitSegment.j0 : Nat → Bool → Int → Int → Int → Int → Int → List (S121) → Int → List (S121) → List ByteArray → List (List (S28)) → List (S28) → Option (Int)
 | 0, _, _, _, _, _, _, _, _, _, _, _, _ => none
 | k + 1, x36, x352000, x352001, x352002, x352003, x352004, x352005, x352006, x352007, x352008, x352009, x352010 => if x36 = true then (some 43) else (if x352003 = 0 then (if x352006 = 0 then (if (x352007.length : Int) = 0 then (wire_fitSegment.j1 k ((x352008.length : Int) == 0) x352000 x352001 x352002 x352003 x352004 x352005 x352006 x352007 x352008 x352009 x352010) else (wire_fitSegment.j1 k false x352000 x352001 x352002 x352003 x352004 x352005 x352006 x352007 x352008 x352009 x352010)) else (wire_fitSegment.j1 k false x352000 x352001 x352002 x352003 x352004 x352005 x352006 x352007 x352008 x352009 x352010)) else (wire_fitSegment.j1 k false x352000 x352001 x352002 x352003 x352004 x352005 x352006 x352007 x352008 x352009 x352010))
def wire_fitSegment.j1 : Nat → Bool → Int → Int → Int → Int → Int → List (S121) → Int → List (S121) → List ByteArray → List (List (S28)) → List (S28) → Option (Int)
 | 0, _, _, _, _, _, _, _, _, _, _, _, _ => none
 | k + 1, x3, x352000, x352001, x352002, x352003, x352004, x352005, x352006, x352007, x352008, x352009, x352010 => if x352004 = 0 then (wire_fitSegment.j2 k x3 ((x352005.length : Int) == 0) x352000 x352001 x352002 x352003 x352004 x352005 x352006 x352007 x352008 x352009 x352010) else (wire_fitSegment.j2 k x3 false x352000 x352001 x352002 x352003 x352004 x352005 x352006 x352007 x352008 x352009 x352010)
def wire_fitSegment.j2 : Nat → Bool → Bool → Int → Int → Int → Int → Int → List (S121) → Int → List (S121) → List ByteArray → List (List (S28)) → List (S28) → Option (Int)
 | 0, _, _, _, _, _, _, _, _, _, _, _, _, _ => none
 | k + 1, x3, x4, x352000, x352001, x352002, x352003, x352004, x352005, x352006, x352007, x352008, x352009, x352010 => if x352002 = 0 then (wire_fitSegment.j3 k x4 (!x3) x352000 x352001 x352002 x352003 x352004 x352005 x352006 x352007 x352008 x352009 x352010) else (wire_fitSegment.j3 k x4 false x352000 x352001 x352002 x352003 x352004 x352005 x352006 x352007 x352008 x352009 x352010)
def wire_fitSegment.j5 : Nat → Int → Int → Int → Int → Int → Int → List (S121) → Int → List (S121) → List ByteArray → List (List (S28)) → List (S28) → Option (Int)
 | 0, _, _, _, _, _, _, _, _, _, _, _, _ => none
 | k + 1, x5, x352000, x352001, x352002, x352003, x352004, x352005, x352006, x352007, x352008, x352009, x352010 => if x5 = 0 then (if (x352009.length : Int) > 4 then (some 43) else (wire_fitSegment.l0 k x352009 (x352009.length : Int) 0 x352000 x352001 x352002 x352003 x352004 x352005 x352006 x352007 x352008 x352009 x352010)) else (some x5)
def wire_fitSegment.l0 : Nat → List (List (S28)) → Int → Int → Int → Int → Int → Int → Int → List (S121) → Int → List (S121) → List ByteArray → List (List (S28)) → List (S28) → Option (Int)
 | 0, _, _, _, _, _, _, _, _, _, _, _, _, _, _ => none
 | k + 1, x104, x105, x106, x352000, x352001, x352002, x352003, x352004, x352005, x352006, x352007, x352008, x352009, x352010 => if x106 < x105 then (if 0 ≤ x106 then (if x106 < (x104.length : Int) then ((wire_fitRecords.f k (rd_L7 x104 x106)).bind fun t355 => (if t355 = 0 then (wire_fitSegment.l0 k x104 x105 (wrap64 (x106 + 1)) x352000 x352001 x352002 x352003 x352004 x352005 x352006 x352007 x352008 x352009 x352010) else (some t355))) else (none)) else (none)) else ((wire_fitRecords.f k x352010).bind fun t356 => (some t356))
def wire_fitSegment.j3 : Nat → Bool → Bool → Int → Int → Int → Int → Int → List (S121) → Int → List (S121) → List ByteArray → List (List (S28)) → List (S28) → Option (Int)
 | 0, _, _, _, _, _, _, _, _, _, _, _, _, _ => none
 | k + 1, x4, x74, x352000, x352001, x352002, x352003, x352004, x352005, x352006, x352007, x352008, x352009, x352010 => if x74 = true then (wire_fitSegment.j4 k x74 x352000 x352001 x352002 x352003 x352004 x352005 x352006 x352007 x352008 x352009 x352010) else (if x352002 > 0 then (wire_fitSegment.j4 k (!x4) x352000 x352001 x352002 x352003 x352004 x352005 x352006 x352007 x352008 x352009 x352010) else (wire_fitSegment.j4 k false x352000 x352001 x352002 x352003 x352004 x352005 x352006 x352007 x352008 x352009 x352010))
def wire_fitSegment.j4 : Nat → Bool → Int → Int → Int → Int → Int → List (S121) → Int → List (S121) → List ByteArray → List (List (S28)) → List (S28) → Option (Int)
 | 0, _, _, _, _, _, _, _, _, _, _, _, _ => none
 | k + 1, x74, x352000, x352001, x352002, x352003, x352004, x352005, x352006, x352007, x352008, x352009, x352010 => if x74 = true then (some 41) else (if x352002 = 0 then ((value_CheckState.f k x352004 x352005).bind fun t352 => (wire_fitSegment.j5 k t352 x352000 x352001 x352002 x352003 x352004 x352005 x352006 x352007 x352008 x352009 x352010)) else ((wire_fitDelta.f k x352006 x352007 x352008).bind fun t353 => (wire_fitSegment.j5 k t353 x352000 x352001 x352002 x352003 x352004 x352005 x352006 x352007 x352008 x352009 x352010)))
end
def wire_fitSegment.f (k : Nat) (a0_0 : Int) (a0_1 : Int) (a0_2 : Int) (a0_3 : Int) (a0_4 : Int) (l0_5 : List (S121)) (a0_6 : Int) (l0_7 : List (S121)) (l0_8 : List ByteArray) (l0_9 : List (List (S28))) (l0_10 : List (S28)) : Option (Int) := if a0_0 < 0 then (wire_fitSegment.j0 k true a0_0 a0_1 a0_2 a0_3 a0_4 l0_5 a0_6 l0_7 l0_8 l0_9 l0_10) else (if a0_0 > 9999 then (wire_fitSegment.j0 k true a0_0 a0_1 a0_2 a0_3 a0_4 l0_5 a0_6 l0_7 l0_8 l0_9 l0_10) else (if a0_1 < 0 then (wire_fitSegment.j0 k true a0_0 a0_1 a0_2 a0_3 a0_4 l0_5 a0_6 l0_7 l0_8 l0_9 l0_10) else (if a0_1 ≥ 12 then (wire_fitSegment.j0 k true a0_0 a0_1 a0_2 a0_3 a0_4 l0_5 a0_6 l0_7 l0_8 l0_9 l0_10) else (if a0_2 < 0 then (wire_fitSegment.j0 k true a0_0 a0_1 a0_2 a0_3 a0_4 l0_5 a0_6 l0_7 l0_8 l0_9 l0_10) else (wire_fitSegment.j0 k (decide (a0_2 > 9999)) a0_0 a0_1 a0_2 a0_3 a0_4 l0_5 a0_6 l0_7 l0_8 l0_9 l0_10)))))
set_option maxHeartbeats 8000000 in
set_option maxRecDepth 100000 in
theorem wire_fitSegment.calls (k : Nat) (a0_0 : Int) (a0_1 : Int) (a0_2 : Int) (a0_3 : Int) (a0_4 : Int) (A0_5 : Option Addr) (c0_5 : Nat) (l0_5 : List (S121)) (a0_6 : Int) (A0_7 : Option Addr) (c0_7 : Nat) (l0_7 : List (S121)) (A0_8 : Option Addr) (c0_8 : Nat) (l0_8 : List ByteArray) (A0_9 : Option Addr) (c0_9 : Nat) (l0_9 : List (List (S28))) (A0_10 : Option Addr) (c0_10 : Nat) (l0_10 : List (S28)) (r : Int) (w : World) (hr0_5 : Kd.C k121 w A0_5 l0_5.length l0_5) (hc0_5 : l0_5.length ≤ c0_5) (hr0_7 : Kd.C k121 w A0_7 l0_7.length l0_7) (hc0_7 : l0_7.length ≤ c0_7) (hr0_8 : Kd.C Kd.string w A0_8 l0_8.length l0_8) (hc0_8 : l0_8.length ≤ c0_8) (hr0_9 : Kd.C (Kd.slice 28 k28) w A0_9 l0_9.length l0_9) (hc0_9 : l0_9.length ≤ c0_9) (hr0_10 : Kd.C k28 w A0_10 l0_10.length l0_10) (hc0_10 : l0_10.length ≤ c0_10) (h : wire_fitSegment.f k a0_0 a0_1 a0_2 a0_3 a0_4 l0_5 a0_6 l0_7 l0_8 l0_9 l0_10 = some r) :
  Calls Try.prog 78 #[.agg #[.int .i64 a0_0, .int .i64 a0_1, .int .i64 a0_2, .int .u32 a0_3, .int .i64 a0_4, .slice A0_5 l0_5.length c0_5, .int .i64 a0_6, .slice A0_7 l0_7.length c0_7, .slice A0_8 l0_8.length c0_8, .slice A0_9 l0_9.length c0_9, .slice A0_10 l0_10.length c0_10]] w fun e w' => e = .returned (.int .i64 r) ∧ Below w.heap.size w w' := by
 have hu39 := Try.underlying39
 have hu31 := Try.underlying31
 have hu35 := Try.underlying35
 have HR0_5 := Aside0.mk hr0_5
 have HC0_5 := Aside0.mk hc0_5
 clear hr0_5 hc0_5
 have HR0_7 := Aside0.mk hr0_7
 have HC0_7 := Aside0.mk hc0_7
 clear hr0_7 hc0_7
 have HR0_8 := Aside0.mk hr0_8
 have HC0_8 := Aside0.mk hc0_8
 clear hr0_8 hc0_8
 have HR0_9 := Aside0.mk hr0_9
 have HC0_9 := Aside0.mk hc0_9
 clear hr0_9 hc0_9
 have HR0_10 := Aside0.mk hr0_10
 have HC0_10 := Aside0.mk hc0_10
 clear hr0_10 hc0_10
 have HB := Aside0.mk (Below.refl w.heap.size w)
 have H : (if a0_0 < 0 then (wire_fitSegment.j0 k true a0_0 a0_1 a0_2 a0_3 a0_4 l0_5 a0_6 l0_7 l0_8 l0_9 l0_10) else (if a0_0 > 9999 then (wire_fitSegment.j0 k true a0_0 a0_1 a0_2 a0_3 a0_4 l0_5 a0_6 l0_7 l0_8 l0_9 l0_10) else (if a0_1 < 0 then (wire_fitSegment.j0 k true a0_0 a0_1 a0_2 a0_3 a0_4 l0_5 a0_6 l0_7 l0_8 l0_9 l0_10) else (if a0_1 ≥ 12 then (wire_fitSegment.j0 k true a0_0 a0_1 a0_2 a0_3 a0_4 l0_5 a0_6 l0_7 l0_8 l0_9 l0_10) else (if a0_2 < 0 then (wire_fitSegment.j0 k true a0_0 a0_1 a0_2 a0_3 a0_4 l0_5 a0_6 l0_7 l0_8 l0_9 l0_10) else (wire_fitSegment.j0 k (decide (a0_2 > 9999)) a0_0 a0_1 a0_2 a0_3 a0_4 l0_5 a0_6 l0_7 l0_8 l0_9 l0_10)))))) = some r := h
 clear h
 have HC2 := Aside0.mk H
 clear H
 go_enter Try.func78, Try.ntmps78
 go_upto_region 1 with (first | ((with_reducible refine gate_dst (N := 1) rfl ?_); (try (refine gate_guard (by rfl) ?_; dsimp only)); refine box_event ?hg (N := 1) ?hd (cs := #[.int .i64 a0_0, .int .i64 a0_1, .int .i64 a0_2, .int .u32 a0_3, .int .i64 a0_4, .slice A0_5 l0_5.length c0_5, .int .i64 a0_6, .slice A0_7 l0_7.length c0_7, .slice A0_8 l0_8.length c0_8, .slice A0_9 l0_9.length c0_9, .slice A0_10 l0_10.length c0_10]) (t := 39) ?hr ?_; (case hd => rfl); (case hg => rfl); (case hr => first | (go_simp; done) | (go_simp; rfl)); intro gb351 hg w3 hbox hb; have n0_ := Aside0.mk (below_step (by repeat (first | (with_reducible first | exact HB.out | apply below_alloc | apply pw_below_drewN | apply below_drew1) | exact HB.out)) hb); have n1_ := Aside0.mk (hbox); have n2_ := Aside0.mk ((by rw [hg]; exact (below_size (by repeat (first | (with_reducible first | exact HB.out | apply below_alloc | apply pw_below_drewN | apply below_drew1) | exact HB.out))) : w.heap.size ≤ gb351)); have n3_ := Aside0.mk ((by rw [hg]; exact (below_size (by repeat (first | (with_reducible first | exact HB.out | apply below_alloc | apply pw_below_drewN | apply below_drew1) | exact HB.out))) : w.heap.size ≤ gb351)); clear HB; have HB := n0_; have BK351 := n1_; have GW351 := n2_; have GE351 := n3_; clear n0_ n1_ n2_ n3_; clear hb hbox hg))
 (try simp only [Act.put, List.setIfInBounds_toArray, List.set_cons_zero, List.set_cons_succ])
 go_cut [36] (fun v36 wc => ∃ (kq : Nat) (x36_1 : Bool), v36 = .bool x36_1 ∧ Aside0 (wire_fitSegment.j0 kq x36_1 a0_0 a0_1 a0_2 a0_3 a0_4 l0_5 a0_6 l0_7 l0_8 l0_9 l0_10 = some r) ∧ Aside0 (kq ≤ k) ∧ Aside0 (wc.heap[gb351]? = some (.cells #[.int .i64 a0_0, .int .i64 a0_1, .int .i64 a0_2, .int .u32 a0_3, .int .i64 a0_4, (.slice A0_5 l0_5.length c0_5), .int .i64 a0_6, (.slice A0_7 l0_7.length c0_7), (.slice A0_8 l0_8.length c0_8), (.slice A0_9 l0_9.length c0_9), (.slice A0_10 l0_10.length c0_10)] 39 (0, 0))) ∧ Aside0 (Below w.heap.size w wc))
 case first =>
  have H := HC2.out
  clear HC2
  by_cases c4 : a0_0 < 0
  ·rw [if_pos c4] at H
   have c4b0 : decide (a0_0 < 0) = true := decide_eq_true c4
   clear c4
   (first | rw [c4b0] | (simp only [i64_w, i32_w]; rw [c4b0]) | skip)
   have H' := Aside0.mk H
   clear H
   have hcz5_0 : w3.cell? ⟨gb351, 0, none⟩ = some (.int .i64 a0_0) := (blk_cell BK351.out 0).trans rfl
   have hcz5_1 : w3.cell? ⟨gb351, 1, none⟩ = some (.int .i64 a0_1) := (blk_cell BK351.out 1).trans rfl
   have hcz5_2 : w3.cell? ⟨gb351, 2, none⟩ = some (.int .i64 a0_2) := (blk_cell BK351.out 2).trans rfl
   have hcz5_3 : w3.cell? ⟨gb351, 3, none⟩ = some (.int .u32 a0_3) := (blk_cell BK351.out 3).trans rfl
   have hcz5_4 : w3.cell? ⟨gb351, 4, none⟩ = some (.int .i64 a0_4) := (blk_cell BK351.out 4).trans rfl
   have hcz5_5 : w3.cell? ⟨gb351, 5, none⟩ = some (.slice A0_5 l0_5.length c0_5) := (blk_cell BK351.out 5).trans rfl
   have hcz5_6 : w3.cell? ⟨gb351, 6, none⟩ = some (.int .i64 a0_6) := (blk_cell BK351.out 6).trans rfl
   have hcz5_7 : w3.cell? ⟨gb351, 7, none⟩ = some (.slice A0_7 l0_7.length c0_7) := (blk_cell BK351.out 7).trans rfl
   have hcz5_8 : w3.cell? ⟨gb351, 8, none⟩ = some (.slice A0_8 l0_8.length c0_8) := (blk_cell BK351.out 8).trans rfl
   have hcz5_9 : w3.cell? ⟨gb351, 9, none⟩ = some (.slice A0_9 l0_9.length c0_9) := (blk_cell BK351.out 9).trans rfl
   have hcz5_10 : w3.cell? ⟨gb351, 10, none⟩ = some (.slice A0_10 l0_10.length c0_10) := (blk_cell BK351.out 10).trans rfl
   have hfz5_0 := blk_frozen BK351.out 0
   have hfz5_1 := blk_frozen BK351.out 1
   have hfz5_2 := blk_frozen BK351.out 2
   have hfz5_3 := blk_frozen BK351.out 3
   have hfz5_4 := blk_frozen BK351.out 4
   have hfz5_5 := blk_frozen BK351.out 5
   have hfz5_6 := blk_frozen BK351.out 6
   have hfz5_7 := blk_frozen BK351.out 7
   have hfz5_8 := blk_frozen BK351.out 8
   have hfz5_9 := blk_frozen BK351.out 9
   have hfz5_10 := blk_frozen BK351.out 10
   go_wp2
   go_meet
   case rel => exact ⟨_, (true), (by first | rfl | (simp; done) | (simp [*]; done)), H', ⟨by first | omega | exact Nat.le_refl _⟩, ⟨by (with_reducible repeat (first | refine blk_drewN ?_ _ | refine blk_drew ?_ | refine blk_alloc ?_ _)); exact BK351.out⟩, ⟨by repeat (first | (with_reducible first | exact HB.out | apply below_alloc | apply pw_below_drewN | apply below_drew1 | refine below_set ?_ GE351.out) | exact HB.out)⟩⟩
  ·rw [if_neg c4] at H
   have c4b0 : decide (a0_0 < 0) = false := decide_eq_false c4
   clear c4
   (first | rw [c4b0] | (simp only [i64_w, i32_w]; rw [c4b0]) | skip)
   by_cases c6 : a0_0 > 9999
   ·rw [if_pos c6] at H
    have c6b0 : decide (9999 < a0_0) = true := decide_eq_true c6
    clear c6
    have H' := Aside0.mk H
    clear H
    have hcz7_0 : w3.cell? ⟨gb351, 0, none⟩ = some (.int .i64 a0_0) := (blk_cell BK351.out 0).trans rfl
    have hcz7_1 : w3.cell? ⟨gb351, 1, none⟩ = some (.int .i64 a0_1) := (blk_cell BK351.out 1).trans rfl
    have hcz7_2 : w3.cell? ⟨gb351, 2, none⟩ = some (.int .i64 a0_2) := (blk_cell BK351.out 2).trans rfl
    have hcz7_3 : w3.cell? ⟨gb351, 3, none⟩ = some (.int .u32 a0_3) := (blk_cell BK351.out 3).trans rfl
    have hcz7_4 : w3.cell? ⟨gb351, 4, none⟩ = some (.int .i64 a0_4) := (blk_cell BK351.out 4).trans rfl
    have hcz7_5 : w3.cell? ⟨gb351, 5, none⟩ = some (.slice A0_5 l0_5.length c0_5) := (blk_cell BK351.out 5).trans rfl
    have hcz7_6 : w3.cell? ⟨gb351, 6, none⟩ = some (.int .i64 a0_6) := (blk_cell BK351.out 6).trans rfl
    have hcz7_7 : w3.cell? ⟨gb351, 7, none⟩ = some (.slice A0_7 l0_7.length c0_7) := (blk_cell BK351.out 7).trans rfl
    have hcz7_8 : w3.cell? ⟨gb351, 8, none⟩ = some (.slice A0_8 l0_8.length c0_8) := (blk_cell BK351.out 8).trans rfl
    have hcz7_9 : w3.cell? ⟨gb351, 9, none⟩ = some (.slice A0_9 l0_9.length c0_9) := (blk_cell BK351.out 9).trans rfl
    have hcz7_10 : w3.cell? ⟨gb351, 10, none⟩ = some (.slice A0_10 l0_10.length c0_10) := (blk_cell BK351.out 10).trans rfl
    have hfz7_0 := blk_frozen BK351.out 0
    have hfz7_1 := blk_frozen BK351.out 1
    have hfz7_2 := blk_frozen BK351.out 2
    have hfz7_3 := blk_frozen BK351.out 3
    have hfz7_4 := blk_frozen BK351.out 4
    have hfz7_5 := blk_frozen BK351.out 5
    have hfz7_6 := blk_frozen BK351.out 6
    have hfz7_7 := blk_frozen BK351.out 7
    have hfz7_8 := blk_frozen BK351.out 8
    have hfz7_9 := blk_frozen BK351.out 9
    have hfz7_10 := blk_frozen BK351.out 10
    go_wp2
    go_meet
    case rel => exact ⟨_, (true), (by first | rfl | (simp; done) | (simp [*]; done)), H', ⟨by first | omega | exact Nat.le_refl _⟩, ⟨by (with_reducible repeat (first | refine blk_drewN ?_ _ | refine blk_drew ?_ | refine blk_alloc ?_ _)); exact BK351.out⟩, ⟨by repeat (first | (with_reducible first | exact HB.out | apply below_alloc | apply pw_below_drewN | apply below_drew1 | refine below_set ?_ GE351.out) | exact HB.out)⟩⟩
   ·rw [if_neg c6] at H
    have c6b0 : decide (9999 < a0_0) = false := decide_eq_false c6
    clear c6
    by_cases c8 : a0_1 < 0
    ·rw [if_pos c8] at H
     have c8b0 : decide (a0_1 < 0) = true := decide_eq_true c8
     clear c8
     have H' := Aside0.mk H
     clear H
     have hcz9_0 : w3.cell? ⟨gb351, 0, none⟩ = some (.int .i64 a0_0) := (blk_cell BK351.out 0).trans rfl
     have hcz9_1 : w3.cell? ⟨gb351, 1, none⟩ = some (.int .i64 a0_1) := (blk_cell BK351.out 1).trans rfl
     have hcz9_2 : w3.cell? ⟨gb351, 2, none⟩ = some (.int .i64 a0_2) := (blk_cell BK351.out 2).trans rfl
     have hcz9_3 : w3.cell? ⟨gb351, 3, none⟩ = some (.int .u32 a0_3) := (blk_cell BK351.out 3).trans rfl
     have hcz9_4 : w3.cell? ⟨gb351, 4, none⟩ = some (.int .i64 a0_4) := (blk_cell BK351.out 4).trans rfl
     have hcz9_5 : w3.cell? ⟨gb351, 5, none⟩ = some (.slice A0_5 l0_5.length c0_5) := (blk_cell BK351.out 5).trans rfl
     have hcz9_6 : w3.cell? ⟨gb351, 6, none⟩ = some (.int .i64 a0_6) := (blk_cell BK351.out 6).trans rfl
     have hcz9_7 : w3.cell? ⟨gb351, 7, none⟩ = some (.slice A0_7 l0_7.length c0_7) := (blk_cell BK351.out 7).trans rfl
     have hcz9_8 : w3.cell? ⟨gb351, 8, none⟩ = some (.slice A0_8 l0_8.length c0_8) := (blk_cell BK351.out 8).trans rfl
     have hcz9_9 : w3.cell? ⟨gb351, 9, none⟩ = some (.slice A0_9 l0_9.length c0_9) := (blk_cell BK351.out 9).trans rfl
     have hcz9_10 : w3.cell? ⟨gb351, 10, none⟩ = some (.slice A0_10 l0_10.length c0_10) := (blk_cell BK351.out 10).trans rfl
     have hfz9_0 := blk_frozen BK351.out 0
     have hfz9_1 := blk_frozen BK351.out 1
     have hfz9_2 := blk_frozen BK351.out 2
     have hfz9_3 := blk_frozen BK351.out 3
     have hfz9_4 := blk_frozen BK351.out 4
     have hfz9_5 := blk_frozen BK351.out 5
     have hfz9_6 := blk_frozen BK351.out 6
     have hfz9_7 := blk_frozen BK351.out 7
     have hfz9_8 := blk_frozen BK351.out 8
     have hfz9_9 := blk_frozen BK351.out 9
     have hfz9_10 := blk_frozen BK351.out 10
     go_wp2
     go_meet
     case rel => exact ⟨_, (true), (by first | rfl | (simp; done) | (simp [*]; done)), H', ⟨by first | omega | exact Nat.le_refl _⟩, ⟨by (with_reducible repeat (first | refine blk_drewN ?_ _ | refine blk_drew ?_ | refine blk_alloc ?_ _)); exact BK351.out⟩, ⟨by repeat (first | (with_reducible first | exact HB.out | apply below_alloc | apply pw_below_drewN | apply below_drew1 | refine below_set ?_ GE351.out) | exact HB.out)⟩⟩
    ·rw [if_neg c8] at H
     have c8b0 : decide (a0_1 < 0) = false := decide_eq_false c8
     clear c8
     by_cases c10 : a0_1 ≥ 12
     ·rw [if_pos c10] at H
      have c10b0 : decide (12 ≤ a0_1) = true := decide_eq_true c10
      clear c10
      have H' := Aside0.mk H
      clear H
      have hcz11_0 : w3.cell? ⟨gb351, 0, none⟩ = some (.int .i64 a0_0) := (blk_cell BK351.out 0).trans rfl
      have hcz11_1 : w3.cell? ⟨gb351, 1, none⟩ = some (.int .i64 a0_1) := (blk_cell BK351.out 1).trans rfl
      have hcz11_2 : w3.cell? ⟨gb351, 2, none⟩ = some (.int .i64 a0_2) := (blk_cell BK351.out 2).trans rfl
      have hcz11_3 : w3.cell? ⟨gb351, 3, none⟩ = some (.int .u32 a0_3) := (blk_cell BK351.out 3).trans rfl
      have hcz11_4 : w3.cell? ⟨gb351, 4, none⟩ = some (.int .i64 a0_4) := (blk_cell BK351.out 4).trans rfl
      have hcz11_5 : w3.cell? ⟨gb351, 5, none⟩ = some (.slice A0_5 l0_5.length c0_5) := (blk_cell BK351.out 5).trans rfl
      have hcz11_6 : w3.cell? ⟨gb351, 6, none⟩ = some (.int .i64 a0_6) := (blk_cell BK351.out 6).trans rfl
      have hcz11_7 : w3.cell? ⟨gb351, 7, none⟩ = some (.slice A0_7 l0_7.length c0_7) := (blk_cell BK351.out 7).trans rfl
      have hcz11_8 : w3.cell? ⟨gb351, 8, none⟩ = some (.slice A0_8 l0_8.length c0_8) := (blk_cell BK351.out 8).trans rfl
      have hcz11_9 : w3.cell? ⟨gb351, 9, none⟩ = some (.slice A0_9 l0_9.length c0_9) := (blk_cell BK351.out 9).trans rfl
      have hcz11_10 : w3.cell? ⟨gb351, 10, none⟩ = some (.slice A0_10 l0_10.length c0_10) := (blk_cell BK351.out 10).trans rfl
      have hfz11_0 := blk_frozen BK351.out 0
      have hfz11_1 := blk_frozen BK351.out 1
      have hfz11_2 := blk_frozen BK351.out 2
      have hfz11_3 := blk_frozen BK351.out 3
      have hfz11_4 := blk_frozen BK351.out 4
      have hfz11_5 := blk_frozen BK351.out 5
      have hfz11_6 := blk_frozen BK351.out 6
      have hfz11_7 := blk_frozen BK351.out 7
      have hfz11_8 := blk_frozen BK351.out 8
      have hfz11_9 := blk_frozen BK351.out 9
      have hfz11_10 := blk_frozen BK351.out 10
      go_wp2
      go_meet
      case rel => exact ⟨_, (true), (by first | rfl | (simp; done) | (simp [*]; done)), H', ⟨by first | omega | exact Nat.le_refl _⟩, ⟨by (with_reducible repeat (first | refine blk_drewN ?_ _ | refine blk_drew ?_ | refine blk_alloc ?_ _)); exact BK351.out⟩, ⟨by repeat (first | (with_reducible first | exact HB.out | apply below_alloc | apply pw_below_drewN | apply below_drew1 | refine below_set ?_ GE351.out) | exact HB.out)⟩⟩
     ·rw [if_neg c10] at H
      have c10b0 : decide (12 ≤ a0_1) = false := decide_eq_false c10
      clear c10
      by_cases c12 : a0_2 < 0
      ·rw [if_pos c12] at H
       have c12b0 : decide (a0_2 < 0) = true := decide_eq_true c12
       clear c12
       have H' := Aside0.mk H
       clear H
       have hcz13_0 : w3.cell? ⟨gb351, 0, none⟩ = some (.int .i64 a0_0) := (blk_cell BK351.out 0).trans rfl
       have hcz13_1 : w3.cell? ⟨gb351, 1, none⟩ = some (.int .i64 a0_1) := (blk_cell BK351.out 1).trans rfl
       have hcz13_2 : w3.cell? ⟨gb351, 2, none⟩ = some (.int .i64 a0_2) := (blk_cell BK351.out 2).trans rfl
       have hcz13_3 : w3.cell? ⟨gb351, 3, none⟩ = some (.int .u32 a0_3) := (blk_cell BK351.out 3).trans rfl
       have hcz13_4 : w3.cell? ⟨gb351, 4, none⟩ = some (.int .i64 a0_4) := (blk_cell BK351.out 4).trans rfl
       have hcz13_5 : w3.cell? ⟨gb351, 5, none⟩ = some (.slice A0_5 l0_5.length c0_5) := (blk_cell BK351.out 5).trans rfl
       have hcz13_6 : w3.cell? ⟨gb351, 6, none⟩ = some (.int .i64 a0_6) := (blk_cell BK351.out 6).trans rfl
       have hcz13_7 : w3.cell? ⟨gb351, 7, none⟩ = some (.slice A0_7 l0_7.length c0_7) := (blk_cell BK351.out 7).trans rfl
       have hcz13_8 : w3.cell? ⟨gb351, 8, none⟩ = some (.slice A0_8 l0_8.length c0_8) := (blk_cell BK351.out 8).trans rfl
       have hcz13_9 : w3.cell? ⟨gb351, 9, none⟩ = some (.slice A0_9 l0_9.length c0_9) := (blk_cell BK351.out 9).trans rfl
       have hcz13_10 : w3.cell? ⟨gb351, 10, none⟩ = some (.slice A0_10 l0_10.length c0_10) := (blk_cell BK351.out 10).trans rfl
       have hfz13_0 := blk_frozen BK351.out 0
       have hfz13_1 := blk_frozen BK351.out 1
       have hfz13_2 := blk_frozen BK351.out 2
       have hfz13_3 := blk_frozen BK351.out 3
       have hfz13_4 := blk_frozen BK351.out 4
       have hfz13_5 := blk_frozen BK351.out 5
       have hfz13_6 := blk_frozen BK351.out 6
       have hfz13_7 := blk_frozen BK351.out 7
       have hfz13_8 := blk_frozen BK351.out 8
       have hfz13_9 := blk_frozen BK351.out 9
       have hfz13_10 := blk_frozen BK351.out 10
       go_wp2
       go_meet
       case rel => exact ⟨_, (true), (by first | rfl | (simp; done) | (simp [*]; done)), H', ⟨by first | omega | exact Nat.le_refl _⟩, ⟨by (with_reducible repeat (first | refine blk_drewN ?_ _ | refine blk_drew ?_ | refine blk_alloc ?_ _)); exact BK351.out⟩, ⟨by repeat (first | (with_reducible first | exact HB.out | apply below_alloc | apply pw_below_drewN | apply below_drew1 | refine below_set ?_ GE351.out) | exact HB.out)⟩⟩
      ·rw [if_neg c12] at H
       have c12b0 : decide (a0_2 < 0) = false := decide_eq_false c12
       clear c12
       have H' := Aside0.mk H
       clear H
       have hcz14_0 : w3.cell? ⟨gb351, 0, none⟩ = some (.int .i64 a0_0) := (blk_cell BK351.out 0).trans rfl
       have hcz14_1 : w3.cell? ⟨gb351, 1, none⟩ = some (.int .i64 a0_1) := (blk_cell BK351.out 1).trans rfl
       have hcz14_2 : w3.cell? ⟨gb351, 2, none⟩ = some (.int .i64 a0_2) := (blk_cell BK351.out 2).trans rfl
       have hcz14_3 : w3.cell? ⟨gb351, 3, none⟩ = some (.int .u32 a0_3) := (blk_cell BK351.out 3).trans rfl
       have hcz14_4 : w3.cell? ⟨gb351, 4, none⟩ = some (.int .i64 a0_4) := (blk_cell BK351.out 4).trans rfl
       have hcz14_5 : w3.cell? ⟨gb351, 5, none⟩ = some (.slice A0_5 l0_5.length c0_5) := (blk_cell BK351.out 5).trans rfl
       have hcz14_6 : w3.cell? ⟨gb351, 6, none⟩ = some (.int .i64 a0_6) := (blk_cell BK351.out 6).trans rfl
       have hcz14_7 : w3.cell? ⟨gb351, 7, none⟩ = some (.slice A0_7 l0_7.length c0_7) := (blk_cell BK351.out 7).trans rfl
       have hcz14_8 : w3.cell? ⟨gb351, 8, none⟩ = some (.slice A0_8 l0_8.length c0_8) := (blk_cell BK351.out 8).trans rfl
       have hcz14_9 : w3.cell? ⟨gb351, 9, none⟩ = some (.slice A0_9 l0_9.length c0_9) := (blk_cell BK351.out 9).trans rfl
       have hcz14_10 : w3.cell? ⟨gb351, 10, none⟩ = some (.slice A0_10 l0_10.length c0_10) := (blk_cell BK351.out 10).trans rfl
       have hfz14_0 := blk_frozen BK351.out 0
       have hfz14_1 := blk_frozen BK351.out 1
       have hfz14_2 := blk_frozen BK351.out 2
       have hfz14_3 := blk_frozen BK351.out 3
       have hfz14_4 := blk_frozen BK351.out 4
       have hfz14_5 := blk_frozen BK351.out 5
       have hfz14_6 := blk_frozen BK351.out 6
       have hfz14_7 := blk_frozen BK351.out 7
       have hfz14_8 := blk_frozen BK351.out 8
       have hfz14_9 := blk_frozen BK351.out 9
       have hfz14_10 := blk_frozen BK351.out 10
       go_wp2
       go_meet
       case rel => exact ⟨_, (decide (a0_2 > 9999)), (by first | rfl | (simp; done) | (simp [*]; done)), H', ⟨by first | omega | exact Nat.le_refl _⟩, ⟨by (with_reducible repeat (first | refine blk_drewN ?_ _ | refine blk_drew ?_ | refine blk_alloc ?_ _)); exact BK351.out⟩, ⟨by repeat (first | (with_reducible first | exact HB.out | apply below_alloc | apply pw_below_drewN | apply below_drew1 | refine below_set ?_ GE351.out) | exact HB.out)⟩⟩
 case rest =>
  clear HC2
  try clear c1
  try clear p2
  try clear c4
  try clear c4b0
  try clear c6
  try clear c6b0
  try clear c7
  try clear c8
  try clear c8b0
  try clear c10
  try clear c10b0
  try clear c12
  try clear c12b0
  try clear hcz11_0
  try clear hcz11_1
  try clear hcz11_10
  try clear hcz11_2
  try clear hcz11_3
  try clear hcz11_4
  try clear hcz11_5
  try clear hcz11_6
  try clear hcz11_7
  try clear hcz11_8
  try clear hcz11_9
  try clear hcz13_0
  try clear hcz13_1
  try clear hcz13_10
  try clear hcz13_2
  try clear hcz13_3
  try clear hcz13_4
  try clear hcz13_5
  try clear hcz13_6
  try clear hcz13_7
  try clear hcz13_8
  try clear hcz13_9
  try clear hcz14_0
  try clear hcz14_1
  try clear hcz14_10
  try clear hcz14_2
  try clear hcz14_3
  try clear hcz14_4
  try clear hcz14_5
  try clear hcz14_6
  try clear hcz14_7
  try clear hcz14_8
  try clear hcz14_9
  try clear hcz5_0
  try clear hcz5_1
  try clear hcz5_10
  try clear hcz5_2
  try clear hcz5_3
  try clear hcz5_4
  try clear hcz5_5
  try clear hcz5_6
  try clear hcz5_7
  try clear hcz5_8
  try clear hcz5_9
  try clear hcz7_0
  try clear hcz7_1
  try clear hcz7_10
  try clear hcz7_2
  try clear hcz7_3
  try clear hcz7_4
  try clear hcz7_5
  try clear hcz7_6
  try clear hcz7_7
  try clear hcz7_8
  try clear hcz7_9
  try clear hcz9_0
  try clear hcz9_1
  try clear hcz9_10
  try clear hcz9_2
  try clear hcz9_3
  try clear hcz9_4
  try clear hcz9_5
  try clear hcz9_6
  try clear hcz9_7
  try clear hcz9_8
  try clear hcz9_9
  try clear hfz11_0
  try clear hfz11_1
  try clear hfz11_10
  try clear hfz11_2
  try clear hfz11_3
  try clear hfz11_4
  try clear hfz11_5
  try clear hfz11_6
  try clear hfz11_7
  try clear hfz11_8
  try clear hfz11_9
  try clear hfz13_0
  try clear hfz13_1
  try clear hfz13_10
  try clear hfz13_2
  try clear hfz13_3
  try clear hfz13_4
  try clear hfz13_5
  try clear hfz13_6
  try clear hfz13_7
  try clear hfz13_8
  try clear hfz13_9
  try clear hfz14_0
  try clear hfz14_1
  try clear hfz14_10
  try clear hfz14_2
  try clear hfz14_3
  try clear hfz14_4
  try clear hfz14_5
  try clear hfz14_6
  try clear hfz14_7
  try clear hfz14_8
  try clear hfz14_9
  try clear hfz5_0
  try clear hfz5_1
  try clear hfz5_10
  try clear hfz5_2
  try clear hfz5_3
  try clear hfz5_4
  try clear hfz5_5
  try clear hfz5_6
  try clear hfz5_7
  try clear hfz5_8
  try clear hfz5_9
  try clear hfz7_0
  try clear hfz7_1
  try clear hfz7_10
  try clear hfz7_2
  try clear hfz7_3
  try clear hfz7_4
  try clear hfz7_5
  try clear hfz7_6
  try clear hfz7_7
  try clear hfz7_8
  try clear hfz7_9
  try clear hfz9_0
  try clear hfz9_1
  try clear hfz9_10
  try clear hfz9_2
  try clear hfz9_3
  try clear hfz9_4
  try clear hfz9_5
  try clear hfz9_6
  try clear hfz9_7
  try clear hfz9_8
  try clear hfz9_9
  obtain ⟨kq, x36_1, rfl, HA, HJ1, BK351, HB⟩ := hcut
  cases kq with
  | zero => exact absurd HA.out (by simp [wire_fitSegment.j0])
  | succ kj1 =>
   have H := HA.out
   clear HA
   simp only [wire_fitSegment.j0] at H
   by_cases c15 : x36_1 = true
   ·subst c15
    have H1 : (some 43) = some r := by rw [if_pos rfl] at H; exact H
    clear H
    have H := H1
    clear H1
    obtain rfl := Option.some.inj H
    go_wp2
    go_ret
    exact ⟨by first | rfl | (simp [errW_none, errW_some] <;> rfl) | (simp [*, errW_none, errW_some] <;> rfl), by repeat (first | (with_reducible first | exact HB.out | apply below_alloc | apply pw_below_drewN | apply below_drew1 | refine below_set ?_ GE351.out) | exact HB.out)⟩
   ·replace c15 := Bool.eq_false_iff.mpr c15
    subst c15
    have H1 : (if a0_3 = 0 then (if a0_6 = 0 then (if (l0_7.length : Int) = 0 then (wire_fitSegment.j1 kj1 ((l0_8.length : Int) == 0) a0_0 a0_1 a0_2 a0_3 a0_4 l0_5 a0_6 l0_7 l0_8 l0_9 l0_10) else (wire_fitSegment.j1 kj1 false a0_0 a0_1 a0_2 a0_3 a0_4 l0_5 a0_6 l0_7 l0_8 l0_9 l0_10)) else (wire_fitSegment.j1 kj1 false a0_0 a0_1 a0_2 a0_3 a0_4 l0_5 a0_6 l0_7 l0_8 l0_9 l0_10)) else (wire_fitSegment.j1 kj1 false a0_0 a0_1 a0_2 a0_3 a0_4 l0_5 a0_6 l0_7 l0_8 l0_9 l0_10)) = some r := by rw [if_neg (show ¬ (false = true) by decide)] at H; exact H
    clear H
    have H := H1
    clear H1
    have HC16 := Aside0.mk H
    clear H
    go_upto_region 3 with (fail)
    go_cut [3] (fun v3 wc => ∃ (kq : Nat) (x3_15 : Bool), v3 = .bool x3_15 ∧ Aside0 (wire_fitSegment.j1 kq x3_15 a0_0 a0_1 a0_2 a0_3 a0_4 l0_5 a0_6 l0_7 l0_8 l0_9 l0_10 = some r) ∧ Aside0 (kq ≤ kj1) ∧ Aside0 (wc.heap[gb351]? = some (.cells #[.int .i64 a0_0, .int .i64 a0_1, .int .i64 a0_2, .int .u32 a0_3, .int .i64 a0_4, (.slice A0_5 l0_5.length c0_5), .int .i64 a0_6, (.slice A0_7 l0_7.length c0_7), (.slice A0_8 l0_8.length c0_8), (.slice A0_9 l0_9.length c0_9), (.slice A0_10 l0_10.length c0_10)] 39 (0, 0))) ∧ Aside0 (Below w.heap.size w wc))
    case first =>
     have H := HC16.out
     clear HC16
     by_cases c17 : a0_3 = 0
     ·rw [if_pos c17] at H
      have c17b0 : (a0_3 == 0) = true := beq_iff_eq.mpr c17
      have c17b1 : (a0_3 != 0) = false := bne_eq_false_iff_eq.mpr c17
      clear c17
      (first | rw [c17b0] | (simp only [i64_w, i32_w]; rw [c17b0]) | skip)
      by_cases c18 : a0_6 = 0
      ·rw [if_pos c18] at H
       have c18b0 : (a0_6 == 0) = true := beq_iff_eq.mpr c18
       have c18b1 : (a0_6 != 0) = false := bne_eq_false_iff_eq.mpr c18
       clear c18
       by_cases c19 : (l0_7.length : Int) = 0
       ·rw [if_pos c19] at H
        have c19b0 : ((l0_7.length : Int) == 0) = true := beq_iff_eq.mpr c19
        have c19b1 : ((l0_7.length : Int) != 0) = false := bne_eq_false_iff_eq.mpr c19
        clear c19
        have H' := Aside0.mk H
        clear H
        have hcz20_0 : wc.cell? ⟨gb351, 0, none⟩ = some (.int .i64 a0_0) := (blk_cell BK351.out 0).trans rfl
        have hcz20_1 : wc.cell? ⟨gb351, 1, none⟩ = some (.int .i64 a0_1) := (blk_cell BK351.out 1).trans rfl
        have hcz20_2 : wc.cell? ⟨gb351, 2, none⟩ = some (.int .i64 a0_2) := (blk_cell BK351.out 2).trans rfl
        have hcz20_3 : wc.cell? ⟨gb351, 3, none⟩ = some (.int .u32 a0_3) := (blk_cell BK351.out 3).trans rfl
        have hcz20_4 : wc.cell? ⟨gb351, 4, none⟩ = some (.int .i64 a0_4) := (blk_cell BK351.out 4).trans rfl
        have hcz20_5 : wc.cell? ⟨gb351, 5, none⟩ = some (.slice A0_5 l0_5.length c0_5) := (blk_cell BK351.out 5).trans rfl
        have hcz20_6 : wc.cell? ⟨gb351, 6, none⟩ = some (.int .i64 a0_6) := (blk_cell BK351.out 6).trans rfl
        have hcz20_7 : wc.cell? ⟨gb351, 7, none⟩ = some (.slice A0_7 l0_7.length c0_7) := (blk_cell BK351.out 7).trans rfl
        have hcz20_8 : wc.cell? ⟨gb351, 8, none⟩ = some (.slice A0_8 l0_8.length c0_8) := (blk_cell BK351.out 8).trans rfl
        have hcz20_9 : wc.cell? ⟨gb351, 9, none⟩ = some (.slice A0_9 l0_9.length c0_9) := (blk_cell BK351.out 9).trans rfl
        have hcz20_10 : wc.cell? ⟨gb351, 10, none⟩ = some (.slice A0_10 l0_10.length c0_10) := (blk_cell BK351.out 10).trans rfl
        have hfz20_0 := blk_frozen BK351.out 0
        have hfz20_1 := blk_frozen BK351.out 1
        have hfz20_2 := blk_frozen BK351.out 2
        have hfz20_3 := blk_frozen BK351.out 3
        have hfz20_4 := blk_frozen BK351.out 4
        have hfz20_5 := blk_frozen BK351.out 5
        have hfz20_6 := blk_frozen BK351.out 6
        have hfz20_7 := blk_frozen BK351.out 7
        have hfz20_8 := blk_frozen BK351.out 8
        have hfz20_9 := blk_frozen BK351.out 9
        have hfz20_10 := blk_frozen BK351.out 10
        go_wp2
        go_meet
        case rel => exact ⟨_, (((l0_8.length : Int) == 0)), (by first | rfl | (simp; done) | (simp [*]; done)), H', ⟨by have := HJ1.out; first | omega | exact Nat.le_refl _⟩, ⟨by (with_reducible repeat (first | refine blk_drewN ?_ _ | refine blk_drew ?_ | refine blk_alloc ?_ _)); exact BK351.out⟩, ⟨by repeat (first | (with_reducible first | exact HB.out | apply below_alloc | apply pw_below_drewN | apply below_drew1 | refine below_set ?_ GE351.out) | exact HB.out)⟩⟩
       ·rw [if_neg c19] at H
        have c19b0 : ((l0_7.length : Int) == 0) = false := beq_eq_false_iff_ne.mpr c19
        have c19b1 : ((l0_7.length : Int) != 0) = true := bne_iff_ne.mpr c19
        have c19b2 : ¬ (l0_7 = []) := fun h_ => c19 (by rw [h_]; rfl)
        have H' := Aside0.mk H
        clear H
        have hcz21_0 : wc.cell? ⟨gb351, 0, none⟩ = some (.int .i64 a0_0) := (blk_cell BK351.out 0).trans rfl
        have hcz21_1 : wc.cell? ⟨gb351, 1, none⟩ = some (.int .i64 a0_1) := (blk_cell BK351.out 1).trans rfl
        have hcz21_2 : wc.cell? ⟨gb351, 2, none⟩ = some (.int .i64 a0_2) := (blk_cell BK351.out 2).trans rfl
        have hcz21_3 : wc.cell? ⟨gb351, 3, none⟩ = some (.int .u32 a0_3) := (blk_cell BK351.out 3).trans rfl
        have hcz21_4 : wc.cell? ⟨gb351, 4, none⟩ = some (.int .i64 a0_4) := (blk_cell BK351.out 4).trans rfl
        have hcz21_5 : wc.cell? ⟨gb351, 5, none⟩ = some (.slice A0_5 l0_5.length c0_5) := (blk_cell BK351.out 5).trans rfl
        have hcz21_6 : wc.cell? ⟨gb351, 6, none⟩ = some (.int .i64 a0_6) := (blk_cell BK351.out 6).trans rfl
        have hcz21_7 : wc.cell? ⟨gb351, 7, none⟩ = some (.slice A0_7 l0_7.length c0_7) := (blk_cell BK351.out 7).trans rfl
        have hcz21_8 : wc.cell? ⟨gb351, 8, none⟩ = some (.slice A0_8 l0_8.length c0_8) := (blk_cell BK351.out 8).trans rfl
        have hcz21_9 : wc.cell? ⟨gb351, 9, none⟩ = some (.slice A0_9 l0_9.length c0_9) := (blk_cell BK351.out 9).trans rfl
        have hcz21_10 : wc.cell? ⟨gb351, 10, none⟩ = some (.slice A0_10 l0_10.length c0_10) := (blk_cell BK351.out 10).trans rfl
        have hfz21_0 := blk_frozen BK351.out 0
        have hfz21_1 := blk_frozen BK351.out 1
        have hfz21_2 := blk_frozen BK351.out 2
        have hfz21_3 := blk_frozen BK351.out 3
        have hfz21_4 := blk_frozen BK351.out 4
        have hfz21_5 := blk_frozen BK351.out 5
        have hfz21_6 := blk_frozen BK351.out 6
        have hfz21_7 := blk_frozen BK351.out 7
        have hfz21_8 := blk_frozen BK351.out 8
        have hfz21_9 := blk_frozen BK351.out 9
        have hfz21_10 := blk_frozen BK351.out 10
        go_wp2
        go_meet
        case rel => exact ⟨_, (false), (by first | rfl | (simp; done) | (simp [*]; done)), H', ⟨by have := HJ1.out; first | omega | exact Nat.le_refl _⟩, ⟨by (with_reducible repeat (first | refine blk_drewN ?_ _ | refine blk_drew ?_ | refine blk_alloc ?_ _)); exact BK351.out⟩, ⟨by repeat (first | (with_reducible first | exact HB.out | apply below_alloc | apply pw_below_drewN | apply below_drew1 | refine below_set ?_ GE351.out) | exact HB.out)⟩⟩
      ·rw [if_neg c18] at H
       have c18b0 : (a0_6 == 0) = false := beq_eq_false_iff_ne.mpr c18
       have c18b1 : (a0_6 != 0) = true := bne_iff_ne.mpr c18
       have H' := Aside0.mk H
       clear H
       have hcz22_0 : wc.cell? ⟨gb351, 0, none⟩ = some (.int .i64 a0_0) := (blk_cell BK351.out 0).trans rfl
       have hcz22_1 : wc.cell? ⟨gb351, 1, none⟩ = some (.int .i64 a0_1) := (blk_cell BK351.out 1).trans rfl
       have hcz22_2 : wc.cell? ⟨gb351, 2, none⟩ = some (.int .i64 a0_2) := (blk_cell BK351.out 2).trans rfl
       have hcz22_3 : wc.cell? ⟨gb351, 3, none⟩ = some (.int .u32 a0_3) := (blk_cell BK351.out 3).trans rfl
       have hcz22_4 : wc.cell? ⟨gb351, 4, none⟩ = some (.int .i64 a0_4) := (blk_cell BK351.out 4).trans rfl
       have hcz22_5 : wc.cell? ⟨gb351, 5, none⟩ = some (.slice A0_5 l0_5.length c0_5) := (blk_cell BK351.out 5).trans rfl
       have hcz22_6 : wc.cell? ⟨gb351, 6, none⟩ = some (.int .i64 a0_6) := (blk_cell BK351.out 6).trans rfl
       have hcz22_7 : wc.cell? ⟨gb351, 7, none⟩ = some (.slice A0_7 l0_7.length c0_7) := (blk_cell BK351.out 7).trans rfl
       have hcz22_8 : wc.cell? ⟨gb351, 8, none⟩ = some (.slice A0_8 l0_8.length c0_8) := (blk_cell BK351.out 8).trans rfl
       have hcz22_9 : wc.cell? ⟨gb351, 9, none⟩ = some (.slice A0_9 l0_9.length c0_9) := (blk_cell BK351.out 9).trans rfl
       have hcz22_10 : wc.cell? ⟨gb351, 10, none⟩ = some (.slice A0_10 l0_10.length c0_10) := (blk_cell BK351.out 10).trans rfl
       have hfz22_0 := blk_frozen BK351.out 0
       have hfz22_1 := blk_frozen BK351.out 1
       have hfz22_2 := blk_frozen BK351.out 2
       have hfz22_3 := blk_frozen BK351.out 3
       have hfz22_4 := blk_frozen BK351.out 4
       have hfz22_5 := blk_frozen BK351.out 5
       have hfz22_6 := blk_frozen BK351.out 6
       have hfz22_7 := blk_frozen BK351.out 7
       have hfz22_8 := blk_frozen BK351.out 8
       have hfz22_9 := blk_frozen BK351.out 9
       have hfz22_10 := blk_frozen BK351.out 10
       go_wp2
       go_meet
       case rel => exact ⟨_, (false), (by first | rfl | (simp; done) | (simp [*]; done)), H', ⟨by have := HJ1.out; first | omega | exact Nat.le_refl _⟩, ⟨by (with_reducible repeat (first | refine blk_drewN ?_ _ | refine blk_drew ?_ | refine blk_alloc ?_ _)); exact BK351.out⟩, ⟨by repeat (first | (with_reducible first | exact HB.out | apply below_alloc | apply pw_below_drewN | apply below_drew1 | refine below_set ?_ GE351.out) | exact HB.out)⟩⟩
     ·rw [if_neg c17] at H
      have c17b0 : (a0_3 == 0) = false := beq_eq_false_iff_ne.mpr c17
      have c17b1 : (a0_3 != 0) = true := bne_iff_ne.mpr c17
      (first | rw [c17b0] | (simp only [i64_w, i32_w]; rw [c17b0]) | skip)
      have H' := Aside0.mk H
      clear H
      have hcz23_0 : wc.cell? ⟨gb351, 0, none⟩ = some (.int .i64 a0_0) := (blk_cell BK351.out 0).trans rfl
      have hcz23_1 : wc.cell? ⟨gb351, 1, none⟩ = some (.int .i64 a0_1) := (blk_cell BK351.out 1).trans rfl
      have hcz23_2 : wc.cell? ⟨gb351, 2, none⟩ = some (.int .i64 a0_2) := (blk_cell BK351.out 2).trans rfl
      have hcz23_3 : wc.cell? ⟨gb351, 3, none⟩ = some (.int .u32 a0_3) := (blk_cell BK351.out 3).trans rfl
      have hcz23_4 : wc.cell? ⟨gb351, 4, none⟩ = some (.int .i64 a0_4) := (blk_cell BK351.out 4).trans rfl
      have hcz23_5 : wc.cell? ⟨gb351, 5, none⟩ = some (.slice A0_5 l0_5.length c0_5) := (blk_cell BK351.out 5).trans rfl
      have hcz23_6 : wc.cell? ⟨gb351, 6, none⟩ = some (.int .i64 a0_6) := (blk_cell BK351.out 6).trans rfl
      have hcz23_7 : wc.cell? ⟨gb351, 7, none⟩ = some (.slice A0_7 l0_7.length c0_7) := (blk_cell BK351.out 7).trans rfl
      have hcz23_8 : wc.cell? ⟨gb351, 8, none⟩ = some (.slice A0_8 l0_8.length c0_8) := (blk_cell BK351.out 8).trans rfl
      have hcz23_9 : wc.cell? ⟨gb351, 9, none⟩ = some (.slice A0_9 l0_9.length c0_9) := (blk_cell BK351.out 9).trans rfl
      have hcz23_10 : wc.cell? ⟨gb351, 10, none⟩ = some (.slice A0_10 l0_10.length c0_10) := (blk_cell BK351.out 10).trans rfl
      have hfz23_0 := blk_frozen BK351.out 0
      have hfz23_1 := blk_frozen BK351.out 1
      have hfz23_2 := blk_frozen BK351.out 2
      have hfz23_3 := blk_frozen BK351.out 3
      have hfz23_4 := blk_frozen BK351.out 4
      have hfz23_5 := blk_frozen BK351.out 5
      have hfz23_6 := blk_frozen BK351.out 6
      have hfz23_7 := blk_frozen BK351.out 7
      have hfz23_8 := blk_frozen BK351.out 8
      have hfz23_9 := blk_frozen BK351.out 9
      have hfz23_10 := blk_frozen BK351.out 10
      go_wp2
      go_meet
      case rel => exact ⟨_, (false), (by first | rfl | (simp; done) | (simp [*]; done)), H', ⟨by have := HJ1.out; first | omega | exact Nat.le_refl _⟩, ⟨by (with_reducible repeat (first | refine blk_drewN ?_ _ | refine blk_drew ?_ | refine blk_alloc ?_ _)); exact BK351.out⟩, ⟨by repeat (first | (with_reducible first | exact HB.out | apply below_alloc | apply pw_below_drewN | apply below_drew1 | refine below_set ?_ GE351.out) | exact HB.out)⟩⟩
    case rest =>
     clear HC16
     try clear c1
     try clear p2
     try clear c4
     try clear c4b0
     try clear c6
     try clear c6b0
     try clear c7
     try clear c8
     try clear c8b0
     try clear c10
     try clear c10b0
     try clear c12
     try clear c12b0
     try clear c15
     try clear c17
     try clear c17b0
     try clear c17b1
     try clear c18
     try clear c18b0
     try clear c18b1
     try clear c19
     try clear c19b0
     try clear c19b1
     try clear c19b2
     try clear hcz11_0
     try clear hcz11_1
     try clear hcz11_10
     try clear hcz11_2
     try clear hcz11_3
     try clear hcz11_4
     try clear hcz11_5
     try clear hcz11_6
     try clear hcz11_7
     try clear hcz11_8
     try clear hcz11_9
     try clear hcz13_0
     try clear hcz13_1
     try clear hcz13_10
     try clear hcz13_2
     try clear hcz13_3
     try clear hcz13_4
     try clear hcz13_5
     try clear hcz13_6
     try clear hcz13_7
     try clear hcz13_8
     try clear hcz13_9
     try clear hcz14_0
     try clear hcz14_1
     try clear hcz14_10
     try clear hcz14_2
     try clear hcz14_3
     try clear hcz14_4
     try clear hcz14_5
     try clear hcz14_6
     try clear hcz14_7
     try clear hcz14_8
     try clear hcz14_9
     try clear hcz20_0
     try clear hcz20_1
     try clear hcz20_10
     try clear hcz20_2
     try clear hcz20_3
     try clear hcz20_4
     try clear hcz20_5
     try clear hcz20_6
     try clear hcz20_7
     try clear hcz20_8
     try clear hcz20_9
     try clear hcz21_0
     try clear hcz21_1
     try clear hcz21_10
     try clear hcz21_2
     try clear hcz21_3
     try clear hcz21_4
     try clear hcz21_5
     try clear hcz21_6
     try clear hcz21_7
     try clear hcz21_8
     try clear hcz21_9
     try clear hcz22_0
     try clear hcz22_1
     try clear hcz22_10
     try clear hcz22_2
     try clear hcz22_3
     try clear hcz22_4
     try clear hcz22_5
     try clear hcz22_6
     try clear hcz22_7
     try clear hcz22_8
     try clear hcz22_9
     try clear hcz23_0
     try clear hcz23_1
     try clear hcz23_10
     try clear hcz23_2
     try clear hcz23_3
     try clear hcz23_4
     try clear hcz23_5
     try clear hcz23_6
     try clear hcz23_7
     try clear hcz23_8
     try clear hcz23_9
     try clear hcz5_0
     try clear hcz5_1
     try clear hcz5_10
     try clear hcz5_2
     try clear hcz5_3
     try clear hcz5_4
     try clear hcz5_5
     try clear hcz5_6
     try clear hcz5_7
     try clear hcz5_8
     try clear hcz5_9
     try clear hcz7_0
     try clear hcz7_1
     try clear hcz7_10
     try clear hcz7_2
     try clear hcz7_3
     try clear hcz7_4
     try clear hcz7_5
     try clear hcz7_6
     try clear hcz7_7
     try clear hcz7_8
     try clear hcz7_9
     try clear hcz9_0
     try clear hcz9_1
     try clear hcz9_10
     try clear hcz9_2
     try clear hcz9_3
     try clear hcz9_4
     try clear hcz9_5
     try clear hcz9_6
     try clear hcz9_7
     try clear hcz9_8
     try clear hcz9_9
     try clear hfz11_0
     try clear hfz11_1
     try clear hfz11_10
     try clear hfz11_2
     try clear hfz11_3
     try clear hfz11_4
     try clear hfz11_5
     try clear hfz11_6
     try clear hfz11_7
     try clear hfz11_8
     try clear hfz11_9
     try clear hfz13_0
     try clear hfz13_1
     try clear hfz13_10
     try clear hfz13_2
     try clear hfz13_3
     try clear hfz13_4
     try clear hfz13_5
     try clear hfz13_6
     try clear hfz13_7
     try clear hfz13_8
     try clear hfz13_9
     try clear hfz14_0
     try clear hfz14_1
     try clear hfz14_10
     try clear hfz14_2
     try clear hfz14_3
     try clear hfz14_4
     try clear hfz14_5
     try clear hfz14_6
     try clear hfz14_7
     try clear hfz14_8
     try clear hfz14_9
     try clear hfz20_0
     try clear hfz20_1
     try clear hfz20_10
     try clear hfz20_2
     try clear hfz20_3
     try clear hfz20_4
     try clear hfz20_5
     try clear hfz20_6
     try clear hfz20_7
     try clear hfz20_8
     try clear hfz20_9
     try clear hfz21_0
     try clear hfz21_1
     try clear hfz21_10
     try clear hfz21_2
     try clear hfz21_3
     try clear hfz21_4
     try clear hfz21_5
     try clear hfz21_6
     try clear hfz21_7
     try clear hfz21_8
     try clear hfz21_9
     try clear hfz22_0
     try clear hfz22_1
     try clear hfz22_10
     try clear hfz22_2
     try clear hfz22_3
     try clear hfz22_4
     try clear hfz22_5
     try clear hfz22_6
     try clear hfz22_7
     try clear hfz22_8
     try clear hfz22_9
     try clear hfz23_0
     try clear hfz23_1
     try clear hfz23_10
     try clear hfz23_2
     try clear hfz23_3
     try clear hfz23_4
     try clear hfz23_5
     try clear hfz23_6
     try clear hfz23_7
     try clear hfz23_8
     try clear hfz23_9
     try clear hfz5_0
     try clear hfz5_1
     try clear hfz5_10
     try clear hfz5_2
     try clear hfz5_3
     try clear hfz5_4
     try clear hfz5_5
     try clear hfz5_6
     try clear hfz5_7
     try clear hfz5_8
     try clear hfz5_9
     try clear hfz7_0
     try clear hfz7_1
     try clear hfz7_10
     try clear hfz7_2
     try clear hfz7_3
     try clear hfz7_4
     try clear hfz7_5
     try clear hfz7_6
     try clear hfz7_7
     try clear hfz7_8
     try clear hfz7_9
     try clear hfz9_0
     try clear hfz9_1
     try clear hfz9_10
     try clear hfz9_2
     try clear hfz9_3
     try clear hfz9_4
     try clear hfz9_5
     try clear hfz9_6
     try clear hfz9_7
     try clear hfz9_8
     try clear hfz9_9
     try clear p2
     obtain ⟨kq, x3_15, rfl, HA, HJ15, BK351, HB⟩ := hcut
     cases kq with
     | zero => exact absurd HA.out (by simp [wire_fitSegment.j1])
     | succ kj15 =>
      have H := HA.out
      clear HA
      simp only [wire_fitSegment.j1] at H
      have HC24 := Aside0.mk H
      clear H
      go_upto_region 4 with (fail)
      go_cut [4] (fun v4 wc => ∃ (kq : Nat) (x4_23 : Bool), v4 = .bool x4_23 ∧ Aside0 (wire_fitSegment.j2 kq x3_15 x4_23 a0_0 a0_1 a0_2 a0_3 a0_4 l0_5 a0_6 l0_7 l0_8 l0_9 l0_10 = some r) ∧ Aside0 (kq ≤ kj15) ∧ Aside0 (wc.heap[gb351]? = some (.cells #[.int .i64 a0_0, .int .i64 a0_1, .int .i64 a0_2, .int .u32 a0_3, .int .i64 a0_4, (.slice A0_5 l0_5.length c0_5), .int .i64 a0_6, (.slice A0_7 l0_7.length c0_7), (.slice A0_8 l0_8.length c0_8), (.slice A0_9 l0_9.length c0_9), (.slice A0_10 l0_10.length c0_10)] 39 (0, 0))) ∧ Aside0 (Below w.heap.size w wc))
      case first =>
       have H := HC24.out
       clear HC24
       by_cases c25 : a0_4 = 0
       ·rw [if_pos c25] at H
        have c25b0 : (a0_4 == 0) = true := beq_iff_eq.mpr c25
        have c25b1 : (a0_4 != 0) = false := bne_eq_false_iff_eq.mpr c25
        clear c25
        (first | rw [c25b0] | (simp only [i64_w, i32_w]; rw [c25b0]) | skip)
        have H' := Aside0.mk H
        clear H
        have hcz26_0 : wc.cell? ⟨gb351, 0, none⟩ = some (.int .i64 a0_0) := (blk_cell BK351.out 0).trans rfl
        have hcz26_1 : wc.cell? ⟨gb351, 1, none⟩ = some (.int .i64 a0_1) := (blk_cell BK351.out 1).trans rfl
        have hcz26_2 : wc.cell? ⟨gb351, 2, none⟩ = some (.int .i64 a0_2) := (blk_cell BK351.out 2).trans rfl
        have hcz26_3 : wc.cell? ⟨gb351, 3, none⟩ = some (.int .u32 a0_3) := (blk_cell BK351.out 3).trans rfl
        have hcz26_4 : wc.cell? ⟨gb351, 4, none⟩ = some (.int .i64 a0_4) := (blk_cell BK351.out 4).trans rfl
        have hcz26_5 : wc.cell? ⟨gb351, 5, none⟩ = some (.slice A0_5 l0_5.length c0_5) := (blk_cell BK351.out 5).trans rfl
        have hcz26_6 : wc.cell? ⟨gb351, 6, none⟩ = some (.int .i64 a0_6) := (blk_cell BK351.out 6).trans rfl
        have hcz26_7 : wc.cell? ⟨gb351, 7, none⟩ = some (.slice A0_7 l0_7.length c0_7) := (blk_cell BK351.out 7).trans rfl
        have hcz26_8 : wc.cell? ⟨gb351, 8, none⟩ = some (.slice A0_8 l0_8.length c0_8) := (blk_cell BK351.out 8).trans rfl
        have hcz26_9 : wc.cell? ⟨gb351, 9, none⟩ = some (.slice A0_9 l0_9.length c0_9) := (blk_cell BK351.out 9).trans rfl
        have hcz26_10 : wc.cell? ⟨gb351, 10, none⟩ = some (.slice A0_10 l0_10.length c0_10) := (blk_cell BK351.out 10).trans rfl
        have hfz26_0 := blk_frozen BK351.out 0
        have hfz26_1 := blk_frozen BK351.out 1
        have hfz26_2 := blk_frozen BK351.out 2
        have hfz26_3 := blk_frozen BK351.out 3
        have hfz26_4 := blk_frozen BK351.out 4
        have hfz26_5 := blk_frozen BK351.out 5
        have hfz26_6 := blk_frozen BK351.out 6
        have hfz26_7 := blk_frozen BK351.out 7
        have hfz26_8 := blk_frozen BK351.out 8
        have hfz26_9 := blk_frozen BK351.out 9
        have hfz26_10 := blk_frozen BK351.out 10
        go_wp2
        go_meet
        case rel => exact ⟨_, (((l0_5.length : Int) == 0)), (by first | rfl | (simp; done) | (simp [*]; done)), H', ⟨by have := HJ1.out; have := HJ15.out; first | omega | exact Nat.le_refl _⟩, ⟨by (with_reducible repeat (first | refine blk_drewN ?_ _ | refine blk_drew ?_ | refine blk_alloc ?_ _)); exact BK351.out⟩, ⟨by repeat (first | (with_reducible first | exact HB.out | apply below_alloc | apply pw_below_drewN | apply below_drew1 | refine below_set ?_ GE351.out) | exact HB.out)⟩⟩
       ·rw [if_neg c25] at H
        have c25b0 : (a0_4 == 0) = false := beq_eq_false_iff_ne.mpr c25
        have c25b1 : (a0_4 != 0) = true := bne_iff_ne.mpr c25
        (first | rw [c25b0] | (simp only [i64_w, i32_w]; rw [c25b0]) | skip)
        have H' := Aside0.mk H
        clear H
        have hcz27_0 : wc.cell? ⟨gb351, 0, none⟩ = some (.int .i64 a0_0) := (blk_cell BK351.out 0).trans rfl
        have hcz27_1 : wc.cell? ⟨gb351, 1, none⟩ = some (.int .i64 a0_1) := (blk_cell BK351.out 1).trans rfl
        have hcz27_2 : wc.cell? ⟨gb351, 2, none⟩ = some (.int .i64 a0_2) := (blk_cell BK351.out 2).trans rfl
        have hcz27_3 : wc.cell? ⟨gb351, 3, none⟩ = some (.int .u32 a0_3) := (blk_cell BK351.out 3).trans rfl
        have hcz27_4 : wc.cell? ⟨gb351, 4, none⟩ = some (.int .i64 a0_4) := (blk_cell BK351.out 4).trans rfl
        have hcz27_5 : wc.cell? ⟨gb351, 5, none⟩ = some (.slice A0_5 l0_5.length c0_5) := (blk_cell BK351.out 5).trans rfl
        have hcz27_6 : wc.cell? ⟨gb351, 6, none⟩ = some (.int .i64 a0_6) := (blk_cell BK351.out 6).trans rfl
        have hcz27_7 : wc.cell? ⟨gb351, 7, none⟩ = some (.slice A0_7 l0_7.length c0_7) := (blk_cell BK351.out 7).trans rfl
        have hcz27_8 : wc.cell? ⟨gb351, 8, none⟩ = some (.slice A0_8 l0_8.length c0_8) := (blk_cell BK351.out 8).trans rfl
        have hcz27_9 : wc.cell? ⟨gb351, 9, none⟩ = some (.slice A0_9 l0_9.length c0_9) := (blk_cell BK351.out 9).trans rfl
        have hcz27_10 : wc.cell? ⟨gb351, 10, none⟩ = some (.slice A0_10 l0_10.length c0_10) := (blk_cell BK351.out 10).trans rfl
        have hfz27_0 := blk_frozen BK351.out 0
        have hfz27_1 := blk_frozen BK351.out 1
        have hfz27_2 := blk_frozen BK351.out 2
        have hfz27_3 := blk_frozen BK351.out 3
        have hfz27_4 := blk_frozen BK351.out 4
        have hfz27_5 := blk_frozen BK351.out 5
        have hfz27_6 := blk_frozen BK351.out 6
        have hfz27_7 := blk_frozen BK351.out 7
        have hfz27_8 := blk_frozen BK351.out 8
        have hfz27_9 := blk_frozen BK351.out 9
        have hfz27_10 := blk_frozen BK351.out 10
        go_wp2
        go_meet
        case rel => exact ⟨_, (false), (by first | rfl | (simp; done) | (simp [*]; done)), H', ⟨by have := HJ1.out; have := HJ15.out; first | omega | exact Nat.le_refl _⟩, ⟨by (with_reducible repeat (first | refine blk_drewN ?_ _ | refine blk_drew ?_ | refine blk_alloc ?_ _)); exact BK351.out⟩, ⟨by repeat (first | (with_reducible first | exact HB.out | apply below_alloc | apply pw_below_drewN | apply below_drew1 | refine below_set ?_ GE351.out) | exact HB.out)⟩⟩
      case rest =>
       clear HC24
       try clear c1
       try clear c2
       try clear p2
       try clear c4
       try clear c4b0
       try clear c6
       try clear c6b0
       try clear c7
       try clear c8
       try clear c8b0
       try clear c10
       try clear c10b0
       try clear c12
       try clear c12b0
       try clear c15
       try clear c17
       try clear c17b0
       try clear c17b1
       try clear c18
       try clear c18b0
       try clear c18b1
       try clear c19
       try clear c19b0
       try clear c19b1
       try clear c19b2
       try clear c25
       try clear c25b0
       try clear c25b1
       try clear hcz11_0
       try clear hcz11_1
       try clear hcz11_10
       try clear hcz11_2
       try clear hcz11_3
       try clear hcz11_4
       try clear hcz11_5
       try clear hcz11_6
       try clear hcz11_7
       try clear hcz11_8
       try clear hcz11_9
       try clear hcz13_0
       try clear hcz13_1
       try clear hcz13_10
       try clear hcz13_2
       try clear hcz13_3
       try clear hcz13_4
       try clear hcz13_5
       try clear hcz13_6
       try clear hcz13_7
       try clear hcz13_8
       try clear hcz13_9
       try clear hcz14_0
       try clear hcz14_1
       try clear hcz14_10
       try clear hcz14_2
       try clear hcz14_3
       try clear hcz14_4
       try clear hcz14_5
       try clear hcz14_6
       try clear hcz14_7
       try clear hcz14_8
       try clear hcz14_9
       try clear hcz20_0
       try clear hcz20_1
       try clear hcz20_10
       try clear hcz20_2
       try clear hcz20_3
       try clear hcz20_4
       try clear hcz20_5
       try clear hcz20_6
       try clear hcz20_7
       try clear hcz20_8
       try clear hcz20_9
       try clear hcz21_0
       try clear hcz21_1
       try clear hcz21_10
       try clear hcz21_2
       try clear hcz21_3
       try clear hcz21_4
       try clear hcz21_5
       try clear hcz21_6
       try clear hcz21_7
       try clear hcz21_8
       try clear hcz21_9
       try clear hcz22_0
       try clear hcz22_1
       try clear hcz22_10
       try clear hcz22_2
       try clear hcz22_3
       try clear hcz22_4
       try clear hcz22_5
       try clear hcz22_6
       try clear hcz22_7
       try clear hcz22_8
       try clear hcz22_9
       try clear hcz23_0
       try clear hcz23_1
       try clear hcz23_10
       try clear hcz23_2
       try clear hcz23_3
       try clear hcz23_4
       try clear hcz23_5
       try clear hcz23_6
       try clear hcz23_7
       try clear hcz23_8
       try clear hcz23_9
       try clear hcz26_0
       try clear hcz26_1
       try clear hcz26_10
       try clear hcz26_2
       try clear hcz26_3
       try clear hcz26_4
       try clear hcz26_5
       try clear hcz26_6
       try clear hcz26_7
       try clear hcz26_8
       try clear hcz26_9
       try clear hcz27_0
       try clear hcz27_1
       try clear hcz27_10
       try clear hcz27_2
       try clear hcz27_3
       try clear hcz27_4
       try clear hcz27_5
       try clear hcz27_6
       try clear hcz27_7
       try clear hcz27_8
       try clear hcz27_9
       try clear hcz5_0
       try clear hcz5_1
       try clear hcz5_10
       try clear hcz5_2
       try clear hcz5_3
       try clear hcz5_4
       try clear hcz5_5
       try clear hcz5_6
       try clear hcz5_7
       try clear hcz5_8
       try clear hcz5_9
       try clear hcz7_0
       try clear hcz7_1
       try clear hcz7_10
       try clear hcz7_2
       try clear hcz7_3
       try clear hcz7_4
       try clear hcz7_5
       try clear hcz7_6
       try clear hcz7_7
       try clear hcz7_8
       try clear hcz7_9
       try clear hcz9_0
       try clear hcz9_1
       try clear hcz9_10
       try clear hcz9_2
       try clear hcz9_3
       try clear hcz9_4
       try clear hcz9_5
       try clear hcz9_6
       try clear hcz9_7
       try clear hcz9_8
       try clear hcz9_9
       try clear hfz11_0
       try clear hfz11_1
       try clear hfz11_10
       try clear hfz11_2
       try clear hfz11_3
       try clear hfz11_4
       try clear hfz11_5
       try clear hfz11_6
       try clear hfz11_7
       try clear hfz11_8
       try clear hfz11_9
       try clear hfz13_0
       try clear hfz13_1
       try clear hfz13_10
       try clear hfz13_2
       try clear hfz13_3
       try clear hfz13_4
       try clear hfz13_5
       try clear hfz13_6
       try clear hfz13_7
       try clear hfz13_8
       try clear hfz13_9
       try clear hfz14_0
       try clear hfz14_1
       try clear hfz14_10
       try clear hfz14_2
       try clear hfz14_3
       try clear hfz14_4
       try clear hfz14_5
       try clear hfz14_6
       try clear hfz14_7
       try clear hfz14_8
       try clear hfz14_9
       try clear hfz20_0
       try clear hfz20_1
       try clear hfz20_10
       try clear hfz20_2
       try clear hfz20_3
       try clear hfz20_4
       try clear hfz20_5
       try clear hfz20_6
       try clear hfz20_7
       try clear hfz20_8
       try clear hfz20_9
       try clear hfz21_0
       try clear hfz21_1
       try clear hfz21_10
       try clear hfz21_2
       try clear hfz21_3
       try clear hfz21_4
       try clear hfz21_5
       try clear hfz21_6
       try clear hfz21_7
       try clear hfz21_8
       try clear hfz21_9
       try clear hfz22_0
       try clear hfz22_1
       try clear hfz22_10
       try clear hfz22_2
       try clear hfz22_3
       try clear hfz22_4
       try clear hfz22_5
       try clear hfz22_6
       try clear hfz22_7
       try clear hfz22_8
       try clear hfz22_9
       try clear hfz23_0
       try clear hfz23_1
       try clear hfz23_10
       try clear hfz23_2
       try clear hfz23_3
       try clear hfz23_4
       try clear hfz23_5
       try clear hfz23_6
       try clear hfz23_7
       try clear hfz23_8
       try clear hfz23_9
       try clear hfz26_0
       try clear hfz26_1
       try clear hfz26_10
       try clear hfz26_2
       try clear hfz26_3
       try clear hfz26_4
       try clear hfz26_5
       try clear hfz26_6
       try clear hfz26_7
       try clear hfz26_8
       try clear hfz26_9
       try clear hfz27_0
       try clear hfz27_1
       try clear hfz27_10
       try clear hfz27_2
       try clear hfz27_3
       try clear hfz27_4
       try clear hfz27_5
       try clear hfz27_6
       try clear hfz27_7
       try clear hfz27_8
       try clear hfz27_9
       try clear hfz5_0
       try clear hfz5_1
       try clear hfz5_10
       try clear hfz5_2
       try clear hfz5_3
       try clear hfz5_4
       try clear hfz5_5
       try clear hfz5_6
       try clear hfz5_7
       try clear hfz5_8
       try clear hfz5_9
       try clear hfz7_0
       try clear hfz7_1
       try clear hfz7_10
       try clear hfz7_2
       try clear hfz7_3
       try clear hfz7_4
       try clear hfz7_5
       try clear hfz7_6
       try clear hfz7_7
       try clear hfz7_8
       try clear hfz7_9
       try clear hfz9_0
       try clear hfz9_1
       try clear hfz9_10
       try clear hfz9_2
       try clear hfz9_3
       try clear hfz9_4
       try clear hfz9_5
       try clear hfz9_6
       try clear hfz9_7
       try clear hfz9_8
       try clear hfz9_9
       try clear p2
       obtain ⟨kq, x4_23, rfl, HA, HJ23, BK351, HB⟩ := hcut
       cases kq with
       | zero => exact absurd HA.out (by simp [wire_fitSegment.j2])
       | succ kj23 =>
        have H := HA.out
        clear HA
        simp only [wire_fitSegment.j2] at H
        have HC28 := Aside0.mk H
        clear H
        go_upto_block 0 with (fail)
        go_cut [5] (fun v5 wc => ∃ (kq : Nat) (x5_27 : Int), v5 = .int .i64 x5_27 ∧ Aside0 (wire_fitSegment.j5 kq x5_27 a0_0 a0_1 a0_2 a0_3 a0_4 l0_5 a0_6 l0_7 l0_8 l0_9 l0_10 = some r) ∧ Aside0 (kq ≤ kj23) ∧ Aside0 (wc.heap[gb351]? = some (.cells #[.int .i64 a0_0, .int .i64 a0_1, .int .i64 a0_2, .int .u32 a0_3, .int .i64 a0_4, (.slice A0_5 l0_5.length c0_5), .int .i64 a0_6, (.slice A0_7 l0_7.length c0_7), (.slice A0_8 l0_8.length c0_8), (.slice A0_9 l0_9.length c0_9), (.slice A0_10 l0_10.length c0_10)] 39 (0, 0))) ∧ Aside0 (Below w.heap.size w wc))
        case first =>
         have H := HC28.out
         clear HC28
         have HC29 := Aside0.mk H
         clear H
         go_upto_region 7 with (fail)
         go_cut [74] (fun v74 wc => ∃ (kq : Nat) (x74_28 : Bool), v74 = .bool x74_28 ∧ Aside0 (wire_fitSegment.j3 kq x4_23 x74_28 a0_0 a0_1 a0_2 a0_3 a0_4 l0_5 a0_6 l0_7 l0_8 l0_9 l0_10 = some r) ∧ Aside0 (kq ≤ kj23) ∧ Aside0 (wc.heap[gb351]? = some (.cells #[.int .i64 a0_0, .int .i64 a0_1, .int .i64 a0_2, .int .u32 a0_3, .int .i64 a0_4, (.slice A0_5 l0_5.length c0_5), .int .i64 a0_6, (.slice A0_7 l0_7.length c0_7), (.slice A0_8 l0_8.length c0_8), (.slice A0_9 l0_9.length c0_9), (.slice A0_10 l0_10.length c0_10)] 39 (0, 0))) ∧ Aside0 (Below w.heap.size w wc))
         case first =>
          have H := HC29.out
          clear HC29
          by_cases c30 : a0_2 = 0
          ·rw [if_pos c30] at H
           have c30b0 : (a0_2 == 0) = true := beq_iff_eq.mpr c30
           have c30b1 : (a0_2 != 0) = false := bne_eq_false_iff_eq.mpr c30
           clear c30
           (first | rw [c30b0] | (simp only [i64_w, i32_w]; rw [c30b0]) | skip)
           have H' := Aside0.mk H
           clear H
           have hcz31_0 : wc.cell? ⟨gb351, 0, none⟩ = some (.int .i64 a0_0) := (blk_cell BK351.out 0).trans rfl
           have hcz31_1 : wc.cell? ⟨gb351, 1, none⟩ = some (.int .i64 a0_1) := (blk_cell BK351.out 1).trans rfl
           have hcz31_2 : wc.cell? ⟨gb351, 2, none⟩ = some (.int .i64 a0_2) := (blk_cell BK351.out 2).trans rfl
           have hcz31_3 : wc.cell? ⟨gb351, 3, none⟩ = some (.int .u32 a0_3) := (blk_cell BK351.out 3).trans rfl
           have hcz31_4 : wc.cell? ⟨gb351, 4, none⟩ = some (.int .i64 a0_4) := (blk_cell BK351.out 4).trans rfl
           have hcz31_5 : wc.cell? ⟨gb351, 5, none⟩ = some (.slice A0_5 l0_5.length c0_5) := (blk_cell BK351.out 5).trans rfl
           have hcz31_6 : wc.cell? ⟨gb351, 6, none⟩ = some (.int .i64 a0_6) := (blk_cell BK351.out 6).trans rfl
           have hcz31_7 : wc.cell? ⟨gb351, 7, none⟩ = some (.slice A0_7 l0_7.length c0_7) := (blk_cell BK351.out 7).trans rfl
           have hcz31_8 : wc.cell? ⟨gb351, 8, none⟩ = some (.slice A0_8 l0_8.length c0_8) := (blk_cell BK351.out 8).trans rfl
           have hcz31_9 : wc.cell? ⟨gb351, 9, none⟩ = some (.slice A0_9 l0_9.length c0_9) := (blk_cell BK351.out 9).trans rfl
           have hcz31_10 : wc.cell? ⟨gb351, 10, none⟩ = some (.slice A0_10 l0_10.length c0_10) := (blk_cell BK351.out 10).trans rfl
           have hfz31_0 := blk_frozen BK351.out 0
           have hfz31_1 := blk_frozen BK351.out 1
           have hfz31_2 := blk_frozen BK351.out 2
           have hfz31_3 := blk_frozen BK351.out 3
           have hfz31_4 := blk_frozen BK351.out 4
           have hfz31_5 := blk_frozen BK351.out 5
           have hfz31_6 := blk_frozen BK351.out 6
           have hfz31_7 := blk_frozen BK351.out 7
           have hfz31_8 := blk_frozen BK351.out 8
           have hfz31_9 := blk_frozen BK351.out 9
           have hfz31_10 := blk_frozen BK351.out 10
           go_wp2
           go_meet
           case rel => exact ⟨_, (!x3_15), (by first | rfl | (simp; done) | (simp [*]; done)), H', ⟨by have := HJ1.out; have := HJ15.out; have := HJ23.out; first | omega | exact Nat.le_refl _⟩, ⟨by (with_reducible repeat (first | refine blk_drewN ?_ _ | refine blk_drew ?_ | refine blk_alloc ?_ _)); exact BK351.out⟩, ⟨by repeat (first | (with_reducible first | exact HB.out | apply below_alloc | apply pw_below_drewN | apply below_drew1 | refine below_set ?_ GE351.out) | exact HB.out)⟩⟩
          ·rw [if_neg c30] at H
           have c30b0 : (a0_2 == 0) = false := beq_eq_false_iff_ne.mpr c30
           have c30b1 : (a0_2 != 0) = true := bne_iff_ne.mpr c30
           (first | rw [c30b0] | (simp only [i64_w, i32_w]; rw [c30b0]) | skip)
           have H' := Aside0.mk H
           clear H
           have hcz32_0 : wc.cell? ⟨gb351, 0, none⟩ = some (.int .i64 a0_0) := (blk_cell BK351.out 0).trans rfl
           have hcz32_1 : wc.cell? ⟨gb351, 1, none⟩ = some (.int .i64 a0_1) := (blk_cell BK351.out 1).trans rfl
           have hcz32_2 : wc.cell? ⟨gb351, 2, none⟩ = some (.int .i64 a0_2) := (blk_cell BK351.out 2).trans rfl
           have hcz32_3 : wc.cell? ⟨gb351, 3, none⟩ = some (.int .u32 a0_3) := (blk_cell BK351.out 3).trans rfl
           have hcz32_4 : wc.cell? ⟨gb351, 4, none⟩ = some (.int .i64 a0_4) := (blk_cell BK351.out 4).trans rfl
           have hcz32_5 : wc.cell? ⟨gb351, 5, none⟩ = some (.slice A0_5 l0_5.length c0_5) := (blk_cell BK351.out 5).trans rfl
           have hcz32_6 : wc.cell? ⟨gb351, 6, none⟩ = some (.int .i64 a0_6) := (blk_cell BK351.out 6).trans rfl
           have hcz32_7 : wc.cell? ⟨gb351, 7, none⟩ = some (.slice A0_7 l0_7.length c0_7) := (blk_cell BK351.out 7).trans rfl
           have hcz32_8 : wc.cell? ⟨gb351, 8, none⟩ = some (.slice A0_8 l0_8.length c0_8) := (blk_cell BK351.out 8).trans rfl
           have hcz32_9 : wc.cell? ⟨gb351, 9, none⟩ = some (.slice A0_9 l0_9.length c0_9) := (blk_cell BK351.out 9).trans rfl
           have hcz32_10 : wc.cell? ⟨gb351, 10, none⟩ = some (.slice A0_10 l0_10.length c0_10) := (blk_cell BK351.out 10).trans rfl
           have hfz32_0 := blk_frozen BK351.out 0
           have hfz32_1 := blk_frozen BK351.out 1
           have hfz32_2 := blk_frozen BK351.out 2
           have hfz32_3 := blk_frozen BK351.out 3
           have hfz32_4 := blk_frozen BK351.out 4
           have hfz32_5 := blk_frozen BK351.out 5
           have hfz32_6 := blk_frozen BK351.out 6
           have hfz32_7 := blk_frozen BK351.out 7
           have hfz32_8 := blk_frozen BK351.out 8
           have hfz32_9 := blk_frozen BK351.out 9
           have hfz32_10 := blk_frozen BK351.out 10
           go_wp2
           go_meet
           case rel => exact ⟨_, (false), (by first | rfl | (simp; done) | (simp [*]; done)), H', ⟨by have := HJ1.out; have := HJ15.out; have := HJ23.out; first | omega | exact Nat.le_refl _⟩, ⟨by (with_reducible repeat (first | refine blk_drewN ?_ _ | refine blk_drew ?_ | refine blk_alloc ?_ _)); exact BK351.out⟩, ⟨by repeat (first | (with_reducible first | exact HB.out | apply below_alloc | apply pw_below_drewN | apply below_drew1 | refine below_set ?_ GE351.out) | exact HB.out)⟩⟩
         case rest =>
          clear HC29
          try clear c1
          try clear c2
          try clear p2
          try clear c3
          try clear c4
          try clear c4b0
          try clear c6
          try clear c6b0
          try clear c7
          try clear c8
          try clear c8b0
          try clear c10
          try clear c10b0
          try clear c12
          try clear c12b0
          try clear c15
          try clear c17
          try clear c17b0
          try clear c17b1
          try clear c18
          try clear c18b0
          try clear c18b1
          try clear c19
          try clear c19b0
          try clear c19b1
          try clear c19b2
          try clear c25
          try clear c25b0
          try clear c25b1
          try clear c30
          try clear c30b0
          try clear c30b1
          try clear hcz11_0
          try clear hcz11_1
          try clear hcz11_10
          try clear hcz11_2
          try clear hcz11_3
          try clear hcz11_4
          try clear hcz11_5
          try clear hcz11_6
          try clear hcz11_7
          try clear hcz11_8
          try clear hcz11_9
          try clear hcz13_0
          try clear hcz13_1
          try clear hcz13_10
          try clear hcz13_2
          try clear hcz13_3
          try clear hcz13_4
          try clear hcz13_5
          try clear hcz13_6
          try clear hcz13_7
          try clear hcz13_8
          try clear hcz13_9
          try clear hcz14_0
          try clear hcz14_1
          try clear hcz14_10
          try clear hcz14_2
          try clear hcz14_3
          try clear hcz14_4
          try clear hcz14_5
          try clear hcz14_6
          try clear hcz14_7
          try clear hcz14_8
          try clear hcz14_9
          try clear hcz20_0
          try clear hcz20_1
          try clear hcz20_10
          try clear hcz20_2
          try clear hcz20_3
          try clear hcz20_4
          try clear hcz20_5
          try clear hcz20_6
          try clear hcz20_7
          try clear hcz20_8
          try clear hcz20_9
          try clear hcz21_0
          try clear hcz21_1
          try clear hcz21_10
          try clear hcz21_2
          try clear hcz21_3
          try clear hcz21_4
          try clear hcz21_5
          try clear hcz21_6
          try clear hcz21_7
          try clear hcz21_8
          try clear hcz21_9
          try clear hcz22_0
          try clear hcz22_1
          try clear hcz22_10
          try clear hcz22_2
          try clear hcz22_3
          try clear hcz22_4
          try clear hcz22_5
          try clear hcz22_6
          try clear hcz22_7
          try clear hcz22_8
          try clear hcz22_9
          try clear hcz23_0
          try clear hcz23_1
          try clear hcz23_10
          try clear hcz23_2
          try clear hcz23_3
          try clear hcz23_4
          try clear hcz23_5
          try clear hcz23_6
          try clear hcz23_7
          try clear hcz23_8
          try clear hcz23_9
          try clear hcz26_0
          try clear hcz26_1
          try clear hcz26_10
          try clear hcz26_2
          try clear hcz26_3
          try clear hcz26_4
          try clear hcz26_5
          try clear hcz26_6
          try clear hcz26_7
          try clear hcz26_8
          try clear hcz26_9
          try clear hcz27_0
          try clear hcz27_1
          try clear hcz27_10
          try clear hcz27_2
          try clear hcz27_3
          try clear hcz27_4
          try clear hcz27_5
          try clear hcz27_6
          try clear hcz27_7
          try clear hcz27_8
          try clear hcz27_9
          try clear hcz31_0
          try clear hcz31_1
          try clear hcz31_10
          try clear hcz31_2
          try clear hcz31_3
          try clear hcz31_4
          try clear hcz31_5
          try clear hcz31_6
          try clear hcz31_7
          try clear hcz31_8
          try clear hcz31_9
          try clear hcz32_0
          try clear hcz32_1
          try clear hcz32_10
          try clear hcz32_2
          try clear hcz32_3
          try clear hcz32_4
          try clear hcz32_5
          try clear hcz32_6
          try clear hcz32_7
          try clear hcz32_8
          try clear hcz32_9
          try clear hcz5_0
          try clear hcz5_1
          try clear hcz5_10
          try clear hcz5_2
          try clear hcz5_3
          try clear hcz5_4
          try clear hcz5_5
          try clear hcz5_6
          try clear hcz5_7
          try clear hcz5_8
          try clear hcz5_9
          try clear hcz7_0
          try clear hcz7_1
          try clear hcz7_10
          try clear hcz7_2
          try clear hcz7_3
          try clear hcz7_4
          try clear hcz7_5
          try clear hcz7_6
          try clear hcz7_7
          try clear hcz7_8
          try clear hcz7_9
          try clear hcz9_0
          try clear hcz9_1
          try clear hcz9_10
          try clear hcz9_2
          try clear hcz9_3
          try clear hcz9_4
          try clear hcz9_5
          try clear hcz9_6
          try clear hcz9_7
          try clear hcz9_8
          try clear hcz9_9
          try clear hfz11_0
          try clear hfz11_1
          try clear hfz11_10
          try clear hfz11_2
          try clear hfz11_3
          try clear hfz11_4
          try clear hfz11_5
          try clear hfz11_6
          try clear hfz11_7
          try clear hfz11_8
          try clear hfz11_9
          try clear hfz13_0
          try clear hfz13_1
          try clear hfz13_10
          try clear hfz13_2
          try clear hfz13_3
          try clear hfz13_4
          try clear hfz13_5
          try clear hfz13_6
          try clear hfz13_7
          try clear hfz13_8
          try clear hfz13_9
          try clear hfz14_0
          try clear hfz14_1
          try clear hfz14_10
          try clear hfz14_2
          try clear hfz14_3
          try clear hfz14_4
          try clear hfz14_5
          try clear hfz14_6
          try clear hfz14_7
          try clear hfz14_8
          try clear hfz14_9
          try clear hfz20_0
          try clear hfz20_1
          try clear hfz20_10
          try clear hfz20_2
          try clear hfz20_3
          try clear hfz20_4
          try clear hfz20_5
          try clear hfz20_6
          try clear hfz20_7
          try clear hfz20_8
          try clear hfz20_9
          try clear hfz21_0
          try clear hfz21_1
          try clear hfz21_10
          try clear hfz21_2
          try clear hfz21_3
          try clear hfz21_4
          try clear hfz21_5
          try clear hfz21_6
          try clear hfz21_7
          try clear hfz21_8
          try clear hfz21_9
          try clear hfz22_0
          try clear hfz22_1
          try clear hfz22_10
          try clear hfz22_2
          try clear hfz22_3
          try clear hfz22_4
          try clear hfz22_5
          try clear hfz22_6
          try clear hfz22_7
          try clear hfz22_8
          try clear hfz22_9
          try clear hfz23_0
          try clear hfz23_1
          try clear hfz23_10
          try clear hfz23_2
          try clear hfz23_3
          try clear hfz23_4
          try clear hfz23_5
          try clear hfz23_6
          try clear hfz23_7
          try clear hfz23_8
          try clear hfz23_9
          try clear hfz26_0
          try clear hfz26_1
          try clear hfz26_10
          try clear hfz26_2
          try clear hfz26_3
          try clear hfz26_4
          try clear hfz26_5
          try clear hfz26_6
          try clear hfz26_7
          try clear hfz26_8
          try clear hfz26_9
          try clear hfz27_0
          try clear hfz27_1
          try clear hfz27_10
          try clear hfz27_2
          try clear hfz27_3
          try clear hfz27_4
          try clear hfz27_5
          try clear hfz27_6
          try clear hfz27_7
          try clear hfz27_8
          try clear hfz27_9
          try clear hfz31_0
          try clear hfz31_1
          try clear hfz31_10
          try clear hfz31_2
          try clear hfz31_3
          try clear hfz31_4
          try clear hfz31_5
          try clear hfz31_6
          try clear hfz31_7
          try clear hfz31_8
          try clear hfz31_9
          try clear hfz32_0
          try clear hfz32_1
          try clear hfz32_10
          try clear hfz32_2
          try clear hfz32_3
          try clear hfz32_4
          try clear hfz32_5
          try clear hfz32_6
          try clear hfz32_7
          try clear hfz32_8
          try clear hfz32_9
          try clear hfz5_0
          try clear hfz5_1
          try clear hfz5_10
          try clear hfz5_2
          try clear hfz5_3
          try clear hfz5_4
          try clear hfz5_5
          try clear hfz5_6
          try clear hfz5_7
          try clear hfz5_8
          try clear hfz5_9
          try clear hfz7_0
          try clear hfz7_1
          try clear hfz7_10
          try clear hfz7_2
          try clear hfz7_3
          try clear hfz7_4
          try clear hfz7_5
          try clear hfz7_6
          try clear hfz7_7
          try clear hfz7_8
          try clear hfz7_9
          try clear hfz9_0
          try clear hfz9_1
          try clear hfz9_10
          try clear hfz9_2
          try clear hfz9_3
          try clear hfz9_4
          try clear hfz9_5
          try clear hfz9_6
          try clear hfz9_7
          try clear hfz9_8
          try clear hfz9_9
          try clear p2
          obtain ⟨kq, x74_28, rfl, HA, HJ28, BK351, HB⟩ := hcut
          cases kq with
          | zero => exact absurd HA.out (by simp [wire_fitSegment.j3])
          | succ kj28 =>
           have H := HA.out
           clear HA
           simp only [wire_fitSegment.j3] at H
           have HC33 := Aside0.mk H
           clear H
           go_upto_if 74 with (fail)
           go_cut [74] (fun v74 wc => ∃ (kq : Nat) (x74_32 : Bool), v74 = .bool x74_32 ∧ Aside0 (wire_fitSegment.j4 kq x74_32 a0_0 a0_1 a0_2 a0_3 a0_4 l0_5 a0_6 l0_7 l0_8 l0_9 l0_10 = some r) ∧ Aside0 (kq ≤ kj28) ∧ Aside0 (wc.heap[gb351]? = some (.cells #[.int .i64 a0_0, .int .i64 a0_1, .int .i64 a0_2, .int .u32 a0_3, .int .i64 a0_4, (.slice A0_5 l0_5.length c0_5), .int .i64 a0_6, (.slice A0_7 l0_7.length c0_7), (.slice A0_8 l0_8.length c0_8), (.slice A0_9 l0_9.length c0_9), (.slice A0_10 l0_10.length c0_10)] 39 (0, 0))) ∧ Aside0 (Below w.heap.size w wc))
           case first =>
            have H := HC33.out
            clear HC33
            by_cases c34 : x74_28 = true
            ·subst c34
             have H1 : (wire_fitSegment.j4 kj28 true a0_0 a0_1 a0_2 a0_3 a0_4 l0_5 a0_6 l0_7 l0_8 l0_9 l0_10) = some r := by rw [if_pos rfl] at H; exact H
             clear H
             have H := H1
             clear H1
             have H' := Aside0.mk H
             clear H
             go_wp2
             go_meet
             case rel => exact ⟨_, (true), (by first | rfl | (simp; done) | (simp [*]; done)), H', ⟨by have := HJ1.out; have := HJ15.out; have := HJ23.out; have := HJ28.out; first | omega | exact Nat.le_refl _⟩, ⟨by (with_reducible repeat (first | refine blk_drewN ?_ _ | refine blk_drew ?_ | refine blk_alloc ?_ _)); exact BK351.out⟩, ⟨by repeat (first | (with_reducible first | exact HB.out | apply below_alloc | apply pw_below_drewN | apply below_drew1 | refine below_set ?_ GE351.out) | exact HB.out)⟩⟩
            ·replace c34 := Bool.eq_false_iff.mpr c34
             subst c34
             have H1 : (if a0_2 > 0 then (wire_fitSegment.j4 kj28 (!x4_23) a0_0 a0_1 a0_2 a0_3 a0_4 l0_5 a0_6 l0_7 l0_8 l0_9 l0_10) else (wire_fitSegment.j4 kj28 false a0_0 a0_1 a0_2 a0_3 a0_4 l0_5 a0_6 l0_7 l0_8 l0_9 l0_10)) = some r := by rw [if_neg (show ¬ (false = true) by decide)] at H; exact H
             clear H
             have H := H1
             clear H1
             by_cases c35 : a0_2 > 0
             ·rw [if_pos c35] at H
              have c35b0 : decide (0 < a0_2) = true := decide_eq_true c35
              clear c35
              (first | rw [c35b0] | (simp only [i64_w, i32_w]; rw [c35b0]) | skip)
              have H' := Aside0.mk H
              clear H
              have hcz36_0 : wc.cell? ⟨gb351, 0, none⟩ = some (.int .i64 a0_0) := (blk_cell BK351.out 0).trans rfl
              have hcz36_1 : wc.cell? ⟨gb351, 1, none⟩ = some (.int .i64 a0_1) := (blk_cell BK351.out 1).trans rfl
              have hcz36_2 : wc.cell? ⟨gb351, 2, none⟩ = some (.int .i64 a0_2) := (blk_cell BK351.out 2).trans rfl
              have hcz36_3 : wc.cell? ⟨gb351, 3, none⟩ = some (.int .u32 a0_3) := (blk_cell BK351.out 3).trans rfl
              have hcz36_4 : wc.cell? ⟨gb351, 4, none⟩ = some (.int .i64 a0_4) := (blk_cell BK351.out 4).trans rfl
              have hcz36_5 : wc.cell? ⟨gb351, 5, none⟩ = some (.slice A0_5 l0_5.length c0_5) := (blk_cell BK351.out 5).trans rfl
              have hcz36_6 : wc.cell? ⟨gb351, 6, none⟩ = some (.int .i64 a0_6) := (blk_cell BK351.out 6).trans rfl
              have hcz36_7 : wc.cell? ⟨gb351, 7, none⟩ = some (.slice A0_7 l0_7.length c0_7) := (blk_cell BK351.out 7).trans rfl
              have hcz36_8 : wc.cell? ⟨gb351, 8, none⟩ = some (.slice A0_8 l0_8.length c0_8) := (blk_cell BK351.out 8).trans rfl
              have hcz36_9 : wc.cell? ⟨gb351, 9, none⟩ = some (.slice A0_9 l0_9.length c0_9) := (blk_cell BK351.out 9).trans rfl
              have hcz36_10 : wc.cell? ⟨gb351, 10, none⟩ = some (.slice A0_10 l0_10.length c0_10) := (blk_cell BK351.out 10).trans rfl
              have hfz36_0 := blk_frozen BK351.out 0
              have hfz36_1 := blk_frozen BK351.out 1
              have hfz36_2 := blk_frozen BK351.out 2
              have hfz36_3 := blk_frozen BK351.out 3
              have hfz36_4 := blk_frozen BK351.out 4
              have hfz36_5 := blk_frozen BK351.out 5
              have hfz36_6 := blk_frozen BK351.out 6
              have hfz36_7 := blk_frozen BK351.out 7
              have hfz36_8 := blk_frozen BK351.out 8
              have hfz36_9 := blk_frozen BK351.out 9
              have hfz36_10 := blk_frozen BK351.out 10
              go_wp2
              go_meet
              case rel => exact ⟨_, (!x4_23), (by first | rfl | (simp; done) | (simp [*]; done)), H', ⟨by have := HJ1.out; have := HJ15.out; have := HJ23.out; have := HJ28.out; first | omega | exact Nat.le_refl _⟩, ⟨by (with_reducible repeat (first | refine blk_drewN ?_ _ | refine blk_drew ?_ | refine blk_alloc ?_ _)); exact BK351.out⟩, ⟨by repeat (first | (with_reducible first | exact HB.out | apply below_alloc | apply pw_below_drewN | apply below_drew1 | refine below_set ?_ GE351.out) | exact HB.out)⟩⟩
             ·rw [if_neg c35] at H
              have c35b0 : decide (0 < a0_2) = false := decide_eq_false c35
              clear c35
              (first | rw [c35b0] | (simp only [i64_w, i32_w]; rw [c35b0]) | skip)
              have H' := Aside0.mk H
              clear H
              have hcz37_0 : wc.cell? ⟨gb351, 0, none⟩ = some (.int .i64 a0_0) := (blk_cell BK351.out 0).trans rfl
              have hcz37_1 : wc.cell? ⟨gb351, 1, none⟩ = some (.int .i64 a0_1) := (blk_cell BK351.out 1).trans rfl
              have hcz37_2 : wc.cell? ⟨gb351, 2, none⟩ = some (.int .i64 a0_2) := (blk_cell BK351.out 2).trans rfl
              have hcz37_3 : wc.cell? ⟨gb351, 3, none⟩ = some (.int .u32 a0_3) := (blk_cell BK351.out 3).trans rfl
              have hcz37_4 : wc.cell? ⟨gb351, 4, none⟩ = some (.int .i64 a0_4) := (blk_cell BK351.out 4).trans rfl
              have hcz37_5 : wc.cell? ⟨gb351, 5, none⟩ = some (.slice A0_5 l0_5.length c0_5) := (blk_cell BK351.out 5).trans rfl
              have hcz37_6 : wc.cell? ⟨gb351, 6, none⟩ = some (.int .i64 a0_6) := (blk_cell BK351.out 6).trans rfl
              have hcz37_7 : wc.cell? ⟨gb351, 7, none⟩ = some (.slice A0_7 l0_7.length c0_7) := (blk_cell BK351.out 7).trans rfl
              have hcz37_8 : wc.cell? ⟨gb351, 8, none⟩ = some (.slice A0_8 l0_8.length c0_8) := (blk_cell BK351.out 8).trans rfl
              have hcz37_9 : wc.cell? ⟨gb351, 9, none⟩ = some (.slice A0_9 l0_9.length c0_9) := (blk_cell BK351.out 9).trans rfl
              have hcz37_10 : wc.cell? ⟨gb351, 10, none⟩ = some (.slice A0_10 l0_10.length c0_10) := (blk_cell BK351.out 10).trans rfl
              have hfz37_0 := blk_frozen BK351.out 0
              have hfz37_1 := blk_frozen BK351.out 1
              have hfz37_2 := blk_frozen BK351.out 2
              have hfz37_3 := blk_frozen BK351.out 3
              have hfz37_4 := blk_frozen BK351.out 4
              have hfz37_5 := blk_frozen BK351.out 5
              have hfz37_6 := blk_frozen BK351.out 6
              have hfz37_7 := blk_frozen BK351.out 7
              have hfz37_8 := blk_frozen BK351.out 8
              have hfz37_9 := blk_frozen BK351.out 9
              have hfz37_10 := blk_frozen BK351.out 10
              go_wp2
              go_meet
              case rel => exact ⟨_, (false), (by first | rfl | (simp; done) | (simp [*]; done)), H', ⟨by have := HJ1.out; have := HJ15.out; have := HJ23.out; have := HJ28.out; first | omega | exact Nat.le_refl _⟩, ⟨by (with_reducible repeat (first | refine blk_drewN ?_ _ | refine blk_drew ?_ | refine blk_alloc ?_ _)); exact BK351.out⟩, ⟨by repeat (first | (with_reducible first | exact HB.out | apply below_alloc | apply pw_below_drewN | apply below_drew1 | refine below_set ?_ GE351.out) | exact HB.out)⟩⟩
           case rest =>
            clear HC33
            try clear c1
            try clear c2
            try clear p2
            try clear c3
            try clear c4
            try clear c4b0
            try clear c6
            try clear c6b0
            try clear c7
            try clear c8
            try clear c8b0
            try clear c10
            try clear c10b0
            try clear c12
            try clear c12b0
            try clear c15
            try clear c17
            try clear c17b0
            try clear c17b1
            try clear c18
            try clear c18b0
            try clear c18b1
            try clear c19
            try clear c19b0
            try clear c19b1
            try clear c19b2
            try clear c25
            try clear c25b0
            try clear c25b1
            try clear c30
            try clear c30b0
            try clear c30b1
            try clear c34
            try clear c35
            try clear c35b0
            try clear hcz11_0
            try clear hcz11_1
            try clear hcz11_10
            try clear hcz11_2
            try clear hcz11_3
            try clear hcz11_4
            try clear hcz11_5
            try clear hcz11_6
            try clear hcz11_7
            try clear hcz11_8
            try clear hcz11_9
            try clear hcz13_0
            try clear hcz13_1
            try clear hcz13_10
            try clear hcz13_2
            try clear hcz13_3
            try clear hcz13_4
            try clear hcz13_5
            try clear hcz13_6
            try clear hcz13_7
            try clear hcz13_8
            try clear hcz13_9
            try clear hcz14_0
            try clear hcz14_1
            try clear hcz14_10
            try clear hcz14_2
            try clear hcz14_3
            try clear hcz14_4
            try clear hcz14_5
            try clear hcz14_6
            try clear hcz14_7
            try clear hcz14_8
            try clear hcz14_9
            try clear hcz20_0
            try clear hcz20_1
            try clear hcz20_10
            try clear hcz20_2
            try clear hcz20_3
            try clear hcz20_4
            try clear hcz20_5
            try clear hcz20_6
            try clear hcz20_7
            try clear hcz20_8
            try clear hcz20_9
            try clear hcz21_0
            try clear hcz21_1
            try clear hcz21_10
            try clear hcz21_2
            try clear hcz21_3
            try clear hcz21_4
            try clear hcz21_5
            try clear hcz21_6
            try clear hcz21_7
            try clear hcz21_8
            try clear hcz21_9
            try clear hcz22_0
            try clear hcz22_1
            try clear hcz22_10
            try clear hcz22_2
            try clear hcz22_3
            try clear hcz22_4
            try clear hcz22_5
            try clear hcz22_6
            try clear hcz22_7
            try clear hcz22_8
            try clear hcz22_9
            try clear hcz23_0
            try clear hcz23_1
            try clear hcz23_10
            try clear hcz23_2
            try clear hcz23_3
            try clear hcz23_4
            try clear hcz23_5
            try clear hcz23_6
            try clear hcz23_7
            try clear hcz23_8
            try clear hcz23_9
            try clear hcz26_0
            try clear hcz26_1
            try clear hcz26_10
            try clear hcz26_2
            try clear hcz26_3
            try clear hcz26_4
            try clear hcz26_5
            try clear hcz26_6
            try clear hcz26_7
            try clear hcz26_8
            try clear hcz26_9
            try clear hcz27_0
            try clear hcz27_1
            try clear hcz27_10
            try clear hcz27_2
            try clear hcz27_3
            try clear hcz27_4
            try clear hcz27_5
            try clear hcz27_6
            try clear hcz27_7
            try clear hcz27_8
            try clear hcz27_9
            try clear hcz31_0
            try clear hcz31_1
            try clear hcz31_10
            try clear hcz31_2
            try clear hcz31_3
            try clear hcz31_4
            try clear hcz31_5
            try clear hcz31_6
            try clear hcz31_7
            try clear hcz31_8
            try clear hcz31_9
            try clear hcz32_0
            try clear hcz32_1
            try clear hcz32_10
            try clear hcz32_2
            try clear hcz32_3
            try clear hcz32_4
            try clear hcz32_5
            try clear hcz32_6
            try clear hcz32_7
            try clear hcz32_8
            try clear hcz32_9
            try clear hcz36_0
            try clear hcz36_1
            try clear hcz36_10
            try clear hcz36_2
            try clear hcz36_3
            try clear hcz36_4
            try clear hcz36_5
            try clear hcz36_6
            try clear hcz36_7
            try clear hcz36_8
            try clear hcz36_9
            try clear hcz37_0
            try clear hcz37_1
            try clear hcz37_10
            try clear hcz37_2
            try clear hcz37_3
            try clear hcz37_4
            try clear hcz37_5
            try clear hcz37_6
            try clear hcz37_7
            try clear hcz37_8
            try clear hcz37_9
            try clear hcz5_0
            try clear hcz5_1
            try clear hcz5_10
            try clear hcz5_2
            try clear hcz5_3
            try clear hcz5_4
            try clear hcz5_5
            try clear hcz5_6
            try clear hcz5_7
            try clear hcz5_8
            try clear hcz5_9
            try clear hcz7_0
            try clear hcz7_1
            try clear hcz7_10
            try clear hcz7_2
            try clear hcz7_3
            try clear hcz7_4
            try clear hcz7_5
            try clear hcz7_6
            try clear hcz7_7
            try clear hcz7_8
            try clear hcz7_9
            try clear hcz9_0
            try clear hcz9_1
            try clear hcz9_10
            try clear hcz9_2
            try clear hcz9_3
            try clear hcz9_4
            try clear hcz9_5
            try clear hcz9_6
            try clear hcz9_7
            try clear hcz9_8
            try clear hcz9_9
            try clear hfz11_0
            try clear hfz11_1
            try clear hfz11_10
            try clear hfz11_2
            try clear hfz11_3
            try clear hfz11_4
            try clear hfz11_5
            try clear hfz11_6
            try clear hfz11_7
            try clear hfz11_8
            try clear hfz11_9
            try clear hfz13_0
            try clear hfz13_1
            try clear hfz13_10
            try clear hfz13_2
            try clear hfz13_3
            try clear hfz13_4
            try clear hfz13_5
            try clear hfz13_6
            try clear hfz13_7
            try clear hfz13_8
            try clear hfz13_9
            try clear hfz14_0
            try clear hfz14_1
            try clear hfz14_10
            try clear hfz14_2
            try clear hfz14_3
            try clear hfz14_4
            try clear hfz14_5
            try clear hfz14_6
            try clear hfz14_7
            try clear hfz14_8
            try clear hfz14_9
            try clear hfz20_0
            try clear hfz20_1
            try clear hfz20_10
            try clear hfz20_2
            try clear hfz20_3
            try clear hfz20_4
            try clear hfz20_5
            try clear hfz20_6
            try clear hfz20_7
            try clear hfz20_8
            try clear hfz20_9
            try clear hfz21_0
            try clear hfz21_1
            try clear hfz21_10
            try clear hfz21_2
            try clear hfz21_3
            try clear hfz21_4
            try clear hfz21_5
            try clear hfz21_6
            try clear hfz21_7
            try clear hfz21_8
            try clear hfz21_9
            try clear hfz22_0
            try clear hfz22_1
            try clear hfz22_10
            try clear hfz22_2
            try clear hfz22_3
            try clear hfz22_4
            try clear hfz22_5
            try clear hfz22_6
            try clear hfz22_7
            try clear hfz22_8
            try clear hfz22_9
            try clear hfz23_0
            try clear hfz23_1
            try clear hfz23_10
            try clear hfz23_2
            try clear hfz23_3
            try clear hfz23_4
            try clear hfz23_5
            try clear hfz23_6
            try clear hfz23_7
            try clear hfz23_8
            try clear hfz23_9
            try clear hfz26_0
            try clear hfz26_1
            try clear hfz26_10
            try clear hfz26_2
            try clear hfz26_3
            try clear hfz26_4
            try clear hfz26_5
            try clear hfz26_6
            try clear hfz26_7
            try clear hfz26_8
            try clear hfz26_9
            try clear hfz27_0
            try clear hfz27_1
            try clear hfz27_10
            try clear hfz27_2
            try clear hfz27_3
            try clear hfz27_4
            try clear hfz27_5
            try clear hfz27_6
            try clear hfz27_7
            try clear hfz27_8
            try clear hfz27_9
            try clear hfz31_0
            try clear hfz31_1
            try clear hfz31_10
            try clear hfz31_2
            try clear hfz31_3
            try clear hfz31_4
            try clear hfz31_5
            try clear hfz31_6
            try clear hfz31_7
            try clear hfz31_8
            try clear hfz31_9
            try clear hfz32_0
            try clear hfz32_1
            try clear hfz32_10
            try clear hfz32_2
            try clear hfz32_3
            try clear hfz32_4
            try clear hfz32_5
            try clear hfz32_6
            try clear hfz32_7
            try clear hfz32_8
            try clear hfz32_9
            try clear hfz36_0
            try clear hfz36_1
            try clear hfz36_10
            try clear hfz36_2
            try clear hfz36_3
            try clear hfz36_4
            try clear hfz36_5
            try clear hfz36_6
            try clear hfz36_7
            try clear hfz36_8
            try clear hfz36_9
            try clear hfz37_0
            try clear hfz37_1
            try clear hfz37_10
            try clear hfz37_2
            try clear hfz37_3
            try clear hfz37_4
            try clear hfz37_5
            try clear hfz37_6
            try clear hfz37_7
            try clear hfz37_8
            try clear hfz37_9
            try clear hfz5_0
            try clear hfz5_1
            try clear hfz5_10
            try clear hfz5_2
            try clear hfz5_3
            try clear hfz5_4
            try clear hfz5_5
            try clear hfz5_6
            try clear hfz5_7
            try clear hfz5_8
            try clear hfz5_9
            try clear hfz7_0
            try clear hfz7_1
            try clear hfz7_10
            try clear hfz7_2
            try clear hfz7_3
            try clear hfz7_4
            try clear hfz7_5
            try clear hfz7_6
            try clear hfz7_7
            try clear hfz7_8
            try clear hfz7_9
            try clear hfz9_0
            try clear hfz9_1
            try clear hfz9_10
            try clear hfz9_2
            try clear hfz9_3
            try clear hfz9_4
            try clear hfz9_5
            try clear hfz9_6
            try clear hfz9_7
            try clear hfz9_8
            try clear hfz9_9
            try clear p2
            obtain ⟨kq, x74_32, rfl, HA, HJ32, BK351, HB⟩ := hcut
            cases kq with
            | zero => exact absurd HA.out (by simp [wire_fitSegment.j4])
            | succ kj32 =>
             have H := HA.out
             clear HA
             simp only [wire_fitSegment.j4] at H
             by_cases c38 : x74_32 = true
             ·subst c38
              have H1 : (some 41) = some r := by rw [if_pos rfl] at H; exact H
              clear H
              have H := H1
              clear H1
              obtain rfl := Option.some.inj H
              go_wp2
              go_ret
              exact ⟨by first | rfl | (simp [errW_none, errW_some] <;> rfl) | (simp [*, errW_none, errW_some] <;> rfl), by repeat (first | (with_reducible first | exact HB.out | apply below_alloc | apply pw_below_drewN | apply below_drew1 | refine below_set ?_ GE351.out) | exact HB.out)⟩
             ·replace c38 := Bool.eq_false_iff.mpr c38
              subst c38
              have H1 : (if a0_2 = 0 then ((value_CheckState.f kj32 a0_4 l0_5).bind fun t352 => (wire_fitSegment.j5 kj32 t352 a0_0 a0_1 a0_2 a0_3 a0_4 l0_5 a0_6 l0_7 l0_8 l0_9 l0_10)) else ((wire_fitDelta.f kj32 a0_6 l0_7 l0_8).bind fun t353 => (wire_fitSegment.j5 kj32 t353 a0_0 a0_1 a0_2 a0_3 a0_4 l0_5 a0_6 l0_7 l0_8 l0_9 l0_10))) = some r := by rw [if_neg (show ¬ (false = true) by decide)] at H; exact H
              clear H
              have H := H1
              clear H1
              by_cases c39 : a0_2 = 0
              ·rw [if_pos c39] at H
               have c39b0 : (a0_2 == 0) = true := beq_iff_eq.mpr c39
               have c39b1 : (a0_2 != 0) = false := bne_eq_false_iff_eq.mpr c39
               clear c39
               replace H := Option.bind_eq_some_iff.mp H
               obtain ⟨t352, A400, H⟩ := H
               replace H : (wire_fitSegment.j5 kj32 t352 a0_0 a0_1 a0_2 a0_3 a0_4 l0_5 a0_6 l0_7 l0_8 l0_9 l0_10) = some r := H
               have A40 := Aside0.mk A400
               clear A400
               have H' := Aside0.mk H
               clear H
               have hcz41_0 : wc.cell? ⟨gb351, 0, none⟩ = some (.int .i64 a0_0) := (blk_cell BK351.out 0).trans rfl
               have hcz41_1 : wc.cell? ⟨gb351, 1, none⟩ = some (.int .i64 a0_1) := (blk_cell BK351.out 1).trans rfl
               have hcz41_2 : wc.cell? ⟨gb351, 2, none⟩ = some (.int .i64 a0_2) := (blk_cell BK351.out 2).trans rfl
               have hcz41_3 : wc.cell? ⟨gb351, 3, none⟩ = some (.int .u32 a0_3) := (blk_cell BK351.out 3).trans rfl
               have hcz41_4 : wc.cell? ⟨gb351, 4, none⟩ = some (.int .i64 a0_4) := (blk_cell BK351.out 4).trans rfl
               have hcz41_5 : wc.cell? ⟨gb351, 5, none⟩ = some (.slice A0_5 l0_5.length c0_5) := (blk_cell BK351.out 5).trans rfl
               have hcz41_6 : wc.cell? ⟨gb351, 6, none⟩ = some (.int .i64 a0_6) := (blk_cell BK351.out 6).trans rfl
               have hcz41_7 : wc.cell? ⟨gb351, 7, none⟩ = some (.slice A0_7 l0_7.length c0_7) := (blk_cell BK351.out 7).trans rfl
               have hcz41_8 : wc.cell? ⟨gb351, 8, none⟩ = some (.slice A0_8 l0_8.length c0_8) := (blk_cell BK351.out 8).trans rfl
               have hcz41_9 : wc.cell? ⟨gb351, 9, none⟩ = some (.slice A0_9 l0_9.length c0_9) := (blk_cell BK351.out 9).trans rfl
               have hcz41_10 : wc.cell? ⟨gb351, 10, none⟩ = some (.slice A0_10 l0_10.length c0_10) := (blk_cell BK351.out 10).trans rfl
               have hfz41_0 := blk_frozen BK351.out 0
               have hfz41_1 := blk_frozen BK351.out 1
               have hfz41_2 := blk_frozen BK351.out 2
               have hfz41_3 := blk_frozen BK351.out 3
               have hfz41_4 := blk_frozen BK351.out 4
               have hfz41_5 := blk_frozen BK351.out 5
               have hfz41_6 := blk_frozen BK351.out 6
               have hfz41_7 := blk_frozen BK351.out 7
               have hfz41_8 := blk_frozen BK351.out 8
               have hfz41_9 := blk_frozen BK351.out 9
               have hfz41_10 := blk_frozen BK351.out 10
               go_wp2_with (first | ((with_reducible refine gate_callee (f := 76) rfl ?_); refine goesL_ (some 95) rfl rfl Try.func76 (by kernel_rfl) rfl #[.agg #[.int .i64 a0_4, .slice A0_5 l0_5.length c0_5]] rfl (by (try simp only [List.map_toArray, List.map_cons, List.map_nil]); first | done | rfl | (simp only [List.length_drop, List.length_take]; rfl)) ?_; (with_reducible refine (value_CheckState.calls kj32 a0_4 _ _ l0_5 t352 _ ?side1 ?side2 A40.out).mono ?_); (case side1 => repeat (first | exact (Kd.C_below HR0_5.out HB.out) | (with_reducible refine Kd.C_alloc ?_ _) | (with_reducible refine Kd.C_drewN ?_ _) | (with_reducible refine Kd.C_drew ?_))); (case side2 => exact HC0_5.out); rintro e w42 ⟨rfl, hb⟩; refine ⟨_, rfl, ?_⟩; have n0_ := Aside0.mk (blk_below (g := gb351) (o := .cells #[.int .i64 a0_0, .int .i64 a0_1, .int .i64 a0_2, .int .u32 a0_3, .int .i64 a0_4, .slice A0_5 l0_5.length c0_5, .int .i64 a0_6, .slice A0_7 l0_7.length c0_7, .slice A0_8 l0_8.length c0_8, .slice A0_9 l0_9.length c0_9, .slice A0_10 l0_10.length c0_10] 39 (0, 0)) (by (with_reducible repeat (first | refine blk_drewN ?_ _ | refine blk_drew ?_ | refine blk_alloc ?_ _)); exact BK351.out) hb); have n1_ := Aside0.mk (below_step (by repeat (first | (with_reducible first | exact HB.out | apply below_alloc | apply pw_below_drewN | apply below_drew1 | refine below_set ?_ GE351.out) | exact HB.out)) hb); clear BK351; clear HB; have BK351 := n0_; have HB := n1_; clear n0_ n1_; (try clear hb); (try clear hb2); (try clear hk); (try clear hi)))
               go_meet
               case rel => exact ⟨_, (t352), (by first | rfl | (simp; done) | (simp [*]; done)), H', ⟨by have := HJ1.out; have := HJ15.out; have := HJ23.out; have := HJ28.out; have := HJ32.out; first | omega | exact Nat.le_refl _⟩, ⟨by (with_reducible repeat (first | refine blk_drewN ?_ _ | refine blk_drew ?_ | refine blk_alloc ?_ _)); exact BK351.out⟩, ⟨by repeat (first | (with_reducible first | exact HB.out | apply below_alloc | apply pw_below_drewN | apply below_drew1 | refine below_set ?_ GE351.out) | exact HB.out)⟩⟩
              ·rw [if_neg c39] at H
               have c39b0 : (a0_2 == 0) = false := beq_eq_false_iff_ne.mpr c39
               have c39b1 : (a0_2 != 0) = true := bne_iff_ne.mpr c39
               replace H := Option.bind_eq_some_iff.mp H
               obtain ⟨t353, A430, H⟩ := H
               replace H : (wire_fitSegment.j5 kj32 t353 a0_0 a0_1 a0_2 a0_3 a0_4 l0_5 a0_6 l0_7 l0_8 l0_9 l0_10) = some r := H
               have A43 := Aside0.mk A430
               clear A430
               have H' := Aside0.mk H
               clear H
               have hcz44_0 : wc.cell? ⟨gb351, 0, none⟩ = some (.int .i64 a0_0) := (blk_cell BK351.out 0).trans rfl
               have hcz44_1 : wc.cell? ⟨gb351, 1, none⟩ = some (.int .i64 a0_1) := (blk_cell BK351.out 1).trans rfl
               have hcz44_2 : wc.cell? ⟨gb351, 2, none⟩ = some (.int .i64 a0_2) := (blk_cell BK351.out 2).trans rfl
               have hcz44_3 : wc.cell? ⟨gb351, 3, none⟩ = some (.int .u32 a0_3) := (blk_cell BK351.out 3).trans rfl
               have hcz44_4 : wc.cell? ⟨gb351, 4, none⟩ = some (.int .i64 a0_4) := (blk_cell BK351.out 4).trans rfl
               have hcz44_5 : wc.cell? ⟨gb351, 5, none⟩ = some (.slice A0_5 l0_5.length c0_5) := (blk_cell BK351.out 5).trans rfl
               have hcz44_6 : wc.cell? ⟨gb351, 6, none⟩ = some (.int .i64 a0_6) := (blk_cell BK351.out 6).trans rfl
               have hcz44_7 : wc.cell? ⟨gb351, 7, none⟩ = some (.slice A0_7 l0_7.length c0_7) := (blk_cell BK351.out 7).trans rfl
               have hcz44_8 : wc.cell? ⟨gb351, 8, none⟩ = some (.slice A0_8 l0_8.length c0_8) := (blk_cell BK351.out 8).trans rfl
               have hcz44_9 : wc.cell? ⟨gb351, 9, none⟩ = some (.slice A0_9 l0_9.length c0_9) := (blk_cell BK351.out 9).trans rfl
               have hcz44_10 : wc.cell? ⟨gb351, 10, none⟩ = some (.slice A0_10 l0_10.length c0_10) := (blk_cell BK351.out 10).trans rfl
               have hfz44_0 := blk_frozen BK351.out 0
               have hfz44_1 := blk_frozen BK351.out 1
               have hfz44_2 := blk_frozen BK351.out 2
               have hfz44_3 := blk_frozen BK351.out 3
               have hfz44_4 := blk_frozen BK351.out 4
               have hfz44_5 := blk_frozen BK351.out 5
               have hfz44_6 := blk_frozen BK351.out 6
               have hfz44_7 := blk_frozen BK351.out 7
               have hfz44_8 := blk_frozen BK351.out 8
               have hfz44_9 := blk_frozen BK351.out 9
               have hfz44_10 := blk_frozen BK351.out 10
               go_wp2_with (first | ((with_reducible refine gate_callee (f := 118) rfl ?_); refine goesL_ (some 73) rfl rfl Try.func118 (by kernel_rfl) rfl #[.agg #[.int .i64 a0_6, .slice A0_7 l0_7.length c0_7, .slice A0_8 l0_8.length c0_8]] rfl (by (try simp only [List.map_toArray, List.map_cons, List.map_nil]); first | done | rfl | (simp only [List.length_drop, List.length_take]; rfl)) ?_; (with_reducible refine (wire_fitDelta.calls kj32 a0_6 _ _ l0_7 _ _ l0_8 t353 _ ?side1 ?side2 ?side3 ?side4 A43.out).mono ?_); (case side1 => repeat (first | exact (Kd.C_below HR0_7.out HB.out) | (with_reducible refine Kd.C_alloc ?_ _) | (with_reducible refine Kd.C_drewN ?_ _) | (with_reducible refine Kd.C_drew ?_))); (case side2 => exact HC0_7.out); (case side3 => repeat (first | exact (Kd.C_below HR0_8.out HB.out) | (with_reducible refine Kd.C_alloc ?_ _) | (with_reducible refine Kd.C_drewN ?_ _) | (with_reducible refine Kd.C_drew ?_))); (case side4 => exact HC0_8.out); rintro e w45 ⟨rfl, hb⟩; refine ⟨_, rfl, ?_⟩; have n0_ := Aside0.mk (blk_below (g := gb351) (o := .cells #[.int .i64 a0_0, .int .i64 a0_1, .int .i64 a0_2, .int .u32 a0_3, .int .i64 a0_4, .slice A0_5 l0_5.length c0_5, .int .i64 a0_6, .slice A0_7 l0_7.length c0_7, .slice A0_8 l0_8.length c0_8, .slice A0_9 l0_9.length c0_9, .slice A0_10 l0_10.length c0_10] 39 (0, 0)) (by (with_reducible repeat (first | refine blk_drewN ?_ _ | refine blk_drew ?_ | refine blk_alloc ?_ _)); exact BK351.out) hb); have n1_ := Aside0.mk (below_step (by repeat (first | (with_reducible first | exact HB.out | apply below_alloc | apply pw_below_drewN | apply below_drew1 | refine below_set ?_ GE351.out) | exact HB.out)) hb); clear BK351; clear HB; have BK351 := n0_; have HB := n1_; clear n0_ n1_; (try clear hb); (try clear hb2); (try clear hk); (try clear hi)))
               go_meet
               case rel => exact ⟨_, (t353), (by first | rfl | (simp; done) | (simp [*]; done)), H', ⟨by have := HJ1.out; have := HJ15.out; have := HJ23.out; have := HJ28.out; have := HJ32.out; first | omega | exact Nat.le_refl _⟩, ⟨by (with_reducible repeat (first | refine blk_drewN ?_ _ | refine blk_drew ?_ | refine blk_alloc ?_ _)); exact BK351.out⟩, ⟨by repeat (first | (with_reducible first | exact HB.out | apply below_alloc | apply pw_below_drewN | apply below_drew1 | refine below_set ?_ GE351.out) | exact HB.out)⟩⟩
        case rest =>
         clear HC28
         try clear c1
         try clear c2
         try clear p2
         try clear c3
         try clear c4
         try clear c4b0
         try clear c6
         try clear c6b0
         try clear c7
         try clear c8
         try clear c8b0
         try clear c10
         try clear c10b0
         try clear c11
         try clear c12
         try clear c12b0
         try clear c15
         try clear c17
         try clear c17b0
         try clear c17b1
         try clear c18
         try clear c18b0
         try clear c18b1
         try clear c19
         try clear c19b0
         try clear c19b1
         try clear c19b2
         try clear c25
         try clear c25b0
         try clear c25b1
         try clear c30
         try clear c30b0
         try clear c30b1
         try clear c34
         try clear c35
         try clear c35b0
         try clear c38
         try clear c39
         try clear c39b0
         try clear c39b1
         try clear hcz11_0
         try clear hcz11_1
         try clear hcz11_10
         try clear hcz11_2
         try clear hcz11_3
         try clear hcz11_4
         try clear hcz11_5
         try clear hcz11_6
         try clear hcz11_7
         try clear hcz11_8
         try clear hcz11_9
         try clear hcz13_0
         try clear hcz13_1
         try clear hcz13_10
         try clear hcz13_2
         try clear hcz13_3
         try clear hcz13_4
         try clear hcz13_5
         try clear hcz13_6
         try clear hcz13_7
         try clear hcz13_8
         try clear hcz13_9
         try clear hcz14_0
         try clear hcz14_1
         try clear hcz14_10
         try clear hcz14_2
         try clear hcz14_3
         try clear hcz14_4
         try clear hcz14_5
         try clear hcz14_6
         try clear hcz14_7
         try clear hcz14_8
         try clear hcz14_9
         try clear hcz20_0
         try clear hcz20_1
         try clear hcz20_10
         try clear hcz20_2
         try clear hcz20_3
         try clear hcz20_4
         try clear hcz20_5
         try clear hcz20_6
         try clear hcz20_7
         try clear hcz20_8
         try clear hcz20_9
         try clear hcz21_0
         try clear hcz21_1
         try clear hcz21_10
         try clear hcz21_2
         try clear hcz21_3
         try clear hcz21_4
         try clear hcz21_5
         try clear hcz21_6
         try clear hcz21_7
         try clear hcz21_8
         try clear hcz21_9
         try clear hcz22_0
         try clear hcz22_1
         try clear hcz22_10
         try clear hcz22_2
         try clear hcz22_3
         try clear hcz22_4
         try clear hcz22_5
         try clear hcz22_6
         try clear hcz22_7
         try clear hcz22_8
         try clear hcz22_9
         try clear hcz23_0
         try clear hcz23_1
         try clear hcz23_10
         try clear hcz23_2
         try clear hcz23_3
         try clear hcz23_4
         try clear hcz23_5
         try clear hcz23_6
         try clear hcz23_7
         try clear hcz23_8
         try clear hcz23_9
         try clear hcz26_0
         try clear hcz26_1
         try clear hcz26_10
         try clear hcz26_2
         try clear hcz26_3
         try clear hcz26_4
         try clear hcz26_5
         try clear hcz26_6
         try clear hcz26_7
         try clear hcz26_8
         try clear hcz26_9
         try clear hcz27_0
         try clear hcz27_1
         try clear hcz27_10
         try clear hcz27_2
         try clear hcz27_3
         try clear hcz27_4
         try clear hcz27_5
         try clear hcz27_6
         try clear hcz27_7
         try clear hcz27_8
         try clear hcz27_9
         try clear hcz31_0
         try clear hcz31_1
         try clear hcz31_10
         try clear hcz31_2
         try clear hcz31_3
         try clear hcz31_4
         try clear hcz31_5
         try clear hcz31_6
         try clear hcz31_7
         try clear hcz31_8
         try clear hcz31_9
         try clear hcz32_0
         try clear hcz32_1
         try clear hcz32_10
         try clear hcz32_2
         try clear hcz32_3
         try clear hcz32_4
         try clear hcz32_5
         try clear hcz32_6
         try clear hcz32_7
         try clear hcz32_8
         try clear hcz32_9
         try clear hcz36_0
         try clear hcz36_1
         try clear hcz36_10
         try clear hcz36_2
         try clear hcz36_3
         try clear hcz36_4
         try clear hcz36_5
         try clear hcz36_6
         try clear hcz36_7
         try clear hcz36_8
         try clear hcz36_9
         try clear hcz37_0
         try clear hcz37_1
         try clear hcz37_10
         try clear hcz37_2
         try clear hcz37_3
         try clear hcz37_4
         try clear hcz37_5
         try clear hcz37_6
         try clear hcz37_7
         try clear hcz37_8
         try clear hcz37_9
         try clear hcz41_0
         try clear hcz41_1
         try clear hcz41_10
         try clear hcz41_2
         try clear hcz41_3
         try clear hcz41_4
         try clear hcz41_5
         try clear hcz41_6
         try clear hcz41_7
         try clear hcz41_8
         try clear hcz41_9
         try clear hcz44_0
         try clear hcz44_1
         try clear hcz44_10
         try clear hcz44_2
         try clear hcz44_3
         try clear hcz44_4
         try clear hcz44_5
         try clear hcz44_6
         try clear hcz44_7
         try clear hcz44_8
         try clear hcz44_9
         try clear hcz5_0
         try clear hcz5_1
         try clear hcz5_10
         try clear hcz5_2
         try clear hcz5_3
         try clear hcz5_4
         try clear hcz5_5
         try clear hcz5_6
         try clear hcz5_7
         try clear hcz5_8
         try clear hcz5_9
         try clear hcz7_0
         try clear hcz7_1
         try clear hcz7_10
         try clear hcz7_2
         try clear hcz7_3
         try clear hcz7_4
         try clear hcz7_5
         try clear hcz7_6
         try clear hcz7_7
         try clear hcz7_8
         try clear hcz7_9
         try clear hcz9_0
         try clear hcz9_1
         try clear hcz9_10
         try clear hcz9_2
         try clear hcz9_3
         try clear hcz9_4
         try clear hcz9_5
         try clear hcz9_6
         try clear hcz9_7
         try clear hcz9_8
         try clear hcz9_9
         try clear hfz11_0
         try clear hfz11_1
         try clear hfz11_10
         try clear hfz11_2
         try clear hfz11_3
         try clear hfz11_4
         try clear hfz11_5
         try clear hfz11_6
         try clear hfz11_7
         try clear hfz11_8
         try clear hfz11_9
         try clear hfz13_0
         try clear hfz13_1
         try clear hfz13_10
         try clear hfz13_2
         try clear hfz13_3
         try clear hfz13_4
         try clear hfz13_5
         try clear hfz13_6
         try clear hfz13_7
         try clear hfz13_8
         try clear hfz13_9
         try clear hfz14_0
         try clear hfz14_1
         try clear hfz14_10
         try clear hfz14_2
         try clear hfz14_3
         try clear hfz14_4
         try clear hfz14_5
         try clear hfz14_6
         try clear hfz14_7
         try clear hfz14_8
         try clear hfz14_9
         try clear hfz20_0
         try clear hfz20_1
         try clear hfz20_10
         try clear hfz20_2
         try clear hfz20_3
         try clear hfz20_4
         try clear hfz20_5
         try clear hfz20_6
         try clear hfz20_7
         try clear hfz20_8
         try clear hfz20_9
         try clear hfz21_0
         try clear hfz21_1
         try clear hfz21_10
         try clear hfz21_2
         try clear hfz21_3
         try clear hfz21_4
         try clear hfz21_5
         try clear hfz21_6
         try clear hfz21_7
         try clear hfz21_8
         try clear hfz21_9
         try clear hfz22_0
         try clear hfz22_1
         try clear hfz22_10
         try clear hfz22_2
         try clear hfz22_3
         try clear hfz22_4
         try clear hfz22_5
         try clear hfz22_6
         try clear hfz22_7
         try clear hfz22_8
         try clear hfz22_9
         try clear hfz23_0
         try clear hfz23_1
         try clear hfz23_10
         try clear hfz23_2
         try clear hfz23_3
         try clear hfz23_4
         try clear hfz23_5
         try clear hfz23_6
         try clear hfz23_7
         try clear hfz23_8
         try clear hfz23_9
         try clear hfz26_0
         try clear hfz26_1
         try clear hfz26_10
         try clear hfz26_2
         try clear hfz26_3
         try clear hfz26_4
         try clear hfz26_5
         try clear hfz26_6
         try clear hfz26_7
         try clear hfz26_8
         try clear hfz26_9
         try clear hfz27_0
         try clear hfz27_1
         try clear hfz27_10
         try clear hfz27_2
         try clear hfz27_3
         try clear hfz27_4
         try clear hfz27_5
         try clear hfz27_6
         try clear hfz27_7
         try clear hfz27_8
         try clear hfz27_9
         try clear hfz31_0
         try clear hfz31_1
         try clear hfz31_10
         try clear hfz31_2
         try clear hfz31_3
         try clear hfz31_4
         try clear hfz31_5
         try clear hfz31_6
         try clear hfz31_7
         try clear hfz31_8
         try clear hfz31_9
         try clear hfz32_0
         try clear hfz32_1
         try clear hfz32_10
         try clear hfz32_2
         try clear hfz32_3
         try clear hfz32_4
         try clear hfz32_5
         try clear hfz32_6
         try clear hfz32_7
         try clear hfz32_8
         try clear hfz32_9
         try clear hfz36_0
         try clear hfz36_1
         try clear hfz36_10
         try clear hfz36_2
         try clear hfz36_3
         try clear hfz36_4
         try clear hfz36_5
         try clear hfz36_6
         try clear hfz36_7
         try clear hfz36_8
         try clear hfz36_9
         try clear hfz37_0
         try clear hfz37_1
         try clear hfz37_10
         try clear hfz37_2
         try clear hfz37_3
         try clear hfz37_4
         try clear hfz37_5
         try clear hfz37_6
         try clear hfz37_7
         try clear hfz37_8
         try clear hfz37_9
         try clear hfz41_0
         try clear hfz41_1
         try clear hfz41_10
         try clear hfz41_2
         try clear hfz41_3
         try clear hfz41_4
         try clear hfz41_5
         try clear hfz41_6
         try clear hfz41_7
         try clear hfz41_8
         try clear hfz41_9
         try clear hfz44_0
         try clear hfz44_1
         try clear hfz44_10
         try clear hfz44_2
         try clear hfz44_3
         try clear hfz44_4
         try clear hfz44_5
         try clear hfz44_6
         try clear hfz44_7
         try clear hfz44_8
         try clear hfz44_9
         try clear hfz5_0
         try clear hfz5_1
         try clear hfz5_10
         try clear hfz5_2
         try clear hfz5_3
         try clear hfz5_4
         try clear hfz5_5
         try clear hfz5_6
         try clear hfz5_7
         try clear hfz5_8
         try clear hfz5_9
         try clear hfz7_0
         try clear hfz7_1
         try clear hfz7_10
         try clear hfz7_2
         try clear hfz7_3
         try clear hfz7_4
         try clear hfz7_5
         try clear hfz7_6
         try clear hfz7_7
         try clear hfz7_8
         try clear hfz7_9
         try clear hfz9_0
         try clear hfz9_1
         try clear hfz9_10
         try clear hfz9_2
         try clear hfz9_3
         try clear hfz9_4
         try clear hfz9_5
         try clear hfz9_6
         try clear hfz9_7
         try clear hfz9_8
         try clear hfz9_9
         try clear p2
         obtain ⟨kq, x5_27, rfl, HA, HJ27, BK351, HB⟩ := hcut
         cases kq with
         | zero => exact absurd HA.out (by simp [wire_fitSegment.j5])
         | succ kj27 =>
          have H := HA.out
          clear HA
          simp only [wire_fitSegment.j5] at H
          by_cases c46 : x5_27 = 0
          ·rw [if_pos c46] at H
           have c46b0 : (x5_27 == 0) = true := beq_iff_eq.mpr c46
           have c46b1 : (x5_27 != 0) = false := bne_eq_false_iff_eq.mpr c46
           clear c46
           by_cases c47 : (l0_9.length : Int) > 4
           ·rw [if_pos c47] at H
            have c47b0 : decide (4 < (l0_9.length : Int)) = true := decide_eq_true c47
            have c47b1 : decide (4 < l0_9.length) = true := decide_eq_true (by omega)
            clear c47
            obtain rfl := Option.some.inj H
            have hcz48_0 : wc.cell? ⟨gb351, 0, none⟩ = some (.int .i64 a0_0) := (blk_cell BK351.out 0).trans rfl
            have hcz48_1 : wc.cell? ⟨gb351, 1, none⟩ = some (.int .i64 a0_1) := (blk_cell BK351.out 1).trans rfl
            have hcz48_2 : wc.cell? ⟨gb351, 2, none⟩ = some (.int .i64 a0_2) := (blk_cell BK351.out 2).trans rfl
            have hcz48_3 : wc.cell? ⟨gb351, 3, none⟩ = some (.int .u32 a0_3) := (blk_cell BK351.out 3).trans rfl
            have hcz48_4 : wc.cell? ⟨gb351, 4, none⟩ = some (.int .i64 a0_4) := (blk_cell BK351.out 4).trans rfl
            have hcz48_5 : wc.cell? ⟨gb351, 5, none⟩ = some (.slice A0_5 l0_5.length c0_5) := (blk_cell BK351.out 5).trans rfl
            have hcz48_6 : wc.cell? ⟨gb351, 6, none⟩ = some (.int .i64 a0_6) := (blk_cell BK351.out 6).trans rfl
            have hcz48_7 : wc.cell? ⟨gb351, 7, none⟩ = some (.slice A0_7 l0_7.length c0_7) := (blk_cell BK351.out 7).trans rfl
            have hcz48_8 : wc.cell? ⟨gb351, 8, none⟩ = some (.slice A0_8 l0_8.length c0_8) := (blk_cell BK351.out 8).trans rfl
            have hcz48_9 : wc.cell? ⟨gb351, 9, none⟩ = some (.slice A0_9 l0_9.length c0_9) := (blk_cell BK351.out 9).trans rfl
            have hcz48_10 : wc.cell? ⟨gb351, 10, none⟩ = some (.slice A0_10 l0_10.length c0_10) := (blk_cell BK351.out 10).trans rfl
            have hfz48_0 := blk_frozen BK351.out 0
            have hfz48_1 := blk_frozen BK351.out 1
            have hfz48_2 := blk_frozen BK351.out 2
            have hfz48_3 := blk_frozen BK351.out 3
            have hfz48_4 := blk_frozen BK351.out 4
            have hfz48_5 := blk_frozen BK351.out 5
            have hfz48_6 := blk_frozen BK351.out 6
            have hfz48_7 := blk_frozen BK351.out 7
            have hfz48_8 := blk_frozen BK351.out 8
            have hfz48_9 := blk_frozen BK351.out 9
            have hfz48_10 := blk_frozen BK351.out 10
            go_wp2
            go_ret
            exact ⟨by first | rfl | (simp [errW_none, errW_some] <;> rfl) | (simp [*, errW_none, errW_some] <;> rfl), by repeat (first | (with_reducible first | exact HB.out | apply below_alloc | apply pw_below_drewN | apply below_drew1 | refine below_set ?_ GE351.out) | exact HB.out)⟩
           ·rw [if_neg c47] at H
            have c47b0 : decide (4 < (l0_9.length : Int)) = false := decide_eq_false c47
            have c47b1 : decide (4 < l0_9.length) = false := decide_eq_false (by omega)
            clear c47
            have H' := Aside0.mk H
            clear H
            have hcz49_0 : wc.cell? ⟨gb351, 0, none⟩ = some (.int .i64 a0_0) := (blk_cell BK351.out 0).trans rfl
            have hcz49_1 : wc.cell? ⟨gb351, 1, none⟩ = some (.int .i64 a0_1) := (blk_cell BK351.out 1).trans rfl
            have hcz49_2 : wc.cell? ⟨gb351, 2, none⟩ = some (.int .i64 a0_2) := (blk_cell BK351.out 2).trans rfl
            have hcz49_3 : wc.cell? ⟨gb351, 3, none⟩ = some (.int .u32 a0_3) := (blk_cell BK351.out 3).trans rfl
            have hcz49_4 : wc.cell? ⟨gb351, 4, none⟩ = some (.int .i64 a0_4) := (blk_cell BK351.out 4).trans rfl
            have hcz49_5 : wc.cell? ⟨gb351, 5, none⟩ = some (.slice A0_5 l0_5.length c0_5) := (blk_cell BK351.out 5).trans rfl
            have hcz49_6 : wc.cell? ⟨gb351, 6, none⟩ = some (.int .i64 a0_6) := (blk_cell BK351.out 6).trans rfl
            have hcz49_7 : wc.cell? ⟨gb351, 7, none⟩ = some (.slice A0_7 l0_7.length c0_7) := (blk_cell BK351.out 7).trans rfl
            have hcz49_8 : wc.cell? ⟨gb351, 8, none⟩ = some (.slice A0_8 l0_8.length c0_8) := (blk_cell BK351.out 8).trans rfl
            have hcz49_9 : wc.cell? ⟨gb351, 9, none⟩ = some (.slice A0_9 l0_9.length c0_9) := (blk_cell BK351.out 9).trans rfl
            have hcz49_10 : wc.cell? ⟨gb351, 10, none⟩ = some (.slice A0_10 l0_10.length c0_10) := (blk_cell BK351.out 10).trans rfl
            have hfz49_0 := blk_frozen BK351.out 0
            have hfz49_1 := blk_frozen BK351.out 1
            have hfz49_2 := blk_frozen BK351.out 2
            have hfz49_3 := blk_frozen BK351.out 3
            have hfz49_4 := blk_frozen BK351.out 4
            have hfz49_5 := blk_frozen BK351.out 5
            have hfz49_6 := blk_frozen BK351.out 6
            have hfz49_7 := blk_frozen BK351.out 7
            have hfz49_8 := blk_frozen BK351.out 8
            have hfz49_9 := blk_frozen BK351.out 9
            have hfz49_10 := blk_frozen BK351.out 10
            go_wp2
            go_loopg [106] kj27 (fun kq v106 w' => ∃ (x106_5 : Int), v106 = .int .i64 x106_5 ∧ Aside0 (wire_fitSegment.l0 kq l0_9 (l0_9.length : Int) x106_5 a0_0 a0_1 a0_2 a0_3 a0_4 l0_5 a0_6 l0_7 l0_8 l0_9 l0_10 = some r) ∧ Aside0 (kq ≤ kj27) ∧ Aside0 (w'.heap[gb351]? = some (.cells #[.int .i64 a0_0, .int .i64 a0_1, .int .i64 a0_2, .int .u32 a0_3, .int .i64 a0_4, (.slice A0_5 l0_5.length c0_5), .int .i64 a0_6, (.slice A0_7 l0_7.length c0_7), (.slice A0_8 l0_8.length c0_8), (.slice A0_9 l0_9.length c0_9), (.slice A0_10 l0_10.length c0_10)] 39 (0, 0))) ∧ Aside0 (Below w.heap.size w w'))
            case atStart => exact ⟨(0), (by first | rfl | (simp; done) | (simp [*]; done)), H', ⟨Nat.le_refl _⟩, ⟨by (with_reducible repeat (first | refine blk_drewN ?_ _ | refine blk_drew ?_ | refine blk_alloc ?_ _)); exact BK351.out⟩, ⟨by repeat (first | (with_reducible first | exact HB.out | apply below_alloc | apply pw_below_drewN | apply below_drew1 | refine below_set ?_ GE351.out) | exact HB.out)⟩⟩
            case round =>
             clear H'
             try clear c1
             try clear c2
             try clear p2
             try clear c3
             try clear c4
             try clear c4b0
             try clear c6
             try clear c6b0
             try clear c7
             try clear c8
             try clear c8b0
             try clear c10
             try clear c10b0
             try clear c11
             try clear c12
             try clear c12b0
             try clear c15
             try clear c17
             try clear c17b0
             try clear c17b1
             try clear c18
             try clear c18b0
             try clear c18b1
             try clear c19
             try clear c19b0
             try clear c19b1
             try clear c19b2
             try clear c25
             try clear c25b0
             try clear c25b1
             try clear c30
             try clear c30b0
             try clear c30b1
             try clear c34
             try clear c35
             try clear c35b0
             try clear c38
             try clear c39
             try clear c39b0
             try clear c39b1
             try clear c46
             try clear c46b0
             try clear c46b1
             try clear c47
             try clear c47b0
             try clear c47b1
             try clear hcz11_0
             try clear hcz11_1
             try clear hcz11_10
             try clear hcz11_2
             try clear hcz11_3
             try clear hcz11_4
             try clear hcz11_5
             try clear hcz11_6
             try clear hcz11_7
             try clear hcz11_8
             try clear hcz11_9
             try clear hcz13_0
             try clear hcz13_1
             try clear hcz13_10
             try clear hcz13_2
             try clear hcz13_3
             try clear hcz13_4
             try clear hcz13_5
             try clear hcz13_6
             try clear hcz13_7
             try clear hcz13_8
             try clear hcz13_9
             try clear hcz14_0
             try clear hcz14_1
             try clear hcz14_10
             try clear hcz14_2
             try clear hcz14_3
             try clear hcz14_4
             try clear hcz14_5
             try clear hcz14_6
             try clear hcz14_7
             try clear hcz14_8
             try clear hcz14_9
             try clear hcz20_0
             try clear hcz20_1
             try clear hcz20_10
             try clear hcz20_2
             try clear hcz20_3
             try clear hcz20_4
             try clear hcz20_5
             try clear hcz20_6
             try clear hcz20_7
             try clear hcz20_8
             try clear hcz20_9
             try clear hcz21_0
             try clear hcz21_1
             try clear hcz21_10
             try clear hcz21_2
             try clear hcz21_3
             try clear hcz21_4
             try clear hcz21_5
             try clear hcz21_6
             try clear hcz21_7
             try clear hcz21_8
             try clear hcz21_9
             try clear hcz22_0
             try clear hcz22_1
             try clear hcz22_10
             try clear hcz22_2
             try clear hcz22_3
             try clear hcz22_4
             try clear hcz22_5
             try clear hcz22_6
             try clear hcz22_7
             try clear hcz22_8
             try clear hcz22_9
             try clear hcz23_0
             try clear hcz23_1
             try clear hcz23_10
             try clear hcz23_2
             try clear hcz23_3
             try clear hcz23_4
             try clear hcz23_5
             try clear hcz23_6
             try clear hcz23_7
             try clear hcz23_8
             try clear hcz23_9
             try clear hcz26_0
             try clear hcz26_1
             try clear hcz26_10
             try clear hcz26_2
             try clear hcz26_3
             try clear hcz26_4
             try clear hcz26_5
             try clear hcz26_6
             try clear hcz26_7
             try clear hcz26_8
             try clear hcz26_9
             try clear hcz27_0
             try clear hcz27_1
             try clear hcz27_10
             try clear hcz27_2
             try clear hcz27_3
             try clear hcz27_4
             try clear hcz27_5
             try clear hcz27_6
             try clear hcz27_7
             try clear hcz27_8
             try clear hcz27_9
             try clear hcz31_0
             try clear hcz31_1
             try clear hcz31_10
             try clear hcz31_2
             try clear hcz31_3
             try clear hcz31_4
             try clear hcz31_5
             try clear hcz31_6
             try clear hcz31_7
             try clear hcz31_8
             try clear hcz31_9
             try clear hcz32_0
             try clear hcz32_1
             try clear hcz32_10
             try clear hcz32_2
             try clear hcz32_3
             try clear hcz32_4
             try clear hcz32_5
             try clear hcz32_6
             try clear hcz32_7
             try clear hcz32_8
             try clear hcz32_9
             try clear hcz36_0
             try clear hcz36_1
             try clear hcz36_10
             try clear hcz36_2
             try clear hcz36_3
             try clear hcz36_4
             try clear hcz36_5
             try clear hcz36_6
             try clear hcz36_7
             try clear hcz36_8
             try clear hcz36_9
             try clear hcz37_0
             try clear hcz37_1
             try clear hcz37_10
             try clear hcz37_2
             try clear hcz37_3
             try clear hcz37_4
             try clear hcz37_5
             try clear hcz37_6
             try clear hcz37_7
             try clear hcz37_8
             try clear hcz37_9
             try clear hcz41_0
             try clear hcz41_1
             try clear hcz41_10
             try clear hcz41_2
             try clear hcz41_3
             try clear hcz41_4
             try clear hcz41_5
             try clear hcz41_6
             try clear hcz41_7
             try clear hcz41_8
             try clear hcz41_9
             try clear hcz44_0
             try clear hcz44_1
             try clear hcz44_10
             try clear hcz44_2
             try clear hcz44_3
             try clear hcz44_4
             try clear hcz44_5
             try clear hcz44_6
             try clear hcz44_7
             try clear hcz44_8
             try clear hcz44_9
             try clear hcz48_0
             try clear hcz48_1
             try clear hcz48_10
             try clear hcz48_2
             try clear hcz48_3
             try clear hcz48_4
             try clear hcz48_5
             try clear hcz48_6
             try clear hcz48_7
             try clear hcz48_8
             try clear hcz48_9
             try clear hcz49_0
             try clear hcz49_1
             try clear hcz49_10
             try clear hcz49_2
             try clear hcz49_3
             try clear hcz49_4
             try clear hcz49_5
             try clear hcz49_6
             try clear hcz49_7
             try clear hcz49_8
             try clear hcz49_9
             try clear hcz5_0
             try clear hcz5_1
             try clear hcz5_10
             try clear hcz5_2
             try clear hcz5_3
             try clear hcz5_4
             try clear hcz5_5
             try clear hcz5_6
             try clear hcz5_7
             try clear hcz5_8
             try clear hcz5_9
             try clear hcz7_0
             try clear hcz7_1
             try clear hcz7_10
             try clear hcz7_2
             try clear hcz7_3
             try clear hcz7_4
             try clear hcz7_5
             try clear hcz7_6
             try clear hcz7_7
             try clear hcz7_8
             try clear hcz7_9
             try clear hcz9_0
             try clear hcz9_1
             try clear hcz9_10
             try clear hcz9_2
             try clear hcz9_3
             try clear hcz9_4
             try clear hcz9_5
             try clear hcz9_6
             try clear hcz9_7
             try clear hcz9_8
             try clear hcz9_9
             try clear hfz11_0
             try clear hfz11_1
             try clear hfz11_10
             try clear hfz11_2
             try clear hfz11_3
             try clear hfz11_4
             try clear hfz11_5
             try clear hfz11_6
             try clear hfz11_7
             try clear hfz11_8
             try clear hfz11_9
             try clear hfz13_0
             try clear hfz13_1
             try clear hfz13_10
             try clear hfz13_2
             try clear hfz13_3
             try clear hfz13_4
             try clear hfz13_5
             try clear hfz13_6
             try clear hfz13_7
             try clear hfz13_8
             try clear hfz13_9
             try clear hfz14_0
             try clear hfz14_1
             try clear hfz14_10
             try clear hfz14_2
             try clear hfz14_3
             try clear hfz14_4
             try clear hfz14_5
             try clear hfz14_6
             try clear hfz14_7
             try clear hfz14_8
             try clear hfz14_9
             try clear hfz20_0
             try clear hfz20_1
             try clear hfz20_10
             try clear hfz20_2
             try clear hfz20_3
             try clear hfz20_4
             try clear hfz20_5
             try clear hfz20_6
             try clear hfz20_7
             try clear hfz20_8
             try clear hfz20_9
             try clear hfz21_0
             try clear hfz21_1
             try clear hfz21_10
             try clear hfz21_2
             try clear hfz21_3
             try clear hfz21_4
             try clear hfz21_5
             try clear hfz21_6
             try clear hfz21_7
             try clear hfz21_8
             try clear hfz21_9
             try clear hfz22_0
             try clear hfz22_1
             try clear hfz22_10
             try clear hfz22_2
             try clear hfz22_3
             try clear hfz22_4
             try clear hfz22_5
             try clear hfz22_6
             try clear hfz22_7
             try clear hfz22_8
             try clear hfz22_9
             try clear hfz23_0
             try clear hfz23_1
             try clear hfz23_10
             try clear hfz23_2
             try clear hfz23_3
             try clear hfz23_4
             try clear hfz23_5
             try clear hfz23_6
             try clear hfz23_7
             try clear hfz23_8
             try clear hfz23_9
             try clear hfz26_0
             try clear hfz26_1
             try clear hfz26_10
             try clear hfz26_2
             try clear hfz26_3
             try clear hfz26_4
             try clear hfz26_5
             try clear hfz26_6
             try clear hfz26_7
             try clear hfz26_8
             try clear hfz26_9
             try clear hfz27_0
             try clear hfz27_1
             try clear hfz27_10
             try clear hfz27_2
             try clear hfz27_3
             try clear hfz27_4
             try clear hfz27_5
             try clear hfz27_6
             try clear hfz27_7
             try clear hfz27_8
             try clear hfz27_9
             try clear hfz31_0
             try clear hfz31_1
             try clear hfz31_10
             try clear hfz31_2
             try clear hfz31_3
             try clear hfz31_4
             try clear hfz31_5
             try clear hfz31_6
             try clear hfz31_7
             try clear hfz31_8
             try clear hfz31_9
             try clear hfz32_0
             try clear hfz32_1
             try clear hfz32_10
             try clear hfz32_2
             try clear hfz32_3
             try clear hfz32_4
             try clear hfz32_5
             try clear hfz32_6
             try clear hfz32_7
             try clear hfz32_8
             try clear hfz32_9
             try clear hfz36_0
             try clear hfz36_1
             try clear hfz36_10
             try clear hfz36_2
             try clear hfz36_3
             try clear hfz36_4
             try clear hfz36_5
             try clear hfz36_6
             try clear hfz36_7
             try clear hfz36_8
             try clear hfz36_9
             try clear hfz37_0
             try clear hfz37_1
             try clear hfz37_10
             try clear hfz37_2
             try clear hfz37_3
             try clear hfz37_4
             try clear hfz37_5
             try clear hfz37_6
             try clear hfz37_7
             try clear hfz37_8
             try clear hfz37_9
             try clear hfz41_0
             try clear hfz41_1
             try clear hfz41_10
             try clear hfz41_2
             try clear hfz41_3
             try clear hfz41_4
             try clear hfz41_5
             try clear hfz41_6
             try clear hfz41_7
             try clear hfz41_8
             try clear hfz41_9
             try clear hfz44_0
             try clear hfz44_1
             try clear hfz44_10
             try clear hfz44_2
             try clear hfz44_3
             try clear hfz44_4
             try clear hfz44_5
             try clear hfz44_6
             try clear hfz44_7
             try clear hfz44_8
             try clear hfz44_9
             try clear hfz48_0
             try clear hfz48_1
             try clear hfz48_10
             try clear hfz48_2
             try clear hfz48_3
             try clear hfz48_4
             try clear hfz48_5
             try clear hfz48_6
             try clear hfz48_7
             try clear hfz48_8
             try clear hfz48_9
             try clear hfz49_0
             try clear hfz49_1
             try clear hfz49_10
             try clear hfz49_2
             try clear hfz49_3
             try clear hfz49_4
             try clear hfz49_5
             try clear hfz49_6
             try clear hfz49_7
             try clear hfz49_8
             try clear hfz49_9
             try clear hfz5_0
             try clear hfz5_1
             try clear hfz5_10
             try clear hfz5_2
             try clear hfz5_3
             try clear hfz5_4
             try clear hfz5_5
             try clear hfz5_6
             try clear hfz5_7
             try clear hfz5_8
             try clear hfz5_9
             try clear hfz7_0
             try clear hfz7_1
             try clear hfz7_10
             try clear hfz7_2
             try clear hfz7_3
             try clear hfz7_4
             try clear hfz7_5
             try clear hfz7_6
             try clear hfz7_7
             try clear hfz7_8
             try clear hfz7_9
             try clear hfz9_0
             try clear hfz9_1
             try clear hfz9_10
             try clear hfz9_2
             try clear hfz9_3
             try clear hfz9_4
             try clear hfz9_5
             try clear hfz9_6
             try clear hfz9_7
             try clear hfz9_8
             try clear hfz9_9
             try clear p2
             obtain ⟨x106_5, rfl, HA, HK5, BK351, HB⟩ := hrel
             cases gk with
             | zero => exact absurd HA.out (by simp [wire_fitSegment.l0])
             | succ k5 =>
              have H := HA.out
              clear HA
              simp only [wire_fitSegment.l0] at H
              by_cases c50 : x106_5 < (l0_9.length : Int)
              ·rw [if_pos c50] at H
               have c50b0 : decide (x106_5 < (l0_9.length : Int)) = true := decide_eq_true c50
               clear c50
               by_cases c51 : 0 ≤ x106_5
               ·rw [if_pos c51] at H
                have c51b0 : decide (0 ≤ x106_5) = true := decide_eq_true c51
                clear c51
                by_cases c52 : x106_5 < (l0_9.length : Int)
                ·rw [if_pos c52] at H
                 have c52b0 : decide (x106_5 < (l0_9.length : Int)) = true := decide_eq_true c52
                 clear c52
                 replace H := Option.bind_eq_some_iff.mp H
                 obtain ⟨t355, A530, H⟩ := H
                 replace H : (if t355 = 0 then (wire_fitSegment.l0 k5 l0_9 (l0_9.length : Int) (wrap64 (x106_5 + 1)) a0_0 a0_1 a0_2 a0_3 a0_4 l0_5 a0_6 l0_7 l0_8 l0_9 l0_10) else (some t355)) = some r := H
                 have A53 := Aside0.mk A530
                 clear A530
                 by_cases c54 : t355 = 0
                 ·rw [if_pos c54] at H
                  have c54b0 : (t355 == 0) = true := beq_iff_eq.mpr c54
                  have c54b1 : (t355 != 0) = false := bne_eq_false_iff_eq.mpr c54
                  clear c54
                  have H' := Aside0.mk H
                  clear H
                  have p354 : 0 ≤ (x106_5 : Int) := of_decide_eq_true (by first | (with_reducible assumption) | assumption)
                  have q354 : x106_5 < (l0_9.length : Int) := of_decide_eq_true (by first | (with_reducible assumption) | assumption)
                  obtain ⟨ad354, A354_0, c354_0, e354, hx354_0, hl354_0, hi354_0⟩ := at_L7 HR0_9.out x106_5 p354 q354
                  cases e354
                  replace hx354_0 := (HB.out.cell (World.block_lt_of_cell? w _ hx354_0)).trans hx354_0
                  have HR354_0 := Aside0.mk hi354_0
                  have HC354_0 := Aside0.mk hl354_0
                  clear hi354_0 hl354_0
                  replace p354 := eq_true p354
                  replace q354 := eq_true q354
                  go_wp2_with (first | ((with_reducible refine gate_callee (f := 119) rfl ?_); refine goesL_ (some 111) rfl rfl Try.func119 (by kernel_rfl) rfl #[.slice A354_0 (rd_L7 l0_9 x106_5).length c354_0] rfl (by (try simp only [List.map_toArray, List.map_cons, List.map_nil]); first | done | rfl | (simp only [List.length_drop, List.length_take]; rfl)) ?_; (with_reducible refine (wire_fitRecords.calls k5 _ _ (rd_L7 l0_9 x106_5) t355 _ ?side1 ?side2 A53.out).mono ?_); (case side1 => repeat (first | exact (Kd.C_below HR354_0.out HB.out) | (with_reducible refine Kd.C_alloc ?_ _) | (with_reducible refine Kd.C_drewN ?_ _) | (with_reducible refine Kd.C_drew ?_))); (case side2 => exact HC354_0.out); rintro e w55 ⟨rfl, hb⟩; refine ⟨_, rfl, ?_⟩; have n0_ := Aside0.mk (blk_below (g := gb351) (o := .cells #[.int .i64 a0_0, .int .i64 a0_1, .int .i64 a0_2, .int .u32 a0_3, .int .i64 a0_4, .slice A0_5 l0_5.length c0_5, .int .i64 a0_6, .slice A0_7 l0_7.length c0_7, .slice A0_8 l0_8.length c0_8, .slice (some ad354) l0_9.length c0_9, .slice A0_10 l0_10.length c0_10] 39 (0, 0)) (by (with_reducible repeat (first | refine blk_drewN ?_ _ | refine blk_drew ?_ | refine blk_alloc ?_ _)); exact BK351.out) hb); have n1_ := Aside0.mk (below_step (by repeat (first | (with_reducible first | exact HB.out | apply below_alloc | apply pw_below_drewN | apply below_drew1 | refine below_set ?_ GE351.out) | exact HB.out)) hb); clear BK351; clear HB; have BK351 := n0_; have HB := n1_; clear n0_ n1_; (try clear hb); (try clear hb2); (try clear hk); (try clear hi)))
                  go_roundg k5
                  case measure => have := HJ1.out; have := HJ15.out; have := HJ23.out; have := HJ27.out; have := HK5.out; omega
                  case rel => exact ⟨(wrap64 (x106_5 + 1)), (by first | rfl | (simp; done) | (simp [*]; done)), H', ⟨by have := HJ1.out; have := HJ15.out; have := HJ23.out; have := HJ27.out; have := HK5.out; omega⟩, ⟨by (with_reducible repeat (first | refine blk_drewN ?_ _ | refine blk_drew ?_ | refine blk_alloc ?_ _)); exact BK351.out⟩, ⟨by repeat (first | (with_reducible first | exact HB.out | apply below_alloc | apply pw_below_drewN | apply below_drew1 | refine below_set ?_ GE351.out) | exact HB.out)⟩⟩
                 ·rw [if_neg c54] at H
                  have c54b0 : (t355 == 0) = false := beq_eq_false_iff_ne.mpr c54
                  have c54b1 : (t355 != 0) = true := bne_iff_ne.mpr c54
                  obtain rfl := Option.some.inj H
                  have p354 : 0 ≤ (x106_5 : Int) := of_decide_eq_true (by first | (with_reducible assumption) | assumption)
                  have q354 : x106_5 < (l0_9.length : Int) := of_decide_eq_true (by first | (with_reducible assumption) | assumption)
                  obtain ⟨ad354, A354_0, c354_0, e354, hx354_0, hl354_0, hi354_0⟩ := at_L7 HR0_9.out x106_5 p354 q354
                  cases e354
                  replace hx354_0 := (HB.out.cell (World.block_lt_of_cell? w _ hx354_0)).trans hx354_0
                  have HR354_0 := Aside0.mk hi354_0
                  have HC354_0 := Aside0.mk hl354_0
                  clear hi354_0 hl354_0
                  replace p354 := eq_true p354
                  replace q354 := eq_true q354
                  go_wp2_with (first | ((with_reducible refine gate_callee (f := 119) rfl ?_); refine goesL_ (some 111) rfl rfl Try.func119 (by kernel_rfl) rfl #[.slice A354_0 (rd_L7 l0_9 x106_5).length c354_0] rfl (by (try simp only [List.map_toArray, List.map_cons, List.map_nil]); first | done | rfl | (simp only [List.length_drop, List.length_take]; rfl)) ?_; (with_reducible refine (wire_fitRecords.calls k5 _ _ (rd_L7 l0_9 x106_5) t355 _ ?side1 ?side2 A53.out).mono ?_); (case side1 => repeat (first | exact (Kd.C_below HR354_0.out HB.out) | (with_reducible refine Kd.C_alloc ?_ _) | (with_reducible refine Kd.C_drewN ?_ _) | (with_reducible refine Kd.C_drew ?_))); (case side2 => exact HC354_0.out); rintro e w56 ⟨rfl, hb⟩; refine ⟨_, rfl, ?_⟩; have n0_ := Aside0.mk (blk_below (g := gb351) (o := .cells #[.int .i64 a0_0, .int .i64 a0_1, .int .i64 a0_2, .int .u32 a0_3, .int .i64 a0_4, .slice A0_5 l0_5.length c0_5, .int .i64 a0_6, .slice A0_7 l0_7.length c0_7, .slice A0_8 l0_8.length c0_8, .slice (some ad354) l0_9.length c0_9, .slice A0_10 l0_10.length c0_10] 39 (0, 0)) (by (with_reducible repeat (first | refine blk_drewN ?_ _ | refine blk_drew ?_ | refine blk_alloc ?_ _)); exact BK351.out) hb); have n1_ := Aside0.mk (below_step (by repeat (first | (with_reducible first | exact HB.out | apply below_alloc | apply pw_below_drewN | apply below_drew1 | refine below_set ?_ GE351.out) | exact HB.out)) hb); clear BK351; clear HB; have BK351 := n0_; have HB := n1_; clear n0_ n1_; (try clear hb); (try clear hb2); (try clear hk); (try clear hi)))
                  go_ret
                  exact ⟨by first | rfl | (simp [errW_none, errW_some] <;> rfl) | (simp [*, errW_none, errW_some] <;> rfl), by repeat (first | (with_reducible first | exact HB.out | apply below_alloc | apply pw_below_drewN | apply below_drew1 | refine below_set ?_ GE351.out) | exact HB.out)⟩
                ·rw [if_neg c52] at H
                 exact absurd H (by simp)
               ·rw [if_neg c51] at H
                exact absurd H (by simp)
              ·rw [if_neg c50] at H
               have c50b0 : decide (x106_5 < (l0_9.length : Int)) = false := decide_eq_false c50
               clear c50
               replace H := Option.bind_eq_some_iff.mp H
               obtain ⟨t356, A570, H⟩ := H
               replace H : (some t356) = some r := H
               have A57 := Aside0.mk A570
               clear A570
               obtain rfl := Option.some.inj H
               have hcz58_0 : wr.cell? ⟨gb351, 0, none⟩ = some (.int .i64 a0_0) := (blk_cell BK351.out 0).trans rfl
               have hcz58_1 : wr.cell? ⟨gb351, 1, none⟩ = some (.int .i64 a0_1) := (blk_cell BK351.out 1).trans rfl
               have hcz58_2 : wr.cell? ⟨gb351, 2, none⟩ = some (.int .i64 a0_2) := (blk_cell BK351.out 2).trans rfl
               have hcz58_3 : wr.cell? ⟨gb351, 3, none⟩ = some (.int .u32 a0_3) := (blk_cell BK351.out 3).trans rfl
               have hcz58_4 : wr.cell? ⟨gb351, 4, none⟩ = some (.int .i64 a0_4) := (blk_cell BK351.out 4).trans rfl
               have hcz58_5 : wr.cell? ⟨gb351, 5, none⟩ = some (.slice A0_5 l0_5.length c0_5) := (blk_cell BK351.out 5).trans rfl
               have hcz58_6 : wr.cell? ⟨gb351, 6, none⟩ = some (.int .i64 a0_6) := (blk_cell BK351.out 6).trans rfl
               have hcz58_7 : wr.cell? ⟨gb351, 7, none⟩ = some (.slice A0_7 l0_7.length c0_7) := (blk_cell BK351.out 7).trans rfl
               have hcz58_8 : wr.cell? ⟨gb351, 8, none⟩ = some (.slice A0_8 l0_8.length c0_8) := (blk_cell BK351.out 8).trans rfl
               have hcz58_9 : wr.cell? ⟨gb351, 9, none⟩ = some (.slice A0_9 l0_9.length c0_9) := (blk_cell BK351.out 9).trans rfl
               have hcz58_10 : wr.cell? ⟨gb351, 10, none⟩ = some (.slice A0_10 l0_10.length c0_10) := (blk_cell BK351.out 10).trans rfl
               have hfz58_0 := blk_frozen BK351.out 0
               have hfz58_1 := blk_frozen BK351.out 1
               have hfz58_2 := blk_frozen BK351.out 2
               have hfz58_3 := blk_frozen BK351.out 3
               have hfz58_4 := blk_frozen BK351.out 4
               have hfz58_5 := blk_frozen BK351.out 5
               have hfz58_6 := blk_frozen BK351.out 6
               have hfz58_7 := blk_frozen BK351.out 7
               have hfz58_8 := blk_frozen BK351.out 8
               have hfz58_9 := blk_frozen BK351.out 9
               have hfz58_10 := blk_frozen BK351.out 10
               go_wp2_with (first | ((with_reducible refine gate_callee (f := 119) rfl ?_); refine goesL_ (some 118) rfl rfl Try.func119 (by kernel_rfl) rfl #[.slice A0_10 l0_10.length c0_10] rfl (by (try simp only [List.map_toArray, List.map_cons, List.map_nil]); first | done | rfl | (simp only [List.length_drop, List.length_take]; rfl)) ?_; (with_reducible refine (wire_fitRecords.calls k5 _ _ l0_10 t356 _ ?side1 ?side2 A57.out).mono ?_); (case side1 => repeat (first | exact (Kd.C_below HR0_10.out HB.out) | (with_reducible refine Kd.C_alloc ?_ _) | (with_reducible refine Kd.C_drewN ?_ _) | (with_reducible refine Kd.C_drew ?_))); (case side2 => exact HC0_10.out); rintro e w59 ⟨rfl, hb⟩; refine ⟨_, rfl, ?_⟩; have n0_ := Aside0.mk (blk_below (g := gb351) (o := .cells #[.int .i64 a0_0, .int .i64 a0_1, .int .i64 a0_2, .int .u32 a0_3, .int .i64 a0_4, .slice A0_5 l0_5.length c0_5, .int .i64 a0_6, .slice A0_7 l0_7.length c0_7, .slice A0_8 l0_8.length c0_8, .slice A0_9 l0_9.length c0_9, .slice A0_10 l0_10.length c0_10] 39 (0, 0)) (by (with_reducible repeat (first | refine blk_drewN ?_ _ | refine blk_drew ?_ | refine blk_alloc ?_ _)); exact BK351.out) hb); have n1_ := Aside0.mk (below_step (by repeat (first | (with_reducible first | exact HB.out | apply below_alloc | apply pw_below_drewN | apply below_drew1 | refine below_set ?_ GE351.out) | exact HB.out)) hb); clear BK351; clear HB; have BK351 := n0_; have HB := n1_; clear n0_ n1_; (try clear hb); (try clear hb2); (try clear hk); (try clear hi)))
               go_ret
               exact ⟨by first | rfl | (simp [errW_none, errW_some] <;> rfl) | (simp [*, errW_none, errW_some] <;> rfl), by repeat (first | (with_reducible first | exact HB.out | apply below_alloc | apply pw_below_drewN | apply below_drew1 | refine below_set ?_ GE351.out) | exact HB.out)⟩
          ·rw [if_neg c46] at H
           have c46b0 : (x5_27 == 0) = false := beq_eq_false_iff_ne.mpr c46
           have c46b1 : (x5_27 != 0) = true := bne_iff_ne.mpr c46
           obtain rfl := Option.some.inj H
           go_wp2
           go_ret
           exact ⟨by first | rfl | (simp [errW_none, errW_some] <;> rfl) | (simp [*, errW_none, errW_some] <;> rfl), by repeat (first | (with_reducible first | exact HB.out | apply below_alloc | apply pw_below_drewN | apply below_drew1 | refine below_set ?_ GE351.out) | exact HB.out)⟩

end Go.Proofs.Ythmkioodkldgbaa.PD
