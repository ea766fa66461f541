/- What each Go function named in this text computes, as a Lean function, and that the Go code comes to it; conditions: those in each theorem. (Lines written by this session's program.) -/
import Derived.Test.YthmkioodkldgbaaQpM04
import Derived.Test.YthmkioodkldgbaaQpM11
import Derived.Test.YthmkioodkldgbaaQpM12
import Derived.Test.YthmkioodkldgbaaQpM13
namespace Go.Proofs.Ythmkioodkldgbaa.PD
open Go.RowKit Go.Proofs.YthmkioodkldgbaaW.PrintWords Go.Proofs.YthmkioodkldgbaaW.PrintLast Go.Proofs.YthmkioodkldgbaaW.PrintMore
attribute [local go_sem] max2_int min2_int max_two min_two max_three min_three max_four min_four   -- for this text's walks alone
set_option linter.unusedVariables false
set_option linter.unusedSimpArgs false
/-! ### eddyref4_fitSegment: function 71 -/
mutual
def eddyref4_fitSegment.j0 : Nat → Bool → Int → Int → Int → Int → Int → List (S121) → Int → List (S121) → List ByteArray → List (List (S28)) → List (S28) → Option (Int)
 | 0, _, _, _, _, _, _, _, _, _, _, _, _ => none
 | k + 1, x20, x207000, x207001, x207002, x207003, x207004, x207005, x207006, x207007, x207008, x207009, x207010 => if x20 = true then (some 43) else (if x207006 = 0 then (if (x207007.length : Int) = 0 then (eddyref4_fitSegment.j1 k ((x207008.length : Int) == 0) x207000 x207001 x207002 x207003 x207004 x207005 x207006 x207007 x207008 x207009 x207010 x207006 x207007 x207008) else (eddyref4_fitSegment.j1 k false x207000 x207001 x207002 x207003 x207004 x207005 x207006 x207007 x207008 x207009 x207010 x207006 x207007 x207008)) else (eddyref4_fitSegment.j1 k false x207000 x207001 x207002 x207003 x207004 x207005 x207006 x207007 x207008 x207009 x207010 x207006 x207007 x207008))
def eddyref4_fitSegment.j1 : Nat → Bool → Int → Int → Int → Int → Int → List (S121) → Int → List (S121) → List ByteArray → List (List (S28)) → List (S28) → Int → List (S121) → List ByteArray → Option (Int)
 | 0, _, _, _, _, _, _, _, _, _, _, _, _, _, _, _ => none
 | k + 1, x4, x207000, x207001, x207002, x207003, x207004, x207005, x207006, x207007, x207008, x207009, x207010, x211000, x211001, x211002 => if x207004 = 0 then (eddyref4_fitSegment.j2 k x4 ((x207005.length : Int) == 0) x207000 x207001 x207002 x207003 x207004 x207005 x207006 x207007 x207008 x207009 x207010 x211000 x211001 x211002) else (eddyref4_fitSegment.j2 k x4 false x207000 x207001 x207002 x207003 x207004 x207005 x207006 x207007 x207008 x207009 x207010 x211000 x211001 x211002)
def eddyref4_fitSegment.j2 : Nat → Bool → Bool → Int → Int → Int → Int → Int → List (S121) → Int → List (S121) → List ByteArray → List (List (S28)) → List (S28) → Int → List (S121) → List ByteArray → Option (Int)
 | 0, _, _, _, _, _, _, _, _, _, _, _, _, _, _, _, _ => none
 | k + 1, x4, x5, x207000, x207001, x207002, x207003, x207004, x207005, x207006, x207007, x207008, x207009, x207010, x211000, x211001, x211002 => if x207002 = 0 then (if x4 = true then (if x207003 = 0 then (if x207002 > 0 then (eddyref4_fitSegment.j3 k (!x5) x207000 x207001 x207002 x207003 x207004 x207005 x207006 x207007 x207008 x207009 x207010 x211000 x211001 x211002) else (eddyref4_fitSegment.j3 k false x207000 x207001 x207002 x207003 x207004 x207005 x207006 x207007 x207008 x207009 x207010 x211000 x211001 x211002)) else (eddyref4_fitSegment.j3 k true x207000 x207001 x207002 x207003 x207004 x207005 x207006 x207007 x207008 x207009 x207010 x211000 x211001 x211002)) else (eddyref4_fitSegment.j3 k true x207000 x207001 x207002 x207003 x207004 x207005 x207006 x207007 x207008 x207009 x207010 x211000 x211001 x211002)) else (if x207002 > 0 then (eddyref4_fitSegment.j3 k (!x5) x207000 x207001 x207002 x207003 x207004 x207005 x207006 x207007 x207008 x207009 x207010 x211000 x211001 x211002) else (eddyref4_fitSegment.j3 k false x207000 x207001 x207002 x207003 x207004 x207005 x207006 x207007 x207008 x207009 x207010 x211000 x211001 x211002))
def eddyref4_fitSegment.j3 : Nat → Bool → Int → Int → Int → Int → Int → List (S121) → Int → List (S121) → List ByteArray → List (List (S28)) → List (S28) → Int → List (S121) → List ByteArray → Option (Int)
 | 0, _, _, _, _, _, _, _, _, _, _, _, _, _, _, _ => none
 | k + 1, x69, x207000, x207001, x207002, x207003, x207004, x207005, x207006, x207007, x207008, x207009, x207010, x211000, x211001, x211002 => if x69 = true then (some 41) else ((eddyref2_CheckState.f k x207004 x207005).bind fun t211 => (if x207002 > 0 then ((eddyref2_CheckState.f k x211000 x211001).bind fun t212 => (if t212 = 0 then ((eddyref4_fitGone.f k x211002).bind fun t213 => (eddyref4_fitSegment.j4 k t213 x207000 x207001 x207002 x207003 x207004 x207005 x207006 x207007 x207008 x207009 x207010)) else (eddyref4_fitSegment.j4 k t212 x207000 x207001 x207002 x207003 x207004 x207005 x207006 x207007 x207008 x207009 x207010))) else (eddyref4_fitSegment.j4 k t211 x207000 x207001 x207002 x207003 x207004 x207005 x207006 x207007 x207008 x207009 x207010)))
def eddyref4_fitSegment.j4 : Nat → Int → Int → Int → Int → Int → Int → List (S121) → Int → List (S121) → List ByteArray → List (List (S28)) → List (S28) → Option (Int)
 | 0, _, _, _, _, _, _, _, _, _, _, _, _ => none
 | k + 1, x6, x207000, x207001, x207002, x207003, x207004, x207005, x207006, x207007, x207008, x207009, x207010 => if x6 = 0 then (if (x207009.length : Int) > 4 then (some 43) else (eddyref4_fitSegment.l0 k 0 x207000 x207001 x207002 x207003 x207004 x207005 x207006 x207007 x207008 x207009 x207010)) else (some x6)
def eddyref4_fitSegment.l0 : Nat → Int → Int → Int → Int → Int → Int → List (S121) → Int → List (S121) → List ByteArray → List (List (S28)) → List (S28) → Option (Int)
 | 0, _, _, _, _, _, _, _, _, _, _, _, _ => none
 | k + 1, x7, x207000, x207001, x207002, x207003, x207004, x207005, x207006, x207007, x207008, x207009, x207010 => if x7 < (x207009.length : Int) then (if 0 ≤ x7 then ((eddyref4_fitRecords.f k (rd_L7 x207009 x7)).bind fun t215 => (if t215 = 0 then (eddyref4_fitSegment.l0 k (wrap64 (x7 + 1)) x207000 x207001 x207002 x207003 x207004 x207005 x207006 x207007 x207008 x207009 x207010) else (some t215))) else (none)) else ((eddyref4_fitRecords.f k x207010).bind fun t216 => (some t216))
end
def eddyref4_fitSegment.f (k : Nat) (a0_0 : Int) (a0_1 : Int) (a0_2 : Int) (a0_3 : Int) (a0_4 : Int) (l0_5 : List (S121)) (a0_6 : Int) (l0_7 : List (S121)) (l0_8 : List ByteArray) (l0_9 : List (List (S28))) (l0_10 : List (S28)) : Option (Int) := (eddyref4_out.f a0_0 9999).bind fun t207 => (if t207 = true then (eddyref4_fitSegment.j0 k true a0_0 a0_1 a0_2 a0_3 a0_4 l0_5 a0_6 l0_7 l0_8 l0_9 l0_10) else ((eddyref4_out.f a0_1 11).bind fun t208 => (if t208 = true then (eddyref4_fitSegment.j0 k true a0_0 a0_1 a0_2 a0_3 a0_4 l0_5 a0_6 l0_7 l0_8 l0_9 l0_10) else ((eddyref4_out.f a0_2 9999).bind fun t209 => (eddyref4_fitSegment.j0 k t209 a0_0 a0_1 a0_2 a0_3 a0_4 l0_5 a0_6 l0_7 l0_8 l0_9 l0_10)))))
set_option maxHeartbeats 8000000 in
set_option maxRecDepth 100000 in
theorem eddyref4_fitSegment.calls (k : Nat) (a0_0 : Int) (a0_1 : Int) (a0_2 : Int) (a0_3 : Int) (a0_4 : Int) (A0_5 : Option Addr) (c0_5 : Nat) (l0_5 : List (S121)) (a0_6 : Int) (A0_7 : Option Addr) (c0_7 : Nat) (l0_7 : List (S121)) (A0_8 : Option Addr) (c0_8 : Nat) (l0_8 : List ByteArray) (A0_9 : Option Addr) (c0_9 : Nat) (l0_9 : List (List (S28))) (A0_10 : Option Addr) (c0_10 : Nat) (l0_10 : List (S28)) (r : Int) (w : World) (hr0_5 : Kd.C k121 w A0_5 l0_5.length l0_5) (hc0_5 : l0_5.length ≤ c0_5) (hr0_7 : Kd.C k121 w A0_7 l0_7.length l0_7) (hc0_7 : l0_7.length ≤ c0_7) (hr0_8 : Kd.C Kd.string w A0_8 l0_8.length l0_8) (hc0_8 : l0_8.length ≤ c0_8) (hr0_9 : Kd.C (Kd.slice 28 k28) w A0_9 l0_9.length l0_9) (hc0_9 : l0_9.length ≤ c0_9) (hr0_10 : Kd.C k28 w A0_10 l0_10.length l0_10) (hc0_10 : l0_10.length ≤ c0_10) (h : eddyref4_fitSegment.f k a0_0 a0_1 a0_2 a0_3 a0_4 l0_5 a0_6 l0_7 l0_8 l0_9 l0_10 = some r) :
  Calls Try.prog 71 #[.agg #[.int .i64 a0_0, .int .i64 a0_1, .int .i64 a0_2, .int .u32 a0_3, .int .i64 a0_4, .slice A0_5 l0_5.length c0_5, .int .i64 a0_6, .slice A0_7 l0_7.length c0_7, .slice A0_8 l0_8.length c0_8, .slice A0_9 l0_9.length c0_9, .slice A0_10 l0_10.length c0_10]] w fun e w' => e = .returned (.int .i64 r) ∧ Below w.heap.size w w' := by
 have hu39 := Try.underlying39
 have hu35 := Try.underlying35
 have hu31 := Try.underlying31
 have HR0_5 := Aside0.mk hr0_5
 have HC0_5 := Aside0.mk hc0_5
 clear hr0_5 hc0_5
 have HR0_7 := Aside0.mk hr0_7
 have HC0_7 := Aside0.mk hc0_7
 clear hr0_7 hc0_7
 have HR0_8 := Aside0.mk hr0_8
 have HC0_8 := Aside0.mk hc0_8
 clear hr0_8 hc0_8
 have HR0_9 := Aside0.mk hr0_9
 have HC0_9 := Aside0.mk hc0_9
 clear hr0_9 hc0_9
 have HR0_10 := Aside0.mk hr0_10
 have HC0_10 := Aside0.mk hc0_10
 clear hr0_10 hc0_10
 have HB := Aside0.mk (Below.refl w.heap.size w)
 have H : ((eddyref4_out.f a0_0 9999).bind fun t207 => (if t207 = true then (eddyref4_fitSegment.j0 k true a0_0 a0_1 a0_2 a0_3 a0_4 l0_5 a0_6 l0_7 l0_8 l0_9 l0_10) else ((eddyref4_out.f a0_1 11).bind fun t208 => (if t208 = true then (eddyref4_fitSegment.j0 k true a0_0 a0_1 a0_2 a0_3 a0_4 l0_5 a0_6 l0_7 l0_8 l0_9 l0_10) else ((eddyref4_out.f a0_2 9999).bind fun t209 => (eddyref4_fitSegment.j0 k t209 a0_0 a0_1 a0_2 a0_3 a0_4 l0_5 a0_6 l0_7 l0_8 l0_9 l0_10)))))) = some r := h
 clear h
 have HC2 := Aside0.mk H
 clear H
 go_enter Try.func71, Try.ntmps71
 go_upto_region 1 with (first | ((with_reducible refine gate_dst (N := 1) rfl ?_); (try (refine gate_guard (by rfl) ?_; dsimp only)); refine box_event ?hg (N := 1) ?hd (cs := #[.int .i64 a0_0, .int .i64 a0_1, .int .i64 a0_2, .int .u32 a0_3, .int .i64 a0_4, .slice A0_5 l0_5.length c0_5, .int .i64 a0_6, .slice A0_7 l0_7.length c0_7, .slice A0_8 l0_8.length c0_8, .slice A0_9 l0_9.length c0_9, .slice A0_10 l0_10.length c0_10]) (t := 39) ?hr ?_; (case hd => rfl); (case hg => rfl); (case hr => first | (go_simp; done) | (go_simp; rfl)); intro gb206 hg w3 hbox hb; have n0_ := Aside0.mk (below_step (by repeat (first | (with_reducible first | exact HB.out | apply below_alloc | apply pw_below_drewN | apply below_drew1) | exact HB.out)) hb); have n1_ := Aside0.mk (hbox); have n2_ := Aside0.mk ((by rw [hg]; exact (below_size (by repeat (first | (with_reducible first | exact HB.out | apply below_alloc | apply pw_below_drewN | apply below_drew1) | exact HB.out))) : w.heap.size ≤ gb206)); have n3_ := Aside0.mk ((by rw [hg]; exact (below_size (by repeat (first | (with_reducible first | exact HB.out | apply below_alloc | apply pw_below_drewN | apply below_drew1) | exact HB.out))) : w.heap.size ≤ gb206)); clear HB; have HB := n0_; have BK206 := n1_; have GW206 := n2_; have GE206 := n3_; clear n0_ n1_ n2_ n3_; clear hb hbox hg))
 (try simp only [Act.put, List.setIfInBounds_toArray, List.set_cons_zero, List.set_cons_succ])
 go_cut [20] (fun v20 wc => ∃ (kq : Nat) (x20_1 : Bool), v20 = .bool x20_1 ∧ Aside0 (eddyref4_fitSegment.j0 kq x20_1 a0_0 a0_1 a0_2 a0_3 a0_4 l0_5 a0_6 l0_7 l0_8 l0_9 l0_10 = some r) ∧ Aside0 (kq ≤ k) ∧ Aside0 (wc.heap[gb206]? = some (.cells #[.int .i64 a0_0, .int .i64 a0_1, .int .i64 a0_2, .int .u32 a0_3, .int .i64 a0_4, (.slice A0_5 l0_5.length c0_5), .int .i64 a0_6, (.slice A0_7 l0_7.length c0_7), (.slice A0_8 l0_8.length c0_8), (.slice A0_9 l0_9.length c0_9), (.slice A0_10 l0_10.length c0_10)] 39 (0, 0))) ∧ Aside0 (Below w.heap.size w wc))
 case first =>
  have H := HC2.out
  clear HC2
  replace H := Option.bind_eq_some_iff.mp H
  obtain ⟨t207, A40, H⟩ := H
  replace H : (if t207 = true then (eddyref4_fitSegment.j0 k true a0_0 a0_1 a0_2 a0_3 a0_4 l0_5 a0_6 l0_7 l0_8 l0_9 l0_10) else ((eddyref4_out.f a0_1 11).bind fun t208 => (if t208 = true then (eddyref4_fitSegment.j0 k true a0_0 a0_1 a0_2 a0_3 a0_4 l0_5 a0_6 l0_7 l0_8 l0_9 l0_10) else ((eddyref4_out.f a0_2 9999).bind fun t209 => (eddyref4_fitSegment.j0 k t209 a0_0 a0_1 a0_2 a0_3 a0_4 l0_5 a0_6 l0_7 l0_8 l0_9 l0_10))))) = some r := H
  have A4 := Aside0.mk A40
  clear A40
  by_cases c5 : t207 = true
  ·subst c5
   have H1 : (eddyref4_fitSegment.j0 k true a0_0 a0_1 a0_2 a0_3 a0_4 l0_5 a0_6 l0_7 l0_8 l0_9 l0_10) = some r := by rw [if_pos rfl] at H; exact H
   clear H
   have H := H1
   clear H1
   have H' := Aside0.mk H
   clear H
   have hcz6_0 : w3.cell? ⟨gb206, 0, none⟩ = some (.int .i64 a0_0) := (blk_cell BK206.out 0).trans rfl
   have hcz6_1 : w3.cell? ⟨gb206, 1, none⟩ = some (.int .i64 a0_1) := (blk_cell BK206.out 1).trans rfl
   have hcz6_2 : w3.cell? ⟨gb206, 2, none⟩ = some (.int .i64 a0_2) := (blk_cell BK206.out 2).trans rfl
   have hcz6_3 : w3.cell? ⟨gb206, 3, none⟩ = some (.int .u32 a0_3) := (blk_cell BK206.out 3).trans rfl
   have hcz6_4 : w3.cell? ⟨gb206, 4, none⟩ = some (.int .i64 a0_4) := (blk_cell BK206.out 4).trans rfl
   have hcz6_5 : w3.cell? ⟨gb206, 5, none⟩ = some (.slice A0_5 l0_5.length c0_5) := (blk_cell BK206.out 5).trans rfl
   have hcz6_6 : w3.cell? ⟨gb206, 6, none⟩ = some (.int .i64 a0_6) := (blk_cell BK206.out 6).trans rfl
   have hcz6_7 : w3.cell? ⟨gb206, 7, none⟩ = some (.slice A0_7 l0_7.length c0_7) := (blk_cell BK206.out 7).trans rfl
   have hcz6_8 : w3.cell? ⟨gb206, 8, none⟩ = some (.slice A0_8 l0_8.length c0_8) := (blk_cell BK206.out 8).trans rfl
   have hcz6_9 : w3.cell? ⟨gb206, 9, none⟩ = some (.slice A0_9 l0_9.length c0_9) := (blk_cell BK206.out 9).trans rfl
   have hcz6_10 : w3.cell? ⟨gb206, 10, none⟩ = some (.slice A0_10 l0_10.length c0_10) := (blk_cell BK206.out 10).trans rfl
   have hfz6_0 := blk_frozen BK206.out 0
   have hfz6_1 := blk_frozen BK206.out 1
   have hfz6_2 := blk_frozen BK206.out 2
   have hfz6_3 := blk_frozen BK206.out 3
   have hfz6_4 := blk_frozen BK206.out 4
   have hfz6_5 := blk_frozen BK206.out 5
   have hfz6_6 := blk_frozen BK206.out 6
   have hfz6_7 := blk_frozen BK206.out 7
   have hfz6_8 := blk_frozen BK206.out 8
   have hfz6_9 := blk_frozen BK206.out 9
   have hfz6_10 := blk_frozen BK206.out 10
   go_wp2_with (first | ((with_reducible refine gate_callee (f := 73) rfl ?_); refine goesL_ (some 10) rfl rfl Try.func73 (by kernel_rfl) rfl #[.int .i64 a0_0, .int .i64 9999] rfl (by (try simp only [List.map_toArray, List.map_cons, List.map_nil]); first | done | rfl | (simp only [List.length_drop, List.length_take]; rfl)) ?_; (with_reducible refine (eddyref4_out.calls a0_0 9999 true _ A4.out).mono ?_); rintro e w' ⟨rfl, ⟨nd, rfl⟩⟩; refine ⟨_, rfl, ?_⟩))
   go_meet
   case rel => exact ⟨_, (true), (by first | rfl | (simp; done) | (simp [*]; done)), H', ⟨by first | omega | exact Nat.le_refl _⟩, ⟨by (with_reducible repeat (first | refine blk_drewN ?_ _ | refine blk_drew ?_ | refine blk_alloc ?_ _)); exact BK206.out⟩, ⟨by repeat (first | (with_reducible first | exact HB.out | apply below_alloc | apply pw_below_drewN | apply below_drew1 | refine below_set ?_ GE206.out) | exact HB.out)⟩⟩
  ·replace c5 := Bool.eq_false_iff.mpr c5
   subst c5
   have H1 : ((eddyref4_out.f a0_1 11).bind fun t208 => (if t208 = true then (eddyref4_fitSegment.j0 k true a0_0 a0_1 a0_2 a0_3 a0_4 l0_5 a0_6 l0_7 l0_8 l0_9 l0_10) else ((eddyref4_out.f a0_2 9999).bind fun t209 => (eddyref4_fitSegment.j0 k t209 a0_0 a0_1 a0_2 a0_3 a0_4 l0_5 a0_6 l0_7 l0_8 l0_9 l0_10)))) = some r := by rw [if_neg (show ¬ (false = true) by decide)] at H; exact H
   clear H
   have H := H1
   clear H1
   replace H := Option.bind_eq_some_iff.mp H
   obtain ⟨t208, A70, H⟩ := H
   replace H : (if t208 = true then (eddyref4_fitSegment.j0 k true a0_0 a0_1 a0_2 a0_3 a0_4 l0_5 a0_6 l0_7 l0_8 l0_9 l0_10) else ((eddyref4_out.f a0_2 9999).bind fun t209 => (eddyref4_fitSegment.j0 k t209 a0_0 a0_1 a0_2 a0_3 a0_4 l0_5 a0_6 l0_7 l0_8 l0_9 l0_10))) = some r := H
   have A7 := Aside0.mk A70
   clear A70
   by_cases c8 : t208 = true
   ·subst c8
    have H1 : (eddyref4_fitSegment.j0 k true a0_0 a0_1 a0_2 a0_3 a0_4 l0_5 a0_6 l0_7 l0_8 l0_9 l0_10) = some r := by rw [if_pos rfl] at H; exact H
    clear H
    have H := H1
    clear H1
    have H' := Aside0.mk H
    clear H
    have hcz9_0 : w3.cell? ⟨gb206, 0, none⟩ = some (.int .i64 a0_0) := (blk_cell BK206.out 0).trans rfl
    have hcz9_1 : w3.cell? ⟨gb206, 1, none⟩ = some (.int .i64 a0_1) := (blk_cell BK206.out 1).trans rfl
    have hcz9_2 : w3.cell? ⟨gb206, 2, none⟩ = some (.int .i64 a0_2) := (blk_cell BK206.out 2).trans rfl
    have hcz9_3 : w3.cell? ⟨gb206, 3, none⟩ = some (.int .u32 a0_3) := (blk_cell BK206.out 3).trans rfl
    have hcz9_4 : w3.cell? ⟨gb206, 4, none⟩ = some (.int .i64 a0_4) := (blk_cell BK206.out 4).trans rfl
    have hcz9_5 : w3.cell? ⟨gb206, 5, none⟩ = some (.slice A0_5 l0_5.length c0_5) := (blk_cell BK206.out 5).trans rfl
    have hcz9_6 : w3.cell? ⟨gb206, 6, none⟩ = some (.int .i64 a0_6) := (blk_cell BK206.out 6).trans rfl
    have hcz9_7 : w3.cell? ⟨gb206, 7, none⟩ = some (.slice A0_7 l0_7.length c0_7) := (blk_cell BK206.out 7).trans rfl
    have hcz9_8 : w3.cell? ⟨gb206, 8, none⟩ = some (.slice A0_8 l0_8.length c0_8) := (blk_cell BK206.out 8).trans rfl
    have hcz9_9 : w3.cell? ⟨gb206, 9, none⟩ = some (.slice A0_9 l0_9.length c0_9) := (blk_cell BK206.out 9).trans rfl
    have hcz9_10 : w3.cell? ⟨gb206, 10, none⟩ = some (.slice A0_10 l0_10.length c0_10) := (blk_cell BK206.out 10).trans rfl
    have hfz9_0 := blk_frozen BK206.out 0
    have hfz9_1 := blk_frozen BK206.out 1
    have hfz9_2 := blk_frozen BK206.out 2
    have hfz9_3 := blk_frozen BK206.out 3
    have hfz9_4 := blk_frozen BK206.out 4
    have hfz9_5 := blk_frozen BK206.out 5
    have hfz9_6 := blk_frozen BK206.out 6
    have hfz9_7 := blk_frozen BK206.out 7
    have hfz9_8 := blk_frozen BK206.out 8
    have hfz9_9 := blk_frozen BK206.out 9
    have hfz9_10 := blk_frozen BK206.out 10
    go_wp2_with (first | ((with_reducible refine gate_callee (f := 73) rfl ?_); refine goesL_ (some 10) rfl rfl Try.func73 (by kernel_rfl) rfl #[.int .i64 a0_0, .int .i64 9999] rfl (by (try simp only [List.map_toArray, List.map_cons, List.map_nil]); first | done | rfl | (simp only [List.length_drop, List.length_take]; rfl)) ?_; (with_reducible refine (eddyref4_out.calls a0_0 9999 false _ A4.out).mono ?_); rintro e w' ⟨rfl, ⟨nd, rfl⟩⟩; refine ⟨_, rfl, ?_⟩) | (go_at_call 73; (with_reducible refine (eddyref4_out.calls a0_1 11 true _ A7.out).mono ?_); rintro e w' ⟨rfl, ⟨nd, rfl⟩⟩))
    go_meet
    case rel => exact ⟨_, (true), (by first | rfl | (simp; done) | (simp [*]; done)), H', ⟨by first | omega | exact Nat.le_refl _⟩, ⟨by (with_reducible repeat (first | refine blk_drewN ?_ _ | refine blk_drew ?_ | refine blk_alloc ?_ _)); exact BK206.out⟩, ⟨by repeat (first | (with_reducible first | exact HB.out | apply below_alloc | apply pw_below_drewN | apply below_drew1 | refine below_set ?_ GE206.out) | exact HB.out)⟩⟩
   ·replace c8 := Bool.eq_false_iff.mpr c8
    subst c8
    have H1 : ((eddyref4_out.f a0_2 9999).bind fun t209 => (eddyref4_fitSegment.j0 k t209 a0_0 a0_1 a0_2 a0_3 a0_4 l0_5 a0_6 l0_7 l0_8 l0_9 l0_10)) = some r := by rw [if_neg (show ¬ (false = true) by decide)] at H; exact H
    clear H
    have H := H1
    clear H1
    replace H := Option.bind_eq_some_iff.mp H
    obtain ⟨t209, A100, H⟩ := H
    replace H : (eddyref4_fitSegment.j0 k t209 a0_0 a0_1 a0_2 a0_3 a0_4 l0_5 a0_6 l0_7 l0_8 l0_9 l0_10) = some r := H
    have A10 := Aside0.mk A100
    clear A100
    have H' := Aside0.mk H
    clear H
    have hcz11_0 : w3.cell? ⟨gb206, 0, none⟩ = some (.int .i64 a0_0) := (blk_cell BK206.out 0).trans rfl
    have hcz11_1 : w3.cell? ⟨gb206, 1, none⟩ = some (.int .i64 a0_1) := (blk_cell BK206.out 1).trans rfl
    have hcz11_2 : w3.cell? ⟨gb206, 2, none⟩ = some (.int .i64 a0_2) := (blk_cell BK206.out 2).trans rfl
    have hcz11_3 : w3.cell? ⟨gb206, 3, none⟩ = some (.int .u32 a0_3) := (blk_cell BK206.out 3).trans rfl
    have hcz11_4 : w3.cell? ⟨gb206, 4, none⟩ = some (.int .i64 a0_4) := (blk_cell BK206.out 4).trans rfl
    have hcz11_5 : w3.cell? ⟨gb206, 5, none⟩ = some (.slice A0_5 l0_5.length c0_5) := (blk_cell BK206.out 5).trans rfl
    have hcz11_6 : w3.cell? ⟨gb206, 6, none⟩ = some (.int .i64 a0_6) := (blk_cell BK206.out 6).trans rfl
    have hcz11_7 : w3.cell? ⟨gb206, 7, none⟩ = some (.slice A0_7 l0_7.length c0_7) := (blk_cell BK206.out 7).trans rfl
    have hcz11_8 : w3.cell? ⟨gb206, 8, none⟩ = some (.slice A0_8 l0_8.length c0_8) := (blk_cell BK206.out 8).trans rfl
    have hcz11_9 : w3.cell? ⟨gb206, 9, none⟩ = some (.slice A0_9 l0_9.length c0_9) := (blk_cell BK206.out 9).trans rfl
    have hcz11_10 : w3.cell? ⟨gb206, 10, none⟩ = some (.slice A0_10 l0_10.length c0_10) := (blk_cell BK206.out 10).trans rfl
    have hfz11_0 := blk_frozen BK206.out 0
    have hfz11_1 := blk_frozen BK206.out 1
    have hfz11_2 := blk_frozen BK206.out 2
    have hfz11_3 := blk_frozen BK206.out 3
    have hfz11_4 := blk_frozen BK206.out 4
    have hfz11_5 := blk_frozen BK206.out 5
    have hfz11_6 := blk_frozen BK206.out 6
    have hfz11_7 := blk_frozen BK206.out 7
    have hfz11_8 := blk_frozen BK206.out 8
    have hfz11_9 := blk_frozen BK206.out 9
    have hfz11_10 := blk_frozen BK206.out 10
    go_wp2_with (first | ((with_reducible refine gate_callee (f := 73) rfl ?_); refine goesL_ (some 10) rfl rfl Try.func73 (by kernel_rfl) rfl #[.int .i64 a0_0, .int .i64 9999] rfl (by (try simp only [List.map_toArray, List.map_cons, List.map_nil]); first | done | rfl | (simp only [List.length_drop, List.length_take]; rfl)) ?_; (with_reducible refine (eddyref4_out.calls a0_0 9999 false _ A4.out).mono ?_); rintro e w' ⟨rfl, ⟨nd, rfl⟩⟩; refine ⟨_, rfl, ?_⟩) | (go_at_call 73; (with_reducible refine (eddyref4_out.calls a0_1 11 false _ A7.out).mono ?_); rintro e w' ⟨rfl, ⟨nd, rfl⟩⟩) | (go_at_call 73; (with_reducible refine (eddyref4_out.calls a0_2 9999 t209 _ A10.out).mono ?_); rintro e w' ⟨rfl, ⟨nd, rfl⟩⟩))
    go_meet
    case rel => exact ⟨_, (t209), (by first | rfl | (simp; done) | (simp [*]; done)), H', ⟨by first | omega | exact Nat.le_refl _⟩, ⟨by (with_reducible repeat (first | refine blk_drewN ?_ _ | refine blk_drew ?_ | refine blk_alloc ?_ _)); exact BK206.out⟩, ⟨by repeat (first | (with_reducible first | exact HB.out | apply below_alloc | apply pw_below_drewN | apply below_drew1 | refine below_set ?_ GE206.out) | exact HB.out)⟩⟩
 case rest =>
  clear HC2
  try clear p2
  try clear c5
  try clear c7
  try clear c8
  try clear hcz11_0
  try clear hcz11_1
  try clear hcz11_10
  try clear hcz11_2
  try clear hcz11_3
  try clear hcz11_4
  try clear hcz11_5
  try clear hcz11_6
  try clear hcz11_7
  try clear hcz11_8
  try clear hcz11_9
  try clear hcz6_0
  try clear hcz6_1
  try clear hcz6_10
  try clear hcz6_2
  try clear hcz6_3
  try clear hcz6_4
  try clear hcz6_5
  try clear hcz6_6
  try clear hcz6_7
  try clear hcz6_8
  try clear hcz6_9
  try clear hcz9_0
  try clear hcz9_1
  try clear hcz9_10
  try clear hcz9_2
  try clear hcz9_3
  try clear hcz9_4
  try clear hcz9_5
  try clear hcz9_6
  try clear hcz9_7
  try clear hcz9_8
  try clear hcz9_9
  try clear hfz11_0
  try clear hfz11_1
  try clear hfz11_10
  try clear hfz11_2
  try clear hfz11_3
  try clear hfz11_4
  try clear hfz11_5
  try clear hfz11_6
  try clear hfz11_7
  try clear hfz11_8
  try clear hfz11_9
  try clear hfz6_0
  try clear hfz6_1
  try clear hfz6_10
  try clear hfz6_2
  try clear hfz6_3
  try clear hfz6_4
  try clear hfz6_5
  try clear hfz6_6
  try clear hfz6_7
  try clear hfz6_8
  try clear hfz6_9
  try clear hfz9_0
  try clear hfz9_1
  try clear hfz9_10
  try clear hfz9_2
  try clear hfz9_3
  try clear hfz9_4
  try clear hfz9_5
  try clear hfz9_6
  try clear hfz9_7
  try clear hfz9_8
  try clear hfz9_9
  obtain ⟨kq, x20_1, rfl, HA, HJ1, BK206, HB⟩ := hcut
  cases kq with
  | zero => exact absurd HA.out (by simp [eddyref4_fitSegment.j0])
  | succ kj1 =>
   have H := HA.out
   clear HA
   simp only [eddyref4_fitSegment.j0] at H
   by_cases c12 : x20_1 = true
   ·subst c12
    have H1 : (some 43) = some r := by rw [if_pos rfl] at H; exact H
    clear H
    have H := H1
    clear H1
    obtain rfl := Option.some.inj H
    go_wp2
    go_ret
    exact ⟨by first | rfl | (simp [errW_none, errW_some] <;> rfl) | (simp [*, errW_none, errW_some] <;> rfl), by repeat (first | (with_reducible first | exact HB.out | apply below_alloc | apply pw_below_drewN | apply below_drew1 | refine below_set ?_ GE206.out) | exact HB.out)⟩
   ·replace c12 := Bool.eq_false_iff.mpr c12
    subst c12
    have H1 : (if a0_6 = 0 then (if (l0_7.length : Int) = 0 then (eddyref4_fitSegment.j1 kj1 ((l0_8.length : Int) == 0) a0_0 a0_1 a0_2 a0_3 a0_4 l0_5 a0_6 l0_7 l0_8 l0_9 l0_10 a0_6 l0_7 l0_8) else (eddyref4_fitSegment.j1 kj1 false a0_0 a0_1 a0_2 a0_3 a0_4 l0_5 a0_6 l0_7 l0_8 l0_9 l0_10 a0_6 l0_7 l0_8)) else (eddyref4_fitSegment.j1 kj1 false a0_0 a0_1 a0_2 a0_3 a0_4 l0_5 a0_6 l0_7 l0_8 l0_9 l0_10 a0_6 l0_7 l0_8)) = some r := by rw [if_neg (show ¬ (false = true) by decide)] at H; exact H
    clear H
    have H := H1
    clear H1
    have HC13 := Aside0.mk H
    clear H
    have hcz14_0 : wc.cell? ⟨gb206, 0, none⟩ = some (.int .i64 a0_0) := (blk_cell BK206.out 0).trans rfl
    have hcz14_1 : wc.cell? ⟨gb206, 1, none⟩ = some (.int .i64 a0_1) := (blk_cell BK206.out 1).trans rfl
    have hcz14_2 : wc.cell? ⟨gb206, 2, none⟩ = some (.int .i64 a0_2) := (blk_cell BK206.out 2).trans rfl
    have hcz14_3 : wc.cell? ⟨gb206, 3, none⟩ = some (.int .u32 a0_3) := (blk_cell BK206.out 3).trans rfl
    have hcz14_4 : wc.cell? ⟨gb206, 4, none⟩ = some (.int .i64 a0_4) := (blk_cell BK206.out 4).trans rfl
    have hcz14_5 : wc.cell? ⟨gb206, 5, none⟩ = some (.slice A0_5 l0_5.length c0_5) := (blk_cell BK206.out 5).trans rfl
    have hcz14_6 : wc.cell? ⟨gb206, 6, none⟩ = some (.int .i64 a0_6) := (blk_cell BK206.out 6).trans rfl
    have hcz14_7 : wc.cell? ⟨gb206, 7, none⟩ = some (.slice A0_7 l0_7.length c0_7) := (blk_cell BK206.out 7).trans rfl
    have hcz14_8 : wc.cell? ⟨gb206, 8, none⟩ = some (.slice A0_8 l0_8.length c0_8) := (blk_cell BK206.out 8).trans rfl
    have hcz14_9 : wc.cell? ⟨gb206, 9, none⟩ = some (.slice A0_9 l0_9.length c0_9) := (blk_cell BK206.out 9).trans rfl
    have hcz14_10 : wc.cell? ⟨gb206, 10, none⟩ = some (.slice A0_10 l0_10.length c0_10) := (blk_cell BK206.out 10).trans rfl
    have hfz14_0 := blk_frozen BK206.out 0
    have hfz14_1 := blk_frozen BK206.out 1
    have hfz14_2 := blk_frozen BK206.out 2
    have hfz14_3 := blk_frozen BK206.out 3
    have hfz14_4 := blk_frozen BK206.out 4
    have hfz14_5 := blk_frozen BK206.out 5
    have hfz14_6 := blk_frozen BK206.out 6
    have hfz14_7 := blk_frozen BK206.out 7
    have hfz14_8 := blk_frozen BK206.out 8
    have hfz14_9 := blk_frozen BK206.out 9
    have hfz14_10 := blk_frozen BK206.out 10
    go_upto_region 4 with (first | ((with_reducible refine gate_dst (N := 3) rfl ?_); (try (refine gate_guard (by rfl) ?_; dsimp only)); refine box_event ?hg (N := 3) ?hd (cs := #[.int .i64 0, .slice none 0 0, .slice none 0 0]) (t := 35) ?hr ?_; (case hd => rfl); (case hg => rfl); (case hr => first | (go_simp; done) | (go_simp; rfl)); intro gb210 hg w15 hbox hb; have n0_ := Aside0.mk (blk_below (g := gb206) (o := .cells #[.int .i64 a0_0, .int .i64 a0_1, .int .i64 a0_2, .int .u32 a0_3, .int .i64 a0_4, .slice A0_5 l0_5.length c0_5, .int .i64 a0_6, .slice A0_7 l0_7.length c0_7, .slice A0_8 l0_8.length c0_8, .slice A0_9 l0_9.length c0_9, .slice A0_10 l0_10.length c0_10] 39 (0, 0)) (by (with_reducible repeat (first | refine blk_drewN ?_ _ | refine blk_drew ?_ | refine blk_alloc ?_ _)); exact BK206.out) hb); have n1_ := Aside0.mk (below_step (by repeat (first | (with_reducible first | exact HB.out | apply below_alloc | apply pw_below_drewN | apply below_drew1 | refine below_set ?_ GE206.out) | exact HB.out)) hb); have n2_ := Aside0.mk (hbox); have n3_ := Aside0.mk ((by rw [hg]; exact (below_size (by repeat (first | (with_reducible first | exact HB.out | apply below_alloc | apply pw_below_drewN | apply below_drew1 | refine below_set ?_ GE206.out) | exact HB.out))) : w.heap.size ≤ gb210)); have n4_ := Aside0.mk ((by rw [hg]; exact (below_size (by repeat (first | (with_reducible first | exact HB.out | apply below_alloc | apply pw_below_drewN | apply below_drew1 | refine below_set ?_ GE206.out) | exact HB.out))) : w.heap.size ≤ gb210)); have n5_ := Aside0.mk ((by rw [hg]; exact Nat.ne_of_lt (blk_lt (g := gb206) (o := .cells #[.int .i64 a0_0, .int .i64 a0_1, .int .i64 a0_2, .int .u32 a0_3, .int .i64 a0_4, .slice A0_5 l0_5.length c0_5, .int .i64 a0_6, .slice A0_7 l0_7.length c0_7, .slice A0_8 l0_8.length c0_8, .slice A0_9 l0_9.length c0_9, .slice A0_10 l0_10.length c0_10] 39 (0, 0)) (by (with_reducible repeat (first | refine blk_drewN ?_ _ | refine blk_drew ?_ | refine blk_alloc ?_ _)); exact BK206.out)) : gb206 ≠ gb210)); have n6_ := Aside0.mk ((by rw [hg]; exact Nat.ne_of_gt (blk_lt (g := gb206) (o := .cells #[.int .i64 a0_0, .int .i64 a0_1, .int .i64 a0_2, .int .u32 a0_3, .int .i64 a0_4, .slice A0_5 l0_5.length c0_5, .int .i64 a0_6, .slice A0_7 l0_7.length c0_7, .slice A0_8 l0_8.length c0_8, .slice A0_9 l0_9.length c0_9, .slice A0_10 l0_10.length c0_10] 39 (0, 0)) (by (with_reducible repeat (first | refine blk_drewN ?_ _ | refine blk_drew ?_ | refine blk_alloc ?_ _)); exact BK206.out)) : gb210 ≠ gb206)); clear BK206; clear HB; have BK206 := n0_; have HB := n1_; have BK210 := n2_; have GW210 := n3_; have GE210 := n4_; have NB206_210 := n5_; have NB210_206 := n6_; clear n0_ n1_ n2_ n3_ n4_ n5_ n6_; clear hb hbox hg; have hnb16 := NB210_206.out; have hnc16 := NB206_210.out; have hcz17_0 : w15.cell? ⟨gb210, 0, none⟩ = some (.int .i64 0) := (blk_cell BK210.out 0).trans rfl; have hcz17_1 : w15.cell? ⟨gb210, 1, none⟩ = some (.slice none 0 0) := (blk_cell BK210.out 1).trans rfl; have hcz17_2 : w15.cell? ⟨gb210, 2, none⟩ = some (.slice none 0 0) := (blk_cell BK210.out 2).trans rfl; have hfz17_0 := blk_frozen BK210.out 0; have hfz17_1 := blk_frozen BK210.out 1; have hfz17_2 := blk_frozen BK210.out 2))
    (try simp only [Act.put, List.setIfInBounds_toArray, List.set_cons_zero, List.set_cons_succ])
    go_cut [4] (fun v4 wc => ∃ (kq : Nat) (x4_12 : Bool), v4 = .bool x4_12 ∧ Aside0 (eddyref4_fitSegment.j1 kq x4_12 a0_0 a0_1 a0_2 a0_3 a0_4 l0_5 a0_6 l0_7 l0_8 l0_9 l0_10 a0_6 l0_7 l0_8 = some r) ∧ Aside0 (kq ≤ kj1) ∧ Aside0 (wc.heap[gb206]? = some (.cells #[.int .i64 a0_0, .int .i64 a0_1, .int .i64 a0_2, .int .u32 a0_3, .int .i64 a0_4, (.slice A0_5 l0_5.length c0_5), .int .i64 a0_6, (.slice A0_7 l0_7.length c0_7), (.slice A0_8 l0_8.length c0_8), (.slice A0_9 l0_9.length c0_9), (.slice A0_10 l0_10.length c0_10)] 39 (0, 0))) ∧ Aside0 (wc.heap[gb210]? = some (.cells #[.int .i64 a0_6, (.slice A0_7 l0_7.length c0_7), (.slice A0_8 l0_8.length c0_8)] 35 (0, 0))) ∧ Aside0 (Below w.heap.size w wc))
    case first =>
     have H := HC13.out
     clear HC13
     by_cases c18 : a0_6 = 0
     ·rw [if_pos c18] at H
      have c18b0 : (a0_6 == 0) = true := beq_iff_eq.mpr c18
      have c18b1 : (a0_6 != 0) = false := bne_eq_false_iff_eq.mpr c18
      clear c18
      (first | rw [c18b0] | (simp only [i64_w, i32_w]; rw [c18b0]) | skip)
      by_cases c19 : (l0_7.length : Int) = 0
      ·rw [if_pos c19] at H
       have c19b0 : ((l0_7.length : Int) == 0) = true := beq_iff_eq.mpr c19
       have c19b1 : ((l0_7.length : Int) != 0) = false := bne_eq_false_iff_eq.mpr c19
       clear c19
       have H' := Aside0.mk H
       clear H
       have hnb20 := NB210_206.out
       have hnc20 := NB206_210.out
       have hcz21_0 : w15.cell? ⟨gb210, 0, none⟩ = some (.int .i64 0) := (blk_cell BK210.out 0).trans rfl
       have hcz21_1 : w15.cell? ⟨gb210, 1, none⟩ = some (.slice none 0 0) := (blk_cell BK210.out 1).trans rfl
       have hcz21_2 : w15.cell? ⟨gb210, 2, none⟩ = some (.slice none 0 0) := (blk_cell BK210.out 2).trans rfl
       have hfz21_0 := blk_frozen BK210.out 0
       have hfz21_1 := blk_frozen BK210.out 1
       have hfz21_2 := blk_frozen BK210.out 2
       go_wp2
       go_meet
       case rel => exact ⟨_, (((l0_8.length : Int) == 0)), (by first | rfl | (simp; done) | (simp [*]; done)), H', ⟨by have := HJ1.out; first | omega | exact Nat.le_refl _⟩, ⟨by (with_reducible repeat (first | refine blk_drewN ?_ _ | refine blk_drew ?_ | refine blk_alloc ?_ _)); refine blk_far ?_ NB206_210.out _; (with_reducible repeat (first | refine blk_drewN ?_ _ | refine blk_drew ?_ | refine blk_alloc ?_ _)); refine blk_far ?_ NB206_210.out _; (with_reducible repeat (first | refine blk_drewN ?_ _ | refine blk_drew ?_ | refine blk_alloc ?_ _)); refine blk_far ?_ NB206_210.out _; (with_reducible repeat (first | refine blk_drewN ?_ _ | refine blk_drew ?_ | refine blk_alloc ?_ _)); exact BK206.out⟩, ⟨by (with_reducible repeat (first | refine blk_drewN ?_ _ | refine blk_drew ?_ | refine blk_alloc ?_ _)); refine blk_put (cs := #[.int .i64 a0_6, .slice A0_7 l0_7.length c0_7, .slice none 0 0]) ?_ 2 _ rfl; (with_reducible repeat (first | refine blk_drewN ?_ _ | refine blk_drew ?_ | refine blk_alloc ?_ _)); refine blk_put (cs := #[.int .i64 a0_6, .slice none 0 0, .slice none 0 0]) ?_ 1 _ rfl; (with_reducible repeat (first | refine blk_drewN ?_ _ | refine blk_drew ?_ | refine blk_alloc ?_ _)); refine blk_put (cs := #[.int .i64 0, .slice none 0 0, .slice none 0 0]) ?_ 0 _ rfl; (with_reducible repeat (first | refine blk_drewN ?_ _ | refine blk_drew ?_ | refine blk_alloc ?_ _)); exact BK210.out⟩, ⟨by repeat (first | (with_reducible first | exact HB.out | apply below_alloc | apply pw_below_drewN | apply below_drew1 | refine below_set ?_ GE206.out | refine below_set ?_ GE210.out) | exact HB.out)⟩⟩
      ·rw [if_neg c19] at H
       have c19b0 : ((l0_7.length : Int) == 0) = false := beq_eq_false_iff_ne.mpr c19
       have c19b1 : ((l0_7.length : Int) != 0) = true := bne_iff_ne.mpr c19
       have c19b2 : ¬ (l0_7 = []) := fun h_ => c19 (by rw [h_]; rfl)
       have H' := Aside0.mk H
       clear H
       have hnb22 := NB210_206.out
       have hnc22 := NB206_210.out
       have hcz23_0 : w15.cell? ⟨gb210, 0, none⟩ = some (.int .i64 0) := (blk_cell BK210.out 0).trans rfl
       have hcz23_1 : w15.cell? ⟨gb210, 1, none⟩ = some (.slice none 0 0) := (blk_cell BK210.out 1).trans rfl
       have hcz23_2 : w15.cell? ⟨gb210, 2, none⟩ = some (.slice none 0 0) := (blk_cell BK210.out 2).trans rfl
       have hfz23_0 := blk_frozen BK210.out 0
       have hfz23_1 := blk_frozen BK210.out 1
       have hfz23_2 := blk_frozen BK210.out 2
       go_wp2
       go_meet
       case rel => exact ⟨_, (false), (by first | rfl | (simp; done) | (simp [*]; done)), H', ⟨by have := HJ1.out; first | omega | exact Nat.le_refl _⟩, ⟨by (with_reducible repeat (first | refine blk_drewN ?_ _ | refine blk_drew ?_ | refine blk_alloc ?_ _)); refine blk_far ?_ NB206_210.out _; (with_reducible repeat (first | refine blk_drewN ?_ _ | refine blk_drew ?_ | refine blk_alloc ?_ _)); refine blk_far ?_ NB206_210.out _; (with_reducible repeat (first | refine blk_drewN ?_ _ | refine blk_drew ?_ | refine blk_alloc ?_ _)); refine blk_far ?_ NB206_210.out _; (with_reducible repeat (first | refine blk_drewN ?_ _ | refine blk_drew ?_ | refine blk_alloc ?_ _)); exact BK206.out⟩, ⟨by (with_reducible repeat (first | refine blk_drewN ?_ _ | refine blk_drew ?_ | refine blk_alloc ?_ _)); refine blk_put (cs := #[.int .i64 a0_6, .slice A0_7 l0_7.length c0_7, .slice none 0 0]) ?_ 2 _ rfl; (with_reducible repeat (first | refine blk_drewN ?_ _ | refine blk_drew ?_ | refine blk_alloc ?_ _)); refine blk_put (cs := #[.int .i64 a0_6, .slice none 0 0, .slice none 0 0]) ?_ 1 _ rfl; (with_reducible repeat (first | refine blk_drewN ?_ _ | refine blk_drew ?_ | refine blk_alloc ?_ _)); refine blk_put (cs := #[.int .i64 0, .slice none 0 0, .slice none 0 0]) ?_ 0 _ rfl; (with_reducible repeat (first | refine blk_drewN ?_ _ | refine blk_drew ?_ | refine blk_alloc ?_ _)); exact BK210.out⟩, ⟨by repeat (first | (with_reducible first | exact HB.out | apply below_alloc | apply pw_below_drewN | apply below_drew1 | refine below_set ?_ GE206.out | refine below_set ?_ GE210.out) | exact HB.out)⟩⟩
     ·rw [if_neg c18] at H
      have c18b0 : (a0_6 == 0) = false := beq_eq_false_iff_ne.mpr c18
      have c18b1 : (a0_6 != 0) = true := bne_iff_ne.mpr c18
      (first | rw [c18b0] | (simp only [i64_w, i32_w]; rw [c18b0]) | skip)
      have H' := Aside0.mk H
      clear H
      have hnb24 := NB210_206.out
      have hnc24 := NB206_210.out
      have hcz25_0 : w15.cell? ⟨gb210, 0, none⟩ = some (.int .i64 0) := (blk_cell BK210.out 0).trans rfl
      have hcz25_1 : w15.cell? ⟨gb210, 1, none⟩ = some (.slice none 0 0) := (blk_cell BK210.out 1).trans rfl
      have hcz25_2 : w15.cell? ⟨gb210, 2, none⟩ = some (.slice none 0 0) := (blk_cell BK210.out 2).trans rfl
      have hfz25_0 := blk_frozen BK210.out 0
      have hfz25_1 := blk_frozen BK210.out 1
      have hfz25_2 := blk_frozen BK210.out 2
      go_wp2
      go_meet
      case rel => exact ⟨_, (false), (by first | rfl | (simp; done) | (simp [*]; done)), H', ⟨by have := HJ1.out; first | omega | exact Nat.le_refl _⟩, ⟨by (with_reducible repeat (first | refine blk_drewN ?_ _ | refine blk_drew ?_ | refine blk_alloc ?_ _)); refine blk_far ?_ NB206_210.out _; (with_reducible repeat (first | refine blk_drewN ?_ _ | refine blk_drew ?_ | refine blk_alloc ?_ _)); refine blk_far ?_ NB206_210.out _; (with_reducible repeat (first | refine blk_drewN ?_ _ | refine blk_drew ?_ | refine blk_alloc ?_ _)); refine blk_far ?_ NB206_210.out _; (with_reducible repeat (first | refine blk_drewN ?_ _ | refine blk_drew ?_ | refine blk_alloc ?_ _)); exact BK206.out⟩, ⟨by (with_reducible repeat (first | refine blk_drewN ?_ _ | refine blk_drew ?_ | refine blk_alloc ?_ _)); refine blk_put (cs := #[.int .i64 a0_6, .slice A0_7 l0_7.length c0_7, .slice none 0 0]) ?_ 2 _ rfl; (with_reducible repeat (first | refine blk_drewN ?_ _ | refine blk_drew ?_ | refine blk_alloc ?_ _)); refine blk_put (cs := #[.int .i64 a0_6, .slice none 0 0, .slice none 0 0]) ?_ 1 _ rfl; (with_reducible repeat (first | refine blk_drewN ?_ _ | refine blk_drew ?_ | refine blk_alloc ?_ _)); refine blk_put (cs := #[.int .i64 0, .slice none 0 0, .slice none 0 0]) ?_ 0 _ rfl; (with_reducible repeat (first | refine blk_drewN ?_ _ | refine blk_drew ?_ | refine blk_alloc ?_ _)); exact BK210.out⟩, ⟨by repeat (first | (with_reducible first | exact HB.out | apply below_alloc | apply pw_below_drewN | apply below_drew1 | refine below_set ?_ GE206.out | refine below_set ?_ GE210.out) | exact HB.out)⟩⟩
    case rest =>
     clear HC13
     try clear c1
     try clear c2
     try clear p2
     try clear c5
     try clear c7
     try clear c8
     try clear c12
     try clear c16
     try clear c18
     try clear c18b0
     try clear c18b1
     try clear c19
     try clear c19b0
     try clear c19b1
     try clear c19b2
     try clear c20
     try clear c22
     try clear c24
     try clear hcz11_0
     try clear hcz11_1
     try clear hcz11_10
     try clear hcz11_2
     try clear hcz11_3
     try clear hcz11_4
     try clear hcz11_5
     try clear hcz11_6
     try clear hcz11_7
     try clear hcz11_8
     try clear hcz11_9
     try clear hcz14_0
     try clear hcz14_1
     try clear hcz14_10
     try clear hcz14_2
     try clear hcz14_3
     try clear hcz14_4
     try clear hcz14_5
     try clear hcz14_6
     try clear hcz14_7
     try clear hcz14_8
     try clear hcz14_9
     try clear hcz17_0
     try clear hcz17_1
     try clear hcz17_2
     try clear hcz21_0
     try clear hcz21_1
     try clear hcz21_2
     try clear hcz23_0
     try clear hcz23_1
     try clear hcz23_2
     try clear hcz25_0
     try clear hcz25_1
     try clear hcz25_2
     try clear hcz6_0
     try clear hcz6_1
     try clear hcz6_10
     try clear hcz6_2
     try clear hcz6_3
     try clear hcz6_4
     try clear hcz6_5
     try clear hcz6_6
     try clear hcz6_7
     try clear hcz6_8
     try clear hcz6_9
     try clear hcz9_0
     try clear hcz9_1
     try clear hcz9_10
     try clear hcz9_2
     try clear hcz9_3
     try clear hcz9_4
     try clear hcz9_5
     try clear hcz9_6
     try clear hcz9_7
     try clear hcz9_8
     try clear hcz9_9
     try clear hfz11_0
     try clear hfz11_1
     try clear hfz11_10
     try clear hfz11_2
     try clear hfz11_3
     try clear hfz11_4
     try clear hfz11_5
     try clear hfz11_6
     try clear hfz11_7
     try clear hfz11_8
     try clear hfz11_9
     try clear hfz14_0
     try clear hfz14_1
     try clear hfz14_10
     try clear hfz14_2
     try clear hfz14_3
     try clear hfz14_4
     try clear hfz14_5
     try clear hfz14_6
     try clear hfz14_7
     try clear hfz14_8
     try clear hfz14_9
     try clear hfz17_0
     try clear hfz17_1
     try clear hfz17_2
     try clear hfz21_0
     try clear hfz21_1
     try clear hfz21_2
     try clear hfz23_0
     try clear hfz23_1
     try clear hfz23_2
     try clear hfz25_0
     try clear hfz25_1
     try clear hfz25_2
     try clear hfz6_0
     try clear hfz6_1
     try clear hfz6_10
     try clear hfz6_2
     try clear hfz6_3
     try clear hfz6_4
     try clear hfz6_5
     try clear hfz6_6
     try clear hfz6_7
     try clear hfz6_8
     try clear hfz6_9
     try clear hfz9_0
     try clear hfz9_1
     try clear hfz9_10
     try clear hfz9_2
     try clear hfz9_3
     try clear hfz9_4
     try clear hfz9_5
     try clear hfz9_6
     try clear hfz9_7
     try clear hfz9_8
     try clear hfz9_9
     try clear p2
     obtain ⟨kq, x4_12, rfl, HA, HJ12, BK206, BK210, HB⟩ := hcut
     cases kq with
     | zero => exact absurd HA.out (by simp [eddyref4_fitSegment.j1])
     | succ kj12 =>
      have H := HA.out
      clear HA
      simp only [eddyref4_fitSegment.j1] at H
      have HC26 := Aside0.mk H
      clear H
      go_upto_region 5 with (fail)
      go_cut [5] (fun v5 wc => ∃ (kq : Nat) (x5_25 : Bool), v5 = .bool x5_25 ∧ Aside0 (eddyref4_fitSegment.j2 kq x4_12 x5_25 a0_0 a0_1 a0_2 a0_3 a0_4 l0_5 a0_6 l0_7 l0_8 l0_9 l0_10 a0_6 l0_7 l0_8 = some r) ∧ Aside0 (kq ≤ kj12) ∧ Aside0 (wc.heap[gb206]? = some (.cells #[.int .i64 a0_0, .int .i64 a0_1, .int .i64 a0_2, .int .u32 a0_3, .int .i64 a0_4, (.slice A0_5 l0_5.length c0_5), .int .i64 a0_6, (.slice A0_7 l0_7.length c0_7), (.slice A0_8 l0_8.length c0_8), (.slice A0_9 l0_9.length c0_9), (.slice A0_10 l0_10.length c0_10)] 39 (0, 0))) ∧ Aside0 (wc.heap[gb210]? = some (.cells #[.int .i64 a0_6, (.slice A0_7 l0_7.length c0_7), (.slice A0_8 l0_8.length c0_8)] 35 (0, 0))) ∧ Aside0 (Below w.heap.size w wc))
      case first =>
       have H := HC26.out
       clear HC26
       by_cases c27 : a0_4 = 0
       ·rw [if_pos c27] at H
        have c27b0 : (a0_4 == 0) = true := beq_iff_eq.mpr c27
        have c27b1 : (a0_4 != 0) = false := bne_eq_false_iff_eq.mpr c27
        clear c27
        (first | rw [c27b0] | (simp only [i64_w, i32_w]; rw [c27b0]) | skip)
        have H' := Aside0.mk H
        clear H
        have hnb28 := NB206_210.out
        have hnc28 := NB210_206.out
        have hcz29_0 : wc.cell? ⟨gb206, 0, none⟩ = some (.int .i64 a0_0) := (blk_cell BK206.out 0).trans rfl
        have hcz29_1 : wc.cell? ⟨gb206, 1, none⟩ = some (.int .i64 a0_1) := (blk_cell BK206.out 1).trans rfl
        have hcz29_2 : wc.cell? ⟨gb206, 2, none⟩ = some (.int .i64 a0_2) := (blk_cell BK206.out 2).trans rfl
        have hcz29_3 : wc.cell? ⟨gb206, 3, none⟩ = some (.int .u32 a0_3) := (blk_cell BK206.out 3).trans rfl
        have hcz29_4 : wc.cell? ⟨gb206, 4, none⟩ = some (.int .i64 a0_4) := (blk_cell BK206.out 4).trans rfl
        have hcz29_5 : wc.cell? ⟨gb206, 5, none⟩ = some (.slice A0_5 l0_5.length c0_5) := (blk_cell BK206.out 5).trans rfl
        have hcz29_6 : wc.cell? ⟨gb206, 6, none⟩ = some (.int .i64 a0_6) := (blk_cell BK206.out 6).trans rfl
        have hcz29_7 : wc.cell? ⟨gb206, 7, none⟩ = some (.slice A0_7 l0_7.length c0_7) := (blk_cell BK206.out 7).trans rfl
        have hcz29_8 : wc.cell? ⟨gb206, 8, none⟩ = some (.slice A0_8 l0_8.length c0_8) := (blk_cell BK206.out 8).trans rfl
        have hcz29_9 : wc.cell? ⟨gb206, 9, none⟩ = some (.slice A0_9 l0_9.length c0_9) := (blk_cell BK206.out 9).trans rfl
        have hcz29_10 : wc.cell? ⟨gb206, 10, none⟩ = some (.slice A0_10 l0_10.length c0_10) := (blk_cell BK206.out 10).trans rfl
        have hfz29_0 := blk_frozen BK206.out 0
        have hfz29_1 := blk_frozen BK206.out 1
        have hfz29_2 := blk_frozen BK206.out 2
        have hfz29_3 := blk_frozen BK206.out 3
        have hfz29_4 := blk_frozen BK206.out 4
        have hfz29_5 := blk_frozen BK206.out 5
        have hfz29_6 := blk_frozen BK206.out 6
        have hfz29_7 := blk_frozen BK206.out 7
        have hfz29_8 := blk_frozen BK206.out 8
        have hfz29_9 := blk_frozen BK206.out 9
        have hfz29_10 := blk_frozen BK206.out 10
        go_wp2
        go_meet
        case rel => exact ⟨_, (((l0_5.length : Int) == 0)), (by first | rfl | (simp; done) | (simp [*]; done)), H', ⟨by have := HJ1.out; have := HJ12.out; first | omega | exact Nat.le_refl _⟩, ⟨by (with_reducible repeat (first | refine blk_drewN ?_ _ | refine blk_drew ?_ | refine blk_alloc ?_ _)); exact BK206.out⟩, ⟨by (with_reducible repeat (first | refine blk_drewN ?_ _ | refine blk_drew ?_ | refine blk_alloc ?_ _)); exact BK210.out⟩, ⟨by repeat (first | (with_reducible first | exact HB.out | apply below_alloc | apply pw_below_drewN | apply below_drew1 | refine below_set ?_ GE206.out | refine below_set ?_ GE210.out) | exact HB.out)⟩⟩
       ·rw [if_neg c27] at H
        have c27b0 : (a0_4 == 0) = false := beq_eq_false_iff_ne.mpr c27
        have c27b1 : (a0_4 != 0) = true := bne_iff_ne.mpr c27
        (first | rw [c27b0] | (simp only [i64_w, i32_w]; rw [c27b0]) | skip)
        have H' := Aside0.mk H
        clear H
        have hnb30 := NB206_210.out
        have hnc30 := NB210_206.out
        have hcz31_0 : wc.cell? ⟨gb206, 0, none⟩ = some (.int .i64 a0_0) := (blk_cell BK206.out 0).trans rfl
        have hcz31_1 : wc.cell? ⟨gb206, 1, none⟩ = some (.int .i64 a0_1) := (blk_cell BK206.out 1).trans rfl
        have hcz31_2 : wc.cell? ⟨gb206, 2, none⟩ = some (.int .i64 a0_2) := (blk_cell BK206.out 2).trans rfl
        have hcz31_3 : wc.cell? ⟨gb206, 3, none⟩ = some (.int .u32 a0_3) := (blk_cell BK206.out 3).trans rfl
        have hcz31_4 : wc.cell? ⟨gb206, 4, none⟩ = some (.int .i64 a0_4) := (blk_cell BK206.out 4).trans rfl
        have hcz31_5 : wc.cell? ⟨gb206, 5, none⟩ = some (.slice A0_5 l0_5.length c0_5) := (blk_cell BK206.out 5).trans rfl
        have hcz31_6 : wc.cell? ⟨gb206, 6, none⟩ = some (.int .i64 a0_6) := (blk_cell BK206.out 6).trans rfl
        have hcz31_7 : wc.cell? ⟨gb206, 7, none⟩ = some (.slice A0_7 l0_7.length c0_7) := (blk_cell BK206.out 7).trans rfl
        have hcz31_8 : wc.cell? ⟨gb206, 8, none⟩ = some (.slice A0_8 l0_8.length c0_8) := (blk_cell BK206.out 8).trans rfl
        have hcz31_9 : wc.cell? ⟨gb206, 9, none⟩ = some (.slice A0_9 l0_9.length c0_9) := (blk_cell BK206.out 9).trans rfl
        have hcz31_10 : wc.cell? ⟨gb206, 10, none⟩ = some (.slice A0_10 l0_10.length c0_10) := (blk_cell BK206.out 10).trans rfl
        have hfz31_0 := blk_frozen BK206.out 0
        have hfz31_1 := blk_frozen BK206.out 1
        have hfz31_2 := blk_frozen BK206.out 2
        have hfz31_3 := blk_frozen BK206.out 3
        have hfz31_4 := blk_frozen BK206.out 4
        have hfz31_5 := blk_frozen BK206.out 5
        have hfz31_6 := blk_frozen BK206.out 6
        have hfz31_7 := blk_frozen BK206.out 7
        have hfz31_8 := blk_frozen BK206.out 8
        have hfz31_9 := blk_frozen BK206.out 9
        have hfz31_10 := blk_frozen BK206.out 10
        go_wp2
        go_meet
        case rel => exact ⟨_, (false), (by first | rfl | (simp; done) | (simp [*]; done)), H', ⟨by have := HJ1.out; have := HJ12.out; first | omega | exact Nat.le_refl _⟩, ⟨by (with_reducible repeat (first | refine blk_drewN ?_ _ | refine blk_drew ?_ | refine blk_alloc ?_ _)); exact BK206.out⟩, ⟨by (with_reducible repeat (first | refine blk_drewN ?_ _ | refine blk_drew ?_ | refine blk_alloc ?_ _)); exact BK210.out⟩, ⟨by repeat (first | (with_reducible first | exact HB.out | apply below_alloc | apply pw_below_drewN | apply below_drew1 | refine below_set ?_ GE206.out | refine below_set ?_ GE210.out) | exact HB.out)⟩⟩
      case rest =>
       clear HC26
       try clear c1
       try clear c2
       try clear p2
       try clear c3
       try clear c5
       try clear c7
       try clear c8
       try clear c12
       try clear c16
       try clear c18
       try clear c18b0
       try clear c18b1
       try clear c19
       try clear c19b0
       try clear c19b1
       try clear c19b2
       try clear c20
       try clear c22
       try clear c24
       try clear c27
       try clear c27b0
       try clear c27b1
       try clear c28
       try clear c30
       try clear hcz11_0
       try clear hcz11_1
       try clear hcz11_10
       try clear hcz11_2
       try clear hcz11_3
       try clear hcz11_4
       try clear hcz11_5
       try clear hcz11_6
       try clear hcz11_7
       try clear hcz11_8
       try clear hcz11_9
       try clear hcz14_0
       try clear hcz14_1
       try clear hcz14_10
       try clear hcz14_2
       try clear hcz14_3
       try clear hcz14_4
       try clear hcz14_5
       try clear hcz14_6
       try clear hcz14_7
       try clear hcz14_8
       try clear hcz14_9
       try clear hcz17_0
       try clear hcz17_1
       try clear hcz17_2
       try clear hcz21_0
       try clear hcz21_1
       try clear hcz21_2
       try clear hcz23_0
       try clear hcz23_1
       try clear hcz23_2
       try clear hcz25_0
       try clear hcz25_1
       try clear hcz25_2
       try clear hcz29_0
       try clear hcz29_1
       try clear hcz29_10
       try clear hcz29_2
       try clear hcz29_3
       try clear hcz29_4
       try clear hcz29_5
       try clear hcz29_6
       try clear hcz29_7
       try clear hcz29_8
       try clear hcz29_9
       try clear hcz31_0
       try clear hcz31_1
       try clear hcz31_10
       try clear hcz31_2
       try clear hcz31_3
       try clear hcz31_4
       try clear hcz31_5
       try clear hcz31_6
       try clear hcz31_7
       try clear hcz31_8
       try clear hcz31_9
       try clear hcz6_0
       try clear hcz6_1
       try clear hcz6_10
       try clear hcz6_2
       try clear hcz6_3
       try clear hcz6_4
       try clear hcz6_5
       try clear hcz6_6
       try clear hcz6_7
       try clear hcz6_8
       try clear hcz6_9
       try clear hcz9_0
       try clear hcz9_1
       try clear hcz9_10
       try clear hcz9_2
       try clear hcz9_3
       try clear hcz9_4
       try clear hcz9_5
       try clear hcz9_6
       try clear hcz9_7
       try clear hcz9_8
       try clear hcz9_9
       try clear hfz11_0
       try clear hfz11_1
       try clear hfz11_10
       try clear hfz11_2
       try clear hfz11_3
       try clear hfz11_4
       try clear hfz11_5
       try clear hfz11_6
       try clear hfz11_7
       try clear hfz11_8
       try clear hfz11_9
       try clear hfz14_0
       try clear hfz14_1
       try clear hfz14_10
       try clear hfz14_2
       try clear hfz14_3
       try clear hfz14_4
       try clear hfz14_5
       try clear hfz14_6
       try clear hfz14_7
       try clear hfz14_8
       try clear hfz14_9
       try clear hfz17_0
       try clear hfz17_1
       try clear hfz17_2
       try clear hfz21_0
       try clear hfz21_1
       try clear hfz21_2
       try clear hfz23_0
       try clear hfz23_1
       try clear hfz23_2
       try clear hfz25_0
       try clear hfz25_1
       try clear hfz25_2
       try clear hfz29_0
       try clear hfz29_1
       try clear hfz29_10
       try clear hfz29_2
       try clear hfz29_3
       try clear hfz29_4
       try clear hfz29_5
       try clear hfz29_6
       try clear hfz29_7
       try clear hfz29_8
       try clear hfz29_9
       try clear hfz31_0
       try clear hfz31_1
       try clear hfz31_10
       try clear hfz31_2
       try clear hfz31_3
       try clear hfz31_4
       try clear hfz31_5
       try clear hfz31_6
       try clear hfz31_7
       try clear hfz31_8
       try clear hfz31_9
       try clear hfz6_0
       try clear hfz6_1
       try clear hfz6_10
       try clear hfz6_2
       try clear hfz6_3
       try clear hfz6_4
       try clear hfz6_5
       try clear hfz6_6
       try clear hfz6_7
       try clear hfz6_8
       try clear hfz6_9
       try clear hfz9_0
       try clear hfz9_1
       try clear hfz9_10
       try clear hfz9_2
       try clear hfz9_3
       try clear hfz9_4
       try clear hfz9_5
       try clear hfz9_6
       try clear hfz9_7
       try clear hfz9_8
       try clear hfz9_9
       try clear p2
       obtain ⟨kq, x5_25, rfl, HA, HJ25, BK206, BK210, HB⟩ := hcut
       cases kq with
       | zero => exact absurd HA.out (by simp [eddyref4_fitSegment.j2])
       | succ kj25 =>
        have H := HA.out
        clear HA
        simp only [eddyref4_fitSegment.j2] at H
        have HC32 := Aside0.mk H
        clear H
        go_upto_region 6 with (fail)
        go_cut [69] (fun v69 wc => ∃ (kq : Nat) (x69_31 : Bool), v69 = .bool x69_31 ∧ Aside0 (eddyref4_fitSegment.j3 kq x69_31 a0_0 a0_1 a0_2 a0_3 a0_4 l0_5 a0_6 l0_7 l0_8 l0_9 l0_10 a0_6 l0_7 l0_8 = some r) ∧ Aside0 (kq ≤ kj25) ∧ Aside0 (wc.heap[gb206]? = some (.cells #[.int .i64 a0_0, .int .i64 a0_1, .int .i64 a0_2, .int .u32 a0_3, .int .i64 a0_4, (.slice A0_5 l0_5.length c0_5), .int .i64 a0_6, (.slice A0_7 l0_7.length c0_7), (.slice A0_8 l0_8.length c0_8), (.slice A0_9 l0_9.length c0_9), (.slice A0_10 l0_10.length c0_10)] 39 (0, 0))) ∧ Aside0 (wc.heap[gb210]? = some (.cells #[.int .i64 a0_6, (.slice A0_7 l0_7.length c0_7), (.slice A0_8 l0_8.length c0_8)] 35 (0, 0))) ∧ Aside0 (Below w.heap.size w wc))
        case first =>
         have H := HC32.out
         clear HC32
         by_cases c33 : a0_2 = 0
         ·rw [if_pos c33] at H
          have c33b0 : (a0_2 == 0) = true := beq_iff_eq.mpr c33
          have c33b1 : (a0_2 != 0) = false := bne_eq_false_iff_eq.mpr c33
          clear c33
          (first | rw [c33b0] | (simp only [i64_w, i32_w]; rw [c33b0]) | skip)
          by_cases c34 : x4_12 = true
          ·subst c34
           have H1 : (if a0_3 = 0 then (if a0_2 > 0 then (eddyref4_fitSegment.j3 kj25 (!x5_25) a0_0 a0_1 a0_2 a0_3 a0_4 l0_5 a0_6 l0_7 l0_8 l0_9 l0_10 a0_6 l0_7 l0_8) else (eddyref4_fitSegment.j3 kj25 false a0_0 a0_1 a0_2 a0_3 a0_4 l0_5 a0_6 l0_7 l0_8 l0_9 l0_10 a0_6 l0_7 l0_8)) else (eddyref4_fitSegment.j3 kj25 true a0_0 a0_1 a0_2 a0_3 a0_4 l0_5 a0_6 l0_7 l0_8 l0_9 l0_10 a0_6 l0_7 l0_8)) = some r := by rw [if_pos rfl] at H; exact H
           clear H
           have H := H1
           clear H1
           by_cases c35 : a0_3 = 0
           ·rw [if_pos c35] at H
            have c35b0 : (a0_3 == 0) = true := beq_iff_eq.mpr c35
            have c35b1 : (a0_3 != 0) = false := bne_eq_false_iff_eq.mpr c35
            clear c35
            by_cases c36 : a0_2 > 0
            ·rw [if_pos c36] at H
             have c36b0 : decide (0 < a0_2) = true := decide_eq_true c36
             clear c36
             have H' := Aside0.mk H
             clear H
             have hnb37 := NB206_210.out
             have hnc37 := NB210_206.out
             have hcz38_0 : wc.cell? ⟨gb206, 0, none⟩ = some (.int .i64 a0_0) := (blk_cell BK206.out 0).trans rfl
             have hcz38_1 : wc.cell? ⟨gb206, 1, none⟩ = some (.int .i64 a0_1) := (blk_cell BK206.out 1).trans rfl
             have hcz38_2 : wc.cell? ⟨gb206, 2, none⟩ = some (.int .i64 a0_2) := (blk_cell BK206.out 2).trans rfl
             have hcz38_3 : wc.cell? ⟨gb206, 3, none⟩ = some (.int .u32 a0_3) := (blk_cell BK206.out 3).trans rfl
             have hcz38_4 : wc.cell? ⟨gb206, 4, none⟩ = some (.int .i64 a0_4) := (blk_cell BK206.out 4).trans rfl
             have hcz38_5 : wc.cell? ⟨gb206, 5, none⟩ = some (.slice A0_5 l0_5.length c0_5) := (blk_cell BK206.out 5).trans rfl
             have hcz38_6 : wc.cell? ⟨gb206, 6, none⟩ = some (.int .i64 a0_6) := (blk_cell BK206.out 6).trans rfl
             have hcz38_7 : wc.cell? ⟨gb206, 7, none⟩ = some (.slice A0_7 l0_7.length c0_7) := (blk_cell BK206.out 7).trans rfl
             have hcz38_8 : wc.cell? ⟨gb206, 8, none⟩ = some (.slice A0_8 l0_8.length c0_8) := (blk_cell BK206.out 8).trans rfl
             have hcz38_9 : wc.cell? ⟨gb206, 9, none⟩ = some (.slice A0_9 l0_9.length c0_9) := (blk_cell BK206.out 9).trans rfl
             have hcz38_10 : wc.cell? ⟨gb206, 10, none⟩ = some (.slice A0_10 l0_10.length c0_10) := (blk_cell BK206.out 10).trans rfl
             have hfz38_0 := blk_frozen BK206.out 0
             have hfz38_1 := blk_frozen BK206.out 1
             have hfz38_2 := blk_frozen BK206.out 2
             have hfz38_3 := blk_frozen BK206.out 3
             have hfz38_4 := blk_frozen BK206.out 4
             have hfz38_5 := blk_frozen BK206.out 5
             have hfz38_6 := blk_frozen BK206.out 6
             have hfz38_7 := blk_frozen BK206.out 7
             have hfz38_8 := blk_frozen BK206.out 8
             have hfz38_9 := blk_frozen BK206.out 9
             have hfz38_10 := blk_frozen BK206.out 10
             go_wp2
             go_meet
             case rel => exact ⟨_, (!x5_25), (by first | rfl | (simp; done) | (simp [*]; done)), H', ⟨by have := HJ1.out; have := HJ12.out; have := HJ25.out; first | omega | exact Nat.le_refl _⟩, ⟨by (with_reducible repeat (first | refine blk_drewN ?_ _ | refine blk_drew ?_ | refine blk_alloc ?_ _)); exact BK206.out⟩, ⟨by (with_reducible repeat (first | refine blk_drewN ?_ _ | refine blk_drew ?_ | refine blk_alloc ?_ _)); exact BK210.out⟩, ⟨by repeat (first | (with_reducible first | exact HB.out | apply below_alloc | apply pw_below_drewN | apply below_drew1 | refine below_set ?_ GE206.out | refine below_set ?_ GE210.out) | exact HB.out)⟩⟩
            ·rw [if_neg c36] at H
             have c36b0 : decide (0 < a0_2) = false := decide_eq_false c36
             clear c36
             have H' := Aside0.mk H
             clear H
             have hnb39 := NB206_210.out
             have hnc39 := NB210_206.out
             have hcz40_0 : wc.cell? ⟨gb206, 0, none⟩ = some (.int .i64 a0_0) := (blk_cell BK206.out 0).trans rfl
             have hcz40_1 : wc.cell? ⟨gb206, 1, none⟩ = some (.int .i64 a0_1) := (blk_cell BK206.out 1).trans rfl
             have hcz40_2 : wc.cell? ⟨gb206, 2, none⟩ = some (.int .i64 a0_2) := (blk_cell BK206.out 2).trans rfl
             have hcz40_3 : wc.cell? ⟨gb206, 3, none⟩ = some (.int .u32 a0_3) := (blk_cell BK206.out 3).trans rfl
             have hcz40_4 : wc.cell? ⟨gb206, 4, none⟩ = some (.int .i64 a0_4) := (blk_cell BK206.out 4).trans rfl
             have hcz40_5 : wc.cell? ⟨gb206, 5, none⟩ = some (.slice A0_5 l0_5.length c0_5) := (blk_cell BK206.out 5).trans rfl
             have hcz40_6 : wc.cell? ⟨gb206, 6, none⟩ = some (.int .i64 a0_6) := (blk_cell BK206.out 6).trans rfl
             have hcz40_7 : wc.cell? ⟨gb206, 7, none⟩ = some (.slice A0_7 l0_7.length c0_7) := (blk_cell BK206.out 7).trans rfl
             have hcz40_8 : wc.cell? ⟨gb206, 8, none⟩ = some (.slice A0_8 l0_8.length c0_8) := (blk_cell BK206.out 8).trans rfl
             have hcz40_9 : wc.cell? ⟨gb206, 9, none⟩ = some (.slice A0_9 l0_9.length c0_9) := (blk_cell BK206.out 9).trans rfl
             have hcz40_10 : wc.cell? ⟨gb206, 10, none⟩ = some (.slice A0_10 l0_10.length c0_10) := (blk_cell BK206.out 10).trans rfl
             have hfz40_0 := blk_frozen BK206.out 0
             have hfz40_1 := blk_frozen BK206.out 1
             have hfz40_2 := blk_frozen BK206.out 2
             have hfz40_3 := blk_frozen BK206.out 3
             have hfz40_4 := blk_frozen BK206.out 4
             have hfz40_5 := blk_frozen BK206.out 5
             have hfz40_6 := blk_frozen BK206.out 6
             have hfz40_7 := blk_frozen BK206.out 7
             have hfz40_8 := blk_frozen BK206.out 8
             have hfz40_9 := blk_frozen BK206.out 9
             have hfz40_10 := blk_frozen BK206.out 10
             go_wp2
             go_meet
             case rel => exact ⟨_, (false), (by first | rfl | (simp; done) | (simp [*]; done)), H', ⟨by have := HJ1.out; have := HJ12.out; have := HJ25.out; first | omega | exact Nat.le_refl _⟩, ⟨by (with_reducible repeat (first | refine blk_drewN ?_ _ | refine blk_drew ?_ | refine blk_alloc ?_ _)); exact BK206.out⟩, ⟨by (with_reducible repeat (first | refine blk_drewN ?_ _ | refine blk_drew ?_ | refine blk_alloc ?_ _)); exact BK210.out⟩, ⟨by repeat (first | (with_reducible first | exact HB.out | apply below_alloc | apply pw_below_drewN | apply below_drew1 | refine below_set ?_ GE206.out | refine below_set ?_ GE210.out) | exact HB.out)⟩⟩
           ·rw [if_neg c35] at H
            have c35b0 : (a0_3 == 0) = false := beq_eq_false_iff_ne.mpr c35
            have c35b1 : (a0_3 != 0) = true := bne_iff_ne.mpr c35
            have H' := Aside0.mk H
            clear H
            have hnb41 := NB206_210.out
            have hnc41 := NB210_206.out
            have hcz42_0 : wc.cell? ⟨gb206, 0, none⟩ = some (.int .i64 a0_0) := (blk_cell BK206.out 0).trans rfl
            have hcz42_1 : wc.cell? ⟨gb206, 1, none⟩ = some (.int .i64 a0_1) := (blk_cell BK206.out 1).trans rfl
            have hcz42_2 : wc.cell? ⟨gb206, 2, none⟩ = some (.int .i64 a0_2) := (blk_cell BK206.out 2).trans rfl
            have hcz42_3 : wc.cell? ⟨gb206, 3, none⟩ = some (.int .u32 a0_3) := (blk_cell BK206.out 3).trans rfl
            have hcz42_4 : wc.cell? ⟨gb206, 4, none⟩ = some (.int .i64 a0_4) := (blk_cell BK206.out 4).trans rfl
            have hcz42_5 : wc.cell? ⟨gb206, 5, none⟩ = some (.slice A0_5 l0_5.length c0_5) := (blk_cell BK206.out 5).trans rfl
            have hcz42_6 : wc.cell? ⟨gb206, 6, none⟩ = some (.int .i64 a0_6) := (blk_cell BK206.out 6).trans rfl
            have hcz42_7 : wc.cell? ⟨gb206, 7, none⟩ = some (.slice A0_7 l0_7.length c0_7) := (blk_cell BK206.out 7).trans rfl
            have hcz42_8 : wc.cell? ⟨gb206, 8, none⟩ = some (.slice A0_8 l0_8.length c0_8) := (blk_cell BK206.out 8).trans rfl
            have hcz42_9 : wc.cell? ⟨gb206, 9, none⟩ = some (.slice A0_9 l0_9.length c0_9) := (blk_cell BK206.out 9).trans rfl
            have hcz42_10 : wc.cell? ⟨gb206, 10, none⟩ = some (.slice A0_10 l0_10.length c0_10) := (blk_cell BK206.out 10).trans rfl
            have hfz42_0 := blk_frozen BK206.out 0
            have hfz42_1 := blk_frozen BK206.out 1
            have hfz42_2 := blk_frozen BK206.out 2
            have hfz42_3 := blk_frozen BK206.out 3
            have hfz42_4 := blk_frozen BK206.out 4
            have hfz42_5 := blk_frozen BK206.out 5
            have hfz42_6 := blk_frozen BK206.out 6
            have hfz42_7 := blk_frozen BK206.out 7
            have hfz42_8 := blk_frozen BK206.out 8
            have hfz42_9 := blk_frozen BK206.out 9
            have hfz42_10 := blk_frozen BK206.out 10
            go_wp2
            go_meet
            case rel => exact ⟨_, (true), (by first | rfl | (simp; done) | (simp [*]; done)), H', ⟨by have := HJ1.out; have := HJ12.out; have := HJ25.out; first | omega | exact Nat.le_refl _⟩, ⟨by (with_reducible repeat (first | refine blk_drewN ?_ _ | refine blk_drew ?_ | refine blk_alloc ?_ _)); exact BK206.out⟩, ⟨by (with_reducible repeat (first | refine blk_drewN ?_ _ | refine blk_drew ?_ | refine blk_alloc ?_ _)); exact BK210.out⟩, ⟨by repeat (first | (with_reducible first | exact HB.out | apply below_alloc | apply pw_below_drewN | apply below_drew1 | refine below_set ?_ GE206.out | refine below_set ?_ GE210.out) | exact HB.out)⟩⟩
          ·replace c34 := Bool.eq_false_iff.mpr c34
           subst c34
           have H1 : (eddyref4_fitSegment.j3 kj25 true a0_0 a0_1 a0_2 a0_3 a0_4 l0_5 a0_6 l0_7 l0_8 l0_9 l0_10 a0_6 l0_7 l0_8) = some r := by rw [if_neg (show ¬ (false = true) by decide)] at H; exact H
           clear H
           have H := H1
           clear H1
           have H' := Aside0.mk H
           clear H
           have hnb43 := NB206_210.out
           have hnc43 := NB210_206.out
           have hcz44_0 : wc.cell? ⟨gb206, 0, none⟩ = some (.int .i64 a0_0) := (blk_cell BK206.out 0).trans rfl
           have hcz44_1 : wc.cell? ⟨gb206, 1, none⟩ = some (.int .i64 a0_1) := (blk_cell BK206.out 1).trans rfl
           have hcz44_2 : wc.cell? ⟨gb206, 2, none⟩ = some (.int .i64 a0_2) := (blk_cell BK206.out 2).trans rfl
           have hcz44_3 : wc.cell? ⟨gb206, 3, none⟩ = some (.int .u32 a0_3) := (blk_cell BK206.out 3).trans rfl
           have hcz44_4 : wc.cell? ⟨gb206, 4, none⟩ = some (.int .i64 a0_4) := (blk_cell BK206.out 4).trans rfl
           have hcz44_5 : wc.cell? ⟨gb206, 5, none⟩ = some (.slice A0_5 l0_5.length c0_5) := (blk_cell BK206.out 5).trans rfl
           have hcz44_6 : wc.cell? ⟨gb206, 6, none⟩ = some (.int .i64 a0_6) := (blk_cell BK206.out 6).trans rfl
           have hcz44_7 : wc.cell? ⟨gb206, 7, none⟩ = some (.slice A0_7 l0_7.length c0_7) := (blk_cell BK206.out 7).trans rfl
           have hcz44_8 : wc.cell? ⟨gb206, 8, none⟩ = some (.slice A0_8 l0_8.length c0_8) := (blk_cell BK206.out 8).trans rfl
           have hcz44_9 : wc.cell? ⟨gb206, 9, none⟩ = some (.slice A0_9 l0_9.length c0_9) := (blk_cell BK206.out 9).trans rfl
           have hcz44_10 : wc.cell? ⟨gb206, 10, none⟩ = some (.slice A0_10 l0_10.length c0_10) := (blk_cell BK206.out 10).trans rfl
           have hfz44_0 := blk_frozen BK206.out 0
           have hfz44_1 := blk_frozen BK206.out 1
           have hfz44_2 := blk_frozen BK206.out 2
           have hfz44_3 := blk_frozen BK206.out 3
           have hfz44_4 := blk_frozen BK206.out 4
           have hfz44_5 := blk_frozen BK206.out 5
           have hfz44_6 := blk_frozen BK206.out 6
           have hfz44_7 := blk_frozen BK206.out 7
           have hfz44_8 := blk_frozen BK206.out 8
           have hfz44_9 := blk_frozen BK206.out 9
           have hfz44_10 := blk_frozen BK206.out 10
           go_wp2
           go_meet
           case rel => exact ⟨_, (true), (by first | rfl | (simp; done) | (simp [*]; done)), H', ⟨by have := HJ1.out; have := HJ12.out; have := HJ25.out; first | omega | exact Nat.le_refl _⟩, ⟨by (with_reducible repeat (first | refine blk_drewN ?_ _ | refine blk_drew ?_ | refine blk_alloc ?_ _)); exact BK206.out⟩, ⟨by (with_reducible repeat (first | refine blk_drewN ?_ _ | refine blk_drew ?_ | refine blk_alloc ?_ _)); exact BK210.out⟩, ⟨by repeat (first | (with_reducible first | exact HB.out | apply below_alloc | apply pw_below_drewN | apply below_drew1 | refine below_set ?_ GE206.out | refine below_set ?_ GE210.out) | exact HB.out)⟩⟩
         ·rw [if_neg c33] at H
          have c33b0 : (a0_2 == 0) = false := beq_eq_false_iff_ne.mpr c33
          have c33b1 : (a0_2 != 0) = true := bne_iff_ne.mpr c33
          (first | rw [c33b0] | (simp only [i64_w, i32_w]; rw [c33b0]) | skip)
          by_cases c45 : a0_2 > 0
          ·rw [if_pos c45] at H
           have c45b0 : decide (0 < a0_2) = true := decide_eq_true c45
           clear c45
           have H' := Aside0.mk H
           clear H
           have hnb46 := NB206_210.out
           have hnc46 := NB210_206.out
           have hcz47_0 : wc.cell? ⟨gb206, 0, none⟩ = some (.int .i64 a0_0) := (blk_cell BK206.out 0).trans rfl
           have hcz47_1 : wc.cell? ⟨gb206, 1, none⟩ = some (.int .i64 a0_1) := (blk_cell BK206.out 1).trans rfl
           have hcz47_2 : wc.cell? ⟨gb206, 2, none⟩ = some (.int .i64 a0_2) := (blk_cell BK206.out 2).trans rfl
           have hcz47_3 : wc.cell? ⟨gb206, 3, none⟩ = some (.int .u32 a0_3) := (blk_cell BK206.out 3).trans rfl
           have hcz47_4 : wc.cell? ⟨gb206, 4, none⟩ = some (.int .i64 a0_4) := (blk_cell BK206.out 4).trans rfl
           have hcz47_5 : wc.cell? ⟨gb206, 5, none⟩ = some (.slice A0_5 l0_5.length c0_5) := (blk_cell BK206.out 5).trans rfl
           have hcz47_6 : wc.cell? ⟨gb206, 6, none⟩ = some (.int .i64 a0_6) := (blk_cell BK206.out 6).trans rfl
           have hcz47_7 : wc.cell? ⟨gb206, 7, none⟩ = some (.slice A0_7 l0_7.length c0_7) := (blk_cell BK206.out 7).trans rfl
           have hcz47_8 : wc.cell? ⟨gb206, 8, none⟩ = some (.slice A0_8 l0_8.length c0_8) := (blk_cell BK206.out 8).trans rfl
           have hcz47_9 : wc.cell? ⟨gb206, 9, none⟩ = some (.slice A0_9 l0_9.length c0_9) := (blk_cell BK206.out 9).trans rfl
           have hcz47_10 : wc.cell? ⟨gb206, 10, none⟩ = some (.slice A0_10 l0_10.length c0_10) := (blk_cell BK206.out 10).trans rfl
           have hfz47_0 := blk_frozen BK206.out 0
           have hfz47_1 := blk_frozen BK206.out 1
           have hfz47_2 := blk_frozen BK206.out 2
           have hfz47_3 := blk_frozen BK206.out 3
           have hfz47_4 := blk_frozen BK206.out 4
           have hfz47_5 := blk_frozen BK206.out 5
           have hfz47_6 := blk_frozen BK206.out 6
           have hfz47_7 := blk_frozen BK206.out 7
           have hfz47_8 := blk_frozen BK206.out 8
           have hfz47_9 := blk_frozen BK206.out 9
           have hfz47_10 := blk_frozen BK206.out 10
           go_wp2
           go_meet
           case rel => exact ⟨_, (!x5_25), (by first | rfl | (simp; done) | (simp [*]; done)), H', ⟨by have := HJ1.out; have := HJ12.out; have := HJ25.out; first | omega | exact Nat.le_refl _⟩, ⟨by (with_reducible repeat (first | refine blk_drewN ?_ _ | refine blk_drew ?_ | refine blk_alloc ?_ _)); exact BK206.out⟩, ⟨by (with_reducible repeat (first | refine blk_drewN ?_ _ | refine blk_drew ?_ | refine blk_alloc ?_ _)); exact BK210.out⟩, ⟨by repeat (first | (with_reducible first | exact HB.out | apply below_alloc | apply pw_below_drewN | apply below_drew1 | refine below_set ?_ GE206.out | refine below_set ?_ GE210.out) | exact HB.out)⟩⟩
          ·rw [if_neg c45] at H
           have c45b0 : decide (0 < a0_2) = false := decide_eq_false c45
           clear c45
           have H' := Aside0.mk H
           clear H
           have hnb48 := NB206_210.out
           have hnc48 := NB210_206.out
           have hcz49_0 : wc.cell? ⟨gb206, 0, none⟩ = some (.int .i64 a0_0) := (blk_cell BK206.out 0).trans rfl
           have hcz49_1 : wc.cell? ⟨gb206, 1, none⟩ = some (.int .i64 a0_1) := (blk_cell BK206.out 1).trans rfl
           have hcz49_2 : wc.cell? ⟨gb206, 2, none⟩ = some (.int .i64 a0_2) := (blk_cell BK206.out 2).trans rfl
           have hcz49_3 : wc.cell? ⟨gb206, 3, none⟩ = some (.int .u32 a0_3) := (blk_cell BK206.out 3).trans rfl
           have hcz49_4 : wc.cell? ⟨gb206, 4, none⟩ = some (.int .i64 a0_4) := (blk_cell BK206.out 4).trans rfl
           have hcz49_5 : wc.cell? ⟨gb206, 5, none⟩ = some (.slice A0_5 l0_5.length c0_5) := (blk_cell BK206.out 5).trans rfl
           have hcz49_6 : wc.cell? ⟨gb206, 6, none⟩ = some (.int .i64 a0_6) := (blk_cell BK206.out 6).trans rfl
           have hcz49_7 : wc.cell? ⟨gb206, 7, none⟩ = some (.slice A0_7 l0_7.length c0_7) := (blk_cell BK206.out 7).trans rfl
           have hcz49_8 : wc.cell? ⟨gb206, 8, none⟩ = some (.slice A0_8 l0_8.length c0_8) := (blk_cell BK206.out 8).trans rfl
           have hcz49_9 : wc.cell? ⟨gb206, 9, none⟩ = some (.slice A0_9 l0_9.length c0_9) := (blk_cell BK206.out 9).trans rfl
           have hcz49_10 : wc.cell? ⟨gb206, 10, none⟩ = some (.slice A0_10 l0_10.length c0_10) := (blk_cell BK206.out 10).trans rfl
           have hfz49_0 := blk_frozen BK206.out 0
           have hfz49_1 := blk_frozen BK206.out 1
           have hfz49_2 := blk_frozen BK206.out 2
           have hfz49_3 := blk_frozen BK206.out 3
           have hfz49_4 := blk_frozen BK206.out 4
           have hfz49_5 := blk_frozen BK206.out 5
           have hfz49_6 := blk_frozen BK206.out 6
           have hfz49_7 := blk_frozen BK206.out 7
           have hfz49_8 := blk_frozen BK206.out 8
           have hfz49_9 := blk_frozen BK206.out 9
           have hfz49_10 := blk_frozen BK206.out 10
           go_wp2
           go_meet
           case rel => exact ⟨_, (false), (by first | rfl | (simp; done) | (simp [*]; done)), H', ⟨by have := HJ1.out; have := HJ12.out; have := HJ25.out; first | omega | exact Nat.le_refl _⟩, ⟨by (with_reducible repeat (first | refine blk_drewN ?_ _ | refine blk_drew ?_ | refine blk_alloc ?_ _)); exact BK206.out⟩, ⟨by (with_reducible repeat (first | refine blk_drewN ?_ _ | refine blk_drew ?_ | refine blk_alloc ?_ _)); exact BK210.out⟩, ⟨by repeat (first | (with_reducible first | exact HB.out | apply below_alloc | apply pw_below_drewN | apply below_drew1 | refine below_set ?_ GE206.out | refine below_set ?_ GE210.out) | exact HB.out)⟩⟩
        case rest =>
         clear HC32
         try clear c1
         try clear c2
         try clear p2
         try clear c3
         try clear c4
         try clear c5
         try clear c7
         try clear c8
         try clear c12
         try clear c16
         try clear c18
         try clear c18b0
         try clear c18b1
         try clear c19
         try clear c19b0
         try clear c19b1
         try clear c19b2
         try clear c20
         try clear c22
         try clear c24
         try clear c27
         try clear c27b0
         try clear c27b1
         try clear c28
         try clear c30
         try clear c33
         try clear c33b0
         try clear c33b1
         try clear c34
         try clear c35
         try clear c35b0
         try clear c35b1
         try clear c36
         try clear c36b0
         try clear c37
         try clear c39
         try clear c41
         try clear c43
         try clear c45
         try clear c45b0
         try clear c46
         try clear c48
         try clear hcz11_0
         try clear hcz11_1
         try clear hcz11_10
         try clear hcz11_2
         try clear hcz11_3
         try clear hcz11_4
         try clear hcz11_5
         try clear hcz11_6
         try clear hcz11_7
         try clear hcz11_8
         try clear hcz11_9
         try clear hcz14_0
         try clear hcz14_1
         try clear hcz14_10
         try clear hcz14_2
         try clear hcz14_3
         try clear hcz14_4
         try clear hcz14_5
         try clear hcz14_6
         try clear hcz14_7
         try clear hcz14_8
         try clear hcz14_9
         try clear hcz17_0
         try clear hcz17_1
         try clear hcz17_2
         try clear hcz21_0
         try clear hcz21_1
         try clear hcz21_2
         try clear hcz23_0
         try clear hcz23_1
         try clear hcz23_2
         try clear hcz25_0
         try clear hcz25_1
         try clear hcz25_2
         try clear hcz29_0
         try clear hcz29_1
         try clear hcz29_10
         try clear hcz29_2
         try clear hcz29_3
         try clear hcz29_4
         try clear hcz29_5
         try clear hcz29_6
         try clear hcz29_7
         try clear hcz29_8
         try clear hcz29_9
         try clear hcz31_0
         try clear hcz31_1
         try clear hcz31_10
         try clear hcz31_2
         try clear hcz31_3
         try clear hcz31_4
         try clear hcz31_5
         try clear hcz31_6
         try clear hcz31_7
         try clear hcz31_8
         try clear hcz31_9
         try clear hcz38_0
         try clear hcz38_1
         try clear hcz38_10
         try clear hcz38_2
         try clear hcz38_3
         try clear hcz38_4
         try clear hcz38_5
         try clear hcz38_6
         try clear hcz38_7
         try clear hcz38_8
         try clear hcz38_9
         try clear hcz40_0
         try clear hcz40_1
         try clear hcz40_10
         try clear hcz40_2
         try clear hcz40_3
         try clear hcz40_4
         try clear hcz40_5
         try clear hcz40_6
         try clear hcz40_7
         try clear hcz40_8
         try clear hcz40_9
         try clear hcz42_0
         try clear hcz42_1
         try clear hcz42_10
         try clear hcz42_2
         try clear hcz42_3
         try clear hcz42_4
         try clear hcz42_5
         try clear hcz42_6
         try clear hcz42_7
         try clear hcz42_8
         try clear hcz42_9
         try clear hcz44_0
         try clear hcz44_1
         try clear hcz44_10
         try clear hcz44_2
         try clear hcz44_3
         try clear hcz44_4
         try clear hcz44_5
         try clear hcz44_6
         try clear hcz44_7
         try clear hcz44_8
         try clear hcz44_9
         try clear hcz47_0
         try clear hcz47_1
         try clear hcz47_10
         try clear hcz47_2
         try clear hcz47_3
         try clear hcz47_4
         try clear hcz47_5
         try clear hcz47_6
         try clear hcz47_7
         try clear hcz47_8
         try clear hcz47_9
         try clear hcz49_0
         try clear hcz49_1
         try clear hcz49_10
         try clear hcz49_2
         try clear hcz49_3
         try clear hcz49_4
         try clear hcz49_5
         try clear hcz49_6
         try clear hcz49_7
         try clear hcz49_8
         try clear hcz49_9
         try clear hcz6_0
         try clear hcz6_1
         try clear hcz6_10
         try clear hcz6_2
         try clear hcz6_3
         try clear hcz6_4
         try clear hcz6_5
         try clear hcz6_6
         try clear hcz6_7
         try clear hcz6_8
         try clear hcz6_9
         try clear hcz9_0
         try clear hcz9_1
         try clear hcz9_10
         try clear hcz9_2
         try clear hcz9_3
         try clear hcz9_4
         try clear hcz9_5
         try clear hcz9_6
         try clear hcz9_7
         try clear hcz9_8
         try clear hcz9_9
         try clear hfz11_0
         try clear hfz11_1
         try clear hfz11_10
         try clear hfz11_2
         try clear hfz11_3
         try clear hfz11_4
         try clear hfz11_5
         try clear hfz11_6
         try clear hfz11_7
         try clear hfz11_8
         try clear hfz11_9
         try clear hfz14_0
         try clear hfz14_1
         try clear hfz14_10
         try clear hfz14_2
         try clear hfz14_3
         try clear hfz14_4
         try clear hfz14_5
         try clear hfz14_6
         try clear hfz14_7
         try clear hfz14_8
         try clear hfz14_9
         try clear hfz17_0
         try clear hfz17_1
         try clear hfz17_2
         try clear hfz21_0
         try clear hfz21_1
         try clear hfz21_2
         try clear hfz23_0
         try clear hfz23_1
         try clear hfz23_2
         try clear hfz25_0
         try clear hfz25_1
         try clear hfz25_2
         try clear hfz29_0
         try clear hfz29_1
         try clear hfz29_10
         try clear hfz29_2
         try clear hfz29_3
         try clear hfz29_4
         try clear hfz29_5
         try clear hfz29_6
         try clear hfz29_7
         try clear hfz29_8
         try clear hfz29_9
         try clear hfz31_0
         try clear hfz31_1
         try clear hfz31_10
         try clear hfz31_2
         try clear hfz31_3
         try clear hfz31_4
         try clear hfz31_5
         try clear hfz31_6
         try clear hfz31_7
         try clear hfz31_8
         try clear hfz31_9
         try clear hfz38_0
         try clear hfz38_1
         try clear hfz38_10
         try clear hfz38_2
         try clear hfz38_3
         try clear hfz38_4
         try clear hfz38_5
         try clear hfz38_6
         try clear hfz38_7
         try clear hfz38_8
         try clear hfz38_9
         try clear hfz40_0
         try clear hfz40_1
         try clear hfz40_10
         try clear hfz40_2
         try clear hfz40_3
         try clear hfz40_4
         try clear hfz40_5
         try clear hfz40_6
         try clear hfz40_7
         try clear hfz40_8
         try clear hfz40_9
         try clear hfz42_0
         try clear hfz42_1
         try clear hfz42_10
         try clear hfz42_2
         try clear hfz42_3
         try clear hfz42_4
         try clear hfz42_5
         try clear hfz42_6
         try clear hfz42_7
         try clear hfz42_8
         try clear hfz42_9
         try clear hfz44_0
         try clear hfz44_1
         try clear hfz44_10
         try clear hfz44_2
         try clear hfz44_3
         try clear hfz44_4
         try clear hfz44_5
         try clear hfz44_6
         try clear hfz44_7
         try clear hfz44_8
         try clear hfz44_9
         try clear hfz47_0
         try clear hfz47_1
         try clear hfz47_10
         try clear hfz47_2
         try clear hfz47_3
         try clear hfz47_4
         try clear hfz47_5
         try clear hfz47_6
         try clear hfz47_7
         try clear hfz47_8
         try clear hfz47_9
         try clear hfz49_0
         try clear hfz49_1
         try clear hfz49_10
         try clear hfz49_2
         try clear hfz49_3
         try clear hfz49_4
         try clear hfz49_5
         try clear hfz49_6
         try clear hfz49_7
         try clear hfz49_8
         try clear hfz49_9
         try clear hfz6_0
         try clear hfz6_1
         try clear hfz6_10
         try clear hfz6_2
         try clear hfz6_3
         try clear hfz6_4
         try clear hfz6_5
         try clear hfz6_6
         try clear hfz6_7
         try clear hfz6_8
         try clear hfz6_9
         try clear hfz9_0
         try clear hfz9_1
         try clear hfz9_10
         try clear hfz9_2
         try clear hfz9_3
         try clear hfz9_4
         try clear hfz9_5
         try clear hfz9_6
         try clear hfz9_7
         try clear hfz9_8
         try clear hfz9_9
         try clear p2
         obtain ⟨kq, x69_31, rfl, HA, HJ31, BK206, BK210, HB⟩ := hcut
         cases kq with
         | zero => exact absurd HA.out (by simp [eddyref4_fitSegment.j3])
         | succ kj31 =>
          have H := HA.out
          clear HA
          simp only [eddyref4_fitSegment.j3] at H
          by_cases c50 : x69_31 = true
          ·subst c50
           have H1 : (some 41) = some r := by rw [if_pos rfl] at H; exact H
           clear H
           have H := H1
           clear H1
           obtain rfl := Option.some.inj H
           go_wp2
           go_ret
           exact ⟨by first | rfl | (simp [errW_none, errW_some] <;> rfl) | (simp [*, errW_none, errW_some] <;> rfl), by repeat (first | (with_reducible first | exact HB.out | apply below_alloc | apply pw_below_drewN | apply below_drew1 | refine below_set ?_ GE206.out | refine below_set ?_ GE210.out) | exact HB.out)⟩
          ·replace c50 := Bool.eq_false_iff.mpr c50
           subst c50
           have H1 : ((eddyref2_CheckState.f kj31 a0_4 l0_5).bind fun t211 => (if a0_2 > 0 then ((eddyref2_CheckState.f kj31 a0_6 l0_7).bind fun t212 => (if t212 = 0 then ((eddyref4_fitGone.f kj31 l0_8).bind fun t213 => (eddyref4_fitSegment.j4 kj31 t213 a0_0 a0_1 a0_2 a0_3 a0_4 l0_5 a0_6 l0_7 l0_8 l0_9 l0_10)) else (eddyref4_fitSegment.j4 kj31 t212 a0_0 a0_1 a0_2 a0_3 a0_4 l0_5 a0_6 l0_7 l0_8 l0_9 l0_10))) else (eddyref4_fitSegment.j4 kj31 t211 a0_0 a0_1 a0_2 a0_3 a0_4 l0_5 a0_6 l0_7 l0_8 l0_9 l0_10))) = some r := by rw [if_neg (show ¬ (false = true) by decide)] at H; exact H
           clear H
           have H := H1
           clear H1
           replace H := Option.bind_eq_some_iff.mp H
           obtain ⟨t211, A510, H⟩ := H
           replace H : (if a0_2 > 0 then ((eddyref2_CheckState.f kj31 a0_6 l0_7).bind fun t212 => (if t212 = 0 then ((eddyref4_fitGone.f kj31 l0_8).bind fun t213 => (eddyref4_fitSegment.j4 kj31 t213 a0_0 a0_1 a0_2 a0_3 a0_4 l0_5 a0_6 l0_7 l0_8 l0_9 l0_10)) else (eddyref4_fitSegment.j4 kj31 t212 a0_0 a0_1 a0_2 a0_3 a0_4 l0_5 a0_6 l0_7 l0_8 l0_9 l0_10))) else (eddyref4_fitSegment.j4 kj31 t211 a0_0 a0_1 a0_2 a0_3 a0_4 l0_5 a0_6 l0_7 l0_8 l0_9 l0_10)) = some r := H
           have A51 := Aside0.mk A510
           clear A510
           have HC52 := Aside0.mk H
           clear H
           have hnb53 := NB206_210.out
           have hnc53 := NB210_206.out
           have hcz54_0 : wc.cell? ⟨gb206, 0, none⟩ = some (.int .i64 a0_0) := (blk_cell BK206.out 0).trans rfl
           have hcz54_1 : wc.cell? ⟨gb206, 1, none⟩ = some (.int .i64 a0_1) := (blk_cell BK206.out 1).trans rfl
           have hcz54_2 : wc.cell? ⟨gb206, 2, none⟩ = some (.int .i64 a0_2) := (blk_cell BK206.out 2).trans rfl
           have hcz54_3 : wc.cell? ⟨gb206, 3, none⟩ = some (.int .u32 a0_3) := (blk_cell BK206.out 3).trans rfl
           have hcz54_4 : wc.cell? ⟨gb206, 4, none⟩ = some (.int .i64 a0_4) := (blk_cell BK206.out 4).trans rfl
           have hcz54_5 : wc.cell? ⟨gb206, 5, none⟩ = some (.slice A0_5 l0_5.length c0_5) := (blk_cell BK206.out 5).trans rfl
           have hcz54_6 : wc.cell? ⟨gb206, 6, none⟩ = some (.int .i64 a0_6) := (blk_cell BK206.out 6).trans rfl
           have hcz54_7 : wc.cell? ⟨gb206, 7, none⟩ = some (.slice A0_7 l0_7.length c0_7) := (blk_cell BK206.out 7).trans rfl
           have hcz54_8 : wc.cell? ⟨gb206, 8, none⟩ = some (.slice A0_8 l0_8.length c0_8) := (blk_cell BK206.out 8).trans rfl
           have hcz54_9 : wc.cell? ⟨gb206, 9, none⟩ = some (.slice A0_9 l0_9.length c0_9) := (blk_cell BK206.out 9).trans rfl
           have hcz54_10 : wc.cell? ⟨gb206, 10, none⟩ = some (.slice A0_10 l0_10.length c0_10) := (blk_cell BK206.out 10).trans rfl
           have hfz54_0 := blk_frozen BK206.out 0
           have hfz54_1 := blk_frozen BK206.out 1
           have hfz54_2 := blk_frozen BK206.out 2
           have hfz54_3 := blk_frozen BK206.out 3
           have hfz54_4 := blk_frozen BK206.out 4
           have hfz54_5 := blk_frozen BK206.out 5
           have hfz54_6 := blk_frozen BK206.out 6
           have hfz54_7 := blk_frozen BK206.out 7
           have hfz54_8 := blk_frozen BK206.out 8
           have hfz54_9 := blk_frozen BK206.out 9
           have hfz54_10 := blk_frozen BK206.out 10
           go_upto_if 75 with (first | ((with_reducible refine gate_callee (f := 68) rfl ?_); refine goesL_ (some 72) rfl rfl Try.func68 (by kernel_rfl) rfl #[.agg #[.int .i64 a0_4, .slice A0_5 l0_5.length c0_5]] rfl (by (try simp only [List.map_toArray, List.map_cons, List.map_nil]); first | done | rfl | (simp only [List.length_drop, List.length_take]; rfl)) ?_; (with_reducible refine (eddyref2_CheckState.calls kj31 a0_4 _ _ l0_5 t211 _ ?side1 ?side2 A51.out).mono ?_); (case side1 => repeat (first | exact (Kd.C_below HR0_5.out HB.out) | (with_reducible refine Kd.C_alloc ?_ _) | (with_reducible refine Kd.C_drewN ?_ _) | (with_reducible refine Kd.C_drew ?_))); (case side2 => exact HC0_5.out); rintro e w55 ⟨rfl, hb⟩; refine ⟨_, rfl, ?_⟩; have n0_ := Aside0.mk (blk_below (g := gb206) (o := .cells #[.int .i64 a0_0, .int .i64 a0_1, .int .i64 a0_2, .int .u32 a0_3, .int .i64 a0_4, .slice A0_5 l0_5.length c0_5, .int .i64 a0_6, .slice A0_7 l0_7.length c0_7, .slice A0_8 l0_8.length c0_8, .slice A0_9 l0_9.length c0_9, .slice A0_10 l0_10.length c0_10] 39 (0, 0)) (by (with_reducible repeat (first | refine blk_drewN ?_ _ | refine blk_drew ?_ | refine blk_alloc ?_ _)); exact BK206.out) hb); have n1_ := Aside0.mk (blk_below (g := gb210) (o := .cells #[.int .i64 a0_6, .slice A0_7 l0_7.length c0_7, .slice A0_8 l0_8.length c0_8] 35 (0, 0)) (by (with_reducible repeat (first | refine blk_drewN ?_ _ | refine blk_drew ?_ | refine blk_alloc ?_ _)); exact BK210.out) hb); have n2_ := Aside0.mk (below_step (by repeat (first | (with_reducible first | exact HB.out | apply below_alloc | apply pw_below_drewN | apply below_drew1 | refine below_set ?_ GE206.out | refine below_set ?_ GE210.out) | exact HB.out)) hb); clear BK206; clear BK210; clear HB; have BK206 := n0_; have BK210 := n1_; have HB := n2_; clear n0_ n1_ n2_; (try clear hb); (try clear hb2); (try clear hk); (try clear hi); have hcz56_0 : w55.cell? ⟨gb206, 0, none⟩ = some (.int .i64 a0_0) := (blk_cell BK206.out 0).trans rfl; have hcz56_1 : w55.cell? ⟨gb206, 1, none⟩ = some (.int .i64 a0_1) := (blk_cell BK206.out 1).trans rfl; have hcz56_2 : w55.cell? ⟨gb206, 2, none⟩ = some (.int .i64 a0_2) := (blk_cell BK206.out 2).trans rfl; have hcz56_3 : w55.cell? ⟨gb206, 3, none⟩ = some (.int .u32 a0_3) := (blk_cell BK206.out 3).trans rfl; have hcz56_4 : w55.cell? ⟨gb206, 4, none⟩ = some (.int .i64 a0_4) := (blk_cell BK206.out 4).trans rfl; have hcz56_5 : w55.cell? ⟨gb206, 5, none⟩ = some (.slice A0_5 l0_5.length c0_5) := (blk_cell BK206.out 5).trans rfl; have hcz56_6 : w55.cell? ⟨gb206, 6, none⟩ = some (.int .i64 a0_6) := (blk_cell BK206.out 6).trans rfl; have hcz56_7 : w55.cell? ⟨gb206, 7, none⟩ = some (.slice A0_7 l0_7.length c0_7) := (blk_cell BK206.out 7).trans rfl; have hcz56_8 : w55.cell? ⟨gb206, 8, none⟩ = some (.slice A0_8 l0_8.length c0_8) := (blk_cell BK206.out 8).trans rfl; have hcz56_9 : w55.cell? ⟨gb206, 9, none⟩ = some (.slice A0_9 l0_9.length c0_9) := (blk_cell BK206.out 9).trans rfl; have hcz56_10 : w55.cell? ⟨gb206, 10, none⟩ = some (.slice A0_10 l0_10.length c0_10) := (blk_cell BK206.out 10).trans rfl; have hfz56_0 := blk_frozen BK206.out 0; have hfz56_1 := blk_frozen BK206.out 1; have hfz56_2 := blk_frozen BK206.out 2; have hfz56_3 := blk_frozen BK206.out 3; have hfz56_4 := blk_frozen BK206.out 4; have hfz56_5 := blk_frozen BK206.out 5; have hfz56_6 := blk_frozen BK206.out 6; have hfz56_7 := blk_frozen BK206.out 7; have hfz56_8 := blk_frozen BK206.out 8; have hfz56_9 := blk_frozen BK206.out 9; have hfz56_10 := blk_frozen BK206.out 10))
           (try simp only [Act.put, List.setIfInBounds_toArray, List.set_cons_zero, List.set_cons_succ])
           go_cut [6] (fun v6 wc => ∃ (kq : Nat) (x6_51 : Int), v6 = .int .i64 x6_51 ∧ Aside0 (eddyref4_fitSegment.j4 kq x6_51 a0_0 a0_1 a0_2 a0_3 a0_4 l0_5 a0_6 l0_7 l0_8 l0_9 l0_10 = some r) ∧ Aside0 (kq ≤ kj31) ∧ Aside0 (wc.heap[gb206]? = some (.cells #[.int .i64 a0_0, .int .i64 a0_1, .int .i64 a0_2, .int .u32 a0_3, .int .i64 a0_4, (.slice A0_5 l0_5.length c0_5), .int .i64 a0_6, (.slice A0_7 l0_7.length c0_7), (.slice A0_8 l0_8.length c0_8), (.slice A0_9 l0_9.length c0_9), (.slice A0_10 l0_10.length c0_10)] 39 (0, 0))) ∧ Aside0 (wc.heap[gb210]? = some (.cells #[.int .i64 a0_6, (.slice A0_7 l0_7.length c0_7), (.slice A0_8 l0_8.length c0_8)] 35 (0, 0))) ∧ Aside0 (Below w.heap.size w wc))
           case first =>
            have H := HC52.out
            clear HC52
            by_cases c57 : a0_2 > 0
            ·rw [if_pos c57] at H
             have c57b0 : decide (0 < a0_2) = true := decide_eq_true c57
             clear c57
             (first | rw [c57b0] | (simp only [i64_w, i32_w]; rw [c57b0]) | skip)
             replace H := Option.bind_eq_some_iff.mp H
             obtain ⟨t212, A580, H⟩ := H
             replace H : (if t212 = 0 then ((eddyref4_fitGone.f kj31 l0_8).bind fun t213 => (eddyref4_fitSegment.j4 kj31 t213 a0_0 a0_1 a0_2 a0_3 a0_4 l0_5 a0_6 l0_7 l0_8 l0_9 l0_10)) else (eddyref4_fitSegment.j4 kj31 t212 a0_0 a0_1 a0_2 a0_3 a0_4 l0_5 a0_6 l0_7 l0_8 l0_9 l0_10)) = some r := H
             have A58 := Aside0.mk A580
             clear A580
             by_cases c59 : t212 = 0
             ·rw [if_pos c59] at H
              have c59b0 : (t212 == 0) = true := beq_iff_eq.mpr c59
              have c59b1 : (t212 != 0) = false := bne_eq_false_iff_eq.mpr c59
              clear c59
              replace H := Option.bind_eq_some_iff.mp H
              obtain ⟨t213, A600, H⟩ := H
              replace H : (eddyref4_fitSegment.j4 kj31 t213 a0_0 a0_1 a0_2 a0_3 a0_4 l0_5 a0_6 l0_7 l0_8 l0_9 l0_10) = some r := H
              have A60 := Aside0.mk A600
              clear A600
              have H' := Aside0.mk H
              clear H
              have hnb61 := NB210_206.out
              have hnc61 := NB206_210.out
              have hcz62_0 : w55.cell? ⟨gb210, 0, none⟩ = some (.int .i64 a0_6) := (blk_cell BK210.out 0).trans rfl
              have hcz62_1 : w55.cell? ⟨gb210, 1, none⟩ = some (.slice A0_7 l0_7.length c0_7) := (blk_cell BK210.out 1).trans rfl
              have hcz62_2 : w55.cell? ⟨gb210, 2, none⟩ = some (.slice A0_8 l0_8.length c0_8) := (blk_cell BK210.out 2).trans rfl
              have hfz62_0 := blk_frozen BK210.out 0
              have hfz62_1 := blk_frozen BK210.out 1
              have hfz62_2 := blk_frozen BK210.out 2
              go_wp2_with (first | ((with_reducible refine gate_callee (f := 68) rfl ?_); refine goesL_ (some 81) rfl rfl Try.func68 (by kernel_rfl) rfl #[.agg #[.int .i64 a0_6, .slice A0_7 l0_7.length c0_7]] rfl (by (try simp only [List.map_toArray, List.map_cons, List.map_nil]); first | done | rfl | (simp only [List.length_drop, List.length_take]; rfl)) ?_; (with_reducible refine (eddyref2_CheckState.calls kj31 a0_6 _ _ l0_7 t212 _ ?side1 ?side2 A58.out).mono ?_); (case side1 => repeat (first | exact (Kd.C_below HR0_7.out HB.out) | (with_reducible refine Kd.C_alloc ?_ _) | (with_reducible refine Kd.C_drewN ?_ _) | (with_reducible refine Kd.C_drew ?_))); (case side2 => exact HC0_7.out); rintro e w63 ⟨rfl, hb⟩; refine ⟨_, rfl, ?_⟩; have n0_ := Aside0.mk (blk_below (g := gb206) (o := .cells #[.int .i64 a0_0, .int .i64 a0_1, .int .i64 a0_2, .int .u32 a0_3, .int .i64 a0_4, .slice A0_5 l0_5.length c0_5, .int .i64 a0_6, .slice A0_7 l0_7.length c0_7, .slice A0_8 l0_8.length c0_8, .slice A0_9 l0_9.length c0_9, .slice A0_10 l0_10.length c0_10] 39 (0, 0)) (by (with_reducible repeat (first | refine blk_drewN ?_ _ | refine blk_drew ?_ | refine blk_alloc ?_ _)); exact BK206.out) hb); have n1_ := Aside0.mk (blk_below (g := gb210) (o := .cells #[.int .i64 a0_6, .slice A0_7 l0_7.length c0_7, .slice A0_8 l0_8.length c0_8] 35 (0, 0)) (by (with_reducible repeat (first | refine blk_drewN ?_ _ | refine blk_drew ?_ | refine blk_alloc ?_ _)); exact BK210.out) hb); have n2_ := Aside0.mk (below_step (by repeat (first | (with_reducible first | exact HB.out | apply below_alloc | apply pw_below_drewN | apply below_drew1 | refine below_set ?_ GE206.out | refine below_set ?_ GE210.out) | exact HB.out)) hb); clear BK206; clear BK210; clear HB; have BK206 := n0_; have BK210 := n1_; have HB := n2_; clear n0_ n1_ n2_; (try clear hb); (try clear hb2); (try clear hk); (try clear hi); have hcz64_0 : w63.cell? ⟨gb210, 0, none⟩ = some (.int .i64 a0_6) := (blk_cell BK210.out 0).trans rfl; have hcz64_1 : w63.cell? ⟨gb210, 1, none⟩ = some (.slice A0_7 l0_7.length c0_7) := (blk_cell BK210.out 1).trans rfl; have hcz64_2 : w63.cell? ⟨gb210, 2, none⟩ = some (.slice A0_8 l0_8.length c0_8) := (blk_cell BK210.out 2).trans rfl; have hfz64_0 := blk_frozen BK210.out 0; have hfz64_1 := blk_frozen BK210.out 1; have hfz64_2 := blk_frozen BK210.out 2) | ((with_reducible refine gate_callee (f := 113) rfl ?_); refine goesL_ (some 86) rfl rfl Try.func113 (by kernel_rfl) rfl #[.slice A0_8 l0_8.length c0_8] rfl (by (try simp only [List.map_toArray, List.map_cons, List.map_nil]); first | done | rfl | (simp only [List.length_drop, List.length_take]; rfl)) ?_; (with_reducible refine (eddyref4_fitGone.calls kj31 _ _ l0_8 t213 _ ?side1 ?side2 A60.out).mono ?_); (case side1 => repeat (first | exact (Kd.C_below HR0_8.out HB.out) | (with_reducible refine Kd.C_alloc ?_ _) | (with_reducible refine Kd.C_drewN ?_ _) | (with_reducible refine Kd.C_drew ?_))); (case side2 => exact HC0_8.out); rintro e w' ⟨rfl, ⟨nd, rfl⟩⟩; refine ⟨_, rfl, ?_⟩))
              go_meet
              case rel => exact ⟨_, (t213), (by first | rfl | (simp; done) | (simp [*]; done)), H', ⟨by have := HJ1.out; have := HJ12.out; have := HJ25.out; have := HJ31.out; first | omega | exact Nat.le_refl _⟩, ⟨by (with_reducible repeat (first | refine blk_drewN ?_ _ | refine blk_drew ?_ | refine blk_alloc ?_ _)); exact BK206.out⟩, ⟨by (with_reducible repeat (first | refine blk_drewN ?_ _ | refine blk_drew ?_ | refine blk_alloc ?_ _)); exact BK210.out⟩, ⟨by repeat (first | (with_reducible first | exact HB.out | apply below_alloc | apply pw_below_drewN | apply below_drew1 | refine below_set ?_ GE206.out | refine below_set ?_ GE210.out) | exact HB.out)⟩⟩
             ·rw [if_neg c59] at H
              have c59b0 : (t212 == 0) = false := beq_eq_false_iff_ne.mpr c59
              have c59b1 : (t212 != 0) = true := bne_iff_ne.mpr c59
              have H' := Aside0.mk H
              clear H
              have hnb65 := NB210_206.out
              have hnc65 := NB206_210.out
              have hcz66_0 : w55.cell? ⟨gb210, 0, none⟩ = some (.int .i64 a0_6) := (blk_cell BK210.out 0).trans rfl
              have hcz66_1 : w55.cell? ⟨gb210, 1, none⟩ = some (.slice A0_7 l0_7.length c0_7) := (blk_cell BK210.out 1).trans rfl
              have hcz66_2 : w55.cell? ⟨gb210, 2, none⟩ = some (.slice A0_8 l0_8.length c0_8) := (blk_cell BK210.out 2).trans rfl
              have hfz66_0 := blk_frozen BK210.out 0
              have hfz66_1 := blk_frozen BK210.out 1
              have hfz66_2 := blk_frozen BK210.out 2
              go_wp2_with (first | ((with_reducible refine gate_callee (f := 68) rfl ?_); refine goesL_ (some 81) rfl rfl Try.func68 (by kernel_rfl) rfl #[.agg #[.int .i64 a0_6, .slice A0_7 l0_7.length c0_7]] rfl (by (try simp only [List.map_toArray, List.map_cons, List.map_nil]); first | done | rfl | (simp only [List.length_drop, List.length_take]; rfl)) ?_; (with_reducible refine (eddyref2_CheckState.calls kj31 a0_6 _ _ l0_7 t212 _ ?side1 ?side2 A58.out).mono ?_); (case side1 => repeat (first | exact (Kd.C_below HR0_7.out HB.out) | (with_reducible refine Kd.C_alloc ?_ _) | (with_reducible refine Kd.C_drewN ?_ _) | (with_reducible refine Kd.C_drew ?_))); (case side2 => exact HC0_7.out); rintro e w67 ⟨rfl, hb⟩; refine ⟨_, rfl, ?_⟩; have n0_ := Aside0.mk (blk_below (g := gb206) (o := .cells #[.int .i64 a0_0, .int .i64 a0_1, .int .i64 a0_2, .int .u32 a0_3, .int .i64 a0_4, .slice A0_5 l0_5.length c0_5, .int .i64 a0_6, .slice A0_7 l0_7.length c0_7, .slice A0_8 l0_8.length c0_8, .slice A0_9 l0_9.length c0_9, .slice A0_10 l0_10.length c0_10] 39 (0, 0)) (by (with_reducible repeat (first | refine blk_drewN ?_ _ | refine blk_drew ?_ | refine blk_alloc ?_ _)); exact BK206.out) hb); have n1_ := Aside0.mk (blk_below (g := gb210) (o := .cells #[.int .i64 a0_6, .slice A0_7 l0_7.length c0_7, .slice A0_8 l0_8.length c0_8] 35 (0, 0)) (by (with_reducible repeat (first | refine blk_drewN ?_ _ | refine blk_drew ?_ | refine blk_alloc ?_ _)); exact BK210.out) hb); have n2_ := Aside0.mk (below_step (by repeat (first | (with_reducible first | exact HB.out | apply below_alloc | apply pw_below_drewN | apply below_drew1 | refine below_set ?_ GE206.out | refine below_set ?_ GE210.out) | exact HB.out)) hb); clear BK206; clear BK210; clear HB; have BK206 := n0_; have BK210 := n1_; have HB := n2_; clear n0_ n1_ n2_; (try clear hb); (try clear hb2); (try clear hk); (try clear hi)))
              go_meet
              case rel => exact ⟨_, (t212), (by first | rfl | (simp; done) | (simp [*]; done)), H', ⟨by have := HJ1.out; have := HJ12.out; have := HJ25.out; have := HJ31.out; first | omega | exact Nat.le_refl _⟩, ⟨by (with_reducible repeat (first | refine blk_drewN ?_ _ | refine blk_drew ?_ | refine blk_alloc ?_ _)); exact BK206.out⟩, ⟨by (with_reducible repeat (first | refine blk_drewN ?_ _ | refine blk_drew ?_ | refine blk_alloc ?_ _)); exact BK210.out⟩, ⟨by repeat (first | (with_reducible first | exact HB.out | apply below_alloc | apply pw_below_drewN | apply below_drew1 | refine below_set ?_ GE206.out | refine below_set ?_ GE210.out) | exact HB.out)⟩⟩
            ·rw [if_neg c57] at H
             have c57b0 : decide (0 < a0_2) = false := decide_eq_false c57
             clear c57
             (first | rw [c57b0] | (simp only [i64_w, i32_w]; rw [c57b0]) | skip)
             have H' := Aside0.mk H
             clear H
             go_wp2
             go_meet
             case rel => exact ⟨_, (t211), (by first | rfl | (simp; done) | (simp [*]; done)), H', ⟨by have := HJ1.out; have := HJ12.out; have := HJ25.out; have := HJ31.out; first | omega | exact Nat.le_refl _⟩, ⟨by (with_reducible repeat (first | refine blk_drewN ?_ _ | refine blk_drew ?_ | refine blk_alloc ?_ _)); exact BK206.out⟩, ⟨by (with_reducible repeat (first | refine blk_drewN ?_ _ | refine blk_drew ?_ | refine blk_alloc ?_ _)); exact BK210.out⟩, ⟨by repeat (first | (with_reducible first | exact HB.out | apply below_alloc | apply pw_below_drewN | apply below_drew1 | refine below_set ?_ GE206.out | refine below_set ?_ GE210.out) | exact HB.out)⟩⟩
           case rest =>
            clear HC52
            try clear c1
            try clear c2
            try clear p2
            try clear c3
            try clear c4
            try clear c5
            try clear c6
            try clear c7
            try clear c8
            try clear c11
            try clear c12
            try clear c16
            try clear c18
            try clear c18b0
            try clear c18b1
            try clear c19
            try clear c19b0
            try clear c19b1
            try clear c19b2
            try clear c20
            try clear c22
            try clear c24
            try clear c27
            try clear c27b0
            try clear c27b1
            try clear c28
            try clear c30
            try clear c33
            try clear c33b0
            try clear c33b1
            try clear c34
            try clear c35
            try clear c35b0
            try clear c35b1
            try clear c36
            try clear c36b0
            try clear c37
            try clear c39
            try clear c41
            try clear c43
            try clear c45
            try clear c45b0
            try clear c46
            try clear c48
            try clear c50
            try clear c53
            try clear c57
            try clear c57b0
            try clear c59
            try clear c59b0
            try clear c59b1
            try clear c61
            try clear c65
            try clear hcz11_0
            try clear hcz11_1
            try clear hcz11_10
            try clear hcz11_2
            try clear hcz11_3
            try clear hcz11_4
            try clear hcz11_5
            try clear hcz11_6
            try clear hcz11_7
            try clear hcz11_8
            try clear hcz11_9
            try clear hcz14_0
            try clear hcz14_1
            try clear hcz14_10
            try clear hcz14_2
            try clear hcz14_3
            try clear hcz14_4
            try clear hcz14_5
            try clear hcz14_6
            try clear hcz14_7
            try clear hcz14_8
            try clear hcz14_9
            try clear hcz17_0
            try clear hcz17_1
            try clear hcz17_2
            try clear hcz21_0
            try clear hcz21_1
            try clear hcz21_2
            try clear hcz23_0
            try clear hcz23_1
            try clear hcz23_2
            try clear hcz25_0
            try clear hcz25_1
            try clear hcz25_2
            try clear hcz29_0
            try clear hcz29_1
            try clear hcz29_10
            try clear hcz29_2
            try clear hcz29_3
            try clear hcz29_4
            try clear hcz29_5
            try clear hcz29_6
            try clear hcz29_7
            try clear hcz29_8
            try clear hcz29_9
            try clear hcz31_0
            try clear hcz31_1
            try clear hcz31_10
            try clear hcz31_2
            try clear hcz31_3
            try clear hcz31_4
            try clear hcz31_5
            try clear hcz31_6
            try clear hcz31_7
            try clear hcz31_8
            try clear hcz31_9
            try clear hcz38_0
            try clear hcz38_1
            try clear hcz38_10
            try clear hcz38_2
            try clear hcz38_3
            try clear hcz38_4
            try clear hcz38_5
            try clear hcz38_6
            try clear hcz38_7
            try clear hcz38_8
            try clear hcz38_9
            try clear hcz40_0
            try clear hcz40_1
            try clear hcz40_10
            try clear hcz40_2
            try clear hcz40_3
            try clear hcz40_4
            try clear hcz40_5
            try clear hcz40_6
            try clear hcz40_7
            try clear hcz40_8
            try clear hcz40_9
            try clear hcz42_0
            try clear hcz42_1
            try clear hcz42_10
            try clear hcz42_2
            try clear hcz42_3
            try clear hcz42_4
            try clear hcz42_5
            try clear hcz42_6
            try clear hcz42_7
            try clear hcz42_8
            try clear hcz42_9
            try clear hcz44_0
            try clear hcz44_1
            try clear hcz44_10
            try clear hcz44_2
            try clear hcz44_3
            try clear hcz44_4
            try clear hcz44_5
            try clear hcz44_6
            try clear hcz44_7
            try clear hcz44_8
            try clear hcz44_9
            try clear hcz47_0
            try clear hcz47_1
            try clear hcz47_10
            try clear hcz47_2
            try clear hcz47_3
            try clear hcz47_4
            try clear hcz47_5
            try clear hcz47_6
            try clear hcz47_7
            try clear hcz47_8
            try clear hcz47_9
            try clear hcz49_0
            try clear hcz49_1
            try clear hcz49_10
            try clear hcz49_2
            try clear hcz49_3
            try clear hcz49_4
            try clear hcz49_5
            try clear hcz49_6
            try clear hcz49_7
            try clear hcz49_8
            try clear hcz49_9
            try clear hcz54_0
            try clear hcz54_1
            try clear hcz54_10
            try clear hcz54_2
            try clear hcz54_3
            try clear hcz54_4
            try clear hcz54_5
            try clear hcz54_6
            try clear hcz54_7
            try clear hcz54_8
            try clear hcz54_9
            try clear hcz56_0
            try clear hcz56_1
            try clear hcz56_10
            try clear hcz56_2
            try clear hcz56_3
            try clear hcz56_4
            try clear hcz56_5
            try clear hcz56_6
            try clear hcz56_7
            try clear hcz56_8
            try clear hcz56_9
            try clear hcz62_0
            try clear hcz62_1
            try clear hcz62_2
            try clear hcz64_0
            try clear hcz64_1
            try clear hcz64_2
            try clear hcz66_0
            try clear hcz66_1
            try clear hcz66_2
            try clear hcz6_0
            try clear hcz6_1
            try clear hcz6_10
            try clear hcz6_2
            try clear hcz6_3
            try clear hcz6_4
            try clear hcz6_5
            try clear hcz6_6
            try clear hcz6_7
            try clear hcz6_8
            try clear hcz6_9
            try clear hcz9_0
            try clear hcz9_1
            try clear hcz9_10
            try clear hcz9_2
            try clear hcz9_3
            try clear hcz9_4
            try clear hcz9_5
            try clear hcz9_6
            try clear hcz9_7
            try clear hcz9_8
            try clear hcz9_9
            try clear hfz11_0
            try clear hfz11_1
            try clear hfz11_10
            try clear hfz11_2
            try clear hfz11_3
            try clear hfz11_4
            try clear hfz11_5
            try clear hfz11_6
            try clear hfz11_7
            try clear hfz11_8
            try clear hfz11_9
            try clear hfz14_0
            try clear hfz14_1
            try clear hfz14_10
            try clear hfz14_2
            try clear hfz14_3
            try clear hfz14_4
            try clear hfz14_5
            try clear hfz14_6
            try clear hfz14_7
            try clear hfz14_8
            try clear hfz14_9
            try clear hfz17_0
            try clear hfz17_1
            try clear hfz17_2
            try clear hfz21_0
            try clear hfz21_1
            try clear hfz21_2
            try clear hfz23_0
            try clear hfz23_1
            try clear hfz23_2
            try clear hfz25_0
            try clear hfz25_1
            try clear hfz25_2
            try clear hfz29_0
            try clear hfz29_1
            try clear hfz29_10
            try clear hfz29_2
            try clear hfz29_3
            try clear hfz29_4
            try clear hfz29_5
            try clear hfz29_6
            try clear hfz29_7
            try clear hfz29_8
            try clear hfz29_9
            try clear hfz31_0
            try clear hfz31_1
            try clear hfz31_10
            try clear hfz31_2
            try clear hfz31_3
            try clear hfz31_4
            try clear hfz31_5
            try clear hfz31_6
            try clear hfz31_7
            try clear hfz31_8
            try clear hfz31_9
            try clear hfz38_0
            try clear hfz38_1
            try clear hfz38_10
            try clear hfz38_2
            try clear hfz38_3
            try clear hfz38_4
            try clear hfz38_5
            try clear hfz38_6
            try clear hfz38_7
            try clear hfz38_8
            try clear hfz38_9
            try clear hfz40_0
            try clear hfz40_1
            try clear hfz40_10
            try clear hfz40_2
            try clear hfz40_3
            try clear hfz40_4
            try clear hfz40_5
            try clear hfz40_6
            try clear hfz40_7
            try clear hfz40_8
            try clear hfz40_9
            try clear hfz42_0
            try clear hfz42_1
            try clear hfz42_10
            try clear hfz42_2
            try clear hfz42_3
            try clear hfz42_4
            try clear hfz42_5
            try clear hfz42_6
            try clear hfz42_7
            try clear hfz42_8
            try clear hfz42_9
            try clear hfz44_0
            try clear hfz44_1
            try clear hfz44_10
            try clear hfz44_2
            try clear hfz44_3
            try clear hfz44_4
            try clear hfz44_5
            try clear hfz44_6
            try clear hfz44_7
            try clear hfz44_8
            try clear hfz44_9
            try clear hfz47_0
            try clear hfz47_1
            try clear hfz47_10
            try clear hfz47_2
            try clear hfz47_3
            try clear hfz47_4
            try clear hfz47_5
            try clear hfz47_6
            try clear hfz47_7
            try clear hfz47_8
            try clear hfz47_9
            try clear hfz49_0
            try clear hfz49_1
            try clear hfz49_10
            try clear hfz49_2
            try clear hfz49_3
            try clear hfz49_4
            try clear hfz49_5
            try clear hfz49_6
            try clear hfz49_7
            try clear hfz49_8
            try clear hfz49_9
            try clear hfz54_0
            try clear hfz54_1
            try clear hfz54_10
            try clear hfz54_2
            try clear hfz54_3
            try clear hfz54_4
            try clear hfz54_5
            try clear hfz54_6
            try clear hfz54_7
            try clear hfz54_8
            try clear hfz54_9
            try clear hfz56_0
            try clear hfz56_1
            try clear hfz56_10
            try clear hfz56_2
            try clear hfz56_3
            try clear hfz56_4
            try clear hfz56_5
            try clear hfz56_6
            try clear hfz56_7
            try clear hfz56_8
            try clear hfz56_9
            try clear hfz62_0
            try clear hfz62_1
            try clear hfz62_2
            try clear hfz64_0
            try clear hfz64_1
            try clear hfz64_2
            try clear hfz66_0
            try clear hfz66_1
            try clear hfz66_2
            try clear hfz6_0
            try clear hfz6_1
            try clear hfz6_10
            try clear hfz6_2
            try clear hfz6_3
            try clear hfz6_4
            try clear hfz6_5
            try clear hfz6_6
            try clear hfz6_7
            try clear hfz6_8
            try clear hfz6_9
            try clear hfz9_0
            try clear hfz9_1
            try clear hfz9_10
            try clear hfz9_2
            try clear hfz9_3
            try clear hfz9_4
            try clear hfz9_5
            try clear hfz9_6
            try clear hfz9_7
            try clear hfz9_8
            try clear hfz9_9
            try clear p2
            obtain ⟨kq, x6_51, rfl, HA, HJ51, BK206, BK210, HB⟩ := hcut
            cases kq with
            | zero => exact absurd HA.out (by simp [eddyref4_fitSegment.j4])
            | succ kj51 =>
             have H := HA.out
             clear HA
             simp only [eddyref4_fitSegment.j4] at H
             by_cases c68 : x6_51 = 0
             ·rw [if_pos c68] at H
              have c68b0 : (x6_51 == 0) = true := beq_iff_eq.mpr c68
              have c68b1 : (x6_51 != 0) = false := bne_eq_false_iff_eq.mpr c68
              clear c68
              by_cases c69 : (l0_9.length : Int) > 4
              ·rw [if_pos c69] at H
               have c69b0 : decide (4 < (l0_9.length : Int)) = true := decide_eq_true c69
               have c69b1 : decide (4 < l0_9.length) = true := decide_eq_true (by omega)
               clear c69
               obtain rfl := Option.some.inj H
               have hnb70 := NB206_210.out
               have hnc70 := NB210_206.out
               have hcz71_0 : wc.cell? ⟨gb206, 0, none⟩ = some (.int .i64 a0_0) := (blk_cell BK206.out 0).trans rfl
               have hcz71_1 : wc.cell? ⟨gb206, 1, none⟩ = some (.int .i64 a0_1) := (blk_cell BK206.out 1).trans rfl
               have hcz71_2 : wc.cell? ⟨gb206, 2, none⟩ = some (.int .i64 a0_2) := (blk_cell BK206.out 2).trans rfl
               have hcz71_3 : wc.cell? ⟨gb206, 3, none⟩ = some (.int .u32 a0_3) := (blk_cell BK206.out 3).trans rfl
               have hcz71_4 : wc.cell? ⟨gb206, 4, none⟩ = some (.int .i64 a0_4) := (blk_cell BK206.out 4).trans rfl
               have hcz71_5 : wc.cell? ⟨gb206, 5, none⟩ = some (.slice A0_5 l0_5.length c0_5) := (blk_cell BK206.out 5).trans rfl
               have hcz71_6 : wc.cell? ⟨gb206, 6, none⟩ = some (.int .i64 a0_6) := (blk_cell BK206.out 6).trans rfl
               have hcz71_7 : wc.cell? ⟨gb206, 7, none⟩ = some (.slice A0_7 l0_7.length c0_7) := (blk_cell BK206.out 7).trans rfl
               have hcz71_8 : wc.cell? ⟨gb206, 8, none⟩ = some (.slice A0_8 l0_8.length c0_8) := (blk_cell BK206.out 8).trans rfl
               have hcz71_9 : wc.cell? ⟨gb206, 9, none⟩ = some (.slice A0_9 l0_9.length c0_9) := (blk_cell BK206.out 9).trans rfl
               have hcz71_10 : wc.cell? ⟨gb206, 10, none⟩ = some (.slice A0_10 l0_10.length c0_10) := (blk_cell BK206.out 10).trans rfl
               have hfz71_0 := blk_frozen BK206.out 0
               have hfz71_1 := blk_frozen BK206.out 1
               have hfz71_2 := blk_frozen BK206.out 2
               have hfz71_3 := blk_frozen BK206.out 3
               have hfz71_4 := blk_frozen BK206.out 4
               have hfz71_5 := blk_frozen BK206.out 5
               have hfz71_6 := blk_frozen BK206.out 6
               have hfz71_7 := blk_frozen BK206.out 7
               have hfz71_8 := blk_frozen BK206.out 8
               have hfz71_9 := blk_frozen BK206.out 9
               have hfz71_10 := blk_frozen BK206.out 10
               go_wp2
               go_ret
               exact ⟨by first | rfl | (simp [errW_none, errW_some] <;> rfl) | (simp [*, errW_none, errW_some] <;> rfl), by repeat (first | (with_reducible first | exact HB.out | apply below_alloc | apply pw_below_drewN | apply below_drew1 | refine below_set ?_ GE206.out | refine below_set ?_ GE210.out) | exact HB.out)⟩
              ·rw [if_neg c69] at H
               have c69b0 : decide (4 < (l0_9.length : Int)) = false := decide_eq_false c69
               have c69b1 : decide (4 < l0_9.length) = false := decide_eq_false (by omega)
               clear c69
               have H' := Aside0.mk H
               clear H
               have hnb72 := NB206_210.out
               have hnc72 := NB210_206.out
               have hcz73_0 : wc.cell? ⟨gb206, 0, none⟩ = some (.int .i64 a0_0) := (blk_cell BK206.out 0).trans rfl
               have hcz73_1 : wc.cell? ⟨gb206, 1, none⟩ = some (.int .i64 a0_1) := (blk_cell BK206.out 1).trans rfl
               have hcz73_2 : wc.cell? ⟨gb206, 2, none⟩ = some (.int .i64 a0_2) := (blk_cell BK206.out 2).trans rfl
               have hcz73_3 : wc.cell? ⟨gb206, 3, none⟩ = some (.int .u32 a0_3) := (blk_cell BK206.out 3).trans rfl
               have hcz73_4 : wc.cell? ⟨gb206, 4, none⟩ = some (.int .i64 a0_4) := (blk_cell BK206.out 4).trans rfl
               have hcz73_5 : wc.cell? ⟨gb206, 5, none⟩ = some (.slice A0_5 l0_5.length c0_5) := (blk_cell BK206.out 5).trans rfl
               have hcz73_6 : wc.cell? ⟨gb206, 6, none⟩ = some (.int .i64 a0_6) := (blk_cell BK206.out 6).trans rfl
               have hcz73_7 : wc.cell? ⟨gb206, 7, none⟩ = some (.slice A0_7 l0_7.length c0_7) := (blk_cell BK206.out 7).trans rfl
               have hcz73_8 : wc.cell? ⟨gb206, 8, none⟩ = some (.slice A0_8 l0_8.length c0_8) := (blk_cell BK206.out 8).trans rfl
               have hcz73_9 : wc.cell? ⟨gb206, 9, none⟩ = some (.slice A0_9 l0_9.length c0_9) := (blk_cell BK206.out 9).trans rfl
               have hcz73_10 : wc.cell? ⟨gb206, 10, none⟩ = some (.slice A0_10 l0_10.length c0_10) := (blk_cell BK206.out 10).trans rfl
               have hfz73_0 := blk_frozen BK206.out 0
               have hfz73_1 := blk_frozen BK206.out 1
               have hfz73_2 := blk_frozen BK206.out 2
               have hfz73_3 := blk_frozen BK206.out 3
               have hfz73_4 := blk_frozen BK206.out 4
               have hfz73_5 := blk_frozen BK206.out 5
               have hfz73_6 := blk_frozen BK206.out 6
               have hfz73_7 := blk_frozen BK206.out 7
               have hfz73_8 := blk_frozen BK206.out 8
               have hfz73_9 := blk_frozen BK206.out 9
               have hfz73_10 := blk_frozen BK206.out 10
               go_wp2
               go_loopg [7] kj51 (fun kq v7 w' => ∃ (x7_6 : Int), v7 = .int .i64 x7_6 ∧ Aside0 (eddyref4_fitSegment.l0 kq x7_6 a0_0 a0_1 a0_2 a0_3 a0_4 l0_5 a0_6 l0_7 l0_8 l0_9 l0_10 = some r) ∧ Aside0 (kq ≤ kj51) ∧ Aside0 (w'.heap[gb206]? = some (.cells #[.int .i64 a0_0, .int .i64 a0_1, .int .i64 a0_2, .int .u32 a0_3, .int .i64 a0_4, (.slice A0_5 l0_5.length c0_5), .int .i64 a0_6, (.slice A0_7 l0_7.length c0_7), (.slice A0_8 l0_8.length c0_8), (.slice A0_9 l0_9.length c0_9), (.slice A0_10 l0_10.length c0_10)] 39 (0, 0))) ∧ Aside0 (w'.heap[gb210]? = some (.cells #[.int .i64 a0_6, (.slice A0_7 l0_7.length c0_7), (.slice A0_8 l0_8.length c0_8)] 35 (0, 0))) ∧ Aside0 (Below w.heap.size w w'))
               case atStart => exact ⟨(0), (by first | rfl | (simp; done) | (simp [*]; done)), H', ⟨Nat.le_refl _⟩, ⟨by (with_reducible repeat (first | refine blk_drewN ?_ _ | refine blk_drew ?_ | refine blk_alloc ?_ _)); exact BK206.out⟩, ⟨by (with_reducible repeat (first | refine blk_drewN ?_ _ | refine blk_drew ?_ | refine blk_alloc ?_ _)); exact BK210.out⟩, ⟨by repeat (first | (with_reducible first | exact HB.out | apply below_alloc | apply pw_below_drewN | apply below_drew1 | refine below_set ?_ GE206.out | refine below_set ?_ GE210.out) | exact HB.out)⟩⟩
               case round =>
                clear H'
                try clear c1
                try clear c2
                try clear p2
                try clear c3
                try clear c4
                try clear c5
                try clear c6
                try clear c7
                try clear c8
                try clear c11
                try clear c12
                try clear c16
                try clear c18
                try clear c18b0
                try clear c18b1
                try clear c19
                try clear c19b0
                try clear c19b1
                try clear c19b2
                try clear c20
                try clear c22
                try clear c24
                try clear c27
                try clear c27b0
                try clear c27b1
                try clear c28
                try clear c30
                try clear c33
                try clear c33b0
                try clear c33b1
                try clear c34
                try clear c35
                try clear c35b0
                try clear c35b1
                try clear c36
                try clear c36b0
                try clear c37
                try clear c39
                try clear c41
                try clear c43
                try clear c45
                try clear c45b0
                try clear c46
                try clear c48
                try clear c50
                try clear c53
                try clear c57
                try clear c57b0
                try clear c59
                try clear c59b0
                try clear c59b1
                try clear c61
                try clear c65
                try clear c68
                try clear c68b0
                try clear c68b1
                try clear c69
                try clear c69b0
                try clear c69b1
                try clear c70
                try clear c72
                try clear hcz11_0
                try clear hcz11_1
                try clear hcz11_10
                try clear hcz11_2
                try clear hcz11_3
                try clear hcz11_4
                try clear hcz11_5
                try clear hcz11_6
                try clear hcz11_7
                try clear hcz11_8
                try clear hcz11_9
                try clear hcz14_0
                try clear hcz14_1
                try clear hcz14_10
                try clear hcz14_2
                try clear hcz14_3
                try clear hcz14_4
                try clear hcz14_5
                try clear hcz14_6
                try clear hcz14_7
                try clear hcz14_8
                try clear hcz14_9
                try clear hcz17_0
                try clear hcz17_1
                try clear hcz17_2
                try clear hcz21_0
                try clear hcz21_1
                try clear hcz21_2
                try clear hcz23_0
                try clear hcz23_1
                try clear hcz23_2
                try clear hcz25_0
                try clear hcz25_1
                try clear hcz25_2
                try clear hcz29_0
                try clear hcz29_1
                try clear hcz29_10
                try clear hcz29_2
                try clear hcz29_3
                try clear hcz29_4
                try clear hcz29_5
                try clear hcz29_6
                try clear hcz29_7
                try clear hcz29_8
                try clear hcz29_9
                try clear hcz31_0
                try clear hcz31_1
                try clear hcz31_10
                try clear hcz31_2
                try clear hcz31_3
                try clear hcz31_4
                try clear hcz31_5
                try clear hcz31_6
                try clear hcz31_7
                try clear hcz31_8
                try clear hcz31_9
                try clear hcz38_0
                try clear hcz38_1
                try clear hcz38_10
                try clear hcz38_2
                try clear hcz38_3
                try clear hcz38_4
                try clear hcz38_5
                try clear hcz38_6
                try clear hcz38_7
                try clear hcz38_8
                try clear hcz38_9
                try clear hcz40_0
                try clear hcz40_1
                try clear hcz40_10
                try clear hcz40_2
                try clear hcz40_3
                try clear hcz40_4
                try clear hcz40_5
                try clear hcz40_6
                try clear hcz40_7
                try clear hcz40_8
                try clear hcz40_9
                try clear hcz42_0
                try clear hcz42_1
                try clear hcz42_10
                try clear hcz42_2
                try clear hcz42_3
                try clear hcz42_4
                try clear hcz42_5
                try clear hcz42_6
                try clear hcz42_7
                try clear hcz42_8
                try clear hcz42_9
                try clear hcz44_0
                try clear hcz44_1
                try clear hcz44_10
                try clear hcz44_2
                try clear hcz44_3
                try clear hcz44_4
                try clear hcz44_5
                try clear hcz44_6
                try clear hcz44_7
                try clear hcz44_8
                try clear hcz44_9
                try clear hcz47_0
                try clear hcz47_1
                try clear hcz47_10
                try clear hcz47_2
                try clear hcz47_3
                try clear hcz47_4
                try clear hcz47_5
                try clear hcz47_6
                try clear hcz47_7
                try clear hcz47_8
                try clear hcz47_9
                try clear hcz49_0
                try clear hcz49_1
                try clear hcz49_10
                try clear hcz49_2
                try clear hcz49_3
                try clear hcz49_4
                try clear hcz49_5
                try clear hcz49_6
                try clear hcz49_7
                try clear hcz49_8
                try clear hcz49_9
                try clear hcz54_0
                try clear hcz54_1
                try clear hcz54_10
                try clear hcz54_2
                try clear hcz54_3
                try clear hcz54_4
                try clear hcz54_5
                try clear hcz54_6
                try clear hcz54_7
                try clear hcz54_8
                try clear hcz54_9
                try clear hcz56_0
                try clear hcz56_1
                try clear hcz56_10
                try clear hcz56_2
                try clear hcz56_3
                try clear hcz56_4
                try clear hcz56_5
                try clear hcz56_6
                try clear hcz56_7
                try clear hcz56_8
                try clear hcz56_9
                try clear hcz62_0
                try clear hcz62_1
                try clear hcz62_2
                try clear hcz64_0
                try clear hcz64_1
                try clear hcz64_2
                try clear hcz66_0
                try clear hcz66_1
                try clear hcz66_2
                try clear hcz6_0
                try clear hcz6_1
                try clear hcz6_10
                try clear hcz6_2
                try clear hcz6_3
                try clear hcz6_4
                try clear hcz6_5
                try clear hcz6_6
                try clear hcz6_7
                try clear hcz6_8
                try clear hcz6_9
                try clear hcz71_0
                try clear hcz71_1
                try clear hcz71_10
                try clear hcz71_2
                try clear hcz71_3
                try clear hcz71_4
                try clear hcz71_5
                try clear hcz71_6
                try clear hcz71_7
                try clear hcz71_8
                try clear hcz71_9
                try clear hcz73_0
                try clear hcz73_1
                try clear hcz73_10
                try clear hcz73_2
                try clear hcz73_3
                try clear hcz73_4
                try clear hcz73_5
                try clear hcz73_6
                try clear hcz73_7
                try clear hcz73_8
                try clear hcz73_9
                try clear hcz9_0
                try clear hcz9_1
                try clear hcz9_10
                try clear hcz9_2
                try clear hcz9_3
                try clear hcz9_4
                try clear hcz9_5
                try clear hcz9_6
                try clear hcz9_7
                try clear hcz9_8
                try clear hcz9_9
                try clear hfz11_0
                try clear hfz11_1
                try clear hfz11_10
                try clear hfz11_2
                try clear hfz11_3
                try clear hfz11_4
                try clear hfz11_5
                try clear hfz11_6
                try clear hfz11_7
                try clear hfz11_8
                try clear hfz11_9
                try clear hfz14_0
                try clear hfz14_1
                try clear hfz14_10
                try clear hfz14_2
                try clear hfz14_3
                try clear hfz14_4
                try clear hfz14_5
                try clear hfz14_6
                try clear hfz14_7
                try clear hfz14_8
                try clear hfz14_9
                try clear hfz17_0
                try clear hfz17_1
                try clear hfz17_2
                try clear hfz21_0
                try clear hfz21_1
                try clear hfz21_2
                try clear hfz23_0
                try clear hfz23_1
                try clear hfz23_2
                try clear hfz25_0
                try clear hfz25_1
                try clear hfz25_2
                try clear hfz29_0
                try clear hfz29_1
                try clear hfz29_10
                try clear hfz29_2
                try clear hfz29_3
                try clear hfz29_4
                try clear hfz29_5
                try clear hfz29_6
                try clear hfz29_7
                try clear hfz29_8
                try clear hfz29_9
                try clear hfz31_0
                try clear hfz31_1
                try clear hfz31_10
                try clear hfz31_2
                try clear hfz31_3
                try clear hfz31_4
                try clear hfz31_5
                try clear hfz31_6
                try clear hfz31_7
                try clear hfz31_8
                try clear hfz31_9
                try clear hfz38_0
                try clear hfz38_1
                try clear hfz38_10
                try clear hfz38_2
                try clear hfz38_3
                try clear hfz38_4
                try clear hfz38_5
                try clear hfz38_6
                try clear hfz38_7
                try clear hfz38_8
                try clear hfz38_9
                try clear hfz40_0
                try clear hfz40_1
                try clear hfz40_10
                try clear hfz40_2
                try clear hfz40_3
                try clear hfz40_4
                try clear hfz40_5
                try clear hfz40_6
                try clear hfz40_7
                try clear hfz40_8
                try clear hfz40_9
                try clear hfz42_0
                try clear hfz42_1
                try clear hfz42_10
                try clear hfz42_2
                try clear hfz42_3
                try clear hfz42_4
                try clear hfz42_5
                try clear hfz42_6
                try clear hfz42_7
                try clear hfz42_8
                try clear hfz42_9
                try clear hfz44_0
                try clear hfz44_1
                try clear hfz44_10
                try clear hfz44_2
                try clear hfz44_3
                try clear hfz44_4
                try clear hfz44_5
                try clear hfz44_6
                try clear hfz44_7
                try clear hfz44_8
                try clear hfz44_9
                try clear hfz47_0
                try clear hfz47_1
                try clear hfz47_10
                try clear hfz47_2
                try clear hfz47_3
                try clear hfz47_4
                try clear hfz47_5
                try clear hfz47_6
                try clear hfz47_7
                try clear hfz47_8
                try clear hfz47_9
                try clear hfz49_0
                try clear hfz49_1
                try clear hfz49_10
                try clear hfz49_2
                try clear hfz49_3
                try clear hfz49_4
                try clear hfz49_5
                try clear hfz49_6
                try clear hfz49_7
                try clear hfz49_8
                try clear hfz49_9
                try clear hfz54_0
                try clear hfz54_1
                try clear hfz54_10
                try clear hfz54_2
                try clear hfz54_3
                try clear hfz54_4
                try clear hfz54_5
                try clear hfz54_6
                try clear hfz54_7
                try clear hfz54_8
                try clear hfz54_9
                try clear hfz56_0
                try clear hfz56_1
                try clear hfz56_10
                try clear hfz56_2
                try clear hfz56_3
                try clear hfz56_4
                try clear hfz56_5
                try clear hfz56_6
                try clear hfz56_7
                try clear hfz56_8
                try clear hfz56_9
                try clear hfz62_0
                try clear hfz62_1
                try clear hfz62_2
                try clear hfz64_0
                try clear hfz64_1
                try clear hfz64_2
                try clear hfz66_0
                try clear hfz66_1
                try clear hfz66_2
                try clear hfz6_0
                try clear hfz6_1
                try clear hfz6_10
                try clear hfz6_2
                try clear hfz6_3
                try clear hfz6_4
                try clear hfz6_5
                try clear hfz6_6
                try clear hfz6_7
                try clear hfz6_8
                try clear hfz6_9
                try clear hfz71_0
                try clear hfz71_1
                try clear hfz71_10
                try clear hfz71_2
                try clear hfz71_3
                try clear hfz71_4
                try clear hfz71_5
                try clear hfz71_6
                try clear hfz71_7
                try clear hfz71_8
                try clear hfz71_9
                try clear hfz73_0
                try clear hfz73_1
                try clear hfz73_10
                try clear hfz73_2
                try clear hfz73_3
                try clear hfz73_4
                try clear hfz73_5
                try clear hfz73_6
                try clear hfz73_7
                try clear hfz73_8
                try clear hfz73_9
                try clear hfz9_0
                try clear hfz9_1
                try clear hfz9_10
                try clear hfz9_2
                try clear hfz9_3
                try clear hfz9_4
                try clear hfz9_5
                try clear hfz9_6
                try clear hfz9_7
                try clear hfz9_8
                try clear hfz9_9
                try clear p2
                obtain ⟨x7_6, rfl, HA, HK6, BK206, BK210, HB⟩ := hrel
                cases gk with
                | zero => exact absurd HA.out (by simp [eddyref4_fitSegment.l0])
                | succ k6 =>
                 have H := HA.out
                 clear HA
                 simp only [eddyref4_fitSegment.l0] at H
                 by_cases c74 : x7_6 < (l0_9.length : Int)
                 ·rw [if_pos c74] at H
                  have c74b0 : decide (x7_6 < (l0_9.length : Int)) = true := decide_eq_true c74
                  clear c74
                  by_cases c75 : 0 ≤ x7_6
                  ·rw [if_pos c75] at H
                   have c75b0 : decide (0 ≤ x7_6) = true := decide_eq_true c75
                   clear c75
                   replace H := Option.bind_eq_some_iff.mp H
                   obtain ⟨t215, A760, H⟩ := H
                   replace H : (if t215 = 0 then (eddyref4_fitSegment.l0 k6 (wrap64 (x7_6 + 1)) a0_0 a0_1 a0_2 a0_3 a0_4 l0_5 a0_6 l0_7 l0_8 l0_9 l0_10) else (some t215)) = some r := H
                   have A76 := Aside0.mk A760
                   clear A760
                   by_cases c77 : t215 = 0
                   ·rw [if_pos c77] at H
                    have c77b0 : (t215 == 0) = true := beq_iff_eq.mpr c77
                    have c77b1 : (t215 != 0) = false := bne_eq_false_iff_eq.mpr c77
                    clear c77
                    have H' := Aside0.mk H
                    clear H
                    have hnb78 := NB206_210.out
                    have hnc78 := NB210_206.out
                    have hcz79_0 : wr.cell? ⟨gb206, 0, none⟩ = some (.int .i64 a0_0) := (blk_cell BK206.out 0).trans rfl
                    have hcz79_1 : wr.cell? ⟨gb206, 1, none⟩ = some (.int .i64 a0_1) := (blk_cell BK206.out 1).trans rfl
                    have hcz79_2 : wr.cell? ⟨gb206, 2, none⟩ = some (.int .i64 a0_2) := (blk_cell BK206.out 2).trans rfl
                    have hcz79_3 : wr.cell? ⟨gb206, 3, none⟩ = some (.int .u32 a0_3) := (blk_cell BK206.out 3).trans rfl
                    have hcz79_4 : wr.cell? ⟨gb206, 4, none⟩ = some (.int .i64 a0_4) := (blk_cell BK206.out 4).trans rfl
                    have hcz79_5 : wr.cell? ⟨gb206, 5, none⟩ = some (.slice A0_5 l0_5.length c0_5) := (blk_cell BK206.out 5).trans rfl
                    have hcz79_6 : wr.cell? ⟨gb206, 6, none⟩ = some (.int .i64 a0_6) := (blk_cell BK206.out 6).trans rfl
                    have hcz79_7 : wr.cell? ⟨gb206, 7, none⟩ = some (.slice A0_7 l0_7.length c0_7) := (blk_cell BK206.out 7).trans rfl
                    have hcz79_8 : wr.cell? ⟨gb206, 8, none⟩ = some (.slice A0_8 l0_8.length c0_8) := (blk_cell BK206.out 8).trans rfl
                    have hcz79_9 : wr.cell? ⟨gb206, 9, none⟩ = some (.slice A0_9 l0_9.length c0_9) := (blk_cell BK206.out 9).trans rfl
                    have hcz79_10 : wr.cell? ⟨gb206, 10, none⟩ = some (.slice A0_10 l0_10.length c0_10) := (blk_cell BK206.out 10).trans rfl
                    have hfz79_0 := blk_frozen BK206.out 0
                    have hfz79_1 := blk_frozen BK206.out 1
                    have hfz79_2 := blk_frozen BK206.out 2
                    have hfz79_3 := blk_frozen BK206.out 3
                    have hfz79_4 := blk_frozen BK206.out 4
                    have hfz79_5 := blk_frozen BK206.out 5
                    have hfz79_6 := blk_frozen BK206.out 6
                    have hfz79_7 := blk_frozen BK206.out 7
                    have hfz79_8 := blk_frozen BK206.out 8
                    have hfz79_9 := blk_frozen BK206.out 9
                    have hfz79_10 := blk_frozen BK206.out 10
                    have p214 : 0 ≤ (x7_6 : Int) := of_decide_eq_true (by first | (with_reducible assumption) | assumption)
                    have q214 : x7_6 < (l0_9.length : Int) := of_decide_eq_true (by first | (with_reducible assumption) | assumption)
                    obtain ⟨ad214, A214_0, c214_0, e214, hx214_0, hl214_0, hi214_0⟩ := at_L7 HR0_9.out x7_6 p214 q214
                    cases e214
                    replace hx214_0 := (HB.out.cell (World.block_lt_of_cell? w _ hx214_0)).trans hx214_0
                    have HR214_0 := Aside0.mk hi214_0
                    have HC214_0 := Aside0.mk hl214_0
                    clear hi214_0 hl214_0
                    replace p214 := eq_true p214
                    replace q214 := eq_true q214
                    go_wp2_with (first | ((with_reducible refine gate_callee (f := 114) rfl ?_); refine goesL_ (some 106) rfl rfl Try.func114 (by kernel_rfl) rfl #[.slice A214_0 (rd_L7 l0_9 x7_6).length c214_0] rfl (by (try simp only [List.map_toArray, List.map_cons, List.map_nil]); first | done | rfl | (simp only [List.length_drop, List.length_take]; rfl)) ?_; (with_reducible refine (eddyref4_fitRecords.calls k6 _ _ (rd_L7 l0_9 x7_6) t215 _ ?side1 ?side2 A76.out).mono ?_); (case side1 => repeat (first | exact (Kd.C_below HR214_0.out HB.out) | (with_reducible refine Kd.C_alloc ?_ _) | (with_reducible refine Kd.C_drewN ?_ _) | (with_reducible refine Kd.C_drew ?_))); (case side2 => exact HC214_0.out); rintro e w80 ⟨rfl, hb⟩; refine ⟨_, rfl, ?_⟩; have n0_ := Aside0.mk (blk_below (g := gb206) (o := .cells #[.int .i64 a0_0, .int .i64 a0_1, .int .i64 a0_2, .int .u32 a0_3, .int .i64 a0_4, .slice A0_5 l0_5.length c0_5, .int .i64 a0_6, .slice A0_7 l0_7.length c0_7, .slice A0_8 l0_8.length c0_8, .slice (some ad214) l0_9.length c0_9, .slice A0_10 l0_10.length c0_10] 39 (0, 0)) (by (with_reducible repeat (first | refine blk_drewN ?_ _ | refine blk_drew ?_ | refine blk_alloc ?_ _)); exact BK206.out) hb); have n1_ := Aside0.mk (blk_below (g := gb210) (o := .cells #[.int .i64 a0_6, .slice A0_7 l0_7.length c0_7, .slice A0_8 l0_8.length c0_8] 35 (0, 0)) (by (with_reducible repeat (first | refine blk_drewN ?_ _ | refine blk_drew ?_ | refine blk_alloc ?_ _)); exact BK210.out) hb); have n2_ := Aside0.mk (below_step (by repeat (first | (with_reducible first | exact HB.out | apply below_alloc | apply pw_below_drewN | apply below_drew1 | refine below_set ?_ GE206.out | refine below_set ?_ GE210.out) | exact HB.out)) hb); clear BK206; clear BK210; clear HB; have BK206 := n0_; have BK210 := n1_; have HB := n2_; clear n0_ n1_ n2_; (try clear hb); (try clear hb2); (try clear hk); (try clear hi)))
                    go_roundg k6
                    case measure => have := HJ1.out; have := HJ12.out; have := HJ25.out; have := HJ31.out; have := HJ51.out; have := HK6.out; omega
                    case rel => exact ⟨(wrap64 (x7_6 + 1)), (by first | rfl | (simp; done) | (simp [*]; done)), H', ⟨by have := HJ1.out; have := HJ12.out; have := HJ25.out; have := HJ31.out; have := HJ51.out; have := HK6.out; omega⟩, ⟨by (with_reducible repeat (first | refine blk_drewN ?_ _ | refine blk_drew ?_ | refine blk_alloc ?_ _)); exact BK206.out⟩, ⟨by (with_reducible repeat (first | refine blk_drewN ?_ _ | refine blk_drew ?_ | refine blk_alloc ?_ _)); exact BK210.out⟩, ⟨by repeat (first | (with_reducible first | exact HB.out | apply below_alloc | apply pw_below_drewN | apply below_drew1 | refine below_set ?_ GE206.out | refine below_set ?_ GE210.out) | exact HB.out)⟩⟩
                   ·rw [if_neg c77] at H
                    have c77b0 : (t215 == 0) = false := beq_eq_false_iff_ne.mpr c77
                    have c77b1 : (t215 != 0) = true := bne_iff_ne.mpr c77
                    obtain rfl := Option.some.inj H
                    have hnb81 := NB206_210.out
                    have hnc81 := NB210_206.out
                    have hcz82_0 : wr.cell? ⟨gb206, 0, none⟩ = some (.int .i64 a0_0) := (blk_cell BK206.out 0).trans rfl
                    have hcz82_1 : wr.cell? ⟨gb206, 1, none⟩ = some (.int .i64 a0_1) := (blk_cell BK206.out 1).trans rfl
                    have hcz82_2 : wr.cell? ⟨gb206, 2, none⟩ = some (.int .i64 a0_2) := (blk_cell BK206.out 2).trans rfl
                    have hcz82_3 : wr.cell? ⟨gb206, 3, none⟩ = some (.int .u32 a0_3) := (blk_cell BK206.out 3).trans rfl
                    have hcz82_4 : wr.cell? ⟨gb206, 4, none⟩ = some (.int .i64 a0_4) := (blk_cell BK206.out 4).trans rfl
                    have hcz82_5 : wr.cell? ⟨gb206, 5, none⟩ = some (.slice A0_5 l0_5.length c0_5) := (blk_cell BK206.out 5).trans rfl
                    have hcz82_6 : wr.cell? ⟨gb206, 6, none⟩ = some (.int .i64 a0_6) := (blk_cell BK206.out 6).trans rfl
                    have hcz82_7 : wr.cell? ⟨gb206, 7, none⟩ = some (.slice A0_7 l0_7.length c0_7) := (blk_cell BK206.out 7).trans rfl
                    have hcz82_8 : wr.cell? ⟨gb206, 8, none⟩ = some (.slice A0_8 l0_8.length c0_8) := (blk_cell BK206.out 8).trans rfl
                    have hcz82_9 : wr.cell? ⟨gb206, 9, none⟩ = some (.slice A0_9 l0_9.length c0_9) := (blk_cell BK206.out 9).trans rfl
                    have hcz82_10 : wr.cell? ⟨gb206, 10, none⟩ = some (.slice A0_10 l0_10.length c0_10) := (blk_cell BK206.out 10).trans rfl
                    have hfz82_0 := blk_frozen BK206.out 0
                    have hfz82_1 := blk_frozen BK206.out 1
                    have hfz82_2 := blk_frozen BK206.out 2
                    have hfz82_3 := blk_frozen BK206.out 3
                    have hfz82_4 := blk_frozen BK206.out 4
                    have hfz82_5 := blk_frozen BK206.out 5
                    have hfz82_6 := blk_frozen BK206.out 6
                    have hfz82_7 := blk_frozen BK206.out 7
                    have hfz82_8 := blk_frozen BK206.out 8
                    have hfz82_9 := blk_frozen BK206.out 9
                    have hfz82_10 := blk_frozen BK206.out 10
                    have p214 : 0 ≤ (x7_6 : Int) := of_decide_eq_true (by first | (with_reducible assumption) | assumption)
                    have q214 : x7_6 < (l0_9.length : Int) := of_decide_eq_true (by first | (with_reducible assumption) | assumption)
                    obtain ⟨ad214, A214_0, c214_0, e214, hx214_0, hl214_0, hi214_0⟩ := at_L7 HR0_9.out x7_6 p214 q214
                    cases e214
                    replace hx214_0 := (HB.out.cell (World.block_lt_of_cell? w _ hx214_0)).trans hx214_0
                    have HR214_0 := Aside0.mk hi214_0
                    have HC214_0 := Aside0.mk hl214_0
                    clear hi214_0 hl214_0
                    replace p214 := eq_true p214
                    replace q214 := eq_true q214
                    go_wp2_with (first | ((with_reducible refine gate_callee (f := 114) rfl ?_); refine goesL_ (some 106) rfl rfl Try.func114 (by kernel_rfl) rfl #[.slice A214_0 (rd_L7 l0_9 x7_6).length c214_0] rfl (by (try simp only [List.map_toArray, List.map_cons, List.map_nil]); first | done | rfl | (simp only [List.length_drop, List.length_take]; rfl)) ?_; (with_reducible refine (eddyref4_fitRecords.calls k6 _ _ (rd_L7 l0_9 x7_6) t215 _ ?side1 ?side2 A76.out).mono ?_); (case side1 => repeat (first | exact (Kd.C_below HR214_0.out HB.out) | (with_reducible refine Kd.C_alloc ?_ _) | (with_reducible refine Kd.C_drewN ?_ _) | (with_reducible refine Kd.C_drew ?_))); (case side2 => exact HC214_0.out); rintro e w83 ⟨rfl, hb⟩; refine ⟨_, rfl, ?_⟩; have n0_ := Aside0.mk (blk_below (g := gb206) (o := .cells #[.int .i64 a0_0, .int .i64 a0_1, .int .i64 a0_2, .int .u32 a0_3, .int .i64 a0_4, .slice A0_5 l0_5.length c0_5, .int .i64 a0_6, .slice A0_7 l0_7.length c0_7, .slice A0_8 l0_8.length c0_8, .slice (some ad214) l0_9.length c0_9, .slice A0_10 l0_10.length c0_10] 39 (0, 0)) (by (with_reducible repeat (first | refine blk_drewN ?_ _ | refine blk_drew ?_ | refine blk_alloc ?_ _)); exact BK206.out) hb); have n1_ := Aside0.mk (blk_below (g := gb210) (o := .cells #[.int .i64 a0_6, .slice A0_7 l0_7.length c0_7, .slice A0_8 l0_8.length c0_8] 35 (0, 0)) (by (with_reducible repeat (first | refine blk_drewN ?_ _ | refine blk_drew ?_ | refine blk_alloc ?_ _)); exact BK210.out) hb); have n2_ := Aside0.mk (below_step (by repeat (first | (with_reducible first | exact HB.out | apply below_alloc | apply pw_below_drewN | apply below_drew1 | refine below_set ?_ GE206.out | refine below_set ?_ GE210.out) | exact HB.out)) hb); clear BK206; clear BK210; clear HB; have BK206 := n0_; have BK210 := n1_; have HB := n2_; clear n0_ n1_ n2_; (try clear hb); (try clear hb2); (try clear hk); (try clear hi)))
                    go_ret
                    exact ⟨by first | rfl | (simp [errW_none, errW_some] <;> rfl) | (simp [*, errW_none, errW_some] <;> rfl), by repeat (first | (with_reducible first | exact HB.out | apply below_alloc | apply pw_below_drewN | apply below_drew1 | refine below_set ?_ GE206.out | refine below_set ?_ GE210.out) | exact HB.out)⟩
                  ·rw [if_neg c75] at H
                   exact absurd H (by simp)
                 ·rw [if_neg c74] at H
                  have c74b0 : decide (x7_6 < (l0_9.length : Int)) = false := decide_eq_false c74
                  clear c74
                  replace H := Option.bind_eq_some_iff.mp H
                  obtain ⟨t216, A840, H⟩ := H
                  replace H : (some t216) = some r := H
                  have A84 := Aside0.mk A840
                  clear A840
                  obtain rfl := Option.some.inj H
                  have hnb85 := NB206_210.out
                  have hnc85 := NB210_206.out
                  have hcz86_0 : wr.cell? ⟨gb206, 0, none⟩ = some (.int .i64 a0_0) := (blk_cell BK206.out 0).trans rfl
                  have hcz86_1 : wr.cell? ⟨gb206, 1, none⟩ = some (.int .i64 a0_1) := (blk_cell BK206.out 1).trans rfl
                  have hcz86_2 : wr.cell? ⟨gb206, 2, none⟩ = some (.int .i64 a0_2) := (blk_cell BK206.out 2).trans rfl
                  have hcz86_3 : wr.cell? ⟨gb206, 3, none⟩ = some (.int .u32 a0_3) := (blk_cell BK206.out 3).trans rfl
                  have hcz86_4 : wr.cell? ⟨gb206, 4, none⟩ = some (.int .i64 a0_4) := (blk_cell BK206.out 4).trans rfl
                  have hcz86_5 : wr.cell? ⟨gb206, 5, none⟩ = some (.slice A0_5 l0_5.length c0_5) := (blk_cell BK206.out 5).trans rfl
                  have hcz86_6 : wr.cell? ⟨gb206, 6, none⟩ = some (.int .i64 a0_6) := (blk_cell BK206.out 6).trans rfl
                  have hcz86_7 : wr.cell? ⟨gb206, 7, none⟩ = some (.slice A0_7 l0_7.length c0_7) := (blk_cell BK206.out 7).trans rfl
                  have hcz86_8 : wr.cell? ⟨gb206, 8, none⟩ = some (.slice A0_8 l0_8.length c0_8) := (blk_cell BK206.out 8).trans rfl
                  have hcz86_9 : wr.cell? ⟨gb206, 9, none⟩ = some (.slice A0_9 l0_9.length c0_9) := (blk_cell BK206.out 9).trans rfl
                  have hcz86_10 : wr.cell? ⟨gb206, 10, none⟩ = some (.slice A0_10 l0_10.length c0_10) := (blk_cell BK206.out 10).trans rfl
                  have hfz86_0 := blk_frozen BK206.out 0
                  have hfz86_1 := blk_frozen BK206.out 1
                  have hfz86_2 := blk_frozen BK206.out 2
                  have hfz86_3 := blk_frozen BK206.out 3
                  have hfz86_4 := blk_frozen BK206.out 4
                  have hfz86_5 := blk_frozen BK206.out 5
                  have hfz86_6 := blk_frozen BK206.out 6
                  have hfz86_7 := blk_frozen BK206.out 7
                  have hfz86_8 := blk_frozen BK206.out 8
                  have hfz86_9 := blk_frozen BK206.out 9
                  have hfz86_10 := blk_frozen BK206.out 10
                  go_wp2_with (first | ((with_reducible refine gate_callee (f := 114) rfl ?_); refine goesL_ (some 112) rfl rfl Try.func114 (by kernel_rfl) rfl #[.slice A0_10 l0_10.length c0_10] rfl (by (try simp only [List.map_toArray, List.map_cons, List.map_nil]); first | done | rfl | (simp only [List.length_drop, List.length_take]; rfl)) ?_; (with_reducible refine (eddyref4_fitRecords.calls k6 _ _ l0_10 t216 _ ?side1 ?side2 A84.out).mono ?_); (case side1 => repeat (first | exact (Kd.C_below HR0_10.out HB.out) | (with_reducible refine Kd.C_alloc ?_ _) | (with_reducible refine Kd.C_drewN ?_ _) | (with_reducible refine Kd.C_drew ?_))); (case side2 => exact HC0_10.out); rintro e w87 ⟨rfl, hb⟩; refine ⟨_, rfl, ?_⟩; have n0_ := Aside0.mk (blk_below (g := gb206) (o := .cells #[.int .i64 a0_0, .int .i64 a0_1, .int .i64 a0_2, .int .u32 a0_3, .int .i64 a0_4, .slice A0_5 l0_5.length c0_5, .int .i64 a0_6, .slice A0_7 l0_7.length c0_7, .slice A0_8 l0_8.length c0_8, .slice A0_9 l0_9.length c0_9, .slice A0_10 l0_10.length c0_10] 39 (0, 0)) (by (with_reducible repeat (first | refine blk_drewN ?_ _ | refine blk_drew ?_ | refine blk_alloc ?_ _)); exact BK206.out) hb); have n1_ := Aside0.mk (blk_below (g := gb210) (o := .cells #[.int .i64 a0_6, .slice A0_7 l0_7.length c0_7, .slice A0_8 l0_8.length c0_8] 35 (0, 0)) (by (with_reducible repeat (first | refine blk_drewN ?_ _ | refine blk_drew ?_ | refine blk_alloc ?_ _)); exact BK210.out) hb); have n2_ := Aside0.mk (below_step (by repeat (first | (with_reducible first | exact HB.out | apply below_alloc | apply pw_below_drewN | apply below_drew1 | refine below_set ?_ GE206.out | refine below_set ?_ GE210.out) | exact HB.out)) hb); clear BK206; clear BK210; clear HB; have BK206 := n0_; have BK210 := n1_; have HB := n2_; clear n0_ n1_ n2_; (try clear hb); (try clear hb2); (try clear hk); (try clear hi)))
                  go_ret
                  exact ⟨by first | rfl | (simp [errW_none, errW_some] <;> rfl) | (simp [*, errW_none, errW_some] <;> rfl), by repeat (first | (with_reducible first | exact HB.out | apply below_alloc | apply pw_below_drewN | apply below_drew1 | refine below_set ?_ GE206.out | refine below_set ?_ GE210.out) | exact HB.out)⟩
             ·rw [if_neg c68] at H
              have c68b0 : (x6_51 == 0) = false := beq_eq_false_iff_ne.mpr c68
              have c68b1 : (x6_51 != 0) = true := bne_iff_ne.mpr c68
              obtain rfl := Option.some.inj H
              go_wp2
              go_ret
              exact ⟨by first | rfl | (simp [errW_none, errW_some] <;> rfl) | (simp [*, errW_none, errW_some] <;> rfl), by repeat (first | (with_reducible first | exact HB.out | apply below_alloc | apply pw_below_drewN | apply below_drew1 | refine below_set ?_ GE206.out | refine below_set ?_ GE210.out) | exact HB.out)⟩

end Go.Proofs.Ythmkioodkldgbaa.PD
