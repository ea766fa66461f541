/- What each Go function named in this text computes, as a Lean function, and that the Go code comes to it; conditions: those in each theorem. (Lines written by this session's program.) -/
import Derived.Test.YthmkioodkldgbaaQpM04
import Derived.Test.YthmkioodkldgbaaQpM06
import Derived.Test.YthmkioodkldgbaaQpM05
namespace Go.Proofs.Ythmkioodkldgbaa.PD
open Go.RowKit Go.Proofs.YthmkioodkldgbaaW.PrintWords Go.Proofs.YthmkioodkldgbaaW.PrintLast Go.Proofs.YthmkioodkldgbaaW.PrintMore
attribute [local go_sem] max2_int min2_int max_two min_two max_three min_three max_four min_four   -- for this text's walks alone
set_option linter.unusedVariables false
set_option linter.unusedSimpArgs false
/-! ### wire_fitDelta: function 118 -/
def wire_fitDelta.l0 : Nat → List ByteArray → Int → Int → Int → List (S121) → List ByteArray → Option (Int)
 | 0, _, _, _, _, _, _ => none
 | k + 1, x20, x21, x22, x342000, x342001, x342002 => if x22 < x21 then (if 0 ≤ x22 then (if x22 < (x20.length : Int) then (if ((rdOf ByteArray.empty x20 x22).size : Int) > 12 then (some 24) else (if x22 > 0 then (if 0 ≤ (wrap64 (x22 - 1)) then (if (wrap64 (x22 - 1)) < (x342002.length : Int) then (if ((Op.bytesLess ((rdOf ByteArray.empty x342002 (wrap64 (x22 - 1))).toList) ((rdOf ByteArray.empty x20 x22).toList)) = true) then (wire_fitDelta.l0 k x20 x21 (wrap64 (x22 + 1)) x342000 x342001 x342002) else (some 42)) else (none)) else (none)) else (wire_fitDelta.l0 k x20 x21 (wrap64 (x22 + 1)) x342000 x342001 x342002))) else (none)) else (none)) else (some 0)
def wire_fitDelta.f (k : Nat) (a0_0 : Int) (l0_1 : List (S121)) (l0_2 : List ByteArray) : Option (Int) := (value_CheckState.f k a0_0 l0_1).bind fun t342 => (if t342 = 0 then (if (l0_2.length : Int) > 64 then (some 43) else (wire_fitDelta.l0 k l0_2 (l0_2.length : Int) 0 a0_0 l0_1 l0_2)) else (some t342))
set_option maxHeartbeats 8000000 in
set_option maxRecDepth 100000 in
theorem wire_fitDelta.calls (k : Nat) (a0_0 : Int) (A0_1 : Option Addr) (c0_1 : Nat) (l0_1 : List (S121)) (A0_2 : Option Addr) (c0_2 : Nat) (l0_2 : List ByteArray) (r : Int) (w : World) (hr0_1 : Kd.C k121 w A0_1 l0_1.length l0_1) (hc0_1 : l0_1.length ≤ c0_1) (hr0_2 : Kd.C Kd.string w A0_2 l0_2.length l0_2) (hc0_2 : l0_2.length ≤ c0_2) (h : wire_fitDelta.f k a0_0 l0_1 l0_2 = some r) :
  Calls Try.prog 118 #[.agg #[.int .i64 a0_0, .slice A0_1 l0_1.length c0_1, .slice A0_2 l0_2.length c0_2]] w fun e w' => e = .returned (.int .i64 r) ∧ Below w.heap.size w w' := by
 have hu35 := Try.underlying35
 have hu31 := Try.underlying31
 have HR0_1 := Aside0.mk hr0_1
 have HC0_1 := Aside0.mk hc0_1
 clear hr0_1 hc0_1
 have HR0_2 := Aside0.mk hr0_2
 have HC0_2 := Aside0.mk hc0_2
 clear hr0_2 hc0_2
 have HB := Aside0.mk (Below.refl w.heap.size w)
 have H : ((value_CheckState.f k a0_0 l0_1).bind fun t342 => (if t342 = 0 then (if (l0_2.length : Int) > 64 then (some 43) else (wire_fitDelta.l0 k l0_2 (l0_2.length : Int) 0 a0_0 l0_1 l0_2)) else (some t342))) = some r := h
 clear h
 replace H := Option.bind_eq_some_iff.mp H
 obtain ⟨t342, A20, H⟩ := H
 replace H : (if t342 = 0 then (if (l0_2.length : Int) > 64 then (some 43) else (wire_fitDelta.l0 k l0_2 (l0_2.length : Int) 0 a0_0 l0_1 l0_2)) else (some t342)) = some r := H
 have A2 := Aside0.mk A20
 clear A20
 by_cases c3 : t342 = 0
 ·rw [if_pos c3] at H
  have c3b0 : (t342 == 0) = true := beq_iff_eq.mpr c3
  have c3b1 : (t342 != 0) = false := bne_eq_false_iff_eq.mpr c3
  clear c3
  by_cases c4 : (l0_2.length : Int) > 64
  ·rw [if_pos c4] at H
   have c4b0 : decide (64 < (l0_2.length : Int)) = true := decide_eq_true c4
   have c4b1 : decide (64 < l0_2.length) = true := decide_eq_true (by omega)
   clear c4
   obtain rfl := Option.some.inj H
   go_enter Try.func118, Try.ntmps118
   go_wp2_with (first | ((with_reducible refine gate_dst (N := 1) rfl ?_); refine box_event ?hg (N := 1) ?hd (cs := #[.int .i64 a0_0, .slice A0_1 l0_1.length c0_1, .slice A0_2 l0_2.length c0_2]) (t := 35) ?hr ?_; (case hd => rfl); (case hg => rfl); (case hr => first | (go_simp; done) | (go_simp; rfl)); intro gb341 hg w5 hbox hb; have n0_ := Aside0.mk (below_step (by repeat (first | (with_reducible first | exact HB.out | apply below_alloc | apply pw_below_drewN | apply below_drew1) | exact HB.out)) hb); have n1_ := Aside0.mk (hbox); have n2_ := Aside0.mk ((by rw [hg]; exact (below_size (by repeat (first | (with_reducible first | exact HB.out | apply below_alloc | apply pw_below_drewN | apply below_drew1) | exact HB.out))) : w.heap.size ≤ gb341)); have n3_ := Aside0.mk ((by rw [hg]; exact (below_size (by repeat (first | (with_reducible first | exact HB.out | apply below_alloc | apply pw_below_drewN | apply below_drew1) | exact HB.out))) : w.heap.size ≤ gb341)); clear HB; have HB := n0_; have BK341 := n1_; have GW341 := n2_; have GE341 := n3_; clear n0_ n1_ n2_ n3_; clear hb hbox hg; have hcz6_0 : w5.cell? ⟨gb341, 0, none⟩ = some (.int .i64 a0_0) := (blk_cell BK341.out 0).trans rfl; have hcz6_1 : w5.cell? ⟨gb341, 1, none⟩ = some (.slice A0_1 l0_1.length c0_1) := (blk_cell BK341.out 1).trans rfl; have hcz6_2 : w5.cell? ⟨gb341, 2, none⟩ = some (.slice A0_2 l0_2.length c0_2) := (blk_cell BK341.out 2).trans rfl; have hfz6_0 := blk_frozen BK341.out 0; have hfz6_1 := blk_frozen BK341.out 1; have hfz6_2 := blk_frozen BK341.out 2) | ((with_reducible refine gate_callee (f := 76) rfl ?_); refine goesL_ (some 11) rfl rfl Try.func76 (by kernel_rfl) rfl #[.agg #[.int .i64 a0_0, .slice A0_1 l0_1.length c0_1]] rfl (by (try simp only [List.map_toArray, List.map_cons, List.map_nil]); first | done | rfl | (simp only [List.length_drop, List.length_take]; rfl)) ?_; (with_reducible refine (value_CheckState.calls k a0_0 _ _ l0_1 t342 _ ?side1 ?side2 A2.out).mono ?_); (case side1 => repeat (first | exact (Kd.C_below HR0_1.out HB.out) | (with_reducible refine Kd.C_alloc ?_ _) | (with_reducible refine Kd.C_drewN ?_ _) | (with_reducible refine Kd.C_drew ?_))); (case side2 => exact HC0_1.out); rintro e w7 ⟨rfl, hb⟩; refine ⟨_, rfl, ?_⟩; have n0_ := Aside0.mk (blk_below (g := gb341) (o := .cells #[.int .i64 a0_0, .slice A0_1 l0_1.length c0_1, .slice A0_2 l0_2.length c0_2] 35 (0, 0)) (by (with_reducible repeat (first | refine blk_drewN ?_ _ | refine blk_drew ?_ | refine blk_alloc ?_ _)); exact BK341.out) hb); have n1_ := Aside0.mk (below_step (by repeat (first | (with_reducible first | exact HB.out | apply below_alloc | apply pw_below_drewN | apply below_drew1 | refine below_set ?_ GE341.out) | exact HB.out)) hb); clear BK341; clear HB; have BK341 := n0_; have HB := n1_; clear n0_ n1_; (try clear hb); (try clear hb2); (try clear hk); (try clear hi); have hcz8_0 : w7.cell? ⟨gb341, 0, none⟩ = some (.int .i64 a0_0) := (blk_cell BK341.out 0).trans rfl; have hcz8_1 : w7.cell? ⟨gb341, 1, none⟩ = some (.slice A0_1 l0_1.length c0_1) := (blk_cell BK341.out 1).trans rfl; have hcz8_2 : w7.cell? ⟨gb341, 2, none⟩ = some (.slice A0_2 l0_2.length c0_2) := (blk_cell BK341.out 2).trans rfl; have hfz8_0 := blk_frozen BK341.out 0; have hfz8_1 := blk_frozen BK341.out 1; have hfz8_2 := blk_frozen BK341.out 2))
   go_ret
   exact ⟨by first | rfl | (simp [errW_none, errW_some] <;> rfl) | (simp [*, errW_none, errW_some] <;> rfl), by repeat (first | (with_reducible first | exact HB.out | apply below_alloc | apply pw_below_drewN | apply below_drew1 | refine below_set ?_ GE341.out) | exact HB.out)⟩
  ·rw [if_neg c4] at H
   have c4b0 : decide (64 < (l0_2.length : Int)) = false := decide_eq_false c4
   have c4b1 : decide (64 < l0_2.length) = false := decide_eq_false (by omega)
   clear c4
   have H' := Aside0.mk H
   clear H
   go_enter Try.func118, Try.ntmps118
   go_wp2_with (first | ((with_reducible refine gate_dst (N := 1) rfl ?_); refine box_event ?hg (N := 1) ?hd (cs := #[.int .i64 a0_0, .slice A0_1 l0_1.length c0_1, .slice A0_2 l0_2.length c0_2]) (t := 35) ?hr ?_; (case hd => rfl); (case hg => rfl); (case hr => first | (go_simp; done) | (go_simp; rfl)); intro gb341 hg w9 hbox hb; have n0_ := Aside0.mk (below_step (by repeat (first | (with_reducible first | exact HB.out | apply below_alloc | apply pw_below_drewN | apply below_drew1) | exact HB.out)) hb); have n1_ := Aside0.mk (hbox); have n2_ := Aside0.mk ((by rw [hg]; exact (below_size (by repeat (first | (with_reducible first | exact HB.out | apply below_alloc | apply pw_below_drewN | apply below_drew1) | exact HB.out))) : w.heap.size ≤ gb341)); have n3_ := Aside0.mk ((by rw [hg]; exact (below_size (by repeat (first | (with_reducible first | exact HB.out | apply below_alloc | apply pw_below_drewN | apply below_drew1) | exact HB.out))) : w.heap.size ≤ gb341)); clear HB; have HB := n0_; have BK341 := n1_; have GW341 := n2_; have GE341 := n3_; clear n0_ n1_ n2_ n3_; clear hb hbox hg; have hcz10_0 : w9.cell? ⟨gb341, 0, none⟩ = some (.int .i64 a0_0) := (blk_cell BK341.out 0).trans rfl; have hcz10_1 : w9.cell? ⟨gb341, 1, none⟩ = some (.slice A0_1 l0_1.length c0_1) := (blk_cell BK341.out 1).trans rfl; have hcz10_2 : w9.cell? ⟨gb341, 2, none⟩ = some (.slice A0_2 l0_2.length c0_2) := (blk_cell BK341.out 2).trans rfl; have hfz10_0 := blk_frozen BK341.out 0; have hfz10_1 := blk_frozen BK341.out 1; have hfz10_2 := blk_frozen BK341.out 2) | ((with_reducible refine gate_callee (f := 76) rfl ?_); refine goesL_ (some 11) rfl rfl Try.func76 (by kernel_rfl) rfl #[.agg #[.int .i64 a0_0, .slice A0_1 l0_1.length c0_1]] rfl (by (try simp only [List.map_toArray, List.map_cons, List.map_nil]); first | done | rfl | (simp only [List.length_drop, List.length_take]; rfl)) ?_; (with_reducible refine (value_CheckState.calls k a0_0 _ _ l0_1 t342 _ ?side1 ?side2 A2.out).mono ?_); (case side1 => repeat (first | exact (Kd.C_below HR0_1.out HB.out) | (with_reducible refine Kd.C_alloc ?_ _) | (with_reducible refine Kd.C_drewN ?_ _) | (with_reducible refine Kd.C_drew ?_))); (case side2 => exact HC0_1.out); rintro e w11 ⟨rfl, hb⟩; refine ⟨_, rfl, ?_⟩; have n0_ := Aside0.mk (blk_below (g := gb341) (o := .cells #[.int .i64 a0_0, .slice A0_1 l0_1.length c0_1, .slice A0_2 l0_2.length c0_2] 35 (0, 0)) (by (with_reducible repeat (first | refine blk_drewN ?_ _ | refine blk_drew ?_ | refine blk_alloc ?_ _)); exact BK341.out) hb); have n1_ := Aside0.mk (below_step (by repeat (first | (with_reducible first | exact HB.out | apply below_alloc | apply pw_below_drewN | apply below_drew1 | refine below_set ?_ GE341.out) | exact HB.out)) hb); clear BK341; clear HB; have BK341 := n0_; have HB := n1_; clear n0_ n1_; (try clear hb); (try clear hb2); (try clear hk); (try clear hi); have hcz12_0 : w11.cell? ⟨gb341, 0, none⟩ = some (.int .i64 a0_0) := (blk_cell BK341.out 0).trans rfl; have hcz12_1 : w11.cell? ⟨gb341, 1, none⟩ = some (.slice A0_1 l0_1.length c0_1) := (blk_cell BK341.out 1).trans rfl; have hcz12_2 : w11.cell? ⟨gb341, 2, none⟩ = some (.slice A0_2 l0_2.length c0_2) := (blk_cell BK341.out 2).trans rfl; have hfz12_0 := blk_frozen BK341.out 0; have hfz12_1 := blk_frozen BK341.out 1; have hfz12_2 := blk_frozen BK341.out 2))
   go_loopg [22] k (fun kq v22 w' => ∃ (x22_1 : Int), v22 = .int .i64 x22_1 ∧ Aside0 (wire_fitDelta.l0 kq l0_2 (l0_2.length : Int) x22_1 a0_0 l0_1 l0_2 = some r) ∧ Aside0 (kq ≤ k) ∧ Aside0 (w'.heap[gb341]? = some (.cells #[.int .i64 a0_0, (.slice A0_1 l0_1.length c0_1), (.slice A0_2 l0_2.length c0_2)] 35 (0, 0))) ∧ Aside0 (Below w.heap.size w w'))
   case atStart => exact ⟨(0), (by first | rfl | (simp; done) | (simp [*]; done)), H', ⟨Nat.le_refl _⟩, ⟨by (with_reducible repeat (first | refine blk_drewN ?_ _ | refine blk_drew ?_ | refine blk_alloc ?_ _)); exact BK341.out⟩, ⟨by repeat (first | (with_reducible first | exact HB.out | apply below_alloc | apply pw_below_drewN | apply below_drew1 | refine below_set ?_ GE341.out) | exact HB.out)⟩⟩
   case round =>
    clear H'
    try clear c1
    try clear p2
    try clear c3
    try clear c3b0
    try clear c3b1
    try clear c4
    try clear c4b0
    try clear c4b1
    try clear c7
    try clear c11
    try clear hcz10_0
    try clear hcz10_1
    try clear hcz10_2
    try clear hcz12_0
    try clear hcz12_1
    try clear hcz12_2
    try clear hcz6_0
    try clear hcz6_1
    try clear hcz6_2
    try clear hcz8_0
    try clear hcz8_1
    try clear hcz8_2
    try clear hfz10_0
    try clear hfz10_1
    try clear hfz10_2
    try clear hfz12_0
    try clear hfz12_1
    try clear hfz12_2
    try clear hfz6_0
    try clear hfz6_1
    try clear hfz6_2
    try clear hfz8_0
    try clear hfz8_1
    try clear hfz8_2
    obtain ⟨x22_1, rfl, HA, HK1, BK341, HB⟩ := hrel
    cases gk with
    | zero => exact absurd HA.out (by simp [wire_fitDelta.l0])
    | succ k1 =>
     have H := HA.out
     clear HA
     simp only [wire_fitDelta.l0] at H
     by_cases c13 : x22_1 < (l0_2.length : Int)
     ·rw [if_pos c13] at H
      have c13b0 : decide (x22_1 < (l0_2.length : Int)) = true := decide_eq_true c13
      clear c13
      by_cases c14 : 0 ≤ x22_1
      ·rw [if_pos c14] at H
       have c14b0 : decide (0 ≤ x22_1) = true := decide_eq_true c14
       clear c14
       by_cases c15 : x22_1 < (l0_2.length : Int)
       ·rw [if_pos c15] at H
        have c15b0 : decide (x22_1 < (l0_2.length : Int)) = true := decide_eq_true c15
        clear c15
        by_cases c16 : ((rdOf ByteArray.empty l0_2 x22_1).size : Int) > 12
        ·rw [if_pos c16] at H
         have c16b0 : decide (12 < ((rdOf ByteArray.empty l0_2 x22_1).size : Int)) = true := decide_eq_true c16
         have c16b1 : decide (12 < (rdOf ByteArray.empty l0_2 x22_1).size) = true := decide_eq_true (by omega)
         clear c16
         obtain rfl := Option.some.inj H
         have p343 : 0 ≤ (x22_1 : Int) := of_decide_eq_true (by first | (with_reducible assumption) | assumption)
         have q343 : x22_1 < (l0_2.length : Int) := of_decide_eq_true (by first | (with_reducible assumption) | assumption)
         obtain ⟨ad343, e343, hx343_0⟩ := Kd.at_string HR0_2.out x22_1 p343 q343
         cases e343
         replace hx343_0 := (HB.out.cell (World.block_lt_of_cell? w _ hx343_0)).trans hx343_0
         replace p343 := eq_true p343
         replace q343 := eq_true q343
         go_wp2
         go_ret
         exact ⟨by first | rfl | (simp [errW_none, errW_some] <;> rfl) | (simp [*, errW_none, errW_some] <;> rfl), by repeat (first | (with_reducible first | exact HB.out | apply below_alloc | apply pw_below_drewN | apply below_drew1 | refine below_set ?_ GE341.out) | exact HB.out)⟩
        ·rw [if_neg c16] at H
         have c16b0 : decide (12 < ((rdOf ByteArray.empty l0_2 x22_1).size : Int)) = false := decide_eq_false c16
         have c16b1 : decide (12 < (rdOf ByteArray.empty l0_2 x22_1).size) = false := decide_eq_false (by omega)
         clear c16
         by_cases c17 : x22_1 > 0
         ·rw [if_pos c17] at H
          have c17b0 : decide (0 < x22_1) = true := decide_eq_true c17
          clear c17
          obtain ⟨ji18, hji18⟩ : ∃ j_ : Int, (wrap64 (x22_1 - 1)) = j_ := ⟨_, rfl⟩
          replace H : (if 0 ≤ (ji18) then (if (ji18) < (l0_2.length : Int) then (if ((Op.bytesLess ((rdOf ByteArray.empty l0_2 (ji18)).toList) ((rdOf ByteArray.empty l0_2 x22_1).toList)) = true) then (wire_fitDelta.l0 k1 l0_2 (l0_2.length : Int) (wrap64 (x22_1 + 1)) a0_0 l0_1 l0_2) else (some 42)) else (none)) else (none)) = some r := by first | (rw [hji18] at H; exact H) | (simp only [hji18] at H ⊢; exact H)
          have hji18w : (IntKind.i64.wrap (x22_1 - 1)) = ji18 := (i64_w _).trans hji18
          by_cases c19 : 0 ≤ (ji18)
          ·rw [if_pos c19] at H
           have c19b0 : decide (0 ≤ (ji18)) = true := decide_eq_true c19
           clear c19
           by_cases c20 : (ji18) < (l0_2.length : Int)
           ·rw [if_pos c20] at H
            have c20b0 : decide ((ji18) < (l0_2.length : Int)) = true := decide_eq_true c20
            clear c20
            by_cases c21 : ((Op.bytesLess ((rdOf ByteArray.empty l0_2 (ji18)).toList) ((rdOf ByteArray.empty l0_2 x22_1).toList)) = true)
            ·rw [if_pos c21] at H
             have c21b0 : (Op.bytesLess ((rdOf ByteArray.empty l0_2 (ji18)).toList) ((rdOf ByteArray.empty l0_2 x22_1).toList)) = true := c21
             clear c21
             have H' := Aside0.mk H
             clear H
             have p343 : 0 ≤ (x22_1 : Int) := of_decide_eq_true (by first | (with_reducible assumption) | assumption)
             have q343 : x22_1 < (l0_2.length : Int) := of_decide_eq_true (by first | (with_reducible assumption) | assumption)
             obtain ⟨ad343, e343, hx343_0⟩ := Kd.at_string HR0_2.out x22_1 p343 q343
             cases e343
             replace hx343_0 := (HB.out.cell (World.block_lt_of_cell? w _ hx343_0)).trans hx343_0
             replace p343 := eq_true p343
             replace q343 := eq_true q343
             have hcz22_0 : wr.cell? ⟨gb341, 0, none⟩ = some (.int .i64 a0_0) := (blk_cell BK341.out 0).trans rfl
             have hcz22_1 : wr.cell? ⟨gb341, 1, none⟩ = some (.slice A0_1 l0_1.length c0_1) := (blk_cell BK341.out 1).trans rfl
             have hcz22_2 : wr.cell? ⟨gb341, 2, none⟩ = some (.slice (some ad343) l0_2.length c0_2) := (blk_cell BK341.out 2).trans rfl
             have hfz22_0 := blk_frozen BK341.out 0
             have hfz22_1 := blk_frozen BK341.out 1
             have hfz22_2 := blk_frozen BK341.out 2
             have p344 : 0 ≤ ((ji18) : Int) := of_decide_eq_true (by first | (with_reducible assumption) | assumption)
             have q344 : (ji18) < (l0_2.length : Int) := of_decide_eq_true (by first | (with_reducible assumption) | assumption)
             obtain ⟨ad344, e344, hx344_0⟩ := Kd.at_string HR0_2.out (ji18) p344 q344
             obtain rfl : ad343 = ad344 := (by injection e344)
             replace hx344_0 := (HB.out.cell (World.block_lt_of_cell? w _ hx344_0)).trans hx344_0
             replace p344 := eq_true p344
             replace q344 := eq_true q344
             go_wp2
             go_roundg k1
             case measure => have := HK1.out; omega
             case rel => exact ⟨(wrap64 (x22_1 + 1)), (by first | rfl | (simp; done) | (simp [*]; done)), H', ⟨by have := HK1.out; omega⟩, ⟨by (with_reducible repeat (first | refine blk_drewN ?_ _ | refine blk_drew ?_ | refine blk_alloc ?_ _)); exact BK341.out⟩, ⟨by repeat (first | (with_reducible first | exact HB.out | apply below_alloc | apply pw_below_drewN | apply below_drew1 | refine below_set ?_ GE341.out) | exact HB.out)⟩⟩
            ·rw [if_neg c21] at H
             have c21b0 : (Op.bytesLess ((rdOf ByteArray.empty l0_2 (ji18)).toList) ((rdOf ByteArray.empty l0_2 x22_1).toList)) = false := by simpa using c21
             clear c21
             obtain rfl := Option.some.inj H
             have p343 : 0 ≤ (x22_1 : Int) := of_decide_eq_true (by first | (with_reducible assumption) | assumption)
             have q343 : x22_1 < (l0_2.length : Int) := of_decide_eq_true (by first | (with_reducible assumption) | assumption)
             obtain ⟨ad343, e343, hx343_0⟩ := Kd.at_string HR0_2.out x22_1 p343 q343
             cases e343
             replace hx343_0 := (HB.out.cell (World.block_lt_of_cell? w _ hx343_0)).trans hx343_0
             replace p343 := eq_true p343
             replace q343 := eq_true q343
             have hcz23_0 : wr.cell? ⟨gb341, 0, none⟩ = some (.int .i64 a0_0) := (blk_cell BK341.out 0).trans rfl
             have hcz23_1 : wr.cell? ⟨gb341, 1, none⟩ = some (.slice A0_1 l0_1.length c0_1) := (blk_cell BK341.out 1).trans rfl
             have hcz23_2 : wr.cell? ⟨gb341, 2, none⟩ = some (.slice (some ad343) l0_2.length c0_2) := (blk_cell BK341.out 2).trans rfl
             have hfz23_0 := blk_frozen BK341.out 0
             have hfz23_1 := blk_frozen BK341.out 1
             have hfz23_2 := blk_frozen BK341.out 2
             have p344 : 0 ≤ ((ji18) : Int) := of_decide_eq_true (by first | (with_reducible assumption) | assumption)
             have q344 : (ji18) < (l0_2.length : Int) := of_decide_eq_true (by first | (with_reducible assumption) | assumption)
             obtain ⟨ad344, e344, hx344_0⟩ := Kd.at_string HR0_2.out (ji18) p344 q344
             obtain rfl : ad343 = ad344 := (by injection e344)
             replace hx344_0 := (HB.out.cell (World.block_lt_of_cell? w _ hx344_0)).trans hx344_0
             replace p344 := eq_true p344
             replace q344 := eq_true q344
             go_wp2
             go_ret
             exact ⟨by first | rfl | (simp [errW_none, errW_some] <;> rfl) | (simp only [← hji18]; first | rfl | (simp [errW_none, errW_some] <;> rfl)) | (simp [*, errW_none, errW_some] <;> rfl), by repeat (first | (with_reducible first | exact HB.out | apply below_alloc | apply pw_below_drewN | apply below_drew1 | refine below_set ?_ GE341.out) | exact HB.out)⟩
           ·rw [if_neg c20] at H
            exact absurd H (by simp)
          ·rw [if_neg c19] at H
           exact absurd H (by simp)
         ·rw [if_neg c17] at H
          have c17b0 : decide (0 < x22_1) = false := decide_eq_false c17
          clear c17
          have H' := Aside0.mk H
          clear H
          have p343 : 0 ≤ (x22_1 : Int) := of_decide_eq_true (by first | (with_reducible assumption) | assumption)
          have q343 : x22_1 < (l0_2.length : Int) := of_decide_eq_true (by first | (with_reducible assumption) | assumption)
          obtain ⟨ad343, e343, hx343_0⟩ := Kd.at_string HR0_2.out x22_1 p343 q343
          cases e343
          replace hx343_0 := (HB.out.cell (World.block_lt_of_cell? w _ hx343_0)).trans hx343_0
          replace p343 := eq_true p343
          replace q343 := eq_true q343
          go_wp2
          go_roundg k1
          case measure => have := HK1.out; omega
          case rel => exact ⟨(wrap64 (x22_1 + 1)), (by first | rfl | (simp; done) | (simp [*]; done)), H', ⟨by have := HK1.out; omega⟩, ⟨by (with_reducible repeat (first | refine blk_drewN ?_ _ | refine blk_drew ?_ | refine blk_alloc ?_ _)); exact BK341.out⟩, ⟨by repeat (first | (with_reducible first | exact HB.out | apply below_alloc | apply pw_below_drewN | apply below_drew1 | refine below_set ?_ GE341.out) | exact HB.out)⟩⟩
       ·rw [if_neg c15] at H
        exact absurd H (by simp)
      ·rw [if_neg c14] at H
       exact absurd H (by simp)
     ·rw [if_neg c13] at H
      have c13b0 : decide (x22_1 < (l0_2.length : Int)) = false := decide_eq_false c13
      clear c13
      obtain rfl := Option.some.inj H
      go_wp2
      go_ret
      exact ⟨by first | rfl | (simp [errW_none, errW_some] <;> rfl) | (simp [*, errW_none, errW_some] <;> rfl), by repeat (first | (with_reducible first | exact HB.out | apply below_alloc | apply pw_below_drewN | apply below_drew1 | refine below_set ?_ GE341.out) | exact HB.out)⟩
 ·rw [if_neg c3] at H
  have c3b0 : (t342 == 0) = false := beq_eq_false_iff_ne.mpr c3
  have c3b1 : (t342 != 0) = true := bne_iff_ne.mpr c3
  obtain rfl := Option.some.inj H
  go_enter Try.func118, Try.ntmps118
  go_wp2_with (first | ((with_reducible refine gate_dst (N := 1) rfl ?_); refine box_event ?hg (N := 1) ?hd (cs := #[.int .i64 a0_0, .slice A0_1 l0_1.length c0_1, .slice A0_2 l0_2.length c0_2]) (t := 35) ?hr ?_; (case hd => rfl); (case hg => rfl); (case hr => first | (go_simp; done) | (go_simp; rfl)); intro gb341 hg w24 hbox hb; have n0_ := Aside0.mk (below_step (by repeat (first | (with_reducible first | exact HB.out | apply below_alloc | apply pw_below_drewN | apply below_drew1) | exact HB.out)) hb); have n1_ := Aside0.mk (hbox); have n2_ := Aside0.mk ((by rw [hg]; exact (below_size (by repeat (first | (with_reducible first | exact HB.out | apply below_alloc | apply pw_below_drewN | apply below_drew1) | exact HB.out))) : w.heap.size ≤ gb341)); have n3_ := Aside0.mk ((by rw [hg]; exact (below_size (by repeat (first | (with_reducible first | exact HB.out | apply below_alloc | apply pw_below_drewN | apply below_drew1) | exact HB.out))) : w.heap.size ≤ gb341)); clear HB; have HB := n0_; have BK341 := n1_; have GW341 := n2_; have GE341 := n3_; clear n0_ n1_ n2_ n3_; clear hb hbox hg; have hcz25_0 : w24.cell? ⟨gb341, 0, none⟩ = some (.int .i64 a0_0) := (blk_cell BK341.out 0).trans rfl; have hcz25_1 : w24.cell? ⟨gb341, 1, none⟩ = some (.slice A0_1 l0_1.length c0_1) := (blk_cell BK341.out 1).trans rfl; have hcz25_2 : w24.cell? ⟨gb341, 2, none⟩ = some (.slice A0_2 l0_2.length c0_2) := (blk_cell BK341.out 2).trans rfl; have hfz25_0 := blk_frozen BK341.out 0; have hfz25_1 := blk_frozen BK341.out 1; have hfz25_2 := blk_frozen BK341.out 2) | ((with_reducible refine gate_callee (f := 76) rfl ?_); refine goesL_ (some 11) rfl rfl Try.func76 (by kernel_rfl) rfl #[.agg #[.int .i64 a0_0, .slice A0_1 l0_1.length c0_1]] rfl (by (try simp only [List.map_toArray, List.map_cons, List.map_nil]); first | done | rfl | (simp only [List.length_drop, List.length_take]; rfl)) ?_; (with_reducible refine (value_CheckState.calls k a0_0 _ _ l0_1 t342 _ ?side1 ?side2 A2.out).mono ?_); (case side1 => repeat (first | exact (Kd.C_below HR0_1.out HB.out) | (with_reducible refine Kd.C_alloc ?_ _) | (with_reducible refine Kd.C_drewN ?_ _) | (with_reducible refine Kd.C_drew ?_))); (case side2 => exact HC0_1.out); rintro e w26 ⟨rfl, hb⟩; refine ⟨_, rfl, ?_⟩; have n0_ := Aside0.mk (blk_below (g := gb341) (o := .cells #[.int .i64 a0_0, .slice A0_1 l0_1.length c0_1, .slice A0_2 l0_2.length c0_2] 35 (0, 0)) (by (with_reducible repeat (first | refine blk_drewN ?_ _ | refine blk_drew ?_ | refine blk_alloc ?_ _)); exact BK341.out) hb); have n1_ := Aside0.mk (below_step (by repeat (first | (with_reducible first | exact HB.out | apply below_alloc | apply pw_below_drewN | apply below_drew1 | refine below_set ?_ GE341.out) | exact HB.out)) hb); clear BK341; clear HB; have BK341 := n0_; have HB := n1_; clear n0_ n1_; (try clear hb); (try clear hb2); (try clear hk); (try clear hi)))
  go_ret
  exact ⟨by first | rfl | (simp [errW_none, errW_some] <;> rfl) | (simp [*, errW_none, errW_some] <;> rfl), by repeat (first | (with_reducible first | exact HB.out | apply below_alloc | apply pw_below_drewN | apply below_drew1 | refine below_set ?_ GE341.out) | exact HB.out)⟩

/-! ### value_CheckRecord: function 84 -/
def value_CheckRecord.l0 : Nat → List Int → Int → Int → Option (Int)
 | 0, _, _, _ => none
 | k + 1, x21, x22, x23 => if x23 < x22 then (if 0 ≤ x23 then (if x23 < (x21.length : Int) then (if (rd x21 x23) < 0 then (some 25) else (if (rd x21 x23) > 9 then (some 25) else (value_CheckRecord.l0 k x21 x22 (wrap64 (x23 + 1))))) else (none)) else (none)) else (some 0)
def value_CheckRecord.f (k : Nat) (a0_0 : ByteArray) (a0_1 : Int) (a0_2 : Int) (a0_3 : ByteArray) (l0_4 : List (S25)) (l0_5 : List Int) : Option (Int) := if (a0_0.size : Int) > 12 then (some 24) else ((value_Check.f a0_1 a0_2 a0_3 l0_4).bind fun t346 => (if t346 = 0 then (if (l0_5.length : Int) > 3 then (some 25) else (value_CheckRecord.l0 k l0_5 (l0_5.length : Int) 0)) else (some t346)))
set_option maxHeartbeats 8000000 in
set_option maxRecDepth 100000 in
theorem value_CheckRecord.calls (k : Nat) (a0_0 : ByteArray) (a0_1 : Int) (a0_2 : Int) (a0_3 : ByteArray) (A0_4 : Option Addr) (c0_4 : Nat) (l0_4 : List (S25)) (A0_5 : Option Addr) (c0_5 : Nat) (l0_5 : List Int) (r : Int) (w : World) (hr0_4 : Kd.C k25 w A0_4 l0_4.length l0_4) (hc0_4 : l0_4.length ≤ c0_4) (hr0_5 : Kd.C (Kd.int .i64) w A0_5 l0_5.length l0_5) (hc0_5 : l0_5.length ≤ c0_5) (h : value_CheckRecord.f k a0_0 a0_1 a0_2 a0_3 l0_4 l0_5 = some r) :
  Calls Try.prog 84 #[.agg #[.string a0_0, .int .i64 a0_1, .int .i64 a0_2, .string a0_3, .slice A0_4 l0_4.length c0_4, .slice A0_5 l0_5.length c0_5]] w fun e w' => e = .returned (.int .i64 r) ∧ Below w.heap.size w w' := by
 have hu28 := Try.underlying28
 have hu25 := Try.underlying25
 have HR0_4 := Aside0.mk hr0_4
 have HC0_4 := Aside0.mk hc0_4
 clear hr0_4 hc0_4
 have HR0_5 := Aside0.mk hr0_5
 have HC0_5 := Aside0.mk hc0_5
 clear hr0_5 hc0_5
 have HB := Aside0.mk (Below.refl w.heap.size w)
 have H : (if (a0_0.size : Int) > 12 then (some 24) else ((value_Check.f a0_1 a0_2 a0_3 l0_4).bind fun t346 => (if t346 = 0 then (if (l0_5.length : Int) > 3 then (some 25) else (value_CheckRecord.l0 k l0_5 (l0_5.length : Int) 0)) else (some t346)))) = some r := h
 clear h
 by_cases c2 : (a0_0.size : Int) > 12
 ·rw [if_pos c2] at H
  have c2b0 : decide (12 < (a0_0.size : Int)) = true := decide_eq_true c2
  have c2b1 : decide (12 < a0_0.size) = true := decide_eq_true (by omega)
  clear c2
  obtain rfl := Option.some.inj H
  go_enter Try.func84, Try.ntmps84
  go_wp2_with (first | ((with_reducible refine gate_dst (N := 1) rfl ?_); refine box_event ?hg (N := 1) ?hd (cs := #[.string a0_0, .int .i64 a0_1, .int .i64 a0_2, .string a0_3, .slice A0_4 l0_4.length c0_4, .slice A0_5 l0_5.length c0_5]) (t := 28) ?hr ?_; (case hd => rfl); (case hg => rfl); (case hr => first | (go_simp; done) | (go_simp; rfl)); intro gb345 hg w3 hbox hb; have n0_ := Aside0.mk (below_step (by repeat (first | (with_reducible first | exact HB.out | apply below_alloc | apply pw_below_drewN | apply below_drew1) | exact HB.out)) hb); have n1_ := Aside0.mk (hbox); have n2_ := Aside0.mk ((by rw [hg]; exact (below_size (by repeat (first | (with_reducible first | exact HB.out | apply below_alloc | apply pw_below_drewN | apply below_drew1) | exact HB.out))) : w.heap.size ≤ gb345)); have n3_ := Aside0.mk ((by rw [hg]; exact (below_size (by repeat (first | (with_reducible first | exact HB.out | apply below_alloc | apply pw_below_drewN | apply below_drew1) | exact HB.out))) : w.heap.size ≤ gb345)); clear HB; have HB := n0_; have BK345 := n1_; have GW345 := n2_; have GE345 := n3_; clear n0_ n1_ n2_ n3_; clear hb hbox hg; have hcz4_0 : w3.cell? ⟨gb345, 0, none⟩ = some (.string a0_0) := (blk_cell BK345.out 0).trans rfl; have hcz4_1 : w3.cell? ⟨gb345, 1, none⟩ = some (.int .i64 a0_1) := (blk_cell BK345.out 1).trans rfl; have hcz4_2 : w3.cell? ⟨gb345, 2, none⟩ = some (.int .i64 a0_2) := (blk_cell BK345.out 2).trans rfl; have hcz4_3 : w3.cell? ⟨gb345, 3, none⟩ = some (.string a0_3) := (blk_cell BK345.out 3).trans rfl; have hcz4_4 : w3.cell? ⟨gb345, 4, none⟩ = some (.slice A0_4 l0_4.length c0_4) := (blk_cell BK345.out 4).trans rfl; have hcz4_5 : w3.cell? ⟨gb345, 5, none⟩ = some (.slice A0_5 l0_5.length c0_5) := (blk_cell BK345.out 5).trans rfl; have hfz4_0 := blk_frozen BK345.out 0; have hfz4_1 := blk_frozen BK345.out 1; have hfz4_2 := blk_frozen BK345.out 2; have hfz4_3 := blk_frozen BK345.out 3; have hfz4_4 := blk_frozen BK345.out 4; have hfz4_5 := blk_frozen BK345.out 5))
  go_ret
  exact ⟨by first | rfl | (simp [errW_none, errW_some] <;> rfl) | (simp [*, errW_none, errW_some] <;> rfl), by repeat (first | (with_reducible first | exact HB.out | apply below_alloc | apply pw_below_drewN | apply below_drew1 | refine below_set ?_ GE345.out) | exact HB.out)⟩
 ·rw [if_neg c2] at H
  have c2b0 : decide (12 < (a0_0.size : Int)) = false := decide_eq_false c2
  have c2b1 : decide (12 < a0_0.size) = false := decide_eq_false (by omega)
  clear c2
  replace H := Option.bind_eq_some_iff.mp H
  obtain ⟨t346, A50, H⟩ := H
  replace H : (if t346 = 0 then (if (l0_5.length : Int) > 3 then (some 25) else (value_CheckRecord.l0 k l0_5 (l0_5.length : Int) 0)) else (some t346)) = some r := H
  have A5 := Aside0.mk A50
  clear A50
  by_cases c6 : t346 = 0
  ·rw [if_pos c6] at H
   have c6b0 : (t346 == 0) = true := beq_iff_eq.mpr c6
   have c6b1 : (t346 != 0) = false := bne_eq_false_iff_eq.mpr c6
   clear c6
   by_cases c7 : (l0_5.length : Int) > 3
   ·rw [if_pos c7] at H
    have c7b0 : decide (3 < (l0_5.length : Int)) = true := decide_eq_true c7
    have c7b1 : decide (3 < l0_5.length) = true := decide_eq_true (by omega)
    clear c7
    obtain rfl := Option.some.inj H
    go_enter Try.func84, Try.ntmps84
    go_wp2_with (first | ((with_reducible refine gate_dst (N := 1) rfl ?_); refine box_event ?hg (N := 1) ?hd (cs := #[.string a0_0, .int .i64 a0_1, .int .i64 a0_2, .string a0_3, .slice A0_4 l0_4.length c0_4, .slice A0_5 l0_5.length c0_5]) (t := 28) ?hr ?_; (case hd => rfl); (case hg => rfl); (case hr => first | (go_simp; done) | (go_simp; rfl)); intro gb345 hg w8 hbox hb; have n0_ := Aside0.mk (below_step (by repeat (first | (with_reducible first | exact HB.out | apply below_alloc | apply pw_below_drewN | apply below_drew1) | exact HB.out)) hb); have n1_ := Aside0.mk (hbox); have n2_ := Aside0.mk ((by rw [hg]; exact (below_size (by repeat (first | (with_reducible first | exact HB.out | apply below_alloc | apply pw_below_drewN | apply below_drew1) | exact HB.out))) : w.heap.size ≤ gb345)); have n3_ := Aside0.mk ((by rw [hg]; exact (below_size (by repeat (first | (with_reducible first | exact HB.out | apply below_alloc | apply pw_below_drewN | apply below_drew1) | exact HB.out))) : w.heap.size ≤ gb345)); clear HB; have HB := n0_; have BK345 := n1_; have GW345 := n2_; have GE345 := n3_; clear n0_ n1_ n2_ n3_; clear hb hbox hg; have hcz9_0 : w8.cell? ⟨gb345, 0, none⟩ = some (.string a0_0) := (blk_cell BK345.out 0).trans rfl; have hcz9_1 : w8.cell? ⟨gb345, 1, none⟩ = some (.int .i64 a0_1) := (blk_cell BK345.out 1).trans rfl; have hcz9_2 : w8.cell? ⟨gb345, 2, none⟩ = some (.int .i64 a0_2) := (blk_cell BK345.out 2).trans rfl; have hcz9_3 : w8.cell? ⟨gb345, 3, none⟩ = some (.string a0_3) := (blk_cell BK345.out 3).trans rfl; have hcz9_4 : w8.cell? ⟨gb345, 4, none⟩ = some (.slice A0_4 l0_4.length c0_4) := (blk_cell BK345.out 4).trans rfl; have hcz9_5 : w8.cell? ⟨gb345, 5, none⟩ = some (.slice A0_5 l0_5.length c0_5) := (blk_cell BK345.out 5).trans rfl; have hfz9_0 := blk_frozen BK345.out 0; have hfz9_1 := blk_frozen BK345.out 1; have hfz9_2 := blk_frozen BK345.out 2; have hfz9_3 := blk_frozen BK345.out 3; have hfz9_4 := blk_frozen BK345.out 4; have hfz9_5 := blk_frozen BK345.out 5) | ((with_reducible refine gate_callee (f := 115) rfl ?_); refine goesL_ (some 12) rfl rfl Try.func115 (by kernel_rfl) rfl #[.agg #[.int .i64 a0_1, .int .i64 a0_2, .string a0_3, .slice A0_4 l0_4.length c0_4]] rfl (by (try simp only [List.map_toArray, List.map_cons, List.map_nil]); first | done | rfl | (simp only [List.length_drop, List.length_take]; rfl)) ?_; (with_reducible refine (value_Check.calls a0_1 a0_2 a0_3 _ _ l0_4 t346 _ ?side1 ?side2 A5.out).mono ?_); (case side1 => repeat (first | exact (Kd.C_below HR0_4.out HB.out) | (with_reducible refine Kd.C_alloc ?_ _) | (with_reducible refine Kd.C_drewN ?_ _) | (with_reducible refine Kd.C_drew ?_))); (case side2 => exact HC0_4.out); rintro e w10 ⟨rfl, hb⟩; refine ⟨_, rfl, ?_⟩; have n0_ := Aside0.mk (blk_below (g := gb345) (o := .cells #[.string a0_0, .int .i64 a0_1, .int .i64 a0_2, .string a0_3, .slice A0_4 l0_4.length c0_4, .slice A0_5 l0_5.length c0_5] 28 (0, 0)) (by (with_reducible repeat (first | refine blk_drewN ?_ _ | refine blk_drew ?_ | refine blk_alloc ?_ _)); exact BK345.out) hb); have n1_ := Aside0.mk (below_step (by repeat (first | (with_reducible first | exact HB.out | apply below_alloc | apply pw_below_drewN | apply below_drew1 | refine below_set ?_ GE345.out) | exact HB.out)) hb); clear BK345; clear HB; have BK345 := n0_; have HB := n1_; clear n0_ n1_; (try clear hb); (try clear hb2); (try clear hk); (try clear hi); have hcz11_0 : w10.cell? ⟨gb345, 0, none⟩ = some (.string a0_0) := (blk_cell BK345.out 0).trans rfl; have hcz11_1 : w10.cell? ⟨gb345, 1, none⟩ = some (.int .i64 a0_1) := (blk_cell BK345.out 1).trans rfl; have hcz11_2 : w10.cell? ⟨gb345, 2, none⟩ = some (.int .i64 a0_2) := (blk_cell BK345.out 2).trans rfl; have hcz11_3 : w10.cell? ⟨gb345, 3, none⟩ = some (.string a0_3) := (blk_cell BK345.out 3).trans rfl; have hcz11_4 : w10.cell? ⟨gb345, 4, none⟩ = some (.slice A0_4 l0_4.length c0_4) := (blk_cell BK345.out 4).trans rfl; have hcz11_5 : w10.cell? ⟨gb345, 5, none⟩ = some (.slice A0_5 l0_5.length c0_5) := (blk_cell BK345.out 5).trans rfl; have hfz11_0 := blk_frozen BK345.out 0; have hfz11_1 := blk_frozen BK345.out 1; have hfz11_2 := blk_frozen BK345.out 2; have hfz11_3 := blk_frozen BK345.out 3; have hfz11_4 := blk_frozen BK345.out 4; have hfz11_5 := blk_frozen BK345.out 5))
    go_ret
    exact ⟨by first | rfl | (simp [errW_none, errW_some] <;> rfl) | (simp [*, errW_none, errW_some] <;> rfl), by repeat (first | (with_reducible first | exact HB.out | apply below_alloc | apply pw_below_drewN | apply below_drew1 | refine below_set ?_ GE345.out) | exact HB.out)⟩
   ·rw [if_neg c7] at H
    have c7b0 : decide (3 < (l0_5.length : Int)) = false := decide_eq_false c7
    have c7b1 : decide (3 < l0_5.length) = false := decide_eq_false (by omega)
    clear c7
    have H' := Aside0.mk H
    clear H
    go_enter Try.func84, Try.ntmps84
    go_wp2_with (first | ((with_reducible refine gate_dst (N := 1) rfl ?_); refine box_event ?hg (N := 1) ?hd (cs := #[.string a0_0, .int .i64 a0_1, .int .i64 a0_2, .string a0_3, .slice A0_4 l0_4.length c0_4, .slice A0_5 l0_5.length c0_5]) (t := 28) ?hr ?_; (case hd => rfl); (case hg => rfl); (case hr => first | (go_simp; done) | (go_simp; rfl)); intro gb345 hg w12 hbox hb; have n0_ := Aside0.mk (below_step (by repeat (first | (with_reducible first | exact HB.out | apply below_alloc | apply pw_below_drewN | apply below_drew1) | exact HB.out)) hb); have n1_ := Aside0.mk (hbox); have n2_ := Aside0.mk ((by rw [hg]; exact (below_size (by repeat (first | (with_reducible first | exact HB.out | apply below_alloc | apply pw_below_drewN | apply below_drew1) | exact HB.out))) : w.heap.size ≤ gb345)); have n3_ := Aside0.mk ((by rw [hg]; exact (below_size (by repeat (first | (with_reducible first | exact HB.out | apply below_alloc | apply pw_below_drewN | apply below_drew1) | exact HB.out))) : w.heap.size ≤ gb345)); clear HB; have HB := n0_; have BK345 := n1_; have GW345 := n2_; have GE345 := n3_; clear n0_ n1_ n2_ n3_; clear hb hbox hg; have hcz13_0 : w12.cell? ⟨gb345, 0, none⟩ = some (.string a0_0) := (blk_cell BK345.out 0).trans rfl; have hcz13_1 : w12.cell? ⟨gb345, 1, none⟩ = some (.int .i64 a0_1) := (blk_cell BK345.out 1).trans rfl; have hcz13_2 : w12.cell? ⟨gb345, 2, none⟩ = some (.int .i64 a0_2) := (blk_cell BK345.out 2).trans rfl; have hcz13_3 : w12.cell? ⟨gb345, 3, none⟩ = some (.string a0_3) := (blk_cell BK345.out 3).trans rfl; have hcz13_4 : w12.cell? ⟨gb345, 4, none⟩ = some (.slice A0_4 l0_4.length c0_4) := (blk_cell BK345.out 4).trans rfl; have hcz13_5 : w12.cell? ⟨gb345, 5, none⟩ = some (.slice A0_5 l0_5.length c0_5) := (blk_cell BK345.out 5).trans rfl; have hfz13_0 := blk_frozen BK345.out 0; have hfz13_1 := blk_frozen BK345.out 1; have hfz13_2 := blk_frozen BK345.out 2; have hfz13_3 := blk_frozen BK345.out 3; have hfz13_4 := blk_frozen BK345.out 4; have hfz13_5 := blk_frozen BK345.out 5) | ((with_reducible refine gate_callee (f := 115) rfl ?_); refine goesL_ (some 12) rfl rfl Try.func115 (by kernel_rfl) rfl #[.agg #[.int .i64 a0_1, .int .i64 a0_2, .string a0_3, .slice A0_4 l0_4.length c0_4]] rfl (by (try simp only [List.map_toArray, List.map_cons, List.map_nil]); first | done | rfl | (simp only [List.length_drop, List.length_take]; rfl)) ?_; (with_reducible refine (value_Check.calls a0_1 a0_2 a0_3 _ _ l0_4 t346 _ ?side1 ?side2 A5.out).mono ?_); (case side1 => repeat (first | exact (Kd.C_below HR0_4.out HB.out) | (with_reducible refine Kd.C_alloc ?_ _) | (with_reducible refine Kd.C_drewN ?_ _) | (with_reducible refine Kd.C_drew ?_))); (case side2 => exact HC0_4.out); rintro e w14 ⟨rfl, hb⟩; refine ⟨_, rfl, ?_⟩; have n0_ := Aside0.mk (blk_below (g := gb345) (o := .cells #[.string a0_0, .int .i64 a0_1, .int .i64 a0_2, .string a0_3, .slice A0_4 l0_4.length c0_4, .slice A0_5 l0_5.length c0_5] 28 (0, 0)) (by (with_reducible repeat (first | refine blk_drewN ?_ _ | refine blk_drew ?_ | refine blk_alloc ?_ _)); exact BK345.out) hb); have n1_ := Aside0.mk (below_step (by repeat (first | (with_reducible first | exact HB.out | apply below_alloc | apply pw_below_drewN | apply below_drew1 | refine below_set ?_ GE345.out) | exact HB.out)) hb); clear BK345; clear HB; have BK345 := n0_; have HB := n1_; clear n0_ n1_; (try clear hb); (try clear hb2); (try clear hk); (try clear hi); have hcz15_0 : w14.cell? ⟨gb345, 0, none⟩ = some (.string a0_0) := (blk_cell BK345.out 0).trans rfl; have hcz15_1 : w14.cell? ⟨gb345, 1, none⟩ = some (.int .i64 a0_1) := (blk_cell BK345.out 1).trans rfl; have hcz15_2 : w14.cell? ⟨gb345, 2, none⟩ = some (.int .i64 a0_2) := (blk_cell BK345.out 2).trans rfl; have hcz15_3 : w14.cell? ⟨gb345, 3, none⟩ = some (.string a0_3) := (blk_cell BK345.out 3).trans rfl; have hcz15_4 : w14.cell? ⟨gb345, 4, none⟩ = some (.slice A0_4 l0_4.length c0_4) := (blk_cell BK345.out 4).trans rfl; have hcz15_5 : w14.cell? ⟨gb345, 5, none⟩ = some (.slice A0_5 l0_5.length c0_5) := (blk_cell BK345.out 5).trans rfl; have hfz15_0 := blk_frozen BK345.out 0; have hfz15_1 := blk_frozen BK345.out 1; have hfz15_2 := blk_frozen BK345.out 2; have hfz15_3 := blk_frozen BK345.out 3; have hfz15_4 := blk_frozen BK345.out 4; have hfz15_5 := blk_frozen BK345.out 5))
    go_loopg [23] k (fun kq v23 w' => ∃ (x23_1 : Int), v23 = .int .i64 x23_1 ∧ Aside0 (value_CheckRecord.l0 kq l0_5 (l0_5.length : Int) x23_1 = some r) ∧ Aside0 (kq ≤ k) ∧ Aside0 (w'.heap[gb345]? = some (.cells #[.string a0_0, .int .i64 a0_1, .int .i64 a0_2, .string a0_3, (.slice A0_4 l0_4.length c0_4), (.slice A0_5 l0_5.length c0_5)] 28 (0, 0))) ∧ Aside0 (Below w.heap.size w w'))
    case atStart => exact ⟨(0), (by first | rfl | (simp; done) | (simp [*]; done)), H', ⟨Nat.le_refl _⟩, ⟨by (with_reducible repeat (first | refine blk_drewN ?_ _ | refine blk_drew ?_ | refine blk_alloc ?_ _)); exact BK345.out⟩, ⟨by repeat (first | (with_reducible first | exact HB.out | apply below_alloc | apply pw_below_drewN | apply below_drew1 | refine below_set ?_ GE345.out) | exact HB.out)⟩⟩
    case round =>
     clear H'
     try clear c1
     try clear c2
     try clear c2b0
     try clear c2b1
     try clear p2
     try clear c6
     try clear c6b0
     try clear c6b1
     try clear c7
     try clear c7b0
     try clear c7b1
     try clear c8
     try clear c11
     try clear hcz11_0
     try clear hcz11_1
     try clear hcz11_2
     try clear hcz11_3
     try clear hcz11_4
     try clear hcz11_5
     try clear hcz13_0
     try clear hcz13_1
     try clear hcz13_2
     try clear hcz13_3
     try clear hcz13_4
     try clear hcz13_5
     try clear hcz15_0
     try clear hcz15_1
     try clear hcz15_2
     try clear hcz15_3
     try clear hcz15_4
     try clear hcz15_5
     try clear hcz4_0
     try clear hcz4_1
     try clear hcz4_2
     try clear hcz4_3
     try clear hcz4_4
     try clear hcz4_5
     try clear hcz9_0
     try clear hcz9_1
     try clear hcz9_2
     try clear hcz9_3
     try clear hcz9_4
     try clear hcz9_5
     try clear hfz11_0
     try clear hfz11_1
     try clear hfz11_2
     try clear hfz11_3
     try clear hfz11_4
     try clear hfz11_5
     try clear hfz13_0
     try clear hfz13_1
     try clear hfz13_2
     try clear hfz13_3
     try clear hfz13_4
     try clear hfz13_5
     try clear hfz15_0
     try clear hfz15_1
     try clear hfz15_2
     try clear hfz15_3
     try clear hfz15_4
     try clear hfz15_5
     try clear hfz4_0
     try clear hfz4_1
     try clear hfz4_2
     try clear hfz4_3
     try clear hfz4_4
     try clear hfz4_5
     try clear hfz9_0
     try clear hfz9_1
     try clear hfz9_2
     try clear hfz9_3
     try clear hfz9_4
     try clear hfz9_5
     obtain ⟨x23_1, rfl, HA, HK1, BK345, HB⟩ := hrel
     cases gk with
     | zero => exact absurd HA.out (by simp [value_CheckRecord.l0])
     | succ k1 =>
      have H := HA.out
      clear HA
      simp only [value_CheckRecord.l0] at H
      by_cases c16 : x23_1 < (l0_5.length : Int)
      ·rw [if_pos c16] at H
       have c16b0 : decide (x23_1 < (l0_5.length : Int)) = true := decide_eq_true c16
       clear c16
       by_cases c17 : 0 ≤ x23_1
       ·rw [if_pos c17] at H
        have c17b0 : decide (0 ≤ x23_1) = true := decide_eq_true c17
        clear c17
        by_cases c18 : x23_1 < (l0_5.length : Int)
        ·rw [if_pos c18] at H
         have c18b0 : decide (x23_1 < (l0_5.length : Int)) = true := decide_eq_true c18
         clear c18
         by_cases c19 : (rd l0_5 x23_1) < 0
         ·rw [if_pos c19] at H
          have c19b0 : decide ((rd l0_5 x23_1) < 0) = true := decide_eq_true c19
          clear c19
          obtain rfl := Option.some.inj H
          have p347 : 0 ≤ (x23_1 : Int) := of_decide_eq_true (by first | (with_reducible assumption) | assumption)
          have q347 : x23_1 < (l0_5.length : Int) := of_decide_eq_true (by first | (with_reducible assumption) | assumption)
          obtain ⟨ad347, e347, hx347_0⟩ := Kd.at_int HR0_5.out x23_1 p347 q347
          cases e347
          replace hx347_0 := (HB.out.cell (World.block_lt_of_cell? w _ hx347_0)).trans hx347_0
          replace p347 := eq_true p347
          replace q347 := eq_true q347
          go_wp2
          go_ret
          exact ⟨by first | rfl | (simp [errW_none, errW_some] <;> rfl) | (simp [*, errW_none, errW_some] <;> rfl), by repeat (first | (with_reducible first | exact HB.out | apply below_alloc | apply pw_below_drewN | apply below_drew1 | refine below_set ?_ GE345.out) | exact HB.out)⟩
         ·rw [if_neg c19] at H
          have c19b0 : decide ((rd l0_5 x23_1) < 0) = false := decide_eq_false c19
          clear c19
          by_cases c20 : (rd l0_5 x23_1) > 9
          ·rw [if_pos c20] at H
           have c20b0 : decide (9 < (rd l0_5 x23_1)) = true := decide_eq_true c20
           clear c20
           obtain rfl := Option.some.inj H
           have p347 : 0 ≤ (x23_1 : Int) := of_decide_eq_true (by first | (with_reducible assumption) | assumption)
           have q347 : x23_1 < (l0_5.length : Int) := of_decide_eq_true (by first | (with_reducible assumption) | assumption)
           obtain ⟨ad347, e347, hx347_0⟩ := Kd.at_int HR0_5.out x23_1 p347 q347
           cases e347
           replace hx347_0 := (HB.out.cell (World.block_lt_of_cell? w _ hx347_0)).trans hx347_0
           replace p347 := eq_true p347
           replace q347 := eq_true q347
           go_wp2
           go_ret
           exact ⟨by first | rfl | (simp [errW_none, errW_some] <;> rfl) | (simp [*, errW_none, errW_some] <;> rfl), by repeat (first | (with_reducible first | exact HB.out | apply below_alloc | apply pw_below_drewN | apply below_drew1 | refine below_set ?_ GE345.out) | exact HB.out)⟩
          ·rw [if_neg c20] at H
           have c20b0 : decide (9 < (rd l0_5 x23_1)) = false := decide_eq_false c20
           clear c20
           have H' := Aside0.mk H
           clear H
           have p347 : 0 ≤ (x23_1 : Int) := of_decide_eq_true (by first | (with_reducible assumption) | assumption)
           have q347 : x23_1 < (l0_5.length : Int) := of_decide_eq_true (by first | (with_reducible assumption) | assumption)
           obtain ⟨ad347, e347, hx347_0⟩ := Kd.at_int HR0_5.out x23_1 p347 q347
           cases e347
           replace hx347_0 := (HB.out.cell (World.block_lt_of_cell? w _ hx347_0)).trans hx347_0
           replace p347 := eq_true p347
           replace q347 := eq_true q347
           go_wp2
           go_roundg k1
           case measure => have := HK1.out; omega
           case rel => exact ⟨(wrap64 (x23_1 + 1)), (by first | rfl | (simp; done) | (simp [*]; done)), H', ⟨by have := HK1.out; omega⟩, ⟨by (with_reducible repeat (first | refine blk_drewN ?_ _ | refine blk_drew ?_ | refine blk_alloc ?_ _)); exact BK345.out⟩, ⟨by repeat (first | (with_reducible first | exact HB.out | apply below_alloc | apply pw_below_drewN | apply below_drew1 | refine below_set ?_ GE345.out) | exact HB.out)⟩⟩
        ·rw [if_neg c18] at H
         exact absurd H (by simp)
       ·rw [if_neg c17] at H
        exact absurd H (by simp)
      ·rw [if_neg c16] at H
       have c16b0 : decide (x23_1 < (l0_5.length : Int)) = false := decide_eq_false c16
       clear c16
       obtain rfl := Option.some.inj H
       go_wp2
       go_ret
       exact ⟨by first | rfl | (simp [errW_none, errW_some] <;> rfl) | (simp [*, errW_none, errW_some] <;> rfl), by repeat (first | (with_reducible first | exact HB.out | apply below_alloc | apply pw_below_drewN | apply below_drew1 | refine below_set ?_ GE345.out) | exact HB.out)⟩
  ·rw [if_neg c6] at H
   have c6b0 : (t346 == 0) = false := beq_eq_false_iff_ne.mpr c6
   have c6b1 : (t346 != 0) = true := bne_iff_ne.mpr c6
   obtain rfl := Option.some.inj H
   go_enter Try.func84, Try.ntmps84
   go_wp2_with (first | ((with_reducible refine gate_dst (N := 1) rfl ?_); refine box_event ?hg (N := 1) ?hd (cs := #[.string a0_0, .int .i64 a0_1, .int .i64 a0_2, .string a0_3, .slice A0_4 l0_4.length c0_4, .slice A0_5 l0_5.length c0_5]) (t := 28) ?hr ?_; (case hd => rfl); (case hg => rfl); (case hr => first | (go_simp; done) | (go_simp; rfl)); intro gb345 hg w21 hbox hb; have n0_ := Aside0.mk (below_step (by repeat (first | (with_reducible first | exact HB.out | apply below_alloc | apply pw_below_drewN | apply below_drew1) | exact HB.out)) hb); have n1_ := Aside0.mk (hbox); have n2_ := Aside0.mk ((by rw [hg]; exact (below_size (by repeat (first | (with_reducible first | exact HB.out | apply below_alloc | apply pw_below_drewN | apply below_drew1) | exact HB.out))) : w.heap.size ≤ gb345)); have n3_ := Aside0.mk ((by rw [hg]; exact (below_size (by repeat (first | (with_reducible first | exact HB.out | apply below_alloc | apply pw_below_drewN | apply below_drew1) | exact HB.out))) : w.heap.size ≤ gb345)); clear HB; have HB := n0_; have BK345 := n1_; have GW345 := n2_; have GE345 := n3_; clear n0_ n1_ n2_ n3_; clear hb hbox hg; have hcz22_0 : w21.cell? ⟨gb345, 0, none⟩ = some (.string a0_0) := (blk_cell BK345.out 0).trans rfl; have hcz22_1 : w21.cell? ⟨gb345, 1, none⟩ = some (.int .i64 a0_1) := (blk_cell BK345.out 1).trans rfl; have hcz22_2 : w21.cell? ⟨gb345, 2, none⟩ = some (.int .i64 a0_2) := (blk_cell BK345.out 2).trans rfl; have hcz22_3 : w21.cell? ⟨gb345, 3, none⟩ = some (.string a0_3) := (blk_cell BK345.out 3).trans rfl; have hcz22_4 : w21.cell? ⟨gb345, 4, none⟩ = some (.slice A0_4 l0_4.length c0_4) := (blk_cell BK345.out 4).trans rfl; have hcz22_5 : w21.cell? ⟨gb345, 5, none⟩ = some (.slice A0_5 l0_5.length c0_5) := (blk_cell BK345.out 5).trans rfl; have hfz22_0 := blk_frozen BK345.out 0; have hfz22_1 := blk_frozen BK345.out 1; have hfz22_2 := blk_frozen BK345.out 2; have hfz22_3 := blk_frozen BK345.out 3; have hfz22_4 := blk_frozen BK345.out 4; have hfz22_5 := blk_frozen BK345.out 5) | ((with_reducible refine gate_callee (f := 115) rfl ?_); refine goesL_ (some 12) rfl rfl Try.func115 (by kernel_rfl) rfl #[.agg #[.int .i64 a0_1, .int .i64 a0_2, .string a0_3, .slice A0_4 l0_4.length c0_4]] rfl (by (try simp only [List.map_toArray, List.map_cons, List.map_nil]); first | done | rfl | (simp only [List.length_drop, List.length_take]; rfl)) ?_; (with_reducible refine (value_Check.calls a0_1 a0_2 a0_3 _ _ l0_4 t346 _ ?side1 ?side2 A5.out).mono ?_); (case side1 => repeat (first | exact (Kd.C_below HR0_4.out HB.out) | (with_reducible refine Kd.C_alloc ?_ _) | (with_reducible refine Kd.C_drewN ?_ _) | (with_reducible refine Kd.C_drew ?_))); (case side2 => exact HC0_4.out); rintro e w23 ⟨rfl, hb⟩; refine ⟨_, rfl, ?_⟩; have n0_ := Aside0.mk (blk_below (g := gb345) (o := .cells #[.string a0_0, .int .i64 a0_1, .int .i64 a0_2, .string a0_3, .slice A0_4 l0_4.length c0_4, .slice A0_5 l0_5.length c0_5] 28 (0, 0)) (by (with_reducible repeat (first | refine blk_drewN ?_ _ | refine blk_drew ?_ | refine blk_alloc ?_ _)); exact BK345.out) hb); have n1_ := Aside0.mk (below_step (by repeat (first | (with_reducible first | exact HB.out | apply below_alloc | apply pw_below_drewN | apply below_drew1 | refine below_set ?_ GE345.out) | exact HB.out)) hb); clear BK345; clear HB; have BK345 := n0_; have HB := n1_; clear n0_ n1_; (try clear hb); (try clear hb2); (try clear hk); (try clear hi)))
   go_ret
   exact ⟨by first | rfl | (simp [errW_none, errW_some] <;> rfl) | (simp [*, errW_none, errW_some] <;> rfl), by repeat (first | (with_reducible first | exact HB.out | apply below_alloc | apply pw_below_drewN | apply below_drew1 | refine below_set ?_ GE345.out) | exact HB.out)⟩

/-! ### wire_fitRecords: function 119 -/
def wire_fitRecords.l0 : Nat → List (S28) → Int → Int → Option (Int)
 | 0, _, _, _ => none
 | k + 1, x9, x10, x11 => if x11 < x10 then (if 0 ≤ x11 then (if x11 < (x9.length : Int) then ((value_CheckRecord.f k ((rd_T28 x9 x11).f0) ((rd_T28 x9 x11).f1.f0) ((rd_T28 x9 x11).f1.f1) ((rd_T28 x9 x11).f1.f2) ((rd_T28 x9 x11).f1.f3) ((rd_T28 x9 x11).f2)).bind fun t350 => (if t350 = 0 then (wire_fitRecords.l0 k x9 x10 (wrap64 (x11 + 1))) else (some t350))) else (none)) else (none)) else (some 0)
def wire_fitRecords.f (k : Nat) (l0 : List (S28)) : Option (Int) := if (l0.length : Int) > 256 then (some 43) else (wire_fitRecords.l0 k l0 (l0.length : Int) 0)
set_option maxHeartbeats 8000000 in
set_option maxRecDepth 100000 in
theorem wire_fitRecords.calls (k : Nat) (A0 : Option Addr) (c0 : Nat) (l0 : List (S28)) (r : Int) (w : World) (hr0 : Kd.C k28 w A0 l0.length l0) (hc0 : l0.length ≤ c0) (h : wire_fitRecords.f k l0 = some r) :
  Calls Try.prog 119 #[.slice A0 l0.length c0] w fun e w' => e = .returned (.int .i64 r) ∧ Below w.heap.size w w' := by
 have hu28 := Try.underlying28
 have HR0 := Aside0.mk hr0
 have HC0 := Aside0.mk hc0
 clear hr0 hc0
 have HB := Aside0.mk (Below.refl w.heap.size w)
 have H : (if (l0.length : Int) > 256 then (some 43) else (wire_fitRecords.l0 k l0 (l0.length : Int) 0)) = some r := h
 clear h
 by_cases c2 : (l0.length : Int) > 256
 ·rw [if_pos c2] at H
  have c2b0 : decide (256 < (l0.length : Int)) = true := decide_eq_true c2
  have c2b1 : decide (256 < l0.length) = true := decide_eq_true (by omega)
  clear c2
  obtain rfl := Option.some.inj H
  go_enter Try.func119, Try.ntmps119
  go_wp2
  go_ret
  exact ⟨by first | rfl | (simp [errW_none, errW_some] <;> rfl) | (simp [*, errW_none, errW_some] <;> rfl), by repeat (first | (with_reducible first | exact HB.out | apply below_alloc | apply pw_below_drewN | apply below_drew1) | exact HB.out)⟩
 ·rw [if_neg c2] at H
  have c2b0 : decide (256 < (l0.length : Int)) = false := decide_eq_false c2
  have c2b1 : decide (256 < l0.length) = false := decide_eq_false (by omega)
  clear c2
  have H' := Aside0.mk H
  clear H
  go_enter Try.func119, Try.ntmps119
  go_wp2
  go_loopg [11] k (fun kq v11 w' => ∃ (x11_1 : Int), v11 = .int .i64 x11_1 ∧ Aside0 (wire_fitRecords.l0 kq l0 (l0.length : Int) x11_1 = some r) ∧ Aside0 (kq ≤ k) ∧ Aside0 (Below w.heap.size w w'))
  case atStart => exact ⟨(0), (by first | rfl | (simp; done) | (simp [*]; done)), H', ⟨Nat.le_refl _⟩, ⟨by repeat (first | (with_reducible first | exact HB.out | apply below_alloc | apply pw_below_drewN | apply below_drew1) | exact HB.out)⟩⟩
  case round =>
   clear H'
   try clear c1
   try clear c2
   try clear c2b0
   try clear c2b1
   try clear p2
   obtain ⟨x11_1, rfl, HA, HK1, HB⟩ := hrel
   cases gk with
   | zero => exact absurd HA.out (by simp [wire_fitRecords.l0])
   | succ k1 =>
    have H := HA.out
    clear HA
    simp only [wire_fitRecords.l0] at H
    by_cases c3 : x11_1 < (l0.length : Int)
    ·rw [if_pos c3] at H
     have c3b0 : decide (x11_1 < (l0.length : Int)) = true := decide_eq_true c3
     clear c3
     by_cases c4 : 0 ≤ x11_1
     ·rw [if_pos c4] at H
      have c4b0 : decide (0 ≤ x11_1) = true := decide_eq_true c4
      clear c4
      by_cases c5 : x11_1 < (l0.length : Int)
      ·rw [if_pos c5] at H
       have c5b0 : decide (x11_1 < (l0.length : Int)) = true := decide_eq_true c5
       clear c5
       replace H := Option.bind_eq_some_iff.mp H
       obtain ⟨t350, A60, H⟩ := H
       replace H : (if t350 = 0 then (wire_fitRecords.l0 k1 l0 (l0.length : Int) (wrap64 (x11_1 + 1))) else (some t350)) = some r := H
       have A6 := Aside0.mk A60
       clear A60
       by_cases c7 : t350 = 0
       ·rw [if_pos c7] at H
        have c7b0 : (t350 == 0) = true := beq_iff_eq.mpr c7
        have c7b1 : (t350 != 0) = false := bne_eq_false_iff_eq.mpr c7
        clear c7
        have H' := Aside0.mk H
        clear H
        have p348 : 0 ≤ (x11_1 : Int) := of_decide_eq_true (by first | (with_reducible assumption) | assumption)
        have q348 : x11_1 < (l0.length : Int) := of_decide_eq_true (by first | (with_reducible assumption) | assumption)
        obtain ⟨ad348, A348_4, c348_4, A348_5, c348_5, e348, hx348_0, hx348_1, hx348_2, hx348_3, hx348_4, hx348_5, hl348_4, hi348_4, hl348_5, hi348_5⟩ := at_T28 HR0.out x11_1 p348 q348
        cases e348
        replace hx348_0 := (HB.out.cell (World.block_lt_of_cell? w _ hx348_0)).trans hx348_0
        replace hx348_1 := (HB.out.cell (World.block_lt_of_cell? w _ hx348_1)).trans hx348_1
        replace hx348_2 := (HB.out.cell (World.block_lt_of_cell? w _ hx348_2)).trans hx348_2
        replace hx348_3 := (HB.out.cell (World.block_lt_of_cell? w _ hx348_3)).trans hx348_3
        replace hx348_4 := (HB.out.cell (World.block_lt_of_cell? w _ hx348_4)).trans hx348_4
        replace hx348_5 := (HB.out.cell (World.block_lt_of_cell? w _ hx348_5)).trans hx348_5
        have HR348_4 := Aside0.mk hi348_4
        have HC348_4 := Aside0.mk hl348_4
        clear hi348_4 hl348_4
        have HR348_5 := Aside0.mk hi348_5
        have HC348_5 := Aside0.mk hl348_5
        clear hi348_5 hl348_5
        replace p348 := eq_true p348
        replace q348 := eq_true q348
        go_wp2_with (first | ((with_reducible refine gate_dst (N := 4) rfl ?_); refine box_event ?hg (N := 4) ?hd (cs := #[.string (⟨#[]⟩ : ByteArray), .int .i64 0, .int .i64 0, .string (⟨#[]⟩ : ByteArray), .slice none 0 0, .slice none 0 0]) (t := 28) ?hr ?_; (case hd => rfl); (case hg => rfl); (case hr => first | (go_simp; done) | (go_simp; rfl)); intro gb349 hg w8 hbox hb; have n0_ := Aside0.mk (below_step (by repeat (first | (with_reducible first | exact HB.out | apply below_alloc | apply pw_below_drewN | apply below_drew1) | exact HB.out)) hb); have n1_ := Aside0.mk (hbox); have n2_ := Aside0.mk ((by rw [hg]; exact (below_size (by repeat (first | (with_reducible first | exact HB.out | apply below_alloc | apply pw_below_drewN | apply below_drew1) | exact HB.out))) : w.heap.size ≤ gb349)); have n3_ := Aside0.mk ((by rw [hg]; exact (below_size (by repeat (first | (with_reducible first | exact HB.out | apply below_alloc | apply pw_below_drewN | apply below_drew1) | exact HB.out))) : w.heap.size ≤ gb349)); clear HB; have HB := n0_; have BK349 := n1_; have GW349 := n2_; have GE349 := n3_; clear n0_ n1_ n2_ n3_; clear hb hbox hg; have hcz9_0 : w8.cell? ⟨gb349, 0, none⟩ = some (.string (⟨#[]⟩ : ByteArray)) := (blk_cell BK349.out 0).trans rfl; have hcz9_1 : w8.cell? ⟨gb349, 1, none⟩ = some (.int .i64 0) := (blk_cell BK349.out 1).trans rfl; have hcz9_2 : w8.cell? ⟨gb349, 2, none⟩ = some (.int .i64 0) := (blk_cell BK349.out 2).trans rfl; have hcz9_3 : w8.cell? ⟨gb349, 3, none⟩ = some (.string (⟨#[]⟩ : ByteArray)) := (blk_cell BK349.out 3).trans rfl; have hcz9_4 : w8.cell? ⟨gb349, 4, none⟩ = some (.slice none 0 0) := (blk_cell BK349.out 4).trans rfl; have hcz9_5 : w8.cell? ⟨gb349, 5, none⟩ = some (.slice none 0 0) := (blk_cell BK349.out 5).trans rfl; have hfz9_0 := blk_frozen BK349.out 0; have hfz9_1 := blk_frozen BK349.out 1; have hfz9_2 := blk_frozen BK349.out 2; have hfz9_3 := blk_frozen BK349.out 3; have hfz9_4 := blk_frozen BK349.out 4; have hfz9_5 := blk_frozen BK349.out 5) | ((with_reducible refine gate_callee (f := 84) rfl ?_); refine goesL_ (some 16) rfl rfl Try.func84 (by kernel_rfl) rfl #[.agg #[.string ((rd_T28 l0 x11_1).f0), .int .i64 ((rd_T28 l0 x11_1).f1.f0), .int .i64 ((rd_T28 l0 x11_1).f1.f1), .string ((rd_T28 l0 x11_1).f1.f2), .slice A348_4 ((rd_T28 l0 x11_1).f1.f3).length c348_4, .slice A348_5 ((rd_T28 l0 x11_1).f2).length c348_5]] rfl (by (try simp only [List.map_toArray, List.map_cons, List.map_nil]); first | done | rfl | (simp only [List.length_drop, List.length_take]; rfl)) ?_; (with_reducible refine (value_CheckRecord.calls k1 ((rd_T28 l0 x11_1).f0) ((rd_T28 l0 x11_1).f1.f0) ((rd_T28 l0 x11_1).f1.f1) ((rd_T28 l0 x11_1).f1.f2) _ _ ((rd_T28 l0 x11_1).f1.f3) _ _ ((rd_T28 l0 x11_1).f2) t350 _ ?side1 ?side2 ?side3 ?side4 A6.out).mono ?_); (case side1 => exact Kd.C_below HR348_4.out (by repeat (first | (with_reducible first | exact HB.out | apply below_alloc | apply pw_below_drewN | apply below_drew1 | refine below_set ?_ GE349.out) | exact HB.out))); (case side2 => exact HC348_4.out); (case side3 => exact Kd.C_below HR348_5.out (by repeat (first | (with_reducible first | exact HB.out | apply below_alloc | apply pw_below_drewN | apply below_drew1 | refine below_set ?_ GE349.out) | exact HB.out))); (case side4 => exact HC348_5.out); rintro e w10 ⟨rfl, hb⟩; refine ⟨_, rfl, ?_⟩; have n0_ := Aside0.mk (blk_below (g := gb349) (o := .cells #[.string ((rd_T28 l0 x11_1).f0), .int .i64 ((rd_T28 l0 x11_1).f1.f0), .int .i64 ((rd_T28 l0 x11_1).f1.f1), .string ((rd_T28 l0 x11_1).f1.f2), .slice A348_4 ((rd_T28 l0 x11_1).f1.f3).length c348_4, .slice A348_5 ((rd_T28 l0 x11_1).f2).length c348_5] 28 (0, 0)) (by (with_reducible repeat (first | refine blk_drewN ?_ _ | refine blk_drew ?_ | refine blk_alloc ?_ _)); refine blk_put (cs := #[.string ((rd_T28 l0 x11_1).f0), .int .i64 ((rd_T28 l0 x11_1).f1.f0), .int .i64 ((rd_T28 l0 x11_1).f1.f1), .string ((rd_T28 l0 x11_1).f1.f2), .slice A348_4 ((rd_T28 l0 x11_1).f1.f3).length c348_4, .slice none 0 0]) ?_ 5 _ rfl; (with_reducible repeat (first | refine blk_drewN ?_ _ | refine blk_drew ?_ | refine blk_alloc ?_ _)); refine blk_put (cs := #[.string ((rd_T28 l0 x11_1).f0), .int .i64 ((rd_T28 l0 x11_1).f1.f0), .int .i64 ((rd_T28 l0 x11_1).f1.f1), .string ((rd_T28 l0 x11_1).f1.f2), .slice none 0 0, .slice none 0 0]) ?_ 4 _ rfl; (with_reducible repeat (first | refine blk_drewN ?_ _ | refine blk_drew ?_ | refine blk_alloc ?_ _)); refine blk_put (cs := #[.string ((rd_T28 l0 x11_1).f0), .int .i64 ((rd_T28 l0 x11_1).f1.f0), .int .i64 ((rd_T28 l0 x11_1).f1.f1), .string (⟨#[]⟩ : ByteArray), .slice none 0 0, .slice none 0 0]) ?_ 3 _ rfl; (with_reducible repeat (first | refine blk_drewN ?_ _ | refine blk_drew ?_ | refine blk_alloc ?_ _)); refine blk_put (cs := #[.string ((rd_T28 l0 x11_1).f0), .int .i64 ((rd_T28 l0 x11_1).f1.f0), .int .i64 0, .string (⟨#[]⟩ : ByteArray), .slice none 0 0, .slice none 0 0]) ?_ 2 _ rfl; (with_reducible repeat (first | refine blk_drewN ?_ _ | refine blk_drew ?_ | refine blk_alloc ?_ _)); refine blk_put (cs := #[.string ((rd_T28 l0 x11_1).f0), .int .i64 0, .int .i64 0, .string (⟨#[]⟩ : ByteArray), .slice none 0 0, .slice none 0 0]) ?_ 1 _ rfl; (with_reducible repeat (first | refine blk_drewN ?_ _ | refine blk_drew ?_ | refine blk_alloc ?_ _)); refine blk_put (cs := #[.string (⟨#[]⟩ : ByteArray), .int .i64 0, .int .i64 0, .string (⟨#[]⟩ : ByteArray), .slice none 0 0, .slice none 0 0]) ?_ 0 _ rfl; (with_reducible repeat (first | refine blk_drewN ?_ _ | refine blk_drew ?_ | refine blk_alloc ?_ _)); exact BK349.out) hb); have n1_ := Aside0.mk (below_step (by repeat (first | (with_reducible first | exact HB.out | apply below_alloc | apply pw_below_drewN | apply below_drew1 | refine below_set ?_ GE349.out) | exact HB.out)) hb); clear BK349; clear HB; have BK349 := n0_; have HB := n1_; clear n0_ n1_; (try clear hb); (try clear hb2); (try clear hk); (try clear hi)))
        go_roundg k1
        case measure => have := HK1.out; omega
        case rel => exact ⟨(wrap64 (x11_1 + 1)), (by first | rfl | (simp; done) | (simp [*]; done)), H', ⟨by have := HK1.out; omega⟩, ⟨by repeat (first | (with_reducible first | exact HB.out | apply below_alloc | apply pw_below_drewN | apply below_drew1 | refine below_set ?_ GE349.out) | exact HB.out)⟩⟩
       ·rw [if_neg c7] at H
        have c7b0 : (t350 == 0) = false := beq_eq_false_iff_ne.mpr c7
        have c7b1 : (t350 != 0) = true := bne_iff_ne.mpr c7
        obtain rfl := Option.some.inj H
        have p348 : 0 ≤ (x11_1 : Int) := of_decide_eq_true (by first | (with_reducible assumption) | assumption)
        have q348 : x11_1 < (l0.length : Int) := of_decide_eq_true (by first | (with_reducible assumption) | assumption)
        obtain ⟨ad348, A348_4, c348_4, A348_5, c348_5, e348, hx348_0, hx348_1, hx348_2, hx348_3, hx348_4, hx348_5, hl348_4, hi348_4, hl348_5, hi348_5⟩ := at_T28 HR0.out x11_1 p348 q348
        cases e348
        replace hx348_0 := (HB.out.cell (World.block_lt_of_cell? w _ hx348_0)).trans hx348_0
        replace hx348_1 := (HB.out.cell (World.block_lt_of_cell? w _ hx348_1)).trans hx348_1
        replace hx348_2 := (HB.out.cell (World.block_lt_of_cell? w _ hx348_2)).trans hx348_2
        replace hx348_3 := (HB.out.cell (World.block_lt_of_cell? w _ hx348_3)).trans hx348_3
        replace hx348_4 := (HB.out.cell (World.block_lt_of_cell? w _ hx348_4)).trans hx348_4
        replace hx348_5 := (HB.out.cell (World.block_lt_of_cell? w _ hx348_5)).trans hx348_5
        have HR348_4 := Aside0.mk hi348_4
        have HC348_4 := Aside0.mk hl348_4
        clear hi348_4 hl348_4
        have HR348_5 := Aside0.mk hi348_5
        have HC348_5 := Aside0.mk hl348_5
        clear hi348_5 hl348_5
        replace p348 := eq_true p348
        replace q348 := eq_true q348
        go_wp2_with (first | ((with_reducible refine gate_dst (N := 4) rfl ?_); refine box_event ?hg (N := 4) ?hd (cs := #[.string (⟨#[]⟩ : ByteArray), .int .i64 0, .int .i64 0, .string (⟨#[]⟩ : ByteArray), .slice none 0 0, .slice none 0 0]) (t := 28) ?hr ?_; (case hd => rfl); (case hg => rfl); (case hr => first | (go_simp; done) | (go_simp; rfl)); intro gb349 hg w11 hbox hb; have n0_ := Aside0.mk (below_step (by repeat (first | (with_reducible first | exact HB.out | apply below_alloc | apply pw_below_drewN | apply below_drew1) | exact HB.out)) hb); have n1_ := Aside0.mk (hbox); have n2_ := Aside0.mk ((by rw [hg]; exact (below_size (by repeat (first | (with_reducible first | exact HB.out | apply below_alloc | apply pw_below_drewN | apply below_drew1) | exact HB.out))) : w.heap.size ≤ gb349)); have n3_ := Aside0.mk ((by rw [hg]; exact (below_size (by repeat (first | (with_reducible first | exact HB.out | apply below_alloc | apply pw_below_drewN | apply below_drew1) | exact HB.out))) : w.heap.size ≤ gb349)); clear HB; have HB := n0_; have BK349 := n1_; have GW349 := n2_; have GE349 := n3_; clear n0_ n1_ n2_ n3_; clear hb hbox hg; have hcz12_0 : w11.cell? ⟨gb349, 0, none⟩ = some (.string (⟨#[]⟩ : ByteArray)) := (blk_cell BK349.out 0).trans rfl; have hcz12_1 : w11.cell? ⟨gb349, 1, none⟩ = some (.int .i64 0) := (blk_cell BK349.out 1).trans rfl; have hcz12_2 : w11.cell? ⟨gb349, 2, none⟩ = some (.int .i64 0) := (blk_cell BK349.out 2).trans rfl; have hcz12_3 : w11.cell? ⟨gb349, 3, none⟩ = some (.string (⟨#[]⟩ : ByteArray)) := (blk_cell BK349.out 3).trans rfl; have hcz12_4 : w11.cell? ⟨gb349, 4, none⟩ = some (.slice none 0 0) := (blk_cell BK349.out 4).trans rfl; have hcz12_5 : w11.cell? ⟨gb349, 5, none⟩ = some (.slice none 0 0) := (blk_cell BK349.out 5).trans rfl; have hfz12_0 := blk_frozen BK349.out 0; have hfz12_1 := blk_frozen BK349.out 1; have hfz12_2 := blk_frozen BK349.out 2; have hfz12_3 := blk_frozen BK349.out 3; have hfz12_4 := blk_frozen BK349.out 4; have hfz12_5 := blk_frozen BK349.out 5) | ((with_reducible refine gate_callee (f := 84) rfl ?_); refine goesL_ (some 16) rfl rfl Try.func84 (by kernel_rfl) rfl #[.agg #[.string ((rd_T28 l0 x11_1).f0), .int .i64 ((rd_T28 l0 x11_1).f1.f0), .int .i64 ((rd_T28 l0 x11_1).f1.f1), .string ((rd_T28 l0 x11_1).f1.f2), .slice A348_4 ((rd_T28 l0 x11_1).f1.f3).length c348_4, .slice A348_5 ((rd_T28 l0 x11_1).f2).length c348_5]] rfl (by (try simp only [List.map_toArray, List.map_cons, List.map_nil]); first | done | rfl | (simp only [List.length_drop, List.length_take]; rfl)) ?_; (with_reducible refine (value_CheckRecord.calls k1 ((rd_T28 l0 x11_1).f0) ((rd_T28 l0 x11_1).f1.f0) ((rd_T28 l0 x11_1).f1.f1) ((rd_T28 l0 x11_1).f1.f2) _ _ ((rd_T28 l0 x11_1).f1.f3) _ _ ((rd_T28 l0 x11_1).f2) t350 _ ?side1 ?side2 ?side3 ?side4 A6.out).mono ?_); (case side1 => exact Kd.C_below HR348_4.out (by repeat (first | (with_reducible first | exact HB.out | apply below_alloc | apply pw_below_drewN | apply below_drew1 | refine below_set ?_ GE349.out) | exact HB.out))); (case side2 => exact HC348_4.out); (case side3 => exact Kd.C_below HR348_5.out (by repeat (first | (with_reducible first | exact HB.out | apply below_alloc | apply pw_below_drewN | apply below_drew1 | refine below_set ?_ GE349.out) | exact HB.out))); (case side4 => exact HC348_5.out); rintro e w13 ⟨rfl, hb⟩; refine ⟨_, rfl, ?_⟩; have n0_ := Aside0.mk (blk_below (g := gb349) (o := .cells #[.string ((rd_T28 l0 x11_1).f0), .int .i64 ((rd_T28 l0 x11_1).f1.f0), .int .i64 ((rd_T28 l0 x11_1).f1.f1), .string ((rd_T28 l0 x11_1).f1.f2), .slice A348_4 ((rd_T28 l0 x11_1).f1.f3).length c348_4, .slice A348_5 ((rd_T28 l0 x11_1).f2).length c348_5] 28 (0, 0)) (by (with_reducible repeat (first | refine blk_drewN ?_ _ | refine blk_drew ?_ | refine blk_alloc ?_ _)); refine blk_put (cs := #[.string ((rd_T28 l0 x11_1).f0), .int .i64 ((rd_T28 l0 x11_1).f1.f0), .int .i64 ((rd_T28 l0 x11_1).f1.f1), .string ((rd_T28 l0 x11_1).f1.f2), .slice A348_4 ((rd_T28 l0 x11_1).f1.f3).length c348_4, .slice none 0 0]) ?_ 5 _ rfl; (with_reducible repeat (first | refine blk_drewN ?_ _ | refine blk_drew ?_ | refine blk_alloc ?_ _)); refine blk_put (cs := #[.string ((rd_T28 l0 x11_1).f0), .int .i64 ((rd_T28 l0 x11_1).f1.f0), .int .i64 ((rd_T28 l0 x11_1).f1.f1), .string ((rd_T28 l0 x11_1).f1.f2), .slice none 0 0, .slice none 0 0]) ?_ 4 _ rfl; (with_reducible repeat (first | refine blk_drewN ?_ _ | refine blk_drew ?_ | refine blk_alloc ?_ _)); refine blk_put (cs := #[.string ((rd_T28 l0 x11_1).f0), .int .i64 ((rd_T28 l0 x11_1).f1.f0), .int .i64 ((rd_T28 l0 x11_1).f1.f1), .string (⟨#[]⟩ : ByteArray), .slice none 0 0, .slice none 0 0]) ?_ 3 _ rfl; (with_reducible repeat (first | refine blk_drewN ?_ _ | refine blk_drew ?_ | refine blk_alloc ?_ _)); refine blk_put (cs := #[.string ((rd_T28 l0 x11_1).f0), .int .i64 ((rd_T28 l0 x11_1).f1.f0), .int .i64 0, .string (⟨#[]⟩ : ByteArray), .slice none 0 0, .slice none 0 0]) ?_ 2 _ rfl; (with_reducible repeat (first | refine blk_drewN ?_ _ | refine blk_drew ?_ | refine blk_alloc ?_ _)); refine blk_put (cs := #[.string ((rd_T28 l0 x11_1).f0), .int .i64 0, .int .i64 0, .string (⟨#[]⟩ : ByteArray), .slice none 0 0, .slice none 0 0]) ?_ 1 _ rfl; (with_reducible repeat (first | refine blk_drewN ?_ _ | refine blk_drew ?_ | refine blk_alloc ?_ _)); refine blk_put (cs := #[.string (⟨#[]⟩ : ByteArray), .int .i64 0, .int .i64 0, .string (⟨#[]⟩ : ByteArray), .slice none 0 0, .slice none 0 0]) ?_ 0 _ rfl; (with_reducible repeat (first | refine blk_drewN ?_ _ | refine blk_drew ?_ | refine blk_alloc ?_ _)); exact BK349.out) hb); have n1_ := Aside0.mk (below_step (by repeat (first | (with_reducible first | exact HB.out | apply below_alloc | apply pw_below_drewN | apply below_drew1 | refine below_set ?_ GE349.out) | exact HB.out)) hb); clear BK349; clear HB; have BK349 := n0_; have HB := n1_; clear n0_ n1_; (try clear hb); (try clear hb2); (try clear hk); (try clear hi)))
        go_ret
        exact ⟨by first | rfl | (simp [errW_none, errW_some] <;> rfl) | (simp [*, errW_none, errW_some] <;> rfl), by repeat (first | (with_reducible first | exact HB.out | apply below_alloc | apply pw_below_drewN | apply below_drew1 | refine below_set ?_ GE349.out) | exact HB.out)⟩
      ·rw [if_neg c5] at H
       exact absurd H (by simp)
     ·rw [if_neg c4] at H
      exact absurd H (by simp)
    ·rw [if_neg c3] at H
     have c3b0 : decide (x11_1 < (l0.length : Int)) = false := decide_eq_false c3
     clear c3
     obtain rfl := Option.some.inj H
     go_wp2
     go_ret
     exact ⟨by first | rfl | (simp [errW_none, errW_some] <;> rfl) | (simp [*, errW_none, errW_some] <;> rfl), by repeat (first | (with_reducible first | exact HB.out | apply below_alloc | apply pw_below_drewN | apply below_drew1) | exact HB.out)⟩

end Go.Proofs.Ythmkioodkldgbaa.PD
