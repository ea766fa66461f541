/- What each Go function named in this text computes, as a Lean function, and that the Go code comes to it; conditions: those in each theorem. (Lines written by this session's program.) -/
import Derived.Test.YtfholpajdkjbbaaQdPDx0
import Derived.Test.YtfholpajdkjbbaaQdPDx2
namespace Go.Proofs.Ytfholpajdkjbbaa.PD
open Go.RowKit Go.Proofs.YtfholpajdkjbbaaW.PrintWords Go.Proofs.YtfholpajdkjbbaaW.PrintLast Go.Proofs.YtfholpajdkjbbaaW.PrintMore
attribute [local go_sem] max2_int min2_int max_two min_two max_three min_three max_four min_four   -- for this text's walks alone
set_option linter.unusedVariables false
set_option linter.unusedSimpArgs false
/-! ### eddylaw10_cost: function 31 -/
def eddylaw10_cost.f (a0_0 : Int) (a0_1 : Int) (a0_2 : ByteArray) (a0_3 : Int) (a0_4 : Int) (l0_5 : List Int) (l0_6 : List Int) : Option (Int) := if a0_0 = 1 then (some (wrap64 ((l0_5.length : Int) + 1))) else (some 1)
set_option maxHeartbeats 8000000 in
set_option maxRecDepth 100000 in
theorem eddylaw10_cost.calls (a0_0 : Int) (a0_1 : Int) (a0_2 : ByteArray) (a0_3 : Int) (a0_4 : Int) (A0_5 : Option Addr) (c0_5 : Nat) (l0_5 : List Int) (A0_6 : Option Addr) (c0_6 : Nat) (l0_6 : List Int) (r : Int) (w : World) (hr0_5 : Kd.C (Kd.int .u8) w A0_5 l0_5.length l0_5) (hc0_5 : l0_5.length ≤ c0_5) (hr0_6 : Kd.C (Kd.int .i64) w A0_6 l0_6.length l0_6) (hc0_6 : l0_6.length ≤ c0_6) (h : eddylaw10_cost.f a0_0 a0_1 a0_2 a0_3 a0_4 l0_5 l0_6 = some r) :
    Calls Try.prog 31 #[.agg #[.int .i64 a0_0, .int .i64 a0_1, .string a0_2, .int .i64 a0_3, .int .i64 a0_4, .slice A0_5 l0_5.length c0_5, .slice A0_6 l0_6.length c0_6]] w fun e w' => e = .returned (.int .i64 r) ∧ Below w.heap.size w w' := by
  have hu41 := Try.underlying41
  have HR0_5 := Aside0.mk hr0_5
  have HC0_5 := Aside0.mk hc0_5
  clear hr0_5 hc0_5
  have HR0_6 := Aside0.mk hr0_6
  have HC0_6 := Aside0.mk hc0_6
  clear hr0_6 hc0_6
  have HB := Aside0.mk (Below.refl w.heap.size w)
  have H : (if a0_0 = 1 then (some (wrap64 ((l0_5.length : Int) + 1))) else (some 1)) = some r := h
  clear h
  by_cases c2 : a0_0 = 1
  · rw [if_pos c2] at H
    have c2b0 : (a0_0 == 1) = true := beq_iff_eq.mpr c2
    have c2b1 : (a0_0 != 1) = false := bne_eq_false_iff_eq.mpr c2
    clear c2
    obtain rfl := Option.some.inj H
    go_enter Try.func31, Try.ntmps31
    go_wp2_with (first | ((with_reducible refine gate_dst (N := 1) rfl ?_); refine box_event ?hg (N := 1) ?hd (cs := #[.int .i64 a0_0, .int .i64 a0_1, .string a0_2, .int .i64 a0_3, .int .i64 a0_4, .slice A0_5 l0_5.length c0_5, .slice A0_6 l0_6.length c0_6]) (t := 41) ?hr ?_; (case hd => rfl); (case hg => rfl); (case hr => first | (go_simp; done) | (go_simp; rfl)); intro gb388 hg w3 hbox hb; have n0_ := Aside0.mk (below_step (by repeat (first | (with_reducible first | exact HB.out | apply below_alloc | apply pw_below_drewN | apply below_drew1) | exact HB.out)) hb); have n1_ := Aside0.mk (hbox); have n2_ := Aside0.mk ((by rw [hg]; exact (below_size (by repeat (first | (with_reducible first | exact HB.out | apply below_alloc | apply pw_below_drewN | apply below_drew1) | exact HB.out))) : w.heap.size ≤ gb388)); have n3_ := Aside0.mk ((by rw [hg]; exact (below_size (by repeat (first | (with_reducible first | exact HB.out | apply below_alloc | apply pw_below_drewN | apply below_drew1) | exact HB.out))) : w.heap.size ≤ gb388)); clear HB; have HB := n0_; have BK388 := n1_; have GW388 := n2_; have GE388 := n3_; clear n0_ n1_ n2_ n3_; clear hb hbox hg; have hcz4_0 : w3.cell? ⟨gb388, 0, none⟩ = some (.int .i64 a0_0) := (blk_cell BK388.out 0).trans rfl; have hcz4_1 : w3.cell? ⟨gb388, 1, none⟩ = some (.int .i64 a0_1) := (blk_cell BK388.out 1).trans rfl; have hcz4_2 : w3.cell? ⟨gb388, 2, none⟩ = some (.string a0_2) := (blk_cell BK388.out 2).trans rfl; have hcz4_3 : w3.cell? ⟨gb388, 3, none⟩ = some (.int .i64 a0_3) := (blk_cell BK388.out 3).trans rfl; have hcz4_4 : w3.cell? ⟨gb388, 4, none⟩ = some (.int .i64 a0_4) := (blk_cell BK388.out 4).trans rfl; have hcz4_5 : w3.cell? ⟨gb388, 5, none⟩ = some (.slice A0_5 l0_5.length c0_5) := (blk_cell BK388.out 5).trans rfl; have hcz4_6 : w3.cell? ⟨gb388, 6, none⟩ = some (.slice A0_6 l0_6.length c0_6) := (blk_cell BK388.out 6).trans rfl; have hfz4_0 := blk_frozen BK388.out 0; have hfz4_1 := blk_frozen BK388.out 1; have hfz4_2 := blk_frozen BK388.out 2; have hfz4_3 := blk_frozen BK388.out 3; have hfz4_4 := blk_frozen BK388.out 4; have hfz4_5 := blk_frozen BK388.out 5; have hfz4_6 := blk_frozen BK388.out 6))
    go_ret
    exact ⟨by first | rfl | (simp [errW_none, errW_some] <;> rfl) | (simp [*, errW_none, errW_some] <;> rfl), by repeat (first | (with_reducible first | exact HB.out | apply below_alloc | apply pw_below_drewN | apply below_drew1 | refine below_set ?_ GE388.out) | exact HB.out)⟩
  · rw [if_neg c2] at H
    have c2b0 : (a0_0 == 1) = false := beq_eq_false_iff_ne.mpr c2
    have c2b1 : (a0_0 != 1) = true := bne_iff_ne.mpr c2
    obtain rfl := Option.some.inj H
    go_enter Try.func31, Try.ntmps31
    go_wp2_with (first | ((with_reducible refine gate_dst (N := 1) rfl ?_); refine box_event ?hg (N := 1) ?hd (cs := #[.int .i64 a0_0, .int .i64 a0_1, .string a0_2, .int .i64 a0_3, .int .i64 a0_4, .slice A0_5 l0_5.length c0_5, .slice A0_6 l0_6.length c0_6]) (t := 41) ?hr ?_; (case hd => rfl); (case hg => rfl); (case hr => first | (go_simp; done) | (go_simp; rfl)); intro gb388 hg w5 hbox hb; have n0_ := Aside0.mk (below_step (by repeat (first | (with_reducible first | exact HB.out | apply below_alloc | apply pw_below_drewN | apply below_drew1) | exact HB.out)) hb); have n1_ := Aside0.mk (hbox); have n2_ := Aside0.mk ((by rw [hg]; exact (below_size (by repeat (first | (with_reducible first | exact HB.out | apply below_alloc | apply pw_below_drewN | apply below_drew1) | exact HB.out))) : w.heap.size ≤ gb388)); have n3_ := Aside0.mk ((by rw [hg]; exact (below_size (by repeat (first | (with_reducible first | exact HB.out | apply below_alloc | apply pw_below_drewN | apply below_drew1) | exact HB.out))) : w.heap.size ≤ gb388)); clear HB; have HB := n0_; have BK388 := n1_; have GW388 := n2_; have GE388 := n3_; clear n0_ n1_ n2_ n3_; clear hb hbox hg; have hcz6_0 : w5.cell? ⟨gb388, 0, none⟩ = some (.int .i64 a0_0) := (blk_cell BK388.out 0).trans rfl; have hcz6_1 : w5.cell? ⟨gb388, 1, none⟩ = some (.int .i64 a0_1) := (blk_cell BK388.out 1).trans rfl; have hcz6_2 : w5.cell? ⟨gb388, 2, none⟩ = some (.string a0_2) := (blk_cell BK388.out 2).trans rfl; have hcz6_3 : w5.cell? ⟨gb388, 3, none⟩ = some (.int .i64 a0_3) := (blk_cell BK388.out 3).trans rfl; have hcz6_4 : w5.cell? ⟨gb388, 4, none⟩ = some (.int .i64 a0_4) := (blk_cell BK388.out 4).trans rfl; have hcz6_5 : w5.cell? ⟨gb388, 5, none⟩ = some (.slice A0_5 l0_5.length c0_5) := (blk_cell BK388.out 5).trans rfl; have hcz6_6 : w5.cell? ⟨gb388, 6, none⟩ = some (.slice A0_6 l0_6.length c0_6) := (blk_cell BK388.out 6).trans rfl; have hfz6_0 := blk_frozen BK388.out 0; have hfz6_1 := blk_frozen BK388.out 1; have hfz6_2 := blk_frozen BK388.out 2; have hfz6_3 := blk_frozen BK388.out 3; have hfz6_4 := blk_frozen BK388.out 4; have hfz6_5 := blk_frozen BK388.out 5; have hfz6_6 := blk_frozen BK388.out 6))
    go_ret
    exact ⟨by first | rfl | (simp [errW_none, errW_some] <;> rfl) | (simp [*, errW_none, errW_some] <;> rfl), by repeat (first | (with_reducible first | exact HB.out | apply below_alloc | apply pw_below_drewN | apply below_drew1 | refine below_set ?_ GE388.out) | exact HB.out)⟩

/-! ### eddylaw10_named: function 35 -/
mutual
def eddylaw10_named.j0 : Nat → ByteArray → Bool → Option (Bool)
  | 0, _, _ => none
  | k + 1, x0, x14 => if x14 = true then (some false) else (eddylaw10_named.l0 k x0 0)
def eddylaw10_named.l0 : Nat → ByteArray → Int → Option (Bool)
  | 0, _, _ => none
  | k + 1, x0, x3 => if x3 < (x0.size : Int) then (if 0 ≤ x3 then (if (bt x0 x3) ≥ 97 then (if (bt x0 x3) ≥ 48 then (if ((bt x0 x3) ≤ 122) then (eddylaw10_named.l0 k x0 (wrap64 (x3 + 1))) else (if ((bt x0 x3) ≤ 57) then (eddylaw10_named.l0 k x0 (wrap64 (x3 + 1))) else (if (bt x0 x3) = 45 then (eddylaw10_named.l0 k x0 (wrap64 (x3 + 1))) else (some false)))) else (if ((bt x0 x3) ≤ 122) then (eddylaw10_named.l0 k x0 (wrap64 (x3 + 1))) else (if (bt x0 x3) = 45 then (eddylaw10_named.l0 k x0 (wrap64 (x3 + 1))) else (some false)))) else (if (bt x0 x3) ≥ 48 then (if ((bt x0 x3) ≤ 57) then (eddylaw10_named.l0 k x0 (wrap64 (x3 + 1))) else (if (bt x0 x3) = 45 then (eddylaw10_named.l0 k x0 (wrap64 (x3 + 1))) else (some false))) else (if (bt x0 x3) = 45 then (eddylaw10_named.l0 k x0 (wrap64 (x3 + 1))) else (some false)))) else (none)) else (some true)
end
def eddylaw10_named.f (k : Nat) (a0 : ByteArray) : Option (Bool) := if (a0.size : Int) < 1 then (eddylaw10_named.j0 k a0 true) else (eddylaw10_named.j0 k a0 (decide ((a0.size : Int) > 12)))
set_option maxHeartbeats 8000000 in
set_option maxRecDepth 100000 in
theorem eddylaw10_named.calls (k : Nat) (a0 : ByteArray) (r : Bool) (w : World) (h : eddylaw10_named.f k a0 = some r) :
    Calls Try.prog 35 #[.string a0] w fun e w' => e = .returned (.bool r) ∧ Drawn0 w w' := by
  have H : (if (a0.size : Int) < 1 then (eddylaw10_named.j0 k a0 true) else (eddylaw10_named.j0 k a0 (decide ((a0.size : Int) > 12)))) = some r := h
  clear h
  have HC2 := Aside0.mk H
  clear H
  go_enter Try.func35, Try.ntmps35
  go_upto_region 1 with (fail)
  go_cut [14] (fun v14 wc => ∃ (kq : Nat) (x14_1 : Bool), v14 = .bool x14_1 ∧ Aside0 (eddylaw10_named.j0 kq a0 x14_1 = some r) ∧ Aside0 (kq ≤ k) ∧ Drawn0 w wc)
  case first =>
    have H := HC2.out
    clear HC2
    by_cases c3 : (a0.size : Int) < 1
    · rw [if_pos c3] at H
      have c3b0 : decide ((a0.size : Int) < 1) = true := decide_eq_true c3
      have c3b1 : decide (a0.size < 1) = true := decide_eq_true (by omega)
      clear c3
      (first | rw [c3b0] | (simp only [i64_w, i32_w]; rw [c3b0]) | skip)
      have H' := Aside0.mk H
      clear H
      go_wp2
      go_meet
      case rel => exact ⟨_, (true), (by first | rfl | (simp; done) | (simp [*]; done)), H', ⟨by first | omega | exact Nat.le_refl _⟩, by repeat (first | exact Drawn0.refl _ | apply Drawn0.step)⟩
    · rw [if_neg c3] at H
      have c3b0 : decide ((a0.size : Int) < 1) = false := decide_eq_false c3
      have c3b1 : decide (a0.size < 1) = false := decide_eq_false (by omega)
      clear c3
      (first | rw [c3b0] | (simp only [i64_w, i32_w]; rw [c3b0]) | skip)
      have H' := Aside0.mk H
      clear H
      go_wp2
      go_meet
      case rel => exact ⟨_, (decide ((a0.size : Int) > 12)), (by first | rfl | (simp; done) | (simp [*]; done)), H', ⟨by first | omega | exact Nat.le_refl _⟩, by repeat (first | exact Drawn0.refl _ | apply Drawn0.step)⟩
  case rest =>
    clear HC2
    try clear p2
    try clear c3
    try clear c3b0
    try clear c3b1
    obtain ⟨kq, x14_1, rfl, HA, HJ1, ⟨mc1, rfl⟩⟩ := hcut
    cases kq with
    | zero => exact absurd HA.out (by simp [eddylaw10_named.j0])
    | succ kj1 =>
      have H := HA.out
      clear HA
      simp only [eddylaw10_named.j0] at H
      by_cases c4 : x14_1 = true
      · subst c4
        have H1 : (some false) = some r := by rw [if_pos rfl] at H; exact H
        clear H
        have H := H1
        clear H1
        obtain rfl := Option.some.inj H
        go_wp2
        go_ret
        exact ⟨by first | rfl | (simp; done) | (simp [*]; done), by repeat (first | exact Drawn0.refl _ | apply Drawn0.step)⟩
      · replace c4 := Bool.eq_false_iff.mpr c4
        subst c4
        have H1 : (eddylaw10_named.l0 kj1 a0 0) = some r := by rw [if_neg (show ¬ (false = true) by decide)] at H; exact H
        clear H
        have H := H1
        clear H1
        have H' := Aside0.mk H
        clear H
        go_wp2
        go_loopg [3] kj1 (fun kq v3 w' => ∃ (x3_2 : Int), v3 = .int .i64 x3_2 ∧ Aside0 (eddylaw10_named.l0 kq a0 x3_2 = some r) ∧ Aside0 (kq ≤ kj1) ∧ Drawn0 w w')
        case atStart => exact ⟨(0), (by first | rfl | (simp; done) | (simp [*]; done)), H', ⟨Nat.le_refl _⟩, by repeat (first | exact Drawn0.refl _ | apply Drawn0.step)⟩
        case round =>
          clear H'
          try clear c1
          try clear p2
          try clear c3
          try clear c3b0
          try clear c3b1
          try clear c4
          try clear p2
          obtain ⟨x3_2, rfl, HA, HK2, ⟨m2, rfl⟩⟩ := hrel
          cases gk with
          | zero => exact absurd HA.out (by simp [eddylaw10_named.l0])
          | succ k2 =>
            have H := HA.out
            clear HA
            simp only [eddylaw10_named.l0] at H
            by_cases c5 : x3_2 < (a0.size : Int)
            · rw [if_pos c5] at H
              have c5b0 : decide (x3_2 < (a0.size : Int)) = true := decide_eq_true c5
              clear c5
              by_cases c6 : 0 ≤ x3_2
              · rw [if_pos c6] at H
                have c6b0 : decide (0 ≤ x3_2) = true := decide_eq_true c6
                clear c6
                by_cases c8 : (bt a0 x3_2) ≥ 97
                · rw [if_pos c8] at H
                  have c8b0 : decide (97 ≤ (bt a0 x3_2)) = true := decide_eq_true c8
                  clear c8
                  by_cases c9 : (bt a0 x3_2) ≥ 48
                  · rw [if_pos c9] at H
                    have c9b0 : decide (48 ≤ (bt a0 x3_2)) = true := decide_eq_true c9
                    clear c9
                    by_cases c10 : ((bt a0 x3_2) ≤ 122)
                    · rw [if_pos c10] at H
                      have c10b0 : decide ((bt a0 x3_2) ≤ 122) = true := decide_eq_true c10
                      clear c10
                      have H' := Aside0.mk H
                      clear H
                      have p7 : 0 ≤ (x3_2 : Int) := of_decide_eq_true (by first | (with_reducible assumption) | assumption)
                      have q7 : x3_2 < (a0.size : Int) := of_decide_eq_true (by first | (with_reducible assumption) | assumption)
                      have hx7 := bt_at a0 x3_2
                      replace p7 := eq_true p7
                      replace q7 := eq_true q7
                      go_wp2
                      go_roundg k2
                      case measure => have := HJ1.out; have := HK2.out; omega
                      case rel => exact ⟨(wrap64 (x3_2 + 1)), (by first | rfl | (simp; done) | (simp [*]; done)), H', ⟨by have := HJ1.out; have := HK2.out; omega⟩, by repeat (first | exact Drawn0.refl _ | apply Drawn0.step)⟩
                    · rw [if_neg c10] at H
                      have c10b0 : decide ((bt a0 x3_2) ≤ 122) = false := decide_eq_false c10
                      clear c10
                      by_cases c11 : ((bt a0 x3_2) ≤ 57)
                      · rw [if_pos c11] at H
                        have c11b0 : decide ((bt a0 x3_2) ≤ 57) = true := decide_eq_true c11
                        clear c11
                        have H' := Aside0.mk H
                        clear H
                        have p7 : 0 ≤ (x3_2 : Int) := of_decide_eq_true (by first | (with_reducible assumption) | assumption)
                        have q7 : x3_2 < (a0.size : Int) := of_decide_eq_true (by first | (with_reducible assumption) | assumption)
                        have hx7 := bt_at a0 x3_2
                        replace p7 := eq_true p7
                        replace q7 := eq_true q7
                        go_wp2
                        go_roundg k2
                        case measure => have := HJ1.out; have := HK2.out; omega
                        case rel => exact ⟨(wrap64 (x3_2 + 1)), (by first | rfl | (simp; done) | (simp [*]; done)), H', ⟨by have := HJ1.out; have := HK2.out; omega⟩, by repeat (first | exact Drawn0.refl _ | apply Drawn0.step)⟩
                      · rw [if_neg c11] at H
                        have c11b0 : decide ((bt a0 x3_2) ≤ 57) = false := decide_eq_false c11
                        clear c11
                        by_cases c12 : (bt a0 x3_2) = 45
                        · rw [if_pos c12] at H
                          have c12b0 : ((bt a0 x3_2) == 45) = true := beq_iff_eq.mpr c12
                          have c12b1 : ((bt a0 x3_2) != 45) = false := bne_eq_false_iff_eq.mpr c12
                          clear c12
                          have H' := Aside0.mk H
                          clear H
                          have p7 : 0 ≤ (x3_2 : Int) := of_decide_eq_true (by first | (with_reducible assumption) | assumption)
                          have q7 : x3_2 < (a0.size : Int) := of_decide_eq_true (by first | (with_reducible assumption) | assumption)
                          have hx7 := bt_at a0 x3_2
                          replace p7 := eq_true p7
                          replace q7 := eq_true q7
                          go_wp2
                          go_roundg k2
                          case measure => have := HJ1.out; have := HK2.out; omega
                          case rel => exact ⟨(wrap64 (x3_2 + 1)), (by first | rfl | (simp; done) | (simp [*]; done)), H', ⟨by have := HJ1.out; have := HK2.out; omega⟩, by repeat (first | exact Drawn0.refl _ | apply Drawn0.step)⟩
                        · rw [if_neg c12] at H
                          have c12b0 : ((bt a0 x3_2) == 45) = false := beq_eq_false_iff_ne.mpr c12
                          have c12b1 : ((bt a0 x3_2) != 45) = true := bne_iff_ne.mpr c12
                          obtain rfl := Option.some.inj H
                          have p7 : 0 ≤ (x3_2 : Int) := of_decide_eq_true (by first | (with_reducible assumption) | assumption)
                          have q7 : x3_2 < (a0.size : Int) := of_decide_eq_true (by first | (with_reducible assumption) | assumption)
                          have hx7 := bt_at a0 x3_2
                          replace p7 := eq_true p7
                          replace q7 := eq_true q7
                          go_wp2
                          go_ret
                          exact ⟨by first | rfl | (simp; done) | (simp [*]; done), by repeat (first | exact Drawn0.refl _ | apply Drawn0.step)⟩
                  · rw [if_neg c9] at H
                    have c9b0 : decide (48 ≤ (bt a0 x3_2)) = false := decide_eq_false c9
                    clear c9
                    by_cases c13 : ((bt a0 x3_2) ≤ 122)
                    · rw [if_pos c13] at H
                      have c13b0 : decide ((bt a0 x3_2) ≤ 122) = true := decide_eq_true c13
                      clear c13
                      have H' := Aside0.mk H
                      clear H
                      have p7 : 0 ≤ (x3_2 : Int) := of_decide_eq_true (by first | (with_reducible assumption) | assumption)
                      have q7 : x3_2 < (a0.size : Int) := of_decide_eq_true (by first | (with_reducible assumption) | assumption)
                      have hx7 := bt_at a0 x3_2
                      replace p7 := eq_true p7
                      replace q7 := eq_true q7
                      go_wp2
                      go_roundg k2
                      case measure => have := HJ1.out; have := HK2.out; omega
                      case rel => exact ⟨(wrap64 (x3_2 + 1)), (by first | rfl | (simp; done) | (simp [*]; done)), H', ⟨by have := HJ1.out; have := HK2.out; omega⟩, by repeat (first | exact Drawn0.refl _ | apply Drawn0.step)⟩
                    · rw [if_neg c13] at H
                      have c13b0 : decide ((bt a0 x3_2) ≤ 122) = false := decide_eq_false c13
                      clear c13
                      by_cases c14 : (bt a0 x3_2) = 45
                      · rw [if_pos c14] at H
                        have c14b0 : ((bt a0 x3_2) == 45) = true := beq_iff_eq.mpr c14
                        have c14b1 : ((bt a0 x3_2) != 45) = false := bne_eq_false_iff_eq.mpr c14
                        clear c14
                        have H' := Aside0.mk H
                        clear H
                        have p7 : 0 ≤ (x3_2 : Int) := of_decide_eq_true (by first | (with_reducible assumption) | assumption)
                        have q7 : x3_2 < (a0.size : Int) := of_decide_eq_true (by first | (with_reducible assumption) | assumption)
                        have hx7 := bt_at a0 x3_2
                        replace p7 := eq_true p7
                        replace q7 := eq_true q7
                        go_wp2
                        go_roundg k2
                        case measure => have := HJ1.out; have := HK2.out; omega
                        case rel => exact ⟨(wrap64 (x3_2 + 1)), (by first | rfl | (simp; done) | (simp [*]; done)), H', ⟨by have := HJ1.out; have := HK2.out; omega⟩, by repeat (first | exact Drawn0.refl _ | apply Drawn0.step)⟩
                      · rw [if_neg c14] at H
                        have c14b0 : ((bt a0 x3_2) == 45) = false := beq_eq_false_iff_ne.mpr c14
                        have c14b1 : ((bt a0 x3_2) != 45) = true := bne_iff_ne.mpr c14
                        obtain rfl := Option.some.inj H
                        have p7 : 0 ≤ (x3_2 : Int) := of_decide_eq_true (by first | (with_reducible assumption) | assumption)
                        have q7 : x3_2 < (a0.size : Int) := of_decide_eq_true (by first | (with_reducible assumption) | assumption)
                        have hx7 := bt_at a0 x3_2
                        replace p7 := eq_true p7
                        replace q7 := eq_true q7
                        go_wp2
                        go_ret
                        exact ⟨by first | rfl | (simp; done) | (simp [*]; done), by repeat (first | exact Drawn0.refl _ | apply Drawn0.step)⟩
                · rw [if_neg c8] at H
                  have c8b0 : decide (97 ≤ (bt a0 x3_2)) = false := decide_eq_false c8
                  clear c8
                  by_cases c15 : (bt a0 x3_2) ≥ 48
                  · rw [if_pos c15] at H
                    have c15b0 : decide (48 ≤ (bt a0 x3_2)) = true := decide_eq_true c15
                    clear c15
                    by_cases c16 : ((bt a0 x3_2) ≤ 57)
                    · rw [if_pos c16] at H
                      have c16b0 : decide ((bt a0 x3_2) ≤ 57) = true := decide_eq_true c16
                      clear c16
                      have H' := Aside0.mk H
                      clear H
                      have p7 : 0 ≤ (x3_2 : Int) := of_decide_eq_true (by first | (with_reducible assumption) | assumption)
                      have q7 : x3_2 < (a0.size : Int) := of_decide_eq_true (by first | (with_reducible assumption) | assumption)
                      have hx7 := bt_at a0 x3_2
                      replace p7 := eq_true p7
                      replace q7 := eq_true q7
                      go_wp2
                      go_roundg k2
                      case measure => have := HJ1.out; have := HK2.out; omega
                      case rel => exact ⟨(wrap64 (x3_2 + 1)), (by first | rfl | (simp; done) | (simp [*]; done)), H', ⟨by have := HJ1.out; have := HK2.out; omega⟩, by repeat (first | exact Drawn0.refl _ | apply Drawn0.step)⟩
                    · rw [if_neg c16] at H
                      have c16b0 : decide ((bt a0 x3_2) ≤ 57) = false := decide_eq_false c16
                      clear c16
                      by_cases c17 : (bt a0 x3_2) = 45
                      · rw [if_pos c17] at H
                        have c17b0 : ((bt a0 x3_2) == 45) = true := beq_iff_eq.mpr c17
                        have c17b1 : ((bt a0 x3_2) != 45) = false := bne_eq_false_iff_eq.mpr c17
                        clear c17
                        have H' := Aside0.mk H
                        clear H
                        have p7 : 0 ≤ (x3_2 : Int) := of_decide_eq_true (by first | (with_reducible assumption) | assumption)
                        have q7 : x3_2 < (a0.size : Int) := of_decide_eq_true (by first | (with_reducible assumption) | assumption)
                        have hx7 := bt_at a0 x3_2
                        replace p7 := eq_true p7
                        replace q7 := eq_true q7
                        go_wp2
                        go_roundg k2
                        case measure => have := HJ1.out; have := HK2.out; omega
                        case rel => exact ⟨(wrap64 (x3_2 + 1)), (by first | rfl | (simp; done) | (simp [*]; done)), H', ⟨by have := HJ1.out; have := HK2.out; omega⟩, by repeat (first | exact Drawn0.refl _ | apply Drawn0.step)⟩
                      · rw [if_neg c17] at H
                        have c17b0 : ((bt a0 x3_2) == 45) = false := beq_eq_false_iff_ne.mpr c17
                        have c17b1 : ((bt a0 x3_2) != 45) = true := bne_iff_ne.mpr c17
                        obtain rfl := Option.some.inj H
                        have p7 : 0 ≤ (x3_2 : Int) := of_decide_eq_true (by first | (with_reducible assumption) | assumption)
                        have q7 : x3_2 < (a0.size : Int) := of_decide_eq_true (by first | (with_reducible assumption) | assumption)
                        have hx7 := bt_at a0 x3_2
                        replace p7 := eq_true p7
                        replace q7 := eq_true q7
                        go_wp2
                        go_ret
                        exact ⟨by first | rfl | (simp; done) | (simp [*]; done), by repeat (first | exact Drawn0.refl _ | apply Drawn0.step)⟩
                  · rw [if_neg c15] at H
                    have c15b0 : decide (48 ≤ (bt a0 x3_2)) = false := decide_eq_false c15
                    clear c15
                    by_cases c18 : (bt a0 x3_2) = 45
                    · rw [if_pos c18] at H
                      have c18b0 : ((bt a0 x3_2) == 45) = true := beq_iff_eq.mpr c18
                      have c18b1 : ((bt a0 x3_2) != 45) = false := bne_eq_false_iff_eq.mpr c18
                      clear c18
                      have H' := Aside0.mk H
                      clear H
                      have p7 : 0 ≤ (x3_2 : Int) := of_decide_eq_true (by first | (with_reducible assumption) | assumption)
                      have q7 : x3_2 < (a0.size : Int) := of_decide_eq_true (by first | (with_reducible assumption) | assumption)
                      have hx7 := bt_at a0 x3_2
                      replace p7 := eq_true p7
                      replace q7 := eq_true q7
                      go_wp2
                      go_roundg k2
                      case measure => have := HJ1.out; have := HK2.out; omega
                      case rel => exact ⟨(wrap64 (x3_2 + 1)), (by first | rfl | (simp; done) | (simp [*]; done)), H', ⟨by have := HJ1.out; have := HK2.out; omega⟩, by repeat (first | exact Drawn0.refl _ | apply Drawn0.step)⟩
                    · rw [if_neg c18] at H
                      have c18b0 : ((bt a0 x3_2) == 45) = false := beq_eq_false_iff_ne.mpr c18
                      have c18b1 : ((bt a0 x3_2) != 45) = true := bne_iff_ne.mpr c18
                      obtain rfl := Option.some.inj H
                      have p7 : 0 ≤ (x3_2 : Int) := of_decide_eq_true (by first | (with_reducible assumption) | assumption)
                      have q7 : x3_2 < (a0.size : Int) := of_decide_eq_true (by first | (with_reducible assumption) | assumption)
                      have hx7 := bt_at a0 x3_2
                      replace p7 := eq_true p7
                      replace q7 := eq_true q7
                      go_wp2
                      go_ret
                      exact ⟨by first | rfl | (simp; done) | (simp [*]; done), by repeat (first | exact Drawn0.refl _ | apply Drawn0.step)⟩
              · rw [if_neg c6] at H
                exact absurd H (by simp)
            · rw [if_neg c5] at H
              have c5b0 : decide (x3_2 < (a0.size : Int)) = false := decide_eq_false c5
              clear c5
              obtain rfl := Option.some.inj H
              go_wp2
              go_ret
              exact ⟨by first | rfl | (simp; done) | (simp [*]; done), by repeat (first | exact Drawn0.refl _ | apply Drawn0.step)⟩

end Go.Proofs.Ytfholpajdkjbbaa.PD
