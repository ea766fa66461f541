/- What each Go function named in this text computes, as a Lean function, and that the Go code comes to it; conditions: those in each theorem. (Lines written by this session's program.) -/
import Derived.Test.YtfholpajdkjbbaaQePDx0
import Derived.Test.YtfholpajdkjbbaaQePDx2
namespace Go.Proofs.Ytfholpajdkjbbaa.PD
open Go.RowKit Go.Proofs.YtfholpajdkjbbaaW.PrintWords Go.Proofs.YtfholpajdkjbbaaW.PrintLast Go.Proofs.YtfholpajdkjbbaaW.PrintMore
attribute [local go_sem] max2_int min2_int max_two min_two max_three min_three max_four min_four   -- for this text's walks alone
set_option linter.unusedVariables false
set_option linter.unusedSimpArgs false
/-! ### eddylaw10_alike: function 17 -/
def eddylaw10_alike.l0 : Nat → List (S67) → List (S67) → Int → Option (Bool)
  | 0, _, _, _ => none
  | k + 1, x0, x1, x5 => if x5 < (x0.length : Int) then (if 0 ≤ x5 then (if x5 < (x1.length : Int) then (if ((rd_T67 x0 x5).f0).toList = ((rd_T67 x1 x5).f0).toList then (if ((rd_T67 x0 x5).f2) = ((rd_T67 x1 x5).f2) then ((eddylaw10_same.f k ((rd_T67 x0 x5).f1) ((rd_T67 x1 x5).f1)).bind fun t130 => (if t130 = true then (eddylaw10_alike.l0 k x0 x1 (wrap64 (x5 + 1))) else (some false))) else (some false)) else (some false)) else (none)) else (none)) else (some true)
def eddylaw10_alike.f (k : Nat) (l0 : List (S67)) (l1 : List (S67)) : Option (Bool) := if (l0.length : Int) = (l1.length : Int) then (eddylaw10_alike.l0 k l0 l1 0) else (some false)
def eddylaw10_alike.T6 : Bool × List (List Nat × List Nat) := (true, [([], []), ([], []), ([0, 1], [0, 1]), ([2], [2]), ([3], [3]), ([], []), ([], []), ([5, 6], [5, 6]), ([7], [7]), ([8], [8]), ([4, 9], [4, 9]), ([10], [10]), ([11], [11]), ([11], [11]), ([12, 13, 11], [11, 12, 13]), ([14, 11], [11, 14]), ([15, 11], [11, 15]), ([11], [11]), ([11], [11]), ([17, 18, 11], [11, 17, 18]), ([19, 11], [11, 19]), ([20, 11], [11, 20]), ([16, 21, 11], [11, 16, 21]), ([11, 22], [11, 22]), ([23, 11], [23]), ([24], [24]), ([24], [24]), ([25, 26, 24], [24, 25, 26]), ([27, 24], [24, 27]), ([28, 24], [24, 28]), ([24], [24]), ([24], [24]), ([30, 31, 24], [24, 30, 31]), ([32, 24], [24, 32]), ([33, 24], [24, 33]), ([29, 34, 24, 24], [24, 29, 34]), ([35, 24], [24, 35]), ([24, 36], [24, 36])])
def eddylaw10_alike.B6 : List Nat := [0, 0, 3, 7, 15, 0, 0, 96, 224, 480, 1023, 2047, 4095, 4095, 16383, 32767, 65535, 4095, 4095, 397311, 921599, 1970175, 4194303, 8388607, 16777215, 33554431, 33554431, 134217727, 268435455, 536870911, 33554431, 33554431, 3254779903, 7549747199, 16139681791, 34359738367, 68719476735, 137438953471]
theorem eddylaw10_alike.tab6 : rtab .any (opsOf Try.f17 6) = eddylaw10_alike.T6 := by kernel_rfl
theorem eddylaw10_alike.bits6 : waitsOk eddylaw10_alike.T6.2 eddylaw10_alike.B6 = true := by kernel_rfl
set_option maxHeartbeats 8000000 in
set_option maxRecDepth 100000 in
theorem eddylaw10_alike.calls (k : Nat) (A0 : Option Addr) (c0 : Nat) (l0 : List (S67)) (A1 : Option Addr) (c1 : Nat) (l1 : List (S67)) (r : Bool) (w : World) (hr0 : Kd.C k67 w A0 l0.length l0) (hc0 : l0.length ≤ c0) (hr1 : Kd.C k67 w A1 l1.length l1) (hc1 : l1.length ≤ c1) (h : eddylaw10_alike.f k l0 l1 = some r) :
    Calls Try.prog 17 #[.slice A0 l0.length c0, .slice A1 l1.length c1] w fun e w' => e = .returned (.bool r) ∧ Below w.heap.size w w' := by
  have HR0 := Aside0.mk hr0
  have HC0 := Aside0.mk hc0
  clear hr0 hc0
  have HR1 := Aside0.mk hr1
  have HC1 := Aside0.mk hc1
  clear hr1 hc1
  have HB := Aside0.mk (Below.refl w.heap.size w)
  have H : (if (l0.length : Int) = (l1.length : Int) then (eddylaw10_alike.l0 k l0 l1 0) else (some false)) = some r := h
  clear h
  by_cases c3 : (l0.length : Int) = (l1.length : Int)
  · rw [if_pos c3] at H
    have c3b0 : ((l0.length : Int) == (l1.length : Int)) = true := beq_iff_eq.mpr c3
    have c3b1 : ((l0.length : Int) != (l1.length : Int)) = false := bne_eq_false_iff_eq.mpr c3
    have c3b2 : (l0.length == l1.length) = true := by first | simpa using c3 | (simp at c3 ⊢; omega)
    clear c3
    have H' := Aside0.mk H
    clear H
    go_enter Try.func17, Try.ntmps17
    go_wp2
    go_loopg [5] k (fun kq v5 w' => ∃ (x5_1 : Int), v5 = .int .i64 x5_1 ∧ Aside0 (eddylaw10_alike.l0 kq l0 l1 x5_1 = some r) ∧ Aside0 (kq ≤ k) ∧ Aside0 (Below w.heap.size w w'))
    case atStart => exact ⟨(0), (by first | rfl | (simp; done) | (simp [*]; done)), H', ⟨Nat.le_refl _⟩, ⟨by repeat (first | (with_reducible first | exact HB.out | apply below_alloc | apply pw_below_drewN | apply below_drew1) | exact HB.out)⟩⟩
    case round =>
      clear H'
      try clear c1
      try clear p2
      try clear c3
      try clear c3b0
      try clear c3b1
      try clear c3b2
      obtain ⟨x5_1, rfl, HA, HK1, HB⟩ := hrel
      cases gk with
      | zero => exact absurd HA.out (by simp [eddylaw10_alike.l0])
      | succ k1 =>
        have H := HA.out
        clear HA
        simp only [eddylaw10_alike.l0] at H
        by_cases c4 : x5_1 < (l0.length : Int)
        · rw [if_pos c4] at H
          have c4b0 : decide (x5_1 < (l0.length : Int)) = true := decide_eq_true c4
          clear c4
          by_cases c5 : 0 ≤ x5_1
          · rw [if_pos c5] at H
            have c5b0 : decide (0 ≤ x5_1) = true := decide_eq_true c5
            clear c5
            by_cases c6 : x5_1 < (l1.length : Int)
            · rw [if_pos c6] at H
              have c6b0 : decide (x5_1 < (l1.length : Int)) = true := decide_eq_true c6
              clear c6
              by_cases c7 : ((rd_T67 l0 x5_1).f0).toList = ((rd_T67 l1 x5_1).f0).toList
              · rw [if_pos c7] at H
                have c7b0 : (((rd_T67 l0 x5_1).f0).toList == ((rd_T67 l1 x5_1).f0).toList) = true := beq_iff_eq.mpr c7
                have c7b1 : (((rd_T67 l0 x5_1).f0).toList != ((rd_T67 l1 x5_1).f0).toList) = false := bne_eq_false_iff_eq.mpr c7
                clear c7
                by_cases c8 : ((rd_T67 l0 x5_1).f2) = ((rd_T67 l1 x5_1).f2)
                · rw [if_pos c8] at H
                  have c8b0 : (((rd_T67 l0 x5_1).f2) == ((rd_T67 l1 x5_1).f2)) = true := beq_iff_eq.mpr c8
                  have c8b1 : (((rd_T67 l0 x5_1).f2) != ((rd_T67 l1 x5_1).f2)) = false := bne_eq_false_iff_eq.mpr c8
                  clear c8
                  replace H := Option.bind_eq_some_iff.mp H
                  obtain ⟨t130, A90, H⟩ := H
                  replace H : (if t130 = true then (eddylaw10_alike.l0 k1 l0 l1 (wrap64 (x5_1 + 1))) else (some false)) = some r := H
                  have A9 := Aside0.mk A90
                  clear A90
                  by_cases c10 : t130 = true
                  · subst c10
                    have H1 : (eddylaw10_alike.l0 k1 l0 l1 (wrap64 (x5_1 + 1))) = some r := by rw [if_pos rfl] at H; exact H
                    clear H
                    have H := H1
                    clear H1
                    have H' := Aside0.mk H
                    clear H
                    try go_wp2
                    have n0_ := Aside0.mk (below_drew1 HB.out)
                    clear HB
                    have HB := n0_
                    clear n0_
                    have p124 : 0 ≤ (x5_1 : Int) := of_decide_eq_true (by first | (with_reducible assumption) | assumption)
                    have q124 : x5_1 < (l0.length : Int) := of_decide_eq_true (by first | (with_reducible assumption) | assumption)
                    obtain ⟨ad124, A124_1, c124_1, e124, hx124_0, hx124_1, hx124_2, hl124_1, hi124_1⟩ := at_T67 HR0.out x5_1 p124 q124
                    have hw124_2 := hx124_2
                    have hw124_1 := hx124_1
                    have hw124_0 := hx124_0
                    cases e124
                    replace hx124_0 := (HB.out.cell (World.block_lt_of_cell? w _ hx124_0)).trans hx124_0
                    replace hx124_1 := (HB.out.cell (World.block_lt_of_cell? w _ hx124_1)).trans hx124_1
                    replace hx124_2 := (HB.out.cell (World.block_lt_of_cell? w _ hx124_2)).trans hx124_2
                    have HR124_1 := Aside0.mk hi124_1
                    have HC124_1 := Aside0.mk hl124_1
                    clear hi124_1 hl124_1
                    replace p124 := eq_true p124
                    replace q124 := eq_true q124
                    have p125 : 0 ≤ (x5_1 : Int) := of_decide_eq_true (by first | (with_reducible assumption) | assumption)
                    have q125 : x5_1 < (l1.length : Int) := of_decide_eq_true (by first | (with_reducible assumption) | assumption)
                    obtain ⟨ad125, A125_1, c125_1, e125, hx125_0, hx125_1, hx125_2, hl125_1, hi125_1⟩ := at_T67 HR1.out x5_1 p125 q125
                    have hw125_2 := hx125_2
                    have hw125_1 := hx125_1
                    have hw125_0 := hx125_0
                    cases e125
                    replace hx125_0 := (HB.out.cell (World.block_lt_of_cell? w _ hx125_0)).trans hx125_0
                    replace hx125_1 := (HB.out.cell (World.block_lt_of_cell? w _ hx125_1)).trans hx125_1
                    replace hx125_2 := (HB.out.cell (World.block_lt_of_cell? w _ hx125_2)).trans hx125_2
                    have HR125_1 := Aside0.mk hi125_1
                    have HC125_1 := Aside0.mk hl125_1
                    clear hi125_1 hl125_1
                    replace p125 := eq_true p125
                    replace q125 := eq_true q125
                    have p126 : 0 ≤ (x5_1 : Int) := of_decide_eq_true (by first | (with_reducible assumption) | assumption)
                    have q126 : x5_1 < (l0.length : Int) := of_decide_eq_true (by first | (with_reducible assumption) | assumption)
                    obtain ⟨ad126, A126_1, c126_1, e126, hx126_0, hx126_1, hx126_2, hl126_1, hi126_1⟩ := at_T67 HR0.out x5_1 p126 q126
                    have hw126_2 := hx126_2
                    have hw126_1 := hx126_1
                    have hw126_0 := hx126_0
                    obtain rfl : ad124 = ad126 := (by injection e126)
                    replace hx126_0 := (HB.out.cell (World.block_lt_of_cell? w _ hx126_0)).trans hx126_0
                    replace hx126_1 := (HB.out.cell (World.block_lt_of_cell? w _ hx126_1)).trans hx126_1
                    replace hx126_2 := (HB.out.cell (World.block_lt_of_cell? w _ hx126_2)).trans hx126_2
                    have HR126_1 := Aside0.mk hi126_1
                    have HC126_1 := Aside0.mk hl126_1
                    clear hi126_1 hl126_1
                    replace p126 := eq_true p126
                    replace q126 := eq_true q126
                    have ea_ := Option.some.inj (hx124_1.symm.trans hx126_1)
                    injection ea_ with ea_ en_ ec_
                    subst ea_
                    subst ec_
                    clear en_
                    have p127 : 0 ≤ (x5_1 : Int) := of_decide_eq_true (by first | (with_reducible assumption) | assumption)
                    have q127 : x5_1 < (l1.length : Int) := of_decide_eq_true (by first | (with_reducible assumption) | assumption)
                    obtain ⟨ad127, A127_1, c127_1, e127, hx127_0, hx127_1, hx127_2, hl127_1, hi127_1⟩ := at_T67 HR1.out x5_1 p127 q127
                    have hw127_2 := hx127_2
                    have hw127_1 := hx127_1
                    have hw127_0 := hx127_0
                    obtain rfl : ad125 = ad127 := (by injection e127)
                    replace hx127_0 := (HB.out.cell (World.block_lt_of_cell? w _ hx127_0)).trans hx127_0
                    replace hx127_1 := (HB.out.cell (World.block_lt_of_cell? w _ hx127_1)).trans hx127_1
                    replace hx127_2 := (HB.out.cell (World.block_lt_of_cell? w _ hx127_2)).trans hx127_2
                    have HR127_1 := Aside0.mk hi127_1
                    have HC127_1 := Aside0.mk hl127_1
                    clear hi127_1 hl127_1
                    replace p127 := eq_true p127
                    replace q127 := eq_true q127
                    have ea_ := Option.some.inj (hx125_1.symm.trans hx127_1)
                    injection ea_ with ea_ en_ ec_
                    subst ea_
                    subst ec_
                    clear en_
                    have p128 : 0 ≤ (x5_1 : Int) := of_decide_eq_true (by first | (with_reducible assumption) | assumption)
                    have q128 : x5_1 < (l0.length : Int) := of_decide_eq_true (by first | (with_reducible assumption) | assumption)
                    obtain ⟨ad128, A128_1, c128_1, e128, hx128_0, hx128_1, hx128_2, hl128_1, hi128_1⟩ := at_T67 HR0.out x5_1 p128 q128
                    have hw128_2 := hx128_2
                    have hw128_1 := hx128_1
                    have hw128_0 := hx128_0
                    obtain rfl : ad124 = ad128 := (by injection e128)
                    replace hx128_0 := (HB.out.cell (World.block_lt_of_cell? w _ hx128_0)).trans hx128_0
                    replace hx128_1 := (HB.out.cell (World.block_lt_of_cell? w _ hx128_1)).trans hx128_1
                    replace hx128_2 := (HB.out.cell (World.block_lt_of_cell? w _ hx128_2)).trans hx128_2
                    have HR128_1 := Aside0.mk hi128_1
                    have HC128_1 := Aside0.mk hl128_1
                    clear hi128_1 hl128_1
                    replace p128 := eq_true p128
                    replace q128 := eq_true q128
                    have ea_ := Option.some.inj (hx124_1.symm.trans hx128_1)
                    injection ea_ with ea_ en_ ec_
                    subst ea_
                    subst ec_
                    clear en_
                    have p129 : 0 ≤ (x5_1 : Int) := of_decide_eq_true (by first | (with_reducible assumption) | assumption)
                    have q129 : x5_1 < (l1.length : Int) := of_decide_eq_true (by first | (with_reducible assumption) | assumption)
                    obtain ⟨ad129, A129_1, c129_1, e129, hx129_0, hx129_1, hx129_2, hl129_1, hi129_1⟩ := at_T67 HR1.out x5_1 p129 q129
                    have hw129_2 := hx129_2
                    have hw129_1 := hx129_1
                    have hw129_0 := hx129_0
                    obtain rfl : ad125 = ad129 := (by injection e129)
                    replace hx129_0 := (HB.out.cell (World.block_lt_of_cell? w _ hx129_0)).trans hx129_0
                    replace hx129_1 := (HB.out.cell (World.block_lt_of_cell? w _ hx129_1)).trans hx129_1
                    replace hx129_2 := (HB.out.cell (World.block_lt_of_cell? w _ hx129_2)).trans hx129_2
                    have HR129_1 := Aside0.mk hi129_1
                    have HC129_1 := Aside0.mk hl129_1
                    clear hi129_1 hl129_1
                    replace p129 := eq_true p129
                    replace q129 := eq_true q129
                    have ea_ := Option.some.inj (hx125_1.symm.trans hx129_1)
                    injection ea_ with ea_ en_ ec_
                    subst ea_
                    subst ec_
                    clear en_
                    refine start_ (n := 38) (S := fun w' => w'.cell? (ad124.add ((x5_1).toNat * 3)) = some (.string ((rd_T67 l0 x5_1).f0)) ∧ w'.cell? ⟨(ad124.add ((x5_1).toNat * 3)).block, (ad124.add ((x5_1).toNat * 3)).off + 1, none⟩ = some (.slice A124_1 ((rd_T67 l0 x5_1).f1).length c124_1) ∧ w'.cell? ⟨(ad124.add ((x5_1).toNat * 3)).block, (ad124.add ((x5_1).toNat * 3)).off + 2, none⟩ = some (.int .i64 ((rd_T67 l0 x5_1).f2)) ∧ w'.cell? (ad125.add ((x5_1).toNat * 3)) = some (.string ((rd_T67 l1 x5_1).f0)) ∧ w'.cell? ⟨(ad125.add ((x5_1).toNat * 3)).block, (ad125.add ((x5_1).toNat * 3)).off + 1, none⟩ = some (.slice A125_1 ((rd_T67 l1 x5_1).f1).length c125_1) ∧ w'.cell? ⟨(ad125.add ((x5_1).toNat * 3)).block, (ad125.add ((x5_1).toNat * 3)).off + 2, none⟩ = some (.int .i64 ((rd_T67 l1 x5_1).f2)) ∧ w'.cell? (ad124.add ((x5_1).toNat * 3)) = some (.string ((rd_T67 l0 x5_1).f0)) ∧ w'.cell? ⟨(ad124.add ((x5_1).toNat * 3)).block, (ad124.add ((x5_1).toNat * 3)).off + 1, none⟩ = some (.slice A124_1 ((rd_T67 l0 x5_1).f1).length c124_1) ∧ w'.cell? ⟨(ad124.add ((x5_1).toNat * 3)).block, (ad124.add ((x5_1).toNat * 3)).off + 2, none⟩ = some (.int .i64 ((rd_T67 l0 x5_1).f2)) ∧ w'.cell? (ad125.add ((x5_1).toNat * 3)) = some (.string ((rd_T67 l1 x5_1).f0)) ∧ w'.cell? ⟨(ad125.add ((x5_1).toNat * 3)).block, (ad125.add ((x5_1).toNat * 3)).off + 1, none⟩ = some (.slice A125_1 ((rd_T67 l1 x5_1).f1).length c125_1) ∧ w'.cell? ⟨(ad125.add ((x5_1).toNat * 3)).block, (ad125.add ((x5_1).toNat * 3)).off + 2, none⟩ = some (.int .i64 ((rd_T67 l1 x5_1).f2)) ∧ w'.cell? (ad124.add ((x5_1).toNat * 3)) = some (.string ((rd_T67 l0 x5_1).f0)) ∧ w'.cell? ⟨(ad124.add ((x5_1).toNat * 3)).block, (ad124.add ((x5_1).toNat * 3)).off + 1, none⟩ = some (.slice A124_1 ((rd_T67 l0 x5_1).f1).length c124_1) ∧ w'.cell? ⟨(ad124.add ((x5_1).toNat * 3)).block, (ad124.add ((x5_1).toNat * 3)).off + 2, none⟩ = some (.int .i64 ((rd_T67 l0 x5_1).f2)) ∧ w'.cell? (ad125.add ((x5_1).toNat * 3)) = some (.string ((rd_T67 l1 x5_1).f0)) ∧ w'.cell? ⟨(ad125.add ((x5_1).toNat * 3)).block, (ad125.add ((x5_1).toNat * 3)).off + 1, none⟩ = some (.slice A125_1 ((rd_T67 l1 x5_1).f1).length c125_1) ∧ w'.cell? ⟨(ad125.add ((x5_1).toNat * 3)).block, (ad125.add ((x5_1).toNat * 3)).off + 2, none⟩ = some (.int .i64 ((rd_T67 l1 x5_1).f2))) (ds := []) #[false, false, false, false, false, false, false, false, false, false, false, false, false, false, false, false, false, false, false, false, false, false, false, false, false, false, false, false, false, false, false, false, false, false, false, false, false, false] (by kernel_rfl) rfl rfl ⟨((HB.out.cell (World.block_lt_of_cell? w _ hw124_0)).trans hw124_0), ((HB.out.cell (World.block_lt_of_cell? w _ hw124_1)).trans hw124_1), ((HB.out.cell (World.block_lt_of_cell? w _ hw124_2)).trans hw124_2), ((HB.out.cell (World.block_lt_of_cell? w _ hw125_0)).trans hw125_0), ((HB.out.cell (World.block_lt_of_cell? w _ hw125_1)).trans hw125_1), ((HB.out.cell (World.block_lt_of_cell? w _ hw125_2)).trans hw125_2), ((HB.out.cell (World.block_lt_of_cell? w _ hw126_0)).trans hw126_0), ((HB.out.cell (World.block_lt_of_cell? w _ hw126_1)).trans hw126_1), ((HB.out.cell (World.block_lt_of_cell? w _ hw126_2)).trans hw126_2), ((HB.out.cell (World.block_lt_of_cell? w _ hw127_0)).trans hw127_0), ((HB.out.cell (World.block_lt_of_cell? w _ hw127_1)).trans hw127_1), ((HB.out.cell (World.block_lt_of_cell? w _ hw127_2)).trans hw127_2), ((HB.out.cell (World.block_lt_of_cell? w _ hw128_0)).trans hw128_0), ((HB.out.cell (World.block_lt_of_cell? w _ hw128_1)).trans hw128_1), ((HB.out.cell (World.block_lt_of_cell? w _ hw128_2)).trans hw128_2), ((HB.out.cell (World.block_lt_of_cell? w _ hw129_0)).trans hw129_0), ((HB.out.cell (World.block_lt_of_cell? w _ hw129_1)).trans hw129_1), ((HB.out.cell (World.block_lt_of_cell? w _ hw129_2)).trans hw129_2)⟩ (fun hHeld => ?_); refine with_tabW eddylaw10_alike.tab6 eddylaw10_alike.bits6 (fun HT_ HW_ => ?_)
                    generalize wr.drew = w11 at HB HR124_1 HR125_1 HR126_1 HR127_1 HR128_1 HR129_1 hx124_0 hx124_1 hx124_2 hx125_0 hx125_1 hx125_2 hx126_0 hx126_1 hx126_2 hx127_0 hx127_1 hx127_2 hx128_0 hx128_1 hx128_2 hx129_0 hx129_1 hx129_2 hHeld ⊢
                    refine zp 0 (some 17) ?_ rfl rfl (any_of HT_.out (by kernel_rfl)) (fun _ _ _ h => h) (by rfl) ?_ ?_ ?_ ?_ ?_
                    rotate_left; · (intro w'; go_simp; with_reducible rfl)
                    rotate_left 2; · (simp only [Act.put, zla, zlb, zlc, i64_w, i32_w]; rfl)
                    refine zp 1 (some 18) ?_ rfl rfl (any_of HT_.out (by kernel_rfl)) (fun _ _ _ h => h) (by rfl) ?_ ?_ ?_ ?_ ?_
                    rotate_left; · (intro w'; go_simp; with_reducible rfl)
                    rotate_left 2; · (simp only [Act.put, zla, zlb, zlc, i64_w, i32_w]; rfl)
                    refine zp 2 (some 19) ?_ rfl rfl (any_of HT_.out (by kernel_rfl)) (fun _ _ _ h => h) (by rfl) ?_ ?_ ?_ ?_ ?_
                    rotate_left; · (intro w'; go_simp; with_reducible rfl)
                    rotate_left 2; · (simp only [Act.put, zla, zlb, zlc, i64_w, i32_w]; rfl)
                    refine zp 3 (some 20) ?_ rfl rfl (any_of HT_.out (by kernel_rfl)) (fun _ _ _ h => h) (by rfl) ?_ ?_ ?_ ?_ ?_
                    rotate_left; · (intro w'; go_simp; with_reducible rfl)
                    rotate_left 2; · (simp only [Act.put, zla, zlb, zlc, i64_w, i32_w]; rfl)
                    refine zp 5 (some 22) ?_ rfl rfl (any_of HT_.out (by kernel_rfl)) (fun _ _ _ h => h) (by rfl) ?_ ?_ ?_ ?_ ?_
                    rotate_left; · (intro w'; go_simp; with_reducible rfl)
                    rotate_left 2; · (simp only [Act.put, zla, zlb, zlc, i64_w, i32_w]; rfl)
                    refine zp 6 (some 23) ?_ rfl rfl (any_of HT_.out (by kernel_rfl)) (fun _ _ _ h => h) (by rfl) ?_ ?_ ?_ ?_ ?_
                    rotate_left; · (intro w'; go_simp; with_reducible rfl)
                    rotate_left 2; · (simp only [Act.put, zla, zlb, zlc, i64_w, i32_w]; rfl)
                    refine zp 7 (some 24) ?_ rfl rfl (any_of HT_.out (by kernel_rfl)) (fun _ _ _ h => h) (by rfl) ?_ ?_ ?_ ?_ ?_
                    rotate_left; · (intro w'; go_simp; with_reducible rfl)
                    rotate_left 2; · (simp only [Act.put, zla, zlb, zlc, i64_w, i32_w]; rfl)
                    refine zp 8 (some 25) ?_ rfl rfl (any_of HT_.out (by kernel_rfl)) (fun _ _ _ h => h) (by rfl) ?_ ?_ ?_ ?_ ?_
                    rotate_left; · (intro w'; go_simp; with_reducible rfl)
                    rotate_left 2; · (simp only [Act.put, zla, zlb, zlc, i64_w, i32_w]; rfl)
                    refine zt 4 (some 21) ?_ rfl rfl (take_ofW HT_.out HW_.out (by kernel_rfl)) (fun _ _ _ h => h) (by rfl) ?_ hHeld ?_ ?_ ?_ ?_
                    rotate_left; · (rintro w' ⟨s0, s1, s2, s3, s4, s5, s6, s7, s8, s9, s10, s11, s12, s13, s14, s15, s16, s17⟩; go_simp; with_reducible rfl)
                    rotate_left 2; · (simp only [Act.put, zla, zlb, zlc, i64_w, i32_w]; rfl)
                    refine zt 9 (some 26) ?_ rfl rfl (take_ofW HT_.out HW_.out (by kernel_rfl)) (fun _ _ _ h => h) (by rfl) ?_ hHeld ?_ ?_ ?_ ?_
                    rotate_left; · (rintro w' ⟨s0, s1, s2, s3, s4, s5, s6, s7, s8, s9, s10, s11, s12, s13, s14, s15, s16, s17⟩; go_simp; with_reducible rfl)
                    rotate_left 2; · (simp only [Act.put, zla, zlb, zlc, i64_w, i32_w]; rfl)
                    refine zp 10 (some 27) ?_ rfl rfl (any_of HT_.out (by kernel_rfl)) (fun _ _ _ h => h) (by rfl) ?_ ?_ ?_ ?_ ?_
                    rotate_left; · (intro w'; go_simp; with_reducible rfl)
                    rotate_left 2; · (simp only [Act.put, zla, zlb, zlc, i64_w, i32_w]; rfl)
                    refine zp 11 (some 28) ?_ rfl rfl (any_of HT_.out (by kernel_rfl)) (fun _ _ _ h => h) (by rfl) ?_ ?_ ?_ ?_ ?_
                    rotate_left; · (intro w'; go_simp; with_reducible rfl)
                    rotate_left 2; · (simp only [Act.put, zla, zlb, zlc, i64_w, i32_w]; rfl)
                    refine zp 12 (some 29) ?_ rfl rfl (any_of HT_.out (by kernel_rfl)) (fun _ _ _ h => h) (by rfl) ?_ ?_ ?_ ?_ ?_
                    rotate_left; · (intro w'; go_simp; with_reducible rfl)
                    rotate_left 2; · (simp only [Act.put, zla, zlb, zlc, i64_w, i32_w]; rfl)
                    refine zp 13 (some 30) ?_ rfl rfl (any_of HT_.out (by kernel_rfl)) (fun _ _ _ h => h) (by rfl) ?_ ?_ ?_ ?_ ?_
                    rotate_left; · (intro w'; go_simp; with_reducible rfl)
                    rotate_left 2; · (simp only [Act.put, zla, zlb, zlc, i64_w, i32_w]; rfl)
                    refine zp 14 (some 31) ?_ rfl rfl (any_of HT_.out (by kernel_rfl)) (fun _ _ _ h => h) (by rfl) ?_ ?_ ?_ ?_ ?_
                    rotate_left; · (intro w'; go_simp; with_reducible rfl)
                    rotate_left 2; · (simp only [Act.put, zla, zlb, zlc, i64_w, i32_w]; rfl)
                    refine zp 15 (some 32) ?_ rfl rfl (any_of HT_.out (by kernel_rfl)) (fun _ _ _ h => h) (by rfl) ?_ ?_ ?_ ?_ ?_
                    rotate_left; · (intro w'; go_simp; with_reducible rfl)
                    rotate_left 2; · (simp only [Act.put, zla, zlb, zlc, i64_w, i32_w]; rfl)
                    refine zp 17 (some 34) ?_ rfl rfl (any_of HT_.out (by kernel_rfl)) (fun _ _ _ h => h) (by rfl) ?_ ?_ ?_ ?_ ?_
                    rotate_left; · (intro w'; go_simp; with_reducible rfl)
                    rotate_left 2; · (simp only [Act.put, zla, zlb, zlc, i64_w, i32_w]; rfl)
                    refine zp 18 (some 35) ?_ rfl rfl (any_of HT_.out (by kernel_rfl)) (fun _ _ _ h => h) (by rfl) ?_ ?_ ?_ ?_ ?_
                    rotate_left; · (intro w'; go_simp; with_reducible rfl)
                    rotate_left 2; · (simp only [Act.put, zla, zlb, zlc, i64_w, i32_w]; rfl)
                    refine zp 19 (some 36) ?_ rfl rfl (any_of HT_.out (by kernel_rfl)) (fun _ _ _ h => h) (by rfl) ?_ ?_ ?_ ?_ ?_
                    rotate_left; · (intro w'; go_simp; with_reducible rfl)
                    rotate_left 2; · (simp only [Act.put, zla, zlb, zlc, i64_w, i32_w]; rfl)
                    refine zp 20 (some 37) ?_ rfl rfl (any_of HT_.out (by kernel_rfl)) (fun _ _ _ h => h) (by rfl) ?_ ?_ ?_ ?_ ?_
                    rotate_left; · (intro w'; go_simp; with_reducible rfl)
                    rotate_left 2; · (simp only [Act.put, zla, zlb, zlc, i64_w, i32_w]; rfl)
                    refine zt 16 (some 33) ?_ rfl rfl (take_ofW HT_.out HW_.out (by kernel_rfl)) (fun _ _ _ h => h) (by rfl) ?_ hHeld ?_ ?_ ?_ ?_
                    rotate_left; · (rintro w' ⟨s0, s1, s2, s3, s4, s5, s6, s7, s8, s9, s10, s11, s12, s13, s14, s15, s16, s17⟩; go_simp; with_reducible rfl)
                    rotate_left 2; · (simp only [Act.put, zla, zlb, zlc, i64_w, i32_w]; rfl)
                    refine zt 21 (some 38) ?_ rfl rfl (take_ofW HT_.out HW_.out (by kernel_rfl)) (fun _ _ _ h => h) (by rfl) ?_ hHeld ?_ ?_ ?_ ?_
                    rotate_left; · (rintro w' ⟨s0, s1, s2, s3, s4, s5, s6, s7, s8, s9, s10, s11, s12, s13, s14, s15, s16, s17⟩; go_simp; with_reducible rfl)
                    rotate_left 2; · (simp only [Act.put, zla, zlb, zlc, i64_w, i32_w]; rfl)
                    refine zp 22 (some 39) ?_ rfl rfl (any_of HT_.out (by kernel_rfl)) (fun _ _ _ h => h) (by rfl) ?_ ?_ ?_ ?_ ?_
                    rotate_left; · (intro w'; go_simp; with_reducible rfl)
                    rotate_left 2; · (simp only [Act.put, zla, zlb, zlc, i64_w, i32_w]; rfl)
                    refine zp 23 (some 40) ?_ rfl rfl (any_of HT_.out (by kernel_rfl)) (fun _ _ _ h => h) (by rfl) ?_ ?_ ?_ ?_ ?_
                    rotate_left; · (intro w'; go_simp; with_reducible rfl)
                    rotate_left 2; · (simp only [Act.put, zla, zlb, zlc, i64_w, i32_w]; rfl)
                    refine zp 24 (some 41) ?_ rfl rfl (any_of HT_.out (by kernel_rfl)) (fun _ _ _ h => h) (by rfl) ?_ ?_ ?_ ?_ ?_
                    rotate_left; · (intro w'; go_simp; with_reducible rfl)
                    rotate_left 2; · (simp only [Act.put, zla, zlb, zlc, i64_w, i32_w]; rfl)
                    refine zp 25 (some 42) ?_ rfl rfl (any_of HT_.out (by kernel_rfl)) (fun _ _ _ h => h) (by rfl) ?_ ?_ ?_ ?_ ?_
                    rotate_left; · (intro w'; go_simp; with_reducible rfl)
                    rotate_left 2; · (simp only [Act.put, zla, zlb, zlc, i64_w, i32_w]; rfl)
                    refine zp 26 (some 43) ?_ rfl rfl (any_of HT_.out (by kernel_rfl)) (fun _ _ _ h => h) (by rfl) ?_ ?_ ?_ ?_ ?_
                    rotate_left; · (intro w'; go_simp; with_reducible rfl)
                    rotate_left 2; · (simp only [Act.put, zla, zlb, zlc, i64_w, i32_w]; rfl)
                    refine zp 27 (some 44) ?_ rfl rfl (any_of HT_.out (by kernel_rfl)) (fun _ _ _ h => h) (by rfl) ?_ ?_ ?_ ?_ ?_
                    rotate_left; · (intro w'; go_simp; with_reducible rfl)
                    rotate_left 2; · (simp only [Act.put, zla, zlb, zlc, i64_w, i32_w]; rfl)
                    refine zp 28 (some 45) ?_ rfl rfl (any_of HT_.out (by kernel_rfl)) (fun _ _ _ h => h) (by rfl) ?_ ?_ ?_ ?_ ?_
                    rotate_left; · (intro w'; go_simp; with_reducible rfl)
                    rotate_left 2; · (simp only [Act.put, zla, zlb, zlc, i64_w, i32_w]; rfl)
                    refine zp 30 (some 47) ?_ rfl rfl (any_of HT_.out (by kernel_rfl)) (fun _ _ _ h => h) (by rfl) ?_ ?_ ?_ ?_ ?_
                    rotate_left; · (intro w'; go_simp; with_reducible rfl)
                    rotate_left 2; · (simp only [Act.put, zla, zlb, zlc, i64_w, i32_w]; rfl)
                    refine zp 31 (some 48) ?_ rfl rfl (any_of HT_.out (by kernel_rfl)) (fun _ _ _ h => h) (by rfl) ?_ ?_ ?_ ?_ ?_
                    rotate_left; · (intro w'; go_simp; with_reducible rfl)
                    rotate_left 2; · (simp only [Act.put, zla, zlb, zlc, i64_w, i32_w]; rfl)
                    refine zp 32 (some 49) ?_ rfl rfl (any_of HT_.out (by kernel_rfl)) (fun _ _ _ h => h) (by rfl) ?_ ?_ ?_ ?_ ?_
                    rotate_left; · (intro w'; go_simp; with_reducible rfl)
                    rotate_left 2; · (simp only [Act.put, zla, zlb, zlc, i64_w, i32_w]; rfl)
                    refine zp 33 (some 50) ?_ rfl rfl (any_of HT_.out (by kernel_rfl)) (fun _ _ _ h => h) (by rfl) ?_ ?_ ?_ ?_ ?_
                    rotate_left; · (intro w'; go_simp; with_reducible rfl)
                    rotate_left 2; · (simp only [Act.put, zla, zlb, zlc, i64_w, i32_w]; rfl)
                    refine zt 29 (some 46) ?_ rfl rfl (take_ofW HT_.out HW_.out (by kernel_rfl)) (fun _ _ _ h => h) (by rfl) ?_ hHeld ?_ ?_ ?_ ?_
                    rotate_left; · (rintro w' ⟨s0, s1, s2, s3, s4, s5, s6, s7, s8, s9, s10, s11, s12, s13, s14, s15, s16, s17⟩; go_simp; with_reducible rfl)
                    rotate_left 2; · (simp only [Act.put, zla, zlb, zlc, i64_w, i32_w]; rfl)
                    refine zt 34 (some 51) ?_ rfl rfl (take_ofW HT_.out HW_.out (by kernel_rfl)) (fun _ _ _ h => h) (by rfl) ?_ hHeld ?_ ?_ ?_ ?_
                    rotate_left; · (rintro w' ⟨s0, s1, s2, s3, s4, s5, s6, s7, s8, s9, s10, s11, s12, s13, s14, s15, s16, s17⟩; go_simp; with_reducible rfl)
                    rotate_left 2; · (simp only [Act.put, zla, zlb, zlc, i64_w, i32_w]; rfl)
                    refine one_ (i := 35) (N := some 52) #[true, true, true, true, true, true, true, true, true, true, true, true, true, true, true, true, true, true, true, true, true, true, true, true, true, true, true, true, true, true, true, true, true, true, true, true, false, false] rfl rfl (one_of HT_.out (by kernel_rfl)) (by decide) (fun K hK => ?_)
                    refine goes_ Try.func37 (by kernel_rfl) rfl #[.slice A124_1 ((rd_T67 l0 x5_1).f1).length c124_1, .slice A125_1 ((rd_T67 l1 x5_1).f1).length c125_1] (by rfl) rfl rfl (by (try simp only [List.map_toArray, List.map_cons, List.map_nil]); first | done | rfl | (simp only [List.length_drop, List.length_take]; rfl)) ?_
                    with_reducible refine (eddylaw10_same.calls k1 _ _ ((rd_T67 l0 x5_1).f1) _ _ ((rd_T67 l1 x5_1).f1) true _ ?side1 ?side2 ?side3 ?side4 A9.out).mono ?_
                    (case side1 => repeat (first | exact (Kd.C_below HR128_1.out HB.out) | (with_reducible refine Kd.C_alloc ?_ _) | (with_reducible refine Kd.C_drewN ?_ _) | (with_reducible refine Kd.C_drew ?_)))
                    (case side2 => exact HC128_1.out)
                    (case side3 => repeat (first | exact (Kd.C_below HR129_1.out HB.out) | (with_reducible refine Kd.C_alloc ?_ _) | (with_reducible refine Kd.C_drewN ?_ _) | (with_reducible refine Kd.C_drew ?_)))
                    (case side4 => exact HC129_1.out)
                    rintro e w' ⟨rfl, ⟨nd, rfl⟩⟩
                    refine ⟨_, rfl, ?_⟩
                    refine hK.out _ _ ⟨((HB.out.cell (World.block_lt_of_cell? w _ hw124_0)).trans hw124_0), ((HB.out.cell (World.block_lt_of_cell? w _ hw124_1)).trans hw124_1), ((HB.out.cell (World.block_lt_of_cell? w _ hw124_2)).trans hw124_2), ((HB.out.cell (World.block_lt_of_cell? w _ hw125_0)).trans hw125_0), ((HB.out.cell (World.block_lt_of_cell? w _ hw125_1)).trans hw125_1), ((HB.out.cell (World.block_lt_of_cell? w _ hw125_2)).trans hw125_2), ((HB.out.cell (World.block_lt_of_cell? w _ hw126_0)).trans hw126_0), ((HB.out.cell (World.block_lt_of_cell? w _ hw126_1)).trans hw126_1), ((HB.out.cell (World.block_lt_of_cell? w _ hw126_2)).trans hw126_2), ((HB.out.cell (World.block_lt_of_cell? w _ hw127_0)).trans hw127_0), ((HB.out.cell (World.block_lt_of_cell? w _ hw127_1)).trans hw127_1), ((HB.out.cell (World.block_lt_of_cell? w _ hw127_2)).trans hw127_2), ((HB.out.cell (World.block_lt_of_cell? w _ hw128_0)).trans hw128_0), ((HB.out.cell (World.block_lt_of_cell? w _ hw128_1)).trans hw128_1), ((HB.out.cell (World.block_lt_of_cell? w _ hw128_2)).trans hw128_2), ((HB.out.cell (World.block_lt_of_cell? w _ hw129_0)).trans hw129_0), ((HB.out.cell (World.block_lt_of_cell? w _ hw129_1)).trans hw129_1), ((HB.out.cell (World.block_lt_of_cell? w _ hw129_2)).trans hw129_2)⟩ (fun hHeld => ?_)
                    clear hK K
                    refine norm_ (a' := ?_) ?_ ?_
                    rotate_left
                    · show Act.put _ (some 52) _ = _
                      simp only [Act.put, zla, zlb, zlc, i64_w, i32_w]
                      rfl
                    refine zp 36 (some 53) ?_ rfl rfl (any_of HT_.out (by kernel_rfl)) (fun _ _ _ h => h) (by rfl) ?_ ?_ ?_ ?_ ?_
                    rotate_left; · (intro w'; go_simp; with_reducible rfl)
                    rotate_left 2; · (simp only [Act.put, zla, zlb, zlc, i64_w, i32_w]; rfl)
                    refine zp 37 (some 54) ?_ rfl rfl (any_of HT_.out (by kernel_rfl)) (fun _ _ _ h => h) (by rfl) ?_ ?_ ?_ ?_ ?_
                    rotate_left; · (intro w'; go_simp; with_reducible rfl)
                    rotate_left 2; · (simp only [Act.put, zla, zlb, zlc, i64_w, i32_w]; rfl)
                    refine done_ (done_of HT_.out (by kernel_rfl)) ?_
                    try go_wp2
                    go_roundg k1
                    case measure => have := HK1.out; omega
                    case rel => exact ⟨(wrap64 (x5_1 + 1)), (by first | rfl | (simp; done) | (simp [*]; done)), H', ⟨by have := HK1.out; omega⟩, ⟨by repeat (first | (with_reducible first | exact HB.out | apply below_alloc | apply pw_below_drewN | apply below_drew1) | exact HB.out)⟩⟩
                  · replace c10 := Bool.eq_false_iff.mpr c10
                    subst c10
                    have H1 : (some false) = some r := by rw [if_neg (show ¬ (false = true) by decide)] at H; exact H
                    clear H
                    have H := H1
                    clear H1
                    obtain rfl := Option.some.inj H
                    try go_wp2
                    have n0_ := Aside0.mk (below_drew1 HB.out)
                    clear HB
                    have HB := n0_
                    clear n0_
                    have p124 : 0 ≤ (x5_1 : Int) := of_decide_eq_true (by first | (with_reducible assumption) | assumption)
                    have q124 : x5_1 < (l0.length : Int) := of_decide_eq_true (by first | (with_reducible assumption) | assumption)
                    obtain ⟨ad124, A124_1, c124_1, e124, hx124_0, hx124_1, hx124_2, hl124_1, hi124_1⟩ := at_T67 HR0.out x5_1 p124 q124
                    have hw124_2 := hx124_2
                    have hw124_1 := hx124_1
                    have hw124_0 := hx124_0
                    cases e124
                    replace hx124_0 := (HB.out.cell (World.block_lt_of_cell? w _ hx124_0)).trans hx124_0
                    replace hx124_1 := (HB.out.cell (World.block_lt_of_cell? w _ hx124_1)).trans hx124_1
                    replace hx124_2 := (HB.out.cell (World.block_lt_of_cell? w _ hx124_2)).trans hx124_2
                    have HR124_1 := Aside0.mk hi124_1
                    have HC124_1 := Aside0.mk hl124_1
                    clear hi124_1 hl124_1
                    replace p124 := eq_true p124
                    replace q124 := eq_true q124
                    have p125 : 0 ≤ (x5_1 : Int) := of_decide_eq_true (by first | (with_reducible assumption) | assumption)
                    have q125 : x5_1 < (l1.length : Int) := of_decide_eq_true (by first | (with_reducible assumption) | assumption)
                    obtain ⟨ad125, A125_1, c125_1, e125, hx125_0, hx125_1, hx125_2, hl125_1, hi125_1⟩ := at_T67 HR1.out x5_1 p125 q125
                    have hw125_2 := hx125_2
                    have hw125_1 := hx125_1
                    have hw125_0 := hx125_0
                    cases e125
                    replace hx125_0 := (HB.out.cell (World.block_lt_of_cell? w _ hx125_0)).trans hx125_0
                    replace hx125_1 := (HB.out.cell (World.block_lt_of_cell? w _ hx125_1)).trans hx125_1
                    replace hx125_2 := (HB.out.cell (World.block_lt_of_cell? w _ hx125_2)).trans hx125_2
                    have HR125_1 := Aside0.mk hi125_1
                    have HC125_1 := Aside0.mk hl125_1
                    clear hi125_1 hl125_1
                    replace p125 := eq_true p125
                    replace q125 := eq_true q125
                    have p126 : 0 ≤ (x5_1 : Int) := of_decide_eq_true (by first | (with_reducible assumption) | assumption)
                    have q126 : x5_1 < (l0.length : Int) := of_decide_eq_true (by first | (with_reducible assumption) | assumption)
                    obtain ⟨ad126, A126_1, c126_1, e126, hx126_0, hx126_1, hx126_2, hl126_1, hi126_1⟩ := at_T67 HR0.out x5_1 p126 q126
                    have hw126_2 := hx126_2
                    have hw126_1 := hx126_1
                    have hw126_0 := hx126_0
                    obtain rfl : ad124 = ad126 := (by injection e126)
                    replace hx126_0 := (HB.out.cell (World.block_lt_of_cell? w _ hx126_0)).trans hx126_0
                    replace hx126_1 := (HB.out.cell (World.block_lt_of_cell? w _ hx126_1)).trans hx126_1
                    replace hx126_2 := (HB.out.cell (World.block_lt_of_cell? w _ hx126_2)).trans hx126_2
                    have HR126_1 := Aside0.mk hi126_1
                    have HC126_1 := Aside0.mk hl126_1
                    clear hi126_1 hl126_1
                    replace p126 := eq_true p126
                    replace q126 := eq_true q126
                    have ea_ := Option.some.inj (hx124_1.symm.trans hx126_1)
                    injection ea_ with ea_ en_ ec_
                    subst ea_
                    subst ec_
                    clear en_
                    have p127 : 0 ≤ (x5_1 : Int) := of_decide_eq_true (by first | (with_reducible assumption) | assumption)
                    have q127 : x5_1 < (l1.length : Int) := of_decide_eq_true (by first | (with_reducible assumption) | assumption)
                    obtain ⟨ad127, A127_1, c127_1, e127, hx127_0, hx127_1, hx127_2, hl127_1, hi127_1⟩ := at_T67 HR1.out x5_1 p127 q127
                    have hw127_2 := hx127_2
                    have hw127_1 := hx127_1
                    have hw127_0 := hx127_0
                    obtain rfl : ad125 = ad127 := (by injection e127)
                    replace hx127_0 := (HB.out.cell (World.block_lt_of_cell? w _ hx127_0)).trans hx127_0
                    replace hx127_1 := (HB.out.cell (World.block_lt_of_cell? w _ hx127_1)).trans hx127_1
                    replace hx127_2 := (HB.out.cell (World.block_lt_of_cell? w _ hx127_2)).trans hx127_2
                    have HR127_1 := Aside0.mk hi127_1
                    have HC127_1 := Aside0.mk hl127_1
                    clear hi127_1 hl127_1
                    replace p127 := eq_true p127
                    replace q127 := eq_true q127
                    have ea_ := Option.some.inj (hx125_1.symm.trans hx127_1)
                    injection ea_ with ea_ en_ ec_
                    subst ea_
                    subst ec_
                    clear en_
                    have p128 : 0 ≤ (x5_1 : Int) := of_decide_eq_true (by first | (with_reducible assumption) | assumption)
                    have q128 : x5_1 < (l0.length : Int) := of_decide_eq_true (by first | (with_reducible assumption) | assumption)
                    obtain ⟨ad128, A128_1, c128_1, e128, hx128_0, hx128_1, hx128_2, hl128_1, hi128_1⟩ := at_T67 HR0.out x5_1 p128 q128
                    have hw128_2 := hx128_2
                    have hw128_1 := hx128_1
                    have hw128_0 := hx128_0
                    obtain rfl : ad124 = ad128 := (by injection e128)
                    replace hx128_0 := (HB.out.cell (World.block_lt_of_cell? w _ hx128_0)).trans hx128_0
                    replace hx128_1 := (HB.out.cell (World.block_lt_of_cell? w _ hx128_1)).trans hx128_1
                    replace hx128_2 := (HB.out.cell (World.block_lt_of_cell? w _ hx128_2)).trans hx128_2
                    have HR128_1 := Aside0.mk hi128_1
                    have HC128_1 := Aside0.mk hl128_1
                    clear hi128_1 hl128_1
                    replace p128 := eq_true p128
                    replace q128 := eq_true q128
                    have ea_ := Option.some.inj (hx124_1.symm.trans hx128_1)
                    injection ea_ with ea_ en_ ec_
                    subst ea_
                    subst ec_
                    clear en_
                    have p129 : 0 ≤ (x5_1 : Int) := of_decide_eq_true (by first | (with_reducible assumption) | assumption)
                    have q129 : x5_1 < (l1.length : Int) := of_decide_eq_true (by first | (with_reducible assumption) | assumption)
                    obtain ⟨ad129, A129_1, c129_1, e129, hx129_0, hx129_1, hx129_2, hl129_1, hi129_1⟩ := at_T67 HR1.out x5_1 p129 q129
                    have hw129_2 := hx129_2
                    have hw129_1 := hx129_1
                    have hw129_0 := hx129_0
                    obtain rfl : ad125 = ad129 := (by injection e129)
                    replace hx129_0 := (HB.out.cell (World.block_lt_of_cell? w _ hx129_0)).trans hx129_0
                    replace hx129_1 := (HB.out.cell (World.block_lt_of_cell? w _ hx129_1)).trans hx129_1
                    replace hx129_2 := (HB.out.cell (World.block_lt_of_cell? w _ hx129_2)).trans hx129_2
                    have HR129_1 := Aside0.mk hi129_1
                    have HC129_1 := Aside0.mk hl129_1
                    clear hi129_1 hl129_1
                    replace p129 := eq_true p129
                    replace q129 := eq_true q129
                    have ea_ := Option.some.inj (hx125_1.symm.trans hx129_1)
                    injection ea_ with ea_ en_ ec_
                    subst ea_
                    subst ec_
                    clear en_
                    refine start_ (n := 38) (S := fun w' => w'.cell? (ad124.add ((x5_1).toNat * 3)) = some (.string ((rd_T67 l0 x5_1).f0)) ∧ w'.cell? ⟨(ad124.add ((x5_1).toNat * 3)).block, (ad124.add ((x5_1).toNat * 3)).off + 1, none⟩ = some (.slice A124_1 ((rd_T67 l0 x5_1).f1).length c124_1) ∧ w'.cell? ⟨(ad124.add ((x5_1).toNat * 3)).block, (ad124.add ((x5_1).toNat * 3)).off + 2, none⟩ = some (.int .i64 ((rd_T67 l0 x5_1).f2)) ∧ w'.cell? (ad125.add ((x5_1).toNat * 3)) = some (.string ((rd_T67 l1 x5_1).f0)) ∧ w'.cell? ⟨(ad125.add ((x5_1).toNat * 3)).block, (ad125.add ((x5_1).toNat * 3)).off + 1, none⟩ = some (.slice A125_1 ((rd_T67 l1 x5_1).f1).length c125_1) ∧ w'.cell? ⟨(ad125.add ((x5_1).toNat * 3)).block, (ad125.add ((x5_1).toNat * 3)).off + 2, none⟩ = some (.int .i64 ((rd_T67 l1 x5_1).f2)) ∧ w'.cell? (ad124.add ((x5_1).toNat * 3)) = some (.string ((rd_T67 l0 x5_1).f0)) ∧ w'.cell? ⟨(ad124.add ((x5_1).toNat * 3)).block, (ad124.add ((x5_1).toNat * 3)).off + 1, none⟩ = some (.slice A124_1 ((rd_T67 l0 x5_1).f1).length c124_1) ∧ w'.cell? ⟨(ad124.add ((x5_1).toNat * 3)).block, (ad124.add ((x5_1).toNat * 3)).off + 2, none⟩ = some (.int .i64 ((rd_T67 l0 x5_1).f2)) ∧ w'.cell? (ad125.add ((x5_1).toNat * 3)) = some (.string ((rd_T67 l1 x5_1).f0)) ∧ w'.cell? ⟨(ad125.add ((x5_1).toNat * 3)).block, (ad125.add ((x5_1).toNat * 3)).off + 1, none⟩ = some (.slice A125_1 ((rd_T67 l1 x5_1).f1).length c125_1) ∧ w'.cell? ⟨(ad125.add ((x5_1).toNat * 3)).block, (ad125.add ((x5_1).toNat * 3)).off + 2, none⟩ = some (.int .i64 ((rd_T67 l1 x5_1).f2)) ∧ w'.cell? (ad124.add ((x5_1).toNat * 3)) = some (.string ((rd_T67 l0 x5_1).f0)) ∧ w'.cell? ⟨(ad124.add ((x5_1).toNat * 3)).block, (ad124.add ((x5_1).toNat * 3)).off + 1, none⟩ = some (.slice A124_1 ((rd_T67 l0 x5_1).f1).length c124_1) ∧ w'.cell? ⟨(ad124.add ((x5_1).toNat * 3)).block, (ad124.add ((x5_1).toNat * 3)).off + 2, none⟩ = some (.int .i64 ((rd_T67 l0 x5_1).f2)) ∧ w'.cell? (ad125.add ((x5_1).toNat * 3)) = some (.string ((rd_T67 l1 x5_1).f0)) ∧ w'.cell? ⟨(ad125.add ((x5_1).toNat * 3)).block, (ad125.add ((x5_1).toNat * 3)).off + 1, none⟩ = some (.slice A125_1 ((rd_T67 l1 x5_1).f1).length c125_1) ∧ w'.cell? ⟨(ad125.add ((x5_1).toNat * 3)).block, (ad125.add ((x5_1).toNat * 3)).off + 2, none⟩ = some (.int .i64 ((rd_T67 l1 x5_1).f2))) (ds := []) #[false, false, false, false, false, false, false, false, false, false, false, false, false, false, false, false, false, false, false, false, false, false, false, false, false, false, false, false, false, false, false, false, false, false, false, false, false, false] (by kernel_rfl) rfl rfl ⟨((HB.out.cell (World.block_lt_of_cell? w _ hw124_0)).trans hw124_0), ((HB.out.cell (World.block_lt_of_cell? w _ hw124_1)).trans hw124_1), ((HB.out.cell (World.block_lt_of_cell? w _ hw124_2)).trans hw124_2), ((HB.out.cell (World.block_lt_of_cell? w _ hw125_0)).trans hw125_0), ((HB.out.cell (World.block_lt_of_cell? w _ hw125_1)).trans hw125_1), ((HB.out.cell (World.block_lt_of_cell? w _ hw125_2)).trans hw125_2), ((HB.out.cell (World.block_lt_of_cell? w _ hw126_0)).trans hw126_0), ((HB.out.cell (World.block_lt_of_cell? w _ hw126_1)).trans hw126_1), ((HB.out.cell (World.block_lt_of_cell? w _ hw126_2)).trans hw126_2), ((HB.out.cell (World.block_lt_of_cell? w _ hw127_0)).trans hw127_0), ((HB.out.cell (World.block_lt_of_cell? w _ hw127_1)).trans hw127_1), ((HB.out.cell (World.block_lt_of_cell? w _ hw127_2)).trans hw127_2), ((HB.out.cell (World.block_lt_of_cell? w _ hw128_0)).trans hw128_0), ((HB.out.cell (World.block_lt_of_cell? w _ hw128_1)).trans hw128_1), ((HB.out.cell (World.block_lt_of_cell? w _ hw128_2)).trans hw128_2), ((HB.out.cell (World.block_lt_of_cell? w _ hw129_0)).trans hw129_0), ((HB.out.cell (World.block_lt_of_cell? w _ hw129_1)).trans hw129_1), ((HB.out.cell (World.block_lt_of_cell? w _ hw129_2)).trans hw129_2)⟩ (fun hHeld => ?_); refine with_tabW eddylaw10_alike.tab6 eddylaw10_alike.bits6 (fun HT_ HW_ => ?_)
                    generalize wr.drew = w12 at HB HR124_1 HR125_1 HR126_1 HR127_1 HR128_1 HR129_1 hx124_0 hx124_1 hx124_2 hx125_0 hx125_1 hx125_2 hx126_0 hx126_1 hx126_2 hx127_0 hx127_1 hx127_2 hx128_0 hx128_1 hx128_2 hx129_0 hx129_1 hx129_2 hHeld ⊢
                    refine zp 0 (some 17) ?_ rfl rfl (any_of HT_.out (by kernel_rfl)) (fun _ _ _ h => h) (by rfl) ?_ ?_ ?_ ?_ ?_
                    rotate_left; · (intro w'; go_simp; with_reducible rfl)
                    rotate_left 2; · (simp only [Act.put, zla, zlb, zlc, i64_w, i32_w]; rfl)
                    refine zp 1 (some 18) ?_ rfl rfl (any_of HT_.out (by kernel_rfl)) (fun _ _ _ h => h) (by rfl) ?_ ?_ ?_ ?_ ?_
                    rotate_left; · (intro w'; go_simp; with_reducible rfl)
                    rotate_left 2; · (simp only [Act.put, zla, zlb, zlc, i64_w, i32_w]; rfl)
                    refine zp 2 (some 19) ?_ rfl rfl (any_of HT_.out (by kernel_rfl)) (fun _ _ _ h => h) (by rfl) ?_ ?_ ?_ ?_ ?_
                    rotate_left; · (intro w'; go_simp; with_reducible rfl)
                    rotate_left 2; · (simp only [Act.put, zla, zlb, zlc, i64_w, i32_w]; rfl)
                    refine zp 3 (some 20) ?_ rfl rfl (any_of HT_.out (by kernel_rfl)) (fun _ _ _ h => h) (by rfl) ?_ ?_ ?_ ?_ ?_
                    rotate_left; · (intro w'; go_simp; with_reducible rfl)
                    rotate_left 2; · (simp only [Act.put, zla, zlb, zlc, i64_w, i32_w]; rfl)
                    refine zp 5 (some 22) ?_ rfl rfl (any_of HT_.out (by kernel_rfl)) (fun _ _ _ h => h) (by rfl) ?_ ?_ ?_ ?_ ?_
                    rotate_left; · (intro w'; go_simp; with_reducible rfl)
                    rotate_left 2; · (simp only [Act.put, zla, zlb, zlc, i64_w, i32_w]; rfl)
                    refine zp 6 (some 23) ?_ rfl rfl (any_of HT_.out (by kernel_rfl)) (fun _ _ _ h => h) (by rfl) ?_ ?_ ?_ ?_ ?_
                    rotate_left; · (intro w'; go_simp; with_reducible rfl)
                    rotate_left 2; · (simp only [Act.put, zla, zlb, zlc, i64_w, i32_w]; rfl)
                    refine zp 7 (some 24) ?_ rfl rfl (any_of HT_.out (by kernel_rfl)) (fun _ _ _ h => h) (by rfl) ?_ ?_ ?_ ?_ ?_
                    rotate_left; · (intro w'; go_simp; with_reducible rfl)
                    rotate_left 2; · (simp only [Act.put, zla, zlb, zlc, i64_w, i32_w]; rfl)
                    refine zp 8 (some 25) ?_ rfl rfl (any_of HT_.out (by kernel_rfl)) (fun _ _ _ h => h) (by rfl) ?_ ?_ ?_ ?_ ?_
                    rotate_left; · (intro w'; go_simp; with_reducible rfl)
                    rotate_left 2; · (simp only [Act.put, zla, zlb, zlc, i64_w, i32_w]; rfl)
                    refine zt 4 (some 21) ?_ rfl rfl (take_ofW HT_.out HW_.out (by kernel_rfl)) (fun _ _ _ h => h) (by rfl) ?_ hHeld ?_ ?_ ?_ ?_
                    rotate_left; · (rintro w' ⟨s0, s1, s2, s3, s4, s5, s6, s7, s8, s9, s10, s11, s12, s13, s14, s15, s16, s17⟩; go_simp; with_reducible rfl)
                    rotate_left 2; · (simp only [Act.put, zla, zlb, zlc, i64_w, i32_w]; rfl)
                    refine zt 9 (some 26) ?_ rfl rfl (take_ofW HT_.out HW_.out (by kernel_rfl)) (fun _ _ _ h => h) (by rfl) ?_ hHeld ?_ ?_ ?_ ?_
                    rotate_left; · (rintro w' ⟨s0, s1, s2, s3, s4, s5, s6, s7, s8, s9, s10, s11, s12, s13, s14, s15, s16, s17⟩; go_simp; with_reducible rfl)
                    rotate_left 2; · (simp only [Act.put, zla, zlb, zlc, i64_w, i32_w]; rfl)
                    refine zp 10 (some 27) ?_ rfl rfl (any_of HT_.out (by kernel_rfl)) (fun _ _ _ h => h) (by rfl) ?_ ?_ ?_ ?_ ?_
                    rotate_left; · (intro w'; go_simp; with_reducible rfl)
                    rotate_left 2; · (simp only [Act.put, zla, zlb, zlc, i64_w, i32_w]; rfl)
                    refine zp 11 (some 28) ?_ rfl rfl (any_of HT_.out (by kernel_rfl)) (fun _ _ _ h => h) (by rfl) ?_ ?_ ?_ ?_ ?_
                    rotate_left; · (intro w'; go_simp; with_reducible rfl)
                    rotate_left 2; · (simp only [Act.put, zla, zlb, zlc, i64_w, i32_w]; rfl)
                    refine zp 12 (some 29) ?_ rfl rfl (any_of HT_.out (by kernel_rfl)) (fun _ _ _ h => h) (by rfl) ?_ ?_ ?_ ?_ ?_
                    rotate_left; · (intro w'; go_simp; with_reducible rfl)
                    rotate_left 2; · (simp only [Act.put, zla, zlb, zlc, i64_w, i32_w]; rfl)
                    refine zp 13 (some 30) ?_ rfl rfl (any_of HT_.out (by kernel_rfl)) (fun _ _ _ h => h) (by rfl) ?_ ?_ ?_ ?_ ?_
                    rotate_left; · (intro w'; go_simp; with_reducible rfl)
                    rotate_left 2; · (simp only [Act.put, zla, zlb, zlc, i64_w, i32_w]; rfl)
                    refine zp 14 (some 31) ?_ rfl rfl (any_of HT_.out (by kernel_rfl)) (fun _ _ _ h => h) (by rfl) ?_ ?_ ?_ ?_ ?_
                    rotate_left; · (intro w'; go_simp; with_reducible rfl)
                    rotate_left 2; · (simp only [Act.put, zla, zlb, zlc, i64_w, i32_w]; rfl)
                    refine zp 15 (some 32) ?_ rfl rfl (any_of HT_.out (by kernel_rfl)) (fun _ _ _ h => h) (by rfl) ?_ ?_ ?_ ?_ ?_
                    rotate_left; · (intro w'; go_simp; with_reducible rfl)
                    rotate_left 2; · (simp only [Act.put, zla, zlb, zlc, i64_w, i32_w]; rfl)
                    refine zp 17 (some 34) ?_ rfl rfl (any_of HT_.out (by kernel_rfl)) (fun _ _ _ h => h) (by rfl) ?_ ?_ ?_ ?_ ?_
                    rotate_left; · (intro w'; go_simp; with_reducible rfl)
                    rotate_left 2; · (simp only [Act.put, zla, zlb, zlc, i64_w, i32_w]; rfl)
                    refine zp 18 (some 35) ?_ rfl rfl (any_of HT_.out (by kernel_rfl)) (fun _ _ _ h => h) (by rfl) ?_ ?_ ?_ ?_ ?_
                    rotate_left; · (intro w'; go_simp; with_reducible rfl)
                    rotate_left 2; · (simp only [Act.put, zla, zlb, zlc, i64_w, i32_w]; rfl)
                    refine zp 19 (some 36) ?_ rfl rfl (any_of HT_.out (by kernel_rfl)) (fun _ _ _ h => h) (by rfl) ?_ ?_ ?_ ?_ ?_
                    rotate_left; · (intro w'; go_simp; with_reducible rfl)
                    rotate_left 2; · (simp only [Act.put, zla, zlb, zlc, i64_w, i32_w]; rfl)
                    refine zp 20 (some 37) ?_ rfl rfl (any_of HT_.out (by kernel_rfl)) (fun _ _ _ h => h) (by rfl) ?_ ?_ ?_ ?_ ?_
                    rotate_left; · (intro w'; go_simp; with_reducible rfl)
                    rotate_left 2; · (simp only [Act.put, zla, zlb, zlc, i64_w, i32_w]; rfl)
                    refine zt 16 (some 33) ?_ rfl rfl (take_ofW HT_.out HW_.out (by kernel_rfl)) (fun _ _ _ h => h) (by rfl) ?_ hHeld ?_ ?_ ?_ ?_
                    rotate_left; · (rintro w' ⟨s0, s1, s2, s3, s4, s5, s6, s7, s8, s9, s10, s11, s12, s13, s14, s15, s16, s17⟩; go_simp; with_reducible rfl)
                    rotate_left 2; · (simp only [Act.put, zla, zlb, zlc, i64_w, i32_w]; rfl)
                    refine zt 21 (some 38) ?_ rfl rfl (take_ofW HT_.out HW_.out (by kernel_rfl)) (fun _ _ _ h => h) (by rfl) ?_ hHeld ?_ ?_ ?_ ?_
                    rotate_left; · (rintro w' ⟨s0, s1, s2, s3, s4, s5, s6, s7, s8, s9, s10, s11, s12, s13, s14, s15, s16, s17⟩; go_simp; with_reducible rfl)
                    rotate_left 2; · (simp only [Act.put, zla, zlb, zlc, i64_w, i32_w]; rfl)
                    refine zp 22 (some 39) ?_ rfl rfl (any_of HT_.out (by kernel_rfl)) (fun _ _ _ h => h) (by rfl) ?_ ?_ ?_ ?_ ?_
                    rotate_left; · (intro w'; go_simp; with_reducible rfl)
                    rotate_left 2; · (simp only [Act.put, zla, zlb, zlc, i64_w, i32_w]; rfl)
                    refine zp 23 (some 40) ?_ rfl rfl (any_of HT_.out (by kernel_rfl)) (fun _ _ _ h => h) (by rfl) ?_ ?_ ?_ ?_ ?_
                    rotate_left; · (intro w'; go_simp; with_reducible rfl)
                    rotate_left 2; · (simp only [Act.put, zla, zlb, zlc, i64_w, i32_w]; rfl)
                    refine zp 24 (some 41) ?_ rfl rfl (any_of HT_.out (by kernel_rfl)) (fun _ _ _ h => h) (by rfl) ?_ ?_ ?_ ?_ ?_
                    rotate_left; · (intro w'; go_simp; with_reducible rfl)
                    rotate_left 2; · (simp only [Act.put, zla, zlb, zlc, i64_w, i32_w]; rfl)
                    refine zp 25 (some 42) ?_ rfl rfl (any_of HT_.out (by kernel_rfl)) (fun _ _ _ h => h) (by rfl) ?_ ?_ ?_ ?_ ?_
                    rotate_left; · (intro w'; go_simp; with_reducible rfl)
                    rotate_left 2; · (simp only [Act.put, zla, zlb, zlc, i64_w, i32_w]; rfl)
                    refine zp 26 (some 43) ?_ rfl rfl (any_of HT_.out (by kernel_rfl)) (fun _ _ _ h => h) (by rfl) ?_ ?_ ?_ ?_ ?_
                    rotate_left; · (intro w'; go_simp; with_reducible rfl)
                    rotate_left 2; · (simp only [Act.put, zla, zlb, zlc, i64_w, i32_w]; rfl)
                    refine zp 27 (some 44) ?_ rfl rfl (any_of HT_.out (by kernel_rfl)) (fun _ _ _ h => h) (by rfl) ?_ ?_ ?_ ?_ ?_
                    rotate_left; · (intro w'; go_simp; with_reducible rfl)
                    rotate_left 2; · (simp only [Act.put, zla, zlb, zlc, i64_w, i32_w]; rfl)
                    refine zp 28 (some 45) ?_ rfl rfl (any_of HT_.out (by kernel_rfl)) (fun _ _ _ h => h) (by rfl) ?_ ?_ ?_ ?_ ?_
                    rotate_left; · (intro w'; go_simp; with_reducible rfl)
                    rotate_left 2; · (simp only [Act.put, zla, zlb, zlc, i64_w, i32_w]; rfl)
                    refine zp 30 (some 47) ?_ rfl rfl (any_of HT_.out (by kernel_rfl)) (fun _ _ _ h => h) (by rfl) ?_ ?_ ?_ ?_ ?_
                    rotate_left; · (intro w'; go_simp; with_reducible rfl)
                    rotate_left 2; · (simp only [Act.put, zla, zlb, zlc, i64_w, i32_w]; rfl)
                    refine zp 31 (some 48) ?_ rfl rfl (any_of HT_.out (by kernel_rfl)) (fun _ _ _ h => h) (by rfl) ?_ ?_ ?_ ?_ ?_
                    rotate_left; · (intro w'; go_simp; with_reducible rfl)
                    rotate_left 2; · (simp only [Act.put, zla, zlb, zlc, i64_w, i32_w]; rfl)
                    refine zp 32 (some 49) ?_ rfl rfl (any_of HT_.out (by kernel_rfl)) (fun _ _ _ h => h) (by rfl) ?_ ?_ ?_ ?_ ?_
                    rotate_left; · (intro w'; go_simp; with_reducible rfl)
                    rotate_left 2; · (simp only [Act.put, zla, zlb, zlc, i64_w, i32_w]; rfl)
                    refine zp 33 (some 50) ?_ rfl rfl (any_of HT_.out (by kernel_rfl)) (fun _ _ _ h => h) (by rfl) ?_ ?_ ?_ ?_ ?_
                    rotate_left; · (intro w'; go_simp; with_reducible rfl)
                    rotate_left 2; · (simp only [Act.put, zla, zlb, zlc, i64_w, i32_w]; rfl)
                    refine zt 29 (some 46) ?_ rfl rfl (take_ofW HT_.out HW_.out (by kernel_rfl)) (fun _ _ _ h => h) (by rfl) ?_ hHeld ?_ ?_ ?_ ?_
                    rotate_left; · (rintro w' ⟨s0, s1, s2, s3, s4, s5, s6, s7, s8, s9, s10, s11, s12, s13, s14, s15, s16, s17⟩; go_simp; with_reducible rfl)
                    rotate_left 2; · (simp only [Act.put, zla, zlb, zlc, i64_w, i32_w]; rfl)
                    refine zt 34 (some 51) ?_ rfl rfl (take_ofW HT_.out HW_.out (by kernel_rfl)) (fun _ _ _ h => h) (by rfl) ?_ hHeld ?_ ?_ ?_ ?_
                    rotate_left; · (rintro w' ⟨s0, s1, s2, s3, s4, s5, s6, s7, s8, s9, s10, s11, s12, s13, s14, s15, s16, s17⟩; go_simp; with_reducible rfl)
                    rotate_left 2; · (simp only [Act.put, zla, zlb, zlc, i64_w, i32_w]; rfl)
                    refine one_ (i := 35) (N := some 52) #[true, true, true, true, true, true, true, true, true, true, true, true, true, true, true, true, true, true, true, true, true, true, true, true, true, true, true, true, true, true, true, true, true, true, true, true, false, false] rfl rfl (one_of HT_.out (by kernel_rfl)) (by decide) (fun K hK => ?_)
                    refine goes_ Try.func37 (by kernel_rfl) rfl #[.slice A124_1 ((rd_T67 l0 x5_1).f1).length c124_1, .slice A125_1 ((rd_T67 l1 x5_1).f1).length c125_1] (by rfl) rfl rfl (by (try simp only [List.map_toArray, List.map_cons, List.map_nil]); first | done | rfl | (simp only [List.length_drop, List.length_take]; rfl)) ?_
                    with_reducible refine (eddylaw10_same.calls k1 _ _ ((rd_T67 l0 x5_1).f1) _ _ ((rd_T67 l1 x5_1).f1) false _ ?side1 ?side2 ?side3 ?side4 A9.out).mono ?_
                    (case side1 => repeat (first | exact (Kd.C_below HR128_1.out HB.out) | (with_reducible refine Kd.C_alloc ?_ _) | (with_reducible refine Kd.C_drewN ?_ _) | (with_reducible refine Kd.C_drew ?_)))
                    (case side2 => exact HC128_1.out)
                    (case side3 => repeat (first | exact (Kd.C_below HR129_1.out HB.out) | (with_reducible refine Kd.C_alloc ?_ _) | (with_reducible refine Kd.C_drewN ?_ _) | (with_reducible refine Kd.C_drew ?_)))
                    (case side4 => exact HC129_1.out)
                    rintro e w' ⟨rfl, ⟨nd, rfl⟩⟩
                    refine ⟨_, rfl, ?_⟩
                    refine hK.out _ _ ⟨((HB.out.cell (World.block_lt_of_cell? w _ hw124_0)).trans hw124_0), ((HB.out.cell (World.block_lt_of_cell? w _ hw124_1)).trans hw124_1), ((HB.out.cell (World.block_lt_of_cell? w _ hw124_2)).trans hw124_2), ((HB.out.cell (World.block_lt_of_cell? w _ hw125_0)).trans hw125_0), ((HB.out.cell (World.block_lt_of_cell? w _ hw125_1)).trans hw125_1), ((HB.out.cell (World.block_lt_of_cell? w _ hw125_2)).trans hw125_2), ((HB.out.cell (World.block_lt_of_cell? w _ hw126_0)).trans hw126_0), ((HB.out.cell (World.block_lt_of_cell? w _ hw126_1)).trans hw126_1), ((HB.out.cell (World.block_lt_of_cell? w _ hw126_2)).trans hw126_2), ((HB.out.cell (World.block_lt_of_cell? w _ hw127_0)).trans hw127_0), ((HB.out.cell (World.block_lt_of_cell? w _ hw127_1)).trans hw127_1), ((HB.out.cell (World.block_lt_of_cell? w _ hw127_2)).trans hw127_2), ((HB.out.cell (World.block_lt_of_cell? w _ hw128_0)).trans hw128_0), ((HB.out.cell (World.block_lt_of_cell? w _ hw128_1)).trans hw128_1), ((HB.out.cell (World.block_lt_of_cell? w _ hw128_2)).trans hw128_2), ((HB.out.cell (World.block_lt_of_cell? w _ hw129_0)).trans hw129_0), ((HB.out.cell (World.block_lt_of_cell? w _ hw129_1)).trans hw129_1), ((HB.out.cell (World.block_lt_of_cell? w _ hw129_2)).trans hw129_2)⟩ (fun hHeld => ?_)
                    clear hK K
                    refine norm_ (a' := ?_) ?_ ?_
                    rotate_left
                    · show Act.put _ (some 52) _ = _
                      simp only [Act.put, zla, zlb, zlc, i64_w, i32_w]
                      rfl
                    refine zp 36 (some 53) ?_ rfl rfl (any_of HT_.out (by kernel_rfl)) (fun _ _ _ h => h) (by rfl) ?_ ?_ ?_ ?_ ?_
                    rotate_left; · (intro w'; go_simp; with_reducible rfl)
                    rotate_left 2; · (simp only [Act.put, zla, zlb, zlc, i64_w, i32_w]; rfl)
                    refine zp 37 (some 54) ?_ rfl rfl (any_of HT_.out (by kernel_rfl)) (fun _ _ _ h => h) (by rfl) ?_ ?_ ?_ ?_ ?_
                    rotate_left; · (intro w'; go_simp; with_reducible rfl)
                    rotate_left 2; · (simp only [Act.put, zla, zlb, zlc, i64_w, i32_w]; rfl)
                    refine done_ (done_of HT_.out (by kernel_rfl)) ?_
                    try go_wp2
                    go_ret
                    exact ⟨by first | rfl | (simp [errW_none, errW_some] <;> rfl) | (simp [*, errW_none, errW_some] <;> rfl), by repeat (first | (with_reducible first | exact HB.out | apply below_alloc | apply pw_below_drewN | apply below_drew1) | exact HB.out)⟩
                · rw [if_neg c8] at H
                  have c8b0 : (((rd_T67 l0 x5_1).f2) == ((rd_T67 l1 x5_1).f2)) = false := beq_eq_false_iff_ne.mpr c8
                  have c8b1 : (((rd_T67 l0 x5_1).f2) != ((rd_T67 l1 x5_1).f2)) = true := bne_iff_ne.mpr c8
                  obtain rfl := Option.some.inj H
                  try go_wp2
                  have n0_ := Aside0.mk (below_drew1 HB.out)
                  clear HB
                  have HB := n0_
                  clear n0_
                  have p124 : 0 ≤ (x5_1 : Int) := of_decide_eq_true (by first | (with_reducible assumption) | assumption)
                  have q124 : x5_1 < (l0.length : Int) := of_decide_eq_true (by first | (with_reducible assumption) | assumption)
                  obtain ⟨ad124, A124_1, c124_1, e124, hx124_0, hx124_1, hx124_2, hl124_1, hi124_1⟩ := at_T67 HR0.out x5_1 p124 q124
                  have hw124_2 := hx124_2
                  have hw124_1 := hx124_1
                  have hw124_0 := hx124_0
                  cases e124
                  replace hx124_0 := (HB.out.cell (World.block_lt_of_cell? w _ hx124_0)).trans hx124_0
                  replace hx124_1 := (HB.out.cell (World.block_lt_of_cell? w _ hx124_1)).trans hx124_1
                  replace hx124_2 := (HB.out.cell (World.block_lt_of_cell? w _ hx124_2)).trans hx124_2
                  have HR124_1 := Aside0.mk hi124_1
                  have HC124_1 := Aside0.mk hl124_1
                  clear hi124_1 hl124_1
                  replace p124 := eq_true p124
                  replace q124 := eq_true q124
                  have p125 : 0 ≤ (x5_1 : Int) := of_decide_eq_true (by first | (with_reducible assumption) | assumption)
                  have q125 : x5_1 < (l1.length : Int) := of_decide_eq_true (by first | (with_reducible assumption) | assumption)
                  obtain ⟨ad125, A125_1, c125_1, e125, hx125_0, hx125_1, hx125_2, hl125_1, hi125_1⟩ := at_T67 HR1.out x5_1 p125 q125
                  have hw125_2 := hx125_2
                  have hw125_1 := hx125_1
                  have hw125_0 := hx125_0
                  cases e125
                  replace hx125_0 := (HB.out.cell (World.block_lt_of_cell? w _ hx125_0)).trans hx125_0
                  replace hx125_1 := (HB.out.cell (World.block_lt_of_cell? w _ hx125_1)).trans hx125_1
                  replace hx125_2 := (HB.out.cell (World.block_lt_of_cell? w _ hx125_2)).trans hx125_2
                  have HR125_1 := Aside0.mk hi125_1
                  have HC125_1 := Aside0.mk hl125_1
                  clear hi125_1 hl125_1
                  replace p125 := eq_true p125
                  replace q125 := eq_true q125
                  have p126 : 0 ≤ (x5_1 : Int) := of_decide_eq_true (by first | (with_reducible assumption) | assumption)
                  have q126 : x5_1 < (l0.length : Int) := of_decide_eq_true (by first | (with_reducible assumption) | assumption)
                  obtain ⟨ad126, A126_1, c126_1, e126, hx126_0, hx126_1, hx126_2, hl126_1, hi126_1⟩ := at_T67 HR0.out x5_1 p126 q126
                  have hw126_2 := hx126_2
                  have hw126_1 := hx126_1
                  have hw126_0 := hx126_0
                  obtain rfl : ad124 = ad126 := (by injection e126)
                  replace hx126_0 := (HB.out.cell (World.block_lt_of_cell? w _ hx126_0)).trans hx126_0
                  replace hx126_1 := (HB.out.cell (World.block_lt_of_cell? w _ hx126_1)).trans hx126_1
                  replace hx126_2 := (HB.out.cell (World.block_lt_of_cell? w _ hx126_2)).trans hx126_2
                  have HR126_1 := Aside0.mk hi126_1
                  have HC126_1 := Aside0.mk hl126_1
                  clear hi126_1 hl126_1
                  replace p126 := eq_true p126
                  replace q126 := eq_true q126
                  have ea_ := Option.some.inj (hx124_1.symm.trans hx126_1)
                  injection ea_ with ea_ en_ ec_
                  subst ea_
                  subst ec_
                  clear en_
                  have p127 : 0 ≤ (x5_1 : Int) := of_decide_eq_true (by first | (with_reducible assumption) | assumption)
                  have q127 : x5_1 < (l1.length : Int) := of_decide_eq_true (by first | (with_reducible assumption) | assumption)
                  obtain ⟨ad127, A127_1, c127_1, e127, hx127_0, hx127_1, hx127_2, hl127_1, hi127_1⟩ := at_T67 HR1.out x5_1 p127 q127
                  have hw127_2 := hx127_2
                  have hw127_1 := hx127_1
                  have hw127_0 := hx127_0
                  obtain rfl : ad125 = ad127 := (by injection e127)
                  replace hx127_0 := (HB.out.cell (World.block_lt_of_cell? w _ hx127_0)).trans hx127_0
                  replace hx127_1 := (HB.out.cell (World.block_lt_of_cell? w _ hx127_1)).trans hx127_1
                  replace hx127_2 := (HB.out.cell (World.block_lt_of_cell? w _ hx127_2)).trans hx127_2
                  have HR127_1 := Aside0.mk hi127_1
                  have HC127_1 := Aside0.mk hl127_1
                  clear hi127_1 hl127_1
                  replace p127 := eq_true p127
                  replace q127 := eq_true q127
                  have ea_ := Option.some.inj (hx125_1.symm.trans hx127_1)
                  injection ea_ with ea_ en_ ec_
                  subst ea_
                  subst ec_
                  clear en_
                  refine start_ (n := 38) (S := fun w' => w'.cell? (ad124.add ((x5_1).toNat * 3)) = some (.string ((rd_T67 l0 x5_1).f0)) ∧ w'.cell? ⟨(ad124.add ((x5_1).toNat * 3)).block, (ad124.add ((x5_1).toNat * 3)).off + 1, none⟩ = some (.slice A124_1 ((rd_T67 l0 x5_1).f1).length c124_1) ∧ w'.cell? ⟨(ad124.add ((x5_1).toNat * 3)).block, (ad124.add ((x5_1).toNat * 3)).off + 2, none⟩ = some (.int .i64 ((rd_T67 l0 x5_1).f2)) ∧ w'.cell? (ad125.add ((x5_1).toNat * 3)) = some (.string ((rd_T67 l1 x5_1).f0)) ∧ w'.cell? ⟨(ad125.add ((x5_1).toNat * 3)).block, (ad125.add ((x5_1).toNat * 3)).off + 1, none⟩ = some (.slice A125_1 ((rd_T67 l1 x5_1).f1).length c125_1) ∧ w'.cell? ⟨(ad125.add ((x5_1).toNat * 3)).block, (ad125.add ((x5_1).toNat * 3)).off + 2, none⟩ = some (.int .i64 ((rd_T67 l1 x5_1).f2)) ∧ w'.cell? (ad124.add ((x5_1).toNat * 3)) = some (.string ((rd_T67 l0 x5_1).f0)) ∧ w'.cell? ⟨(ad124.add ((x5_1).toNat * 3)).block, (ad124.add ((x5_1).toNat * 3)).off + 1, none⟩ = some (.slice A124_1 ((rd_T67 l0 x5_1).f1).length c124_1) ∧ w'.cell? ⟨(ad124.add ((x5_1).toNat * 3)).block, (ad124.add ((x5_1).toNat * 3)).off + 2, none⟩ = some (.int .i64 ((rd_T67 l0 x5_1).f2)) ∧ w'.cell? (ad125.add ((x5_1).toNat * 3)) = some (.string ((rd_T67 l1 x5_1).f0)) ∧ w'.cell? ⟨(ad125.add ((x5_1).toNat * 3)).block, (ad125.add ((x5_1).toNat * 3)).off + 1, none⟩ = some (.slice A125_1 ((rd_T67 l1 x5_1).f1).length c125_1) ∧ w'.cell? ⟨(ad125.add ((x5_1).toNat * 3)).block, (ad125.add ((x5_1).toNat * 3)).off + 2, none⟩ = some (.int .i64 ((rd_T67 l1 x5_1).f2))) (ds := []) #[false, false, false, false, false, false, false, false, false, false, false, false, false, false, false, false, false, false, false, false, false, false, false, false, false, false, false, false, false, false, false, false, false, false, false, false, false, false] (by kernel_rfl) rfl rfl ⟨((HB.out.cell (World.block_lt_of_cell? w _ hw124_0)).trans hw124_0), ((HB.out.cell (World.block_lt_of_cell? w _ hw124_1)).trans hw124_1), ((HB.out.cell (World.block_lt_of_cell? w _ hw124_2)).trans hw124_2), ((HB.out.cell (World.block_lt_of_cell? w _ hw125_0)).trans hw125_0), ((HB.out.cell (World.block_lt_of_cell? w _ hw125_1)).trans hw125_1), ((HB.out.cell (World.block_lt_of_cell? w _ hw125_2)).trans hw125_2), ((HB.out.cell (World.block_lt_of_cell? w _ hw126_0)).trans hw126_0), ((HB.out.cell (World.block_lt_of_cell? w _ hw126_1)).trans hw126_1), ((HB.out.cell (World.block_lt_of_cell? w _ hw126_2)).trans hw126_2), ((HB.out.cell (World.block_lt_of_cell? w _ hw127_0)).trans hw127_0), ((HB.out.cell (World.block_lt_of_cell? w _ hw127_1)).trans hw127_1), ((HB.out.cell (World.block_lt_of_cell? w _ hw127_2)).trans hw127_2)⟩ (fun hHeld => ?_); refine with_tabW eddylaw10_alike.tab6 eddylaw10_alike.bits6 (fun HT_ HW_ => ?_)
                  generalize wr.drew = w13 at HB HR124_1 HR125_1 HR126_1 HR127_1 hx124_0 hx124_1 hx124_2 hx125_0 hx125_1 hx125_2 hx126_0 hx126_1 hx126_2 hx127_0 hx127_1 hx127_2 hHeld ⊢
                  refine zp 0 (some 17) ?_ rfl rfl (any_of HT_.out (by kernel_rfl)) (fun _ _ _ h => h) (by rfl) ?_ ?_ ?_ ?_ ?_
                  rotate_left; · (intro w'; go_simp; with_reducible rfl)
                  rotate_left 2; · (simp only [Act.put, zla, zlb, zlc, i64_w, i32_w]; rfl)
                  refine zp 1 (some 18) ?_ rfl rfl (any_of HT_.out (by kernel_rfl)) (fun _ _ _ h => h) (by rfl) ?_ ?_ ?_ ?_ ?_
                  rotate_left; · (intro w'; go_simp; with_reducible rfl)
                  rotate_left 2; · (simp only [Act.put, zla, zlb, zlc, i64_w, i32_w]; rfl)
                  refine zp 2 (some 19) ?_ rfl rfl (any_of HT_.out (by kernel_rfl)) (fun _ _ _ h => h) (by rfl) ?_ ?_ ?_ ?_ ?_
                  rotate_left; · (intro w'; go_simp; with_reducible rfl)
                  rotate_left 2; · (simp only [Act.put, zla, zlb, zlc, i64_w, i32_w]; rfl)
                  refine zp 3 (some 20) ?_ rfl rfl (any_of HT_.out (by kernel_rfl)) (fun _ _ _ h => h) (by rfl) ?_ ?_ ?_ ?_ ?_
                  rotate_left; · (intro w'; go_simp; with_reducible rfl)
                  rotate_left 2; · (simp only [Act.put, zla, zlb, zlc, i64_w, i32_w]; rfl)
                  refine zp 5 (some 22) ?_ rfl rfl (any_of HT_.out (by kernel_rfl)) (fun _ _ _ h => h) (by rfl) ?_ ?_ ?_ ?_ ?_
                  rotate_left; · (intro w'; go_simp; with_reducible rfl)
                  rotate_left 2; · (simp only [Act.put, zla, zlb, zlc, i64_w, i32_w]; rfl)
                  refine zp 6 (some 23) ?_ rfl rfl (any_of HT_.out (by kernel_rfl)) (fun _ _ _ h => h) (by rfl) ?_ ?_ ?_ ?_ ?_
                  rotate_left; · (intro w'; go_simp; with_reducible rfl)
                  rotate_left 2; · (simp only [Act.put, zla, zlb, zlc, i64_w, i32_w]; rfl)
                  refine zp 7 (some 24) ?_ rfl rfl (any_of HT_.out (by kernel_rfl)) (fun _ _ _ h => h) (by rfl) ?_ ?_ ?_ ?_ ?_
                  rotate_left; · (intro w'; go_simp; with_reducible rfl)
                  rotate_left 2; · (simp only [Act.put, zla, zlb, zlc, i64_w, i32_w]; rfl)
                  refine zp 8 (some 25) ?_ rfl rfl (any_of HT_.out (by kernel_rfl)) (fun _ _ _ h => h) (by rfl) ?_ ?_ ?_ ?_ ?_
                  rotate_left; · (intro w'; go_simp; with_reducible rfl)
                  rotate_left 2; · (simp only [Act.put, zla, zlb, zlc, i64_w, i32_w]; rfl)
                  refine zt 4 (some 21) ?_ rfl rfl (take_ofW HT_.out HW_.out (by kernel_rfl)) (fun _ _ _ h => h) (by rfl) ?_ hHeld ?_ ?_ ?_ ?_
                  rotate_left; · (rintro w' ⟨s0, s1, s2, s3, s4, s5, s6, s7, s8, s9, s10, s11⟩; go_simp; with_reducible rfl)
                  rotate_left 2; · (simp only [Act.put, zla, zlb, zlc, i64_w, i32_w]; rfl)
                  refine zt 9 (some 26) ?_ rfl rfl (take_ofW HT_.out HW_.out (by kernel_rfl)) (fun _ _ _ h => h) (by rfl) ?_ hHeld ?_ ?_ ?_ ?_
                  rotate_left; · (rintro w' ⟨s0, s1, s2, s3, s4, s5, s6, s7, s8, s9, s10, s11⟩; go_simp; with_reducible rfl)
                  rotate_left 2; · (simp only [Act.put, zla, zlb, zlc, i64_w, i32_w]; rfl)
                  refine zp 10 (some 27) ?_ rfl rfl (any_of HT_.out (by kernel_rfl)) (fun _ _ _ h => h) (by rfl) ?_ ?_ ?_ ?_ ?_
                  rotate_left; · (intro w'; go_simp; with_reducible rfl)
                  rotate_left 2; · (simp only [Act.put, zla, zlb, zlc, i64_w, i32_w]; rfl)
                  refine zp 11 (some 28) ?_ rfl rfl (any_of HT_.out (by kernel_rfl)) (fun _ _ _ h => h) (by rfl) ?_ ?_ ?_ ?_ ?_
                  rotate_left; · (intro w'; go_simp; with_reducible rfl)
                  rotate_left 2; · (simp only [Act.put, zla, zlb, zlc, i64_w, i32_w]; rfl)
                  refine zp 12 (some 29) ?_ rfl rfl (any_of HT_.out (by kernel_rfl)) (fun _ _ _ h => h) (by rfl) ?_ ?_ ?_ ?_ ?_
                  rotate_left; · (intro w'; go_simp; with_reducible rfl)
                  rotate_left 2; · (simp only [Act.put, zla, zlb, zlc, i64_w, i32_w]; rfl)
                  refine zp 13 (some 30) ?_ rfl rfl (any_of HT_.out (by kernel_rfl)) (fun _ _ _ h => h) (by rfl) ?_ ?_ ?_ ?_ ?_
                  rotate_left; · (intro w'; go_simp; with_reducible rfl)
                  rotate_left 2; · (simp only [Act.put, zla, zlb, zlc, i64_w, i32_w]; rfl)
                  refine zp 14 (some 31) ?_ rfl rfl (any_of HT_.out (by kernel_rfl)) (fun _ _ _ h => h) (by rfl) ?_ ?_ ?_ ?_ ?_
                  rotate_left; · (intro w'; go_simp; with_reducible rfl)
                  rotate_left 2; · (simp only [Act.put, zla, zlb, zlc, i64_w, i32_w]; rfl)
                  refine zp 15 (some 32) ?_ rfl rfl (any_of HT_.out (by kernel_rfl)) (fun _ _ _ h => h) (by rfl) ?_ ?_ ?_ ?_ ?_
                  rotate_left; · (intro w'; go_simp; with_reducible rfl)
                  rotate_left 2; · (simp only [Act.put, zla, zlb, zlc, i64_w, i32_w]; rfl)
                  refine zp 17 (some 34) ?_ rfl rfl (any_of HT_.out (by kernel_rfl)) (fun _ _ _ h => h) (by rfl) ?_ ?_ ?_ ?_ ?_
                  rotate_left; · (intro w'; go_simp; with_reducible rfl)
                  rotate_left 2; · (simp only [Act.put, zla, zlb, zlc, i64_w, i32_w]; rfl)
                  refine zp 18 (some 35) ?_ rfl rfl (any_of HT_.out (by kernel_rfl)) (fun _ _ _ h => h) (by rfl) ?_ ?_ ?_ ?_ ?_
                  rotate_left; · (intro w'; go_simp; with_reducible rfl)
                  rotate_left 2; · (simp only [Act.put, zla, zlb, zlc, i64_w, i32_w]; rfl)
                  refine zp 19 (some 36) ?_ rfl rfl (any_of HT_.out (by kernel_rfl)) (fun _ _ _ h => h) (by rfl) ?_ ?_ ?_ ?_ ?_
                  rotate_left; · (intro w'; go_simp; with_reducible rfl)
                  rotate_left 2; · (simp only [Act.put, zla, zlb, zlc, i64_w, i32_w]; rfl)
                  refine zp 20 (some 37) ?_ rfl rfl (any_of HT_.out (by kernel_rfl)) (fun _ _ _ h => h) (by rfl) ?_ ?_ ?_ ?_ ?_
                  rotate_left; · (intro w'; go_simp; with_reducible rfl)
                  rotate_left 2; · (simp only [Act.put, zla, zlb, zlc, i64_w, i32_w]; rfl)
                  refine zt 16 (some 33) ?_ rfl rfl (take_ofW HT_.out HW_.out (by kernel_rfl)) (fun _ _ _ h => h) (by rfl) ?_ hHeld ?_ ?_ ?_ ?_
                  rotate_left; · (rintro w' ⟨s0, s1, s2, s3, s4, s5, s6, s7, s8, s9, s10, s11⟩; go_simp; with_reducible rfl)
                  rotate_left 2; · (simp only [Act.put, zla, zlb, zlc, i64_w, i32_w]; rfl)
                  refine zt 21 (some 38) ?_ rfl rfl (take_ofW HT_.out HW_.out (by kernel_rfl)) (fun _ _ _ h => h) (by rfl) ?_ hHeld ?_ ?_ ?_ ?_
                  rotate_left; · (rintro w' ⟨s0, s1, s2, s3, s4, s5, s6, s7, s8, s9, s10, s11⟩; go_simp; with_reducible rfl)
                  rotate_left 2; · (simp only [Act.put, zla, zlb, zlc, i64_w, i32_w]; rfl)
                  refine zp 22 (some 39) ?_ rfl rfl (any_of HT_.out (by kernel_rfl)) (fun _ _ _ h => h) (by rfl) ?_ ?_ ?_ ?_ ?_
                  rotate_left; · (intro w'; go_simp; with_reducible rfl)
                  rotate_left 2; · (simp only [Act.put, zla, zlb, zlc, i64_w, i32_w]; rfl)
                  refine zp 23 (some 40) ?_ rfl rfl (any_of HT_.out (by kernel_rfl)) (fun _ _ _ h => h) (by rfl) ?_ ?_ ?_ ?_ ?_
                  rotate_left; · (intro w'; go_simp; with_reducible rfl)
                  rotate_left 2; · (simp only [Act.put, zla, zlb, zlc, i64_w, i32_w]; rfl)
                  refine zp 24 (some 41) ?_ rfl rfl (any_of HT_.out (by kernel_rfl)) (fun _ _ _ h => h) (by rfl) ?_ ?_ ?_ ?_ ?_
                  rotate_left; · (intro w'; go_simp; with_reducible rfl)
                  rotate_left 2; · (simp only [Act.put, zla, zlb, zlc, i64_w, i32_w]; rfl)
                  refine pure_ (i := 25) (N := some 42) (v := undef) (a' := ?_) #[true, true, true, true, true, true, true, true, true, true, true, true, true, true, true, true, true, true, true, true, true, true, true, true, true, true, false, false, false, false, false, false, false, false, false, false, false, false] rfl rfl (any_of HT_.out (by kernel_rfl)) (fun _ _ _ h => h) (Or.inr ⟨by rfl, rfl⟩) ?_ ?_
                  rotate_left
                  · simp only [Act.put, zla, zlb, zlc, i64_w, i32_w]
                    rfl
                  refine pure_ (i := 26) (N := some 43) (v := undef) (a' := ?_) #[true, true, true, true, true, true, true, true, true, true, true, true, true, true, true, true, true, true, true, true, true, true, true, true, true, true, true, false, false, false, false, false, false, false, false, false, false, false] rfl rfl (any_of HT_.out (by kernel_rfl)) (fun _ _ _ h => h) (Or.inr ⟨by rfl, rfl⟩) ?_ ?_
                  rotate_left
                  · simp only [Act.put, zla, zlb, zlc, i64_w, i32_w]
                    rfl
                  refine pure_ (i := 27) (N := some 44) (v := undef) (a' := ?_) #[true, true, true, true, true, true, true, true, true, true, true, true, true, true, true, true, true, true, true, true, true, true, true, true, true, true, true, true, false, false, false, false, false, false, false, false, false, false] rfl rfl (any_of HT_.out (by kernel_rfl)) (fun _ _ _ h => h) (Or.inr ⟨by rfl, rfl⟩) ?_ ?_
                  rotate_left
                  · simp only [Act.put, zla, zlb, zlc, i64_w, i32_w]
                    rfl
                  refine pure_ (i := 28) (N := some 45) (v := undef) (a' := ?_) #[true, true, true, true, true, true, true, true, true, true, true, true, true, true, true, true, true, true, true, true, true, true, true, true, true, true, true, true, true, false, false, false, false, false, false, false, false, false] rfl rfl (any_of HT_.out (by kernel_rfl)) (fun _ _ _ h => h) (Or.inr ⟨by rfl, rfl⟩) ?_ ?_
                  rotate_left
                  · simp only [Act.put, zla, zlb, zlc, i64_w, i32_w]
                    rfl
                  refine pure_ (i := 29) (N := some 46) (v := undef) (a' := ?_) #[true, true, true, true, true, true, true, true, true, true, true, true, true, true, true, true, true, true, true, true, true, true, true, true, true, true, true, true, true, true, false, false, false, false, false, false, false, false] rfl rfl (any_of HT_.out (by kernel_rfl)) (fun _ _ _ h => h) (Or.inr ⟨by rfl, rfl⟩) ?_ ?_
                  rotate_left
                  · simp only [Act.put, zla, zlb, zlc, i64_w, i32_w]
                    rfl
                  refine pure_ (i := 30) (N := some 47) (v := undef) (a' := ?_) #[true, true, true, true, true, true, true, true, true, true, true, true, true, true, true, true, true, true, true, true, true, true, true, true, true, true, true, true, true, true, true, false, false, false, false, false, false, false] rfl rfl (any_of HT_.out (by kernel_rfl)) (fun _ _ _ h => h) (Or.inr ⟨by rfl, rfl⟩) ?_ ?_
                  rotate_left
                  · simp only [Act.put, zla, zlb, zlc, i64_w, i32_w]
                    rfl
                  refine pure_ (i := 31) (N := some 48) (v := undef) (a' := ?_) #[true, true, true, true, true, true, true, true, true, true, true, true, true, true, true, true, true, true, true, true, true, true, true, true, true, true, true, true, true, true, true, true, false, false, false, false, false, false] rfl rfl (any_of HT_.out (by kernel_rfl)) (fun _ _ _ h => h) (Or.inr ⟨by rfl, rfl⟩) ?_ ?_
                  rotate_left
                  · simp only [Act.put, zla, zlb, zlc, i64_w, i32_w]
                    rfl
                  refine pure_ (i := 32) (N := some 49) (v := undef) (a' := ?_) #[true, true, true, true, true, true, true, true, true, true, true, true, true, true, true, true, true, true, true, true, true, true, true, true, true, true, true, true, true, true, true, true, true, false, false, false, false, false] rfl rfl (any_of HT_.out (by kernel_rfl)) (fun _ _ _ h => h) (Or.inr ⟨by rfl, rfl⟩) ?_ ?_
                  rotate_left
                  · simp only [Act.put, zla, zlb, zlc, i64_w, i32_w]
                    rfl
                  refine pure_ (i := 33) (N := some 50) (v := undef) (a' := ?_) #[true, true, true, true, true, true, true, true, true, true, true, true, true, true, true, true, true, true, true, true, true, true, true, true, true, true, true, true, true, true, true, true, true, true, false, false, false, false] rfl rfl (any_of HT_.out (by kernel_rfl)) (fun _ _ _ h => h) (Or.inr ⟨by rfl, rfl⟩) ?_ ?_
                  rotate_left
                  · simp only [Act.put, zla, zlb, zlc, i64_w, i32_w]
                    rfl
                  refine pure_ (i := 34) (N := some 51) (v := undef) (a' := ?_) #[true, true, true, true, true, true, true, true, true, true, true, true, true, true, true, true, true, true, true, true, true, true, true, true, true, true, true, true, true, true, true, true, true, true, true, false, false, false] rfl rfl (any_of HT_.out (by kernel_rfl)) (fun _ _ _ h => h) (Or.inr ⟨by rfl, rfl⟩) ?_ ?_
                  rotate_left
                  · simp only [Act.put, zla, zlb, zlc, i64_w, i32_w]
                    rfl
                  refine pure_ (i := 35) (N := some 52) (v := undef) (a' := ?_) #[true, true, true, true, true, true, true, true, true, true, true, true, true, true, true, true, true, true, true, true, true, true, true, true, true, true, true, true, true, true, true, true, true, true, true, true, false, false] rfl rfl (any_of HT_.out (by kernel_rfl)) (fun _ _ _ h => h) (Or.inr ⟨by rfl, rfl⟩) ?_ ?_
                  rotate_left
                  · simp only [Act.put, zla, zlb, zlc, i64_w, i32_w]
                    rfl
                  refine pure_ (i := 36) (N := some 53) (v := undef) (a' := ?_) #[true, true, true, true, true, true, true, true, true, true, true, true, true, true, true, true, true, true, true, true, true, true, true, true, true, true, true, true, true, true, true, true, true, true, true, true, true, false] rfl rfl (any_of HT_.out (by kernel_rfl)) (fun _ _ _ h => h) (Or.inr ⟨by rfl, rfl⟩) ?_ ?_
                  rotate_left
                  · simp only [Act.put, zla, zlb, zlc, i64_w, i32_w]
                    rfl
                  refine zp 37 (some 54) ?_ rfl rfl (any_of HT_.out (by kernel_rfl)) (fun _ _ _ h => h) (by rfl) ?_ ?_ ?_ ?_ ?_
                  rotate_left; · (intro w'; go_simp; with_reducible rfl)
                  rotate_left 2; · (simp only [Act.put, zla, zlb, zlc, i64_w, i32_w]; rfl)
                  refine done_ (done_of HT_.out (by kernel_rfl)) ?_
                  try go_wp2
                  go_ret
                  exact ⟨by first | rfl | (simp [errW_none, errW_some] <;> rfl) | (simp [*, errW_none, errW_some] <;> rfl), by repeat (first | (with_reducible first | exact HB.out | apply below_alloc | apply pw_below_drewN | apply below_drew1) | exact HB.out)⟩
              · rw [if_neg c7] at H
                have c7b0 : (((rd_T67 l0 x5_1).f0).toList == ((rd_T67 l1 x5_1).f0).toList) = false := beq_eq_false_iff_ne.mpr c7
                have c7b1 : (((rd_T67 l0 x5_1).f0).toList != ((rd_T67 l1 x5_1).f0).toList) = true := bne_iff_ne.mpr c7
                obtain rfl := Option.some.inj H
                try go_wp2
                have n0_ := Aside0.mk (below_drew1 HB.out)
                clear HB
                have HB := n0_
                clear n0_
                have p124 : 0 ≤ (x5_1 : Int) := of_decide_eq_true (by first | (with_reducible assumption) | assumption)
                have q124 : x5_1 < (l0.length : Int) := of_decide_eq_true (by first | (with_reducible assumption) | assumption)
                obtain ⟨ad124, A124_1, c124_1, e124, hx124_0, hx124_1, hx124_2, hl124_1, hi124_1⟩ := at_T67 HR0.out x5_1 p124 q124
                have hw124_2 := hx124_2
                have hw124_1 := hx124_1
                have hw124_0 := hx124_0
                cases e124
                replace hx124_0 := (HB.out.cell (World.block_lt_of_cell? w _ hx124_0)).trans hx124_0
                replace hx124_1 := (HB.out.cell (World.block_lt_of_cell? w _ hx124_1)).trans hx124_1
                replace hx124_2 := (HB.out.cell (World.block_lt_of_cell? w _ hx124_2)).trans hx124_2
                have HR124_1 := Aside0.mk hi124_1
                have HC124_1 := Aside0.mk hl124_1
                clear hi124_1 hl124_1
                replace p124 := eq_true p124
                replace q124 := eq_true q124
                have p125 : 0 ≤ (x5_1 : Int) := of_decide_eq_true (by first | (with_reducible assumption) | assumption)
                have q125 : x5_1 < (l1.length : Int) := of_decide_eq_true (by first | (with_reducible assumption) | assumption)
                obtain ⟨ad125, A125_1, c125_1, e125, hx125_0, hx125_1, hx125_2, hl125_1, hi125_1⟩ := at_T67 HR1.out x5_1 p125 q125
                have hw125_2 := hx125_2
                have hw125_1 := hx125_1
                have hw125_0 := hx125_0
                cases e125
                replace hx125_0 := (HB.out.cell (World.block_lt_of_cell? w _ hx125_0)).trans hx125_0
                replace hx125_1 := (HB.out.cell (World.block_lt_of_cell? w _ hx125_1)).trans hx125_1
                replace hx125_2 := (HB.out.cell (World.block_lt_of_cell? w _ hx125_2)).trans hx125_2
                have HR125_1 := Aside0.mk hi125_1
                have HC125_1 := Aside0.mk hl125_1
                clear hi125_1 hl125_1
                replace p125 := eq_true p125
                replace q125 := eq_true q125
                refine start_ (n := 38) (S := fun w' => w'.cell? (ad124.add ((x5_1).toNat * 3)) = some (.string ((rd_T67 l0 x5_1).f0)) ∧ w'.cell? ⟨(ad124.add ((x5_1).toNat * 3)).block, (ad124.add ((x5_1).toNat * 3)).off + 1, none⟩ = some (.slice A124_1 ((rd_T67 l0 x5_1).f1).length c124_1) ∧ w'.cell? ⟨(ad124.add ((x5_1).toNat * 3)).block, (ad124.add ((x5_1).toNat * 3)).off + 2, none⟩ = some (.int .i64 ((rd_T67 l0 x5_1).f2)) ∧ w'.cell? (ad125.add ((x5_1).toNat * 3)) = some (.string ((rd_T67 l1 x5_1).f0)) ∧ w'.cell? ⟨(ad125.add ((x5_1).toNat * 3)).block, (ad125.add ((x5_1).toNat * 3)).off + 1, none⟩ = some (.slice A125_1 ((rd_T67 l1 x5_1).f1).length c125_1) ∧ w'.cell? ⟨(ad125.add ((x5_1).toNat * 3)).block, (ad125.add ((x5_1).toNat * 3)).off + 2, none⟩ = some (.int .i64 ((rd_T67 l1 x5_1).f2))) (ds := []) #[false, false, false, false, false, false, false, false, false, false, false, false, false, false, false, false, false, false, false, false, false, false, false, false, false, false, false, false, false, false, false, false, false, false, false, false, false, false] (by kernel_rfl) rfl rfl ⟨((HB.out.cell (World.block_lt_of_cell? w _ hw124_0)).trans hw124_0), ((HB.out.cell (World.block_lt_of_cell? w _ hw124_1)).trans hw124_1), ((HB.out.cell (World.block_lt_of_cell? w _ hw124_2)).trans hw124_2), ((HB.out.cell (World.block_lt_of_cell? w _ hw125_0)).trans hw125_0), ((HB.out.cell (World.block_lt_of_cell? w _ hw125_1)).trans hw125_1), ((HB.out.cell (World.block_lt_of_cell? w _ hw125_2)).trans hw125_2)⟩ (fun hHeld => ?_); refine with_tabW eddylaw10_alike.tab6 eddylaw10_alike.bits6 (fun HT_ HW_ => ?_)
                generalize wr.drew = w14 at HB HR124_1 HR125_1 hx124_0 hx124_1 hx124_2 hx125_0 hx125_1 hx125_2 hHeld ⊢
                refine zp 0 (some 17) ?_ rfl rfl (any_of HT_.out (by kernel_rfl)) (fun _ _ _ h => h) (by rfl) ?_ ?_ ?_ ?_ ?_
                rotate_left; · (intro w'; go_simp; with_reducible rfl)
                rotate_left 2; · (simp only [Act.put, zla, zlb, zlc, i64_w, i32_w]; rfl)
                refine zp 1 (some 18) ?_ rfl rfl (any_of HT_.out (by kernel_rfl)) (fun _ _ _ h => h) (by rfl) ?_ ?_ ?_ ?_ ?_
                rotate_left; · (intro w'; go_simp; with_reducible rfl)
                rotate_left 2; · (simp only [Act.put, zla, zlb, zlc, i64_w, i32_w]; rfl)
                refine zp 2 (some 19) ?_ rfl rfl (any_of HT_.out (by kernel_rfl)) (fun _ _ _ h => h) (by rfl) ?_ ?_ ?_ ?_ ?_
                rotate_left; · (intro w'; go_simp; with_reducible rfl)
                rotate_left 2; · (simp only [Act.put, zla, zlb, zlc, i64_w, i32_w]; rfl)
                refine zp 3 (some 20) ?_ rfl rfl (any_of HT_.out (by kernel_rfl)) (fun _ _ _ h => h) (by rfl) ?_ ?_ ?_ ?_ ?_
                rotate_left; · (intro w'; go_simp; with_reducible rfl)
                rotate_left 2; · (simp only [Act.put, zla, zlb, zlc, i64_w, i32_w]; rfl)
                refine zp 5 (some 22) ?_ rfl rfl (any_of HT_.out (by kernel_rfl)) (fun _ _ _ h => h) (by rfl) ?_ ?_ ?_ ?_ ?_
                rotate_left; · (intro w'; go_simp; with_reducible rfl)
                rotate_left 2; · (simp only [Act.put, zla, zlb, zlc, i64_w, i32_w]; rfl)
                refine zp 6 (some 23) ?_ rfl rfl (any_of HT_.out (by kernel_rfl)) (fun _ _ _ h => h) (by rfl) ?_ ?_ ?_ ?_ ?_
                rotate_left; · (intro w'; go_simp; with_reducible rfl)
                rotate_left 2; · (simp only [Act.put, zla, zlb, zlc, i64_w, i32_w]; rfl)
                refine zp 7 (some 24) ?_ rfl rfl (any_of HT_.out (by kernel_rfl)) (fun _ _ _ h => h) (by rfl) ?_ ?_ ?_ ?_ ?_
                rotate_left; · (intro w'; go_simp; with_reducible rfl)
                rotate_left 2; · (simp only [Act.put, zla, zlb, zlc, i64_w, i32_w]; rfl)
                refine zp 8 (some 25) ?_ rfl rfl (any_of HT_.out (by kernel_rfl)) (fun _ _ _ h => h) (by rfl) ?_ ?_ ?_ ?_ ?_
                rotate_left; · (intro w'; go_simp; with_reducible rfl)
                rotate_left 2; · (simp only [Act.put, zla, zlb, zlc, i64_w, i32_w]; rfl)
                refine zt 4 (some 21) ?_ rfl rfl (take_ofW HT_.out HW_.out (by kernel_rfl)) (fun _ _ _ h => h) (by rfl) ?_ hHeld ?_ ?_ ?_ ?_
                rotate_left; · (rintro w' ⟨s0, s1, s2, s3, s4, s5⟩; go_simp; with_reducible rfl)
                rotate_left 2; · (simp only [Act.put, zla, zlb, zlc, i64_w, i32_w]; rfl)
                refine zt 9 (some 26) ?_ rfl rfl (take_ofW HT_.out HW_.out (by kernel_rfl)) (fun _ _ _ h => h) (by rfl) ?_ hHeld ?_ ?_ ?_ ?_
                rotate_left; · (rintro w' ⟨s0, s1, s2, s3, s4, s5⟩; go_simp; with_reducible rfl)
                rotate_left 2; · (simp only [Act.put, zla, zlb, zlc, i64_w, i32_w]; rfl)
                refine zp 10 (some 27) ?_ rfl rfl (any_of HT_.out (by kernel_rfl)) (fun _ _ _ h => h) (by rfl) ?_ ?_ ?_ ?_ ?_
                rotate_left; · (intro w'; go_simp; with_reducible rfl)
                rotate_left 2; · (simp only [Act.put, zla, zlb, zlc, i64_w, i32_w]; rfl)
                refine zp 11 (some 28) ?_ rfl rfl (any_of HT_.out (by kernel_rfl)) (fun _ _ _ h => h) (by rfl) ?_ ?_ ?_ ?_ ?_
                rotate_left; · (intro w'; go_simp; with_reducible rfl)
                rotate_left 2; · (simp only [Act.put, zla, zlb, zlc, i64_w, i32_w]; rfl)
                refine pure_ (i := 12) (N := some 29) (v := undef) (a' := ?_) #[true, true, true, true, true, true, true, true, true, true, true, true, true, false, false, false, false, false, false, false, false, false, false, false, false, false, false, false, false, false, false, false, false, false, false, false, false, false] rfl rfl (any_of HT_.out (by kernel_rfl)) (fun _ _ _ h => h) (Or.inr ⟨by rfl, rfl⟩) ?_ ?_
                rotate_left
                · simp only [Act.put, zla, zlb, zlc, i64_w, i32_w]
                  rfl
                refine pure_ (i := 13) (N := some 30) (v := undef) (a' := ?_) #[true, true, true, true, true, true, true, true, true, true, true, true, true, true, false, false, false, false, false, false, false, false, false, false, false, false, false, false, false, false, false, false, false, false, false, false, false, false] rfl rfl (any_of HT_.out (by kernel_rfl)) (fun _ _ _ h => h) (Or.inr ⟨by rfl, rfl⟩) ?_ ?_
                rotate_left
                · simp only [Act.put, zla, zlb, zlc, i64_w, i32_w]
                  rfl
                refine pure_ (i := 14) (N := some 31) (v := undef) (a' := ?_) #[true, true, true, true, true, true, true, true, true, true, true, true, true, true, true, false, false, false, false, false, false, false, false, false, false, false, false, false, false, false, false, false, false, false, false, false, false, false] rfl rfl (any_of HT_.out (by kernel_rfl)) (fun _ _ _ h => h) (Or.inr ⟨by rfl, rfl⟩) ?_ ?_
                rotate_left
                · simp only [Act.put, zla, zlb, zlc, i64_w, i32_w]
                  rfl
                refine pure_ (i := 15) (N := some 32) (v := undef) (a' := ?_) #[true, true, true, true, true, true, true, true, true, true, true, true, true, true, true, true, false, false, false, false, false, false, false, false, false, false, false, false, false, false, false, false, false, false, false, false, false, false] rfl rfl (any_of HT_.out (by kernel_rfl)) (fun _ _ _ h => h) (Or.inr ⟨by rfl, rfl⟩) ?_ ?_
                rotate_left
                · simp only [Act.put, zla, zlb, zlc, i64_w, i32_w]
                  rfl
                refine pure_ (i := 16) (N := some 33) (v := undef) (a' := ?_) #[true, true, true, true, true, true, true, true, true, true, true, true, true, true, true, true, true, false, false, false, false, false, false, false, false, false, false, false, false, false, false, false, false, false, false, false, false, false] rfl rfl (any_of HT_.out (by kernel_rfl)) (fun _ _ _ h => h) (Or.inr ⟨by rfl, rfl⟩) ?_ ?_
                rotate_left
                · simp only [Act.put, zla, zlb, zlc, i64_w, i32_w]
                  rfl
                refine pure_ (i := 17) (N := some 34) (v := undef) (a' := ?_) #[true, true, true, true, true, true, true, true, true, true, true, true, true, true, true, true, true, true, false, false, false, false, false, false, false, false, false, false, false, false, false, false, false, false, false, false, false, false] rfl rfl (any_of HT_.out (by kernel_rfl)) (fun _ _ _ h => h) (Or.inr ⟨by rfl, rfl⟩) ?_ ?_
                rotate_left
                · simp only [Act.put, zla, zlb, zlc, i64_w, i32_w]
                  rfl
                refine pure_ (i := 18) (N := some 35) (v := undef) (a' := ?_) #[true, true, true, true, true, true, true, true, true, true, true, true, true, true, true, true, true, true, true, false, false, false, false, false, false, false, false, false, false, false, false, false, false, false, false, false, false, false] rfl rfl (any_of HT_.out (by kernel_rfl)) (fun _ _ _ h => h) (Or.inr ⟨by rfl, rfl⟩) ?_ ?_
                rotate_left
                · simp only [Act.put, zla, zlb, zlc, i64_w, i32_w]
                  rfl
                refine pure_ (i := 19) (N := some 36) (v := undef) (a' := ?_) #[true, true, true, true, true, true, true, true, true, true, true, true, true, true, true, true, true, true, true, true, false, false, false, false, false, false, false, false, false, false, false, false, false, false, false, false, false, false] rfl rfl (any_of HT_.out (by kernel_rfl)) (fun _ _ _ h => h) (Or.inr ⟨by rfl, rfl⟩) ?_ ?_
                rotate_left
                · simp only [Act.put, zla, zlb, zlc, i64_w, i32_w]
                  rfl
                refine pure_ (i := 20) (N := some 37) (v := undef) (a' := ?_) #[true, true, true, true, true, true, true, true, true, true, true, true, true, true, true, true, true, true, true, true, true, false, false, false, false, false, false, false, false, false, false, false, false, false, false, false, false, false] rfl rfl (any_of HT_.out (by kernel_rfl)) (fun _ _ _ h => h) (Or.inr ⟨by rfl, rfl⟩) ?_ ?_
                rotate_left
                · simp only [Act.put, zla, zlb, zlc, i64_w, i32_w]
                  rfl
                refine pure_ (i := 21) (N := some 38) (v := undef) (a' := ?_) #[true, true, true, true, true, true, true, true, true, true, true, true, true, true, true, true, true, true, true, true, true, true, false, false, false, false, false, false, false, false, false, false, false, false, false, false, false, false] rfl rfl (any_of HT_.out (by kernel_rfl)) (fun _ _ _ h => h) (Or.inr ⟨by rfl, rfl⟩) ?_ ?_
                rotate_left
                · simp only [Act.put, zla, zlb, zlc, i64_w, i32_w]
                  rfl
                refine pure_ (i := 22) (N := some 39) (v := undef) (a' := ?_) #[true, true, true, true, true, true, true, true, true, true, true, true, true, true, true, true, true, true, true, true, true, true, true, false, false, false, false, false, false, false, false, false, false, false, false, false, false, false] rfl rfl (any_of HT_.out (by kernel_rfl)) (fun _ _ _ h => h) (Or.inr ⟨by rfl, rfl⟩) ?_ ?_
                rotate_left
                · simp only [Act.put, zla, zlb, zlc, i64_w, i32_w]
                  rfl
                refine zp 23 (some 40) ?_ rfl rfl (any_of HT_.out (by kernel_rfl)) (fun _ _ _ h => h) (by rfl) ?_ ?_ ?_ ?_ ?_
                rotate_left; · (intro w'; go_simp; with_reducible rfl)
                rotate_left 2; · (simp only [Act.put, zla, zlb, zlc, i64_w, i32_w]; rfl)
                refine zp 24 (some 41) ?_ rfl rfl (any_of HT_.out (by kernel_rfl)) (fun _ _ _ h => h) (by rfl) ?_ ?_ ?_ ?_ ?_
                rotate_left; · (intro w'; go_simp; with_reducible rfl)
                rotate_left 2; · (simp only [Act.put, zla, zlb, zlc, i64_w, i32_w]; rfl)
                refine pure_ (i := 25) (N := some 42) (v := undef) (a' := ?_) #[true, true, true, true, true, true, true, true, true, true, true, true, true, true, true, true, true, true, true, true, true, true, true, true, true, true, false, false, false, false, false, false, false, false, false, false, false, false] rfl rfl (any_of HT_.out (by kernel_rfl)) (fun _ _ _ h => h) (Or.inr ⟨by rfl, rfl⟩) ?_ ?_
                rotate_left
                · simp only [Act.put, zla, zlb, zlc, i64_w, i32_w]
                  rfl
                refine pure_ (i := 26) (N := some 43) (v := undef) (a' := ?_) #[true, true, true, true, true, true, true, true, true, true, true, true, true, true, true, true, true, true, true, true, true, true, true, true, true, true, true, false, false, false, false, false, false, false, false, false, false, false] rfl rfl (any_of HT_.out (by kernel_rfl)) (fun _ _ _ h => h) (Or.inr ⟨by rfl, rfl⟩) ?_ ?_
                rotate_left
                · simp only [Act.put, zla, zlb, zlc, i64_w, i32_w]
                  rfl
                refine pure_ (i := 27) (N := some 44) (v := undef) (a' := ?_) #[true, true, true, true, true, true, true, true, true, true, true, true, true, true, true, true, true, true, true, true, true, true, true, true, true, true, true, true, false, false, false, false, false, false, false, false, false, false] rfl rfl (any_of HT_.out (by kernel_rfl)) (fun _ _ _ h => h) (Or.inr ⟨by rfl, rfl⟩) ?_ ?_
                rotate_left
                · simp only [Act.put, zla, zlb, zlc, i64_w, i32_w]
                  rfl
                refine pure_ (i := 28) (N := some 45) (v := undef) (a' := ?_) #[true, true, true, true, true, true, true, true, true, true, true, true, true, true, true, true, true, true, true, true, true, true, true, true, true, true, true, true, true, false, false, false, false, false, false, false, false, false] rfl rfl (any_of HT_.out (by kernel_rfl)) (fun _ _ _ h => h) (Or.inr ⟨by rfl, rfl⟩) ?_ ?_
                rotate_left
                · simp only [Act.put, zla, zlb, zlc, i64_w, i32_w]
                  rfl
                refine pure_ (i := 29) (N := some 46) (v := undef) (a' := ?_) #[true, true, true, true, true, true, true, true, true, true, true, true, true, true, true, true, true, true, true, true, true, true, true, true, true, true, true, true, true, true, false, false, false, false, false, false, false, false] rfl rfl (any_of HT_.out (by kernel_rfl)) (fun _ _ _ h => h) (Or.inr ⟨by rfl, rfl⟩) ?_ ?_
                rotate_left
                · simp only [Act.put, zla, zlb, zlc, i64_w, i32_w]
                  rfl
                refine pure_ (i := 30) (N := some 47) (v := undef) (a' := ?_) #[true, true, true, true, true, true, true, true, true, true, true, true, true, true, true, true, true, true, true, true, true, true, true, true, true, true, true, true, true, true, true, false, false, false, false, false, false, false] rfl rfl (any_of HT_.out (by kernel_rfl)) (fun _ _ _ h => h) (Or.inr ⟨by rfl, rfl⟩) ?_ ?_
                rotate_left
                · simp only [Act.put, zla, zlb, zlc, i64_w, i32_w]
                  rfl
                refine pure_ (i := 31) (N := some 48) (v := undef) (a' := ?_) #[true, true, true, true, true, true, true, true, true, true, true, true, true, true, true, true, true, true, true, true, true, true, true, true, true, true, true, true, true, true, true, true, false, false, false, false, false, false] rfl rfl (any_of HT_.out (by kernel_rfl)) (fun _ _ _ h => h) (Or.inr ⟨by rfl, rfl⟩) ?_ ?_
                rotate_left
                · simp only [Act.put, zla, zlb, zlc, i64_w, i32_w]
                  rfl
                refine pure_ (i := 32) (N := some 49) (v := undef) (a' := ?_) #[true, true, true, true, true, true, true, true, true, true, true, true, true, true, true, true, true, true, true, true, true, true, true, true, true, true, true, true, true, true, true, true, true, false, false, false, false, false] rfl rfl (any_of HT_.out (by kernel_rfl)) (fun _ _ _ h => h) (Or.inr ⟨by rfl, rfl⟩) ?_ ?_
                rotate_left
                · simp only [Act.put, zla, zlb, zlc, i64_w, i32_w]
                  rfl
                refine pure_ (i := 33) (N := some 50) (v := undef) (a' := ?_) #[true, true, true, true, true, true, true, true, true, true, true, true, true, true, true, true, true, true, true, true, true, true, true, true, true, true, true, true, true, true, true, true, true, true, false, false, false, false] rfl rfl (any_of HT_.out (by kernel_rfl)) (fun _ _ _ h => h) (Or.inr ⟨by rfl, rfl⟩) ?_ ?_
                rotate_left
                · simp only [Act.put, zla, zlb, zlc, i64_w, i32_w]
                  rfl
                refine pure_ (i := 34) (N := some 51) (v := undef) (a' := ?_) #[true, true, true, true, true, true, true, true, true, true, true, true, true, true, true, true, true, true, true, true, true, true, true, true, true, true, true, true, true, true, true, true, true, true, true, false, false, false] rfl rfl (any_of HT_.out (by kernel_rfl)) (fun _ _ _ h => h) (Or.inr ⟨by rfl, rfl⟩) ?_ ?_
                rotate_left
                · simp only [Act.put, zla, zlb, zlc, i64_w, i32_w]
                  rfl
                refine pure_ (i := 35) (N := some 52) (v := undef) (a' := ?_) #[true, true, true, true, true, true, true, true, true, true, true, true, true, true, true, true, true, true, true, true, true, true, true, true, true, true, true, true, true, true, true, true, true, true, true, true, false, false] rfl rfl (any_of HT_.out (by kernel_rfl)) (fun _ _ _ h => h) (Or.inr ⟨by rfl, rfl⟩) ?_ ?_
                rotate_left
                · simp only [Act.put, zla, zlb, zlc, i64_w, i32_w]
                  rfl
                refine pure_ (i := 36) (N := some 53) (v := undef) (a' := ?_) #[true, true, true, true, true, true, true, true, true, true, true, true, true, true, true, true, true, true, true, true, true, true, true, true, true, true, true, true, true, true, true, true, true, true, true, true, true, false] rfl rfl (any_of HT_.out (by kernel_rfl)) (fun _ _ _ h => h) (Or.inr ⟨by rfl, rfl⟩) ?_ ?_
                rotate_left
                · simp only [Act.put, zla, zlb, zlc, i64_w, i32_w]
                  rfl
                refine zp 37 (some 54) ?_ rfl rfl (any_of HT_.out (by kernel_rfl)) (fun _ _ _ h => h) (by rfl) ?_ ?_ ?_ ?_ ?_
                rotate_left; · (intro w'; go_simp; with_reducible rfl)
                rotate_left 2; · (simp only [Act.put, zla, zlb, zlc, i64_w, i32_w]; rfl)
                refine done_ (done_of HT_.out (by kernel_rfl)) ?_
                try go_wp2
                go_ret
                exact ⟨by first | rfl | (simp [errW_none, errW_some] <;> rfl) | (simp [*, errW_none, errW_some] <;> rfl), by repeat (first | (with_reducible first | exact HB.out | apply below_alloc | apply pw_below_drewN | apply below_drew1) | exact HB.out)⟩
            · rw [if_neg c6] at H
              exact absurd H (by simp)
          · rw [if_neg c5] at H
            exact absurd H (by simp)
        · rw [if_neg c4] at H
          have c4b0 : decide (x5_1 < (l0.length : Int)) = false := decide_eq_false c4
          clear c4
          obtain rfl := Option.some.inj H
          go_wp2
          go_ret
          exact ⟨by first | rfl | (simp [errW_none, errW_some] <;> rfl) | (simp [*, errW_none, errW_some] <;> rfl), by repeat (first | (with_reducible first | exact HB.out | apply below_alloc | apply pw_below_drewN | apply below_drew1) | exact HB.out)⟩
  · rw [if_neg c3] at H
    have c3b0 : ((l0.length : Int) == (l1.length : Int)) = false := beq_eq_false_iff_ne.mpr c3
    have c3b1 : ((l0.length : Int) != (l1.length : Int)) = true := bne_iff_ne.mpr c3
    have c3b2 : (l0.length == l1.length) = false := by first | simpa using c3 | (simp at c3 ⊢; omega)
    obtain rfl := Option.some.inj H
    go_enter Try.func17, Try.ntmps17
    go_wp2
    go_ret
    exact ⟨by first | rfl | (simp [errW_none, errW_some] <;> rfl) | (simp [*, errW_none, errW_some] <;> rfl), by repeat (first | (with_reducible first | exact HB.out | apply below_alloc | apply pw_below_drewN | apply below_drew1) | exact HB.out)⟩

end Go.Proofs.Ytfholpajdkjbbaa.PD
