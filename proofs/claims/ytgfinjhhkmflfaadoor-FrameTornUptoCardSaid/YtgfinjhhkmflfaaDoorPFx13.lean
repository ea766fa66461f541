/- What each Go function named in this text computes, as a Lean function, and that the Go code comes to it; conditions: those in each theorem. (Lines written by this session's program.) -/
import Derived.Test.YtgfinjhhkmflfaaDoorPFx0
import Derived.Test.YtgfinjhhkmflfaaDoorPFx5
import Derived.Test.YtgfinjhhkmflfaaDoorPFx7
import Derived.Test.YtgfinjhhkmflfaaDoorPFx9
import Derived.Test.YtgfinjhhkmflfaaDoorWrap
namespace Go.Proofs.YtgfinjhhkmflfaaDoor.PF
open Go.RowKit Go.Proofs.YtgfinjhhkmflfaaDoorW.PrintWords Go.Proofs.YtgfinjhhkmflfaaDoorW.PrintLast Go.Proofs.YtgfinjhhkmflfaaDoorW.PrintMore
attribute [local go_sem] max2_int min2_int max_two min_two max_three min_three max_four min_four   -- for this text's walks alone
set_option linter.unusedVariables false
set_option linter.unusedSimpArgs false

/-! ### eddylaw1_FrameTorn: function 14 -/
mutual
def eddylaw1_FrameTorn.l0 : Nat → List (List Int) → Int → List Int → List Int → Int → List (Int) → Option (Bool)
  | 0, _, _, _, _, _, _ => none
  | k + 1, x0, x1, x5, x6, x7, x900 => if x7 < (x0.length : Int) then (if 0 ≤ x7 then (if ((rd_L2 x0 x7).length : Int) > 32768 then (eddylaw1_FrameTorn.j1 k x0 x1 x5 x6 x7 true x900) else (eddylaw1_FrameTorn.j1 k x0 x1 x5 x6 x7 (decide ((x5.length : Int) > 131072)) x900)) else (none)) else ((eddylaw1_place.f x1 (wrap64 ((x5.length : Int) + 1))).bind fun t410 => (eddylaw1_FrameTorn.l1 k x0 x5 x6 t410 0 0 x900))
def eddylaw1_FrameTorn.j1 : Nat → List (List Int) → Int → List Int → List Int → Int → Bool → List (Int) → Option (Bool)
  | 0, _, _, _, _, _, _, _ => none
  | k + 1, x0, x1, x5, x6, x7, x34, x900 => if x34 = true then (some true) else (if 0 ≤ x7 then (if x7 < (x0.length : Int) then ((frame_Wrap.f (rd_L2 x0 x7) x900).bind fun bt398 => ((eddylaw1_num.f bt398.2).bind fun t402 => (if t402 = 0 then (if (bt398.1.length : Int) = (wrap64 (((rd_L2 x0 x7).length : Int) + 8)) then (if x5.length + bt398.1.length < 140737488355328 then ((some (x5 ++ bt398.1 : List Int)).bind fun y404 => (if x6.length < 17592186044416 then (eddylaw1_FrameTorn.l0 k x0 x1 y404 (x6 ++ [(y404.length : Int)]) (wrap64 (x7 + 1)) x900) else (none))) else (none)) else (some false)) else (some false)))) else (none)) else (none))
def eddylaw1_FrameTorn.j3 : Nat → List (List Int) → List Int → Int → Int → Int → List (Int) → Option (Bool)
  | 0, _, _, _, _, _, _ => none
  | k + 1, x0, x5, x10, x11, x12, x900 => if 0 ≤ x10 then (if x10 ≤ (x5.length : Int) then ((frame_Scan.f k (x5.take (x10 : Int).toNat) x900).bind fun bt417 => (if 0 ≤ x11 then (if x11 ≤ (x0.length : Int) then ((eddylaw1_alike.f k bt417.1 (x0.take (x11 : Int).toNat)).bind fun t426 => (if t426 = true then (eddylaw1_FrameTorn.j4 k x10 x12 bt417.2.2 (bt417.2.1 != x12)) else (eddylaw1_FrameTorn.j4 k x10 x12 bt417.2.2 true))) else (none)) else (none))) else (none)) else (none)
def eddylaw1_FrameTorn.j4 : Nat → Int → Int → Int → Bool → Option (Bool)
  | 0, _, _, _, _ => none
  | k + 1, x10, x12, x15, x106 => if x106 = true then (some false) else (if x10 = x12 then ((eddylaw1_num.f x15).bind fun t427 => (some (t427 == 0))) else ((eddylaw1_num.f x15).bind fun t428 => (some (t428 == 11))))
def eddylaw1_FrameTorn.l1 : Nat → List (List Int) → List Int → List Int → Int → Int → Int → List (Int) → Option (Bool)
  | 0, _, _, _, _, _, _, _ => none
  | k + 1, x0, x5, x6, x10, x11, x12, x900 => if x11 < (x6.length : Int) then (if 0 ≤ x11 then (if (rd x6 x11) ≤ x10 then (eddylaw1_FrameTorn.l1 k x0 x5 x6 x10 (wrap64 (x11 + 1)) (rd x6 x11) x900) else (eddylaw1_FrameTorn.j3 k x0 x5 x10 x11 x12 x900)) else (none)) else (eddylaw1_FrameTorn.j3 k x0 x5 x10 x11 x12 x900)
end
def eddylaw1_FrameTorn.f (k : Nat) (l0 : List (List Int)) (a1 : Int) (l2 : List (Int)) : Option (Bool) := (eddylaw1_unwraps.f l2).bind fun t395 => (if t395 = true then (eddylaw1_FrameTorn.l0 k l0 a1 ([] : List Int) ([] : List Int) 0 l2) else (some false))
theorem eddylaw1_FrameTorn.mono_l : ∀ k, (∀ y0 y1 y2 y3 y4 y5, LeO (eddylaw1_FrameTorn.l0 k y0 y1 y2 y3 y4 y5) (eddylaw1_FrameTorn.l0 (k + 1) y0 y1 y2 y3 y4 y5)) ∧ (∀ y0 y1 y2 y3 y4 y5 y6, LeO (eddylaw1_FrameTorn.j1 k y0 y1 y2 y3 y4 y5 y6) (eddylaw1_FrameTorn.j1 (k + 1) y0 y1 y2 y3 y4 y5 y6)) ∧ (∀ y0 y1 y2 y3 y4 y5, LeO (eddylaw1_FrameTorn.j3 k y0 y1 y2 y3 y4 y5) (eddylaw1_FrameTorn.j3 (k + 1) y0 y1 y2 y3 y4 y5)) ∧ (∀ y0 y1 y2 y3, LeO (eddylaw1_FrameTorn.j4 k y0 y1 y2 y3) (eddylaw1_FrameTorn.j4 (k + 1) y0 y1 y2 y3)) ∧ (∀ y0 y1 y2 y3 y4 y5 y6, LeO (eddylaw1_FrameTorn.l1 k y0 y1 y2 y3 y4 y5 y6) (eddylaw1_FrameTorn.l1 (k + 1) y0 y1 y2 y3 y4 y5 y6))
  | 0 => ⟨fun _ _ _ _ _ _ r h => by simp [eddylaw1_FrameTorn.l0] at h, fun _ _ _ _ _ _ _ r h => by simp [eddylaw1_FrameTorn.j1] at h, fun _ _ _ _ _ _ r h => by simp [eddylaw1_FrameTorn.j3] at h, fun _ _ _ _ r h => by simp [eddylaw1_FrameTorn.j4] at h, fun _ _ _ _ _ _ _ r h => by simp [eddylaw1_FrameTorn.l1] at h⟩
  | k + 1 => by
    obtain ⟨ih0, ih1, ih2, ih3, ih4⟩ := eddylaw1_FrameTorn.mono_l k
    refine ⟨?_, ?_, ?_, ?_, ?_⟩
    · intro y0 y1 y2 y3 y4 y5
      unfold eddylaw1_FrameTorn.l0
      repeat' first
      | (with_reducible exact ih0 _ _ _ _ _ _)
      | (with_reducible exact ih1 _ _ _ _ _ _ _)
      | (with_reducible exact ih2 _ _ _ _ _ _)
      | (with_reducible exact ih3 _ _ _ _)
      | (with_reducible exact ih4 _ _ _ _ _ _ _)
      | (with_reducible exact eddylaw1_alike.mono _ _ _)
      | (with_reducible exact frame_Scan.mono _ _ _)
      | (with_reducible exact LeO.refl _)
      | (with_reducible exact LeO.none _)
      | (with_reducible refine LeO.ite ?_ ?_)
      | (with_reducible refine LeO.bind ?_ (fun _ => ?_))
      | exact ih0 _ _ _ _ _ _
      | exact ih1 _ _ _ _ _ _ _
      | exact ih2 _ _ _ _ _ _
      | exact ih3 _ _ _ _
      | exact ih4 _ _ _ _ _ _ _
      | exact eddylaw1_alike.mono _ _ _
      | exact frame_Scan.mono _ _ _
      | exact LeO.none _
      | refine LeO.ite ?_ ?_
      | refine LeO.bind ?_ (fun _ => ?_)
    · intro y0 y1 y2 y3 y4 y5 y6
      unfold eddylaw1_FrameTorn.j1
      repeat' first
      | (with_reducible exact ih0 _ _ _ _ _ _)
      | (with_reducible exact ih1 _ _ _ _ _ _ _)
      | (with_reducible exact ih2 _ _ _ _ _ _)
      | (with_reducible exact ih3 _ _ _ _)
      | (with_reducible exact ih4 _ _ _ _ _ _ _)
      | (with_reducible exact eddylaw1_alike.mono _ _ _)
      | (with_reducible exact frame_Scan.mono _ _ _)
      | (with_reducible exact LeO.refl _)
      | (with_reducible exact LeO.none _)
      | (with_reducible refine LeO.ite ?_ ?_)
      | (with_reducible refine LeO.bind ?_ (fun _ => ?_))
      | exact ih0 _ _ _ _ _ _
      | exact ih1 _ _ _ _ _ _ _
      | exact ih2 _ _ _ _ _ _
      | exact ih3 _ _ _ _
      | exact ih4 _ _ _ _ _ _ _
      | exact eddylaw1_alike.mono _ _ _
      | exact frame_Scan.mono _ _ _
      | exact LeO.none _
      | refine LeO.ite ?_ ?_
      | refine LeO.bind ?_ (fun _ => ?_)
    · intro y0 y1 y2 y3 y4 y5
      unfold eddylaw1_FrameTorn.j3
      repeat' first
      | (with_reducible exact ih0 _ _ _ _ _ _)
      | (with_reducible exact ih1 _ _ _ _ _ _ _)
      | (with_reducible exact ih2 _ _ _ _ _ _)
      | (with_reducible exact ih3 _ _ _ _)
      | (with_reducible exact ih4 _ _ _ _ _ _ _)
      | (with_reducible exact eddylaw1_alike.mono _ _ _)
      | (with_reducible exact frame_Scan.mono _ _ _)
      | (with_reducible exact LeO.refl _)
      | (with_reducible exact LeO.none _)
      | (with_reducible refine LeO.ite ?_ ?_)
      | (with_reducible refine LeO.bind ?_ (fun _ => ?_))
      | exact ih0 _ _ _ _ _ _
      | exact ih1 _ _ _ _ _ _ _
      | exact ih2 _ _ _ _ _ _
      | exact ih3 _ _ _ _
      | exact ih4 _ _ _ _ _ _ _
      | exact eddylaw1_alike.mono _ _ _
      | exact frame_Scan.mono _ _ _
      | exact LeO.none _
      | refine LeO.ite ?_ ?_
      | refine LeO.bind ?_ (fun _ => ?_)
    · intro y0 y1 y2 y3
      unfold eddylaw1_FrameTorn.j4
      repeat' first
      | (with_reducible exact ih0 _ _ _ _ _ _)
      | (with_reducible exact ih1 _ _ _ _ _ _ _)
      | (with_reducible exact ih2 _ _ _ _ _ _)
      | (with_reducible exact ih3 _ _ _ _)
      | (with_reducible exact ih4 _ _ _ _ _ _ _)
      | (with_reducible exact eddylaw1_alike.mono _ _ _)
      | (with_reducible exact frame_Scan.mono _ _ _)
      | (with_reducible exact LeO.refl _)
      | (with_reducible exact LeO.none _)
      | (with_reducible refine LeO.ite ?_ ?_)
      | (with_reducible refine LeO.bind ?_ (fun _ => ?_))
      | exact ih0 _ _ _ _ _ _
      | exact ih1 _ _ _ _ _ _ _
      | exact ih2 _ _ _ _ _ _
      | exact ih3 _ _ _ _
      | exact ih4 _ _ _ _ _ _ _
      | exact eddylaw1_alike.mono _ _ _
      | exact frame_Scan.mono _ _ _
      | exact LeO.none _
      | refine LeO.ite ?_ ?_
      | refine LeO.bind ?_ (fun _ => ?_)
    · intro y0 y1 y2 y3 y4 y5 y6
      unfold eddylaw1_FrameTorn.l1
      repeat' first
      | (with_reducible exact ih0 _ _ _ _ _ _)
      | (with_reducible exact ih1 _ _ _ _ _ _ _)
      | (with_reducible exact ih2 _ _ _ _ _ _)
      | (with_reducible exact ih3 _ _ _ _)
      | (with_reducible exact ih4 _ _ _ _ _ _ _)
      | (with_reducible exact eddylaw1_alike.mono _ _ _)
      | (with_reducible exact frame_Scan.mono _ _ _)
      | (with_reducible exact LeO.refl _)
      | (with_reducible exact LeO.none _)
      | (with_reducible refine LeO.ite ?_ ?_)
      | (with_reducible refine LeO.bind ?_ (fun _ => ?_))
      | exact ih0 _ _ _ _ _ _
      | exact ih1 _ _ _ _ _ _ _
      | exact ih2 _ _ _ _ _ _
      | exact ih3 _ _ _ _
      | exact ih4 _ _ _ _ _ _ _
      | exact eddylaw1_alike.mono _ _ _
      | exact frame_Scan.mono _ _ _
      | exact LeO.none _
      | refine LeO.ite ?_ ?_
      | refine LeO.bind ?_ (fun _ => ?_)
theorem eddylaw1_FrameTorn.mono : ∀ a0 a1 a2 k, LeO (eddylaw1_FrameTorn.f k a0 a1 a2) (eddylaw1_FrameTorn.f (k + 1) a0 a1 a2) := by
  intro a0 a1 a2 k
  obtain ⟨ih0, ih1, ih2, ih3, ih4⟩ := eddylaw1_FrameTorn.mono_l k
  unfold eddylaw1_FrameTorn.f
  repeat' first
      | (with_reducible exact ih0 _ _ _ _ _ _)
      | (with_reducible exact ih1 _ _ _ _ _ _ _)
      | (with_reducible exact ih2 _ _ _ _ _ _)
      | (with_reducible exact ih3 _ _ _ _)
      | (with_reducible exact ih4 _ _ _ _ _ _ _)
      | (with_reducible exact eddylaw1_alike.mono _ _ _)
      | (with_reducible exact frame_Scan.mono _ _ _)
      | (with_reducible exact LeO.refl _)
      | (with_reducible exact LeO.none _)
      | (with_reducible refine LeO.ite ?_ ?_)
      | (with_reducible refine LeO.bind ?_ (fun _ => ?_))
      | exact ih0 _ _ _ _ _ _
      | exact ih1 _ _ _ _ _ _ _
      | exact ih2 _ _ _ _ _ _
      | exact ih3 _ _ _ _
      | exact ih4 _ _ _ _ _ _ _
      | exact eddylaw1_alike.mono _ _ _
      | exact frame_Scan.mono _ _ _
      | exact LeO.none _
      | refine LeO.ite ?_ ?_
      | refine LeO.bind ?_ (fun _ => ?_)
set_option maxHeartbeats 8000000 in
set_option maxRecDepth 100000 in
theorem eddylaw1_FrameTorn.calls (k : Nat) (A0 : Option Addr) (c0 : Nat) (l0 : List (List Int)) (a1 : Int) (A2 : Option Addr) (c2 : Nat) (l2 : List (Int)) (r : Bool) (w : World) (hr0 : Kd.C (Kd.slice 5 (Kd.int .u8)) w A0 l0.length l0) (hc0 : l0.length ≤ c0) (hr2 : Kd.C kTab w A2 l2.length l2) (hc2 : l2.length ≤ c2) (h : eddylaw1_FrameTorn.f k l0 a1 l2 = some r) :
    Calls Tryd.prog 14 #[.slice A0 l0.length c0, .int .i64 a1] w fun e w' => e = .returned (.bool r) ∧ Below w.heap.size w w' := by
  have HR0 := Aside0.mk hr0
  have HC0 := Aside0.mk hc0
  clear hr0 hc0
  have HR2 := Aside0.mk hr2
  have HC2 := Aside0.mk hc2
  clear hr2 hc2
  have HB := Aside0.mk (Below.refl w.heap.size w)
  have H : ((eddylaw1_unwraps.f l2).bind fun t395 => (if t395 = true then (eddylaw1_FrameTorn.l0 k l0 a1 ([] : List Int) ([] : List Int) 0 l2) else (some false))) = some r := h
  clear h
  replace H := Option.bind_eq_some_iff.mp H
  obtain ⟨t395, A40, H⟩ := H
  replace H : (if t395 = true then (eddylaw1_FrameTorn.l0 k l0 a1 ([] : List Int) ([] : List Int) 0 l2) else (some false)) = some r := H
  have A4 := Aside0.mk A40
  clear A40
  by_cases c5 : t395 = true
  · subst c5
    have H1 : (eddylaw1_FrameTorn.l0 k l0 a1 ([] : List Int) ([] : List Int) 0 l2) = some r := by rw [if_pos rfl] at H; exact H
    clear H
    have H := H1
    clear H1
    have H' := Aside0.mk H
    clear H
    go_enter Tryd.func14, Tryd.ntmps14
    go_wp2_with (first | ((with_reducible refine gate_callee (f := 30) rfl ?_); refine goesL_ (some 16) rfl rfl Tryd.func30 (by kernel_rfl) rfl #[] rfl (by (try simp only [List.map_toArray, List.map_cons, List.map_nil]); first | done | rfl | (simp only [List.length_drop, List.length_take]; rfl)) ?_; (with_reducible refine (eddylaw1_unwraps.calls A2 c2 l2 true _ ?side1 ?side2 A4.out).mono ?_); (case side1 => repeat (first | exact HR2.out | (with_reducible refine Kd.C_alloc ?_ _) | (with_reducible refine Kd.C_drewN ?_ _) | (with_reducible refine Kd.C_drew ?_))); (case side2 => exact HC2.out); rintro e w6 ⟨rfl, hb⟩; refine ⟨_, rfl, ?_⟩; have n0_ := Aside0.mk (below_step (by repeat (first | (with_reducible first | exact HB.out | apply below_alloc | apply pw_below_drewN | apply below_drew1) | exact HB.out)) hb); clear HB; have HB := n0_; clear n0_; (try clear hb); (try clear hb2); (try clear hk); (try clear hi)))
    go_loopg [5, 6, 7] k (fun kq v5 v6 v7 w' => ∃ (x5_1 : List Int) (x6_1 : List Int) (x7_1 : Int), v7 = .int .i64 x7_1 ∧ Aside0 (eddylaw1_FrameTorn.l0 kq l0 a1 x5_1 x6_1 x7_1 l2 = some r) ∧ Aside0 (kq ≤ k) ∧ Aside0 (Kd.R (Kd.int .u8) 5 w' w.heap.size (fun _ => True) v5 x5_1) ∧ Aside0 (Kd.R (Kd.int .i64) 3 w' w.heap.size (fun _ => True) v6 x6_1) ∧ Aside0 (Below w.heap.size w w'))
    case atStart => exact ⟨(([] : List Int)), (([] : List Int)), (0), (by first | rfl | (simp; done) | (simp [*]; done)), H', ⟨Nat.le_refl _⟩, ⟨by first | exact Kd.R_nil _ _ _ _ _ | exact Kd.N_nil _ _ _ _ _ | exact Kd.V_nil _ _ _ _ _ | exact Kd.Q_nil _ _ _ _ _ | exact Kd.S_nil _ _ _ _ _⟩, ⟨by first | exact Kd.R_nil _ _ _ _ _ | exact Kd.N_nil _ _ _ _ _ | exact Kd.V_nil _ _ _ _ _ | exact Kd.Q_nil _ _ _ _ _ | exact Kd.S_nil _ _ _ _ _⟩, ⟨by repeat (first | (with_reducible first | exact HB.out | apply below_alloc | apply pw_below_drewN | apply below_drew1) | exact HB.out)⟩⟩
    case round =>
      clear H'
      try clear c1
      try clear c2
      try clear p2
      try clear c3
      try clear c5
      obtain ⟨x5_1, x6_1, x7_1, rfl, HA, HK1, HO_5, HO_6, HB⟩ := hrel
      cases gk with
      | zero => exact absurd HA.out (by simp [eddylaw1_FrameTorn.l0])
      | succ k1 =>
        have H := HA.out
        clear HA
        simp only [eddylaw1_FrameTorn.l0] at H
        by_cases c7 : x7_1 < (l0.length : Int)
        · rw [if_pos c7] at H
          have c7b0 : decide (x7_1 < (l0.length : Int)) = true := decide_eq_true c7
          clear c7
          have HC8 := Aside0.mk H
          clear H
          go_upto_region 8 with (fail)
          go_cut [34] (fun v34 wc => ∃ (kq : Nat) (x34_7 : Bool), v34 = .bool x34_7 ∧ Aside0 (eddylaw1_FrameTorn.j1 kq l0 a1 x5_1 x6_1 x7_1 x34_7 l2 = some r) ∧ Aside0 (kq ≤ k1) ∧ Aside0 (Kd.R (Kd.int .u8) 5 wc w.heap.size (fun _ => True) u5 x5_1) ∧ Aside0 (Kd.R (Kd.int .i64) 3 wc w.heap.size (fun _ => True) u6 x6_1) ∧ Aside0 (Below w.heap.size w wc))
          case first =>
            have H := HC8.out
            clear HC8
            by_cases c9 : 0 ≤ x7_1
            · rw [if_pos c9] at H
              have c9b0 : decide (0 ≤ x7_1) = true := decide_eq_true c9
              clear c9
              (first | rw [c9b0] | (simp only [i64_w, i32_w]; rw [c9b0]) | skip)
              by_cases c10 : ((rd_L2 l0 x7_1).length : Int) > 32768
              · rw [if_pos c10] at H
                have c10b0 : decide (32768 < ((rd_L2 l0 x7_1).length : Int)) = true := decide_eq_true c10
                have c10b1 : decide (32768 < (rd_L2 l0 x7_1).length) = true := decide_eq_true (by omega)
                clear c10
                have H' := Aside0.mk H
                clear H
                have p396 : 0 ≤ (x7_1 : Int) := of_decide_eq_true (by first | (with_reducible assumption) | assumption)
                have q396 : x7_1 < (l0.length : Int) := of_decide_eq_true (by first | (with_reducible assumption) | assumption)
                obtain ⟨ad396, A396_0, c396_0, e396, hx396_0, hl396_0, hi396_0⟩ := at_L2 HR0.out x7_1 p396 q396
                cases e396
                replace hx396_0 := (HB.out.cell (World.block_lt_of_cell? w _ hx396_0)).trans hx396_0
                have HR396_0 := Aside0.mk hi396_0
                have HC396_0 := Aside0.mk hl396_0
                clear hi396_0 hl396_0
                replace p396 := eq_true p396
                replace q396 := eq_true q396
                go_wp2
                go_meet
                case rel => exact ⟨_, (true), (by first | rfl | (simp; done) | (simp [*]; done)), H', ⟨by have := HK1.out; first | omega | exact Nat.le_refl _⟩, ⟨by (with_reducible repeat (first | apply Kd.R_alloc | apply Kd.R_drewN | apply Kd.R_drew)); exact HO_5.out⟩, ⟨by (with_reducible repeat (first | apply Kd.R_alloc | apply Kd.R_drewN | apply Kd.R_drew)); exact HO_6.out⟩, ⟨by repeat (first | (with_reducible first | exact HB.out | apply below_alloc | apply pw_below_drewN | apply below_drew1) | exact HB.out)⟩⟩
              · rw [if_neg c10] at H
                have c10b0 : decide (32768 < ((rd_L2 l0 x7_1).length : Int)) = false := decide_eq_false c10
                have c10b1 : decide (32768 < (rd_L2 l0 x7_1).length) = false := decide_eq_false (by omega)
                clear c10
                have H' := Aside0.mk H
                clear H
                have p396 : 0 ≤ (x7_1 : Int) := of_decide_eq_true (by first | (with_reducible assumption) | assumption)
                have q396 : x7_1 < (l0.length : Int) := of_decide_eq_true (by first | (with_reducible assumption) | assumption)
                obtain ⟨ad396, A396_0, c396_0, e396, hx396_0, hl396_0, hi396_0⟩ := at_L2 HR0.out x7_1 p396 q396
                cases e396
                replace hx396_0 := (HB.out.cell (World.block_lt_of_cell? w _ hx396_0)).trans hx396_0
                have HR396_0 := Aside0.mk hi396_0
                have HC396_0 := Aside0.mk hl396_0
                clear hi396_0 hl396_0
                replace p396 := eq_true p396
                replace q396 := eq_true q396
                obtain ⟨Ao11, co11, eo11⟩ := Kd.R_slice HO_5.out
                subst eo11
                go_wp2
                go_meet
                case rel => exact ⟨_, (decide ((x5_1.length : Int) > 131072)), (by first | rfl | (simp; done) | (simp [*]; done)), H', ⟨by have := HK1.out; first | omega | exact Nat.le_refl _⟩, ⟨by (with_reducible repeat (first | apply Kd.R_alloc | apply Kd.R_drewN | apply Kd.R_drew)); exact HO_5.out⟩, ⟨by (with_reducible repeat (first | apply Kd.R_alloc | apply Kd.R_drewN | apply Kd.R_drew)); exact HO_6.out⟩, ⟨by repeat (first | (with_reducible first | exact HB.out | apply below_alloc | apply pw_below_drewN | apply below_drew1) | exact HB.out)⟩⟩
            · rw [if_neg c9] at H
              exact absurd H (by simp)
          case rest =>
            clear HC8
            try clear c1
            try clear c2
            try clear p2
            try clear c3
            try clear p3
            try clear q3
            try clear hx3
            try clear c5
            try clear c7
            try clear c7b0
            try clear c9
            try clear c9b0
            try clear c10
            try clear c10b0
            try clear c10b1
            try clear hx396_0
            try clear p2
            try clear p396
            try clear q396
            obtain ⟨kq, x34_7, rfl, HA, HJ7, HO_5, HO_6, HB⟩ := hcut
            cases kq with
            | zero => exact absurd HA.out (by simp [eddylaw1_FrameTorn.j1])
            | succ kj7 =>
              have H := HA.out
              clear HA
              simp only [eddylaw1_FrameTorn.j1] at H
              by_cases c12 : x34_7 = true
              · subst c12
                have H1 : (some true) = some r := by rw [if_pos rfl] at H; exact H
                clear H
                have H := H1
                clear H1
                obtain rfl := Option.some.inj H
                go_wp2
                go_ret
                exact ⟨by first | rfl | (simp [errW_none, errW_some] <;> rfl) | (simp [*, errW_none, errW_some] <;> rfl), by repeat (first | (with_reducible first | exact HB.out | apply below_alloc | apply pw_below_drewN | apply below_drew1) | exact HB.out)⟩
              · replace c12 := Bool.eq_false_iff.mpr c12
                subst c12
                have H1 : (if 0 ≤ x7_1 then (if x7_1 < (l0.length : Int) then ((frame_Wrap.f (rd_L2 l0 x7_1) l2).bind fun bt398 => ((eddylaw1_num.f bt398.2).bind fun t402 => (if t402 = 0 then (if (bt398.1.length : Int) = (wrap64 (((rd_L2 l0 x7_1).length : Int) + 8)) then (if x5_1.length + bt398.1.length < 140737488355328 then ((some (x5_1 ++ bt398.1 : List Int)).bind fun y404 => (if x6_1.length < 17592186044416 then (eddylaw1_FrameTorn.l0 kj7 l0 a1 y404 (x6_1 ++ [(y404.length : Int)]) (wrap64 (x7_1 + 1)) l2) else (none))) else (none)) else (some false)) else (some false)))) else (none)) else (none)) = some r := by rw [if_neg (show ¬ (false = true) by decide)] at H; exact H
                clear H
                have H := H1
                clear H1
                by_cases c13 : 0 ≤ x7_1
                · rw [if_pos c13] at H
                  have c13b0 : decide (0 ≤ x7_1) = true := decide_eq_true c13
                  clear c13
                  by_cases c14 : x7_1 < (l0.length : Int)
                  · rw [if_pos c14] at H
                    have c14b0 : decide (x7_1 < (l0.length : Int)) = true := decide_eq_true c14
                    clear c14
                    replace H := Option.bind_eq_some_iff.mp H
                    obtain ⟨⟨t398, t399⟩, A150, H⟩ := H
                    replace H : ((eddylaw1_num.f t399).bind fun t402 => (if t402 = 0 then (if (t398.length : Int) = (wrap64 (((rd_L2 l0 x7_1).length : Int) + 8)) then (if x5_1.length + t398.length < 140737488355328 then ((some (x5_1 ++ t398 : List Int)).bind fun y404 => (if x6_1.length < 17592186044416 then (eddylaw1_FrameTorn.l0 kj7 l0 a1 y404 (x6_1 ++ [(y404.length : Int)]) (wrap64 (x7_1 + 1)) l2) else (none))) else (none)) else (some false)) else (some false))) = some r := H
                    have A15 := Aside0.mk A150
                    clear A150
                    replace H := Option.bind_eq_some_iff.mp H
                    obtain ⟨t402, A160, H⟩ := H
                    replace H : (if t402 = 0 then (if (t398.length : Int) = (wrap64 (((rd_L2 l0 x7_1).length : Int) + 8)) then (if x5_1.length + t398.length < 140737488355328 then ((some (x5_1 ++ t398 : List Int)).bind fun y404 => (if x6_1.length < 17592186044416 then (eddylaw1_FrameTorn.l0 kj7 l0 a1 y404 (x6_1 ++ [(y404.length : Int)]) (wrap64 (x7_1 + 1)) l2) else (none))) else (none)) else (some false)) else (some false)) = some r := H
                    have A16 := Aside0.mk A160
                    clear A160
                    by_cases c17 : t402 = 0
                    · rw [if_pos c17] at H
                      have c17b0 : (t402 == 0) = true := beq_iff_eq.mpr c17
                      have c17b1 : (t402 != 0) = false := bne_eq_false_iff_eq.mpr c17
                      clear c17
                      by_cases c18 : (t398.length : Int) = (wrap64 (((rd_L2 l0 x7_1).length : Int) + 8))
                      · rw [if_pos c18] at H
                        have c18b0 : ((t398.length : Int) == (wrap64 (((rd_L2 l0 x7_1).length : Int) + 8))) = true := beq_iff_eq.mpr c18
                        have c18b1 : ((t398.length : Int) != (wrap64 (((rd_L2 l0 x7_1).length : Int) + 8))) = false := bne_eq_false_iff_eq.mpr c18
                        clear c18
                        by_cases c19 : x5_1.length + t398.length < 140737488355328
                        · rw [if_pos c19] at H
                          have LMc19 := Aside0.mk c19
                          clear c19
                          obtain ⟨y404, hy404⟩ : ∃ y_ : List Int, y_ = (x5_1 ++ t398) := ⟨_, rfl⟩
                          replace H : (if x6_1.length < 17592186044416 then (eddylaw1_FrameTorn.l0 kj7 l0 a1 y404 (x6_1 ++ [(y404.length : Int)]) (wrap64 (x7_1 + 1)) l2) else (none)) = some r := by first | (rw [hy404]; with_reducible exact H) | (have H2_ := (Option.bind_some _ _).symm.trans H; rw [hy404]; with_reducible exact H2_) | (have H2_ := (Option.bind_some _ _).symm.trans H; with_reducible exact H2_) | with_reducible exact H | (rw [hy404]; exact H) | exact H
                          have Ny404 := Aside0.mk hy404
                          clear hy404
                          by_cases c20 : x6_1.length < 17592186044416
                          · rw [if_pos c20] at H
                            have LMc20 := Aside0.mk c20
                            clear c20
                            obtain ⟨y407, hy407⟩ : ∃ y_ : List Int, y_ = (x6_1 ++ [(y404.length : Int)]) := ⟨_, rfl⟩
                            replace H : (eddylaw1_FrameTorn.l0 kj7 l0 a1 y404 y407 (wrap64 (x7_1 + 1)) l2) = some r := by first | (rw [hy407]; with_reducible exact H) | (have H2_ := (Option.bind_some _ _).symm.trans H; rw [hy407]; with_reducible exact H2_) | (have H2_ := (Option.bind_some _ _).symm.trans H; with_reducible exact H2_) | with_reducible exact H | (rw [hy407]; exact H) | exact H
                            have Ny407 := Aside0.mk hy407
                            clear hy407
                            have H' := Aside0.mk H
                            clear H
                            have p397 : 0 ≤ (x7_1 : Int) := of_decide_eq_true (by first | (with_reducible assumption) | assumption)
                            have q397 : x7_1 < (l0.length : Int) := of_decide_eq_true (by first | (with_reducible assumption) | assumption)
                            obtain ⟨ad397, A397_0, c397_0, e397, hx397_0, hl397_0, hi397_0⟩ := at_L2 HR0.out x7_1 p397 q397
                            cases e397
                            replace hx397_0 := (HB.out.cell (World.block_lt_of_cell? w _ hx397_0)).trans hx397_0
                            have HR397_0 := Aside0.mk hi397_0
                            have HC397_0 := Aside0.mk hl397_0
                            clear hi397_0 hl397_0
                            replace p397 := eq_true p397
                            replace q397 := eq_true q397
                            go_wp2_with (first | ((with_reducible refine gate_callee (f := 23) rfl ?_); refine goesL_ (some 40) rfl rfl Tryd.func23 (by kernel_rfl) rfl #[.slice A397_0 (rd_L2 l0 x7_1).length c397_0] rfl (by (try simp only [List.map_toArray, List.map_cons, List.map_nil]); first | done | rfl | (simp only [List.length_drop, List.length_take]; rfl)) ?_; (with_reducible refine (frame_Wrap.calls _ _ (rd_L2 l0 x7_1) A2 c2 l2 t398 t399 _ ?side1 ?side2 ?side3 ?side4 A15.out).mono ?_); (case side1 => repeat (first | exact (Kd.C_below HR397_0.out HB.out) | (with_reducible refine Kd.C_alloc ?_ _) | (with_reducible refine Kd.C_drewN ?_ _) | (with_reducible refine Kd.C_drew ?_))); (case side2 => exact HC397_0.out); (case side3 => repeat (first | exact (Kd.C_below HR2.out HB.out) | (with_reducible refine Kd.C_alloc ?_ _) | (with_reducible refine Kd.C_drewN ?_ _) | (with_reducible refine Kd.C_drew ?_))); (case side4 => exact HC2.out); rintro e w21 ⟨v400, rfl, ho0, hb⟩; refine ⟨_, rfl, ?_⟩; have n0_ := Aside0.mk (Kd.R_elder' (by (with_reducible repeat (first | apply Kd.R_alloc | apply Kd.R_drewN | apply Kd.R_drew)); exact HO_5.out) (Kd.R_base ho0) hb); have n1_ := Aside0.mk (Kd.R_below (by (with_reducible repeat (first | apply Kd.R_alloc | apply Kd.R_drewN | apply Kd.R_drew)); exact HO_6.out) hb); have n2_ := Aside0.mk (Kd.R_lower (Kd.R_new' ho0 (Kd.R_lt (by (with_reducible repeat (first | apply Kd.R_alloc | apply Kd.R_drewN | apply Kd.R_drew)); exact HO_5.out))) (below_size (by repeat (first | (with_reducible first | exact HB.out | apply below_alloc | apply pw_below_drewN | apply below_drew1) | exact HB.out)))); have n3_ := Aside0.mk (below_step (by repeat (first | (with_reducible first | exact HB.out | apply below_alloc | apply pw_below_drewN | apply below_drew1) | exact HB.out)) hb); clear HO_5; clear HO_6; clear HB; have HO_5 := n0_; have HO_6 := n1_; have HO401 := n2_; have HB := n3_; clear n0_ n1_ n2_ n3_; (try clear hb); (try clear hb2); (try clear hk); (try clear hi); (try clear ho0)) | ((with_reducible refine gate_callee (f := 24) rfl ?_); refine goesL_ (some 44) rfl rfl Tryd.func24 (by kernel_rfl) rfl #[.int .i64 t399] rfl (by (try simp only [List.map_toArray, List.map_cons, List.map_nil]); first | done | rfl | (simp only [List.length_drop, List.length_take]; rfl)) ?_; (with_reducible refine (eddylaw1_num.calls t399 t402 _ A16.out).mono ?_); rintro e w' ⟨rfl, ⟨nd, rfl⟩⟩; refine ⟨_, rfl, ?_⟩; obtain ⟨Ao22, co22, eo22⟩ := Kd.R_slice HO401.out; subst eo22; have p403 : 0 ≤ (x7_1 : Int) := of_decide_eq_true (by first | (with_reducible assumption) | assumption); have q403 : x7_1 < (l0.length : Int) := of_decide_eq_true (by first | (with_reducible assumption) | assumption); obtain ⟨ad403, A403_0, c403_0, e403, hx403_0, hl403_0, hi403_0⟩ := at_L2 HR0.out x7_1 p403 q403; obtain rfl : ad397 = ad403 := (by injection e403); replace hx403_0 := (HB.out.cell (World.block_lt_of_cell? w _ hx403_0)).trans hx403_0; have HR403_0 := Aside0.mk hi403_0; have HC403_0 := Aside0.mk hl403_0; clear hi403_0 hl403_0; replace p403 := eq_true p403; replace q403 := eq_true q403) | ((with_reducible refine gate_builtin (b := .append) (xs := #[.tmp 57, .tmp 58]) rfl ?_); (try (refine gate_guard (by rfl) ?_; dsimp only)); at_builtin; refine Kd.R_append_rows (Kd.int .u8) (w0 := w) w.heap.size rfl (.tmp 57) (.tmp 58) 23 5 (.int .u8 0) 1 rfl Tryd.underlying23 info5 rfl (by decide) (by omega) u5 x5_1 t398 _ _ _ (fun k_ => some k_ ≠ (.slice Ao22 t398.length co22 : Value).ownBlock) (fun _ => False) rfl rfl ?aO ?aR (fun _ _ h => h) (fun _ h => h.elim) ?aF ?aB ?aS ?aL ?_; (case aR => repeat (first | exact (Kd.R_reads' HO401.out).2.2 | (with_reducible refine Kd.C_alloc ?_ _) | (with_reducible refine Kd.C_drewN ?_ _) | (with_reducible refine Kd.C_drew ?_))); (case aB => exact (by repeat (first | (with_reducible first | exact HB.out | apply below_alloc | apply pw_below_drewN | apply below_drew1) | exact HB.out))); (case aF => exact (fun k_ hk => Kd.fresh' (Kd.R_lt (by (with_reducible repeat (first | apply Kd.R_alloc | apply Kd.R_drewN | apply Kd.R_drew)); exact HO401.out)) k_ hk)); (case aO => exact (by (with_reducible repeat (first | apply Kd.R_alloc | apply Kd.R_drewN | apply Kd.R_drew)); exact Kd.R_mono HO_5.out (fun _ hk => hk.2))); (case aS => exact (below_size (by repeat (first | (with_reducible first | exact HB.out | apply below_alloc | apply pw_below_drewN | apply below_drew1) | exact HB.out)))); (case aL => have := LMc19.out; omega); intro v405 w23 ho hb hg hat; rw [← Ny404.out] at ho; have n0_ := Aside0.mk (Kd.R_over' (by (with_reducible repeat (first | apply Kd.R_alloc | apply Kd.R_drewN | apply Kd.R_drew)); exact HO_6.out) (Kd.R_typed (by (with_reducible repeat (first | apply Kd.R_alloc | apply Kd.R_drewN | apply Kd.R_drew)); exact HO_5.out)) (by decide) hg); have n1_ := Aside0.mk (Kd.R_after (ok := (fun _ => True)) (by (with_reducible repeat (first | apply Kd.R_alloc | apply Kd.R_drewN | apply Kd.R_drew)); exact HO401.out) hg hat); have n2_ := Aside0.mk (hb); have n3_ := Aside0.mk (ho); clear HO_6; clear HO401; clear HB; clear HO_5; have HO_6 := n0_; have HO401 := n1_; have HB := n2_; have HO406 := n3_; clear n0_ n1_ n2_ n3_; clear ho hb hg hat; obtain ⟨Ao24, co24, eo24⟩ := Kd.R_slice HO406.out; subst eo24) | ((with_reducible refine gate_builtin (b := .append) (xs := #[.tmp 60, .tmp 63]) rfl ?_); (try (refine gate_guard (by rfl) ?_; dsimp only)); at_builtin; refine Kd.R_append (Kd.int .i64) (w0 := w) w.heap.size rfl (.tmp 60) (.tmp 63) 52 3 (.int .i64 0) 8 rfl Tryd.underlying52 info3 rfl (by decide) (by omega) u6 x6_1 (y404.length : Int) [.int .i64 (y404.length : Int)] (fun _ => True) (fun _ => False) rfl rfl ?aP (fun _ hk => hk.elim) ?aF ?aO ?aB ?aS ?aL ?_; (case aP => exact rfl); (case aB => exact (by repeat (first | (with_reducible first | exact HB.out | apply below_alloc | apply pw_below_drewN | apply below_drew1) | exact HB.out))); (case aF => exact (fun _ _ => trivial)); (case aO => exact (by (with_reducible repeat (first | apply Kd.R_alloc | apply Kd.R_drewN | apply Kd.R_drew)); exact HO_6.out)); (case aS => exact (below_size (by repeat (first | (with_reducible first | exact HB.out | apply below_alloc | apply pw_below_drewN | apply below_drew1) | exact HB.out)))); (case aL => have := LMc20.out; omega); intro v408 w25 ho hb hg hat; rw [← Ny407.out] at ho; have n0_ := Aside0.mk (Kd.R_over' (by (with_reducible repeat (first | apply Kd.R_alloc | apply Kd.R_drewN | apply Kd.R_drew)); exact HO401.out) (Kd.R_typed (by (with_reducible repeat (first | apply Kd.R_alloc | apply Kd.R_drewN | apply Kd.R_drew)); exact HO_6.out)) (by decide) hg); have n1_ := Aside0.mk (Kd.R_over' (by (with_reducible repeat (first | apply Kd.R_alloc | apply Kd.R_drewN | apply Kd.R_drew)); exact HO406.out) (Kd.R_typed (by (with_reducible repeat (first | apply Kd.R_alloc | apply Kd.R_drewN | apply Kd.R_drew)); exact HO_6.out)) (by decide) hg); have n2_ := Aside0.mk (hb); have n3_ := Aside0.mk (ho); clear HO401; clear HO406; clear HB; clear HO_6; have HO401 := n0_; have HO406 := n1_; have HB := n2_; have HO409 := n3_; clear n0_ n1_ n2_ n3_; clear ho hb hg hat))
                            go_roundg kj7
                            case measure => have := HK1.out; have := HJ7.out; omega
                            case rel => exact ⟨(y404), (y407), (wrap64 (x7_1 + 1)), (by first | rfl | (simp; done) | (simp [*]; done)), H', ⟨by have := HK1.out; have := HJ7.out; omega⟩, ⟨by (with_reducible repeat (first | apply Kd.R_alloc | apply Kd.R_drewN | apply Kd.R_drew)); exact Kd.R_mono HO406.out (fun _ hk => trivial)⟩, ⟨by (with_reducible repeat (first | apply Kd.R_alloc | apply Kd.R_drewN | apply Kd.R_drew)); exact HO409.out⟩, ⟨by repeat (first | (with_reducible first | exact HB.out | apply below_alloc | apply pw_below_drewN | apply below_drew1) | exact HB.out)⟩⟩
                          · rw [if_neg c20] at H
                            exact absurd H (by simp)
                        · rw [if_neg c19] at H
                          exact absurd H (by simp)
                      · rw [if_neg c18] at H
                        have c18b0 : ((t398.length : Int) == (wrap64 (((rd_L2 l0 x7_1).length : Int) + 8))) = false := beq_eq_false_iff_ne.mpr c18
                        have c18b1 : ((t398.length : Int) != (wrap64 (((rd_L2 l0 x7_1).length : Int) + 8))) = true := bne_iff_ne.mpr c18
                        obtain rfl := Option.some.inj H
                        have p397 : 0 ≤ (x7_1 : Int) := of_decide_eq_true (by first | (with_reducible assumption) | assumption)
                        have q397 : x7_1 < (l0.length : Int) := of_decide_eq_true (by first | (with_reducible assumption) | assumption)
                        obtain ⟨ad397, A397_0, c397_0, e397, hx397_0, hl397_0, hi397_0⟩ := at_L2 HR0.out x7_1 p397 q397
                        cases e397
                        replace hx397_0 := (HB.out.cell (World.block_lt_of_cell? w _ hx397_0)).trans hx397_0
                        have HR397_0 := Aside0.mk hi397_0
                        have HC397_0 := Aside0.mk hl397_0
                        clear hi397_0 hl397_0
                        replace p397 := eq_true p397
                        replace q397 := eq_true q397
                        go_wp2_with (first | ((with_reducible refine gate_callee (f := 23) rfl ?_); refine goesL_ (some 40) rfl rfl Tryd.func23 (by kernel_rfl) rfl #[.slice A397_0 (rd_L2 l0 x7_1).length c397_0] rfl (by (try simp only [List.map_toArray, List.map_cons, List.map_nil]); first | done | rfl | (simp only [List.length_drop, List.length_take]; rfl)) ?_; (with_reducible refine (frame_Wrap.calls _ _ (rd_L2 l0 x7_1) A2 c2 l2 t398 t399 _ ?side1 ?side2 ?side3 ?side4 A15.out).mono ?_); (case side1 => repeat (first | exact (Kd.C_below HR397_0.out HB.out) | (with_reducible refine Kd.C_alloc ?_ _) | (with_reducible refine Kd.C_drewN ?_ _) | (with_reducible refine Kd.C_drew ?_))); (case side2 => exact HC397_0.out); (case side3 => repeat (first | exact (Kd.C_below HR2.out HB.out) | (with_reducible refine Kd.C_alloc ?_ _) | (with_reducible refine Kd.C_drewN ?_ _) | (with_reducible refine Kd.C_drew ?_))); (case side4 => exact HC2.out); rintro e w26 ⟨v400, rfl, ho0, hb⟩; refine ⟨_, rfl, ?_⟩; have n0_ := Aside0.mk (Kd.R_elder' (by (with_reducible repeat (first | apply Kd.R_alloc | apply Kd.R_drewN | apply Kd.R_drew)); exact HO_5.out) (Kd.R_base ho0) hb); have n1_ := Aside0.mk (Kd.R_below (by (with_reducible repeat (first | apply Kd.R_alloc | apply Kd.R_drewN | apply Kd.R_drew)); exact HO_6.out) hb); have n2_ := Aside0.mk (Kd.R_lower (Kd.R_new' ho0 (Kd.R_lt (by (with_reducible repeat (first | apply Kd.R_alloc | apply Kd.R_drewN | apply Kd.R_drew)); exact HO_5.out))) (below_size (by repeat (first | (with_reducible first | exact HB.out | apply below_alloc | apply pw_below_drewN | apply below_drew1) | exact HB.out)))); have n3_ := Aside0.mk (below_step (by repeat (first | (with_reducible first | exact HB.out | apply below_alloc | apply pw_below_drewN | apply below_drew1) | exact HB.out)) hb); clear HO_5; clear HO_6; clear HB; have HO_5 := n0_; have HO_6 := n1_; have HO401 := n2_; have HB := n3_; clear n0_ n1_ n2_ n3_; (try clear hb); (try clear hb2); (try clear hk); (try clear hi); (try clear ho0)) | ((with_reducible refine gate_callee (f := 24) rfl ?_); refine goesL_ (some 44) rfl rfl Tryd.func24 (by kernel_rfl) rfl #[.int .i64 t399] rfl (by (try simp only [List.map_toArray, List.map_cons, List.map_nil]); first | done | rfl | (simp only [List.length_drop, List.length_take]; rfl)) ?_; (with_reducible refine (eddylaw1_num.calls t399 t402 _ A16.out).mono ?_); rintro e w' ⟨rfl, ⟨nd, rfl⟩⟩; refine ⟨_, rfl, ?_⟩; obtain ⟨Ao27, co27, eo27⟩ := Kd.R_slice HO401.out; subst eo27; have p403 : 0 ≤ (x7_1 : Int) := of_decide_eq_true (by first | (with_reducible assumption) | assumption); have q403 : x7_1 < (l0.length : Int) := of_decide_eq_true (by first | (with_reducible assumption) | assumption); obtain ⟨ad403, A403_0, c403_0, e403, hx403_0, hl403_0, hi403_0⟩ := at_L2 HR0.out x7_1 p403 q403; obtain rfl : ad397 = ad403 := (by injection e403); replace hx403_0 := (HB.out.cell (World.block_lt_of_cell? w _ hx403_0)).trans hx403_0; have HR403_0 := Aside0.mk hi403_0; have HC403_0 := Aside0.mk hl403_0; clear hi403_0 hl403_0; replace p403 := eq_true p403; replace q403 := eq_true q403))
                        go_ret
                        exact ⟨by first | rfl | (simp [errW_none, errW_some] <;> rfl) | (simp [*, errW_none, errW_some] <;> rfl), by repeat (first | (with_reducible first | exact HB.out | apply below_alloc | apply pw_below_drewN | apply below_drew1) | exact HB.out)⟩
                    · rw [if_neg c17] at H
                      have c17b0 : (t402 == 0) = false := beq_eq_false_iff_ne.mpr c17
                      have c17b1 : (t402 != 0) = true := bne_iff_ne.mpr c17
                      obtain rfl := Option.some.inj H
                      have p397 : 0 ≤ (x7_1 : Int) := of_decide_eq_true (by first | (with_reducible assumption) | assumption)
                      have q397 : x7_1 < (l0.length : Int) := of_decide_eq_true (by first | (with_reducible assumption) | assumption)
                      obtain ⟨ad397, A397_0, c397_0, e397, hx397_0, hl397_0, hi397_0⟩ := at_L2 HR0.out x7_1 p397 q397
                      cases e397
                      replace hx397_0 := (HB.out.cell (World.block_lt_of_cell? w _ hx397_0)).trans hx397_0
                      have HR397_0 := Aside0.mk hi397_0
                      have HC397_0 := Aside0.mk hl397_0
                      clear hi397_0 hl397_0
                      replace p397 := eq_true p397
                      replace q397 := eq_true q397
                      go_wp2_with (first | ((with_reducible refine gate_callee (f := 23) rfl ?_); refine goesL_ (some 40) rfl rfl Tryd.func23 (by kernel_rfl) rfl #[.slice A397_0 (rd_L2 l0 x7_1).length c397_0] rfl (by (try simp only [List.map_toArray, List.map_cons, List.map_nil]); first | done | rfl | (simp only [List.length_drop, List.length_take]; rfl)) ?_; (with_reducible refine (frame_Wrap.calls _ _ (rd_L2 l0 x7_1) A2 c2 l2 t398 t399 _ ?side1 ?side2 ?side3 ?side4 A15.out).mono ?_); (case side1 => repeat (first | exact (Kd.C_below HR397_0.out HB.out) | (with_reducible refine Kd.C_alloc ?_ _) | (with_reducible refine Kd.C_drewN ?_ _) | (with_reducible refine Kd.C_drew ?_))); (case side2 => exact HC397_0.out); (case side3 => repeat (first | exact (Kd.C_below HR2.out HB.out) | (with_reducible refine Kd.C_alloc ?_ _) | (with_reducible refine Kd.C_drewN ?_ _) | (with_reducible refine Kd.C_drew ?_))); (case side4 => exact HC2.out); rintro e w28 ⟨v400, rfl, ho0, hb⟩; refine ⟨_, rfl, ?_⟩; have n0_ := Aside0.mk (Kd.R_elder' (by (with_reducible repeat (first | apply Kd.R_alloc | apply Kd.R_drewN | apply Kd.R_drew)); exact HO_5.out) (Kd.R_base ho0) hb); have n1_ := Aside0.mk (Kd.R_below (by (with_reducible repeat (first | apply Kd.R_alloc | apply Kd.R_drewN | apply Kd.R_drew)); exact HO_6.out) hb); have n2_ := Aside0.mk (Kd.R_lower (Kd.R_new' ho0 (Kd.R_lt (by (with_reducible repeat (first | apply Kd.R_alloc | apply Kd.R_drewN | apply Kd.R_drew)); exact HO_5.out))) (below_size (by repeat (first | (with_reducible first | exact HB.out | apply below_alloc | apply pw_below_drewN | apply below_drew1) | exact HB.out)))); have n3_ := Aside0.mk (below_step (by repeat (first | (with_reducible first | exact HB.out | apply below_alloc | apply pw_below_drewN | apply below_drew1) | exact HB.out)) hb); clear HO_5; clear HO_6; clear HB; have HO_5 := n0_; have HO_6 := n1_; have HO401 := n2_; have HB := n3_; clear n0_ n1_ n2_ n3_; (try clear hb); (try clear hb2); (try clear hk); (try clear hi); (try clear ho0)) | ((with_reducible refine gate_callee (f := 24) rfl ?_); refine goesL_ (some 44) rfl rfl Tryd.func24 (by kernel_rfl) rfl #[.int .i64 t399] rfl (by (try simp only [List.map_toArray, List.map_cons, List.map_nil]); first | done | rfl | (simp only [List.length_drop, List.length_take]; rfl)) ?_; (with_reducible refine (eddylaw1_num.calls t399 t402 _ A16.out).mono ?_); rintro e w' ⟨rfl, ⟨nd, rfl⟩⟩; refine ⟨_, rfl, ?_⟩))
                      go_ret
                      exact ⟨by first | rfl | (simp [errW_none, errW_some] <;> rfl) | (simp [*, errW_none, errW_some] <;> rfl), by repeat (first | (with_reducible first | exact HB.out | apply below_alloc | apply pw_below_drewN | apply below_drew1) | exact HB.out)⟩
                  · rw [if_neg c14] at H
                    exact absurd H (by simp)
                · rw [if_neg c13] at H
                  exact absurd H (by simp)
        · rw [if_neg c7] at H
          have c7b0 : decide (x7_1 < (l0.length : Int)) = false := decide_eq_false c7
          clear c7
          replace H := Option.bind_eq_some_iff.mp H
          obtain ⟨t410, A290, H⟩ := H
          replace H : (eddylaw1_FrameTorn.l1 k1 l0 x5_1 x6_1 t410 0 0 l2) = some r := H
          have A29 := Aside0.mk A290
          clear A290
          have HC30 := Aside0.mk H
          clear H
          obtain ⟨Ao31, co31, eo31⟩ := Kd.R_slice HO_5.out
          subst eo31
          go_upto_block 2 with (first | ((with_reducible refine gate_callee (f := 35) rfl ?_); refine goesL_ (some 69) rfl rfl Tryd.func35 (by kernel_rfl) rfl #[.int .i64 a1, .int .i64 (wrap64 ((x5_1.length : Int) + 1))] rfl (by (try simp only [List.map_toArray, List.map_cons, List.map_nil]); first | done | rfl | (simp only [List.length_drop, List.length_take]; rfl)) ?_; (with_reducible refine (eddylaw1_place.calls a1 (wrap64 ((x5_1.length : Int) + 1)) t410 _ A29.out).mono ?_); rintro e w' ⟨rfl, ⟨nd, rfl⟩⟩; refine ⟨_, rfl, ?_⟩))
          (try simp only [Act.put, List.setIfInBounds_toArray, List.set_cons_zero, List.set_cons_succ])
          go_cut [11, 12] (fun v11 v12 wc => ∃ (kq : Nat) (x11_29 : Int) (x12_29 : Int), v11 = .int .i64 x11_29 ∧ v12 = .int .i64 x12_29 ∧ Aside0 (eddylaw1_FrameTorn.j3 kq l0 x5_1 t410 x11_29 x12_29 l2 = some r) ∧ Aside0 (kq ≤ k1) ∧ Aside0 (Kd.R (Kd.int .u8) 5 wc w.heap.size (fun _ => True) (.slice Ao31 x5_1.length co31) x5_1) ∧ Aside0 (Below w.heap.size w wc))
          case first =>
            have H := HC30.out
            clear HC30
            have H' := Aside0.mk H
            clear H
            go_wp2
            go_loopg [11, 12] k1 (fun kq v11 v12 w' => ∃ (x11_2 : Int) (x12_2 : Int), v11 = .int .i64 x11_2 ∧ v12 = .int .i64 x12_2 ∧ Aside0 (eddylaw1_FrameTorn.l1 kq l0 x5_1 x6_1 t410 x11_2 x12_2 l2 = some r) ∧ Aside0 (kq ≤ k1) ∧ Aside0 (Kd.R (Kd.int .u8) 5 w' w.heap.size (fun _ => True) (.slice Ao31 x5_1.length co31) x5_1) ∧ Aside0 (Kd.R (Kd.int .i64) 3 w' w.heap.size (fun _ => True) u6 x6_1) ∧ Aside0 (Below w.heap.size w w'))
            case atStart => exact ⟨(0), (0), (by first | rfl | (simp; done) | (simp [*]; done)), (by first | rfl | (simp; done) | (simp [*]; done)), H', ⟨Nat.le_refl _⟩, ⟨by (with_reducible repeat (first | apply Kd.R_alloc | apply Kd.R_drewN | apply Kd.R_drew)); exact HO_5.out⟩, ⟨by (with_reducible repeat (first | apply Kd.R_alloc | apply Kd.R_drewN | apply Kd.R_drew)); exact HO_6.out⟩, ⟨by repeat (first | (with_reducible first | exact HB.out | apply below_alloc | apply pw_below_drewN | apply below_drew1) | exact HB.out)⟩⟩
            case round =>
              clear H'
              try clear c1
              try clear c2
              try clear p2
              try clear c3
              try clear p3
              try clear q3
              try clear hx3
              try clear c4
              try clear p4
              try clear q4
              try clear hx4
              try clear c5
              try clear p6
              try clear c7
              try clear c7b0
              try clear c9
              try clear c9b0
              try clear c10
              try clear c10b0
              try clear c10b1
              try clear c12
              try clear c13
              try clear c13b0
              try clear c14
              try clear c14b0
              try clear c17
              try clear c17b0
              try clear c17b1
              try clear c18
              try clear c18b0
              try clear c18b1
              try clear c19
              try clear c20
              try clear c23
              try clear c24
              try clear c30
              try clear hx396_0
              try clear hx397_0
              try clear hx403_0
              try clear p2
              try clear p3
              try clear p396
              try clear p397
              try clear p403
              try clear q3
              try clear q396
              try clear q397
              try clear q403
              obtain ⟨x11_2, x12_2, rfl, rfl, HA, HK2, HO_5, HO_6, HB⟩ := hrel
              cases gk with
              | zero => exact absurd HA.out (by simp [eddylaw1_FrameTorn.l1])
              | succ k2 =>
                have H := HA.out
                clear HA
                simp only [eddylaw1_FrameTorn.l1] at H
                by_cases c32 : x11_2 < (x6_1.length : Int)
                · rw [if_pos c32] at H
                  have c32b0 : decide (x11_2 < (x6_1.length : Int)) = true := decide_eq_true c32
                  clear c32
                  (first | rw [c32b0] | (simp only [i64_w, i32_w]; rw [c32b0]) | skip)
                  by_cases c33 : 0 ≤ x11_2
                  · rw [if_pos c33] at H
                    have c33b0 : decide (0 ≤ x11_2) = true := decide_eq_true c33
                    clear c33
                    by_cases c34 : (rd x6_1 x11_2) ≤ t410
                    · rw [if_pos c34] at H
                      have c34b0 : decide ((rd x6_1 x11_2) ≤ t410) = true := decide_eq_true c34
                      clear c34
                      have H' := Aside0.mk H
                      clear H
                      obtain ⟨Ao35, co35, eo35⟩ := Kd.R_slice HO_6.out
                      subst eo35
                      have p411 : 0 ≤ (x11_2 : Int) := of_decide_eq_true (by first | (with_reducible assumption) | assumption)
                      have q411 : x11_2 < (x6_1.length : Int) := of_decide_eq_true (by first | (with_reducible assumption) | assumption)
                      obtain ⟨ad411, e411, hx411_0⟩ := Kd.at_int (Kd.R_reads' HO_6.out).2.2 x11_2 p411 q411
                      cases e411
                      replace p411 := eq_true p411
                      replace q411 := eq_true q411
                      have p412 : 0 ≤ (x11_2 : Int) := of_decide_eq_true (by first | (with_reducible assumption) | assumption)
                      have q412 : x11_2 < (x6_1.length : Int) := of_decide_eq_true (by first | (with_reducible assumption) | assumption)
                      obtain ⟨ad412, e412, hx412_0⟩ := Kd.at_int (Kd.R_reads' HO_6.out).2.2 x11_2 p412 q412
                      obtain rfl : ad411 = ad412 := (by injection e412)
                      replace p412 := eq_true p412
                      replace q412 := eq_true q412
                      go_wp2
                      go_roundg k2
                      case measure => have := HK1.out; have := HK2.out; omega
                      case rel => exact ⟨(wrap64 (x11_2 + 1)), (rd x6_1 x11_2), (by first | rfl | (simp; done) | (simp [*]; done)), (by first | rfl | (simp; done) | (simp [*]; done)), H', ⟨by have := HK1.out; have := HK2.out; omega⟩, ⟨by (with_reducible repeat (first | apply Kd.R_alloc | apply Kd.R_drewN | apply Kd.R_drew)); exact HO_5.out⟩, ⟨by (with_reducible repeat (first | apply Kd.R_alloc | apply Kd.R_drewN | apply Kd.R_drew)); exact HO_6.out⟩, ⟨by repeat (first | (with_reducible first | exact HB.out | apply below_alloc | apply pw_below_drewN | apply below_drew1) | exact HB.out)⟩⟩
                    · rw [if_neg c34] at H
                      have c34b0 : decide ((rd x6_1 x11_2) ≤ t410) = false := decide_eq_false c34
                      clear c34
                      have H' := Aside0.mk H
                      clear H
                      obtain ⟨Ao36, co36, eo36⟩ := Kd.R_slice HO_6.out
                      subst eo36
                      have p411 : 0 ≤ (x11_2 : Int) := of_decide_eq_true (by first | (with_reducible assumption) | assumption)
                      have q411 : x11_2 < (x6_1.length : Int) := of_decide_eq_true (by first | (with_reducible assumption) | assumption)
                      obtain ⟨ad411, e411, hx411_0⟩ := Kd.at_int (Kd.R_reads' HO_6.out).2.2 x11_2 p411 q411
                      cases e411
                      replace p411 := eq_true p411
                      replace q411 := eq_true q411
                      go_wp2
                      go_meet
                      case rel => exact ⟨_, (x11_2), (x12_2), (by first | rfl | (simp; done) | (simp [*]; done)), (by first | rfl | (simp; done) | (simp [*]; done)), H', ⟨by have := HK1.out; have := HK2.out; first | omega | exact Nat.le_refl _⟩, ⟨by (with_reducible repeat (first | apply Kd.R_alloc | apply Kd.R_drewN | apply Kd.R_drew)); exact HO_5.out⟩, ⟨by repeat (first | (with_reducible first | exact HB.out | apply below_alloc | apply pw_below_drewN | apply below_drew1) | exact HB.out)⟩⟩
                  · rw [if_neg c33] at H
                    exact absurd H (by simp)
                · rw [if_neg c32] at H
                  have c32b0 : decide (x11_2 < (x6_1.length : Int)) = false := decide_eq_false c32
                  clear c32
                  (first | rw [c32b0] | (simp only [i64_w, i32_w]; rw [c32b0]) | skip)
                  have H' := Aside0.mk H
                  clear H
                  obtain ⟨Ao37, co37, eo37⟩ := Kd.R_slice HO_6.out
                  subst eo37
                  go_wp2
                  go_meet
                  case rel => exact ⟨_, (x11_2), (x12_2), (by first | rfl | (simp; done) | (simp [*]; done)), (by first | rfl | (simp; done) | (simp [*]; done)), H', ⟨by have := HK1.out; have := HK2.out; first | omega | exact Nat.le_refl _⟩, ⟨by (with_reducible repeat (first | apply Kd.R_alloc | apply Kd.R_drewN | apply Kd.R_drew)); exact HO_5.out⟩, ⟨by repeat (first | (with_reducible first | exact HB.out | apply below_alloc | apply pw_below_drewN | apply below_drew1) | exact HB.out)⟩⟩
          case rest =>
            clear HC30
            try clear c1
            try clear c2
            try clear p2
            try clear c3
            try clear p3
            try clear q3
            try clear hx3
            try clear c4
            try clear p4
            try clear q4
            try clear hx4
            try clear c5
            try clear p6
            try clear c7
            try clear c7b0
            try clear c9
            try clear c9b0
            try clear c10
            try clear c10b0
            try clear c10b1
            try clear c12
            try clear c13
            try clear c13b0
            try clear c14
            try clear c14b0
            try clear c17
            try clear c17b0
            try clear c17b1
            try clear c18
            try clear c18b0
            try clear c18b1
            try clear c19
            try clear c20
            try clear c23
            try clear c24
            try clear c30
            try clear c32
            try clear c32b0
            try clear c33
            try clear c33b0
            try clear c34
            try clear c34b0
            try clear c35
            try clear hx396_0
            try clear hx397_0
            try clear hx403_0
            try clear hx411_0
            try clear hx412_0
            try clear p2
            try clear p3
            try clear p396
            try clear p397
            try clear p4
            try clear p403
            try clear p411
            try clear p412
            try clear p6
            try clear q3
            try clear q396
            try clear q397
            try clear q4
            try clear q403
            try clear q411
            try clear q412
            obtain ⟨kq, x11_29, x12_29, rfl, rfl, HA, HJ29, HO_5, HB⟩ := hcut
            cases kq with
            | zero => exact absurd HA.out (by simp [eddylaw1_FrameTorn.j3])
            | succ kj29 =>
              have H := HA.out
              clear HA
              simp only [eddylaw1_FrameTorn.j3] at H
              by_cases c38 : 0 ≤ t410
              · rw [if_pos c38] at H
                have c38b0 := eq_true c38
                have c38b1 : decide (0 ≤ t410) = true := decide_eq_true c38
                clear c38
                by_cases c39 : t410 ≤ (x5_1.length : Int)
                · rw [if_pos c39] at H
                  have c39b0 := eq_true c39
                  have c39b1 : decide (t410 ≤ (x5_1.length : Int)) = true := decide_eq_true c39
                  clear c39
                  obtain ⟨y413, hy413⟩ : ∃ y_ : List Int, y_ = (x5_1.take (t410 : Int).toNat) := ⟨_, rfl⟩
                  replace H : ((frame_Scan.f kj29 y413 l2).bind fun bt417 => (if 0 ≤ x11_29 then (if x11_29 ≤ (l0.length : Int) then ((eddylaw1_alike.f kj29 bt417.1 (l0.take (x11_29 : Int).toNat)).bind fun t426 => (if t426 = true then (eddylaw1_FrameTorn.j4 kj29 t410 x12_29 bt417.2.2 (bt417.2.1 != x12_29)) else (eddylaw1_FrameTorn.j4 kj29 t410 x12_29 bt417.2.2 true))) else (none)) else (none))) = some r := by first | (rw [hy413]; with_reducible exact H) | (have H2_ := (Option.bind_some _ _).symm.trans H; rw [hy413]; with_reducible exact H2_) | (have H2_ := (Option.bind_some _ _).symm.trans H; with_reducible exact H2_) | with_reducible exact H | (rw [hy413]; exact H) | exact H
                  have Ny413 := Aside0.mk hy413
                  clear hy413
                  replace H := Option.bind_eq_some_iff.mp H
                  obtain ⟨⟨t417, t418, t419⟩, A400, H⟩ := H
                  replace H : (if 0 ≤ x11_29 then (if x11_29 ≤ (l0.length : Int) then ((eddylaw1_alike.f kj29 t417 (l0.take (x11_29 : Int).toNat)).bind fun t426 => (if t426 = true then (eddylaw1_FrameTorn.j4 kj29 t410 x12_29 t419 (t418 != x12_29)) else (eddylaw1_FrameTorn.j4 kj29 t410 x12_29 t419 true))) else (none)) else (none)) = some r := H
                  have A40 := Aside0.mk A400
                  clear A400
                  have HC41 := Aside0.mk H
                  clear H
                  have q42 : (t410 : Int) ≤ ((x5_1.length : Int) : Int) := of_decide_eq_true (by first | (with_reducible assumption) | assumption)
                  obtain ⟨i042, hi042, _, hsz42, _⟩ := info_parts info5
                  have hroom42 : x5_1.length ≤ co31 := (Kd.R_reads' HO_5.out).2.1
                  have hC42 : Kd.C (Kd.int .u8) _ Ao31 x5_1.length x5_1 := (Kd.R_reads' HO_5.out).2.2
                  have hcut42 := cut_to (P := Tryd.prog) 23 5 .i64 Tryd.underlying23 hi042 Ao31 x5_1.length co31 t410 (of_decide_eq_true (by first | (with_reducible assumption) | assumption)) q42 hroom42
                  have hr42 := Kd.C_take (m := (t410 : Int).toNat) hC42 (by omega)
                  have hy42 : y413.length = (t410 : Int).toNat := (by rw [Ny413.out, List.length_take]; omega)
                  rw [← Ny413.out] at hr42
                  rw [← hy42] at hcut42
                  have HR416 := Aside0.mk hr42
                  have HC416 := Aside0.mk (show y413.length ≤ co31 from by omega)
                  clear hr42 hC42 hroom42 hi042 hsz42
                  have KY42 := Aside0.mk hy42
                  clear hy42
                  have KL42 := Aside0.mk (show (t410 : Int).toNat ≤ x5_1.length from by omega)
                  replace q42 := eq_true q42
                  go_upto_region 22 with (first | ((with_reducible refine gate_callee (f := 32) rfl ?_); refine goesL_ (some 92) rfl rfl Tryd.func32 (by kernel_rfl) rfl #[.slice Ao31 y413.length co31] rfl (by (try simp only [List.map_toArray, List.map_cons, List.map_nil]); first | done | rfl | (simp only [List.length_drop, List.length_take]; rfl)) ?_; (with_reducible refine (frame_Scan.calls kj29 _ _ y413 A2 c2 l2 t417 t418 t419 _ ?side1 ?side2 ?side3 ?side4 A40.out).mono ?_); (case side1 => repeat (first | exact (by repeat (first | (with_reducible exact HR416.out) | (with_reducible refine Kd.C_alloc ?_ _) | (with_reducible refine Kd.C_drewN ?_ _) | (with_reducible refine Kd.C_drew ?_) | exact HR416.out)) | (with_reducible refine Kd.C_alloc ?_ _) | (with_reducible refine Kd.C_drewN ?_ _) | (with_reducible refine Kd.C_drew ?_))); (case side2 => exact HC416.out); (case side3 => repeat (first | exact (Kd.C_below HR2.out HB.out) | (with_reducible refine Kd.C_alloc ?_ _) | (with_reducible refine Kd.C_drewN ?_ _) | (with_reducible refine Kd.C_drew ?_))); (case side4 => exact HC2.out); rintro e w43 ⟨v420, rfl, ho0, hb⟩; refine ⟨_, rfl, ?_⟩; have n0_ := Aside0.mk (Kd.R_below (by (with_reducible repeat (first | apply Kd.R_alloc | apply Kd.R_drewN | apply Kd.R_drew)); exact HO_5.out) hb); have n1_ := Aside0.mk (Kd.S_lower (Kd.S_new' ho0 (Kd.R_lt (by (with_reducible repeat (first | apply Kd.R_alloc | apply Kd.R_drewN | apply Kd.R_drew)); exact HO_5.out))) (below_size (by repeat (first | (with_reducible first | exact HB.out | apply below_alloc | apply pw_below_drewN | apply below_drew1) | exact HB.out)))); have n2_ := Aside0.mk (Kd.C_below (by repeat (first | (with_reducible exact HR416.out) | (with_reducible refine Kd.C_alloc ?_ _) | (with_reducible refine Kd.C_drewN ?_ _) | (with_reducible refine Kd.C_drew ?_) | exact HR416.out)) hb); have n3_ := Aside0.mk (below_step (by repeat (first | (with_reducible first | exact HB.out | apply below_alloc | apply pw_below_drewN | apply below_drew1) | exact HB.out)) hb); clear HO_5; clear HR416; clear HB; have HO_5 := n0_; have HO421 := n1_; have HR416 := n2_; have HB := n3_; clear n0_ n1_ n2_ n3_; (try clear hb); (try clear hb2); (try clear hk); (try clear hi); (try clear ho0)))
                  (try simp only [Act.put, List.setIfInBounds_toArray, List.set_cons_zero, List.set_cons_succ])
                  go_cut [106] (fun v106 wc => ∃ (kq : Nat) (x106_40 : Bool), v106 = .bool x106_40 ∧ Aside0 (eddylaw1_FrameTorn.j4 kq t410 x12_29 t419 x106_40 = some r) ∧ Aside0 (kq ≤ kj29) ∧ Aside0 (Kd.C (Kd.int .u8) wc Ao31 y413.length y413) ∧ Aside0 (Below w.heap.size w wc))
                  case first =>
                    have H := HC41.out
                    clear HC41
                    by_cases c44 : 0 ≤ x11_29
                    · rw [if_pos c44] at H
                      have c44b0 := eq_true c44
                      have c44b1 : decide (0 ≤ x11_29) = true := decide_eq_true c44
                      clear c44
                      by_cases c45 : x11_29 ≤ (l0.length : Int)
                      · rw [if_pos c45] at H
                        have c45b0 := eq_true c45
                        have c45b1 : decide (x11_29 ≤ (l0.length : Int)) = true := decide_eq_true c45
                        clear c45
                        obtain ⟨y422, hy422⟩ : ∃ y_ : List (List Int), y_ = (l0.take (x11_29 : Int).toNat) := ⟨_, rfl⟩
                        replace H : ((eddylaw1_alike.f kj29 t417 y422).bind fun t426 => (if t426 = true then (eddylaw1_FrameTorn.j4 kj29 t410 x12_29 t419 (t418 != x12_29)) else (eddylaw1_FrameTorn.j4 kj29 t410 x12_29 t419 true))) = some r := by first | (rw [hy422]; with_reducible exact H) | (have H2_ := (Option.bind_some _ _).symm.trans H; rw [hy422]; with_reducible exact H2_) | (have H2_ := (Option.bind_some _ _).symm.trans H; with_reducible exact H2_) | with_reducible exact H | (rw [hy422]; exact H) | exact H
                        have Ny422 := Aside0.mk hy422
                        clear hy422
                        replace H := Option.bind_eq_some_iff.mp H
                        obtain ⟨t426, A460, H⟩ := H
                        replace H : (if t426 = true then (eddylaw1_FrameTorn.j4 kj29 t410 x12_29 t419 (t418 != x12_29)) else (eddylaw1_FrameTorn.j4 kj29 t410 x12_29 t419 true)) = some r := H
                        have A46 := Aside0.mk A460
                        clear A460
                        by_cases c47 : t426 = true
                        · subst c47
                          have H1 : (eddylaw1_FrameTorn.j4 kj29 t410 x12_29 t419 (t418 != x12_29)) = some r := by rw [if_pos rfl] at H; exact H
                          clear H
                          have H := H1
                          clear H1
                          have H' := Aside0.mk H
                          clear H
                          have q48 : (x11_29 : Int) ≤ ((l0.length : Int) : Int) := of_decide_eq_true (by first | (with_reducible assumption) | assumption)
                          obtain ⟨i048, hi048, _, hsz48, _⟩ := info_parts info23
                          have hroom48 : l0.length ≤ c0 := HC0.out
                          have hC48 : Kd.C (Kd.slice 5 (Kd.int .u8)) _ A0 l0.length l0 := HR0.out
                          have hcut48 := cut_to (P := Tryd.prog) 41 23 .i64 Tryd.underlying41 hi048 A0 l0.length c0 x11_29 (of_decide_eq_true (by first | (with_reducible assumption) | assumption)) q48 hroom48
                          have hr48 := Kd.C_take (m := (x11_29 : Int).toNat) hC48 (by omega)
                          have hy48 : y422.length = (x11_29 : Int).toNat := (by rw [Ny422.out, List.length_take]; omega)
                          rw [← Ny422.out] at hr48
                          rw [← hy48] at hcut48
                          have HR425 := Aside0.mk hr48
                          have HC425 := Aside0.mk (show y422.length ≤ c0 from by omega)
                          clear hr48 hC48 hroom48 hi048 hsz48
                          have KY48 := Aside0.mk hy48
                          clear hy48
                          replace q48 := eq_true q48
                          obtain ⟨Ao49, co49, eo49⟩ := Kd.S_slice HO421.out
                          subst eo49
                          go_wp2_with (first | ((with_reducible refine gate_callee (f := 33) rfl ?_); refine goesL_ (some 100) rfl rfl Tryd.func33 (by kernel_rfl) rfl #[.slice Ao49 t417.length co49, .slice A0 y422.length c0] rfl (by (try simp only [List.map_toArray, List.map_cons, List.map_nil]); first | done | rfl | (simp only [List.length_drop, List.length_take]; rfl)) ?_; (with_reducible refine (eddylaw1_alike.calls kj29 _ _ t417 _ _ y422 true _ ?side1 ?side2 ?side3 ?side4 A46.out).mono ?_); (case side1 => repeat (first | exact (Kd.S_reads' HO421.out).2.2 | (with_reducible refine Kd.C_alloc ?_ _) | (with_reducible refine Kd.C_drewN ?_ _) | (with_reducible refine Kd.C_drew ?_))); (case side2 => exact (Kd.S_reads' HO421.out).2.1); (case side3 => repeat (first | exact (Kd.C_below HR425.out HB.out) | (with_reducible refine Kd.C_alloc ?_ _) | (with_reducible refine Kd.C_drewN ?_ _) | (with_reducible refine Kd.C_drew ?_))); (case side4 => exact HC425.out); rintro e w' ⟨rfl, ⟨nd, rfl⟩⟩; refine ⟨_, rfl, ?_⟩))
                          go_meet
                          case rel => exact ⟨_, ((t418 != x12_29)), (by first | rfl | (simp; done) | (simp [*]; done)), H', ⟨by have := HK1.out; have := HJ29.out; first | omega | exact Nat.le_refl _⟩, ⟨by repeat (first | (with_reducible exact HR416.out) | (with_reducible refine Kd.C_alloc ?_ _) | (with_reducible refine Kd.C_drewN ?_ _) | (with_reducible refine Kd.C_drew ?_) | exact HR416.out)⟩, ⟨by repeat (first | (with_reducible first | exact HB.out | apply below_alloc | apply pw_below_drewN | apply below_drew1) | exact HB.out)⟩⟩
                        · replace c47 := Bool.eq_false_iff.mpr c47
                          subst c47
                          have H1 : (eddylaw1_FrameTorn.j4 kj29 t410 x12_29 t419 true) = some r := by rw [if_neg (show ¬ (false = true) by decide)] at H; exact H
                          clear H
                          have H := H1
                          clear H1
                          have H' := Aside0.mk H
                          clear H
                          have q50 : (x11_29 : Int) ≤ ((l0.length : Int) : Int) := of_decide_eq_true (by first | (with_reducible assumption) | assumption)
                          obtain ⟨i050, hi050, _, hsz50, _⟩ := info_parts info23
                          have hroom50 : l0.length ≤ c0 := HC0.out
                          have hC50 : Kd.C (Kd.slice 5 (Kd.int .u8)) _ A0 l0.length l0 := HR0.out
                          have hcut50 := cut_to (P := Tryd.prog) 41 23 .i64 Tryd.underlying41 hi050 A0 l0.length c0 x11_29 (of_decide_eq_true (by first | (with_reducible assumption) | assumption)) q50 hroom50
                          have hr50 := Kd.C_take (m := (x11_29 : Int).toNat) hC50 (by omega)
                          have hy50 : y422.length = (x11_29 : Int).toNat := (by rw [Ny422.out, List.length_take]; omega)
                          rw [← Ny422.out] at hr50
                          rw [← hy50] at hcut50
                          have HR425 := Aside0.mk hr50
                          have HC425 := Aside0.mk (show y422.length ≤ c0 from by omega)
                          clear hr50 hC50 hroom50 hi050 hsz50
                          have KY50 := Aside0.mk hy50
                          clear hy50
                          replace q50 := eq_true q50
                          obtain ⟨Ao51, co51, eo51⟩ := Kd.S_slice HO421.out
                          subst eo51
                          go_wp2_with (first | ((with_reducible refine gate_callee (f := 33) rfl ?_); refine goesL_ (some 100) rfl rfl Tryd.func33 (by kernel_rfl) rfl #[.slice Ao51 t417.length co51, .slice A0 y422.length c0] rfl (by (try simp only [List.map_toArray, List.map_cons, List.map_nil]); first | done | rfl | (simp only [List.length_drop, List.length_take]; rfl)) ?_; (with_reducible refine (eddylaw1_alike.calls kj29 _ _ t417 _ _ y422 false _ ?side1 ?side2 ?side3 ?side4 A46.out).mono ?_); (case side1 => repeat (first | exact (Kd.S_reads' HO421.out).2.2 | (with_reducible refine Kd.C_alloc ?_ _) | (with_reducible refine Kd.C_drewN ?_ _) | (with_reducible refine Kd.C_drew ?_))); (case side2 => exact (Kd.S_reads' HO421.out).2.1); (case side3 => repeat (first | exact (Kd.C_below HR425.out HB.out) | (with_reducible refine Kd.C_alloc ?_ _) | (with_reducible refine Kd.C_drewN ?_ _) | (with_reducible refine Kd.C_drew ?_))); (case side4 => exact HC425.out); rintro e w' ⟨rfl, ⟨nd, rfl⟩⟩; refine ⟨_, rfl, ?_⟩))
                          go_meet
                          case rel => exact ⟨_, (true), (by first | rfl | (simp; done) | (simp [*]; done)), H', ⟨by have := HK1.out; have := HJ29.out; first | omega | exact Nat.le_refl _⟩, ⟨by repeat (first | (with_reducible exact HR416.out) | (with_reducible refine Kd.C_alloc ?_ _) | (with_reducible refine Kd.C_drewN ?_ _) | (with_reducible refine Kd.C_drew ?_) | exact HR416.out)⟩, ⟨by repeat (first | (with_reducible first | exact HB.out | apply below_alloc | apply pw_below_drewN | apply below_drew1) | exact HB.out)⟩⟩
                      · rw [if_neg c45] at H
                        exact absurd H (by simp)
                    · rw [if_neg c44] at H
                      exact absurd H (by simp)
                  case rest =>
                    clear HC41
                    try clear c1
                    try clear c2
                    try clear p2
                    try clear c3
                    try clear p3
                    try clear q3
                    try clear hx3
                    try clear c4
                    try clear p4
                    try clear q4
                    try clear hx4
                    try clear c5
                    try clear q5
                    try clear p6
                    try clear c7
                    try clear c7b0
                    try clear c9
                    try clear c9b0
                    try clear c10
                    try clear c10b0
                    try clear c10b1
                    try clear c12
                    try clear c13
                    try clear c13b0
                    try clear c14
                    try clear c14b0
                    try clear c17
                    try clear c17b0
                    try clear c17b1
                    try clear c18
                    try clear c18b0
                    try clear c18b1
                    try clear c19
                    try clear c20
                    try clear c23
                    try clear c24
                    try clear c30
                    try clear c32
                    try clear c32b0
                    try clear c33
                    try clear c33b0
                    try clear c34
                    try clear c34b0
                    try clear c35
                    try clear c38
                    try clear c38b0
                    try clear c38b1
                    try clear c39
                    try clear c39b0
                    try clear c39b1
                    try clear p39
                    try clear q39
                    try clear hx39
                    try clear c40
                    try clear p40
                    try clear q40
                    try clear hx40
                    try clear p41
                    try clear q41
                    try clear hx41
                    try clear q42
                    try clear c44
                    try clear c44b0
                    try clear c44b1
                    try clear c45
                    try clear c45b0
                    try clear c45b1
                    try clear c47
                    try clear q48
                    try clear q50
                    try clear hx396_0
                    try clear hx397_0
                    try clear hx403_0
                    try clear hx411_0
                    try clear hx412_0
                    try clear p2
                    try clear p3
                    try clear p396
                    try clear p397
                    try clear p4
                    try clear p403
                    try clear p411
                    try clear p412
                    try clear p6
                    try clear q3
                    try clear q396
                    try clear q397
                    try clear q4
                    try clear q403
                    try clear q411
                    try clear q412
                    try clear q42
                    try clear q48
                    try clear q50
                    obtain ⟨kq, x106_40, rfl, HA, HJ40, HR416, HB⟩ := hcut
                    cases kq with
                    | zero => exact absurd HA.out (by simp [eddylaw1_FrameTorn.j4])
                    | succ kj40 =>
                      have H := HA.out
                      clear HA
                      simp only [eddylaw1_FrameTorn.j4] at H
                      by_cases c52 : x106_40 = true
                      · subst c52
                        have H1 : (some false) = some r := by rw [if_pos rfl] at H; exact H
                        clear H
                        have H := H1
                        clear H1
                        obtain rfl := Option.some.inj H
                        go_wp2
                        go_ret
                        exact ⟨by first | rfl | (simp [errW_none, errW_some] <;> rfl) | (simp [*, errW_none, errW_some] <;> rfl), by repeat (first | (with_reducible first | exact HB.out | apply below_alloc | apply pw_below_drewN | apply below_drew1) | exact HB.out)⟩
                      · replace c52 := Bool.eq_false_iff.mpr c52
                        subst c52
                        have H1 : (if t410 = x12_29 then ((eddylaw1_num.f t419).bind fun t427 => (some (t427 == 0))) else ((eddylaw1_num.f t419).bind fun t428 => (some (t428 == 11)))) = some r := by rw [if_neg (show ¬ (false = true) by decide)] at H; exact H
                        clear H
                        have H := H1
                        clear H1
                        by_cases c53 : t410 = x12_29
                        · rw [if_pos c53] at H
                          have c53b0 : (t410 == x12_29) = true := beq_iff_eq.mpr c53
                          have c53b1 : (t410 != x12_29) = false := bne_eq_false_iff_eq.mpr c53
                          clear c53
                          replace H := Option.bind_eq_some_iff.mp H
                          obtain ⟨t427, A540, H⟩ := H
                          replace H : (some (t427 == 0)) = some r := H
                          have A54 := Aside0.mk A540
                          clear A540
                          obtain rfl := Option.some.inj H
                          go_wp2_with (first | ((with_reducible refine gate_callee (f := 24) rfl ?_); refine goesL_ (some 111) rfl rfl Tryd.func24 (by kernel_rfl) rfl #[.int .i64 t419] rfl (by (try simp only [List.map_toArray, List.map_cons, List.map_nil]); first | done | rfl | (simp only [List.length_drop, List.length_take]; rfl)) ?_; (with_reducible refine (eddylaw1_num.calls t419 t427 _ A54.out).mono ?_); rintro e w' ⟨rfl, ⟨nd, rfl⟩⟩; refine ⟨_, rfl, ?_⟩))
                          go_ret
                          exact ⟨by first | rfl | (simp [errW_none, errW_some] <;> rfl) | (simp [*, errW_none, errW_some] <;> rfl), by repeat (first | (with_reducible first | exact HB.out | apply below_alloc | apply pw_below_drewN | apply below_drew1) | exact HB.out)⟩
                        · rw [if_neg c53] at H
                          have c53b0 : (t410 == x12_29) = false := beq_eq_false_iff_ne.mpr c53
                          have c53b1 : (t410 != x12_29) = true := bne_iff_ne.mpr c53
                          replace H := Option.bind_eq_some_iff.mp H
                          obtain ⟨t428, A550, H⟩ := H
                          replace H : (some (t428 == 11)) = some r := H
                          have A55 := Aside0.mk A550
                          clear A550
                          obtain rfl := Option.some.inj H
                          go_wp2_with (first | ((with_reducible refine gate_callee (f := 24) rfl ?_); refine goesL_ (some 114) rfl rfl Tryd.func24 (by kernel_rfl) rfl #[.int .i64 t419] rfl (by (try simp only [List.map_toArray, List.map_cons, List.map_nil]); first | done | rfl | (simp only [List.length_drop, List.length_take]; rfl)) ?_; (with_reducible refine (eddylaw1_num.calls t419 t428 _ A55.out).mono ?_); rintro e w' ⟨rfl, ⟨nd, rfl⟩⟩; refine ⟨_, rfl, ?_⟩))
                          go_ret
                          exact ⟨by first | rfl | (simp [errW_none, errW_some] <;> rfl) | (simp [*, errW_none, errW_some] <;> rfl), by repeat (first | (with_reducible first | exact HB.out | apply below_alloc | apply pw_below_drewN | apply below_drew1) | exact HB.out)⟩
                · rw [if_neg c39] at H
                  exact absurd H (by simp)
              · rw [if_neg c38] at H
                exact absurd H (by simp)
  · replace c5 := Bool.eq_false_iff.mpr c5
    subst c5
    have H1 : (some false) = some r := by rw [if_neg (show ¬ (false = true) by decide)] at H; exact H
    clear H
    have H := H1
    clear H1
    obtain rfl := Option.some.inj H
    go_enter Tryd.func14, Tryd.ntmps14
    go_wp2_with (first | ((with_reducible refine gate_callee (f := 30) rfl ?_); refine goesL_ (some 16) rfl rfl Tryd.func30 (by kernel_rfl) rfl #[] rfl (by (try simp only [List.map_toArray, List.map_cons, List.map_nil]); first | done | rfl | (simp only [List.length_drop, List.length_take]; rfl)) ?_; (with_reducible refine (eddylaw1_unwraps.calls A2 c2 l2 false _ ?side1 ?side2 A4.out).mono ?_); (case side1 => repeat (first | exact HR2.out | (with_reducible refine Kd.C_alloc ?_ _) | (with_reducible refine Kd.C_drewN ?_ _) | (with_reducible refine Kd.C_drew ?_))); (case side2 => exact HC2.out); rintro e w56 ⟨rfl, hb⟩; refine ⟨_, rfl, ?_⟩; have n0_ := Aside0.mk (below_step (by repeat (first | (with_reducible first | exact HB.out | apply below_alloc | apply pw_below_drewN | apply below_drew1) | exact HB.out)) hb); clear HB; have HB := n0_; clear n0_; (try clear hb); (try clear hb2); (try clear hk); (try clear hi)))
    go_ret
    exact ⟨by first | rfl | (simp [errW_none, errW_some] <;> rfl) | (simp [*, errW_none, errW_some] <;> rfl), by repeat (first | (with_reducible first | exact HB.out | apply below_alloc | apply pw_below_drewN | apply below_drew1) | exact HB.out)⟩

end Go.Proofs.YtgfinjhhkmflfaaDoor.PF
