/- What each Go function named in this text computes, as a Lean function, and that the Go code comes to it; conditions: those in each theorem. (Lines written by this session's program.) -/
import Derived.Test.YtgfinjhhkmflfaaDoorPFx0
import Derived.Test.YtgfinjhhkmflfaaDoorPFx2
import Derived.Test.YtgfinjhhkmflfaaDoorPFx5
import Derived.Test.YtgfinjhhkmflfaaDoorPFx7
namespace Go.Proofs.YtgfinjhhkmflfaaDoor.PF
open Go.RowKit Go.Proofs.YtgfinjhhkmflfaaDoorW.PrintWords Go.Proofs.YtgfinjhhkmflfaaDoorW.PrintLast Go.Proofs.YtgfinjhhkmflfaaDoorW.PrintMore
attribute [local go_sem] max2_int min2_int max_two min_two max_three min_three max_four min_four   -- for this text's walks alone
set_option linter.unusedVariables false
set_option linter.unusedSimpArgs false

/-! ### eddylaw1_FrameJoin: function 9 -/
mutual
def eddylaw1_FrameJoin.l0 : Nat → List (List Int) → List Int → Int → List (Int) → Option (Bool)
  | 0, _, _, _, _ => none
  | k + 1, x0, x1, x5, x900 => if x5 < (x0.length : Int) then (if 0 ≤ x5 then (if ((rd_L2 x0 x5).length : Int) > 32768 then (some true) else (if x5 > 64 then (some true) else (eddylaw1_FrameJoin.l0 k x0 x1 (wrap64 (x5 + 1)) x900))) else (none)) else ((eddylaw1_unwraps.f x900).bind fun t286 => (if t286 = true then ((eddyref1_Log.f k x0).bind fun t287 => ((frame_Scan.f k t287 x900).bind fun bt290 => ((eddylaw1_num.f bt290.2.2).bind fun t295 => (if t295 = 0 then (if bt290.2.1 = (t287.length : Int) then ((eddylaw1_alike.f k bt290.1 x0).bind fun t296 => (eddylaw1_FrameJoin.j1 k x1 t287 bt290.1 bt290.2.1 (!t296) x900)) else (eddylaw1_FrameJoin.j1 k x1 t287 bt290.1 bt290.2.1 true x900)) else (eddylaw1_FrameJoin.j1 k x1 t287 bt290.1 bt290.2.1 true x900))))) else (some false)))
def eddylaw1_FrameJoin.j1 : Nat → List Int → List Int → List (List Int) → Int → Bool → List (Int) → Option (Bool)
  | 0, _, _, _, _, _, _ => none
  | k + 1, x1, x6, x7, x8, x59, x900 => if x59 = true then (some false) else ((frame_Scan.f k x1 x900).bind fun bt297 => ((eddylaw1_joined.f x6 x1).bind fun t302 => ((frame_Scan.f k t302 x900).bind fun bt305 => ((eddylaw1_num.f bt305.2.2).bind fun t310 => ((eddylaw1_num.f bt297.2.2).bind fun t311 => (if t310 = t311 then (if bt305.2.1 = (wrap64 (x8 + bt297.2.1)) then (eddylaw1_FrameJoin.j2 k x7 bt297.1 bt305.1 ((bt305.1.length : Int) != (wrap64 ((x7.length : Int) + (bt297.1.length : Int))))) else (eddylaw1_FrameJoin.j2 k x7 bt297.1 bt305.1 true)) else (eddylaw1_FrameJoin.j2 k x7 bt297.1 bt305.1 true)))))))
def eddylaw1_FrameJoin.j2 : Nat → List (List Int) → List (List Int) → List (List Int) → Bool → Option (Bool)
  | 0, _, _, _, _ => none
  | k + 1, x7, x10, x13, x95 => if x95 = true then (some false) else (if 0 ≤ (x7.length : Int) then (if (x7.length : Int) ≤ (x13.length : Int) then ((eddylaw1_alike.f k (x13.take ((x7.length : Int) : Int).toNat) x7).bind fun t316 => (if t316 = true then ((eddylaw1_alike.f k (x13.drop ((x7.length : Int) : Int).toNat) x10).bind fun t321 => (some t321)) else (some false))) else (none)) else (none))
end
def eddylaw1_FrameJoin.f (k : Nat) (l0 : List (List Int)) (l1 : List Int) (l2 : List (Int)) : Option (Bool) := if (l1.length : Int) > 131072 then (some true) else (eddylaw1_FrameJoin.l0 k l0 l1 0 l2)
theorem eddylaw1_FrameJoin.mono_l : ∀ k, (∀ y0 y1 y2 y3, LeO (eddylaw1_FrameJoin.l0 k y0 y1 y2 y3) (eddylaw1_FrameJoin.l0 (k + 1) y0 y1 y2 y3)) ∧ (∀ y0 y1 y2 y3 y4 y5, LeO (eddylaw1_FrameJoin.j1 k y0 y1 y2 y3 y4 y5) (eddylaw1_FrameJoin.j1 (k + 1) y0 y1 y2 y3 y4 y5)) ∧ (∀ y0 y1 y2 y3, LeO (eddylaw1_FrameJoin.j2 k y0 y1 y2 y3) (eddylaw1_FrameJoin.j2 (k + 1) y0 y1 y2 y3))
  | 0 => ⟨fun _ _ _ _ r h => by simp [eddylaw1_FrameJoin.l0] at h, fun _ _ _ _ _ _ r h => by simp [eddylaw1_FrameJoin.j1] at h, fun _ _ _ _ r h => by simp [eddylaw1_FrameJoin.j2] at h⟩
  | k + 1 => by
    obtain ⟨ih0, ih1, ih2⟩ := eddylaw1_FrameJoin.mono_l k
    refine ⟨?_, ?_, ?_⟩
    · intro y0 y1 y2 y3
      unfold eddylaw1_FrameJoin.l0
      repeat' first
      | (with_reducible exact ih0 _ _ _ _)
      | (with_reducible exact ih1 _ _ _ _ _ _)
      | (with_reducible exact ih2 _ _ _ _)
      | (with_reducible exact eddylaw1_alike.mono _ _ _)
      | (with_reducible exact eddyref1_Log.mono _ _)
      | (with_reducible exact frame_Scan.mono _ _ _)
      | (with_reducible exact LeO.refl _)
      | (with_reducible exact LeO.none _)
      | (with_reducible refine LeO.ite ?_ ?_)
      | (with_reducible refine LeO.bind ?_ (fun _ => ?_))
      | exact ih0 _ _ _ _
      | exact ih1 _ _ _ _ _ _
      | exact ih2 _ _ _ _
      | exact eddylaw1_alike.mono _ _ _
      | exact eddyref1_Log.mono _ _
      | exact frame_Scan.mono _ _ _
      | exact LeO.none _
      | refine LeO.ite ?_ ?_
      | refine LeO.bind ?_ (fun _ => ?_)
    · intro y0 y1 y2 y3 y4 y5
      unfold eddylaw1_FrameJoin.j1
      repeat' first
      | (with_reducible exact ih0 _ _ _ _)
      | (with_reducible exact ih1 _ _ _ _ _ _)
      | (with_reducible exact ih2 _ _ _ _)
      | (with_reducible exact eddylaw1_alike.mono _ _ _)
      | (with_reducible exact eddyref1_Log.mono _ _)
      | (with_reducible exact frame_Scan.mono _ _ _)
      | (with_reducible exact LeO.refl _)
      | (with_reducible exact LeO.none _)
      | (with_reducible refine LeO.ite ?_ ?_)
      | (with_reducible refine LeO.bind ?_ (fun _ => ?_))
      | exact ih0 _ _ _ _
      | exact ih1 _ _ _ _ _ _
      | exact ih2 _ _ _ _
      | exact eddylaw1_alike.mono _ _ _
      | exact eddyref1_Log.mono _ _
      | exact frame_Scan.mono _ _ _
      | exact LeO.none _
      | refine LeO.ite ?_ ?_
      | refine LeO.bind ?_ (fun _ => ?_)
    · intro y0 y1 y2 y3
      unfold eddylaw1_FrameJoin.j2
      repeat' first
      | (with_reducible exact ih0 _ _ _ _)
      | (with_reducible exact ih1 _ _ _ _ _ _)
      | (with_reducible exact ih2 _ _ _ _)
      | (with_reducible exact eddylaw1_alike.mono _ _ _)
      | (with_reducible exact eddyref1_Log.mono _ _)
      | (with_reducible exact frame_Scan.mono _ _ _)
      | (with_reducible exact LeO.refl _)
      | (with_reducible exact LeO.none _)
      | (with_reducible refine LeO.ite ?_ ?_)
      | (with_reducible refine LeO.bind ?_ (fun _ => ?_))
      | exact ih0 _ _ _ _
      | exact ih1 _ _ _ _ _ _
      | exact ih2 _ _ _ _
      | exact eddylaw1_alike.mono _ _ _
      | exact eddyref1_Log.mono _ _
      | exact frame_Scan.mono _ _ _
      | exact LeO.none _
      | refine LeO.ite ?_ ?_
      | refine LeO.bind ?_ (fun _ => ?_)
theorem eddylaw1_FrameJoin.mono : ∀ a0 a1 a2 k, LeO (eddylaw1_FrameJoin.f k a0 a1 a2) (eddylaw1_FrameJoin.f (k + 1) a0 a1 a2) := by
  intro a0 a1 a2 k
  obtain ⟨ih0, ih1, ih2⟩ := eddylaw1_FrameJoin.mono_l k
  unfold eddylaw1_FrameJoin.f
  repeat' first
      | (with_reducible exact ih0 _ _ _ _)
      | (with_reducible exact ih1 _ _ _ _ _ _)
      | (with_reducible exact ih2 _ _ _ _)
      | (with_reducible exact eddylaw1_alike.mono _ _ _)
      | (with_reducible exact eddyref1_Log.mono _ _)
      | (with_reducible exact frame_Scan.mono _ _ _)
      | (with_reducible exact LeO.refl _)
      | (with_reducible exact LeO.none _)
      | (with_reducible refine LeO.ite ?_ ?_)
      | (with_reducible refine LeO.bind ?_ (fun _ => ?_))
      | exact ih0 _ _ _ _
      | exact ih1 _ _ _ _ _ _
      | exact ih2 _ _ _ _
      | exact eddylaw1_alike.mono _ _ _
      | exact eddyref1_Log.mono _ _
      | exact frame_Scan.mono _ _ _
      | exact LeO.none _
      | refine LeO.ite ?_ ?_
      | refine LeO.bind ?_ (fun _ => ?_)
set_option maxHeartbeats 8000000 in
set_option maxRecDepth 100000 in
theorem eddylaw1_FrameJoin.calls (k : Nat) (A0 : Option Addr) (c0 : Nat) (l0 : List (List Int)) (A1 : Option Addr) (c1 : Nat) (l1 : List Int) (A2 : Option Addr) (c2 : Nat) (l2 : List (Int)) (r : Bool) (w : World) (hr0 : Kd.C (Kd.slice 5 (Kd.int .u8)) w A0 l0.length l0) (hc0 : l0.length ≤ c0) (hr1 : Kd.C (Kd.int .u8) w A1 l1.length l1) (hc1 : l1.length ≤ c1) (hr2 : Kd.C kTab w A2 l2.length l2) (hc2 : l2.length ≤ c2) (h : eddylaw1_FrameJoin.f k l0 l1 l2 = some r) :
    Calls Tryd.prog 9 #[.slice A0 l0.length c0, .slice A1 l1.length c1] w fun e w' => e = .returned (.bool r) ∧ Below w.heap.size w w' := by
  have HR0 := Aside0.mk hr0
  have HC0 := Aside0.mk hc0
  clear hr0 hc0
  have HR1 := Aside0.mk hr1
  have HC1 := Aside0.mk hc1
  clear hr1 hc1
  have HR2 := Aside0.mk hr2
  have HC2 := Aside0.mk hc2
  clear hr2 hc2
  have HB := Aside0.mk (Below.refl w.heap.size w)
  have H : (if (l1.length : Int) > 131072 then (some true) else (eddylaw1_FrameJoin.l0 k l0 l1 0 l2)) = some r := h
  clear h
  by_cases c4 : (l1.length : Int) > 131072
  · rw [if_pos c4] at H
    have c4b0 : decide (131072 < (l1.length : Int)) = true := decide_eq_true c4
    have c4b1 : decide (131072 < l1.length) = true := decide_eq_true (by omega)
    clear c4
    obtain rfl := Option.some.inj H
    go_enter Tryd.func9, Tryd.ntmps9
    go_wp2
    go_ret
    exact ⟨by first | rfl | (simp [errW_none, errW_some] <;> rfl) | (simp [*, errW_none, errW_some] <;> rfl), by repeat (first | (with_reducible first | exact HB.out | apply below_alloc | apply pw_below_drewN | apply below_drew1) | exact HB.out)⟩
  · rw [if_neg c4] at H
    have c4b0 : decide (131072 < (l1.length : Int)) = false := decide_eq_false c4
    have c4b1 : decide (131072 < l1.length) = false := decide_eq_false (by omega)
    clear c4
    have H' := Aside0.mk H
    clear H
    go_enter Tryd.func9, Tryd.ntmps9
    go_wp2
    go_loopg [5] k (fun kq v5 w' => ∃ (x5_1 : Int), v5 = .int .i64 x5_1 ∧ Aside0 (eddylaw1_FrameJoin.l0 kq l0 l1 x5_1 l2 = some r) ∧ Aside0 (kq ≤ k) ∧ Aside0 (Below w.heap.size w w'))
    case atStart => exact ⟨(0), (by first | rfl | (simp; done) | (simp [*]; done)), H', ⟨Nat.le_refl _⟩, ⟨by repeat (first | (with_reducible first | exact HB.out | apply below_alloc | apply pw_below_drewN | apply below_drew1) | exact HB.out)⟩⟩
    case round =>
      clear H'
      try clear c1
      try clear c2
      try clear p2
      try clear c4
      try clear c4b0
      try clear c4b1
      obtain ⟨x5_1, rfl, HA, HK1, HB⟩ := hrel
      cases gk with
      | zero => exact absurd HA.out (by simp [eddylaw1_FrameJoin.l0])
      | succ k1 =>
        have H := HA.out
        clear HA
        simp only [eddylaw1_FrameJoin.l0] at H
        by_cases c5 : x5_1 < (l0.length : Int)
        · rw [if_pos c5] at H
          have c5b0 : decide (x5_1 < (l0.length : Int)) = true := decide_eq_true c5
          clear c5
          by_cases c6 : 0 ≤ x5_1
          · rw [if_pos c6] at H
            have c6b0 : decide (0 ≤ x5_1) = true := decide_eq_true c6
            clear c6
            by_cases c7 : ((rd_L2 l0 x5_1).length : Int) > 32768
            · rw [if_pos c7] at H
              have c7b0 : decide (32768 < ((rd_L2 l0 x5_1).length : Int)) = true := decide_eq_true c7
              have c7b1 : decide (32768 < (rd_L2 l0 x5_1).length) = true := decide_eq_true (by omega)
              clear c7
              obtain rfl := Option.some.inj H
              have p285 : 0 ≤ (x5_1 : Int) := of_decide_eq_true (by first | (with_reducible assumption) | assumption)
              have q285 : x5_1 < (l0.length : Int) := of_decide_eq_true (by first | (with_reducible assumption) | assumption)
              obtain ⟨ad285, A285_0, c285_0, e285, hx285_0, hl285_0, hi285_0⟩ := at_L2 HR0.out x5_1 p285 q285
              cases e285
              replace hx285_0 := (HB.out.cell (World.block_lt_of_cell? w _ hx285_0)).trans hx285_0
              have HR285_0 := Aside0.mk hi285_0
              have HC285_0 := Aside0.mk hl285_0
              clear hi285_0 hl285_0
              replace p285 := eq_true p285
              replace q285 := eq_true q285
              go_wp2
              go_ret
              exact ⟨by first | rfl | (simp [errW_none, errW_some] <;> rfl) | (simp [*, errW_none, errW_some] <;> rfl), by repeat (first | (with_reducible first | exact HB.out | apply below_alloc | apply pw_below_drewN | apply below_drew1) | exact HB.out)⟩
            · rw [if_neg c7] at H
              have c7b0 : decide (32768 < ((rd_L2 l0 x5_1).length : Int)) = false := decide_eq_false c7
              have c7b1 : decide (32768 < (rd_L2 l0 x5_1).length) = false := decide_eq_false (by omega)
              clear c7
              by_cases c8 : x5_1 > 64
              · rw [if_pos c8] at H
                have c8b0 : decide (64 < x5_1) = true := decide_eq_true c8
                clear c8
                obtain rfl := Option.some.inj H
                have p285 : 0 ≤ (x5_1 : Int) := of_decide_eq_true (by first | (with_reducible assumption) | assumption)
                have q285 : x5_1 < (l0.length : Int) := of_decide_eq_true (by first | (with_reducible assumption) | assumption)
                obtain ⟨ad285, A285_0, c285_0, e285, hx285_0, hl285_0, hi285_0⟩ := at_L2 HR0.out x5_1 p285 q285
                cases e285
                replace hx285_0 := (HB.out.cell (World.block_lt_of_cell? w _ hx285_0)).trans hx285_0
                have HR285_0 := Aside0.mk hi285_0
                have HC285_0 := Aside0.mk hl285_0
                clear hi285_0 hl285_0
                replace p285 := eq_true p285
                replace q285 := eq_true q285
                go_wp2
                go_ret
                exact ⟨by first | rfl | (simp [errW_none, errW_some] <;> rfl) | (simp [*, errW_none, errW_some] <;> rfl), by repeat (first | (with_reducible first | exact HB.out | apply below_alloc | apply pw_below_drewN | apply below_drew1) | exact HB.out)⟩
              · rw [if_neg c8] at H
                have c8b0 : decide (64 < x5_1) = false := decide_eq_false c8
                clear c8
                have H' := Aside0.mk H
                clear H
                have p285 : 0 ≤ (x5_1 : Int) := of_decide_eq_true (by first | (with_reducible assumption) | assumption)
                have q285 : x5_1 < (l0.length : Int) := of_decide_eq_true (by first | (with_reducible assumption) | assumption)
                obtain ⟨ad285, A285_0, c285_0, e285, hx285_0, hl285_0, hi285_0⟩ := at_L2 HR0.out x5_1 p285 q285
                cases e285
                replace hx285_0 := (HB.out.cell (World.block_lt_of_cell? w _ hx285_0)).trans hx285_0
                have HR285_0 := Aside0.mk hi285_0
                have HC285_0 := Aside0.mk hl285_0
                clear hi285_0 hl285_0
                replace p285 := eq_true p285
                replace q285 := eq_true q285
                go_wp2
                go_roundg k1
                case measure => have := HK1.out; omega
                case rel => exact ⟨(wrap64 (x5_1 + 1)), (by first | rfl | (simp; done) | (simp [*]; done)), H', ⟨by have := HK1.out; omega⟩, ⟨by repeat (first | (with_reducible first | exact HB.out | apply below_alloc | apply pw_below_drewN | apply below_drew1) | exact HB.out)⟩⟩
          · rw [if_neg c6] at H
            exact absurd H (by simp)
        · rw [if_neg c5] at H
          have c5b0 : decide (x5_1 < (l0.length : Int)) = false := decide_eq_false c5
          clear c5
          replace H := Option.bind_eq_some_iff.mp H
          obtain ⟨t286, A90, H⟩ := H
          replace H : (if t286 = true then ((eddyref1_Log.f k1 l0).bind fun t287 => ((frame_Scan.f k1 t287 l2).bind fun bt290 => ((eddylaw1_num.f bt290.2.2).bind fun t295 => (if t295 = 0 then (if bt290.2.1 = (t287.length : Int) then ((eddylaw1_alike.f k1 bt290.1 l0).bind fun t296 => (eddylaw1_FrameJoin.j1 k1 l1 t287 bt290.1 bt290.2.1 (!t296) l2)) else (eddylaw1_FrameJoin.j1 k1 l1 t287 bt290.1 bt290.2.1 true l2)) else (eddylaw1_FrameJoin.j1 k1 l1 t287 bt290.1 bt290.2.1 true l2))))) else (some false)) = some r := H
          have A9 := Aside0.mk A90
          clear A90
          by_cases c10 : t286 = true
          · subst c10
            have H1 : ((eddyref1_Log.f k1 l0).bind fun t287 => ((frame_Scan.f k1 t287 l2).bind fun bt290 => ((eddylaw1_num.f bt290.2.2).bind fun t295 => (if t295 = 0 then (if bt290.2.1 = (t287.length : Int) then ((eddylaw1_alike.f k1 bt290.1 l0).bind fun t296 => (eddylaw1_FrameJoin.j1 k1 l1 t287 bt290.1 bt290.2.1 (!t296) l2)) else (eddylaw1_FrameJoin.j1 k1 l1 t287 bt290.1 bt290.2.1 true l2)) else (eddylaw1_FrameJoin.j1 k1 l1 t287 bt290.1 bt290.2.1 true l2))))) = some r := by rw [if_pos rfl] at H; exact H
            clear H
            have H := H1
            clear H1
            replace H := Option.bind_eq_some_iff.mp H
            obtain ⟨t287, A110, H⟩ := H
            replace H : ((frame_Scan.f k1 t287 l2).bind fun bt290 => ((eddylaw1_num.f bt290.2.2).bind fun t295 => (if t295 = 0 then (if bt290.2.1 = (t287.length : Int) then ((eddylaw1_alike.f k1 bt290.1 l0).bind fun t296 => (eddylaw1_FrameJoin.j1 k1 l1 t287 bt290.1 bt290.2.1 (!t296) l2)) else (eddylaw1_FrameJoin.j1 k1 l1 t287 bt290.1 bt290.2.1 true l2)) else (eddylaw1_FrameJoin.j1 k1 l1 t287 bt290.1 bt290.2.1 true l2)))) = some r := H
            have A11 := Aside0.mk A110
            clear A110
            replace H := Option.bind_eq_some_iff.mp H
            obtain ⟨⟨t290, t291, t292⟩, A120, H⟩ := H
            replace H : ((eddylaw1_num.f t292).bind fun t295 => (if t295 = 0 then (if t291 = (t287.length : Int) then ((eddylaw1_alike.f k1 t290 l0).bind fun t296 => (eddylaw1_FrameJoin.j1 k1 l1 t287 t290 t291 (!t296) l2)) else (eddylaw1_FrameJoin.j1 k1 l1 t287 t290 t291 true l2)) else (eddylaw1_FrameJoin.j1 k1 l1 t287 t290 t291 true l2))) = some r := H
            have A12 := Aside0.mk A120
            clear A120
            have HC13 := Aside0.mk H
            clear H
            go_upto_region 12 with (first | ((with_reducible refine gate_callee (f := 30) rfl ?_); refine goesL_ (some 35) rfl rfl Tryd.func30 (by kernel_rfl) rfl #[] rfl (by (try simp only [List.map_toArray, List.map_cons, List.map_nil]); first | done | rfl | (simp only [List.length_drop, List.length_take]; rfl)) ?_; (with_reducible refine (eddylaw1_unwraps.calls A2 c2 l2 true _ ?side1 ?side2 A9.out).mono ?_); (case side1 => repeat (first | exact (Kd.C_below HR2.out HB.out) | (with_reducible refine Kd.C_alloc ?_ _) | (with_reducible refine Kd.C_drewN ?_ _) | (with_reducible refine Kd.C_drew ?_))); (case side2 => exact HC2.out); rintro e w14 ⟨rfl, hb⟩; refine ⟨_, rfl, ?_⟩; have n0_ := Aside0.mk (below_step (by repeat (first | (with_reducible first | exact HB.out | apply below_alloc | apply pw_below_drewN | apply below_drew1) | exact HB.out)) hb); clear HB; have HB := n0_; clear n0_; (try clear hb); (try clear hb2); (try clear hk); (try clear hi)) | ((with_reducible refine gate_callee (f := 34) rfl ?_); refine goesL_ (some 38) rfl rfl Tryd.func34 (by kernel_rfl) rfl #[.slice A0 l0.length c0] rfl (by (try simp only [List.map_toArray, List.map_cons, List.map_nil]); first | done | rfl | (simp only [List.length_drop, List.length_take]; rfl)) ?_; (with_reducible refine (eddyref1_Log.calls k1 _ _ l0 t287 _ ?side1 ?side2 A11.out).mono ?_); (case side1 => repeat (first | exact (Kd.C_below HR0.out HB.out) | (with_reducible refine Kd.C_alloc ?_ _) | (with_reducible refine Kd.C_drewN ?_ _) | (with_reducible refine Kd.C_drew ?_))); (case side2 => exact HC0.out); rintro e w15 ⟨v288, rfl, ho0, hb⟩; refine ⟨_, rfl, ?_⟩; have n0_ := Aside0.mk (Kd.R_lower ho0 (below_size (by repeat (first | (with_reducible first | exact HB.out | apply below_alloc | apply pw_below_drewN | apply below_drew1) | exact HB.out)))); have n1_ := Aside0.mk (below_step (by repeat (first | (with_reducible first | exact HB.out | apply below_alloc | apply pw_below_drewN | apply below_drew1) | exact HB.out)) hb); clear HB; have HO289 := n0_; have HB := n1_; clear n0_ n1_; (try clear hb); (try clear hb2); (try clear hk); (try clear hi); (try clear ho0); obtain ⟨Ao16, co16, eo16⟩ := Kd.R_slice HO289.out; subst eo16) | ((with_reducible refine gate_callee (f := 32) rfl ?_); refine goesL_ (some 41) rfl rfl Tryd.func32 (by kernel_rfl) rfl #[.slice Ao16 t287.length co16] rfl (by (try simp only [List.map_toArray, List.map_cons, List.map_nil]); first | done | rfl | (simp only [List.length_drop, List.length_take]; rfl)) ?_; (with_reducible refine (frame_Scan.calls k1 _ _ t287 A2 c2 l2 t290 t291 t292 _ ?side1 ?side2 ?side3 ?side4 A12.out).mono ?_); (case side1 => repeat (first | exact (Kd.R_reads' HO289.out).2.2 | (with_reducible refine Kd.C_alloc ?_ _) | (with_reducible refine Kd.C_drewN ?_ _) | (with_reducible refine Kd.C_drew ?_))); (case side2 => exact (Kd.R_reads' HO289.out).2.1); (case side3 => repeat (first | exact (Kd.C_below HR2.out HB.out) | (with_reducible refine Kd.C_alloc ?_ _) | (with_reducible refine Kd.C_drewN ?_ _) | (with_reducible refine Kd.C_drew ?_))); (case side4 => exact HC2.out); rintro e w17 ⟨v293, rfl, ho0, hb⟩; refine ⟨_, rfl, ?_⟩; have n0_ := Aside0.mk (Kd.R_below (by (with_reducible repeat (first | apply Kd.R_alloc | apply Kd.R_drewN | apply Kd.R_drew)); exact HO289.out) hb); have n1_ := Aside0.mk (Kd.S_lower (Kd.S_new' ho0 (Kd.R_lt (by (with_reducible repeat (first | apply Kd.R_alloc | apply Kd.R_drewN | apply Kd.R_drew)); exact HO289.out))) (below_size (by repeat (first | (with_reducible first | exact HB.out | apply below_alloc | apply pw_below_drewN | apply below_drew1) | exact HB.out)))); have n2_ := Aside0.mk (below_step (by repeat (first | (with_reducible first | exact HB.out | apply below_alloc | apply pw_below_drewN | apply below_drew1) | exact HB.out)) hb); clear HO289; clear HB; have HO289 := n0_; have HO294 := n1_; have HB := n2_; clear n0_ n1_ n2_; (try clear hb); (try clear hb2); (try clear hk); (try clear hi); (try clear ho0)))
            (try simp only [Act.put, List.setIfInBounds_toArray, List.set_cons_zero, List.set_cons_succ])
            go_cut [59] (fun v59 wc => ∃ (kq : Nat) (x59_12 : Bool), v59 = .bool x59_12 ∧ Aside0 (eddylaw1_FrameJoin.j1 kq l1 t287 t290 t291 x59_12 l2 = some r) ∧ Aside0 (kq ≤ k1) ∧ Aside0 (Kd.R (Kd.int .u8) 5 wc w.heap.size (fun _ => True) (.slice Ao16 t287.length co16) t287) ∧ Aside0 (Kd.S (Kd.slice 5 (Kd.int .u8)) 23 wc w.heap.size (fun k_ => some k_ ≠ ((.slice Ao16 t287.length co16) : Value).ownBlock) v293 t290) ∧ Aside0 (Below w.heap.size w wc))
            case first =>
              have H := HC13.out
              clear HC13
              replace H := Option.bind_eq_some_iff.mp H
              obtain ⟨t295, A180, H⟩ := H
              replace H : (if t295 = 0 then (if t291 = (t287.length : Int) then ((eddylaw1_alike.f k1 t290 l0).bind fun t296 => (eddylaw1_FrameJoin.j1 k1 l1 t287 t290 t291 (!t296) l2)) else (eddylaw1_FrameJoin.j1 k1 l1 t287 t290 t291 true l2)) else (eddylaw1_FrameJoin.j1 k1 l1 t287 t290 t291 true l2)) = some r := H
              have A18 := Aside0.mk A180
              clear A180
              by_cases c19 : t295 = 0
              · rw [if_pos c19] at H
                have c19b0 : (t295 == 0) = true := beq_iff_eq.mpr c19
                have c19b1 : (t295 != 0) = false := bne_eq_false_iff_eq.mpr c19
                clear c19
                (first | rw [c19b0] | (simp only [i64_w, i32_w]; rw [c19b0]) | skip)
                by_cases c20 : t291 = (t287.length : Int)
                · rw [if_pos c20] at H
                  have c20b0 : (t291 == (t287.length : Int)) = true := beq_iff_eq.mpr c20
                  have c20b1 : (t291 != (t287.length : Int)) = false := bne_eq_false_iff_eq.mpr c20
                  clear c20
                  replace H := Option.bind_eq_some_iff.mp H
                  obtain ⟨t296, A210, H⟩ := H
                  replace H : (eddylaw1_FrameJoin.j1 k1 l1 t287 t290 t291 (!t296) l2) = some r := H
                  have A21 := Aside0.mk A210
                  clear A210
                  have H' := Aside0.mk H
                  clear H
                  go_wp2_with (first | ((with_reducible refine gate_callee (f := 24) rfl ?_); refine goesL_ (some 46) rfl rfl Tryd.func24 (by kernel_rfl) rfl #[.int .i64 t292] rfl (by (try simp only [List.map_toArray, List.map_cons, List.map_nil]); first | done | rfl | (simp only [List.length_drop, List.length_take]; rfl)) ?_; (with_reducible refine (eddylaw1_num.calls t292 t295 _ A18.out).mono ?_); rintro e w' ⟨rfl, ⟨nd, rfl⟩⟩; refine ⟨_, rfl, ?_⟩; obtain ⟨Ao22, co22, eo22⟩ := Kd.S_slice HO294.out; subst eo22) | (go_at_call 33; (with_reducible refine (eddylaw1_alike.calls k1 _ _ t290 _ _ l0 t296 _ ?side1 ?side2 ?side3 ?side4 A21.out).mono ?_); (case side1 => repeat (first | exact (Kd.S_reads' HO294.out).2.2 | (with_reducible refine Kd.C_alloc ?_ _) | (with_reducible refine Kd.C_drewN ?_ _) | (with_reducible refine Kd.C_drew ?_))); (case side2 => exact (Kd.S_reads' HO294.out).2.1); (case side3 => repeat (first | exact (Kd.C_below HR0.out (by repeat (first | (with_reducible first | exact HB.out | apply below_alloc | apply pw_below_drewN | apply below_drew1) | exact HB.out))) | (with_reducible refine Kd.C_alloc ?_ _) | (with_reducible refine Kd.C_drewN ?_ _) | (with_reducible refine Kd.C_drew ?_))); (case side4 => exact HC0.out); rintro e w' ⟨rfl, ⟨nd, rfl⟩⟩))
                  go_meet
                  case rel => exact ⟨_, (!t296), (by first | rfl | (simp; done) | (simp [*]; done)), H', ⟨by have := HK1.out; first | omega | exact Nat.le_refl _⟩, ⟨by (with_reducible repeat (first | apply Kd.R_alloc | apply Kd.R_drewN | apply Kd.R_drew)); exact HO289.out⟩, ⟨by (with_reducible repeat (first | apply Kd.S_alloc | apply Kd.S_drewN | apply Kd.S_drew)); exact Kd.S_mono HO294.out (fun _ hk => hk.2)⟩, ⟨by repeat (first | (with_reducible first | exact HB.out | apply below_alloc | apply pw_below_drewN | apply below_drew1) | exact HB.out)⟩⟩
                · rw [if_neg c20] at H
                  have c20b0 : (t291 == (t287.length : Int)) = false := beq_eq_false_iff_ne.mpr c20
                  have c20b1 : (t291 != (t287.length : Int)) = true := bne_iff_ne.mpr c20
                  have H' := Aside0.mk H
                  clear H
                  go_wp2_with (first | ((with_reducible refine gate_callee (f := 24) rfl ?_); refine goesL_ (some 46) rfl rfl Tryd.func24 (by kernel_rfl) rfl #[.int .i64 t292] rfl (by (try simp only [List.map_toArray, List.map_cons, List.map_nil]); first | done | rfl | (simp only [List.length_drop, List.length_take]; rfl)) ?_; (with_reducible refine (eddylaw1_num.calls t292 t295 _ A18.out).mono ?_); rintro e w' ⟨rfl, ⟨nd, rfl⟩⟩; refine ⟨_, rfl, ?_⟩))
                  go_meet
                  case rel => exact ⟨_, (true), (by first | rfl | (simp; done) | (simp [*]; done)), H', ⟨by have := HK1.out; first | omega | exact Nat.le_refl _⟩, ⟨by (with_reducible repeat (first | apply Kd.R_alloc | apply Kd.R_drewN | apply Kd.R_drew)); exact HO289.out⟩, ⟨by (with_reducible repeat (first | apply Kd.S_alloc | apply Kd.S_drewN | apply Kd.S_drew)); exact Kd.S_mono HO294.out (fun _ hk => hk.2)⟩, ⟨by repeat (first | (with_reducible first | exact HB.out | apply below_alloc | apply pw_below_drewN | apply below_drew1) | exact HB.out)⟩⟩
              · rw [if_neg c19] at H
                have c19b0 : (t295 == 0) = false := beq_eq_false_iff_ne.mpr c19
                have c19b1 : (t295 != 0) = true := bne_iff_ne.mpr c19
                (first | rw [c19b0] | (simp only [i64_w, i32_w]; rw [c19b0]) | skip)
                have H' := Aside0.mk H
                clear H
                go_wp2_with (first | ((with_reducible refine gate_callee (f := 24) rfl ?_); refine goesL_ (some 46) rfl rfl Tryd.func24 (by kernel_rfl) rfl #[.int .i64 t292] rfl (by (try simp only [List.map_toArray, List.map_cons, List.map_nil]); first | done | rfl | (simp only [List.length_drop, List.length_take]; rfl)) ?_; (with_reducible refine (eddylaw1_num.calls t292 t295 _ A18.out).mono ?_); rintro e w' ⟨rfl, ⟨nd, rfl⟩⟩; refine ⟨_, rfl, ?_⟩))
                go_meet
                case rel => exact ⟨_, (true), (by first | rfl | (simp; done) | (simp [*]; done)), H', ⟨by have := HK1.out; first | omega | exact Nat.le_refl _⟩, ⟨by (with_reducible repeat (first | apply Kd.R_alloc | apply Kd.R_drewN | apply Kd.R_drew)); exact HO289.out⟩, ⟨by (with_reducible repeat (first | apply Kd.S_alloc | apply Kd.S_drewN | apply Kd.S_drew)); exact Kd.S_mono HO294.out (fun _ hk => hk.2)⟩, ⟨by repeat (first | (with_reducible first | exact HB.out | apply below_alloc | apply pw_below_drewN | apply below_drew1) | exact HB.out)⟩⟩
            case rest =>
              clear HC13
              try clear c1
              try clear c2
              try clear p2
              try clear q2
              try clear hx2
              try clear c3
              try clear c4
              try clear c4b0
              try clear c4b1
              try clear c5
              try clear c5b0
              try clear c6
              try clear c6b0
              try clear p6
              try clear c7
              try clear c7b0
              try clear c7b1
              try clear c8
              try clear c8b0
              try clear c9
              try clear c10
              try clear c19
              try clear c19b0
              try clear c19b1
              try clear c20
              try clear c20b0
              try clear c20b1
              try clear hx285_0
              try clear p2
              try clear p285
              try clear q285
              obtain ⟨kq, x59_12, rfl, HA, HJ12, HO_6, HO_7, HB⟩ := hcut
              cases kq with
              | zero => exact absurd HA.out (by simp [eddylaw1_FrameJoin.j1])
              | succ kj12 =>
                have H := HA.out
                clear HA
                simp only [eddylaw1_FrameJoin.j1] at H
                by_cases c23 : x59_12 = true
                · subst c23
                  have H1 : (some false) = some r := by rw [if_pos rfl] at H; exact H
                  clear H
                  have H := H1
                  clear H1
                  obtain rfl := Option.some.inj H
                  go_wp2
                  go_ret
                  exact ⟨by first | rfl | (simp [errW_none, errW_some] <;> rfl) | (simp [*, errW_none, errW_some] <;> rfl), by repeat (first | (with_reducible first | exact HB.out | apply below_alloc | apply pw_below_drewN | apply below_drew1) | exact HB.out)⟩
                · replace c23 := Bool.eq_false_iff.mpr c23
                  subst c23
                  have H1 : ((frame_Scan.f kj12 l1 l2).bind fun bt297 => ((eddylaw1_joined.f t287 l1).bind fun t302 => ((frame_Scan.f kj12 t302 l2).bind fun bt305 => ((eddylaw1_num.f bt305.2.2).bind fun t310 => ((eddylaw1_num.f bt297.2.2).bind fun t311 => (if t310 = t311 then (if bt305.2.1 = (wrap64 (t291 + bt297.2.1)) then (eddylaw1_FrameJoin.j2 kj12 t290 bt297.1 bt305.1 ((bt305.1.length : Int) != (wrap64 ((t290.length : Int) + (bt297.1.length : Int))))) else (eddylaw1_FrameJoin.j2 kj12 t290 bt297.1 bt305.1 true)) else (eddylaw1_FrameJoin.j2 kj12 t290 bt297.1 bt305.1 true))))))) = some r := by rw [if_neg (show ¬ (false = true) by decide)] at H; exact H
                  clear H
                  have H := H1
                  clear H1
                  replace H := Option.bind_eq_some_iff.mp H
                  obtain ⟨⟨t297, t298, t299⟩, A240, H⟩ := H
                  replace H : ((eddylaw1_joined.f t287 l1).bind fun t302 => ((frame_Scan.f kj12 t302 l2).bind fun bt305 => ((eddylaw1_num.f bt305.2.2).bind fun t310 => ((eddylaw1_num.f t299).bind fun t311 => (if t310 = t311 then (if bt305.2.1 = (wrap64 (t291 + t298)) then (eddylaw1_FrameJoin.j2 kj12 t290 t297 bt305.1 ((bt305.1.length : Int) != (wrap64 ((t290.length : Int) + (t297.length : Int))))) else (eddylaw1_FrameJoin.j2 kj12 t290 t297 bt305.1 true)) else (eddylaw1_FrameJoin.j2 kj12 t290 t297 bt305.1 true)))))) = some r := H
                  have A24 := Aside0.mk A240
                  clear A240
                  replace H := Option.bind_eq_some_iff.mp H
                  obtain ⟨t302, A250, H⟩ := H
                  replace H : ((frame_Scan.f kj12 t302 l2).bind fun bt305 => ((eddylaw1_num.f bt305.2.2).bind fun t310 => ((eddylaw1_num.f t299).bind fun t311 => (if t310 = t311 then (if bt305.2.1 = (wrap64 (t291 + t298)) then (eddylaw1_FrameJoin.j2 kj12 t290 t297 bt305.1 ((bt305.1.length : Int) != (wrap64 ((t290.length : Int) + (t297.length : Int))))) else (eddylaw1_FrameJoin.j2 kj12 t290 t297 bt305.1 true)) else (eddylaw1_FrameJoin.j2 kj12 t290 t297 bt305.1 true))))) = some r := H
                  have A25 := Aside0.mk A250
                  clear A250
                  replace H := Option.bind_eq_some_iff.mp H
                  obtain ⟨⟨t305, t306, t307⟩, A260, H⟩ := H
                  replace H : ((eddylaw1_num.f t307).bind fun t310 => ((eddylaw1_num.f t299).bind fun t311 => (if t310 = t311 then (if t306 = (wrap64 (t291 + t298)) then (eddylaw1_FrameJoin.j2 kj12 t290 t297 t305 ((t305.length : Int) != (wrap64 ((t290.length : Int) + (t297.length : Int))))) else (eddylaw1_FrameJoin.j2 kj12 t290 t297 t305 true)) else (eddylaw1_FrameJoin.j2 kj12 t290 t297 t305 true)))) = some r := H
                  have A26 := Aside0.mk A260
                  clear A260
                  have HC27 := Aside0.mk H
                  clear H
                  go_upto_region 16 with (first | ((with_reducible refine gate_callee (f := 32) rfl ?_); refine goesL_ (some 62) rfl rfl Tryd.func32 (by kernel_rfl) rfl #[.slice A1 l1.length c1] rfl (by (try simp only [List.map_toArray, List.map_cons, List.map_nil]); first | done | rfl | (simp only [List.length_drop, List.length_take]; rfl)) ?_; (with_reducible refine (frame_Scan.calls kj12 _ _ l1 A2 c2 l2 t297 t298 t299 _ ?side1 ?side2 ?side3 ?side4 A24.out).mono ?_); (case side1 => repeat (first | exact (Kd.C_below HR1.out HB.out) | (with_reducible refine Kd.C_alloc ?_ _) | (with_reducible refine Kd.C_drewN ?_ _) | (with_reducible refine Kd.C_drew ?_))); (case side2 => exact HC1.out); (case side3 => repeat (first | exact (Kd.C_below HR2.out HB.out) | (with_reducible refine Kd.C_alloc ?_ _) | (with_reducible refine Kd.C_drewN ?_ _) | (with_reducible refine Kd.C_drew ?_))); (case side4 => exact HC2.out); rintro e w28 ⟨v300, rfl, ho0, hb⟩; refine ⟨_, rfl, ?_⟩; have n0_ := Aside0.mk (Kd.R_below (by (with_reducible repeat (first | apply Kd.R_alloc | apply Kd.R_drewN | apply Kd.R_drew)); exact HO_6.out) hb); have n1_ := Aside0.mk (Kd.S_elder' (by (with_reducible repeat (first | apply Kd.S_alloc | apply Kd.S_drewN | apply Kd.S_drew)); exact HO_7.out) (Kd.S_base ho0) hb); have n2_ := Aside0.mk (Kd.S_lower (Kd.S_new' (Kd.S_new' ho0 (Kd.R_lt (by (with_reducible repeat (first | apply Kd.R_alloc | apply Kd.R_drewN | apply Kd.R_drew)); exact HO_6.out))) (Kd.S_lt (by (with_reducible repeat (first | apply Kd.S_alloc | apply Kd.S_drewN | apply Kd.S_drew)); exact HO_7.out))) (below_size (by repeat (first | (with_reducible first | exact HB.out | apply below_alloc | apply pw_below_drewN | apply below_drew1) | exact HB.out)))); have n3_ := Aside0.mk (below_step (by repeat (first | (with_reducible first | exact HB.out | apply below_alloc | apply pw_below_drewN | apply below_drew1) | exact HB.out)) hb); clear HO_6; clear HO_7; clear HB; have HO_6 := n0_; have HO_7 := n1_; have HO301 := n2_; have HB := n3_; clear n0_ n1_ n2_ n3_; (try clear hb); (try clear hb2); (try clear hk); (try clear hi); (try clear ho0)) | ((with_reducible refine gate_callee (f := 21) rfl ?_); refine goesL_ (some 69) rfl rfl Tryd.func21 (by kernel_rfl) rfl #[.slice Ao16 t287.length co16, .slice A1 l1.length c1] rfl (by (try simp only [List.map_toArray, List.map_cons, List.map_nil]); first | done | rfl | (simp only [List.length_drop, List.length_take]; rfl)) ?_; (with_reducible refine (eddylaw1_joined.calls _ _ t287 _ _ l1 t302 _ ?side1 ?side2 ?side3 ?side4 A25.out).mono ?_); (case side1 => repeat (first | exact (Kd.R_reads' HO_6.out).2.2 | (with_reducible refine Kd.C_alloc ?_ _) | (with_reducible refine Kd.C_drewN ?_ _) | (with_reducible refine Kd.C_drew ?_))); (case side2 => exact (Kd.R_reads' HO_6.out).2.1); (case side3 => repeat (first | exact (Kd.C_below HR1.out HB.out) | (with_reducible refine Kd.C_alloc ?_ _) | (with_reducible refine Kd.C_drewN ?_ _) | (with_reducible refine Kd.C_drew ?_))); (case side4 => exact HC1.out); rintro e w29 ⟨v303, rfl, ho0, hb⟩; refine ⟨_, rfl, ?_⟩; have n0_ := Aside0.mk (Kd.R_elder' (by (with_reducible repeat (first | apply Kd.R_alloc | apply Kd.R_drewN | apply Kd.R_drew)); exact HO_6.out) (Kd.R_base ho0) hb); have n1_ := Aside0.mk (Kd.S_elder' (by (with_reducible repeat (first | apply Kd.S_alloc | apply Kd.S_drewN | apply Kd.S_drew)); exact HO_7.out) (Kd.R_base ho0) hb); have n2_ := Aside0.mk (Kd.S_elder' (by (with_reducible repeat (first | apply Kd.S_alloc | apply Kd.S_drewN | apply Kd.S_drew)); exact HO301.out) (Kd.R_base ho0) hb); have n3_ := Aside0.mk (Kd.R_lower (Kd.R_new' ho0 (Kd.R_lt (by (with_reducible repeat (first | apply Kd.R_alloc | apply Kd.R_drewN | apply Kd.R_drew)); exact HO_6.out))) (below_size (by repeat (first | (with_reducible first | exact HB.out | apply below_alloc | apply pw_below_drewN | apply below_drew1) | exact HB.out)))); have n4_ := Aside0.mk (below_step (by repeat (first | (with_reducible first | exact HB.out | apply below_alloc | apply pw_below_drewN | apply below_drew1) | exact HB.out)) hb); clear HO_6; clear HO_7; clear HO301; clear HB; have HO_6 := n0_; have HO_7 := n1_; have HO301 := n2_; have HO304 := n3_; have HB := n4_; clear n0_ n1_ n2_ n3_ n4_; (try clear hb); (try clear hb2); (try clear hk); (try clear hi); (try clear ho0); obtain ⟨Ao30, co30, eo30⟩ := Kd.R_slice HO304.out; subst eo30) | ((with_reducible refine gate_callee (f := 32) rfl ?_); refine goesL_ (some 70) rfl rfl Tryd.func32 (by kernel_rfl) rfl #[.slice Ao30 t302.length co30] rfl (by (try simp only [List.map_toArray, List.map_cons, List.map_nil]); first | done | rfl | (simp only [List.length_drop, List.length_take]; rfl)) ?_; (with_reducible refine (frame_Scan.calls kj12 _ _ t302 A2 c2 l2 t305 t306 t307 _ ?side1 ?side2 ?side3 ?side4 A26.out).mono ?_); (case side1 => repeat (first | exact (Kd.R_reads' HO304.out).2.2 | (with_reducible refine Kd.C_alloc ?_ _) | (with_reducible refine Kd.C_drewN ?_ _) | (with_reducible refine Kd.C_drew ?_))); (case side2 => exact (Kd.R_reads' HO304.out).2.1); (case side3 => repeat (first | exact (Kd.C_below HR2.out HB.out) | (with_reducible refine Kd.C_alloc ?_ _) | (with_reducible refine Kd.C_drewN ?_ _) | (with_reducible refine Kd.C_drew ?_))); (case side4 => exact HC2.out); rintro e w31 ⟨v308, rfl, ho0, hb⟩; refine ⟨_, rfl, ?_⟩; have n0_ := Aside0.mk (Kd.R_below (by (with_reducible repeat (first | apply Kd.R_alloc | apply Kd.R_drewN | apply Kd.R_drew)); exact HO_6.out) hb); have n1_ := Aside0.mk (Kd.S_elder' (by (with_reducible repeat (first | apply Kd.S_alloc | apply Kd.S_drewN | apply Kd.S_drew)); exact HO_7.out) (Kd.S_base ho0) hb); have n2_ := Aside0.mk (Kd.S_elder' (by (with_reducible repeat (first | apply Kd.S_alloc | apply Kd.S_drewN | apply Kd.S_drew)); exact HO301.out) (Kd.S_base ho0) hb); have n3_ := Aside0.mk (Kd.R_below (by (with_reducible repeat (first | apply Kd.R_alloc | apply Kd.R_drewN | apply Kd.R_drew)); exact HO304.out) hb); have n4_ := Aside0.mk (Kd.S_lower (Kd.S_new' (Kd.S_new' (Kd.S_new' (Kd.S_new' ho0 (Kd.R_lt (by (with_reducible repeat (first | apply Kd.R_alloc | apply Kd.R_drewN | apply Kd.R_drew)); exact HO_6.out))) (Kd.S_lt (by (with_reducible repeat (first | apply Kd.S_alloc | apply Kd.S_drewN | apply Kd.S_drew)); exact HO_7.out))) (Kd.S_lt (by (with_reducible repeat (first | apply Kd.S_alloc | apply Kd.S_drewN | apply Kd.S_drew)); exact HO301.out))) (Kd.R_lt (by (with_reducible repeat (first | apply Kd.R_alloc | apply Kd.R_drewN | apply Kd.R_drew)); exact HO304.out))) (below_size (by repeat (first | (with_reducible first | exact HB.out | apply below_alloc | apply pw_below_drewN | apply below_drew1) | exact HB.out)))); have n5_ := Aside0.mk (below_step (by repeat (first | (with_reducible first | exact HB.out | apply below_alloc | apply pw_below_drewN | apply below_drew1) | exact HB.out)) hb); clear HO_6; clear HO_7; clear HO301; clear HO304; clear HB; have HO_6 := n0_; have HO_7 := n1_; have HO301 := n2_; have HO304 := n3_; have HO309 := n4_; have HB := n5_; clear n0_ n1_ n2_ n3_ n4_ n5_; (try clear hb); (try clear hb2); (try clear hk); (try clear hi); (try clear ho0)))
                  (try simp only [Act.put, List.setIfInBounds_toArray, List.set_cons_zero, List.set_cons_succ])
                  go_cut [95] (fun v95 wc => ∃ (kq : Nat) (x95_26 : Bool), v95 = .bool x95_26 ∧ Aside0 (eddylaw1_FrameJoin.j2 kq t290 t297 t305 x95_26 = some r) ∧ Aside0 (kq ≤ kj12) ∧ Aside0 (Kd.S (Kd.slice 5 (Kd.int .u8)) 23 wc w.heap.size (fun k_ => some k_ ≠ (v300 : Value).ownBlock ∧ some k_ ≠ (v308 : Value).ownBlock) v293 t290) ∧ Aside0 (Kd.S (Kd.slice 5 (Kd.int .u8)) 23 wc w.heap.size (fun k_ => some k_ ≠ (v293 : Value).ownBlock ∧ some k_ ≠ (v308 : Value).ownBlock) v300 t297) ∧ Aside0 (Kd.S (Kd.slice 5 (Kd.int .u8)) 23 wc w.heap.size (fun k_ => some k_ ≠ (v293 : Value).ownBlock ∧ some k_ ≠ (v300 : Value).ownBlock) v308 t305) ∧ Aside0 (Below w.heap.size w wc))
                  case first =>
                    have H := HC27.out
                    clear HC27
                    replace H := Option.bind_eq_some_iff.mp H
                    obtain ⟨t310, A320, H⟩ := H
                    replace H : ((eddylaw1_num.f t299).bind fun t311 => (if t310 = t311 then (if t306 = (wrap64 (t291 + t298)) then (eddylaw1_FrameJoin.j2 kj12 t290 t297 t305 ((t305.length : Int) != (wrap64 ((t290.length : Int) + (t297.length : Int))))) else (eddylaw1_FrameJoin.j2 kj12 t290 t297 t305 true)) else (eddylaw1_FrameJoin.j2 kj12 t290 t297 t305 true))) = some r := H
                    have A32 := Aside0.mk A320
                    clear A320
                    replace H := Option.bind_eq_some_iff.mp H
                    obtain ⟨t311, A330, H⟩ := H
                    replace H : (if t310 = t311 then (if t306 = (wrap64 (t291 + t298)) then (eddylaw1_FrameJoin.j2 kj12 t290 t297 t305 ((t305.length : Int) != (wrap64 ((t290.length : Int) + (t297.length : Int))))) else (eddylaw1_FrameJoin.j2 kj12 t290 t297 t305 true)) else (eddylaw1_FrameJoin.j2 kj12 t290 t297 t305 true)) = some r := H
                    have A33 := Aside0.mk A330
                    clear A330
                    by_cases c34 : t310 = t311
                    · rw [if_pos c34] at H
                      have c34b0 : (t310 == t311) = true := beq_iff_eq.mpr c34
                      have c34b1 : (t310 != t311) = false := bne_eq_false_iff_eq.mpr c34
                      clear c34
                      (first | rw [c34b0] | (simp only [i64_w, i32_w]; rw [c34b0]) | skip)
                      by_cases c35 : t306 = (wrap64 (t291 + t298))
                      · rw [if_pos c35] at H
                        have c35b0 : (t306 == (wrap64 (t291 + t298))) = true := beq_iff_eq.mpr c35
                        have c35b1 : (t306 != (wrap64 (t291 + t298))) = false := bne_eq_false_iff_eq.mpr c35
                        clear c35
                        have H' := Aside0.mk H
                        clear H
                        go_wp2_with (first | ((with_reducible refine gate_callee (f := 24) rfl ?_); refine goesL_ (some 75) rfl rfl Tryd.func24 (by kernel_rfl) rfl #[.int .i64 t307] rfl (by (try simp only [List.map_toArray, List.map_cons, List.map_nil]); first | done | rfl | (simp only [List.length_drop, List.length_take]; rfl)) ?_; (with_reducible refine (eddylaw1_num.calls t307 t310 _ A32.out).mono ?_); rintro e w' ⟨rfl, ⟨nd, rfl⟩⟩; refine ⟨_, rfl, ?_⟩) | ((with_reducible refine gate_callee (f := 24) rfl ?_); refine goesL_ (some 77) rfl rfl Tryd.func24 (by kernel_rfl) rfl #[.int .i64 t299] rfl (by (try simp only [List.map_toArray, List.map_cons, List.map_nil]); first | done | rfl | (simp only [List.length_drop, List.length_take]; rfl)) ?_; (with_reducible refine (eddylaw1_num.calls t299 t311 _ A33.out).mono ?_); rintro e w' ⟨rfl, ⟨nd, rfl⟩⟩; refine ⟨_, rfl, ?_⟩; obtain ⟨Ao36, co36, eo36⟩ := Kd.S_slice HO309.out; subst eo36; obtain ⟨Ao37, co37, eo37⟩ := Kd.S_slice HO_7.out; subst eo37; obtain ⟨Ao38, co38, eo38⟩ := Kd.S_slice HO301.out; subst eo38))
                        go_meet
                        case rel => exact ⟨_, (((t305.length : Int) != (wrap64 ((t290.length : Int) + (t297.length : Int))))), (by first | rfl | (simp; done) | (simp [*]; done)), H', ⟨by have := HK1.out; have := HJ12.out; first | omega | exact Nat.le_refl _⟩, ⟨by (with_reducible repeat (first | apply Kd.S_alloc | apply Kd.S_drewN | apply Kd.S_drew)); exact Kd.S_mono HO_7.out (fun _ hk => ⟨hk.1.1.2, hk.2⟩)⟩, ⟨by (with_reducible repeat (first | apply Kd.S_alloc | apply Kd.S_drewN | apply Kd.S_drew)); exact Kd.S_mono HO301.out (fun _ hk => ⟨hk.1.1.2, hk.2⟩)⟩, ⟨by (with_reducible repeat (first | apply Kd.S_alloc | apply Kd.S_drewN | apply Kd.S_drew)); exact Kd.S_mono HO309.out (fun _ hk => ⟨hk.1.1.2, hk.1.2⟩)⟩, ⟨by repeat (first | (with_reducible first | exact HB.out | apply below_alloc | apply pw_below_drewN | apply below_drew1) | exact HB.out)⟩⟩
                      · rw [if_neg c35] at H
                        have c35b0 : (t306 == (wrap64 (t291 + t298))) = false := beq_eq_false_iff_ne.mpr c35
                        have c35b1 : (t306 != (wrap64 (t291 + t298))) = true := bne_iff_ne.mpr c35
                        have H' := Aside0.mk H
                        clear H
                        go_wp2_with (first | ((with_reducible refine gate_callee (f := 24) rfl ?_); refine goesL_ (some 75) rfl rfl Tryd.func24 (by kernel_rfl) rfl #[.int .i64 t307] rfl (by (try simp only [List.map_toArray, List.map_cons, List.map_nil]); first | done | rfl | (simp only [List.length_drop, List.length_take]; rfl)) ?_; (with_reducible refine (eddylaw1_num.calls t307 t310 _ A32.out).mono ?_); rintro e w' ⟨rfl, ⟨nd, rfl⟩⟩; refine ⟨_, rfl, ?_⟩) | ((with_reducible refine gate_callee (f := 24) rfl ?_); refine goesL_ (some 77) rfl rfl Tryd.func24 (by kernel_rfl) rfl #[.int .i64 t299] rfl (by (try simp only [List.map_toArray, List.map_cons, List.map_nil]); first | done | rfl | (simp only [List.length_drop, List.length_take]; rfl)) ?_; (with_reducible refine (eddylaw1_num.calls t299 t311 _ A33.out).mono ?_); rintro e w' ⟨rfl, ⟨nd, rfl⟩⟩; refine ⟨_, rfl, ?_⟩))
                        go_meet
                        case rel => exact ⟨_, (true), (by first | rfl | (simp; done) | (simp [*]; done)), H', ⟨by have := HK1.out; have := HJ12.out; first | omega | exact Nat.le_refl _⟩, ⟨by (with_reducible repeat (first | apply Kd.S_alloc | apply Kd.S_drewN | apply Kd.S_drew)); exact Kd.S_mono HO_7.out (fun _ hk => ⟨hk.1.1.2, hk.2⟩)⟩, ⟨by (with_reducible repeat (first | apply Kd.S_alloc | apply Kd.S_drewN | apply Kd.S_drew)); exact Kd.S_mono HO301.out (fun _ hk => ⟨hk.1.1.2, hk.2⟩)⟩, ⟨by (with_reducible repeat (first | apply Kd.S_alloc | apply Kd.S_drewN | apply Kd.S_drew)); exact Kd.S_mono HO309.out (fun _ hk => ⟨hk.1.1.2, hk.1.2⟩)⟩, ⟨by repeat (first | (with_reducible first | exact HB.out | apply below_alloc | apply pw_below_drewN | apply below_drew1) | exact HB.out)⟩⟩
                    · rw [if_neg c34] at H
                      have c34b0 : (t310 == t311) = false := beq_eq_false_iff_ne.mpr c34
                      have c34b1 : (t310 != t311) = true := bne_iff_ne.mpr c34
                      (first | rw [c34b0] | (simp only [i64_w, i32_w]; rw [c34b0]) | skip)
                      have H' := Aside0.mk H
                      clear H
                      go_wp2_with (first | ((with_reducible refine gate_callee (f := 24) rfl ?_); refine goesL_ (some 75) rfl rfl Tryd.func24 (by kernel_rfl) rfl #[.int .i64 t307] rfl (by (try simp only [List.map_toArray, List.map_cons, List.map_nil]); first | done | rfl | (simp only [List.length_drop, List.length_take]; rfl)) ?_; (with_reducible refine (eddylaw1_num.calls t307 t310 _ A32.out).mono ?_); rintro e w' ⟨rfl, ⟨nd, rfl⟩⟩; refine ⟨_, rfl, ?_⟩) | ((with_reducible refine gate_callee (f := 24) rfl ?_); refine goesL_ (some 77) rfl rfl Tryd.func24 (by kernel_rfl) rfl #[.int .i64 t299] rfl (by (try simp only [List.map_toArray, List.map_cons, List.map_nil]); first | done | rfl | (simp only [List.length_drop, List.length_take]; rfl)) ?_; (with_reducible refine (eddylaw1_num.calls t299 t311 _ A33.out).mono ?_); rintro e w' ⟨rfl, ⟨nd, rfl⟩⟩; refine ⟨_, rfl, ?_⟩))
                      go_meet
                      case rel => exact ⟨_, (true), (by first | rfl | (simp; done) | (simp [*]; done)), H', ⟨by have := HK1.out; have := HJ12.out; first | omega | exact Nat.le_refl _⟩, ⟨by (with_reducible repeat (first | apply Kd.S_alloc | apply Kd.S_drewN | apply Kd.S_drew)); exact Kd.S_mono HO_7.out (fun _ hk => ⟨hk.1.1.2, hk.2⟩)⟩, ⟨by (with_reducible repeat (first | apply Kd.S_alloc | apply Kd.S_drewN | apply Kd.S_drew)); exact Kd.S_mono HO301.out (fun _ hk => ⟨hk.1.1.2, hk.2⟩)⟩, ⟨by (with_reducible repeat (first | apply Kd.S_alloc | apply Kd.S_drewN | apply Kd.S_drew)); exact Kd.S_mono HO309.out (fun _ hk => ⟨hk.1.1.2, hk.1.2⟩)⟩, ⟨by repeat (first | (with_reducible first | exact HB.out | apply below_alloc | apply pw_below_drewN | apply below_drew1) | exact HB.out)⟩⟩
                  case rest =>
                    clear HC27
                    try clear c1
                    try clear c2
                    try clear p2
                    try clear q2
                    try clear hx2
                    try clear c3
                    try clear c4
                    try clear c4b0
                    try clear c4b1
                    try clear c5
                    try clear c5b0
                    try clear c6
                    try clear c6b0
                    try clear p6
                    try clear c7
                    try clear c7b0
                    try clear c7b1
                    try clear c8
                    try clear c8b0
                    try clear c9
                    try clear c10
                    try clear c19
                    try clear c19b0
                    try clear c19b1
                    try clear c20
                    try clear c20b0
                    try clear c20b1
                    try clear c21
                    try clear c23
                    try clear c24
                    try clear c28
                    try clear p28
                    try clear q28
                    try clear hx28
                    try clear c30
                    try clear c32
                    try clear c34
                    try clear c34b0
                    try clear c34b1
                    try clear c35
                    try clear c35b0
                    try clear c35b1
                    try clear hx285_0
                    try clear p2
                    try clear p285
                    try clear p6
                    try clear q2
                    try clear q285
                    obtain ⟨kq, x95_26, rfl, HA, HJ26, HO_7, HO_10, HO_13, HB⟩ := hcut
                    cases kq with
                    | zero => exact absurd HA.out (by simp [eddylaw1_FrameJoin.j2])
                    | succ kj26 =>
                      have H := HA.out
                      clear HA
                      simp only [eddylaw1_FrameJoin.j2] at H
                      by_cases c39 : x95_26 = true
                      · subst c39
                        have H1 : (some false) = some r := by rw [if_pos rfl] at H; exact H
                        clear H
                        have H := H1
                        clear H1
                        obtain rfl := Option.some.inj H
                        go_wp2
                        go_ret
                        exact ⟨by first | rfl | (simp [errW_none, errW_some] <;> rfl) | (simp [*, errW_none, errW_some] <;> rfl), by repeat (first | (with_reducible first | exact HB.out | apply below_alloc | apply pw_below_drewN | apply below_drew1) | exact HB.out)⟩
                      · replace c39 := Bool.eq_false_iff.mpr c39
                        subst c39
                        have H1 : (if 0 ≤ (t290.length : Int) then (if (t290.length : Int) ≤ (t305.length : Int) then ((eddylaw1_alike.f kj26 (t305.take ((t290.length : Int) : Int).toNat) t290).bind fun t316 => (if t316 = true then ((eddylaw1_alike.f kj26 (t305.drop ((t290.length : Int) : Int).toNat) t297).bind fun t321 => (some t321)) else (some false))) else (none)) else (none)) = some r := by rw [if_neg (show ¬ (false = true) by decide)] at H; exact H
                        clear H
                        have H := H1
                        clear H1
                        by_cases c40 : 0 ≤ (t290.length : Int)
                        · rw [if_pos c40] at H
                          have c40b0 := eq_true c40
                          have c40b1 : decide (0 ≤ (t290.length : Int)) = true := decide_eq_true c40
                          clear c40
                          by_cases c41 : (t290.length : Int) ≤ (t305.length : Int)
                          · rw [if_pos c41] at H
                            have c41b0 := eq_true c41
                            have c41b1 : decide ((t290.length : Int) ≤ (t305.length : Int)) = true := decide_eq_true c41
                            clear c41
                            obtain ⟨y312, hy312⟩ : ∃ y_ : List (List Int), y_ = (t305.take ((t290.length : Int) : Int).toNat) := ⟨_, rfl⟩
                            replace H : ((eddylaw1_alike.f kj26 y312 t290).bind fun t316 => (if t316 = true then ((eddylaw1_alike.f kj26 (t305.drop ((t290.length : Int) : Int).toNat) t297).bind fun t321 => (some t321)) else (some false))) = some r := by first | (rw [hy312]; with_reducible exact H) | (have H2_ := (Option.bind_some _ _).symm.trans H; rw [hy312]; with_reducible exact H2_) | (have H2_ := (Option.bind_some _ _).symm.trans H; with_reducible exact H2_) | with_reducible exact H | (rw [hy312]; exact H) | exact H
                            have Ny312 := Aside0.mk hy312
                            clear hy312
                            replace H := Option.bind_eq_some_iff.mp H
                            obtain ⟨t316, A420, H⟩ := H
                            replace H : (if t316 = true then ((eddylaw1_alike.f kj26 (t305.drop ((t290.length : Int) : Int).toNat) t297).bind fun t321 => (some t321)) else (some false)) = some r := H
                            have A42 := Aside0.mk A420
                            clear A420
                            by_cases c43 : t316 = true
                            · subst c43
                              have H1 : ((eddylaw1_alike.f kj26 (t305.drop ((t290.length : Int) : Int).toNat) t297).bind fun t321 => (some t321)) = some r := by rw [if_pos rfl] at H; exact H
                              clear H
                              have H := H1
                              clear H1
                              have c44b0 := eq_true (of_decide_eq_true (by first | (with_reducible assumption) | assumption) : 0 ≤ (t290.length : Int))
                              have c45b0 := eq_true (of_decide_eq_true (by first | (with_reducible assumption) | assumption) : (t290.length : Int) ≤ (t305.length : Int))
                              obtain ⟨y317, hy317⟩ : ∃ y_ : List (List Int), y_ = (t305.drop ((t290.length : Int) : Int).toNat) := ⟨_, rfl⟩
                              replace H : ((eddylaw1_alike.f kj26 y317 t297).bind fun t321 => (some t321)) = some r := by first | (rw [hy317]; with_reducible exact H) | (have H2_ := (Option.bind_some _ _).symm.trans H; rw [hy317]; with_reducible exact H2_) | (have H2_ := (Option.bind_some _ _).symm.trans H; with_reducible exact H2_) | with_reducible exact H | (rw [hy317]; exact H) | exact H
                              have Ny317 := Aside0.mk hy317
                              clear hy317
                              replace H := Option.bind_eq_some_iff.mp H
                              obtain ⟨t321, A460, H⟩ := H
                              replace H : (some t321) = some r := H
                              have A46 := Aside0.mk A460
                              clear A460
                              obtain rfl := Option.some.inj H
                              obtain ⟨Ao47, co47, eo47⟩ := Kd.S_slice HO_7.out
                              subst eo47
                              obtain ⟨Ao49, co49, eo49⟩ := Kd.S_slice HO_13.out
                              subst eo49
                              have q48 : ((t290.length : Int) : Int) ≤ ((t305.length : Int) : Int) := of_decide_eq_true (by first | (with_reducible assumption) | assumption)
                              obtain ⟨i048, hi048, _, hsz48, _⟩ := info_parts info23
                              have hroom48 : t305.length ≤ co49 := (Kd.S_reads' HO_13.out).2.1
                              have hC48 : Kd.C (Kd.slice 5 (Kd.int .u8)) _ Ao49 t305.length t305 := (Kd.S_reads' HO_13.out).2.2
                              have hcut48 := cut_to (P := Tryd.prog) 41 23 .i64 Tryd.underlying41 hi048 Ao49 t305.length co49 (t290.length : Int) (of_decide_eq_true (by first | (with_reducible assumption) | assumption)) q48 hroom48
                              have hr48 := Kd.C_take (m := ((t290.length : Int) : Int).toNat) hC48 (by omega)
                              have hy48 : y312.length = ((t290.length : Int) : Int).toNat := (by rw [Ny312.out, List.length_take]; omega)
                              rw [← Ny312.out] at hr48
                              rw [← hy48] at hcut48
                              have HR315 := Aside0.mk hr48
                              have HC315 := Aside0.mk (show y312.length ≤ co49 from by omega)
                              clear hr48 hC48 hroom48 hi048 hsz48
                              have KY48 := Aside0.mk hy48
                              clear hy48
                              have KL48 := Aside0.mk (show ((t290.length : Int) : Int).toNat ≤ t305.length from by omega)
                              replace q48 := eq_true q48
                              go_wp2_with (first | ((with_reducible refine gate_callee (f := 33) rfl ?_); refine goesL_ (some 101) rfl rfl Tryd.func33 (by kernel_rfl) rfl #[.slice Ao49 y312.length co49, .slice Ao47 t290.length co47] rfl (by (try simp only [List.map_toArray, List.map_cons, List.map_nil]); first | done | rfl | (simp only [List.length_drop, List.length_take]; rfl)) ?_; (with_reducible refine (eddylaw1_alike.calls kj26 _ _ y312 _ _ t290 true _ ?side1 ?side2 ?side3 ?side4 A42.out).mono ?_); (case side1 => repeat (first | exact (by repeat (first | (with_reducible exact HR315.out) | (with_reducible refine Kd.C_alloc ?_ _) | (with_reducible refine Kd.C_drewN ?_ _) | (with_reducible refine Kd.C_drew ?_) | exact HR315.out)) | (with_reducible refine Kd.C_alloc ?_ _) | (with_reducible refine Kd.C_drewN ?_ _) | (with_reducible refine Kd.C_drew ?_))); (case side2 => exact HC315.out); (case side3 => repeat (first | exact (Kd.S_reads' HO_7.out).2.2 | (with_reducible refine Kd.C_alloc ?_ _) | (with_reducible refine Kd.C_drewN ?_ _) | (with_reducible refine Kd.C_drew ?_))); (case side4 => exact (Kd.S_reads' HO_7.out).2.1); rintro e w' ⟨rfl, ⟨nd, rfl⟩⟩; refine ⟨_, rfl, ?_⟩; have q50 : ((t290.length : Int) : Int) ≤ ((t305.length : Int) : Int) := of_decide_eq_true (by first | (with_reducible assumption) | assumption); obtain ⟨i050, hi050, _, hsz50, _⟩ := info_parts info23; have hroom50 : t305.length ≤ co49 := (Kd.S_reads' HO_13.out).2.1; have hC50 : Kd.C (Kd.slice 5 (Kd.int .u8)) _ Ao49 t305.length t305 := (Kd.S_reads' HO_13.out).2.2; have q050 : (0 : Int) ≤ ((t290.length : Int) : Int) := of_decide_eq_true (by first | (with_reducible assumption) | assumption); have hcut50 := cut_from (P := Tryd.prog) 41 23 .i64 Tryd.underlying41 hi050 1 hsz50 Ao49 t305.length co49 (t290.length : Int) q050 q50; have hr50 := Kd.C_drop (m := ((t290.length : Int) : Int).toNat) (c := co49) hC50 (by omega) hroom50; obtain ⟨A50, hA50⟩ : ∃ A1, A1 = (if co49 = ((t290.length : Int) : Int).toNat then Ao49 else (Ao49 : Option Addr).map (·.add (((t290.length : Int) : Int).toNat * 1))) := ⟨_, rfl⟩; obtain ⟨c50, hc50⟩ : ∃ c1, c1 = co49 - ((t290.length : Int) : Int).toNat := ⟨_, rfl⟩; have hy50 : y317.length = t305.length - ((t290.length : Int) : Int).toNat := (by rw [Ny317.out, List.length_drop] <;> omega); rw [show (t305).drop ((t290.length : Int) : Int).toNat = y317 from Ny317.out.symm] at hr50; replace hr50 : Kd.C (Kd.slice 5 (Kd.int .u8)) _ A50 y317.length y317 := (by rw [hA50]; exact hr50); rw [← hy50, ← hA50, ← hc50] at hcut50; have HR320 := Aside0.mk hr50; have HC320 := Aside0.mk (show y317.length ≤ c50 from by rw [hy50, hc50]; exact Nat.sub_le_sub_right hroom50 _); clear hr50 hC50 hroom50 hi050 hsz50 hc50; have KY50 := Aside0.mk hy50; have KA50 := Aside0.mk hA50; clear hy50 hA50; have KL50 := Aside0.mk (show ((t290.length : Int) : Int).toNat ≤ t305.length from by omega); replace q50 := eq_true q50; obtain ⟨Ao51, co51, eo51⟩ := Kd.S_slice HO_10.out; subst eo51) | (go_at_call 33; (with_reducible refine (eddylaw1_alike.calls kj26 _ _ y317 _ _ t297 t321 _ ?side1 ?side2 ?side3 ?side4 A46.out).mono ?_); (case side1 => repeat (first | exact (by repeat (first | (with_reducible exact HR320.out) | (with_reducible refine Kd.C_alloc ?_ _) | (with_reducible refine Kd.C_drewN ?_ _) | (with_reducible refine Kd.C_drew ?_) | exact HR320.out)) | (with_reducible refine Kd.C_alloc ?_ _) | (with_reducible refine Kd.C_drewN ?_ _) | (with_reducible refine Kd.C_drew ?_))); (case side2 => exact HC320.out); (case side3 => repeat (first | exact (Kd.S_reads' HO_10.out).2.2 | (with_reducible refine Kd.C_alloc ?_ _) | (with_reducible refine Kd.C_drewN ?_ _) | (with_reducible refine Kd.C_drew ?_))); (case side4 => exact (Kd.S_reads' HO_10.out).2.1); rintro e w' ⟨rfl, ⟨nd, rfl⟩⟩))
                              go_ret
                              exact ⟨by first | rfl | (simp [errW_none, errW_some] <;> rfl) | (simp [*, errW_none, errW_some] <;> rfl), by repeat (first | (with_reducible first | exact HB.out | apply below_alloc | apply pw_below_drewN | apply below_drew1) | exact HB.out)⟩
                            · replace c43 := Bool.eq_false_iff.mpr c43
                              subst c43
                              have H1 : (some false) = some r := by rw [if_neg (show ¬ (false = true) by decide)] at H; exact H
                              clear H
                              have H := H1
                              clear H1
                              obtain rfl := Option.some.inj H
                              obtain ⟨Ao52, co52, eo52⟩ := Kd.S_slice HO_7.out
                              subst eo52
                              obtain ⟨Ao54, co54, eo54⟩ := Kd.S_slice HO_13.out
                              subst eo54
                              have q53 : ((t290.length : Int) : Int) ≤ ((t305.length : Int) : Int) := of_decide_eq_true (by first | (with_reducible assumption) | assumption)
                              obtain ⟨i053, hi053, _, hsz53, _⟩ := info_parts info23
                              have hroom53 : t305.length ≤ co54 := (Kd.S_reads' HO_13.out).2.1
                              have hC53 : Kd.C (Kd.slice 5 (Kd.int .u8)) _ Ao54 t305.length t305 := (Kd.S_reads' HO_13.out).2.2
                              have hcut53 := cut_to (P := Tryd.prog) 41 23 .i64 Tryd.underlying41 hi053 Ao54 t305.length co54 (t290.length : Int) (of_decide_eq_true (by first | (with_reducible assumption) | assumption)) q53 hroom53
                              have hr53 := Kd.C_take (m := ((t290.length : Int) : Int).toNat) hC53 (by omega)
                              have hy53 : y312.length = ((t290.length : Int) : Int).toNat := (by rw [Ny312.out, List.length_take]; omega)
                              rw [← Ny312.out] at hr53
                              rw [← hy53] at hcut53
                              have HR315 := Aside0.mk hr53
                              have HC315 := Aside0.mk (show y312.length ≤ co54 from by omega)
                              clear hr53 hC53 hroom53 hi053 hsz53
                              have KY53 := Aside0.mk hy53
                              clear hy53
                              have KL53 := Aside0.mk (show ((t290.length : Int) : Int).toNat ≤ t305.length from by omega)
                              replace q53 := eq_true q53
                              go_wp2_with (first | ((with_reducible refine gate_callee (f := 33) rfl ?_); refine goesL_ (some 101) rfl rfl Tryd.func33 (by kernel_rfl) rfl #[.slice Ao54 y312.length co54, .slice Ao52 t290.length co52] rfl (by (try simp only [List.map_toArray, List.map_cons, List.map_nil]); first | done | rfl | (simp only [List.length_drop, List.length_take]; rfl)) ?_; (with_reducible refine (eddylaw1_alike.calls kj26 _ _ y312 _ _ t290 false _ ?side1 ?side2 ?side3 ?side4 A42.out).mono ?_); (case side1 => repeat (first | exact (by repeat (first | (with_reducible exact HR315.out) | (with_reducible refine Kd.C_alloc ?_ _) | (with_reducible refine Kd.C_drewN ?_ _) | (with_reducible refine Kd.C_drew ?_) | exact HR315.out)) | (with_reducible refine Kd.C_alloc ?_ _) | (with_reducible refine Kd.C_drewN ?_ _) | (with_reducible refine Kd.C_drew ?_))); (case side2 => exact HC315.out); (case side3 => repeat (first | exact (Kd.S_reads' HO_7.out).2.2 | (with_reducible refine Kd.C_alloc ?_ _) | (with_reducible refine Kd.C_drewN ?_ _) | (with_reducible refine Kd.C_drew ?_))); (case side4 => exact (Kd.S_reads' HO_7.out).2.1); rintro e w' ⟨rfl, ⟨nd, rfl⟩⟩; refine ⟨_, rfl, ?_⟩))
                              go_ret
                              exact ⟨by first | rfl | (simp [errW_none, errW_some] <;> rfl) | (simp [*, errW_none, errW_some] <;> rfl), by repeat (first | (with_reducible first | exact HB.out | apply below_alloc | apply pw_below_drewN | apply below_drew1) | exact HB.out)⟩
                          · rw [if_neg c41] at H
                            exact absurd H (by simp)
                        · rw [if_neg c40] at H
                          exact absurd H (by simp)
          · replace c10 := Bool.eq_false_iff.mpr c10
            subst c10
            have H1 : (some false) = some r := by rw [if_neg (show ¬ (false = true) by decide)] at H; exact H
            clear H
            have H := H1
            clear H1
            obtain rfl := Option.some.inj H
            go_wp2_with (first | ((with_reducible refine gate_callee (f := 30) rfl ?_); refine goesL_ (some 35) rfl rfl Tryd.func30 (by kernel_rfl) rfl #[] rfl (by (try simp only [List.map_toArray, List.map_cons, List.map_nil]); first | done | rfl | (simp only [List.length_drop, List.length_take]; rfl)) ?_; (with_reducible refine (eddylaw1_unwraps.calls A2 c2 l2 false _ ?side1 ?side2 A9.out).mono ?_); (case side1 => repeat (first | exact (Kd.C_below HR2.out HB.out) | (with_reducible refine Kd.C_alloc ?_ _) | (with_reducible refine Kd.C_drewN ?_ _) | (with_reducible refine Kd.C_drew ?_))); (case side2 => exact HC2.out); rintro e w55 ⟨rfl, hb⟩; refine ⟨_, rfl, ?_⟩; have n0_ := Aside0.mk (below_step (by repeat (first | (with_reducible first | exact HB.out | apply below_alloc | apply pw_below_drewN | apply below_drew1) | exact HB.out)) hb); clear HB; have HB := n0_; clear n0_; (try clear hb); (try clear hb2); (try clear hk); (try clear hi)))
            go_ret
            exact ⟨by first | rfl | (simp [errW_none, errW_some] <;> rfl) | (simp [*, errW_none, errW_some] <;> rfl), by repeat (first | (with_reducible first | exact HB.out | apply below_alloc | apply pw_below_drewN | apply below_drew1) | exact HB.out)⟩

end Go.Proofs.YtgfinjhhkmflfaaDoor.PF
