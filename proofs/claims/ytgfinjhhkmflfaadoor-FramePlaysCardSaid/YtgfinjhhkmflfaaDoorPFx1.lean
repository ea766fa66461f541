/- What each Go function named in this text computes, as a Lean function, and that the Go code comes to it; conditions: those in each theorem. (Lines written by this session's program.) -/
import Derived.Test.YtgfinjhhkmflfaaDoorPFx0
namespace Go.Proofs.YtgfinjhhkmflfaaDoor.PF
open Go.RowKit Go.Proofs.YtgfinjhhkmflfaaDoorW.PrintWords Go.Proofs.YtgfinjhhkmflfaaDoorW.PrintLast Go.Proofs.YtgfinjhhkmflfaaDoorW.PrintMore
attribute [local go_sem] max2_int min2_int max_two min_two max_three min_three max_four min_four   -- for this text's walks alone
set_option linter.unusedVariables false
set_option linter.unusedSimpArgs false

/-! ### eddyref1_bit: function 38 -/
def eddyref1_bit.f (l0 : List Int) (a1 : Int) : Option (Int) := if a1 ≥ (wrap64 (8 * (l0.length : Int))) then (some 0) else (if 0 ≤ (wrap64 (Int.tdiv a1 8)) then (if (wrap64 (Int.tdiv a1 8)) < (l0.length : Int) then (if 0 ≤ (Int.tmod a1 8) then (some (Go.bits .and .i64 (shr .i64 (wrap64 (rd l0 (wrap64 (Int.tdiv a1 8)))) (Int.tmod a1 8)) 1)) else (none)) else (none)) else (none))
set_option maxHeartbeats 8000000 in
set_option maxRecDepth 100000 in
theorem eddyref1_bit.calls (A0 : Option Addr) (c0 : Nat) (l0 : List Int) (a1 : Int) (r : Int) (w : World) (hr0 : Kd.C (Kd.int .u8) w A0 l0.length l0) (hc0 : l0.length ≤ c0) (h : eddyref1_bit.f l0 a1 = some r) :
    Calls Tryd.prog 38 #[.slice A0 l0.length c0, .int .i64 a1] w fun e w' => e = .returned (.int .i64 r) ∧ Drawn0 w w' := by
  have HR0 := Aside0.mk hr0
  have HC0 := Aside0.mk hc0
  clear hr0 hc0
  have H : (if a1 ≥ (wrap64 (8 * (l0.length : Int))) then (some 0) else (if 0 ≤ (wrap64 (Int.tdiv a1 8)) then (if (wrap64 (Int.tdiv a1 8)) < (l0.length : Int) then (if 0 ≤ (Int.tmod a1 8) then (some (Go.bits .and .i64 (shr .i64 (wrap64 (rd l0 (wrap64 (Int.tdiv a1 8)))) (Int.tmod a1 8)) 1)) else (none)) else (none)) else (none))) = some r := h
  clear h
  by_cases c3 : a1 ≥ (wrap64 (8 * (l0.length : Int)))
  · rw [if_pos c3] at H
    have c3b0 : decide ((wrap64 (8 * (l0.length : Int))) ≤ a1) = true := decide_eq_true c3
    clear c3
    obtain rfl := Option.some.inj H
    go_enter Tryd.func38, Tryd.ntmps38
    go_wp2
    go_ret
    exact ⟨by first | rfl | (simp; done) | (simp [*]; done), by repeat (first | exact Drawn0.refl _ | apply Drawn0.step)⟩
  · rw [if_neg c3] at H
    have c3b0 : decide ((wrap64 (8 * (l0.length : Int))) ≤ a1) = false := decide_eq_false c3
    clear c3
    obtain ⟨ji4, hji4⟩ : ∃ j_ : Int, (wrap64 (Int.tdiv a1 8)) = j_ := ⟨_, rfl⟩
    replace H : (if 0 ≤ (ji4) then (if (ji4) < (l0.length : Int) then (if 0 ≤ (Int.tmod a1 8) then (some (Go.bits .and .i64 (shr .i64 (wrap64 (rd l0 (ji4))) (Int.tmod a1 8)) 1)) else (none)) else (none)) else (none)) = some r := by first | (rw [hji4] at H; exact H) | (simp only [hji4] at H ⊢; exact H)
    have hji4w : (IntKind.i64.wrap (Int.tdiv a1 8)) = ji4 := (i64_w _).trans hji4
    by_cases c5 : 0 ≤ (ji4)
    · rw [if_pos c5] at H
      have c5b0 : decide (0 ≤ (ji4)) = true := decide_eq_true c5
      clear c5
      by_cases c6 : (ji4) < (l0.length : Int)
      · rw [if_pos c6] at H
        have c6b0 : decide ((ji4) < (l0.length : Int)) = true := decide_eq_true c6
        clear c6
        obtain ⟨ji7, hji7⟩ : ∃ j_ : Int, (Int.tmod a1 8) = j_ := ⟨_, rfl⟩
        replace H : (if 0 ≤ (ji7) then (some (Go.bits .and .i64 (shr .i64 (wrap64 (rd l0 (ji4))) (ji7)) 1)) else (none)) = some r := by first | (rw [hji7] at H; exact H) | (simp only [hji7] at H ⊢; exact H)
        by_cases c8 : 0 ≤ (ji7)
        · rw [if_pos c8] at H
          have c8b0 := eq_true c8
          have c8b1 : decide (0 ≤ (ji7)) = true := decide_eq_true c8
          clear c8
          obtain ⟨ji9, hji9⟩ : ∃ j_ : Int, (shr .i64 (wrap64 (rd l0 (ji4))) (ji7)) = j_ := ⟨_, rfl⟩
          replace H : (some (Go.bits .and .i64 (ji9) 1)) = some r := by first | (rw [hji9] at H; exact H) | (simp only [hji9] at H ⊢; exact H)
          have hji9_ : ((wrap64 (rd l0 (ji4))) / 2 ^ min (ji7).toNat 64) = ji9 := hji9
          have hji9z : (ji7) ≤ 64 → ((wrap64 (rd l0 (ji4))) / 2 ^ (ji7).toNat) = ji9 := shr_small hji9
          obtain rfl := Option.some.inj H
          have p101 : 0 ≤ ((ji4) : Int) := of_decide_eq_true (by first | (with_reducible assumption) | assumption)
          have q101 : (ji4) < (l0.length : Int) := of_decide_eq_true (by first | (with_reducible assumption) | assumption)
          obtain ⟨ad101, e101, hx101_0⟩ := Kd.at_int HR0.out (ji4) p101 q101
          cases e101
          replace p101 := eq_true p101
          replace q101 := eq_true q101
          go_enter Tryd.func38, Tryd.ntmps38
          go_wp2
          go_ret
          exact ⟨by first | rfl | (simp; done) | (simp only [← hji4, ← hji7, ← hji9] <;> (first | rfl | simp)) | (simp [*]; done), by repeat (first | exact Drawn0.refl _ | apply Drawn0.step)⟩
        · rw [if_neg c8] at H
          exact absurd H (by simp)
      · rw [if_neg c6] at H
        exact absurd H (by simp)
    · rw [if_neg c5] at H
      exact absurd H (by simp)

/-! ### eddyref1_turned: function 39 -/
def eddyref1_turned.l0 : Nat → Int → Int → Int → Option (Int)
  | 0, _, _, _ => none
  | k + 1, x0, x3, x4 => if x4 < 32 then (if 0 ≤ x4 then (eddyref1_turned.l0 k x0 (wrap64 ((wrap64 (2 * x3)) + (Go.bits .and .i64 (shr .i64 x0 x4) 1))) (wrap64 (x4 + 1))) else (none)) else (some x3)
def eddyref1_turned.f (k : Nat) (a0 : Int) : Option (Int) := eddyref1_turned.l0 k a0 0 0
theorem eddyref1_turned.mono_l : ∀ k, (∀ y0 y1 y2, LeO (eddyref1_turned.l0 k y0 y1 y2) (eddyref1_turned.l0 (k + 1) y0 y1 y2))
  | 0 => fun _ _ _ r h => by simp [eddyref1_turned.l0] at h
  | k + 1 => by
    have ih0 := eddyref1_turned.mono_l k
    · intro y0 y1 y2
      unfold eddyref1_turned.l0
      repeat' first
      | (with_reducible exact ih0 _ _ _)
      | (with_reducible exact LeO.refl _)
      | (with_reducible exact LeO.none _)
      | (with_reducible refine LeO.ite ?_ ?_)
      | (with_reducible refine LeO.bind ?_ (fun _ => ?_))
      | exact ih0 _ _ _
      | exact LeO.none _
      | refine LeO.ite ?_ ?_
      | refine LeO.bind ?_ (fun _ => ?_)
theorem eddyref1_turned.mono : ∀ a0 k, LeO (eddyref1_turned.f k a0) (eddyref1_turned.f (k + 1) a0) := by
  intro a0 k
  have ih0 := eddyref1_turned.mono_l k
  unfold eddyref1_turned.f
  repeat' first
      | (with_reducible exact ih0 _ _ _)
      | (with_reducible exact LeO.refl _)
      | (with_reducible exact LeO.none _)
      | (with_reducible refine LeO.ite ?_ ?_)
      | (with_reducible refine LeO.bind ?_ (fun _ => ?_))
      | exact ih0 _ _ _
      | exact LeO.none _
      | refine LeO.ite ?_ ?_
      | refine LeO.bind ?_ (fun _ => ?_)
set_option maxHeartbeats 8000000 in
set_option maxRecDepth 100000 in
theorem eddyref1_turned.calls (k : Nat) (a0 : Int) (r : Int) (w : World) (h : eddyref1_turned.f k a0 = some r) :
    Calls Tryd.prog 39 #[.int .i64 a0] w fun e w' => e = .returned (.int .i64 r) ∧ Drawn0 w w' := by
  have H : (eddyref1_turned.l0 k a0 0 0) = some r := h
  clear h
  have H' := Aside0.mk H
  clear H
  go_enter Tryd.func39, Tryd.ntmps39
  go_wp2
  go_loopg [3, 4] k (fun kq v3 v4 w' => ∃ (x3_1 : Int) (x4_1 : Int), v3 = .int .i64 x3_1 ∧ v4 = .int .i64 x4_1 ∧ Aside0 (eddyref1_turned.l0 kq a0 x3_1 x4_1 = some r) ∧ Aside0 (kq ≤ k) ∧ Drawn0 w w')
  case atStart => exact ⟨(0), (0), (by first | rfl | (simp; done) | (simp [*]; done)), (by first | rfl | (simp; done) | (simp [*]; done)), H', ⟨Nat.le_refl _⟩, by repeat (first | exact Drawn0.refl _ | apply Drawn0.step)⟩
  case round =>
    clear H'
    obtain ⟨x3_1, x4_1, rfl, rfl, HA, HK1, ⟨m1, rfl⟩⟩ := hrel
    cases gk with
    | zero => exact absurd HA.out (by simp [eddyref1_turned.l0])
    | succ k1 =>
      have H := HA.out
      clear HA
      simp only [eddyref1_turned.l0] at H
      by_cases c2 : x4_1 < 32
      · rw [if_pos c2] at H
        have c2b0 : decide (x4_1 < 32) = true := decide_eq_true c2
        clear c2
        by_cases c3 : 0 ≤ x4_1
        · rw [if_pos c3] at H
          have c3b0 := eq_true c3
          have c3b1 : decide (0 ≤ x4_1) = true := decide_eq_true c3
          clear c3
          obtain ⟨ji4, hji4⟩ : ∃ j_ : Int, (shr .i64 a0 x4_1) = j_ := ⟨_, rfl⟩
          replace H : (eddyref1_turned.l0 k1 a0 (wrap64 ((wrap64 (2 * x3_1)) + (Go.bits .and .i64 (ji4) 1))) (wrap64 (x4_1 + 1))) = some r := by first | (rw [hji4] at H; exact H) | (simp only [hji4] at H ⊢; exact H)
          have hji4_ : (a0 / 2 ^ min x4_1.toNat 64) = ji4 := hji4
          have hji4z : x4_1 ≤ 64 → (a0 / 2 ^ x4_1.toNat) = ji4 := shr_small hji4
          have H' := Aside0.mk H
          clear H
          go_wp2
          go_roundg k1
          case measure => have := HK1.out; omega
          case rel => exact ⟨(wrap64 ((wrap64 (2 * x3_1)) + (Go.bits .and .i64 (ji4) 1))), (wrap64 (x4_1 + 1)), (by first | rfl | (simp; done) | (simp only [← hji4] <;> (first | rfl | simp)) | (simp [*]; done)), (by first | rfl | (simp; done) | (simp [*]; done)), H', ⟨by have := HK1.out; omega⟩, by repeat (first | exact Drawn0.refl _ | apply Drawn0.step)⟩
        · rw [if_neg c3] at H
          exact absurd H (by simp)
      · rw [if_neg c2] at H
        have c2b0 : decide (x4_1 < 32) = false := decide_eq_false c2
        clear c2
        obtain rfl := Option.some.inj H
        go_wp2
        go_ret
        exact ⟨by first | rfl | (simp; done) | (simp [*]; done), by repeat (first | exact Drawn0.refl _ | apply Drawn0.step)⟩

/-! ### eddyref1_Add: function 18 -/
def eddyref1_Add.l0 : Nat → List Int → Int → Int → Int → Option (Int)
  | 0, _, _, _, _ => none
  | k + 1, x1, x5, x6, x7 => if x7 < (wrap64 ((wrap64 (8 * (x1.length : Int))) + 32)) then ((eddyref1_bit.f x1 x7).bind fun t103 => (if x7 < 32 then (if 0 ≤ x7 then (if (wrap64 ((wrap64 (2 * x6)) + (Int.tmod (wrap64 (t103 + (Go.bits .and .i64 (shr .i64 x5 x7) 1))) 2))) > 4294967295 then (eddyref1_Add.l0 k x1 x5 (Go.bits .xor .i64 (wrap64 ((wrap64 (2 * x6)) + (Int.tmod (wrap64 (t103 + (Go.bits .and .i64 (shr .i64 x5 x7) 1))) 2))) 4374732215) (wrap64 (x7 + 1))) else (eddyref1_Add.l0 k x1 x5 (wrap64 ((wrap64 (2 * x6)) + (Int.tmod (wrap64 (t103 + (Go.bits .and .i64 (shr .i64 x5 x7) 1))) 2))) (wrap64 (x7 + 1)))) else (none)) else (if (wrap64 ((wrap64 (2 * x6)) + t103)) > 4294967295 then (eddyref1_Add.l0 k x1 x5 (Go.bits .xor .i64 (wrap64 ((wrap64 (2 * x6)) + t103)) 4374732215) (wrap64 (x7 + 1))) else (eddyref1_Add.l0 k x1 x5 (wrap64 ((wrap64 (2 * x6)) + t103)) (wrap64 (x7 + 1)))))) else ((eddyref1_turned.f k x6).bind fun t102 => (some ((wrap64 (4294967295 - t102)) % 4294967296)))
def eddyref1_Add.f (k : Nat) (a0 : Int) (l1 : List Int) : Option (Int) := eddyref1_Add.l0 k l1 (wrap64 (4294967295 - (wrap64 (a0)))) 0 0
theorem eddyref1_Add.mono_l : ∀ k, (∀ y0 y1 y2 y3, LeO (eddyref1_Add.l0 k y0 y1 y2 y3) (eddyref1_Add.l0 (k + 1) y0 y1 y2 y3))
  | 0 => fun _ _ _ _ r h => by simp [eddyref1_Add.l0] at h
  | k + 1 => by
    have ih0 := eddyref1_Add.mono_l k
    · intro y0 y1 y2 y3
      unfold eddyref1_Add.l0
      repeat' first
      | (with_reducible exact ih0 _ _ _ _)
      | (with_reducible exact eddyref1_turned.mono _ _)
      | (with_reducible exact LeO.refl _)
      | (with_reducible exact LeO.none _)
      | (with_reducible refine LeO.ite ?_ ?_)
      | (with_reducible refine LeO.bind ?_ (fun _ => ?_))
      | exact ih0 _ _ _ _
      | exact eddyref1_turned.mono _ _
      | exact LeO.none _
      | refine LeO.ite ?_ ?_
      | refine LeO.bind ?_ (fun _ => ?_)
theorem eddyref1_Add.mono : ∀ a0 a1 k, LeO (eddyref1_Add.f k a0 a1) (eddyref1_Add.f (k + 1) a0 a1) := by
  intro a0 a1 k
  have ih0 := eddyref1_Add.mono_l k
  unfold eddyref1_Add.f
  repeat' first
      | (with_reducible exact ih0 _ _ _ _)
      | (with_reducible exact eddyref1_turned.mono _ _)
      | (with_reducible exact LeO.refl _)
      | (with_reducible exact LeO.none _)
      | (with_reducible refine LeO.ite ?_ ?_)
      | (with_reducible refine LeO.bind ?_ (fun _ => ?_))
      | exact ih0 _ _ _ _
      | exact eddyref1_turned.mono _ _
      | exact LeO.none _
      | refine LeO.ite ?_ ?_
      | refine LeO.bind ?_ (fun _ => ?_)
set_option maxHeartbeats 8000000 in
set_option maxRecDepth 100000 in
theorem eddyref1_Add.calls (k : Nat) (a0 : Int) (A1 : Option Addr) (c1 : Nat) (l1 : List Int) (r : Int) (w : World) (hr1 : Kd.C (Kd.int .u8) w A1 l1.length l1) (hc1 : l1.length ≤ c1) (h : eddyref1_Add.f k a0 l1 = some r) :
    Calls Tryd.prog 18 #[.int .u32 a0, .slice A1 l1.length c1] w fun e w' => e = .returned (.int .u32 r) ∧ Drawn0 w w' := by
  have HR1 := Aside0.mk hr1
  have HC1 := Aside0.mk hc1
  clear hr1 hc1
  have H : (eddyref1_Add.l0 k l1 (wrap64 (4294967295 - (wrap64 (a0)))) 0 0) = some r := h
  clear h
  have H' := Aside0.mk H
  clear H
  go_enter Tryd.func18, Tryd.ntmps18
  go_wp2
  go_loopg [6, 7] k (fun kq v6 v7 w' => ∃ (x6_1 : Int) (x7_1 : Int), v6 = .int .i64 x6_1 ∧ v7 = .int .i64 x7_1 ∧ Aside0 (eddyref1_Add.l0 kq l1 (wrap64 (4294967295 - (wrap64 (a0)))) x6_1 x7_1 = some r) ∧ Aside0 (kq ≤ k) ∧ Drawn0 w w')
  case atStart => exact ⟨(0), (0), (by first | rfl | (simp; done) | (simp [*]; done)), (by first | rfl | (simp; done) | (simp [*]; done)), H', ⟨Nat.le_refl _⟩, by repeat (first | exact Drawn0.refl _ | apply Drawn0.step)⟩
  case round =>
    clear H'
    try clear c1
    try clear p2
    obtain ⟨x6_1, x7_1, rfl, rfl, HA, HK1, ⟨m1, rfl⟩⟩ := hrel
    cases gk with
    | zero => exact absurd HA.out (by simp [eddyref1_Add.l0])
    | succ k1 =>
      have H := HA.out
      clear HA
      simp only [eddyref1_Add.l0] at H
      by_cases c3 : x7_1 < (wrap64 ((wrap64 (8 * (l1.length : Int))) + 32))
      · rw [if_pos c3] at H
        have c3b0 : decide (x7_1 < (wrap64 ((wrap64 (8 * (l1.length : Int))) + 32))) = true := decide_eq_true c3
        clear c3
        replace H := Option.bind_eq_some_iff.mp H
        obtain ⟨t103, A40, H⟩ := H
        replace H : (if x7_1 < 32 then (if 0 ≤ x7_1 then (if (wrap64 ((wrap64 (2 * x6_1)) + (Int.tmod (wrap64 (t103 + (Go.bits .and .i64 (shr .i64 (wrap64 (4294967295 - (wrap64 (a0)))) x7_1) 1))) 2))) > 4294967295 then (eddyref1_Add.l0 k1 l1 (wrap64 (4294967295 - (wrap64 (a0)))) (Go.bits .xor .i64 (wrap64 ((wrap64 (2 * x6_1)) + (Int.tmod (wrap64 (t103 + (Go.bits .and .i64 (shr .i64 (wrap64 (4294967295 - (wrap64 (a0)))) x7_1) 1))) 2))) 4374732215) (wrap64 (x7_1 + 1))) else (eddyref1_Add.l0 k1 l1 (wrap64 (4294967295 - (wrap64 (a0)))) (wrap64 ((wrap64 (2 * x6_1)) + (Int.tmod (wrap64 (t103 + (Go.bits .and .i64 (shr .i64 (wrap64 (4294967295 - (wrap64 (a0)))) x7_1) 1))) 2))) (wrap64 (x7_1 + 1)))) else (none)) else (if (wrap64 ((wrap64 (2 * x6_1)) + t103)) > 4294967295 then (eddyref1_Add.l0 k1 l1 (wrap64 (4294967295 - (wrap64 (a0)))) (Go.bits .xor .i64 (wrap64 ((wrap64 (2 * x6_1)) + t103)) 4374732215) (wrap64 (x7_1 + 1))) else (eddyref1_Add.l0 k1 l1 (wrap64 (4294967295 - (wrap64 (a0)))) (wrap64 ((wrap64 (2 * x6_1)) + t103)) (wrap64 (x7_1 + 1))))) = some r := H
        have A4 := Aside0.mk A40
        clear A40
        by_cases c5 : x7_1 < 32
        · rw [if_pos c5] at H
          have c5b0 : decide (x7_1 < 32) = true := decide_eq_true c5
          clear c5
          by_cases c6 : 0 ≤ x7_1
          · rw [if_pos c6] at H
            have c6b0 := eq_true c6
            have c6b1 : decide (0 ≤ x7_1) = true := decide_eq_true c6
            clear c6
            obtain ⟨ji7, hji7⟩ : ∃ j_ : Int, (shr .i64 (wrap64 (4294967295 - (wrap64 (a0)))) x7_1) = j_ := ⟨_, rfl⟩
            replace H : (if (wrap64 ((wrap64 (2 * x6_1)) + (Int.tmod (wrap64 (t103 + (Go.bits .and .i64 (ji7) 1))) 2))) > 4294967295 then (eddyref1_Add.l0 k1 l1 (wrap64 (4294967295 - (wrap64 (a0)))) (Go.bits .xor .i64 (wrap64 ((wrap64 (2 * x6_1)) + (Int.tmod (wrap64 (t103 + (Go.bits .and .i64 (ji7) 1))) 2))) 4374732215) (wrap64 (x7_1 + 1))) else (eddyref1_Add.l0 k1 l1 (wrap64 (4294967295 - (wrap64 (a0)))) (wrap64 ((wrap64 (2 * x6_1)) + (Int.tmod (wrap64 (t103 + (Go.bits .and .i64 (ji7) 1))) 2))) (wrap64 (x7_1 + 1)))) = some r := by first | (rw [hji7] at H; exact H) | (simp only [hji7] at H ⊢; exact H)
            (try rw [hji7] at A4)
            have hji7_ : ((wrap64 (4294967295 - (wrap64 (a0)))) / 2 ^ min x7_1.toNat 64) = ji7 := hji7
            have hji7z : x7_1 ≤ 64 → ((wrap64 (4294967295 - (wrap64 (a0)))) / 2 ^ x7_1.toNat) = ji7 := shr_small hji7
            by_cases c8 : (wrap64 ((wrap64 (2 * x6_1)) + (Int.tmod (wrap64 (t103 + (Go.bits .and .i64 (ji7) 1))) 2))) > 4294967295
            · rw [if_pos c8] at H
              have c8b0 : decide (4294967295 < (wrap64 ((wrap64 (2 * x6_1)) + (Int.tmod (wrap64 (t103 + (Go.bits .and .i64 (ji7) 1))) 2)))) = true := decide_eq_true c8
              clear c8
              have H' := Aside0.mk H
              clear H
              go_wp2_with (first | ((with_reducible refine gate_callee (f := 38) rfl ?_); refine goesL_ (some 23) rfl rfl Tryd.func38 (by kernel_rfl) rfl #[.slice A1 l1.length c1, .int .i64 x7_1] rfl (by (try simp only [List.map_toArray, List.map_cons, List.map_nil]); first | done | rfl | (simp only [List.length_drop, List.length_take]; rfl)) ?_; (with_reducible refine (eddyref1_bit.calls _ _ l1 x7_1 t103 _ ?side1 ?side2 A4.out).mono ?_); (case side1 => repeat (first | exact HR1.out | (with_reducible refine Kd.C_alloc ?_ _) | (with_reducible refine Kd.C_drewN ?_ _) | (with_reducible refine Kd.C_drew ?_))); (case side2 => exact HC1.out); rintro e w' ⟨rfl, ⟨nd, rfl⟩⟩; refine ⟨_, rfl, ?_⟩))
              go_roundg k1
              case measure => have := HK1.out; omega
              case rel => exact ⟨(Go.bits .xor .i64 (wrap64 ((wrap64 (2 * x6_1)) + (Int.tmod (wrap64 (t103 + (Go.bits .and .i64 (ji7) 1))) 2))) 4374732215), (wrap64 (x7_1 + 1)), (by first | rfl | (simp; done) | (simp only [← hji7] <;> (first | rfl | simp)) | (simp [*]; done)), (by first | rfl | (simp; done) | (simp [*]; done)), H', ⟨by have := HK1.out; omega⟩, by repeat (first | exact Drawn0.refl _ | apply Drawn0.step)⟩
            · rw [if_neg c8] at H
              have c8b0 : decide (4294967295 < (wrap64 ((wrap64 (2 * x6_1)) + (Int.tmod (wrap64 (t103 + (Go.bits .and .i64 (ji7) 1))) 2)))) = false := decide_eq_false c8
              clear c8
              have H' := Aside0.mk H
              clear H
              go_wp2_with (first | ((with_reducible refine gate_callee (f := 38) rfl ?_); refine goesL_ (some 23) rfl rfl Tryd.func38 (by kernel_rfl) rfl #[.slice A1 l1.length c1, .int .i64 x7_1] rfl (by (try simp only [List.map_toArray, List.map_cons, List.map_nil]); first | done | rfl | (simp only [List.length_drop, List.length_take]; rfl)) ?_; (with_reducible refine (eddyref1_bit.calls _ _ l1 x7_1 t103 _ ?side1 ?side2 A4.out).mono ?_); (case side1 => repeat (first | exact HR1.out | (with_reducible refine Kd.C_alloc ?_ _) | (with_reducible refine Kd.C_drewN ?_ _) | (with_reducible refine Kd.C_drew ?_))); (case side2 => exact HC1.out); rintro e w' ⟨rfl, ⟨nd, rfl⟩⟩; refine ⟨_, rfl, ?_⟩))
              go_roundg k1
              case measure => have := HK1.out; omega
              case rel => exact ⟨(wrap64 ((wrap64 (2 * x6_1)) + (Int.tmod (wrap64 (t103 + (Go.bits .and .i64 (ji7) 1))) 2))), (wrap64 (x7_1 + 1)), (by first | rfl | (simp; done) | (simp only [← hji7] <;> (first | rfl | simp)) | (simp [*]; done)), (by first | rfl | (simp; done) | (simp [*]; done)), H', ⟨by have := HK1.out; omega⟩, by repeat (first | exact Drawn0.refl _ | apply Drawn0.step)⟩
          · rw [if_neg c6] at H
            exact absurd H (by simp)
        · rw [if_neg c5] at H
          have c5b0 : decide (x7_1 < 32) = false := decide_eq_false c5
          clear c5
          by_cases c9 : (wrap64 ((wrap64 (2 * x6_1)) + t103)) > 4294967295
          · rw [if_pos c9] at H
            have c9b0 : decide (4294967295 < (wrap64 ((wrap64 (2 * x6_1)) + t103))) = true := decide_eq_true c9
            clear c9
            have H' := Aside0.mk H
            clear H
            go_wp2_with (first | ((with_reducible refine gate_callee (f := 38) rfl ?_); refine goesL_ (some 23) rfl rfl Tryd.func38 (by kernel_rfl) rfl #[.slice A1 l1.length c1, .int .i64 x7_1] rfl (by (try simp only [List.map_toArray, List.map_cons, List.map_nil]); first | done | rfl | (simp only [List.length_drop, List.length_take]; rfl)) ?_; (with_reducible refine (eddyref1_bit.calls _ _ l1 x7_1 t103 _ ?side1 ?side2 A4.out).mono ?_); (case side1 => repeat (first | exact HR1.out | (with_reducible refine Kd.C_alloc ?_ _) | (with_reducible refine Kd.C_drewN ?_ _) | (with_reducible refine Kd.C_drew ?_))); (case side2 => exact HC1.out); rintro e w' ⟨rfl, ⟨nd, rfl⟩⟩; refine ⟨_, rfl, ?_⟩))
            go_roundg k1
            case measure => have := HK1.out; omega
            case rel => exact ⟨(Go.bits .xor .i64 (wrap64 ((wrap64 (2 * x6_1)) + t103)) 4374732215), (wrap64 (x7_1 + 1)), (by first | rfl | (simp; done) | (simp [*]; done)), (by first | rfl | (simp; done) | (simp [*]; done)), H', ⟨by have := HK1.out; omega⟩, by repeat (first | exact Drawn0.refl _ | apply Drawn0.step)⟩
          · rw [if_neg c9] at H
            have c9b0 : decide (4294967295 < (wrap64 ((wrap64 (2 * x6_1)) + t103))) = false := decide_eq_false c9
            clear c9
            have H' := Aside0.mk H
            clear H
            go_wp2_with (first | ((with_reducible refine gate_callee (f := 38) rfl ?_); refine goesL_ (some 23) rfl rfl Tryd.func38 (by kernel_rfl) rfl #[.slice A1 l1.length c1, .int .i64 x7_1] rfl (by (try simp only [List.map_toArray, List.map_cons, List.map_nil]); first | done | rfl | (simp only [List.length_drop, List.length_take]; rfl)) ?_; (with_reducible refine (eddyref1_bit.calls _ _ l1 x7_1 t103 _ ?side1 ?side2 A4.out).mono ?_); (case side1 => repeat (first | exact HR1.out | (with_reducible refine Kd.C_alloc ?_ _) | (with_reducible refine Kd.C_drewN ?_ _) | (with_reducible refine Kd.C_drew ?_))); (case side2 => exact HC1.out); rintro e w' ⟨rfl, ⟨nd, rfl⟩⟩; refine ⟨_, rfl, ?_⟩))
            go_roundg k1
            case measure => have := HK1.out; omega
            case rel => exact ⟨(wrap64 ((wrap64 (2 * x6_1)) + t103)), (wrap64 (x7_1 + 1)), (by first | rfl | (simp; done) | (simp [*]; done)), (by first | rfl | (simp; done) | (simp [*]; done)), H', ⟨by have := HK1.out; omega⟩, by repeat (first | exact Drawn0.refl _ | apply Drawn0.step)⟩
      · rw [if_neg c3] at H
        have c3b0 : decide (x7_1 < (wrap64 ((wrap64 (8 * (l1.length : Int))) + 32))) = false := decide_eq_false c3
        clear c3
        replace H := Option.bind_eq_some_iff.mp H
        obtain ⟨t102, A100, H⟩ := H
        replace H : (some ((wrap64 (4294967295 - t102)) % 4294967296)) = some r := H
        have A10 := Aside0.mk A100
        clear A100
        obtain rfl := Option.some.inj H
        go_wp2_with (first | ((with_reducible refine gate_callee (f := 39) rfl ?_); refine goesL_ (some 42) rfl rfl Tryd.func39 (by kernel_rfl) rfl #[.int .i64 x6_1] rfl (by (try simp only [List.map_toArray, List.map_cons, List.map_nil]); first | done | rfl | (simp only [List.length_drop, List.length_take]; rfl)) ?_; (with_reducible refine (eddyref1_turned.calls k1 x6_1 t102 _ A10.out).mono ?_); rintro e w' ⟨rfl, ⟨nd, rfl⟩⟩; refine ⟨_, rfl, ?_⟩))
        go_ret
        exact ⟨by first | rfl | (simp; done) | (simp [*]; done), by repeat (first | exact Drawn0.refl _ | apply Drawn0.step)⟩

/-! ### eddyref1_Sum: function 17 -/
def eddyref1_Sum.f (k : Nat) (l0 : List Int) : Option (Int) := (eddyref1_Add.f k 0 l0).bind fun t104 => (some t104)
theorem eddyref1_Sum.mono : ∀ a0 k, LeO (eddyref1_Sum.f k a0) (eddyref1_Sum.f (k + 1) a0) := by
  intro a0 k
  unfold eddyref1_Sum.f
  repeat' first
      | (with_reducible exact eddyref1_Add.mono _ _ _)
      | (with_reducible exact LeO.refl _)
      | (with_reducible exact LeO.none _)
      | (with_reducible refine LeO.ite ?_ ?_)
      | (with_reducible refine LeO.bind ?_ (fun _ => ?_))
      | exact eddyref1_Add.mono _ _ _
      | exact LeO.none _
      | refine LeO.ite ?_ ?_
      | refine LeO.bind ?_ (fun _ => ?_)
set_option maxHeartbeats 8000000 in
set_option maxRecDepth 100000 in
theorem eddyref1_Sum.calls (k : Nat) (A0 : Option Addr) (c0 : Nat) (l0 : List Int) (r : Int) (w : World) (hr0 : Kd.C (Kd.int .u8) w A0 l0.length l0) (hc0 : l0.length ≤ c0) (h : eddyref1_Sum.f k l0 = some r) :
    Calls Tryd.prog 17 #[.slice A0 l0.length c0] w fun e w' => e = .returned (.int .u32 r) ∧ Drawn0 w w' := by
  have HR0 := Aside0.mk hr0
  have HC0 := Aside0.mk hc0
  clear hr0 hc0
  have H : ((eddyref1_Add.f k 0 l0).bind fun t104 => (some t104)) = some r := h
  clear h
  replace H := Option.bind_eq_some_iff.mp H
  obtain ⟨t104, A20, H⟩ := H
  replace H : (some t104) = some r := H
  have A2 := Aside0.mk A20
  clear A20
  obtain rfl := Option.some.inj H
  go_enter Tryd.func17, Tryd.ntmps17
  go_wp2_with (first | ((with_reducible refine gate_callee (f := 18) rfl ?_); refine goesL_ (some 4) rfl rfl Tryd.func18 (by kernel_rfl) rfl #[.int .u32 0, .slice A0 l0.length c0] rfl (by (try simp only [List.map_toArray, List.map_cons, List.map_nil]); first | done | rfl | (simp only [List.length_drop, List.length_take]; rfl)) ?_; (with_reducible refine (eddyref1_Add.calls k 0 _ _ l0 t104 _ ?side1 ?side2 A2.out).mono ?_); (case side1 => repeat (first | exact HR0.out | (with_reducible refine Kd.C_alloc ?_ _) | (with_reducible refine Kd.C_drewN ?_ _) | (with_reducible refine Kd.C_drew ?_))); (case side2 => exact HC0.out); rintro e w' ⟨rfl, ⟨nd, rfl⟩⟩; refine ⟨_, rfl, ?_⟩))
  go_ret
  exact ⟨by first | rfl | (simp; done) | (simp [*]; done), by repeat (first | exact Drawn0.refl _ | apply Drawn0.step)⟩

end Go.Proofs.YtgfinjhhkmflfaaDoor.PF
