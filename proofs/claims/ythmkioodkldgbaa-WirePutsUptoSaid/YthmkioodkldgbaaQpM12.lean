/- What each Go function named in this text computes, as a Lean function, and that the Go code comes to it; conditions: those in each theorem. (Lines written by this session's program.) -/
import Derived.Test.YthmkioodkldgbaaQpM04
import Derived.Test.YthmkioodkldgbaaQpM11
namespace Go.Proofs.Ythmkioodkldgbaa.PD
open Go.RowKit Go.Proofs.YthmkioodkldgbaaW.PrintWords Go.Proofs.YthmkioodkldgbaaW.PrintLast Go.Proofs.YthmkioodkldgbaaW.PrintMore
attribute [local go_sem] max2_int min2_int max_two min_two max_three min_three max_four min_four   -- for this text's walks alone
set_option linter.unusedVariables false
set_option linter.unusedSimpArgs false
/-! ### eddyref4_out: function 73 -/
def eddyref4_out.f (a0 : Int) (a1 : Int) : Option (Bool) := if a0 < 0 then (some true) else (some (decide (a0 > a1)))
set_option maxHeartbeats 8000000 in
set_option maxRecDepth 100000 in
theorem eddyref4_out.calls (a0 : Int) (a1 : Int) (r : Bool) (w : World) (h : eddyref4_out.f a0 a1 = some r) :
  Calls Try.prog 73 #[.int .i64 a0, .int .i64 a1] w fun e w' => e = .returned (.bool r) ∧ Drawn0 w w' := by
 have H : (if a0 < 0 then (some true) else (some (decide (a0 > a1)))) = some r := h
 clear h
 by_cases c3 : a0 < 0
 ·rw [if_pos c3] at H
  have c3b0 : decide (a0 < 0) = true := decide_eq_true c3
  clear c3
  obtain rfl := Option.some.inj H
  go_enter Try.func73, Try.ntmps73
  go_wp2
  go_ret
  exact ⟨by first | rfl | (simp; done) | (simp [*]; done), by repeat (first | exact Drawn0.refl _ | apply Drawn0.step)⟩
 ·rw [if_neg c3] at H
  have c3b0 : decide (a0 < 0) = false := decide_eq_false c3
  clear c3
  obtain rfl := Option.some.inj H
  go_enter Try.func73, Try.ntmps73
  go_wp2
  go_ret
  exact ⟨by first | rfl | (simp; done) | (simp [*]; done), by repeat (first | exact Drawn0.refl _ | apply Drawn0.step)⟩

/-! ### eddyref4_fitGone: function 113 -/
def eddyref4_fitGone.l0 : Nat → List ByteArray → Int → Option (Int)
 | 0, _, _ => none
 | k + 1, x0, x3 => if x3 < (x0.length : Int) then (if 0 ≤ x3 then (if ((rdOf ByteArray.empty x0 x3).size : Int) > 12 then (some 24) else (if x3 > 0 then (if 0 ≤ (wrap64 (x3 - 1)) then (if (wrap64 (x3 - 1)) < (x0.length : Int) then (if ((Op.bytesLess ((rdOf ByteArray.empty x0 (wrap64 (x3 - 1))).toList) ((rdOf ByteArray.empty x0 x3).toList)) = true) then (eddyref4_fitGone.l0 k x0 (wrap64 (x3 + 1))) else (some 42)) else (none)) else (none)) else (eddyref4_fitGone.l0 k x0 (wrap64 (x3 + 1))))) else (none)) else (some 0)
def eddyref4_fitGone.f (k : Nat) (l0 : List ByteArray) : Option (Int) := if (l0.length : Int) > 64 then (some 43) else (eddyref4_fitGone.l0 k l0 0)
set_option maxHeartbeats 8000000 in
set_option maxRecDepth 100000 in
theorem eddyref4_fitGone.calls (k : Nat) (A0 : Option Addr) (c0 : Nat) (l0 : List ByteArray) (r : Int) (w : World) (hr0 : Kd.C Kd.string w A0 l0.length l0) (hc0 : l0.length ≤ c0) (h : eddyref4_fitGone.f k l0 = some r) :
  Calls Try.prog 113 #[.slice A0 l0.length c0] w fun e w' => e = .returned (.int .i64 r) ∧ Drawn0 w w' := by
 have HR0 := Aside0.mk hr0
 have HC0 := Aside0.mk hc0
 clear hr0 hc0
 have H : (if (l0.length : Int) > 64 then (some 43) else (eddyref4_fitGone.l0 k l0 0)) = some r := h
 clear h
 by_cases c2 : (l0.length : Int) > 64
 ·rw [if_pos c2] at H
  have c2b0 : decide (64 < (l0.length : Int)) = true := decide_eq_true c2
  have c2b1 : decide (64 < l0.length) = true := decide_eq_true (by omega)
  clear c2
  obtain rfl := Option.some.inj H
  go_enter Try.func113, Try.ntmps113
  go_wp2
  repeat (go_quiet (fail); try go_wp2)
  go_ret
  exact ⟨by first | rfl | (simp; done) | (simp [*]; done), by repeat (first | exact Drawn0.refl _ | apply Drawn0.step)⟩
 ·rw [if_neg c2] at H
  have c2b0 : decide (64 < (l0.length : Int)) = false := decide_eq_false c2
  have c2b1 : decide (64 < l0.length) = false := decide_eq_false (by omega)
  clear c2
  have H' := Aside0.mk H
  clear H
  go_enter Try.func113, Try.ntmps113
  go_wp2
  repeat (go_quiet (fail); try go_wp2)
  go_loopg [3] k (fun kq v3 w' => ∃ (x3_1 : Int), v3 = .int .i64 x3_1 ∧ Aside0 (eddyref4_fitGone.l0 kq l0 x3_1 = some r) ∧ Aside0 (kq ≤ k) ∧ Drawn0 w w')
  case atStart => exact ⟨(0), (by first | rfl | (simp; done) | (simp [*]; done)), H', ⟨Nat.le_refl _⟩, by repeat (first | exact Drawn0.refl _ | apply Drawn0.step)⟩
  case round =>
   clear H'
   try clear c1
   try clear c2
   try clear c2b0
   try clear c2b1
   try clear p2
   obtain ⟨x3_1, rfl, HA, HK1, ⟨m1, rfl⟩⟩ := hrel
   cases gk with
   | zero => exact absurd HA.out (by simp [eddyref4_fitGone.l0])
   | succ k1 =>
    have H := HA.out
    clear HA
    simp only [eddyref4_fitGone.l0] at H
    by_cases c3 : x3_1 < (l0.length : Int)
    ·rw [if_pos c3] at H
     have c3b0 : decide (x3_1 < (l0.length : Int)) = true := decide_eq_true c3
     clear c3
     by_cases c4 : 0 ≤ x3_1
     ·rw [if_pos c4] at H
      have c4b0 : decide (0 ≤ x3_1) = true := decide_eq_true c4
      clear c4
      by_cases c5 : ((rdOf ByteArray.empty l0 x3_1).size : Int) > 12
      ·rw [if_pos c5] at H
       have c5b0 : decide (12 < ((rdOf ByteArray.empty l0 x3_1).size : Int)) = true := decide_eq_true c5
       have c5b1 : decide (12 < (rdOf ByteArray.empty l0 x3_1).size) = true := decide_eq_true (by omega)
       clear c5
       obtain rfl := Option.some.inj H
       have p197 : 0 ≤ (x3_1 : Int) := of_decide_eq_true (by first | (with_reducible assumption) | assumption)
       have q197 : x3_1 < (l0.length : Int) := of_decide_eq_true (by first | (with_reducible assumption) | assumption)
       obtain ⟨ad197, e197, hx197_0⟩ := Kd.at_string HR0.out x3_1 p197 q197
       cases e197
       replace p197 := eq_true p197
       replace q197 := eq_true q197
       go_wp2
       repeat (go_quiet (fail); try go_wp2)
       go_ret
       exact ⟨by first | rfl | (simp; done) | (simp [*]; done), by repeat (first | exact Drawn0.refl _ | apply Drawn0.step)⟩
      ·rw [if_neg c5] at H
       have c5b0 : decide (12 < ((rdOf ByteArray.empty l0 x3_1).size : Int)) = false := decide_eq_false c5
       have c5b1 : decide (12 < (rdOf ByteArray.empty l0 x3_1).size) = false := decide_eq_false (by omega)
       clear c5
       by_cases c6 : x3_1 > 0
       ·rw [if_pos c6] at H
        have c6b0 : decide (0 < x3_1) = true := decide_eq_true c6
        clear c6
        obtain ⟨ji7, hji7⟩ : ∃ j_ : Int, (wrap64 (x3_1 - 1)) = j_ := ⟨_, rfl⟩
        replace H : (if 0 ≤ (ji7) then (if (ji7) < (l0.length : Int) then (if ((Op.bytesLess ((rdOf ByteArray.empty l0 (ji7)).toList) ((rdOf ByteArray.empty l0 x3_1).toList)) = true) then (eddyref4_fitGone.l0 k1 l0 (wrap64 (x3_1 + 1))) else (some 42)) else (none)) else (none)) = some r := by first | (rw [hji7] at H; exact H) | (simp only [hji7] at H ⊢; exact H)
        have hji7w : (IntKind.i64.wrap (x3_1 - 1)) = ji7 := (i64_w _).trans hji7
        by_cases c8 : 0 ≤ (ji7)
        ·rw [if_pos c8] at H
         have c8b0 : decide (0 ≤ (ji7)) = true := decide_eq_true c8
         clear c8
         by_cases c9 : (ji7) < (l0.length : Int)
         ·rw [if_pos c9] at H
          have c9b0 : decide ((ji7) < (l0.length : Int)) = true := decide_eq_true c9
          clear c9
          by_cases c10 : ((Op.bytesLess ((rdOf ByteArray.empty l0 (ji7)).toList) ((rdOf ByteArray.empty l0 x3_1).toList)) = true)
          ·rw [if_pos c10] at H
           have c10b0 : (Op.bytesLess ((rdOf ByteArray.empty l0 (ji7)).toList) ((rdOf ByteArray.empty l0 x3_1).toList)) = true := c10
           clear c10
           have H' := Aside0.mk H
           clear H
           have p197 : 0 ≤ (x3_1 : Int) := of_decide_eq_true (by first | (with_reducible assumption) | assumption)
           have q197 : x3_1 < (l0.length : Int) := of_decide_eq_true (by first | (with_reducible assumption) | assumption)
           obtain ⟨ad197, e197, hx197_0⟩ := Kd.at_string HR0.out x3_1 p197 q197
           cases e197
           replace p197 := eq_true p197
           replace q197 := eq_true q197
           have p198 : 0 ≤ (x3_1 : Int) := of_decide_eq_true (by first | (with_reducible assumption) | assumption)
           have q198 : x3_1 < (l0.length : Int) := of_decide_eq_true (by first | (with_reducible assumption) | assumption)
           obtain ⟨ad198, e198, hx198_0⟩ := Kd.at_string HR0.out x3_1 p198 q198
           obtain rfl : ad197 = ad198 := (by injection e198)
           replace p198 := eq_true p198
           replace q198 := eq_true q198
           have p199 : 0 ≤ ((ji7) : Int) := of_decide_eq_true (by first | (with_reducible assumption) | assumption)
           have q199 : (ji7) < (l0.length : Int) := of_decide_eq_true (by first | (with_reducible assumption) | assumption)
           obtain ⟨ad199, e199, hx199_0⟩ := Kd.at_string HR0.out (ji7) p199 q199
           obtain rfl : ad197 = ad199 := (by injection e199)
           replace p199 := eq_true p199
           replace q199 := eq_true q199
           go_wp2
           repeat (go_quiet (fail); try go_wp2)
           go_roundg k1
           case measure => have := HK1.out; omega
           case rel => exact ⟨(wrap64 (x3_1 + 1)), (by first | rfl | (simp; done) | (simp [*]; done)), H', ⟨by have := HK1.out; omega⟩, by repeat (first | exact Drawn0.refl _ | apply Drawn0.step)⟩
          ·rw [if_neg c10] at H
           have c10b0 : (Op.bytesLess ((rdOf ByteArray.empty l0 (ji7)).toList) ((rdOf ByteArray.empty l0 x3_1).toList)) = false := by simpa using c10
           clear c10
           obtain rfl := Option.some.inj H
           have p197 : 0 ≤ (x3_1 : Int) := of_decide_eq_true (by first | (with_reducible assumption) | assumption)
           have q197 : x3_1 < (l0.length : Int) := of_decide_eq_true (by first | (with_reducible assumption) | assumption)
           obtain ⟨ad197, e197, hx197_0⟩ := Kd.at_string HR0.out x3_1 p197 q197
           cases e197
           replace p197 := eq_true p197
           replace q197 := eq_true q197
           have p198 : 0 ≤ (x3_1 : Int) := of_decide_eq_true (by first | (with_reducible assumption) | assumption)
           have q198 : x3_1 < (l0.length : Int) := of_decide_eq_true (by first | (with_reducible assumption) | assumption)
           obtain ⟨ad198, e198, hx198_0⟩ := Kd.at_string HR0.out x3_1 p198 q198
           obtain rfl : ad197 = ad198 := (by injection e198)
           replace p198 := eq_true p198
           replace q198 := eq_true q198
           have p199 : 0 ≤ ((ji7) : Int) := of_decide_eq_true (by first | (with_reducible assumption) | assumption)
           have q199 : (ji7) < (l0.length : Int) := of_decide_eq_true (by first | (with_reducible assumption) | assumption)
           obtain ⟨ad199, e199, hx199_0⟩ := Kd.at_string HR0.out (ji7) p199 q199
           obtain rfl : ad197 = ad199 := (by injection e199)
           replace p199 := eq_true p199
           replace q199 := eq_true q199
           go_wp2
           repeat (go_quiet (fail); try go_wp2)
           go_ret
           exact ⟨by first | rfl | (simp; done) | (simp only [← hji7] <;> (first | rfl | simp)) | (simp [*]; done), by repeat (first | exact Drawn0.refl _ | apply Drawn0.step)⟩
         ·rw [if_neg c9] at H
          exact absurd H (by simp)
        ·rw [if_neg c8] at H
         exact absurd H (by simp)
       ·rw [if_neg c6] at H
        have c6b0 : decide (0 < x3_1) = false := decide_eq_false c6
        clear c6
        have H' := Aside0.mk H
        clear H
        have p197 : 0 ≤ (x3_1 : Int) := of_decide_eq_true (by first | (with_reducible assumption) | assumption)
        have q197 : x3_1 < (l0.length : Int) := of_decide_eq_true (by first | (with_reducible assumption) | assumption)
        obtain ⟨ad197, e197, hx197_0⟩ := Kd.at_string HR0.out x3_1 p197 q197
        cases e197
        replace p197 := eq_true p197
        replace q197 := eq_true q197
        go_wp2
        repeat (go_quiet (fail); try go_wp2)
        go_roundg k1
        case measure => have := HK1.out; omega
        case rel => exact ⟨(wrap64 (x3_1 + 1)), (by first | rfl | (simp; done) | (simp [*]; done)), H', ⟨by have := HK1.out; omega⟩, by repeat (first | exact Drawn0.refl _ | apply Drawn0.step)⟩
     ·rw [if_neg c4] at H
      exact absurd H (by simp)
    ·rw [if_neg c3] at H
     have c3b0 : decide (x3_1 < (l0.length : Int)) = false := decide_eq_false c3
     clear c3
     obtain rfl := Option.some.inj H
     go_wp2
     repeat (go_quiet (fail); try go_wp2)
     go_ret
     exact ⟨by first | rfl | (simp; done) | (simp [*]; done), by repeat (first | exact Drawn0.refl _ | apply Drawn0.step)⟩

end Go.Proofs.Ythmkioodkldgbaa.PD
