/- What fits computes: no program; conditions: those in each theorem. -/
import Derived.Test.YtfholpajdkjbbaaQeGa
namespace Go.Proofs.Ytfholpajdkjbbaa.DK
open Go.Proofs.Ytfholpajdkjbbaa.PD
open Go.RowKit Go.Proofs.YtfholpajdkjbbaaW.PrintWords Go.Proofs.YtfholpajdkjbbaaW.PrintLast Go.Proofs.YtfholpajdkjbbaaW.PrintMore Go.Proofs.Ytfholpajdkjbbaa.Mo
theorem rd41_nat (l : List S41) (i : Nat) (h : i < l.length) : rd_T41 l (i : Int) = l[i] := by
  unfold rd_T41
  rw [Int.toNat_natCast, List.getD_eq_getElem?_getD, List.getElem?_eq_getElem h]
  rfl
def bulkF : List S67 → Nat
  | [] => 0
  | x :: l => x.f1.length + bulkF l
def bulkO : List S41 → Nat
  | [] => 0
  | x :: l => x.f5.length + x.f6.length + bulkO l
def fitsB (l : List S67) (ops : List S41) : Bool := decide (ops.length ≤ 400) && decide (l.length ≤ 500) && decide (bulkF l + bulkO ops ≤ 524288)
theorem fits_l1 (l : List S67) (ops : List S41) (ho : ops.length < 2 ^ 40) : ∀ d i (t : Nat), i + d = ops.length → t + bulkO (ops.drop i) < 2 ^ 60 → Ev (fun k => eddylaw10_fits.l1 k l ops (t : Int) (i : Int)) (decide (ops.length ≤ 400) && decide (l.length ≤ 500) && decide (t + bulkO (ops.drop i) ≤ 524288)) := by
  intro d
  induction d with
  | zero =>
    intro i t hi ht
    obtain rfl : i = ops.length := by omega
    rw [List.drop_length]
    refine Ev.step (f := fun _ => some _) (fun k => ?_) (Ev.now _)
    simp only [eddylaw10_fits.l1]
    rw [if_neg (by omega)]
    by_cases h1 : ops.length ≤ 400
    · rw [if_pos (by omega)]
      by_cases h2 : l.length ≤ 500
      · rw [if_pos (by omega)]
        simp only [bulkO, h1, h2, decide_true, Bool.true_and, Nat.add_zero]
        congr 1
        exact decide_eq_decide.2 (by omega)
      · rw [if_neg (by omega)]
        simp [h2]
    · rw [if_neg (by omega)]
      simp [h1]
  | succ d ih =>
    intro i t hi ht
    have hlt : i < ops.length := by omega
    have hdrop : ops.drop i = ops[i] :: ops.drop (i + 1) := (List.drop_eq_getElem_cons hlt)
    rw [hdrop] at ht ⊢
    simp only [bulkO] at ht
    have r1 := rd41_nat ops i hlt
    generalize ops[i] = x at *
    have hI := ih (i + 1) (t + x.f5.length + x.f6.length) (by omega) (by omega)
    have hw : wrap64 ((i : Int) + 1) = ((i + 1 : Nat) : Int) := by rw [w64 (by omega) (by omega)]; omega
    have hw1 : wrap64 ((t : Int) + x.f5.length) = ((t + x.f5.length : Nat) : Int) := by rw [w64 (by omega) (by omega)]; omega
    have hw2 : wrap64 (((t + x.f5.length : Nat) : Int) + x.f6.length) = ((t + x.f5.length + x.f6.length : Nat) : Int) := by rw [w64 (by omega) (by omega)]; omega
    refine Ev.step (f := fun k => eddylaw10_fits.l1 k l ops ((t + x.f5.length + x.f6.length : Nat) : Int) ((i + 1 : Nat) : Int)) (fun k => ?_) ?_
    · simp only [eddylaw10_fits.l1, r1, hw, hw1, hw2]
      rw [if_pos (by omega), if_pos (by omega)]
    · rw [show decide (t + bulkO (x :: ops.drop (i + 1)) ≤ 524288) = decide (t + x.f5.length + x.f6.length + bulkO (ops.drop (i + 1)) ≤ 524288) from decide_eq_decide.2 (by simp only [bulkO]; omega)]
      exact hI
theorem fits_l0 (l : List S67) (ops : List S41) (ho : ops.length < 2 ^ 40) (hl : l.length < 2 ^ 40) : ∀ d i (t : Nat), i + d = l.length → t + bulkF (l.drop i) + bulkO ops < 2 ^ 60 → Ev (fun k => eddylaw10_fits.l0 k l ops (t : Int) (i : Int)) (decide (ops.length ≤ 400) && decide (l.length ≤ 500) && decide (t + bulkF (l.drop i) + bulkO ops ≤ 524288)) := by
  intro d
  induction d with
  | zero =>
    intro i t hi ht
    obtain rfl : i = l.length := by omega
    rw [List.drop_length] at ht ⊢
    have h := fits_l1 l ops ho ops.length 0 t (by omega) (by rw [List.drop_zero]; simp only [bulkF] at ht; omega)
    rw [List.drop_zero] at h
    refine Ev.step (f := fun k => eddylaw10_fits.l1 k l ops (t : Int) ((0 : Nat) : Int)) (fun k => ?_) h
    simp only [eddylaw10_fits.l0]
    rw [if_neg (by omega)]
    rfl
  | succ d ih =>
    intro i t hi ht
    have hlt : i < l.length := by omega
    have hdrop : l.drop i = l[i] :: l.drop (i + 1) := (List.drop_eq_getElem_cons hlt)
    rw [hdrop] at ht ⊢
    simp only [bulkF] at ht
    have r1 := rd67_nat l i hlt
    generalize l[i] = x at *
    have hI := ih (i + 1) (t + x.f1.length) (by omega) (by omega)
    have hw : wrap64 ((i : Int) + 1) = ((i + 1 : Nat) : Int) := by rw [w64 (by omega) (by omega)]; omega
    have hw1 : wrap64 ((t : Int) + x.f1.length) = ((t + x.f1.length : Nat) : Int) := by rw [w64 (by omega) (by omega)]; omega
    refine Ev.step (f := fun k => eddylaw10_fits.l0 k l ops ((t + x.f1.length : Nat) : Int) ((i + 1 : Nat) : Int)) (fun k => ?_) ?_
    · simp only [eddylaw10_fits.l0, r1, hw, hw1]
      rw [if_pos (by omega), if_pos (by omega)]
    · rw [show decide (t + bulkF (x :: l.drop (i + 1)) + bulkO ops ≤ 524288) = decide (t + x.f1.length + bulkF (l.drop (i + 1)) + bulkO ops ≤ 524288) from decide_eq_decide.2 (by simp only [bulkF]; omega)]
      exact hI
theorem fits_f (l : List S67) (ops : List S41) (ho : ops.length < 2 ^ 40) (hl : l.length < 2 ^ 40) (hb : bulkF l + bulkO ops < 2 ^ 60) : Ev (fun k => eddylaw10_fits.f k l ops) (fitsB l ops) := by
  have h := fits_l0 l ops ho hl l.length 0 0 (by omega) (by rw [List.drop_zero]; omega)
  rw [List.drop_zero, Nat.zero_add] at h
  exact h
theorem bulkO_mem {l : List S41} {x : S41} (h : x ∈ l) : x.f5.length + x.f6.length ≤ bulkO l := by
  induction l with
  | nil => cases h
  | cons y l ih =>
    simp only [bulkO]
    rcases List.mem_cons.1 h with rfl | h
    · omega
    · have := ih h; omega
end Go.Proofs.Ytfholpajdkjbbaa.DK
