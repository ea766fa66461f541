/- The document's Wrap, Unwrap and Exact and the program's, as the printed functions tell them, are the same plain functions; conditions: bytes, and lengths below 2^40. (Plain Lean.) -/
import Derived.Test.YtgfinjhhkmflfaaDoorPuSums
import Derived.Test.YtgfinjhhkmflfaaDoorPFx6
import Derived.Test.YtgfinjhhkmflfaaDoorExact
namespace Go.Proofs.YtgfinjhhkmflfaaDoor.PF
open Go.RowKit Go.Proofs.YtgfinjhhkmflfaaDoorW.PrintWords Go.Proofs.YtgfinjhhkmflfaaDoorW.PrintLast Go.Proofs.YtgfinjhhkmflfaaDoorW.PrintMore
set_option linter.unusedVariables false
/-! ### same -/
theorem same_l0 (l : List Int) (hl : l.length < 2 ^ 50) : ∀ d i, i + d = l.length → Ev (fun k => eddylaw1_same.l0 k l l (i : Int)) true := by
  intro d
  induction d with
  | zero =>
    intro i hi
    apply Ev.step
    · intro k
      simp only [eddylaw1_same.l0]
      rw [if_neg (by omega)]
    · exact Ev.now _
  | succ d ih =>
    intro i hi
    apply Ev.step
    · intro k
      simp only [eddylaw1_same.l0]
      rw [if_pos (by omega), if_pos (by omega), if_pos (by omega), if_pos True.intro, w64 (by omega) (by omega)]
    · exact ih (i + 1) (by omega)
theorem same_eq (l : List Int) (hl : l.length < 2 ^ 50) : Ev (fun k => eddylaw1_same.f k l l) true := by
  unfold eddylaw1_same.f
  simp only [if_pos True.intro]
  exact same_l0 l hl l.length 0 (by omega)
/-! ### two, four, Wrap -/
theorem two_f (n : Nat) (h : n < 65536) : eddyref1_two.f (n : Int) = some (le2 n) := by
  unfold eddyref1_two.f le2
  rw [show Int.tmod (n : Int) 256 = ((n % 256 : Nat) : Int) from rfl, show Int.tdiv (n : Int) 256 = ((n / 256 : Nat) : Int) from rfl, w64 (by omega) (by omega)]
  congr 2
  · omega
  · congr 1
    omega
def sum4 (s : Nat) : List Int := le2 ((s : Int) % 65536) ++ le2 ((s : Int) / 65536)
theorem four_f (s : Nat) (h : s < 4294967296) : eddyref1_four.f (s : Int) = some (sum4 s) := by
  unfold eddyref1_four.f sum4 le2
  have e0 : wrap64 (s : Int) = s := w64 (by omega) (by omega)
  rw [e0]
  rw [show Int.tmod (s : Int) 256 = ((s % 256 : Nat) : Int) from rfl, show Int.tdiv (s : Int) 256 = ((s / 256 : Nat) : Int) from rfl, show Int.tdiv (s : Int) 65536 = ((s / 65536 : Nat) : Int) from rfl, show Int.tdiv (s : Int) 16777216 = ((s / 16777216 : Nat) : Int) from rfl]
  rw [w64 (x := ((s / 256 : Nat) : Int)) (by omega) (by omega), w64 (x := ((s / 65536 : Nat) : Int)) (by omega) (by omega), w64 (x := ((s / 16777216 : Nat) : Int)) (by omega) (by omega)]
  rw [show Int.tmod ((s / 256 : Nat) : Int) 256 = ((s / 256 % 256 : Nat) : Int) from rfl, show Int.tmod ((s / 65536 : Nat) : Int) 256 = ((s / 65536 % 256 : Nat) : Int) from rfl]
  simp only [List.cons_append, List.nil_append, Option.some.injEq, List.cons.injEq, and_true]
  omega
theorem sum4_len (s : Nat) : (sum4 s).length = 4 := rfl
theorem refWrap (l : List Int) (hb : Bytes l) (hl : l.length < 2 ^ 40) : Ev (fun k => eddyref1_Wrap.f k l) (if l.length > 32768 then ([], 10) else (wrapL l, 0)) := by
  unfold eddyref1_Wrap.f
  by_cases h : l.length > 32768
  · simp only [if_pos h, if_pos (show (l.length : Int) > 32768 by omega)]
    exact Ev.now _
  · simp only [if_neg h, if_neg (show ¬ (l.length : Int) > 32768 by omega)]
    refine Ev.pure_ (two_f l.length (by omega)) ?_
    refine Ev.congr (fun k => if_pos (by simp [le2])) ?_
    refine Ev.pure_ rfl ?_
    rw [List.nil_append, w64 (by omega) (by omega), show (65535 : Int) - (l.length : Int) = ((65535 - l.length : Nat) : Int) by omega]
    refine Ev.pure_ (two_f (65535 - l.length) (by omega)) ?_
    refine Ev.congr (fun k => if_pos (by simp [le2])) ?_
    refine Ev.pure_ rfl ?_
    refine Ev.congr (fun k => if_pos (by simp [le2]; omega)) ?_
    refine Ev.pure_ rfl ?_
    refine Ev.bind (refSum l hb hl) ?_
    refine Ev.pure_ (four_f _ (sumL_lt l)) ?_
    refine Ev.congr (fun k => if_pos (by simp [le2, sum4]; omega)) ?_
    have e : le2 (l.length : Int) ++ le2 ((65535 - l.length : Nat) : Int) ++ l ++ sum4 (sumL l) = wrapL l := by
      unfold wrapL sum4
      rw [show (((65535 - l.length : Nat)) : Int) = 65535 - (l.length : Int) by omega]
      simp
    rw [e]
    exact Ev.now _
/-! ### Unwrap -/
def unwrapP (l : List Int) : List Int × Int × Int := if (sizeP l).2 ≠ 0 then ([], 0, (sizeP l).2) else ((l.drop 4).take (sizeP l).1.toNat, (sizeP l).1 + 8, 0)
theorem frame_size_eq (l : List Int) (hb : Bytes l) : frame_size.f l [0] = some (sizeP l) := by
  unfold frame_size.f
  rw [if_pos ⟨hb, by simp⟩]
theorem frame_Unwrap_eq (l : List Int) (hb : Bytes l) (hl : l.length < 2 ^ 40) : frame_Unwrap.f l [0] = some (unwrapP l) := by
  unfold frame_Unwrap.f unwrapP
  rw [frame_size_eq l hb, Option.bind_some]
  rcases sizeP_cases l hb with ⟨N, hN, hN1, hN2⟩ | ⟨e, he, hee⟩
  · rw [hN]
    simp only [if_true, ne_eq, not_true_eq_false, if_false, Int.toNat_natCast]
    rw [w64 (by omega) (by omega), if_pos (by omega), if_pos (by omega), show (4 + (N : Int)).toNat = 4 + N by omega, w64 (by omega) (by omega), if_pos (by simp; omega), List.drop_take, show 4 + N - 4 = N by omega, List.nil_append]
  · rw [he]
    have : e ≠ 0 := by omega
    simp only [ne_eq, this, not_false_eq_true, if_false, if_true]
theorem number_f (l : List Int) (hb : Bytes l) (i : Nat) (hi : i + 1 < l.length) (hl : l.length < 2 ^ 40) : eddyref1_number.f l (i : Int) = some (num l i) := by
  have h1 := hb.getD i
  have h2 := hb.getD (i + 1)
  have e1 : rd l (i : Int) = l.getD i 0 := by unfold rd; rw [Int.toNat_natCast]
  have e2 : rd l ((i : Int) + 1) = l.getD (i + 1) 0 := by unfold rd; rw [show ((i : Int) + 1).toNat = i + 1 by omega]
  unfold eddyref1_number.f num
  rw [w64 (x := (i : Int) + 1) (by omega) (by omega), if_pos (by omega), if_pos (by omega), if_pos (by omega), if_pos (by omega), e1, e2, w64 (x := l.getD i 0) (by omega) (by omega), w64 (x := l.getD (i + 1) 0) (by omega) (by omega), w64 (x := 256 * _) (by omega) (by omega), w64 (by omega) (by omega)]
open Classical in
/-- The comparison of the four bytes. -/
theorem unwrap_l1 (l : List Int) (hb : Bytes l) (N : Nat) (hN : N + 8 ≤ l.length) (hl : l.length < 2 ^ 40) (body f : List Int) (hf : f.length = 4) : ∀ d i : Nat, i + d = 4 →
    Ev (fun k => eddyref1_Unwrap.l1 k l (N : Int) body f (i : Int)) (if (∀ j : Nat, i ≤ j → j < 4 → l.getD (4 + N + j) 0 = f.getD j 0) then (body, (N : Int) + 8, 0) else ([], 0, 13)) := by
  intro d
  induction d with
  | zero =>
    intro i hi
    rw [if_pos (fun j h1 h2 => by omega)]
    apply Ev.step
    · intro k
      simp only [eddyref1_Unwrap.l1]
      rw [if_neg (by omega), w64 (by omega) (by omega)]
    · exact Ev.now _
  | succ d ih =>
    intro i hi
    have e1 : rd l (4 + (N : Int) + (i : Int)) = l.getD (4 + N + i) 0 := by unfold rd; rw [show (4 + (N : Int) + (i : Int)).toNat = 4 + N + i by omega]
    have e2 : rd f (i : Int) = f.getD i 0 := by unfold rd; rw [Int.toNat_natCast]
    apply Ev.step
    · intro k
      simp only [eddyref1_Unwrap.l1]
      rw [w64 (x := 4 + (N : Int)) (by omega) (by omega), w64 (x := 4 + (N : Int) + (i : Int)) (by omega) (by omega), if_pos (by omega), if_pos (by omega), if_pos (by omega), if_pos (by omega), if_pos (by omega), e1, e2, w64 (by omega) (by omega)]
    · by_cases h : l.getD (4 + N + i) 0 = f.getD i 0
      · simp only [if_pos h]
        have hiff : (∀ j : Nat, i ≤ j → j < 4 → l.getD (4 + N + j) 0 = f.getD j 0) ↔ (∀ j : Nat, i + 1 ≤ j → j < 4 → l.getD (4 + N + j) 0 = f.getD j 0) :=
          ⟨fun hh j h1 h2 => hh j (by omega) h2, fun hh j h1 h2 => by
            rcases Nat.lt_or_ge i j with h3 | h3
            · exact hh j h3 h2
            · obtain rfl : j = i := by omega
              exact h⟩
        simp only [hiff]
        exact ih (i + 1) (by omega)
      · simp only [if_neg h]
        rw [if_neg (fun hh => h (hh i (Nat.le_refl _) (by omega)))]
        exact Ev.now _
theorem four_bytes (l : List Int) (hb : Bytes l) (N : Nat) (s : Nat) (hs : s < 4294967296) :
    (∀ j : Nat, 0 ≤ j → j < 4 → l.getD (4 + N + j) 0 = (sum4 s).getD j 0) ↔ num l (4 + N) + 65536 * num l (6 + N) = (s : Nat) := by
  have h0 := hb.getD (4 + N)
  have h1 := hb.getD (4 + N + 1)
  have h2 := hb.getD (4 + N + 2)
  have h3 := hb.getD (4 + N + 3)
  have e : num l (4 + N) + 65536 * num l (6 + N) = l.getD (4 + N) 0 + 256 * l.getD (4 + N + 1) 0 + 65536 * (l.getD (4 + N + 2) 0 + 256 * l.getD (4 + N + 3) 0) := by
    unfold num
    rw [show 6 + N = 4 + N + 2 by omega, show 4 + N + 2 + 1 = 4 + N + 3 by omega]
  rw [e]
  have f0 : (sum4 s).getD 0 0 = (s : Int) % 65536 % 256 := rfl
  have f1 : (sum4 s).getD 1 0 = (s : Int) % 65536 / 256 := rfl
  have f2 : (sum4 s).getD 2 0 = (s : Int) / 65536 % 256 := rfl
  have f3 : (sum4 s).getD 3 0 = (s : Int) / 65536 / 256 := rfl
  constructor
  · intro hh
    have g0 := hh 0 (by omega) (by omega)
    have g1 := hh 1 (by omega) (by omega)
    have g2 := hh 2 (by omega) (by omega)
    have g3 := hh 3 (by omega) (by omega)
    rw [f0] at g0
    rw [f1] at g1
    rw [f2] at g2
    rw [f3] at g3
    rw [show 4 + N + 0 = 4 + N from rfl] at g0
    omega
  · intro hh j _ hj
    match j, hj with
    | 0, _ => rw [f0, show 4 + N + 0 = 4 + N from rfl]; omega
    | 1, _ => rw [f1]; omega
    | 2, _ => rw [f2]; omega
    | 3, _ => rw [f3]; omega
theorem unwrap_l0 (l : List Int) (hb : Bytes l) (N : Nat) (hN : N + 8 ≤ l.length) (hl : l.length < 2 ^ 40) : ∀ d i : Nat, i + d = N →
    Ev (fun k => eddyref1_Unwrap.l0 k l (N : Int) ((l.drop 4).take i) (i : Int)) (if num l (4 + N) + 65536 * num l (6 + N) ≠ (sumL ((l.drop 4).take N) : Nat) then ([], 0, 13) else ((l.drop 4).take N, (N : Int) + 8, 0)) := by
  intro d
  induction d with
  | zero =>
    intro i hi
    obtain rfl : i = N := by omega
    have hbb : Bytes ((l.drop 4).take i) := (hb.drop 4).take i
    apply Ev.step
    · intro k
      simp only [eddyref1_Unwrap.l0]
      rw [if_neg (by omega)]
    · refine Ev.bind (refSum _ hbb (by simp; omega)) (Ev.pure_ (four_f _ (sumL_lt _)) ?_)
      have h := unwrap_l1 l hb i hN hl ((l.drop 4).take i) (sum4 (sumL ((l.drop 4).take i))) rfl 4 0 rfl
      have hiff := four_bytes l hb i _ (sumL_lt ((l.drop 4).take i))
      by_cases hc : num l (4 + i) + 65536 * num l (6 + i) = (sumL ((l.drop 4).take i) : Nat)
      · rw [if_neg (by omega)]
        rw [if_pos (hiff.2 hc)] at h
        exact h
      · rw [if_pos hc]
        rw [if_neg (fun hh => hc (hiff.1 hh))] at h
        exact h
  | succ d ih =>
    intro i hi
    have e1 : rd l (4 + (i : Int)) = (l.drop 4)[i]'(by simp; omega) := by
      rw [show (4 : Int) + (i : Int) = ((4 + i : Nat) : Int) by omega, rd_nat l _ (by omega)]
      simp
    apply Ev.step
    · intro k
      simp only [eddyref1_Unwrap.l0]
      rw [if_pos (by omega), w64 (x := 4 + (i : Int)) (by omega) (by omega), if_pos (by omega), if_pos (by omega), if_pos (by simp; omega), e1, ← List.take_succ_eq_append_getElem (by simp; omega), w64 (by omega) (by omega)]
    · exact ih (i + 1) (by omega)
theorem refUnwrap (l : List Int) (hb : Bytes l) (hl : l.length < 2 ^ 40) : Ev (fun k => eddyref1_Unwrap.f k l) (unwrapP l) := by
  unfold eddyref1_Unwrap.f unwrapP sizeP
  by_cases h4 : l.length < 4
  · simp only [if_pos h4, if_pos (show (l.length : Int) < 4 by omega)]
    exact Ev.now _
  · simp only [if_neg h4, if_neg (show ¬ (l.length : Int) < 4 by omega)]
    obtain ⟨q0, q1⟩ := num_bd hb 0
    obtain ⟨t0, t1⟩ := num_bd hb 2
    refine Ev.pure_ (number_f l hb 0 (by omega) hl) (Ev.pure_ (number_f l hb 2 (by omega) hl) ?_)
    obtain ⟨N, hN⟩ := Int.eq_ofNat_of_zero_le q0
    obtain ⟨M, hM⟩ := Int.eq_ofNat_of_zero_le t0
    rw [hN] at q1
    rw [hM] at t1
    rw [hN, hM, w64 (by omega) (by omega)]
    have hj : ∀ b : Bool, (b = true ↔ (N : Int) + (M : Int) ≠ 65535 ∨ (N : Int) > 32768) → Ev (fun k => eddyref1_Unwrap.j0 k l (N : Int) b) (if (if (N : Int) + (M : Int) ≠ 65535 ∨ (N : Int) > 32768 then ((0 : Int), (12 : Int)) else if l.length < (N : Int).toNat + 8 then (0, 11) else if num l (4 + (N : Int).toNat) + 65536 * num l (6 + (N : Int).toNat) ≠ (sumL ((l.drop 4).take (N : Int).toNat) : Nat) then (0, 13) else ((N : Int), 0)).2 ≠ 0 then ([], 0, (if (N : Int) + (M : Int) ≠ 65535 ∨ (N : Int) > 32768 then ((0 : Int), (12 : Int)) else if l.length < (N : Int).toNat + 8 then (0, 11) else if num l (4 + (N : Int).toNat) + 65536 * num l (6 + (N : Int).toNat) ≠ (sumL ((l.drop 4).take (N : Int).toNat) : Nat) then (0, 13) else ((N : Int), 0)).2) else ((l.drop 4).take (if (N : Int) + (M : Int) ≠ 65535 ∨ (N : Int) > 32768 then ((0 : Int), (12 : Int)) else if l.length < (N : Int).toNat + 8 then (0, 11) else if num l (4 + (N : Int).toNat) + 65536 * num l (6 + (N : Int).toNat) ≠ (sumL ((l.drop 4).take (N : Int).toNat) : Nat) then (0, 13) else ((N : Int), 0)).1.toNat, (if (N : Int) + (M : Int) ≠ 65535 ∨ (N : Int) > 32768 then ((0 : Int), (12 : Int)) else if l.length < (N : Int).toNat + 8 then (0, 11) else if num l (4 + (N : Int).toNat) + 65536 * num l (6 + (N : Int).toNat) ≠ (sumL ((l.drop 4).take (N : Int).toNat) : Nat) then (0, 13) else ((N : Int), 0)).1 + 8, 0)) := by
      intro b hbb
      rw [Int.toNat_natCast]
      by_cases hbad : (N : Int) + (M : Int) ≠ 65535 ∨ (N : Int) > 32768
      · rw [if_pos hbad, if_pos (by decide)]
        obtain rfl := hbb.2 hbad
        apply Ev.step
        · intro k
          simp only [eddyref1_Unwrap.j0, if_true]
          exact rfl
        · exact Ev.now _
      · rw [if_neg hbad]
        have hbf : b = false := by
          cases b
          · rfl
          · exact absurd (hbb.1 rfl) hbad
        subst hbf
        apply Ev.step
        · intro k
          simp only [eddyref1_Unwrap.j0, Bool.false_eq_true, if_false]
          rw [w64 (by omega) (by omega)]
        · by_cases h8 : l.length < N + 8
          · rw [if_pos h8, if_pos (by decide)]
            simp only [if_pos (show (l.length : Int) < (N : Int) + 8 by omega)]
            exact Ev.now _
          · rw [if_neg h8]
            simp only [if_neg (show ¬ (l.length : Int) < (N : Int) + 8 by omega)]
            have h := unwrap_l0 l hb N (by omega) hl N 0 (by omega)
            by_cases hc : num l (4 + N) + 65536 * num l (6 + N) ≠ (sumL ((l.drop 4).take N) : Nat)
            · rw [if_pos hc] at h
              rw [if_pos hc, if_pos (by decide)]
              exact h
            · rw [if_neg hc] at h
              rw [if_neg hc, if_neg (by simp), Int.toNat_natCast]
              exact h
    by_cases hs : (N : Int) + (M : Int) = 65535
    · refine Ev.congr (fun k => if_pos hs) (hj _ ?_)
      simp [hs]
    · refine Ev.congr (fun k => if_neg hs) (hj _ ?_)
      simp [hs]
theorem frame_Exact_eq (l : List Int) (hb : Bytes l) : frame_Exact.f l [0] = some (exactP l) := by
  unfold frame_Exact.f
  rw [if_pos ⟨hb, by simp⟩]
theorem refExact (l : List Int) (hb : Bytes l) (hl : l.length < 2 ^ 40) : Ev (fun k => eddyref1_Exact.f k l) (exactP l) := by
  unfold eddyref1_Exact.f exactP
  refine Ev.bind (refUnwrap l hb hl) ?_
  unfold unwrapP
  rcases sizeP_cases l hb with ⟨N, hN, hN1, hN2⟩ | ⟨e, he, hee⟩
  · rw [hN]
    simp only [if_true, ne_eq, not_true_eq_false, if_false, Int.toNat_natCast]
    by_cases h : N + 8 < l.length
    · simp only [if_pos h, if_pos (show (N : Int) + 8 < (l.length : Int) by omega)]
      exact Ev.now _
    · simp only [if_neg h, if_neg (show ¬ (N : Int) + 8 < (l.length : Int) by omega)]
      exact Ev.now _
  · rw [he]
    have : e ≠ 0 := by omega
    simp only [ne_eq, this, not_false_eq_true, if_false, if_true]
    exact Ev.now _
end Go.Proofs.YtgfinjhhkmflfaaDoor.PF
