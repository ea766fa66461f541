/- Scan, as the printed functions tell the document's and the program's, is one plain function; the comparison of lists of bodies; conditions: bytes, lengths below 2^40. (Plain Lean.) -/
import Derived.Test.YtgfinjhhkmflfaaDoorPuExacts
namespace Go.Proofs.YtgfinjhhkmflfaaDoor.PF
open Go.RowKit Go.Proofs.YtgfinjhhkmflfaaDoorW.PrintWords Go.Proofs.YtgfinjhhkmflfaaDoorW.PrintLast Go.Proofs.YtgfinjhhkmflfaaDoorW.PrintMore
set_option linter.unusedVariables false
theorem unwrapP_cases (l : List Int) (hb : Bytes l) : (∃ n : Nat, unwrapP l = ((l.drop 4).take n, (n : Int) + 8, 0) ∧ n ≤ 32768 ∧ n + 8 ≤ l.length) ∨ (∃ e : Int, unwrapP l = ([], 0, e) ∧ (e = 11 ∨ e = 12 ∨ e = 13)) := by
  unfold unwrapP
  rcases sizeP_cases l hb with ⟨N, hN, hN1, hN2⟩ | ⟨e, he, hee⟩
  · refine .inl ⟨N, ?_, hN1, hN2⟩
    rw [hN]
    simp
  · refine .inr ⟨e, ?_, hee⟩
    rw [he]
    rw [if_pos (show e ≠ 0 by omega)]
def scanP : Nat → List Int → List (List Int) × Int × Int
  | 0, _ => ([], 0, 0)
  | f + 1, l => if l = [] then ([], 0, 0) else if (unwrapP l).2.2 ≠ 0 then ([], 0, (unwrapP l).2.2) else
      ((unwrapP l).1 :: (scanP f (l.drop (unwrapP l).2.1.toNat)).1, (unwrapP l).2.1 + (scanP f (l.drop (unwrapP l).2.1.toNat)).2.1, (scanP f (l.drop (unwrapP l).2.1.toNat)).2.2)
theorem scanP_nil (f : Nat) : scanP f [] = ([], 0, 0) := by cases f <;> simp [scanP]
theorem scanP_err (f : Nat) (l : List Int) (h0 : l ≠ []) (e : Int) (h : unwrapP l = ([], 0, e)) (he : e ≠ 0) : scanP (f + 1) l = ([], 0, e) := by
  simp only [scanP]
  rw [if_neg h0, h, if_pos he]
theorem scanP_one (f : Nat) (l : List Int) (h0 : l ≠ []) (b : List Int) (n : Nat) (h : unwrapP l = (b, (n : Int) + 8, 0)) :
    scanP (f + 1) l = (b :: (scanP f (l.drop (n + 8))).1, (n : Int) + 8 + (scanP f (l.drop (n + 8))).2.1, (scanP f (l.drop (n + 8))).2.2) := by
  simp only [scanP]
  rw [if_neg h0, h, if_neg (by simp), show ((n : Int) + 8).toNat = n + 8 by omega]
/-- The least that is left: each frame takes eight. -/
theorem scan_l0 (l : List Int) (hb : Bytes l) (hl : l.length < 2 ^ 40) : ∀ (f i : Nat) (acc : List (List Int)), i ≤ l.length → l.length - i ≤ f → acc.length + (l.length - i) < 5864062014805 →
    Ev (fun k => frame_Scan.l0 k l acc (i : Int) [0]) (acc ++ (scanP f (l.drop i)).1, (i : Int) + (scanP f (l.drop i)).2.1, (scanP f (l.drop i)).2.2) ∧
    Ev (fun k => eddyref1_Scan.l0 k l acc (i : Int)) (acc ++ (scanP f (l.drop i)).1, (i : Int) + (scanP f (l.drop i)).2.1, (scanP f (l.drop i)).2.2) := by
  intro f
  induction f with
  | zero =>
    intro i acc hi hf hacc
    obtain rfl : i = l.length := by omega
    rw [show scanP 0 (l.drop l.length) = ([], 0, 0) from rfl, List.append_nil, Int.add_zero]
    constructor
    · apply Ev.step
      · intro k
        simp only [frame_Scan.l0]
        rw [if_neg (by omega)]
      · exact Ev.now _
    · apply Ev.step
      · intro k
        simp only [eddyref1_Scan.l0]
        rw [if_neg (by omega)]
      · exact Ev.now _
  | succ f ih =>
    intro i acc hi hf hacc
    rcases Nat.lt_or_ge i l.length with hlt | hge
    · have hne : l.drop i ≠ [] := by
        intro h
        have := congrArg List.length h
        simp at this
        omega
      have hbd := hb.drop i
      have hld : (l.drop i).length = l.length - i := List.length_drop
      have hF := frame_Unwrap_eq (l.drop i) hbd (by omega)
      have hR := refUnwrap (l.drop i) hbd (by omega)
      rcases unwrapP_cases (l.drop i) hbd with ⟨n, hn, hn1, hn2⟩ | ⟨e, he, hee⟩
      · rw [scanP_one f _ hne _ n hn]
        rw [hn] at hF hR
        rw [hld] at hn2
        have h := ih (i + (n + 8)) (acc ++ [((l.drop i).drop 4).take n]) (by omega) (by omega) (by simp; omega)
        rw [← List.drop_drop, List.append_assoc, List.singleton_append] at h
        have ec : ((i + (n + 8) : Nat) : Int) + (scanP f ((l.drop i).drop (n + 8))).2.1 = (i : Int) + ((n : Int) + 8 + (scanP f ((l.drop i).drop (n + 8))).2.1) := by omega
        rw [ec] at h
        constructor
        · apply Ev.step
          · intro k
            simp only [frame_Scan.l0]
            rw [if_pos (by omega), if_pos (by omega), if_pos (by omega), Int.toNat_natCast, hF, Option.bind_some, if_pos rfl, if_pos (by omega)]
          · dsimp only
            rw [w64 (by omega) (by omega), show (i : Int) + ((n : Int) + 8) = ((i + (n + 8) : Nat) : Int) by omega]
            exact h.1
        · apply Ev.step
          · intro k
            simp only [eddyref1_Scan.l0]
            rw [if_pos (by omega), if_pos (by omega), if_pos (by omega), Int.toNat_natCast]
          · refine Ev.bind hR ?_
            refine Ev.congr (fun k => if_pos rfl) ?_
            refine Ev.congr (fun k => if_pos (by omega)) ?_
            dsimp only
            rw [w64 (by omega) (by omega), show (i : Int) + ((n : Int) + 8) = ((i + (n + 8) : Nat) : Int) by omega]
            exact h.2
      · have hne0 : e ≠ 0 := by omega
        rw [scanP_err f _ hne e he hne0, List.append_nil, Int.add_zero]
        rw [he] at hF hR
        constructor
        · apply Ev.step
          · intro k
            simp only [frame_Scan.l0]
            rw [if_pos (by omega), if_pos (by omega), if_pos (by omega), Int.toNat_natCast, hF, Option.bind_some, if_neg hne0]
          · exact Ev.now _
        · apply Ev.step
          · intro k
            simp only [eddyref1_Scan.l0]
            rw [if_pos (by omega), if_pos (by omega), if_pos (by omega), Int.toNat_natCast]
          · refine Ev.bind hR ?_
            refine Ev.congr (fun k => if_neg hne0) ?_
            exact Ev.now _
    · obtain rfl : i = l.length := by omega
      rw [List.drop_length, scanP_nil, List.append_nil, Int.add_zero]
      constructor
      · apply Ev.step
        · intro k
          simp only [frame_Scan.l0]
          rw [if_neg (by omega)]
        · exact Ev.now _
      · apply Ev.step
        · intro k
          simp only [eddyref1_Scan.l0]
          rw [if_neg (by omega)]
        · exact Ev.now _
def scanQ (l : List Int) : List (List Int) × Int × Int := scanP l.length l
theorem scan_f (l : List Int) (hb : Bytes l) (hl : l.length < 2 ^ 40) : Ev (fun k => frame_Scan.f k l [0]) (scanQ l) ∧ Ev (fun k => eddyref1_Scan.f k l) (scanQ l) := by
  have h := scan_l0 l hb hl l.length 0 [] (by omega) (by omega) (by simp; omega)
  simp only [List.drop_zero, List.nil_append, Int.natCast_zero, Int.zero_add] at h
  exact h
theorem rd_L2_nat (ls : List (List Int)) (i : Nat) (h : i < ls.length) : rd_L2 ls (i : Int) = ls[i] := by
  unfold rd_L2
  rw [Int.toNat_natCast, List.getD_eq_getElem?_getD, List.getElem?_eq_getElem h]
  rfl
theorem alike_l0 (ls : List (List Int)) (hn : ls.length < 2 ^ 50) (hl : ∀ l ∈ ls, l.length < 2 ^ 50) : ∀ d i, i + d = ls.length → Ev (fun k => eddylaw1_alike.l0 k ls ls (i : Int)) true := by
  intro d
  induction d with
  | zero =>
    intro i hi
    apply Ev.step
    · intro k
      simp only [eddylaw1_alike.l0]
      rw [if_neg (by omega)]
    · exact Ev.now _
  | succ d ih =>
    intro i hi
    apply Ev.step
    · intro k
      simp only [eddylaw1_alike.l0]
      rw [if_pos (by omega), if_pos (by omega), if_pos (by omega), rd_L2_nat ls i (by omega), w64 (by omega) (by omega)]
    · refine Ev.bind (same_eq _ (hl _ (List.getElem_mem _))) ?_
      refine Ev.congr (fun k => if_pos rfl) ?_
      exact ih (i + 1) (by omega)
theorem alike_eq (ls : List (List Int)) (hn : ls.length < 2 ^ 50) (hl : ∀ l ∈ ls, l.length < 2 ^ 50) : Ev (fun k => eddylaw1_alike.f k ls ls) true := by
  unfold eddylaw1_alike.f
  refine Ev.congr (fun k => if_pos rfl) ?_
  exact alike_l0 ls hn hl ls.length 0 (by omega)
theorem unwraps_eq : eddylaw1_unwraps.f [0] = some true := by
  unfold eddylaw1_unwraps.f
  have hb : Bytes [0, 0, 255, 255, 0, 0, 0, 0] := by unfold Bytes; decide
  rw [frame_Unwrap_eq _ hb (by decide)]
  have e : unwrapP [0, 0, 255, 255, 0, 0, 0, 0] = ([], 8, 0) := by decide +kernel
  rw [e]
  rfl
/-- How much a scan gives: no more bodies than bytes, each no longer than the text. -/
theorem scanP_bd : ∀ (f : Nat) (l : List Int), Bytes l → (scanP f l).1.length ≤ l.length ∧ ∀ b ∈ (scanP f l).1, b.length ≤ l.length := by
  intro f
  induction f with
  | zero => intro l hb; simp [scanP]
  | succ f ih =>
    intro l hb
    by_cases h0 : l = []
    · subst h0
      rw [scanP_nil]
      simp
    · rcases unwrapP_cases l hb with ⟨n, hn, hn1, hn2⟩ | ⟨e, he, hee⟩
      · rw [scanP_one f l h0 _ n hn]
        have h := ih (l.drop (n + 8)) (hb.drop _)
        rw [List.length_drop] at h
        refine ⟨by simp; omega, fun b hbm => ?_⟩
        rcases List.mem_cons.1 hbm with rfl | hbm
        · simp; omega
        · have := h.2 b hbm
          omega
      · rw [scanP_err f l h0 e he (by omega)]
        simp
theorem FrameScans_pure (l0 : List Int) (y0 : l0.length * 1 ≤ 140737488351232) (hw0 : ∀ x ∈ l0, (Lit.int .u8 x).wf = true) : ∃ k, eddylaw1_FrameScans.f k l0 [0] = some true := by
  have b0 := bytes_of_wf hw0
  apply Ev.rounds
  unfold eddylaw1_FrameScans.f
  by_cases hbig : (l0.length : Int) > 131072
  · simp only [if_pos hbig]
    exact Ev.now _
  · simp only [if_neg hbig]
    refine Ev.pure_ unwraps_eq ?_
    refine Ev.congr (fun k => if_pos rfl) ?_
    obtain ⟨h1, h2⟩ := scan_f l0 b0 (by omega)
    obtain ⟨h3, h4⟩ := scanP_bd l0.length l0 b0
    refine Ev.bind h2 (Ev.bind h1 (Ev.pure_ rfl ?_))
    refine Ev.congr (fun k => if_pos rfl) ?_
    refine Ev.congr (fun k => if_pos rfl) ?_
    refine Ev.bind (alike_eq _ ?_ ?_) (Ev.now _)
    · show (scanP l0.length l0).1.length < 2 ^ 50
      omega
    · intro b hb
      have := h4 b hb
      omega
end Go.Proofs.YtgfinjhhkmflfaaDoor.PF
