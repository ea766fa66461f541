/- The pure statement of FrameJoin: behind whole frames a log is read on as if it began there; conditions: what the row's reading gives. (Plain Lean.) -/
import Derived.Test.YtgfinjhhkmflfaaDoorLd
import Derived.Test.YtgfinjhhkmflfaaDoorPFx8
namespace Go.Proofs.YtgfinjhhkmflfaaDoor.PF
open Go.RowKit Go.Proofs.YtgfinjhhkmflfaaDoorW.PrintWords Go.Proofs.YtgfinjhhkmflfaaDoorW.PrintLast Go.Proofs.YtgfinjhhkmflfaaDoorW.PrintMore
set_option linter.unusedVariables false
theorem scanP_more : ∀ (f : Nat) (l : List Int), Bytes l → l.length ≤ f → scanP (f + 1) l = scanP f l := by
  intro f
  induction f with
  | zero =>
    intro l hb hl
    obtain rfl : l = [] := List.eq_nil_of_length_eq_zero (by omega)
    rw [scanP_nil, scanP_nil]
  | succ f ih =>
    intro l hb hl
    by_cases h0 : l = []
    · subst h0
      rw [scanP_nil, scanP_nil]
    · rcases unwrapP_cases l hb with ⟨n, hn, hn1, hn2⟩ | ⟨e, he, hee⟩
      · rw [scanP_one (f + 1) l h0 _ n hn, scanP_one f l h0 _ n hn, ih _ (hb.drop _) (by simp; omega)]
      · rw [scanP_err (f + 1) l h0 e he (by omega), scanP_err f l h0 e he (by omega)]
theorem scanP_fuel (l : List Int) (hb : Bytes l) (d : Nat) : scanP (l.length + d) l = scanQ l := by
  induction d with
  | zero => rfl
  | succ d ih => rw [← Nat.add_assoc, scanP_more _ l hb (by omega), ih]
theorem scanQ_wrap (b rest : List Int) (hb : Bytes b) (hr : Bytes rest) (hl : b.length ≤ 32768) :
    scanQ (wrapL b ++ rest) = (b :: (scanQ rest).1, (b.length : Int) + 8 + (scanQ rest).2.1, (scanQ rest).2.2) := by
  have hlen : (wrapL b ++ rest).length = (b.length + 7 + rest.length) + 1 := by rw [List.length_append, wrapL_len]; omega
  unfold scanQ
  rw [hlen, scanP_one _ _ (by intro h; rw [h] at hlen; simp at hlen) b b.length (unwrapP_wrap b rest hb hr hl)]
  have hd : (wrapL b ++ rest).drop (b.length + 8) = rest := by
    rw [← wrapL_len b]
    exact List.drop_left
  rw [hd, Nat.add_comm (b.length + 7) rest.length, scanP_fuel rest hr (b.length + 7)]
  rfl
/-- The frames of bodies, one behind the other. -/
def logP : List (List Int) → List Int
  | [] => []
  | b :: r => wrapL b ++ logP r
theorem logP_append (r s : List (List Int)) : logP (r ++ s) = logP r ++ logP s := by
  induction r with
  | nil => rfl
  | cons b r ih => simp only [List.cons_append, logP, ih, List.append_assoc]
def Good (ls : List (List Int)) : Prop := ∀ b ∈ ls, Bytes b ∧ b.length ≤ 32768
theorem logP_bytes (ls : List (List Int)) (h : Good ls) : Bytes (logP ls) := by
  induction ls with
  | nil => intro x hx; cases hx
  | cons b r ih =>
    have hb := h b (by simp)
    exact (wrapL_bytes b hb.1 hb.2).append (ih (fun c hc => h c (by simp [hc])))
theorem logP_len (ls : List (List Int)) (h : Good ls) : (logP ls).length ≤ 32776 * ls.length := by
  induction ls with
  | nil => simp [logP]
  | cons b r ih =>
    have hb := h b (by simp)
    have := ih (fun c hc => h c (by simp [hc]))
    simp only [logP, List.length_append, wrapL_len, List.length_cons]
    omega
theorem scanQ_log (ls : List (List Int)) (h : Good ls) (rest : List Int) (hr : Bytes rest) :
    scanQ (logP ls ++ rest) = (ls ++ (scanQ rest).1, ((logP ls).length : Int) + (scanQ rest).2.1, (scanQ rest).2.2) := by
  induction ls with
  | nil => simp [logP]
  | cons b r ih =>
    have hb := h b (by simp)
    have hg : Good r := fun c hc => h c (by simp [hc])
    simp only [logP, List.append_assoc]
    rw [scanQ_wrap b _ hb.1 ((logP_bytes r hg).append hr) hb.2, ih hg]
    simp only [List.length_append, wrapL_len, List.cons_append]
    congr 2
    omega
theorem scanQ_nil : scanQ [] = ([], 0, 0) := rfl
theorem log_l0 (ls : List (List Int)) (h : Good ls) (hn : ls.length ≤ 65) : ∀ d i, i + d = ls.length →
    Ev (fun k => eddyref1_Log.l0 k ls (logP (ls.take i)) (i : Int)) (logP ls) := by
  intro d
  induction d with
  | zero =>
    intro i hi
    obtain rfl : i = ls.length := by omega
    rw [List.take_length]
    apply Ev.step
    · intro k
      simp only [eddyref1_Log.l0]
      rw [if_neg (by omega)]
    · exact Ev.now _
  | succ d ih =>
    intro i hi
    have hlt : i < ls.length := by omega
    have hb := h ls[i] (List.getElem_mem hlt)
    have hg : Good (ls.take i) := fun c hc => h c (List.mem_of_mem_take hc)
    have hll := logP_len (ls.take i) hg
    rw [List.length_take] at hll
    have hw := refWrap ls[i] hb.1 (by omega)
    rw [if_neg (by omega)] at hw
    apply Ev.step
    · intro k
      simp only [eddyref1_Log.l0]
      rw [if_pos (by omega), if_pos (by omega), rd_L2_nat ls i hlt, w64 (by omega) (by omega)]
    · refine Ev.bind hw ?_
      refine Ev.congr (fun k => if_pos (by show _ + (wrapL ls[i]).length < _; rw [wrapL_len]; omega)) ?_
      have h2 := ih (i + 1) (by omega)
      rw [List.take_succ_eq_append_getElem hlt, logP_append] at h2
      simp only [logP, List.append_nil] at h2
      exact h2
theorem log_f (ls : List (List Int)) (h : Good ls) (hn : ls.length ≤ 65) : Ev (fun k => eddyref1_Log.f k ls) (logP ls) := log_l0 ls h hn ls.length 0 (by omega)
theorem alike_good (ls : List (List Int)) (h : Good ls) (hn : ls.length ≤ 2 ^ 20) : Ev (fun k => eddylaw1_alike.f k ls ls) true :=
  alike_eq ls (by omega) (fun b hb => by have := (h b hb).2; omega)
theorem join_end (ls : List (List Int)) (h : Good ls) (hn : ls.length ≤ 65) (b : List Int) (hb : Bytes b) (hl : b.length ≤ 131072) :
    Ev (fun k => (eddylaw1_unwraps.f [0]).bind fun t286 => (if t286 = true then ((eddyref1_Log.f k ls).bind fun t287 => ((frame_Scan.f k t287 [0]).bind fun bt290 => ((eddylaw1_num.f bt290.2.2).bind fun t295 => (if t295 = 0 then (if bt290.2.1 = (t287.length : Int) then ((eddylaw1_alike.f k bt290.1 ls).bind fun t296 => (eddylaw1_FrameJoin.j1 k b t287 bt290.1 bt290.2.1 (!t296) [0])) else (eddylaw1_FrameJoin.j1 k b t287 bt290.1 bt290.2.1 true [0])) else (eddylaw1_FrameJoin.j1 k b t287 bt290.1 bt290.2.1 true [0]))))) else (some false))) true := by
  have hlb := logP_bytes ls h
  have hll := logP_len ls h
  refine Ev.pure_ unwraps_eq ?_
  refine Ev.congr (fun k => if_pos rfl) ?_
  refine Ev.bind (log_f ls h hn) ?_
  have hs := (scan_f (logP ls) hlb (by omega)).1
  have hq := scanQ_log ls h [] (fun x hx => by cases hx)
  rw [List.append_nil, scanQ_nil, List.append_nil, Int.add_zero] at hq
  rw [hq] at hs
  refine Ev.bind hs (Ev.pure_ rfl ?_)
  refine Ev.congr (fun k => if_pos rfl) ?_
  refine Ev.congr (fun k => if_pos rfl) ?_
  refine Ev.bind (alike_good ls h (by omega)) ?_
  apply Ev.step
  · intro k
    simp only [eddylaw1_FrameJoin.j1, Bool.not_true, Bool.false_eq_true, if_false]
    exact rfl
  obtain ⟨sb, sm⟩ := scanP_bd b.length b hb
  have hsb := (scan_f b hb (by omega)).1
  have hsj := (scan_f (logP ls ++ b) (hlb.append hb) (by rw [List.length_append]; omega)).1
  rw [scanQ_log ls h b hb] at hsj
  have hm : 0 ≤ (scanQ b).2.1 ∧ (scanQ b).2.1 ≤ 2 ^ 40 := by
    have key : ∀ f l, Bytes l → 0 ≤ (scanP f l).2.1 ∧ (scanP f l).2.1 ≤ l.length := by
      intro f
      induction f with
      | zero => intro l hb; simp [scanP]
      | succ f ih =>
        intro l hb
        by_cases h0 : l = []
        · subst h0; rw [scanP_nil]; simp
        · rcases unwrapP_cases l hb with ⟨n, hn, hn1, hn2⟩ | ⟨e, he, hee⟩
          · rw [scanP_one f l h0 _ n hn]
            have := ih (l.drop (n + 8)) (hb.drop _)
            rw [List.length_drop] at this
            dsimp only
            omega
          · rw [scanP_err f l h0 e he (by omega)]
            simp
    have := key b.length b hb
    unfold scanQ
    omega
  refine Ev.bind hsb (Ev.pure_ (joined_eq _ b (by omega)) (Ev.bind hsj (Ev.pure_ rfl (Ev.pure_ rfl ?_))))
  refine Ev.congr (fun k => if_pos rfl) ?_
  dsimp only
  rw [w64 (x := ((logP ls).length : Int) + (scanQ b).2.1) (by omega) (by omega)]
  refine Ev.congr (fun k => if_pos rfl) ?_
  have hsb2 : (scanQ b).1.length ≤ b.length := sb
  rw [w64 (x := (ls.length : Int) + ((scanQ b).1.length : Int)) (by omega) (by omega), show ((ls ++ (scanQ b).1).length : Int) = (ls.length : Int) + ((scanQ b).1.length : Int) by rw [List.length_append]; omega, bne_self_eq_false]
  apply Ev.step
  · intro k
    simp only [eddylaw1_FrameJoin.j2, Bool.false_eq_true, if_false]
    rw [if_pos (by omega), if_pos (by rw [List.length_append]; omega), Int.toNat_natCast, List.take_left, List.drop_left]
  · refine Ev.bind (alike_good ls h (by omega)) ?_
    refine Ev.congr (fun k => if_pos rfl) ?_
    refine Ev.bind (alike_eq _ (by omega) (fun c hc => ?_)) (Ev.now _)
    have := sm c hc
    omega
theorem join_l0 (ls : List (List Int)) (hby : ∀ c ∈ ls, Bytes c) (hn : ls.length < 2 ^ 50) (b : List Int) (hb : Bytes b) (hl : b.length ≤ 131072) : ∀ d i, i + d = ls.length → (∀ c ∈ ls.take i, c.length ≤ 32768) → i ≤ 65 →
    Ev (fun k => eddylaw1_FrameJoin.l0 k ls b (i : Int) [0]) true := by
  intro d
  induction d with
  | zero =>
    intro i hi hsm hi2
    obtain rfl : i = ls.length := by omega
    rw [List.take_length] at hsm
    have hg : Good ls := fun c hc => ⟨hby c hc, hsm c hc⟩
    apply Ev.step
    · intro k
      simp only [eddylaw1_FrameJoin.l0]
      rw [if_neg (by omega)]
    · exact join_end ls hg (by omega) b hb hl
  | succ d ih =>
    intro i hi hsm hi2
    have hlt : i < ls.length := by omega
    apply Ev.step
    · intro k
      simp only [eddylaw1_FrameJoin.l0]
      rw [if_pos (by omega), if_pos (by omega), rd_L2_nat ls i hlt, w64 (by omega) (by omega)]
    · by_cases h1 : (ls[i].length : Int) > 32768
      · refine Ev.congr (fun k => if_pos h1) (Ev.now _)
      · refine Ev.congr (fun k => if_neg h1) ?_
        by_cases h2 : (i : Int) > 64
        · refine Ev.congr (fun k => if_pos h2) (Ev.now _)
        · refine Ev.congr (fun k => if_neg h2) ?_
          refine ih (i + 1) (by omega) (fun c hc => ?_) (by omega)
          rw [List.take_succ_eq_append_getElem hlt] at hc
          rcases List.mem_append.1 hc with hc | hc
          · exact hsm c hc
          · rw [List.mem_singleton.1 hc]
            omega
theorem FrameJoin_pure0 (l0 : List (List Int)) (hn : l0.length < 2 ^ 50) (hby : ∀ c ∈ l0, Bytes c) (l1 : List Int) (b1 : Bytes l1) : ∃ k, eddylaw1_FrameJoin.f k l0 l1 [0] = some true := by
  apply Ev.rounds
  unfold eddylaw1_FrameJoin.f
  by_cases hbig : (l1.length : Int) > 131072
  · simp only [if_pos hbig]
    exact Ev.now _
  · simp only [if_neg hbig]
    exact join_l0 l0 hby hn l1 b1 (by omega) l0.length 0 (by omega) (by simp) (by omega)
theorem FrameJoin_pure (l0 : List (List Int)) (hn : l0.length * 24 ≤ 140737488351232) (hby : ∀ c ∈ l0, (∀ x ∈ c, (Lit.int .u8 x).wf = true) ∧ c.length ≤ 140737488351232) (l1 : List Int) (_ : l1.length * 1 ≤ 140737488351232) (hw1 : ∀ x ∈ l1, (Lit.int .u8 x).wf = true) : ∃ k, eddylaw1_FrameJoin.f k l0 l1 [0] = some true :=
  FrameJoin_pure0 l0 (by omega) (fun c hc => bytes_of_wf (hby c hc).1) l1 (bytes_of_wf hw1)
end Go.Proofs.YtgfinjhhkmflfaaDoor.PF
