/- The pure statement of FrameTorn: a log of whole frames, cut anywhere, gives the frames ahead of the cut; conditions: what the row's reading gives. (Plain Lean.) -/
import Derived.Test.YtgfinjhhkmflfaaDoorPuJoin
import Derived.Test.YtgfinjhhkmflfaaDoorPuFlip
import Derived.Test.YtgfinjhhkmflfaaDoorPFx13
namespace Go.Proofs.YtgfinjhhkmflfaaDoor.PF
open Go.RowKit Go.Proofs.YtgfinjhhkmflfaaDoorW.PrintWords Go.Proofs.YtgfinjhhkmflfaaDoorW.PrintLast Go.Proofs.YtgfinjhhkmflfaaDoorW.PrintMore
set_option linter.unusedVariables false
theorem rd_int_nat (l : List Int) (i : Nat) (h : i < l.length) : rd l (i : Int) = l[i] := by
  rw [rd_nat]
/-- A frame cut short is ErrFrameCut. -/
theorem unwrapP_cut (b : List Int) (hl : b.length ≤ 32768) (r : Nat) (hr : r < b.length + 8) : unwrapP ((wrapL b).take r) = ([], 0, 11) := by
  have hlen : ((wrapL b).take r).length = r := by rw [List.length_take, wrapL_len]; omega
  have hs : sizeP ((wrapL b).take r) = (0, 11) := by
    unfold sizeP
    by_cases h4 : r < 4
    · rw [if_pos (by rw [hlen]; exact h4)]
    · have ht : (wrapL b).take r = (le2 (b.length : Int) ++ le2 (65535 - (b.length : Int))) ++ (b ++ sum4 (sumL b)).take (r - 4) := by
        rw [wrapL_parts, List.take_append, hd_len, List.take_of_length_le (by rw [hd_len]; omega)]
      have e0 : num ((wrapL b).take r) 0 = b.length := by
        rw [ht, List.append_assoc]
        exact num_le2 _ _ (by omega) (by omega)
      have e2 : num ((wrapL b).take r) 2 = 65535 - b.length := by
        rw [ht]
        show (65535 - (b.length : Int)) % 256 + 256 * ((65535 - (b.length : Int)) / 256) = _
        omega
      rw [if_neg (by rw [hlen]; exact h4), e0, e2, if_neg (by omega), if_pos (by rw [hlen, Int.toNat_natCast]; exact hr)]
  unfold unwrapP
  rw [hs, if_pos (by decide)]
theorem scanQ_cut (b : List Int) (hl : b.length ≤ 32768) (r : Nat) (h0 : 0 < r) (hr : r < b.length + 8) : scanQ ((wrapL b).take r) = ([], 0, 11) := by
  have hlen : ((wrapL b).take r).length = (r - 1) + 1 := by rw [List.length_take, wrapL_len]; omega
  unfold scanQ
  rw [hlen]
  exact scanP_err _ _ (by intro h; rw [h] at hlen; simp at hlen) 11 (unwrapP_cut b hl r hr) (by decide)
/-- The frames' ends. -/
def endsP (ls : List (List Int)) (n : Nat) : List Int := (List.range n).map fun j => ((logP (ls.take (j + 1))).length : Int)
theorem endsP_len (ls : List (List Int)) (n : Nat) : (endsP ls n).length = n := by simp [endsP]
theorem endsP_succ (ls : List (List Int)) (n : Nat) : endsP ls (n + 1) = endsP ls n ++ [((logP (ls.take (n + 1))).length : Int)] := by
  unfold endsP
  rw [List.range_succ, List.map_append]
  rfl
theorem endsP_rd (ls : List (List Int)) (n j : Nat) (h : j < n) : rd (endsP ls n) (j : Int) = ((logP (ls.take (j + 1))).length : Int) := by
  rw [rd_int_nat _ j (by rw [endsP_len]; exact h)]
  simp [endsP]
theorem logP_ge (ls : List (List Int)) : 8 * ls.length ≤ (logP ls).length := by
  induction ls with
  | nil => simp [logP]
  | cons b r ih =>
    simp only [logP, List.length_append, wrapL_len, List.length_cons]
    omega
/-- The last part: what is read of the cut log. -/
theorem torn_j3 (ls : List (List Int)) (hg : Good ls) (hn : ls.length ≤ 2 ^ 20) (hll : (logP ls).length ≤ 2 ^ 20) (m at_ : Nat) (hm : m ≤ ls.length) (h1 : (logP (ls.take m)).length ≤ at_) (h2 : at_ ≤ (logP ls).length)
    (h3 : m < ls.length → at_ < (logP (ls.take (m + 1))).length) : Ev (fun k => eddylaw1_FrameTorn.j3 k ls (logP ls) (at_ : Int) (m : Int) ((logP (ls.take m)).length : Int) [0]) true := by
  have hgm : Good (ls.take m) := fun c hc => hg c (List.mem_of_mem_take hc)
  have hlb := logP_bytes ls hg
  have hsc := (scan_f ((logP ls).take at_) (hlb.take _) (by rw [List.length_take]; omega)).1
  have hparts : logP ls = logP (ls.take m) ++ logP (ls.drop m) := by rw [← logP_append, List.take_append_drop]
  have htake : (logP ls).take at_ = logP (ls.take m) ++ (logP (ls.drop m)).take (at_ - (logP (ls.take m)).length) := by
    rw [hparts, List.take_append, List.take_of_length_le h1]
  have hq : scanQ ((logP ls).take at_) = (ls.take m, ((logP (ls.take m)).length : Int), if at_ = (logP (ls.take m)).length then 0 else 11) := by
    rw [htake, scanQ_log (ls.take m) hgm _ ((logP_bytes _ (fun c hc => hg c (List.mem_of_mem_drop hc))).take _)]
    by_cases he : at_ = (logP (ls.take m)).length
    · rw [if_pos he, he, Nat.sub_self, List.take_zero, scanQ_nil]
      simp
    · rw [if_neg he]
      have hlt : m < ls.length := by
        rcases Nat.lt_or_ge m ls.length with h | h
        · exact h
        · rw [List.take_of_length_le h] at h1 he
          omega
      have h4 := h3 hlt
      rw [List.take_succ_eq_append_getElem hlt, logP_append] at h4
      simp only [logP, List.append_nil, List.length_append, wrapL_len] at h4
      rw [List.drop_eq_getElem_cons hlt]
      simp only [logP]
      rw [List.take_append_of_le_length (by rw [wrapL_len]; omega), scanQ_cut _ (hg _ (List.getElem_mem hlt)).2 _ (by omega) (by omega)]
      simp
  rw [hq] at hsc
  apply Ev.step
  · intro k
    simp only [eddylaw1_FrameTorn.j3]
    rw [if_pos (by omega), if_pos (by omega), Int.toNat_natCast]
  · refine Ev.bind hsc ?_
    dsimp only
    refine Ev.congr (fun k => if_pos (by omega)) ?_
    refine Ev.congr (fun k => if_pos (by omega)) ?_
    rw [Int.toNat_natCast]
    refine Ev.bind (alike_good (ls.take m) hgm (by rw [List.length_take]; omega)) ?_
    refine Ev.congr (fun k => if_pos rfl) ?_
    rw [bne_self_eq_false]
    apply Ev.step
    · intro k
      simp only [eddylaw1_FrameTorn.j4, Bool.false_eq_true, if_false]
      exact rfl
    · by_cases he : at_ = (logP (ls.take m)).length
      · refine Ev.congr (fun k => if_pos (by omega)) ?_
        rw [if_pos he]
        exact Ev.now _
      · refine Ev.congr (fun k => if_neg (by omega)) ?_
        rw [if_neg he]
        exact Ev.now _
theorem torn_l1 (ls : List (List Int)) (hg : Good ls) (hn : ls.length ≤ 2 ^ 20) (hll : (logP ls).length ≤ 2 ^ 20) (at_ : Nat) (h2 : at_ ≤ (logP ls).length) : ∀ d m, m + d = ls.length → (logP (ls.take m)).length ≤ at_ →
    Ev (fun k => eddylaw1_FrameTorn.l1 k ls (logP ls) (endsP ls ls.length) (at_ : Int) (m : Int) ((logP (ls.take m)).length : Int) [0]) true := by
  intro d
  induction d with
  | zero =>
    intro m hm h1
    apply Ev.step
    · intro k
      simp only [eddylaw1_FrameTorn.l1]
      rw [endsP_len, if_neg (by omega)]
    · exact torn_j3 ls hg hn hll m at_ (by omega) h1 h2 (fun h => by omega)
  | succ d ih =>
    intro m hm h1
    have hlt : m < ls.length := by omega
    apply Ev.step
    · intro k
      simp only [eddylaw1_FrameTorn.l1]
      rw [endsP_len, if_pos (by omega), if_pos (by omega), endsP_rd ls _ m hlt, w64 (by omega) (by omega)]
    · by_cases h : (logP (ls.take (m + 1))).length ≤ at_
      · refine Ev.congr (fun k => if_pos (by omega)) ?_
        exact ih (m + 1) (by omega) h
      · refine Ev.congr (fun k => if_neg (by omega)) ?_
        exact torn_j3 ls hg hn hll m at_ (by omega) h1 h2 (fun _ => by omega)
theorem torn_l0 (ls : List (List Int)) (hby : ∀ c ∈ ls, Bytes c) (hn : ls.length < 2 ^ 50) (cut : Int) : ∀ d i, i + d = ls.length → Good (ls.take i) → (logP (ls.take i)).length ≤ 131072 + 32776 →
    Ev (fun k => eddylaw1_FrameTorn.l0 k ls cut (logP (ls.take i)) (endsP ls i) (i : Int) [0]) true := by
  intro d
  induction d with
  | zero =>
    intro i hi hg hll
    obtain rfl : i = ls.length := by omega
    rw [List.take_length] at hg hll ⊢
    have hge := logP_ge ls
    obtain ⟨r, hr, hr2⟩ := place_f cut (((logP ls).length : Int) + 1) (by omega) (by omega)
    apply Ev.step
    · intro k
      simp only [eddylaw1_FrameTorn.l0]
      rw [if_neg (by omega), w64 (by omega) (by omega)]
    · refine Ev.pure_ hr ?_
      have := torn_l1 ls hg (by omega) (by omega) r (by omega) ls.length 0 (by omega) (by simp [logP])
      simpa [logP] using this
  | succ d ih =>
    intro i hi hg hll
    have hlt : i < ls.length := by omega
    have hge := logP_ge (ls.take i)
    rw [List.length_take] at hge
    have hin : i ≤ 131072 := by omega
    have hb := hby _ (List.getElem_mem hlt)
    apply Ev.step
    · intro k
      simp only [eddylaw1_FrameTorn.l0]
      rw [if_pos (by omega), if_pos (by omega), rd_L2_nat ls i hlt]
    · by_cases h1 : (ls[i].length : Int) > 32768
      · refine Ev.congr (fun k => if_pos h1) ?_
        apply Ev.step
        · intro k
          simp only [eddylaw1_FrameTorn.j1, if_true]
          exact rfl
        · exact Ev.now _
      · refine Ev.congr (fun k => if_neg h1) ?_
        by_cases h2 : ((logP (ls.take i)).length : Int) > 131072
        · apply Ev.step
          · intro k
            simp only [eddylaw1_FrameTorn.j1]
            rw [if_pos (decide_eq_true h2)]
          · exact Ev.now _
        · apply Ev.step
          · intro k
            simp only [eddylaw1_FrameTorn.j1]
            rw [if_neg (by simpa using h2), if_pos (by omega), if_pos (by omega), rd_L2_nat ls i hlt, frame_Wrap_eq _ hb, if_neg (by omega), w64 (by omega) (by omega)]
          · refine Ev.pure_ rfl (Ev.pure_ rfl ?_)
            refine Ev.congr (fun k => if_pos rfl) ?_
            refine Ev.congr (fun k => if_pos (by show ((wrapL ls[i]).length : Int) = _; rw [wrapL_len]; omega)) ?_
            refine Ev.congr (fun k => if_pos (by show _ + (wrapL ls[i]).length < _; rw [wrapL_len]; omega)) ?_
            refine Ev.pure_ rfl ?_
            refine Ev.congr (fun k => if_pos (by rw [endsP_len]; omega)) ?_
            rw [w64 (by omega) (by omega)]
            have hnext : logP (ls.take (i + 1)) = logP (ls.take i) ++ wrapL ls[i] := by
              rw [List.take_succ_eq_append_getElem hlt, logP_append]
              simp only [logP, List.append_nil]
            have hgood : Good (ls.take (i + 1)) := by
              intro c hc
              rw [List.take_succ_eq_append_getElem hlt] at hc
              rcases List.mem_append.1 hc with hc | hc
              · exact hg c hc
              · rw [List.mem_singleton.1 hc]
                exact ⟨hb, by omega⟩
            have h5 := ih (i + 1) (by omega) hgood (by rw [hnext, List.length_append, wrapL_len]; omega)
            rw [endsP_succ, hnext] at h5
            exact h5
theorem FrameTorn_pure (l0 : List (List Int)) (hn : l0.length * 24 ≤ 140737488351232) (hby : ∀ c ∈ l0, (∀ x ∈ c, (Lit.int .u8 x).wf = true) ∧ c.length ≤ 140737488351232) (a1 : Int) (_ : (Lit.int .i64 a1).wf = true) : ∃ k, eddylaw1_FrameTorn.f k l0 a1 [0] = some true := by
  apply Ev.rounds
  unfold eddylaw1_FrameTorn.f
  refine Ev.pure_ unwraps_eq ?_
  refine Ev.congr (fun k => if_pos rfl) ?_
  exact torn_l0 l0 (fun c hc => bytes_of_wf (hby c hc).1) (by omega) a1 l0.length 0 (by omega) (fun c hc => by simp at hc) (by simp [logP])
end Go.Proofs.YtgfinjhhkmflfaaDoor.PF
