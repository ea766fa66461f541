/- The pure statement of FramePlays: every call of every script answers as the document says; conditions: what the row's reading gives. (Plain Lean.) -/
import Derived.Test.YtgfinjhhkmflfaaDoorLd
import Derived.Test.YtgfinjhhkmflfaaDoorPuExacts
import Derived.Test.YtgfinjhhkmflfaaDoorPFx15
namespace Go.Proofs.YtgfinjhhkmflfaaDoor.PF
open Go.RowKit Go.Proofs.YtgfinjhhkmflfaaDoorW.PrintWords Go.Proofs.YtgfinjhhkmflfaaDoorW.PrintLast Go.Proofs.YtgfinjhhkmflfaaDoorW.PrintMore
set_option linter.unusedVariables false
theorem roomy_l0 (l : List Int) (hl : l.length < 2 ^ 40) : ∀ d i, i + d = 60 → ∀ p : List Int, p.length = i → Ev (fun k => (eddylaw1_roomy.l0 k (l ++ p) (i : Int)).bind fun r => if l.length ≤ r.length ∧ r.length ≤ l.length + 60 ∧ r.take l.length = l then some true else none) true := by
  intro d
  induction d with
  | zero =>
    intro i hi p hp
    apply Ev.step
    · intro k
      simp only [eddylaw1_roomy.l0]
      rw [if_neg (by omega), Option.bind_some, if_pos ⟨by simp, by simp; omega, List.take_left⟩]
    · exact Ev.now _
  | succ d ih =>
    intro i hi p hp
    apply Ev.step
    · intro k
      simp only [eddylaw1_roomy.l0]
      rw [if_pos (by omega), if_pos (by rw [List.length_append]; omega), w64 (x := (i : Int) + 1) (by omega) (by omega), List.append_assoc]
    · exact ih (i + 1) (by omega) _ (by simp [hp])
theorem roomy_f (l : List Int) (hl : l.length < 2 ^ 40) : ∃ wh, Ev (fun k => eddylaw1_roomy.f k l) wh ∧ l.length ≤ wh.length ∧ wh.length ≤ l.length + 60 ∧ wh.take l.length = l := by
  obtain ⟨k, h⟩ := Ev.rounds (roomy_l0 l hl 60 0 (by omega) [] rfl)
  obtain ⟨wh, h1, h2⟩ := Option.bind_eq_some_iff.1 h
  rw [List.append_nil] at h1
  refine ⟨wh, Ev.of (fun k => eddylaw1_roomy.mono _ k) (k := k) ?_, ?_⟩
  · show eddylaw1_roomy.f k l = some wh
    unfold eddylaw1_roomy.f
    rw [joined_eq l [] (by simp; omega), List.append_nil]
    exact h1
  · split at h2
    · rename_i hh; exact hh
    · cases h2
theorem yes {g : Nat → Option Bool} (h : Ev g true) : Ev (fun k => (g k).bind fun b => if b = true then some true else none) true := by
  obtain ⟨K, h⟩ := h
  exact ⟨K, fun k hk => by show (g k).bind _ = _; rw [h k hk]; rfl⟩
theorem wf_of_bytes {l : List Int} (h : Bytes l) : ∀ x ∈ l, (Lit.int .u8 x).wf = true := fun x hx => by
  have := h x hx
  have e1 : IntKind.u8.min = 0 := by decide
  have e2 : IntKind.u8.max = 255 := by decide
  simp [Lit.wf, e1, e2]
  omega
theorem plays_ev (a0 a1 : Int) (h0 : 0 ≤ a1) (h1 : a1 < 4294967296) (l : List Int) (hb : Bytes l) (hl : l.length ≤ 131072) : Ev (fun k => eddylaw1_plays.f k a0 a1 l [0]) true := by
  obtain ⟨wh, e1, r1, r2, r3⟩ := roomy_f l (by omega)
  have hw := wf_of_bytes hb
  unfold eddylaw1_plays.f
  refine Ev.bind e1 (Ev.pure_ (joined_eq wh [] (by simp; omega)) ?_)
  rw [List.append_nil]
  refine Ev.bind (same_eq wh (by omega)) ?_
  refine Ev.congr (fun k => if_pos ⟨rfl, r1⟩) ?_
  unfold eddylaw1_plays.g
  rw [r3]
  have hs := Ev.of (fun k => eddylaw1_FrameScans.mono l [0] k) (FrameScans_pure l (by omega) hw).choose_spec
  have hx := Ev.of (fun k => eddylaw1_FrameExacts.mono l [0] k) (FrameExacts_pure l (by omega) hw).choose_spec
  have hu := Ev.of (fun k => eddylaw1_FrameUnwraps.mono l [0] k) (FrameUnwraps_pure l (by omega) hw).choose_spec
  have hv := Ev.of (fun k => eddylaw1_FrameWraps.mono l [0] k) (FrameWraps_pure l (by omega) hw).choose_spec
  by_cases g1 : a0 = 1
  · simp only [if_pos g1]
    exact Ev.pure_ (frame_Sum_eq l [0] hb (by simp)) (Ev.bind (refSum l hb (by omega)) (Ev.congr (fun k => if_pos rfl) (Ev.now _)))
  simp only [if_neg g1]
  by_cases g2 : a0 = 2
  · simp only [if_pos g2]
    exact Ev.pure_ (Add_eq a1 h0 h1 l hb) (Ev.bind (refAdd a1 h0 h1 l hb (by omega)) (Ev.congr (fun k => if_pos rfl) (Ev.now _)))
  simp only [if_neg g2]
  by_cases g3 : a0 = 3
  · simp only [if_pos g3]
    exact yes hv
  simp only [if_neg g3]
  by_cases g4 : a0 = 4
  · simp only [if_pos g4]
    exact yes hu
  simp only [if_neg g4]
  by_cases g5 : a0 = 5
  · simp only [if_pos g5]
    exact yes hx
  simp only [if_neg g5]
  by_cases g6 : a0 = 6
  · simp only [if_pos g6]
    exact yes hs
  simp only [if_neg g6]
  exact Ev.now _
theorem plays_l0 (ls : List S56) (hn : ls.length < 2 ^ 50) (hby : ∀ o ∈ ls, 0 ≤ o.f1 ∧ o.f1 < 4294967296 ∧ Bytes o.f2 ∧ o.f2.length < 2 ^ 50) : ∀ d i (s : Nat), i + d = ls.length → s ≤ 131072 → Ev (fun k => eddylaw1_FramePlays.l0 k ls (s : Int) (i : Int) [0]) true := by
  intro d
  induction d with
  | zero =>
    intro i s hi hs
    apply Ev.step
    · intro k
      simp only [eddylaw1_FramePlays.l0]
      rw [if_neg (by omega)]
    · exact Ev.now _
  | succ d ih =>
    intro i s hi hs
    have hlt : i < ls.length := by omega
    obtain ⟨h0, h1, hb, hl⟩ := hby _ (List.getElem_mem hlt)
    have hrd : rd_T56 ls (i : Int) = ls[i] := by
      unfold rd_T56
      rw [Int.toNat_natCast, List.getD_eq_getElem?_getD, List.getElem?_eq_getElem hlt]
      rfl
    apply Ev.step
    · intro k
      simp only [eddylaw1_FramePlays.l0]
      rw [if_pos (by omega), if_pos (by omega), hrd, w64 (x := (s : Int) + (ls[i].f2.length : Int)) (by omega) (by omega), w64 (x := (i : Int) + 1) (by omega) (by omega)]
    · by_cases hbig : (s : Int) + (ls[i].f2.length : Int) > 131072
      · exact Ev.congr (fun k => if_pos hbig) (Ev.now _)
      · refine Ev.congr (fun k => if_neg hbig) ?_
        refine Ev.bind (plays_ev _ _ h0 h1 _ hb (by omega)) ?_
        refine Ev.congr (fun k => if_pos rfl) ?_
        have := ih (i + 1) (s + ls[i].f2.length) (by omega) (by omega)
        exact this
theorem FramePlays_pure (l0 : List S56) (hn : l0.length < 2 ^ 50) (hby : ∀ o ∈ l0, (Lit.int .u32 o.f1).wf = true ∧ (∀ x ∈ o.f2, (Lit.int .u8 x).wf = true) ∧ o.f2.length < 2 ^ 50) : ∃ k, eddylaw1_FramePlays.f k l0 [0] = some true := by
  apply Ev.rounds
  unfold eddylaw1_FramePlays.f
  exact plays_l0 l0 hn (fun o ho => by
    obtain ⟨h1, h2, h3⟩ := hby o ho
    obtain ⟨p, q⟩ := u32_of_wf h1
    exact ⟨p, q, bytes_of_wf h2, h3⟩) l0.length 0 0 (by omega) (by omega)
end Go.Proofs.YtgfinjhhkmflfaaDoor.PF
