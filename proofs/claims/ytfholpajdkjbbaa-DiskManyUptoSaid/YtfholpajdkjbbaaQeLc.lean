/- DiskNews; conditions: those in each theorem. -/
import Derived.Test.YtfholpajdkjbbaaQeLa
import Derived.Test.YtfholpajdkjbbaaQeLb
import Derived.Test.YtfholpajdkjbbaaQePDx3
namespace Go.Proofs.Ytfholpajdkjbbaa.DK
open Go.Proofs.Ytfholpajdkjbbaa.PD
open Go.RowKit Go.Proofs.YtfholpajdkjbbaaW.PrintWords Go.Proofs.YtfholpajdkjbbaaW.PrintLast Go.Proofs.YtfholpajdkjbbaaW.PrintMore Go.Proofs.Ytfholpajdkjbbaa.Mo
set_option linter.unusedVariables false
set_option linter.unusedSimpArgs false
theorem newGo_ok : ∀ (fs : List (ByteArray × List Int × Int)) (acc r : List F), Ok (stOf acc) → acc.length + fs.length ≤ 400 → newGo fs acc = some r → Ok (stOf r)
  | [], acc, r, h, _, e => by
    have : acc = r := Option.some.inj e
    exact this ▸ h
  | x :: fs, acc, r, h, hl, e => by
    unfold newGo at e
    by_cases hf : fits x acc = true
    · rw [if_pos hf] at e
      unfold fits at hf
      simp only [Bool.and_eq_true, decide_eq_true_eq] at hf
      obtain ⟨⟨⟨⟨h1, h2⟩, h3⟩, h4⟩, h5⟩ := hf
      have hnm : (newF x).name ∉ namesOf (stOf acc).all := find_none (by cases hq : find acc x.1 with | none => exact hq | some f => rw [hq] at h2; cases h2)
      have hdl := data_length (newF x)
      have hdata : (newF x).data = x.2.1 := by simp only [newF, F.data, List.take_append_drop]
      rw [hdata] at hdl
      rw [List.length_cons] at hl
      refine newGo_ok fs _ r (h.put (newF x) h1 hnm (by omega) (show acc.length < 400 by omega)) ?_ e
      show (put (newF x) acc).length + fs.length ≤ 400
      rw [(put_perm _ acc).length_eq, List.length_cons]
      omega
    · rw [if_neg hf] at e
      cases e
theorem new_ok {fs : List (ByteArray × List Int × Int)} {st : St} (h : St.new fs = some st) : Ok st := by
  unfold St.new at h
  split at h
  · cases h
  · rename_i h1
    cases hg : newGo fs [] with
    | none => rw [hg] at h; cases h
    | some r =>
      rw [hg] at h
      have : (⟨r, false, -1, 0, 0⟩ : St) = st := Option.some.inj h
      exact this ▸ newGo_ok fs [] r ok_empty (by rw [List.length_nil]; omega) hg
theorem fits_calls (w : World) (A0 : Option Addr) (c0 : Nat) (l0 : List S67) (A1 : Option Addr) (c1 : Nat) (l1 : List S41) (hr0 : k67.C w A0 l0.length l0) (hc0 : l0.length ≤ c0) (hr1 : k41.C w A1 l1.length l1) (hc1 : l1.length ≤ c1)
    (h0 : l0.length < 2 ^ 40) (h1 : l1.length < 2 ^ 40) (hb : bulkF l0 + bulkO l1 < 2 ^ 60) : Calls Try.prog 15 #[.slice A0 l0.length c0, .slice A1 l1.length c1] w fun e w' => e = .returned (.bool (fitsB l0 l1)) ∧ Drawn0 w w' := by
  obtain ⟨k, hk⟩ := Ev.rounds (fits_f l0 l1 h1 h0 hb)
  exact PD.eddylaw10_fits.calls k A0 c0 l0 A1 c1 l1 _ w hr0 hc0 hr1 hc1 hk
open Classical in
theorem alike_calls (w : World) (A0 : Option Addr) (c0 : Nat) (l0 : List S67) (A1 : Option Addr) (c1 : Nat) (l1 : List S67) (hr0 : k67.C w A0 l0.length l0) (hc0 : l0.length ≤ c0) (hr1 : k67.C w A1 l1.length l1) (hc1 : l1.length ≤ c1)
    (h0 : l0.length < 2 ^ 62) (hd : ∀ x ∈ l0, x.f1.length < 2 ^ 62) : Calls Try.prog 17 #[.slice A0 l0.length c0, .slice A1 l1.length c1] w fun e w' => e = .returned (.bool (decide (l0 = l1))) ∧ Below w.heap.size w w' := by
  obtain ⟨k, hk⟩ := Ev.rounds (alike_f l0 l1 h0 hd)
  exact PD.eddylaw10_alike.calls k A0 c0 l0 A1 c1 l1 _ w hr0 hc0 hr1 hc1 hk
theorem alike_same (w : World) (A0 : Option Addr) (c0 : Nat) (l : List S67) (A1 : Option Addr) (c1 : Nat) (hr0 : k67.C w A0 l.length l) (hc0 : l.length ≤ c0) (hr1 : k67.C w A1 l.length l) (hc1 : l.length ≤ c1)
    (h0 : l.length < 2 ^ 62) (hd : ∀ x ∈ l, x.f1.length < 2 ^ 62) : Calls Try.prog 17 #[.slice A0 l.length c0, .slice A1 l.length c1] w fun e w' => e = .returned (.bool true) ∧ Below w.heap.size w w' := by
  classical
  refine (alike_calls w A0 c0 l A1 c1 l hr0 hc0 hr1 hc1 h0 hd).mono fun e w' h => ⟨h.1.trans ?_, h.2⟩
  simp
theorem files67_small {s : St} (ok : Ok s) : ∀ x ∈ files67 s, x.f1.length < 2 ^ 62 := fun x hx => by
  unfold files67 St.files at hx
  rw [List.map_map] at hx
  obtain ⟨f, hf, rfl⟩ := List.mem_map.1 hx
  have := ok.small f hf
  show f.data.length < 2 ^ 62
  rw [data_length]
  omega
end Go.Proofs.Ytfholpajdkjbbaa.DK
