/- PROVED: what the Go function frame.Exact tells of a list of bytes: the body of the one frame that it is, or which error; conditions: the table's place, bytes. -/
import Derived.Test.YtgfinjhhkmflfaaDoorSize
namespace Go.Proofs.YtgfinjhhkmflfaaDoor.PF
open Go.RowKit Go.Proofs.YtgfinjhhkmflfaaDoorW.PrintWords Go.Proofs.YtgfinjhhkmflfaaDoorW.PrintLast Go.Proofs.YtgfinjhhkmflfaaDoorW.PrintMore
set_option linter.unusedVariables false
/-- What frame.Exact computes. -/
def exactP (l : List Int) : List Int × Int :=
  if (sizeP l).2 ≠ 0 then ([], (sizeP l).2)
  else if (sizeP l).1.toNat + 8 < l.length then ([], 14)
  else ((l.drop 4).take (sizeP l).1.toNat, 0)
def frame_Exact.f (l0 l1 : List Int) : Option (List Int × Int) := if (∀ x ∈ l0, 0 ≤ x ∧ x < 256) ∧ l1 ≠ [] then some (exactP l0) else none
/-- What frame.size tells: no error: a body that fits; an error: one of three, and no size. -/
theorem sizeP_cases (l : List Int) (hb : Bytes l) : (∃ n : Nat, sizeP l = ((n : Int), 0) ∧ n ≤ 32768 ∧ n + 8 ≤ l.length) ∨ (∃ e : Int, sizeP l = (0, e) ∧ (e = 11 ∨ e = 12 ∨ e = 13)) := by
  obtain ⟨q0, q1⟩ := num_bd hb 0
  obtain ⟨n, hn⟩ := Int.eq_ofNat_of_zero_le q0
  unfold sizeP
  rw [hn]
  by_cases h1 : l.length < 4
  · rw [if_pos h1]; exact .inr ⟨_, rfl, .inl rfl⟩
  rw [if_neg h1]
  by_cases h2 : (n : Int) + num l 2 ≠ 65535 ∨ (n : Int) > 32768
  · rw [if_pos h2]; exact .inr ⟨_, rfl, .inr (.inl rfl)⟩
  rw [if_neg h2, Int.toNat_natCast]
  by_cases h3 : l.length < n + 8
  · rw [if_pos h3]; exact .inr ⟨_, rfl, .inl rfl⟩
  rw [if_neg h3]
  split
  · exact .inr ⟨_, rfl, .inr (.inr rfl)⟩
  · exact .inl ⟨n, rfl, by omega, by omega⟩
set_option maxHeartbeats 1000000 in
theorem frame_Exact.calls (A0 : Option Addr) (c0 : Nat) (l0 : List Int) (A1 : Option Addr) (c1 : Nat) (l1 : List Int) (r1 : List Int) (r2 : Int) (w : World)
    (hr0 : Kd.C (Kd.int .u8) w A0 l0.length l0) (hc0 : l0.length ≤ c0) (hr1 : Kd.C kTab w A1 l1.length l1) (hc1 : l1.length ≤ c1) (h : frame_Exact.f l0 l1 = some (r1, r2)) :
    Calls Tryd.prog 29 #[.slice A0 l0.length c0] w fun e w' => ∃ v0_ : Value, e = .returned (.tuple #[v0_, .int .i64 r2]) ∧ Kd.R (Kd.int .u8) 5 w' w.heap.size (fun _ => True) v0_ r1 ∧ Below w.heap.size w w' := by
  unfold frame_Exact.f at h
  split at h
  · rename_i hh
    obtain ⟨hb0, hl1⟩ := hh
    have hb : Bytes l0 := hb0
    injection h with h
    have hsz := fun r1 r2 (e : sizeP l0 = (r1, r2)) => frame_size.calls A0 c0 l0 A1 c1 l1 r1 r2 w hr0 hc0 hr1 hc1 (by unfold frame_size.f; rw [if_pos ⟨hb, hl1⟩, e])
    obtain ⟨n, hn⟩ : ∃ n, l0.length = n := ⟨_, rfl⟩
    have hm := hr0.2.1
    rw [hn] at hm
    rcases sizeP_cases l0 hb with ⟨N, hN, hN1, hN2⟩ | ⟨e, he, hee⟩
    · have hS := hsz _ _ hN
      unfold exactP at h
      rw [hN] at h
      simp only [ne_eq, not_true_eq_false, if_false, Int.toNat_natCast] at h
      by_cases hbe : N + 8 < l0.length
      · rw [if_pos hbe] at h
        injection h with e1 e2
        subst e1 e2
        have b1 : (N : Int) + 8 < (n : Int) := by omega
        rw [hn] at hS hc0 ⊢
        have HS := Aside0.mk hS
        clear hS hsz hb hb0 hl1 hr0 hr1 hn hN hbe
        go_enter Tryd.func29, Tryd.ntmps29
        go_wp2_with fail
        refine HS.out.mono ?_
        rintro e w1 ⟨rfl, ⟨⟨nd, rfl⟩⟩⟩
        go_wp2
        go_ret2
        exact ⟨_, rfl, Kd.R_nil _ _ _ _ _, pw_below_drewN (Below.refl _ _) nd⟩
      · rw [if_neg hbe] at h
        injection h with e1 e2
        subst e1 e2
        have b1 : ¬ (N : Int) + 8 < (n : Int) := by omega
        obtain ⟨A8, hcut8, hrd8⟩ := mid_at A0 n c0 4 (4 + N) 4 (4 + (N : Int)) rfl (by omega) (by omega) (by omega) (by omega) l0 hn
        rw [show 4 + N - 4 = N by omega] at hcut8 hrd8
        have hR8 := hrd8 w (by rw [← hn]; exact hr0)
        have hlen : ((l0.drop 4).take N).length = N := by simp; omega
        rw [hn] at hS hc0 ⊢
        have HS := Aside0.mk hS
        have HR8 := Aside0.mk hR8
        clear hS hsz hb hb0 hl1 hr0 hr1 hN hbe hrd8 hR8 hn hlen
        go_enter Tryd.func29, Tryd.ntmps29
        go_wp2_with fail
        refine HS.out.mono ?_
        rintro e w1 ⟨rfl, ⟨⟨nd, rfl⟩⟩⟩
        go_wp2_with ((with_reducible refine gate_builtin (b := .append) (xs := #[.const (.slice none 0 0), .tmp 26]) rfl ?_); at_builtin; refine Kd.R_append_rows (Kd.int .u8) (w0 := w) w.heap.size rfl (.const (.slice none 0 0)) (.tmp 26) 23 5 (.int .u8 0) 1 rfl Tryd.underlying23 info5 rfl (by decide) (by omega) (.slice none 0 0) ([] : List Int) ((l0.drop 4).take N) _ _ _ (fun _ => True) (fun _ => False) rfl rfl ?aO ?aR (fun _ _ h => h) (fun _ h => h.elim) ?aF ?aB ?aS ?aL ?_)
        case aO => exact Kd.R_nil _ _ _ _ _
        case aR => exact Kd.C_drewN HR8.out nd
        case aF => exact fun _ _ => trivial
        case aB => exact pw_below_drewN (Below.refl _ _) nd
        case aS => exact Nat.le_refl _
        case aL => simp; omega
        intro v1 w2 hR2 hB2 _ _
        have HR2 := Aside0.mk hR2
        have HB2 := Aside0.mk hB2
        clear hR2 hB2
        go_wp2
        go_ret2
        exact ⟨_, rfl, HR2.out, HB2.out⟩
    · have hS := hsz _ _ he
      unfold exactP at h
      rw [he] at h
      have hne : e ≠ 0 := by omega
      simp only [ne_eq, hne, not_false_eq_true, if_true] at h
      injection h with e1 e2
      subst e1 e2
      have b1 : (e == 0) = false := by simpa using hne
      have b2 : (e != 0) = true := by simpa using hne
      rw [hn] at hS hc0 ⊢
      have HS := Aside0.mk hS
      clear hS hsz hb hb0 hl1 hr0 hr1 hn he hee hne
      go_enter Tryd.func29, Tryd.ntmps29
      go_wp2_with fail
      refine HS.out.mono ?_
      rintro e w1 ⟨rfl, ⟨⟨nd, rfl⟩⟩⟩
      go_wp2
      go_ret2
      exact ⟨_, rfl, Kd.R_nil _ _ _ _ _, pw_below_drewN (Below.refl _ _) nd⟩
  · cases h
end Go.Proofs.YtgfinjhhkmflfaaDoor.PF
