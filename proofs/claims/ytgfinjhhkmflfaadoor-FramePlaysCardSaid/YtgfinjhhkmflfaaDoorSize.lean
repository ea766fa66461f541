/- PROVED: what the Go function frame.size tells of the frame that a list of bytes begins with: its body's length, or which error; conditions: the table's place, bytes. -/
import Derived.Test.YtgfinjhhkmflfaaDoorPFx5
import Derived.Test.YtgfinjhhkmflfaaDoorLa
import Derived.IntWalk
namespace Go.Proofs.YtgfinjhhkmflfaaDoor.PF
open Go.RowKit Go.Proofs.YtgfinjhhkmflfaaDoorW.PrintWords Go.Proofs.YtgfinjhhkmflfaaDoorW.PrintLast Go.Proofs.YtgfinjhhkmflfaaDoorW.PrintMore
set_option linter.unusedVariables false
/-- The number of two bytes, the lower one first. -/
def num (l : List Int) (i : Nat) : Int := l.getD i 0 + 256 * l.getD (i + 1) 0
/-- What frame.size computes. -/
def sizeP (l : List Int) : Int × Int :=
  if l.length < 4 then (0, 11)
  else if num l 0 + num l 2 ≠ 65535 ∨ num l 0 > 32768 then (0, 12)
  else if l.length < (num l 0).toNat + 8 then (0, 11)
  else if num l (4 + (num l 0).toNat) + 65536 * num l (6 + (num l 0).toNat) ≠ (sumL ((l.drop 4).take (num l 0).toNat) : Nat) then (0, 13)
  else (num l 0, 0)
def frame_size.f (l0 l1 : List Int) : Option (Int × Int) := if (∀ x ∈ l0, 0 ≤ x ∧ x < 256) ∧ l1 ≠ [] then some (sizeP l0) else none
theorem Bytes.getD {l : List Int} (h : Bytes l) (i : Nat) : 0 ≤ l.getD i 0 ∧ l.getD i 0 < 256 := by
  rw [List.getD_eq_getElem?_getD]
  rcases Nat.lt_or_ge i l.length with hi | hi
  · rw [List.getElem?_eq_getElem hi]
    exact h _ (List.getElem_mem hi)
  · rw [List.getElem?_eq_none hi]
    decide
theorem Bytes.drop {l : List Int} (h : Bytes l) (n : Nat) : Bytes (l.drop n) := fun x hx => h x (List.mem_of_mem_drop hx)
theorem Bytes.take {l : List Int} (h : Bytes l) (n : Nat) : Bytes (l.take n) := fun x hx => h x (List.mem_of_mem_take hx)
theorem num_bd {l : List Int} (h : Bytes l) (i : Nat) : 0 ≤ num l i ∧ num l i ≤ 65535 := by
  have h1 := h.getD i
  have h2 := h.getD (i + 1)
  unfold num
  omega
theorem num_drop (l : List Int) (n i : Nat) : num (l.drop n) i = num l (n + i) := by
  unfold num
  simp [List.getD_eq_getElem?_getD, List.getElem?_drop, Nat.add_assoc]
theorem or_low (a b : Nat) (ha : a < 256) (hb : b < 2 ^ 50) : a ||| b * 256 = a + 256 * b := by
  rw [Nat.or_comm, Nat.mul_comm b 256, show (256 : Nat) = 2 ^ 8 from rfl, ← Nat.two_pow_add_eq_or_of_lt ha]
  omega
theorem get2_f (l : List Int) (h : Bytes l) (h2 : 2 ≤ l.length) : frame_get2.f l = some (num l 0) := by
  unfold frame_get2.f
  have h1 := h.getD 0
  have h3 := h.getD 1
  have e0 : rd l 0 = l.getD 0 0 := rfl
  have e1 : rd l 1 = l.getD 1 0 := rfl
  rw [if_pos (by omega), if_pos (by omega), e0, e1, w64 (by omega) (by omega), w64 (x := l.getD 1 0) (by omega) (by omega), w64 (by omega) (by omega)]
  congr 1
  unfold num
  generalize l.getD 0 0 = x at *
  generalize l.getD 1 0 = y at *
  obtain ⟨a, rfl⟩ := Int.eq_ofNat_of_zero_le h1.1
  obtain ⟨b, rfl⟩ := Int.eq_ofNat_of_zero_le h3.1
  have := (bits_nat .i64 63 (by decide) (fun n h0 h1 => by rw [i64_w]; unfold wrap64; omega) a (b * 256) (by omega) (by omega)).2
  rw [show ((b : Int) * 256) = ((b * 256 : Nat) : Int) by omega, this, or_low a b (by omega) (by omega)]
  omega
theorem get2_n (A : Option Addr) (c n : Nat) (l : List Int) (w : World) (hr : Kd.C (Kd.int .u8) w A n l) (hl : l.length = n) (hc : n ≤ c) (hb : Bytes l) (h2 : 2 ≤ n) :
    Calls Tryd.prog 48 #[.slice A n c] w fun e w' => e = .returned (.int .i64 (num l 0)) ∧ Drawn0 w w' := by
  subst hl
  exact frame_get2.calls A c l _ w hr hc (get2_f l hb h2)
theorem sum_n (A : Option Addr) (c n : Nat) (l : List Int) (A1 : Option Addr) (c1 : Nat) (l1 : List Int) (w : World) (hr : Kd.C (Kd.int .u8) w A n l) (hl : l.length = n) (hc : n ≤ c) (hb : Bytes l) (hr1 : Kd.C kTab w A1 l1.length l1) (hc1 : l1.length ≤ c1) (h1 : l1 ≠ []) :
    Calls Tryd.prog 19 #[.slice A n c] w fun e w' => e = .returned (.int .u32 (sumL l : Nat)) ∧ Drawn0 w w' := by
  subst hl
  exact frame_Sum.calls A c l A1 c1 l1 _ w hr hc hr1 hc1 (frame_Sum_eq l l1 hb h1)
/-- A cut from the front, and one from the middle, of bytes that are read: the run's equation and what it reads. -/
theorem cut_at (A : Option Addr) (n c m : Nat) (j : Int) (hj : j = (m : Int)) (hm : m ≤ n) (hc : n ≤ c) :
    ∃ A' : Option Addr, (∀ W : World, (Instr.slice 23 (.slice A n c) (some (.int .i64 j)) none none).run Tryd.prog W = .ok (.slice A' (n - m) (c - m)) W) ∧
      ∀ (w : World) (l : List Int), Kd.C (Kd.int .u8) w A n l → Kd.C (Kd.int .u8) w A' (n - m) (l.drop m) := by
  subst hj
  obtain ⟨i0, hi0, _, hsz, _⟩ := info_parts info5
  obtain ⟨A', h1, h2⟩ := print_cut_of (P := Tryd.prog) (Value.int .u8) (0 : Int) 23 5 .i64 Tryd.underlying23 hi0 hsz A n c m hm
  exact ⟨A', h1, fun w l h => Kd.C_of_reads (h1 := fun _ => rfl) (h2 w l hc (Kd.reads_of_C h))⟩
theorem mid_at (A : Option Addr) (n c a b : Nat) (i j : Int) (hi : i = (a : Int)) (hj : j = (b : Int)) (hab : a ≤ b) (hbn : b ≤ n) (hc : n ≤ c) (l0 : List Int) (hl : l0.length = n) :
    ∃ A' : Option Addr, (∀ W : World, (Instr.slice 23 (.slice A n c) (some (.int .i64 i)) (some (.int .i64 j)) none).run Tryd.prog W = .ok (.slice A' (b - a) (c - a)) W) ∧
      ∀ (w : World), Kd.C (Kd.int .u8) w A n l0 → Kd.C (Kd.int .u8) w A' (b - a) ((l0.drop a).take (b - a)) := by
  subst hi hj hl
  obtain ⟨i0, hi0, _, hsz, _⟩ := info_parts info5
  obtain ⟨A', h1, h2, _⟩ := print_mid_of (P := Tryd.prog) (Value.int .u8) (0 : Int) 23 5 .i64 .i64 Tryd.underlying23 hi0 hsz A c l0 a b (by omega) (by omega) (by omega) hc
  simp only [Int.toNat_natCast] at h1 h2
  have hlen : ((l0.take b).drop a).length = b - a := by simp; omega
  have hdt : (l0.take b).drop a = (l0.drop a).take (b - a) := by rw [List.drop_take]
  rw [hlen] at h1 h2
  rw [hdt] at h2
  exact ⟨A', h1, fun w h => Kd.C_of_reads (h1 := fun _ => rfl) (h2 w (Kd.reads_of_C h))⟩
set_option maxHeartbeats 1000000 in
theorem frame_size.calls (A0 : Option Addr) (c0 : Nat) (l0 : List Int) (A1 : Option Addr) (c1 : Nat) (l1 : List Int) (r1 r2 : Int) (w : World)
    (hr0 : Kd.C (Kd.int .u8) w A0 l0.length l0) (hc0 : l0.length ≤ c0) (hr1 : Kd.C kTab w A1 l1.length l1) (hc1 : l1.length ≤ c1) (h : frame_size.f l0 l1 = some (r1, r2)) :
    Calls Tryd.prog 44 #[.slice A0 l0.length c0] w fun e w' => e = .returned (.tuple #[.int .i64 r1, .int .i64 r2]) ∧ Drawn0 w w' := by
  unfold frame_size.f at h
  split at h
  · rename_i hh
    obtain ⟨hb0, hl1⟩ := hh
    have hb : Bytes l0 := hb0
    injection h with h
    obtain ⟨n, hn⟩ : ∃ n, l0.length = n := ⟨_, rfl⟩
    have hm := hr0.2.1
    by_cases h4 : n < 4
    · unfold sizeP at h
      rw [if_pos (by omega)] at h
      injection h with e1 e2
      subst e1 e2
      rw [hn] at hm ⊢
      have d4 : (n : Int) < 4 := by omega
      clear hr0 hr1 hn hb hc0
      go_enter Tryd.func44, Tryd.ntmps44
      go_wp2
      go_ret2
      exact ⟨rfl, Drawn0.refl _⟩
    · have hg0 := get2_n A0 c0 n l0 w (by rw [← hn]; exact hr0) hn (by omega) hb (by omega)
      obtain ⟨A2, hcut2, hrd2⟩ := cut_at A0 n c0 2 2 rfl (by omega) (by omega)
      obtain ⟨q0, q1⟩ := num_bd hb 0
      obtain ⟨N, hN⟩ := Int.eq_ofNat_of_zero_le q0
      obtain ⟨t0, t1⟩ := num_bd hb 2
      obtain ⟨M, hM⟩ := Int.eq_ofNat_of_zero_le t0
      have hs : sizeP l0 = (if N + M ≠ 65535 ∨ N > 32768 then (0, 12) else if n < N + 8 then (0, 11) else if num l0 (4 + N) + 65536 * num l0 (6 + N) ≠ (sumL ((l0.drop 4).take N) : Nat) then (0, 13) else ((N : Int), 0)) := by
        unfold sizeP
        rw [if_neg (by omega), hN, hM, Int.toNat_natCast, hn]
        by_cases hbad : N + M ≠ 65535 ∨ N > 32768
        · rw [if_pos (by omega), if_pos hbad]
        · rw [if_neg (by omega), if_neg hbad]
      rw [hs] at h
      have HR0 := Aside0.mk hr0
      have HR1 := Aside0.mk hr1
      have HL := Aside0.mk hn
      have HB := Aside0.mk hb
      have HL1 := Aside0.mk hl1
      have hg2 := fun W (hW : Drawn0 w W) => get2_n A2 (c0 - 2) (n - 2) (l0.drop 2) W (Kd.C_below (hrd2 w l0 (by rw [← hn]; exact hr0)) hW.below) (by simp; omega) (by omega) (hb.drop 2) (by omega)
      rw [num_drop] at hg2
      rw [hN] at hg0
      rw [hM] at hg2
      have HG0 := Aside0.mk hg0
      have HG2 := Aside0.mk hg2
      have HN := Aside0.mk hN
      have d4 : ¬ (n : Int) < 4 := by omega
      have d5 : (2 : Int) ≤ (n : Int) := by omega
      have hNb : N ≤ 65535 := by omega
      have hMb : M ≤ 65535 := by omega
      rw [hn] at hm hc0 ⊢
      clear hs hr0 hr1 hn hb hb0 hl1 hg0 hg2 hrd2 hM q0 q1 t0 t1
      by_cases hsum : N + M = 65535
      · by_cases hbig : N > 32768
        · rw [if_pos (.inr hbig)] at h
          injection h with e1 e2
          subst e1 e2
          have b1 : ((N : Int) + (M : Int) != 65535) = false := by simp; omega
          have b2 : decide ((32768 : Int) < (N : Int)) = true := by simp; omega
          clear hsum hbig hN
          go_enter Tryd.func44, Tryd.ntmps44
          go_wp2_with fail
          refine HG0.out.mono ?_
          rintro e w1 ⟨rfl, ⟨⟨nd, rfl⟩⟩⟩
          go_wp2_with fail
          refine (HG2.out _ ((Drawn0.refl w).step nd)).mono ?_
          rintro e w1 ⟨rfl, ⟨⟨nd2, rfl⟩⟩⟩
          go_wp2
          go_ret2
          exact ⟨rfl, (Drawn0.refl w).step (nd + nd2)⟩
        · rw [if_neg (by omega)] at h
          have b1 : ((N : Int) + (M : Int) != 65535) = false := by simp; omega
          have b2 : decide ((32768 : Int) < (N : Int)) = false := by simp; omega
          by_cases hsh : n < N + 8
          · rw [if_pos hsh] at h
            injection h with e1 e2
            subst e1 e2
            have b3 : (n : Int) < (N : Int) + 8 := by omega
            clear hsum hbig hN hsh
            go_enter Tryd.func44, Tryd.ntmps44
            go_wp2_with fail
            refine HG0.out.mono ?_
            rintro e w1 ⟨rfl, ⟨⟨nd, rfl⟩⟩⟩
            go_wp2_with fail
            refine (HG2.out _ ((Drawn0.refl w).step nd)).mono ?_
            rintro e w1 ⟨rfl, ⟨⟨nd2, rfl⟩⟩⟩
            go_wp2
            go_ret2
            exact ⟨rfl, (Drawn0.refl w).step (nd + nd2)⟩
          · rw [if_neg hsh] at h
            obtain ⟨A4, hcut4, hrd4⟩ := cut_at A0 n c0 (4 + N) (4 + (N : Int)) (by omega) (by omega) (by omega)
            obtain ⟨A6, hcut6, hrd6⟩ := cut_at A0 n c0 (6 + N) (6 + (N : Int)) (by omega) (by omega) (by omega)
            obtain ⟨A8, hcut8, hrd8⟩ := mid_at A0 n c0 4 (4 + N) 4 (4 + (N : Int)) rfl (by omega) (by omega) (by omega) (by omega) l0 HL.out
            rw [show 4 + N - 4 = N by omega] at hcut8 hrd8
            have hr0' : Kd.C (Kd.int .u8) w A0 n l0 := by have := HR0.out; rw [HL.out] at this; exact this
            have hg4 := fun W (hW : Drawn0 w W) => get2_n A4 (c0 - (4 + N)) (n - (4 + N)) (l0.drop (4 + N)) W (Kd.C_below (hrd4 w l0 hr0') hW.below) (by rw [List.length_drop, HL.out]) (by omega) (HB.out.drop _) (by omega)
            have hg6 := fun W (hW : Drawn0 w W) => get2_n A6 (c0 - (6 + N)) (n - (6 + N)) (l0.drop (6 + N)) W (Kd.C_below (hrd6 w l0 hr0') hW.below) (by rw [List.length_drop, HL.out]) (by omega) (HB.out.drop _) (by omega)
            have hg8 := fun W (hW : Drawn0 w W) => sum_n A8 (c0 - 4) N ((l0.drop 4).take N) A1 c1 l1 W (Kd.C_below (hrd8 w hr0') hW.below) (by simp [HL.out]; omega) (by omega) ((HB.out.drop _).take _) (Kd.C_below HR1.out hW.below) hc1 HL1.out
            rw [num_drop] at hg4 hg6
            obtain ⟨q0, q1⟩ := num_bd HB.out (4 + N)
            obtain ⟨p, hp⟩ := Int.eq_ofNat_of_zero_le q0
            obtain ⟨t0, t1⟩ := num_bd HB.out (6 + N)
            obtain ⟨q, hq⟩ := Int.eq_ofNat_of_zero_le t0
            have hsl := sumL_lt ((l0.drop 4).take N)
            rw [show 4 + N + 0 = 4 + N from rfl, hp] at hg4
            rw [show 6 + N + 0 = 6 + N from rfl, hq] at hg6
            rw [hp, hq] at h
            obtain ⟨s, hs⟩ : ∃ s, sumL ((l0.drop 4).take N) = s := ⟨_, rfl⟩
            rw [hs] at hg8 hsl h
            have hpb : p ≤ 65535 := by omega
            have hqb : q ≤ 65535 := by omega
            have hor : Go.bits .or .u32 (p : Int) ((q : Int) * 65536) = ((p + 65536 * q : Nat) : Int) := by
              rw [show ((q : Int) * 65536) = ((q * 65536 : Nat) : Int) by omega, u32_or_nat p (q * 65536) (by omega) (by omega), Nat.or_comm, Nat.mul_comm q, show (65536 : Nat) = 2 ^ 16 from rfl, ← Nat.two_pow_add_eq_or_of_lt (by omega)]
              omega
            have HG4 := Aside0.mk hg4
            have HG6 := Aside0.mk hg6
            have HG8 := Aside0.mk hg8
            have b3 : ¬ (n : Int) < (N : Int) + 8 := by omega
            have b4 : 4 + (N : Int) ≤ (n : Int) := by omega
            have b5 : 6 + (N : Int) ≤ (n : Int) := by omega
            have b6 : (4 : Int) ≤ 4 + (N : Int) := by omega
            have b7 : 0 ≤ 4 + (N : Int) := by omega
            have b8 : 0 ≤ 6 + (N : Int) := by omega
            have Hh := Aside0.mk h
            clear hg4 hg6 hg8 hrd4 hrd6 hrd8 hr0' hp hq hs q0 q1 t0 t1 hsum hbig hN hsh h
            have hall : ∀ b : Bool, ((p : Int) + 65536 * (q : Int) != (s : Int)) = b → Calls Tryd.prog 44 #[.slice A0 n c0] w fun e w' => e = .returned (.tuple #[.int .i64 (if b then 0 else (N : Int)), .int .i64 (if b then 13 else 0)]) ∧ Drawn0 w w' := by
              intro b hbq
              cases b
              all_goals
               go_enter Tryd.func44, Tryd.ntmps44
               go_wp2_with fail
               refine HG0.out.mono ?_
               rintro e w1 ⟨rfl, ⟨⟨nd, rfl⟩⟩⟩
               go_wp2_with fail
               refine (HG2.out _ ((Drawn0.refl w).step nd)).mono ?_
               rintro e w1 ⟨rfl, ⟨⟨nd2, rfl⟩⟩⟩
               go_wp2
               go_quiet (first | (go_at_call 48; (with_reducible refine (HG4.out _ ?sd).mono ?_); (case sd => repeat (first | exact Drawn0.refl _ | apply Drawn0.step)); rintro e w' ⟨rfl, ⟨nd3, rfl⟩⟩; (try first | exact ⟨rfl, _, World.drewN_drewN _ _ _⟩ | exact ⟨rfl, _, Eq.trans (World.drewN_drewN _ _ _) (congrArg (World.drewN _) (Nat.add_assoc _ _ _))⟩)) | (go_at_call 48; (with_reducible refine (HG6.out _ ?sd).mono ?_); (case sd => repeat (first | exact Drawn0.refl _ | apply Drawn0.step)); rintro e w' ⟨rfl, ⟨nd3, rfl⟩⟩; (try first | exact ⟨rfl, _, World.drewN_drewN _ _ _⟩ | exact ⟨rfl, _, Eq.trans (World.drewN_drewN _ _ _) (congrArg (World.drewN _) (Nat.add_assoc _ _ _))⟩)) | (go_at_call 19; (with_reducible refine (HG8.out _ ?sd).mono ?_); (case sd => repeat (first | exact Drawn0.refl _ | apply Drawn0.step)); rintro e w' ⟨rfl, ⟨nd3, rfl⟩⟩; (try first | exact ⟨rfl, _, World.drewN_drewN _ _ _⟩ | exact ⟨rfl, _, Eq.trans (World.drewN_drewN _ _ _) (congrArg (World.drewN _) (Nat.add_assoc _ _ _))⟩)))
               go_wp2
               go_ret2
               exact ⟨rfl, (Drawn0.refl w).step _⟩
            refine (hall _ rfl).mono ?_
            rintro e w' ⟨rfl, hd⟩
            refine ⟨?_, hd⟩
            have hh := Hh.out
            by_cases hc : (p + 65536 * q : Nat) = s
            · have hb : ((p : Int) + 65536 * (q : Int) != (s : Int)) = false := by simp; omega
              rw [if_neg (by omega)] at hh
              injection hh with e1 e2
              subst e1 e2
              rw [hb]
              rfl
            · have hb : ((p : Int) + 65536 * (q : Int) != (s : Int)) = true := by simp; omega
              rw [if_pos (by omega)] at hh
              injection hh with e1 e2
              subst e1 e2
              rw [hb]
              rfl
      · rw [if_pos (.inl hsum)] at h
        injection h with e1 e2
        subst e1 e2
        have b1 : ((N : Int) + (M : Int) != 65535) = true := by simp; omega
        clear hsum hN
        go_enter Tryd.func44, Tryd.ntmps44
        go_wp2_with fail
        refine HG0.out.mono ?_
        rintro e w1 ⟨rfl, ⟨⟨nd, rfl⟩⟩⟩
        go_wp2_with fail
        refine (HG2.out _ ((Drawn0.refl w).step nd)).mono ?_
        rintro e w1 ⟨rfl, ⟨⟨nd2, rfl⟩⟩⟩
        go_wp2
        go_ret2
        exact ⟨rfl, (Drawn0.refl w).step (nd + nd2)⟩
  · cases h
end Go.Proofs.YtgfinjhhkmflfaaDoor.PF
