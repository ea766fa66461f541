/- The pure statement of FrameBurst: any turned bits within 32 neighbouring ones of body and sum are told; conditions: what the row's reading gives. (Plain Lean.) -/
import Derived.Test.YtgfinjhhkmflfaaDoorPuFlip
namespace Go.Proofs.YtgfinjhhkmflfaaDoor.PF
open Go.RowKit Go.Proofs.YtgfinjhhkmflfaaDoorW.PrintWords Go.Proofs.YtgfinjhhkmflfaaDoorW.PrintLast Go.Proofs.YtgfinjhhkmflfaaDoorW.PrintMore
set_option linter.unusedVariables false
theorem bitval (y s : Nat) : y >>> s % 2 = (if y.testBit s then 1 else 0) := by
  rw [Nat.testBit_eq_decide_div_mod_eq, Nat.shiftRight_eq_div_pow]
  have := Nat.mod_two_eq_zero_or_one (y / 2 ^ s)
  by_cases h1 : y / 2 ^ s % 2 = 1
  · rw [h1]; rfl
  · rw [show y / 2 ^ s % 2 = 0 by omega]; rfl
theorem burst_low (x p i idx : Nat) (hi : i ≤ 32) : burst (x % 2 ^ i) p idx = if p ≤ idx ∧ idx < p + i ∧ x.testBit (idx - p) = true then 1 else 0 := by
  unfold burst
  rw [bitval, Nat.testBit_mod_two_pow]
  by_cases h1 : p ≤ idx ∧ idx < p + 32
  · rw [if_pos h1]
    by_cases h2 : idx < p + i
    · have h3 : idx - p < i := by omega
      cases hx : x.testBit (idx - p)
      · simp
      · simp [h3, h1.1, h2]
    · have h3 : ¬ idx - p < i := by omega
      simp [h3, h2]
  · rw [if_neg h1, if_neg (by omega)]
theorem u32_mask1 (a : Nat) (h : a < 4294967296) : Go.bits .and .u32 (a : Int) 1 = ((a % 2 : Nat) : Int) := by
  rw [show (1 : Int) = ((1 : Nat) : Int) from rfl, u32_and_nat _ _ h (by decide), Nat.and_one_is_mod]
/-- What holds after i of the 32 bits. -/
structure Mid (b : List Int) (x p i : Nat) (r : List Int) (t : Nat) : Prop where
  len : r.length = b.length + 4
  byt : Bytes r
  bits : ∀ idx, idx < 8 * (b.length + 4) → Crc.bitOf (nats r) idx = Crc.bitOf (nats (tl b)) idx ^^^ burst (x % 2 ^ i) p idx
  low : t ≤ i
  none : t = 0 → r = tl b
  some : t ≠ 0 → (x % 2 ^ i) % 2 ^ (8 * (b.length + 4) - p) ≠ 0
theorem Mid.skip {b : List Int} {x p i : Nat} {r : List Int} {t : Nat} (h : Mid b x p i r t) (hi : i < 32) (hb : x.testBit i = false ∨ 8 * (b.length + 4) ≤ p + i) : Mid b x p (i + 1) r t := by
  have heq : ∀ idx, idx < 8 * (b.length + 4) → burst (x % 2 ^ (i + 1)) p idx = burst (x % 2 ^ i) p idx := fun idx hidx => by
    rw [burst_low _ _ _ _ (by omega), burst_low _ _ _ _ (by omega)]
    by_cases h2 : idx = p + i
    · rcases hb with hb | hb
      · subst h2
        rw [Nat.add_sub_cancel_left, hb, if_neg (by simp), if_neg (by simp)]
      · omega
    · by_cases h3 : p ≤ idx ∧ idx < p + i ∧ x.testBit (idx - p) = true
      · rw [if_pos h3, if_pos ⟨h3.1, by omega, h3.2.2⟩]
      · rw [if_neg h3, if_neg (fun h4 => h3 ⟨h4.1, by omega, h4.2.2⟩)]
  refine ⟨h.len, h.byt, fun idx hidx => by rw [heq idx hidx]; exact h.bits idx hidx, by have := h.low; omega, h.none, fun ht => ?_⟩
  have h0 := h.some ht
  rcases hb with hb | hb
  · have : x % 2 ^ (i + 1) = x % 2 ^ i := by
      apply Nat.eq_of_testBit_eq; intro j
      rw [Nat.testBit_mod_two_pow, Nat.testBit_mod_two_pow]
      by_cases hj : j = i
      · subst hj; rw [hb]; simp
      · by_cases h3 : j < i
        · simp [h3, show j < i + 1 by omega]
        · simp [h3, show ¬ j < i + 1 by omega]
    rw [this]
    exact h0
  · rw [Nat.mod_mod_of_dvd _ (Nat.pow_dvd_pow 2 (by omega))] at h0 ⊢
    exact h0
theorem Mid.turn {b : List Int} {x p i : Nat} {r : List Int} {t : Nat} (h : Mid b x p i r t) (hi : i < 32) (hb : x.testBit i = true) (hm : p + i < 8 * (b.length + 4)) : Mid b x p (i + 1) (turn r (p + i)) (t + 1) := by
  refine ⟨by rw [turn_len]; exact h.len, turn_bytes _ h.byt _, fun idx hidx => ?_, by have := h.low; omega, fun h => by omega, fun _ => ?_⟩
  · rw [turn_bits r h.byt (p + i) (by rw [h.len]; omega), h.bits idx hidx, Nat.xor_assoc]
    congr 1
    rw [burst_low _ _ _ _ (by omega), burst_low _ _ _ _ (by omega)]
    by_cases h2 : idx = p + i
    · subst h2
      rw [Nat.add_sub_cancel_left, if_neg (by omega), if_pos rfl, if_pos ⟨by omega, by omega, hb⟩]
      rfl
    · rw [if_neg h2, Nat.xor_zero]
      by_cases h3 : p ≤ idx ∧ idx < p + i ∧ x.testBit (idx - p) = true
      · rw [if_pos h3, if_pos ⟨h3.1, by omega, h3.2.2⟩]
      · rw [if_neg h3, if_neg (fun h4 => h3 ⟨h4.1, by omega, h4.2.2⟩)]
  · intro h0
    have h1 : ((x % 2 ^ (i + 1)) % 2 ^ (8 * (b.length + 4) - p)).testBit i = true := by
      rw [Nat.testBit_mod_two_pow, Nat.testBit_mod_two_pow, hb]
      simp
      omega
    rw [h0] at h1
    simp at h1
theorem burst_l0 (b : List Int) (hb : Bytes b) (hl : b.length ≤ 32768) (x p : Nat) (hx : x < 2 ^ 32) (hp : p ≤ 8 * (b.length + 4)) : ∀ d i r t, i + d = 32 → Mid b x p i r t →
    Ev (fun k => eddylaw1_FrameBurst.l0 k b (x : Int) (hd b.length ++ r) ((32 + p : Nat) : Int) (t : Int) (i : Int) [0]) true := by
  intro d
  induction d with
  | zero =>
    intro i r t hi hM
    obtain rfl : i = 32 := by omega
    apply Ev.step
    · intro k
      simp only [eddylaw1_FrameBurst.l0]
      rw [if_neg (by omega)]
    · have hxx : x % 2 ^ 32 = x := Nat.mod_eq_of_lt hx
      refine Ev.pure_ (frame_Exact_eq _ ((hd_bytes _ hl).append hM.byt)) ?_
      by_cases ht : t = 0
      · have hr := hM.none ht
        subst hr
        have hE := exactP_wrap b [] hb (fun x hx => by cases hx) hl
        rw [List.append_nil, wrap_tl, if_neg (by simp)] at hE
        rw [hE]
        refine Ev.congr (fun k => if_pos (by omega)) ?_
        refine Ev.pure_ rfl ?_
        refine Ev.congr (fun k => if_pos rfl) ?_
        exact Ev.bind (same_eq b (by omega)) (Ev.now _)
      · have h0 := hM.some ht
        have hbits := hM.bits
        rw [hxx] at h0 hbits
        rw [exactP_err _ 13 (by decide) (spoilt b hb hl r hM.len hM.byt x p hx hp h0 hbits)]
        refine Ev.congr (fun k => if_neg (by omega)) ?_
        exact Ev.pure_ (r := true) rfl (Ev.now _)
  | succ d ih =>
    intro i r t hi hM
    have htl := hM.low
    have hsh : x >>> i < 4294967296 := by
      rw [Nat.shiftRight_eq_div_pow]
      exact Nat.lt_of_le_of_lt (Nat.div_le_self _ _) hx
    have hlen : ((hd b.length ++ r).length : Int) = (b.length : Int) + 8 := by
      rw [List.length_append, hM.len]
      show ((4 + (b.length + 4) : Nat) : Int) = _
      omega
    apply Ev.step
    · intro k
      simp only [eddylaw1_FrameBurst.l0]
      rw [if_pos (by omega), if_pos (by omega), shr_nat .u32 x i (by show i ≤ 32; omega), u32_mask1 _ hsh, hlen, w64 (x := (i : Int) + 1) (by omega) (by omega), w64 (x := (t : Int) + 1) (by omega) (by omega), w64 (x := ((32 + p : Nat) : Int) + (i : Int)) (by omega) (by omega), w64 (x := 8 * ((b.length : Int) + 8)) (by omega) (by omega), show ((32 + p : Nat) : Int) + (i : Int) = ((32 + p + i : Nat) : Int) by omega]
    · rw [show Int.tdiv ((32 + p + i : Nat) : Int) 8 = (((32 + p + i) / 8 : Nat) : Int) from rfl, show Int.tmod ((32 + p + i : Nat) : Int) 8 = (((32 + p + i) % 8 : Nat) : Int) from rfl, w64 (x := (((32 + p + i) / 8 : Nat) : Int)) (by omega) (by omega)]
      cases hbit : x.testBit i
      · have hz : x >>> i % 2 = 0 := by rw [bitval, hbit]; rfl
        rw [hz]
        refine Ev.congr (fun k => if_neg (by decide)) ?_
        exact ih (i + 1) r t (by omega) (hM.skip (by omega) (.inl hbit))
      · have hz : x >>> i % 2 = 1 := by rw [bitval, hbit]; rfl
        rw [hz]
        refine Ev.congr (fun k => if_pos rfl) ?_
        by_cases hm : p + i < 8 * (b.length + 4)
        · refine Ev.congr (fun k => if_pos (by omega)) ?_
          refine Ev.congr (fun k => if_pos (by omega)) ?_
          refine Ev.congr (fun k => if_pos (by omega)) ?_
          refine Ev.congr (fun k => if_pos (by omega)) ?_
          rw [turn_is _ ((hd_bytes _ hl).append hM.byt) (32 + p + i) (by rw [List.length_append, hM.len]; show _ < 4 + (b.length + 4); omega), turn_app_right _ _ rfl _ (by omega), show 32 + p + i - 32 = p + i by omega]
          exact ih (i + 1) (PF.turn r (p + i)) (t + 1) (by omega) (hM.turn (by omega) hbit hm)
        · refine Ev.congr (fun k => if_neg (by omega)) ?_
          exact ih (i + 1) r t (by omega) (hM.skip (by omega) (.inr (by omega)))
theorem FrameBurst_pure (l0 : List Int) (y0 : l0.length * 1 ≤ 140737488351232) (hw0 : ∀ x ∈ l0, (Lit.int .u8 x).wf = true) (a1 : Int) (w1 : (Lit.int .i64 a1).wf = true) (a2 : Int) (w2 : (Lit.int .u32 a2).wf = true) : ∃ k, eddylaw1_FrameBurst.f k l0 a1 a2 [0] = some true := by
  have b0 := bytes_of_wf hw0
  obtain ⟨x0, x1⟩ := u32_of_wf w2
  obtain ⟨x, rfl⟩ := Int.eq_ofNat_of_zero_le x0
  apply Ev.rounds
  unfold eddylaw1_FrameBurst.f
  have htrue : Ev (fun k => eddylaw1_FrameBurst.j0 k l0 a1 (x : Int) true [0]) true := by
    apply Ev.step
    · intro k
      simp only [eddylaw1_FrameBurst.j0, if_true]
      exact rfl
    · exact Ev.now _
  by_cases hbig : (l0.length : Int) > 32768
  · simp only [if_pos hbig]
    exact htrue
  · simp only [if_neg hbig]
    by_cases hx0 : (x : Int) = 0
    · rw [show ((x : Int) == 0) = true by simpa using hx0]
      exact htrue
    · rw [show ((x : Int) == 0) = false by simpa using hx0]
      apply Ev.step
      · intro k
        simp only [eddylaw1_FrameBurst.j0, Bool.false_eq_true, if_false]
        exact rfl
      refine Ev.pure_ (frame_Wrap_eq l0 b0) ?_
      simp only [if_neg (show ¬ l0.length > 32768 by omega)]
      refine Ev.pure_ rfl ?_
      refine Ev.congr (fun k => if_pos rfl) ?_
      rw [w64 (x := (l0.length : Int) + 8) (by omega) (by omega), show ((wrapL l0).length : Int) = (l0.length : Int) + 8 by rw [wrapL_len]; omega, bne_self_eq_false]
      apply Ev.step
      · intro k
        simp only [eddylaw1_FrameBurst.j1, Bool.false_eq_true, if_false]
        exact rfl
      rw [w64 (x := 8 * (l0.length : Int)) (by omega) (by omega), w64 (x := 8 * (l0.length : Int) + 32) (by omega) (by omega)]
      obtain ⟨p, hp, hp2⟩ := place_f a1 (8 * (l0.length : Int) + 32) (by omega) (by omega)
      refine Ev.pure_ hp ?_
      rw [w64 (x := 32 + (p : Int)) (by omega) (by omega), show 32 + (p : Int) = ((32 + p : Nat) : Int) by omega, wrap_tl]
      refine burst_l0 l0 b0 (by omega) x p (by omega) (by omega) 32 0 (tl l0) 0 (by omega) ⟨tl_len l0, tl_bytes l0 b0, fun idx hidx => ?_, Nat.le_refl _, fun _ => rfl, fun h => absurd rfl h⟩
      rw [burst_low _ _ _ _ (by omega), if_neg (by omega), Nat.xor_zero]
end Go.Proofs.YtgfinjhhkmflfaaDoor.PF
