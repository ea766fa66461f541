/- The pure statements of FrameFlip and FrameBurst: turned bits are told; conditions: what the row's reading gives. (Plain Lean.) -/
import Derived.Test.YtgfinjhhkmflfaaDoorLd
import Derived.Test.YtgfinjhhkmflfaaDoorPFx10
import Derived.Test.YtgfinjhhkmflfaaDoorPFx11
namespace Go.Proofs.YtgfinjhhkmflfaaDoor.PF
open Go.RowKit Go.Proofs.YtgfinjhhkmflfaaDoorW.PrintWords Go.Proofs.YtgfinjhhkmflfaaDoorW.PrintLast Go.Proofs.YtgfinjhhkmflfaaDoorW.PrintMore
set_option linter.unusedVariables false
theorem place_f (a n : Int) (hn : 0 < n) (hn2 : n < 2 ^ 40) : ∃ r : Nat, eddylaw1_place.f a n = some (r : Int) ∧ (r : Int) < n := by
  unfold eddylaw1_place.f
  rw [if_neg (by omega)]
  have h1 := Int.tmod_lt_of_pos a hn
  have h2 : -n < Int.tmod a n := by
    have := Int.lt_tmod_of_pos a hn
    omega
  by_cases h : Int.tmod a n < 0
  · rw [if_pos h, w64 (by omega) (by omega)]
    exact ⟨(Int.tmod a n + n).toNat, by rw [Int.toNat_of_nonneg (by omega)], by omega⟩
  · rw [if_neg h]
    exact ⟨(Int.tmod a n).toNat, by rw [Int.toNat_of_nonneg (by omega)], by omega⟩
theorem shl_one (t : Nat) (ht : t < 8) : shl .u8 1 (t : Int) = ((2 ^ t : Nat) : Int) := by
  unfold shl
  rw [Int.toNat_natCast, Nat.min_eq_left (by show t ≤ 8; omega), Int.one_mul, IntKind.wrap_u8]
  have : 2 ^ t < 2 ^ 8 := Nat.pow_lt_pow_right (by decide) ht
  have e : ((2 : Int) ^ t) = ((2 ^ t : Nat) : Int) := by simp
  rw [e]
  generalize 2 ^ t = q at *
  omega
/-- A bit of a byte turned. -/
def turn (l : List Int) (k : Nat) : List Int := l.set (k / 8) (((l.getD (k / 8) 0).toNat ^^^ 2 ^ (k % 8) : Nat) : Int)
theorem turn_len (l : List Int) (k : Nat) : (turn l k).length = l.length := by simp [turn]
theorem turn_byte (l : List Int) (hb : Bytes l) (k : Nat) : (l.getD (k / 8) 0).toNat ^^^ 2 ^ (k % 8) < 256 := by
  have := hb.getD (k / 8)
  have h2 : 2 ^ (k % 8) < 2 ^ 8 := Nat.pow_lt_pow_right (by decide) (Nat.mod_lt _ (by decide))
  exact Nat.xor_lt_two_pow (n := 8) (by omega) h2
theorem turn_bytes (l : List Int) (hb : Bytes l) (k : Nat) : Bytes (turn l k) := fun x hx => by
  have h := turn_byte l hb k
  rcases List.mem_or_eq_of_mem_set hx with h1 | rfl
  · exact hb x h1
  · omega
/-- What the statement's store does. -/
theorem turn_is (l : List Int) (hb : Bytes l) (k : Nat) (hk : k / 8 < l.length) :
    l.set ((k / 8 : Nat) : Int).toNat (Go.bits .xor .u8 (rd l ((k / 8 : Nat) : Int)) (shl .u8 1 ((k % 8 : Nat) : Int))) = turn l k := by
  have hg := hb.getD (k / 8)
  have e : rd l ((k / 8 : Nat) : Int) = l.getD (k / 8) 0 := by unfold rd; rw [Int.toNat_natCast]
  have h2 : 2 ^ (k % 8) < 2 ^ 8 := Nat.pow_lt_pow_right (by decide) (Nat.mod_lt _ (by decide))
  have h3 : ((2 ^ (k % 8) : Nat) : Int) < 256 := by
    have h4 : 2 ^ (k % 8) < 256 := h2
    generalize 2 ^ (k % 8) = q at *
    omega
  unfold turn
  rw [Int.toNat_natCast, e, shl_one _ (Nat.mod_lt _ (by decide)), u8_xor _ _ hg.1 hg.2 (Int.natCast_nonneg _) h3, Int.toNat_natCast]
theorem bit_xor_pow (x t s : Nat) : (x ^^^ 2 ^ t) >>> s % 2 = (x >>> s % 2) ^^^ (if s = t then 1 else 0) := by
  have h : ∀ y : Nat, y >>> s % 2 = (if y.testBit s then 1 else 0) := fun y => by
    rw [Nat.testBit_eq_decide_div_mod_eq, Nat.shiftRight_eq_div_pow]
    have := Nat.mod_two_eq_zero_or_one (y / 2 ^ s)
    by_cases h1 : y / 2 ^ s % 2 = 1
    · rw [h1]; rfl
    · rw [show y / 2 ^ s % 2 = 0 by omega]; rfl
  rw [h, h, Nat.testBit_xor, Nat.testBit_two_pow]
  by_cases hs : s = t
  · subst hs
    cases x.testBit s <;> simp
  · have : ¬ t = s := fun h => hs h.symm
    cases x.testBit s <;> simp [hs, this]
theorem turn_bits (l : List Int) (hb : Bytes l) (k : Nat) (hk : k < 8 * l.length) (i : Nat) : Crc.bitOf (nats (turn l k)) i = Crc.bitOf (nats l) i ^^^ (if i = k then 1 else 0) := by
  unfold Crc.bitOf
  have hlen : (nats (turn l k)).length = l.length := by simp [nats, turn]
  have hlen2 : (nats l).length = l.length := by simp [nats]
  rw [hlen, hlen2]
  by_cases hi : i < 8 * l.length
  · rw [if_pos hi, if_pos hi]
    have e1 : (nats (turn l k)).getD (i / 8) 0 = if k / 8 = i / 8 then (l.getD (k / 8) 0).toNat ^^^ 2 ^ (k % 8) else (nats l).getD (i / 8) 0 := by
      unfold nats turn
      rw [List.map_set]
      simp only [Int.toNat_natCast, List.getD_eq_getElem?_getD, List.getElem?_set, List.length_map]
      by_cases h : k / 8 = i / 8
      · rw [if_pos h, if_pos h, if_pos (by omega)]
        rfl
      · rw [if_neg h, if_neg h]
    have e2 : (nats l).getD (i / 8) 0 = (l.getD (i / 8) 0).toNat := by
      unfold nats
      have : i / 8 < l.length := by omega
      simp [List.getD_eq_getElem?_getD, List.getElem?_eq_getElem this]
    rw [e1, e2]
    by_cases h : k / 8 = i / 8
    · rw [if_pos h, bit_xor_pow, h]
      by_cases h8 : i % 8 = k % 8
      · rw [if_pos h8, if_pos (by omega)]
      · rw [if_neg h8, if_neg (by omega)]
    · rw [if_neg h, if_neg (by omega), Nat.xor_zero]
  · rw [if_neg hi, if_neg hi, if_neg (by omega)]
    rfl
/-- The header and the tail of a frame. -/
def hd (n : Nat) : List Int := le2 n ++ le2 (65535 - n)
theorem hd_bytes (n : Nat) (hn : n ≤ 32768) : Bytes (hd n) := (le2_bytes _ (by omega) (by omega)).append (le2_bytes _ (by omega) (by omega))
def tl (b : List Int) : List Int := b ++ sum4 (sumL b)
theorem tl_len (b : List Int) : (tl b).length = b.length + 4 := by simp [tl, sum4_len]
theorem tl_bytes (b : List Int) (hb : Bytes b) : Bytes (tl b) := hb.append (sum4_bytes _ (sumL_lt b))
theorem wrap_tl (b : List Int) : wrapL b = hd b.length ++ tl b := wrapL_parts b
/-- The tail's own register. -/
theorem tl_reg (b : List Int) (hb : Bytes b) (hl : b.length ≤ 32768) : Crc.reg 4294967295 (nats (tl b)) = Crc.Tn 32 4294967295 := by
  refine (tail_ok (tl b) b.length (tl_len b) (tl_bytes b hb)).1 ?_
  have h := sizeP_wrap b [] hb (fun x hx => by cases hx) hl
  rw [List.append_nil, wrap_tl] at h
  unfold hd at h
  rw [sizeP_head b.length hl (tl b) (by rw [tl_len]; omega) (tl_bytes b hb)] at h
  by_cases hc : num ((tl b).drop b.length) 0 + 65536 * num ((tl b).drop b.length) 2 = (sumL ((tl b).take b.length) : Nat)
  · exact hc
  · rw [if_pos hc] at h
    injection h with h1 h2
    cases h2
/-- A tail whose bits are those but for a burst that is not nothing: ErrFrameSum. -/
theorem spoilt (b : List Int) (hb : Bytes b) (hl : b.length ≤ 32768) (r : List Int) (hr : r.length = b.length + 4) (hrb : Bytes r) (x p : Nat) (hx : x < 2 ^ 32) (hp : p ≤ 8 * (b.length + 4))
    (h0 : x % 2 ^ (8 * (b.length + 4) - p) ≠ 0) (hbits : ∀ i, i < 8 * (b.length + 4) → Crc.bitOf (nats r) i = Crc.bitOf (nats (tl b)) i ^^^ burst x p i) :
    sizeP (hd b.length ++ r) = (0, 13) := by
  unfold hd
  rw [sizeP_head b.length hl r (by omega) hrb, if_pos]
  intro h
  have h1 := (tail_ok r b.length hr hrb).1 h
  have h2 := tl_reg b hb hl
  have l1 : (nats r).length = b.length + 4 := by simp [nats, hr]
  have l2 : (nats (tl b)).length = b.length + 4 := by simp [nats, tl_len]
  rw [← Crc.cbit_text (nats r) (nats_lt hrb), l1] at h1
  rw [← Crc.cbit_text (nats (tl b)) (nats_lt (tl_bytes b hb)), l2] at h2
  rw [cbit_congr _ _ (fun i => Crc.bitOf (nats (tl b)) i ^^^ burst x p i) _ hbits] at h1
  have h3 := cbit_xor 4294967295 0 (Crc.bitOf (nats (tl b))) (burst x p) (8 * (b.length + 4))
  rw [Nat.xor_zero, h1, h2] at h3
  refine burst_ne x p (8 * (b.length + 4)) hx hp h0 ?_
  have h4 : Crc.Tn 32 4294967295 ^^^ Crc.Tn 32 4294967295 = Crc.Tn 32 4294967295 ^^^ (Crc.Tn 32 4294967295 ^^^ Crc.cbit 0 (burst x p) (8 * (b.length + 4))) := by rw [← h3]
  rw [← Nat.xor_assoc, Nat.xor_self, Nat.zero_xor] at h4
  exact h4.symm
theorem exactP_err (l : List Int) (e : Int) (he : e ≠ 0) (h : sizeP l = (0, e)) : exactP l = ([], e) := by
  unfold exactP
  rw [h]
  simp only [ne_eq, he, not_false_eq_true, if_true]
theorem turn_app_right (h r : List Int) (hh : h.length = 4) (k : Nat) (hk : 32 ≤ k) : turn (h ++ r) k = h ++ turn r (k - 32) := by
  unfold turn
  have e1 : k / 8 = h.length + (k - 32) / 8 := by omega
  have e2 : (k - 32) % 8 = k % 8 := by omega
  rw [e2, e1]
  have e3 : (h ++ r).getD (h.length + (k - 32) / 8) 0 = r.getD ((k - 32) / 8) 0 := by
    simp [List.getD_eq_getElem?_getD, List.getElem?_append_right]
  rw [e3, List.set_append_right _ _ (Nat.le_add_right _ _), Nat.add_sub_cancel_left]
/-- One turned bit of the header. -/
theorem turn_head (n : Nat) (hn : n ≤ 32768) (r : List Int) (k : Nat) (hk : k < 32) : sizeP (turn (hd n ++ r) k) = (0, 12) := by
  have hne : ∀ x t : Nat, x ^^^ 2 ^ t ≠ x := fun x t h => by
    have h2 : x ^^^ (x ^^^ 2 ^ t) = x ^^^ x := by rw [h]
    rw [← Nat.xor_assoc, Nat.xor_self, Nat.zero_xor] at h2
    have := Nat.two_pow_pos t
    omega
  have hA : ∀ a b c d : Int, 0 ≤ a → 0 ≤ b → 0 ≤ c → 0 ≤ d → a + 256 * b + (c + 256 * d) = 65535 → sizeP (turn ([a, b, c, d] ++ r) k) = (0, 12) := by
    intro a b c d ha hb hc hd hsum
    unfold sizeP
    have hlen : ¬ (turn ([a, b, c, d] ++ r) k).length < 4 := by rw [turn_len]; simp
    rw [if_neg hlen, if_pos]
    left
    have hcase : k / 8 = 0 ∨ k / 8 = 1 ∨ k / 8 = 2 ∨ k / 8 = 3 := by omega
    obtain ⟨a, rfl⟩ := Int.eq_ofNat_of_zero_le ha
    obtain ⟨b, rfl⟩ := Int.eq_ofNat_of_zero_le hb
    obtain ⟨c, rfl⟩ := Int.eq_ofNat_of_zero_le hc
    obtain ⟨d, rfl⟩ := Int.eq_ofNat_of_zero_le hd
    rcases hcase with h | h | h | h
    · have h1 := hne a (k % 8)
      have e : turn ([(a : Int), b, c, d] ++ r) k = [((a ^^^ 2 ^ (k % 8) : Nat) : Int), b, c, d] ++ r := by unfold turn; rw [h]; rfl
      rw [e]
      show ((a ^^^ 2 ^ (k % 8) : Nat) : Int) + 256 * (b : Int) + ((c : Int) + 256 * (d : Int)) ≠ 65535
      omega
    · have h1 := hne b (k % 8)
      have e : turn ([(a : Int), b, c, d] ++ r) k = [(a : Int), ((b ^^^ 2 ^ (k % 8) : Nat) : Int), c, d] ++ r := by unfold turn; rw [h]; rfl
      rw [e]
      show (a : Int) + 256 * ((b ^^^ 2 ^ (k % 8) : Nat) : Int) + ((c : Int) + 256 * (d : Int)) ≠ 65535
      omega
    · have h1 := hne c (k % 8)
      have e : turn ([(a : Int), b, c, d] ++ r) k = [(a : Int), b, ((c ^^^ 2 ^ (k % 8) : Nat) : Int), d] ++ r := by unfold turn; rw [h]; rfl
      rw [e]
      show (a : Int) + 256 * (b : Int) + (((c ^^^ 2 ^ (k % 8) : Nat) : Int) + 256 * (d : Int)) ≠ 65535
      omega
    · have h1 := hne d (k % 8)
      have e : turn ([(a : Int), b, c, d] ++ r) k = [(a : Int), b, c, ((d ^^^ 2 ^ (k % 8) : Nat) : Int)] ++ r := by unfold turn; rw [h]; rfl
      rw [e]
      show (a : Int) + 256 * (b : Int) + ((c : Int) + 256 * ((d ^^^ 2 ^ (k % 8) : Nat) : Int)) ≠ 65535
      omega
  exact hA _ _ _ _ (by omega) (by omega) (by omega) (by omega) (by omega)
theorem exact_turn (b : List Int) (hb : Bytes b) (hl : b.length ≤ 32768) (k : Nat) (hk : k < 8 * (b.length + 8)) : exactP (turn (wrapL b) k) = ([], if k < 32 then 12 else 13) := by
  rw [wrap_tl]
  by_cases h : k < 32
  · rw [if_pos h]
    exact exactP_err _ 12 (by decide) (turn_head b.length hl (tl b) k h)
  · rw [if_neg h, turn_app_right _ _ rfl k (by omega)]
    refine exactP_err _ 13 (by decide) (spoilt b hb hl _ (by rw [turn_len, tl_len]) (turn_bytes _ (tl_bytes b hb) _) 1 (k - 32) (by decide) (by omega) ?_ ?_)
    · have h2 : 2 ≤ 2 ^ (8 * (b.length + 4) - (k - 32)) := by
        have := Nat.pow_le_pow_right (show 0 < 2 by decide) (show 1 ≤ 8 * (b.length + 4) - (k - 32) by omega)
        simpa using this
      rw [Nat.mod_eq_of_lt (by omega)]
      decide
    · intro i hi
      rw [turn_bits (tl b) (tl_bytes b hb) (k - 32) (by rw [tl_len]; omega)]
      congr 1
      unfold burst
      by_cases e : i = k - 32
      · subst e
        rw [if_pos rfl, if_pos (by omega), Nat.sub_self]
        rfl
      · rw [if_neg e]
        by_cases h3 : k - 32 ≤ i ∧ i < k - 32 + 32
        · rw [if_pos h3]
          obtain ⟨t, ht⟩ : ∃ t, i - (k - 32) = t + 1 := ⟨i - (k - 32) - 1, by omega⟩
          rw [ht, Nat.shiftRight_succ_inside]
          simp
        · rw [if_neg h3]
theorem FrameFlip_pure (l0 : List Int) (y0 : l0.length * 1 ≤ 140737488351232) (hw0 : ∀ x ∈ l0, (Lit.int .u8 x).wf = true) (a1 : Int) (w1 : (Lit.int .i64 a1).wf = true) : ∃ k, eddylaw1_FrameFlip.f k l0 a1 [0] = some true := by
  have b0 := bytes_of_wf hw0
  apply Ev.rounds
  unfold eddylaw1_FrameFlip.f
  by_cases hbig : (l0.length : Int) > 32768
  · simp only [if_pos hbig]
    exact Ev.now _
  · simp only [if_neg hbig]
    refine Ev.pure_ (frame_Wrap_eq l0 b0) ?_
    simp only [if_neg (show ¬ l0.length > 32768 by omega)]
    refine Ev.pure_ rfl ?_
    refine Ev.congr (fun k => if_pos rfl) ?_
    have hwb := wrapL_bytes l0 b0 (by omega)
    rw [w64 (x := (l0.length : Int) + 8) (by omega) (by omega), show ((wrapL l0).length : Int) = (l0.length : Int) + 8 by rw [wrapL_len]; omega, bne_self_eq_false]
    apply Ev.step
    · intro k
      simp only [eddylaw1_FrameFlip.j0, Bool.false_eq_true, if_false]
      exact rfl
    have hwl : ((wrapL l0).length : Int) = (l0.length : Int) + 8 := by rw [wrapL_len]; omega
    rw [hwl, w64 (x := 8 * ((l0.length : Int) + 8)) (by omega) (by omega)]
    obtain ⟨k, hk, hk2⟩ := place_f a1 (8 * ((l0.length : Int) + 8)) (by omega) (by omega)
    refine Ev.pure_ hk ?_
    rw [show Int.tdiv (k : Int) 8 = ((k / 8 : Nat) : Int) from rfl, show Int.tmod (k : Int) 8 = ((k % 8 : Nat) : Int) from rfl, w64 (x := ((k / 8 : Nat) : Int)) (by omega) (by omega)]
    refine Ev.congr (fun k => if_pos (by omega)) ?_
    refine Ev.congr (fun k => if_pos (by omega)) ?_
    refine Ev.congr (fun k => if_pos (by omega)) ?_
    rw [turn_is (wrapL l0) hwb k (by rw [wrapL_len]; omega)]
    have hE := frame_Exact_eq (turn (wrapL l0) k) (turn_bytes _ hwb k)
    rw [exact_turn l0 b0 (by omega) k (by omega)] at hE
    refine Ev.pure_ hE ?_
    refine Ev.congr (fun k => if_pos rfl) ?_
    by_cases h32 : k < 32
    · simp only [if_pos h32, if_pos (show (k : Int) < 32 by omega)]
      exact Ev.pure_ (r := true) rfl (Ev.now _)
    · simp only [if_neg h32, if_neg (show ¬ (k : Int) < 32 by omega)]
      exact Ev.pure_ (r := true) rfl (Ev.now _)
end Go.Proofs.YtgfinjhhkmflfaaDoor.PF
