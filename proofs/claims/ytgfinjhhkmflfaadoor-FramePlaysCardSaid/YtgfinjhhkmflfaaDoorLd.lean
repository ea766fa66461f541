/- A frame read back whatever stands behind it; the checksum over turned bits; conditions: bytes, a body of at most 32768. (Plain Lean.) -/
import Derived.Test.YtgfinjhhkmflfaaDoorLc
import Derived.Test.YtgfinjhhkmflfaaDoorPuLinear
namespace Go.Proofs.YtgfinjhhkmflfaaDoor.PF
open Go.RowKit Go.Proofs.YtgfinjhhkmflfaaDoorW.PrintWords Go.Proofs.YtgfinjhhkmflfaaDoorW.PrintLast Go.Proofs.YtgfinjhhkmflfaaDoorW.PrintMore
set_option linter.unusedVariables false
theorem le2_bytes (m : Int) (h0 : 0 ≤ m) (h1 : m ≤ 65535) : Bytes (le2 m) := fun x hx => by
  simp only [le2, List.mem_cons, List.not_mem_nil, or_false] at hx
  rcases hx with rfl | rfl <;> omega
theorem num_le2 (m : Int) (l : List Int) (h0 : 0 ≤ m) (h1 : m ≤ 65535) : num (le2 m ++ l) 0 = m := by
  show m % 256 + 256 * (m / 256) = m
  omega
theorem sum4_bytes (s : Nat) (h : s < 4294967296) : Bytes (sum4 s) := (le2_bytes _ (by omega) (by omega)).append (le2_bytes _ (by omega) (by omega))
theorem wrapL_bytes (b : List Int) (hb : Bytes b) (hl : b.length ≤ 32768) : Bytes (wrapL b) := by
  have hs := sumL_lt b
  unfold wrapL
  exact ((((le2_bytes _ (by omega) (by omega)).append (le2_bytes _ (by omega) (by omega))).append hb).append (le2_bytes _ (by omega) (by omega))).append (le2_bytes _ (by omega) (by omega))
theorem wrapL_parts (b : List Int) : wrapL b = (le2 b.length ++ le2 (65535 - b.length)) ++ (b ++ sum4 (sumL b)) := by
  unfold wrapL sum4
  simp
theorem drop4 (h r : List Int) (hh : h.length = 4) : (h ++ r).drop 4 = r := by
  rw [← hh]
  exact List.drop_left
theorem hd_len (n : Int) : (le2 n ++ le2 (65535 - n)).length = 4 := rfl
/-- What size tells of a list whose header is a good one: by its tail alone. -/
theorem sizeP_head (n : Nat) (hn : n ≤ 32768) (r : List Int) (hr : n + 4 ≤ r.length) (hb : Bytes r) :
    sizeP ((le2 n ++ le2 (65535 - n)) ++ r) = if num (r.drop n) 0 + 65536 * num (r.drop n) 2 ≠ (sumL (r.take n) : Nat) then (0, 13) else ((n : Int), 0) := by
  have e0 : num ((le2 (n : Int) ++ le2 (65535 - (n : Int))) ++ r) 0 = n := by
    rw [List.append_assoc]
    exact num_le2 _ _ (by omega) (by omega)
  have e2 : num ((le2 (n : Int) ++ le2 (65535 - (n : Int))) ++ r) 2 = 65535 - n := by
    show (65535 - (n : Int)) % 256 + 256 * ((65535 - (n : Int)) / 256) = _
    omega
  have e4 : num ((le2 (n : Int) ++ le2 (65535 - (n : Int))) ++ r) (4 + n) = num (r.drop n) 0 := by
    rw [show 4 + n = 4 + n + 0 from rfl, ← num_drop, ← List.drop_drop, drop4 _ _ (hd_len n)]
  have e6 : num ((le2 (n : Int) ++ le2 (65535 - (n : Int))) ++ r) (6 + n) = num (r.drop n) 2 := by
    rw [show 6 + n = 4 + n + 2 by omega, ← num_drop, ← List.drop_drop, drop4 _ _ (hd_len n)]
  unfold sizeP
  rw [e0, e2, Int.toNat_natCast, e4, e6, drop4 _ _ (hd_len n)]
  rw [if_neg (by rw [List.length_append, hd_len]; omega), if_neg (by omega), if_neg (by rw [List.length_append, hd_len]; omega)]
theorem sizeP_wrap (b rest : List Int) (hb : Bytes b) (hr : Bytes rest) (hl : b.length ≤ 32768) : sizeP (wrapL b ++ rest) = ((b.length : Int), 0) := by
  have hs := sumL_lt b
  rw [wrapL_parts, List.append_assoc, sizeP_head b.length hl _ (by simp [sum4_len]) ((hb.append (sum4_bytes _ hs)).append hr)]
  have e1 : (b ++ sum4 (sumL b) ++ rest).drop b.length = sum4 (sumL b) ++ rest := by rw [List.append_assoc, List.drop_left]
  have e2 : (b ++ sum4 (sumL b) ++ rest).take b.length = b := by rw [List.append_assoc, List.take_left]
  rw [e1, e2]
  have e3 : num (sum4 (sumL b) ++ rest) 0 = (sumL b : Int) % 65536 := by
    show (sumL b : Int) % 65536 % 256 + 256 * ((sumL b : Int) % 65536 / 256) = _
    omega
  have e4 : num (sum4 (sumL b) ++ rest) 2 = (sumL b : Int) / 65536 := by
    show (sumL b : Int) / 65536 % 256 + 256 * ((sumL b : Int) / 65536 / 256) = _
    omega
  rw [e3, e4, if_neg (by omega)]
theorem wrap_body (b rest : List Int) : ((wrapL b ++ rest).drop 4).take b.length = b := by
  rw [wrapL_parts, List.append_assoc, drop4 _ _ (hd_len _), List.append_assoc, List.take_left]
theorem unwrapP_wrap (b rest : List Int) (hb : Bytes b) (hr : Bytes rest) (hl : b.length ≤ 32768) : unwrapP (wrapL b ++ rest) = (b, (b.length : Int) + 8, 0) := by
  unfold unwrapP
  rw [sizeP_wrap b rest hb hr hl]
  simp only [ne_eq, not_true_eq_false, if_false, Int.toNat_natCast, wrap_body]
theorem exactP_wrap (b rest : List Int) (hb : Bytes b) (hr : Bytes rest) (hl : b.length ≤ 32768) : exactP (wrapL b ++ rest) = if 0 < rest.length then ([], 14) else (b, 0) := by
  unfold exactP
  rw [sizeP_wrap b rest hb hr hl]
  simp only [ne_eq, not_true_eq_false, if_false, Int.toNat_natCast, wrap_body, List.length_append, wrapL_len]
  by_cases h : 0 < rest.length
  · rw [if_pos (by omega), if_pos h]
  · rw [if_neg (by omega), if_neg h]
/-! ### bits -/
theorem cbit_xor (c d : Nat) (p q : Nat → Nat) (m : Nat) : Crc.cbit (c ^^^ d) (fun i => p i ^^^ q i) m = Crc.cbit c p m ^^^ Crc.cbit d q m := by
  induction m with
  | zero => rfl
  | succ m ih =>
    simp only [Crc.cbit]
    rw [ih, ← Crc.T_xor]
    congr 1
    ac_rfl
theorem cbit_congr (c : Nat) (p q : Nat → Nat) (m : Nat) (h : ∀ i, i < m → p i = q i) : Crc.cbit c p m = Crc.cbit c q m := by
  induction m with
  | zero => rfl
  | succ m ih => simp only [Crc.cbit]; rw [ih (fun i hi => h i (by omega)), h m (by omega)]
theorem cbit_zeros (c : Nat) (p : Nat → Nat) (m : Nat) (h : ∀ i, i < m → p i = 0) : Crc.cbit c p m = Crc.Tn m c := by
  have := Crc.cbit_zero c (fun _ => 0) 0 m (fun _ _ => rfl)
  rw [Nat.zero_add] at this
  rw [cbit_congr c p (fun _ => 0) m (fun i hi => h i hi), this]
  rfl
/-- A burst: the bits of a number below 2^32 from place p on, as many as there are. -/
def burst (x p : Nat) (i : Nat) : Nat := if p ≤ i ∧ i < p + 32 then x >>> (i - p) % 2 else 0
/-- A burst that is not nothing is told. -/
theorem burst_ne (x p m : Nat) (hx : x < 2 ^ 32) (hp : p ≤ m) (h0 : x % 2 ^ (m - p) ≠ 0) : Crc.cbit 0 (burst x p) m ≠ 0 := by
  obtain ⟨r, rfl⟩ : ∃ r, m = p + r := ⟨m - p, by omega⟩
  rw [Nat.add_sub_cancel_left] at h0
  rw [Crc.cbit_add, cbit_zeros 0 (burst x p) p (fun i hi => by unfold burst; rw [if_neg (by omega)]), Crc.Tn_zero]
  have hsh : ∀ i, burst x p (p + i) = if i < 32 then x >>> i % 2 else 0 := fun i => by
    unfold burst
    by_cases h : i < 32
    · rw [if_pos (by omega), if_pos h, Nat.add_sub_cancel_left]
    · rw [if_neg (by omega), if_neg h]
  by_cases hr : r ≤ 32
  · have hlt : x % 2 ^ r < 2 ^ r := Nat.mod_lt _ (Nat.two_pow_pos r)
    rw [Crc.bits_byte r 0 (x % 2 ^ r) hlt _ (fun i hi => by
      rw [hsh, if_pos (by omega)]
      have h1 := Nat.testBit_mod_two_pow x r i
      rw [Nat.testBit_eq_decide_div_mod_eq, Nat.testBit_eq_decide_div_mod_eq] at h1
      rw [Nat.shiftRight_eq_div_pow, Nat.shiftRight_eq_div_pow]
      simp only [hi, decide_true, Bool.true_and, decide_eq_decide] at h1
      have a1 := Nat.mod_two_eq_zero_or_one (x / 2 ^ i)
      have a2 := Nat.mod_two_eq_zero_or_one (x % 2 ^ r / 2 ^ i)
      omega), Nat.zero_xor]
    intro h
    exact h0 (Crc.Tn_inj0 r _ (Nat.lt_of_lt_of_le hlt (Nat.pow_le_pow_right (by decide) hr)) h)
  · obtain ⟨t, rfl⟩ : ∃ t, r = 32 + t := ⟨r - 32, by omega⟩
    rw [Crc.cbit_add, Crc.bits_byte 32 0 x hx _ (fun i hi => by rw [hsh, if_pos hi]), Nat.zero_xor, cbit_zeros _ _ t (fun i hi => by rw [hsh, if_neg (by omega)]), ← Crc.Tn_add]
    intro h
    have hx0 := Crc.Tn_inj0 (32 + t) x hx h
    subst hx0
    exact h0 (Nat.zero_mod _)
/-! ### the tail: body and sum -/
theorem num4 (l : List Int) (hl : l.length = 4) (hb : Bytes l) : ∃ q : Nat, num l 0 + 65536 * num l 2 = (q : Int) ∧ q < 4294967296 ∧ ∀ c : Nat, Crc.reg c (nats l) = Crc.Tn 32 (c ^^^ q) := by
  match l, hl with
  | [a, b, c, d], _ =>
    have ha := hb a (by simp)
    have hb' := hb b (by simp)
    have hc := hb c (by simp)
    have hd := hb d (by simp)
    obtain ⟨a, rfl⟩ := Int.eq_ofNat_of_zero_le ha.1
    obtain ⟨b, rfl⟩ := Int.eq_ofNat_of_zero_le hb'.1
    obtain ⟨c, rfl⟩ := Int.eq_ofNat_of_zero_le hc.1
    obtain ⟨d, rfl⟩ := Int.eq_ofNat_of_zero_le hd.1
    refine ⟨a + 256 * b + 65536 * c + 16777216 * d, ?_, by omega, fun z => ?_⟩
    · show (a : Int) + 256 * (b : Int) + 65536 * ((c : Int) + 256 * (d : Int)) = _
      omega
    · have hbits := Crc.cbit_text [a, b, c, d] (fun x hx => by
        simp only [List.mem_cons, List.not_mem_nil, or_false] at hx
        rcases hx with rfl | rfl | rfl | rfl <;> omega) z
      have hq := Crc.bits_byte 32 z (a + 256 * b + 65536 * c + 16777216 * d) (by omega) (Crc.bitOf [a, b, c, d]) (fun i hi => by
        unfold Crc.bitOf
        rw [if_pos (by simpa using hi), Nat.shiftRight_eq_div_pow, Nat.shiftRight_eq_div_pow]
        have hcase : i / 8 = 0 ∨ i / 8 = 1 ∨ i / 8 = 2 ∨ i / 8 = 3 := by omega
        have key : ∀ (lo x hi t : Nat), t < 8 → x < 256 → lo < 2 ^ 0 * 2 ^ 0 → (x + 256 * hi) / 2 ^ t % 2 = x / 2 ^ t % 2 := by
          intro lo x hi t ht hx _
          have e : x + 256 * hi = x + 2 ^ t * (2 * (2 ^ (7 - t) * hi)) := by
            have : 256 = 2 ^ t * (2 * 2 ^ (7 - t)) := by
              rw [← Nat.pow_succ', ← Nat.pow_add, show t + (7 - t + 1) = 8 by omega]
            rw [this]
            simp only [Nat.mul_assoc]
          rw [e, Nat.add_mul_div_left _ _ (Nat.two_pow_pos t)]
          omega
        have split8 : ∀ s t : Nat, 2 ^ (8 * s + t) = 2 ^ (8 * s) * 2 ^ t := fun s t => Nat.pow_add 2 _ _
        have hi8 : i = 8 * (i / 8) + i % 8 := by omega
        have ht := Nat.mod_lt i (show 0 < 8 by decide)
        rcases hcase with h | h | h | h
        · rw [h]
          have : i % 8 = i := by omega
          rw [this]
          have e : a + 256 * b + 65536 * c + 16777216 * d = a + 256 * (b + 256 * c + 65536 * d) := by omega
          rw [e, key 0 a _ i (by omega) (by omega) (by decide)]
          rfl
        · have e : (a + 256 * b + 65536 * c + 16777216 * d) / 2 ^ i = (b + 256 * (c + 256 * d)) / 2 ^ (i % 8) := by
            conv => lhs; rw [hi8, h, split8, ← Nat.div_div_eq_div_mul]
            rw [show (a + 256 * b + 65536 * c + 16777216 * d) / 2 ^ (8 * 1) = b + 256 * (c + 256 * d) by omega]
          rw [h, e, key 0 b _ _ ht (by omega) (by decide)]
          rfl
        · have e : (a + 256 * b + 65536 * c + 16777216 * d) / 2 ^ i = (c + 256 * d) / 2 ^ (i % 8) := by
            conv => lhs; rw [hi8, h, split8, ← Nat.div_div_eq_div_mul]
            rw [show (a + 256 * b + 65536 * c + 16777216 * d) / 2 ^ (8 * 2) = c + 256 * d by omega]
          rw [h, e, key 0 c _ _ ht (by omega) (by decide)]
          rfl
        · have e : (a + 256 * b + 65536 * c + 16777216 * d) / 2 ^ i = (d + 256 * 0) / 2 ^ (i % 8) := by
            conv => lhs; rw [hi8, h, split8, ← Nat.div_div_eq_div_mul]
            rw [show (a + 256 * b + 65536 * c + 16777216 * d) / 2 ^ (8 * 3) = d + 256 * 0 by omega]
          rw [h, e, key 0 d _ _ ht (by omega) (by decide)]
          rfl)
      rw [← hq]
      exact hbits.symm
/-- The sum is right if and only if the register over body and sum is the one it always is. -/
theorem tail_ok (r : List Int) (n : Nat) (hr : r.length = n + 4) (hb : Bytes r) :
    num (r.drop n) 0 + 65536 * num (r.drop n) 2 = (sumL (r.take n) : Nat) ↔ Crc.reg 4294967295 (nats r) = Crc.Tn 32 4294967295 := by
  obtain ⟨q, hq, hq1, hq2⟩ := num4 (r.drop n) (by simp; omega) (hb.drop n)
  have hR := reg_nats_lt 4294967295 (by decide) (hb.take n)
  have e : nats r = nats (r.take n) ++ nats (r.drop n) := by
    unfold nats
    rw [← List.map_append, List.take_append_drop]
  rw [hq, e, Crc.reg_append, hq2, sumL_xor (hb.take n)]
  generalize Crc.reg 4294967295 (nats (r.take n)) = R at *
  constructor
  · intro h
    have : q = 4294967295 ^^^ R := by exact_mod_cast h
    rw [this]
    congr 1
    have e2 : R ^^^ (4294967295 ^^^ R) = 4294967295 ^^^ (R ^^^ R) := by ac_rfl
    rw [e2, Nat.xor_self, Nat.xor_zero]
  · intro h
    have h2 := Crc.Tn_inj 32 _ _ (Nat.xor_lt_two_pow hR hq1) (by decide) h
    have : q = 4294967295 ^^^ R := by
      rw [← h2]
      have e2 : R ^^^ q ^^^ R = q ^^^ (R ^^^ R) := by ac_rfl
      rw [e2, Nat.xor_self, Nat.xor_zero]
    rw [this]
end Go.Proofs.YtgfinjhhkmflfaaDoor.PF
