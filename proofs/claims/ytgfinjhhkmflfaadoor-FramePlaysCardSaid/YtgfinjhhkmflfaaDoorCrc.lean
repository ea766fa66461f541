/- The checksum's register over a list of bytes, and that the document's long division comes to it; conditions: those in each theorem (plain Lean, no program in sight). -/
namespace Go.Proofs.YtgfinjhhkmflfaaDoor.Crc
/-- one bit of the reflected division -/
def T (c : Nat) : Nat := (c >>> 1) ^^^ (if c % 2 = 1 then 0xEDB88320 else 0)
def Tn : Nat → Nat → Nat
  | 0, c => c
  | n + 1, c => Tn n (T c)

theorem xor_mod_two (a b : Nat) : (a ^^^ b) % 2 = (a + b) % 2 := by
  have h : (a ^^^ b).testBit 0 = (a.testBit 0 ^^ b.testBit 0) := Nat.testBit_xor ..
  simp only [Nat.testBit_zero] at h
  have ha := Nat.mod_two_eq_zero_or_one a
  have hb := Nat.mod_two_eq_zero_or_one b
  have hc := Nat.mod_two_eq_zero_or_one (a ^^^ b)
  rcases ha with ha | ha <;> rcases hb with hb | hb <;> rcases hc with hc | hc <;> simp [ha, hb, hc] at h ⊢ <;> omega
theorem T_xor (a b : Nat) : T (a ^^^ b) = T a ^^^ T b := by
  unfold T
  rw [Nat.shiftRight_xor_distrib]
  have h : (a ^^^ b) % 2 = (a + b) % 2 := xor_mod_two a b
  rcases Nat.mod_two_eq_zero_or_one a with ha | ha <;> rcases Nat.mod_two_eq_zero_or_one b with hb | hb
  · rw [if_neg (by omega), if_neg (by omega), if_neg (by omega)]; simp
  · rw [if_pos (by omega), if_neg (by omega), if_pos (by omega)]; simp [Nat.xor_assoc]
  · rw [if_pos (by omega), if_pos (by omega), if_neg (by omega)]; simp; ac_rfl
  · rw [if_neg (by omega), if_pos (by omega), if_pos (by omega)]
    have e : a >>> 1 ^^^ 3988292384 ^^^ (b >>> 1 ^^^ 3988292384) = a >>> 1 ^^^ b >>> 1 ^^^ (3988292384 ^^^ 3988292384) := by ac_rfl
    rw [e, Nat.xor_self]

theorem T_zero : T 0 = 0 := rfl
theorem Tn_zero (n : Nat) : Tn n 0 = 0 := by induction n with | zero => rfl | succ n ih => simpa [Tn, T_zero] using ih
theorem Tn_xor (n a b : Nat) : Tn n (a ^^^ b) = Tn n a ^^^ Tn n b := by
  induction n generalizing a b with
  | zero => rfl
  | succ n ih => simp only [Tn, T_xor, ih]
theorem Tn_add (m n c : Nat) : Tn (m + n) c = Tn n (Tn m c) := by
  induction m generalizing c with
  | zero => simp [Tn]
  | succ m ih => rw [Nat.succ_add]; simp only [Tn, ih]
theorem T_lt (c : Nat) (h : c < 2 ^ 32) : T c < 2 ^ 32 := by
  unfold T
  apply Nat.xor_lt_two_pow
  · rw [Nat.shiftRight_eq_div_pow]; omega
  · split <;> decide
theorem Tn_lt (n c : Nat) (h : c < 2 ^ 32) : Tn n c < 2 ^ 32 := by
  induction n generalizing c with
  | zero => exact h
  | succ n ih => exact ih _ (T_lt c h)
theorem T_two (q : Nat) : T (2 * q) = q := by
  unfold T; rw [if_neg (by omega), Nat.shiftRight_eq_div_pow]; simp
theorem Tn_pow (n q : Nat) : Tn n (2 ^ n * q) = q := by
  induction n generalizing q with
  | zero => simp [Tn]
  | succ n ih =>
    have e : 2 ^ (n + 1) * q = 2 * (2 ^ n * q) := by rw [Nat.pow_succ]; ac_rfl
    rw [e]; simp only [Tn, T_two, ih]
theorem split_xor (i c : Nat) : c = (2 ^ i * (c / 2 ^ i)) ^^^ (c % 2 ^ i) := by
  apply Nat.eq_of_testBit_eq; intro j
  rw [Nat.testBit_xor, Nat.testBit_two_pow_mul, Nat.testBit_mod_two_pow, Nat.testBit_div_two_pow]
  by_cases hj : j < i
  · simp [hj, show ¬ i ≤ j by omega]
  · simp [hj, show i ≤ j by omega]
/-- 'n' bits at once: the low ones by a table -/
theorem Tn_table (n c : Nat) : Tn n c = c >>> n ^^^ Tn n (c % 2 ^ n) := by
  conv => lhs; rw [split_xor n c]
  rw [Tn_xor, Tn_pow, Nat.shiftRight_eq_div_pow]
def half : List Nat := [0x00000000, 0x1DB71064, 0x3B6E20C8, 0x26D930AC, 0x76DC4190, 0x6B6B51F4, 0x4DB26158, 0x5005713C, 0xEDB88320, 0xF00F9344, 0xD6D6A3E8, 0xCB61B38C, 0x9B64C2B0, 0x86D3D2D4, 0xA00AE278, 0xBDBDF21C]
theorem half_eq : ∀ i, i < 16 → half.getD i 0 = Tn 4 i := by decide
theorem nib (c : Nat) : c >>> 4 ^^^ half.getD (c % 16) 0 = Tn 4 c := by
  rw [Tn_table 4 c, half_eq _ (Nat.mod_lt _ (by decide))]
/-- the register over a list of bytes -/
def reg (c : Nat) : List Nat → Nat
  | [] => c
  | x :: l => reg (Tn 8 (c ^^^ x)) l
theorem reg_append (c : Nat) (l m : List Nat) : reg c (l ++ m) = reg (reg c l) m := by
  induction l generalizing c with
  | nil => rfl
  | cons x l ih => simp only [List.cons_append, reg, ih]
theorem reg_lt (c : Nat) (l : List Nat) (h : c < 2 ^ 32) (hl : ∀ x ∈ l, x < 256) : reg c l < 2 ^ 32 := by
  induction l generalizing c with
  | nil => exact h
  | cons x l ih =>
    have hx := hl x (by simp)
    exact ih _ (Tn_lt _ _ (Nat.xor_lt_two_pow h (by omega))) (fun y hy => hl y (by simp [hy]))
/-- linear: registers and texts laid over each other -/
theorem reg_xor (c d : Nat) (l m : List Nat) (h : l.length = m.length) : reg (c ^^^ d) (List.zipWith (· ^^^ ·) l m) = reg c l ^^^ reg d m := by
  induction l generalizing c d m with
  | nil => cases m with | nil => rfl | cons => simp at h
  | cons x l ih =>
    cases m with
    | nil => simp at h
    | cons y m =>
      simp only [List.zipWith_cons_cons, reg]
      rw [← ih _ _ _ (by simpa using h), ← Tn_xor]
      congr 2; ac_rfl
theorem xor_cancel (a b : Nat) (h : a ^^^ b = 0) : a = b := by
  have h2 : (a ^^^ b) ^^^ b = 0 ^^^ b := by rw [h]
  simpa [Nat.xor_assoc] using h2
/-- nothing but zero comes to zero -/
theorem T_inj0 (c : Nat) (hc : c < 2 ^ 32) (h : T c = 0) : c = 0 := by
  unfold T at h
  rw [Nat.shiftRight_eq_div_pow] at h
  split at h
  · exfalso
    have h1 : (c / 2 ^ 1) = 0xEDB88320 := xor_cancel _ _ h
    omega
  · simp at h; omega
theorem Tn_inj0 (n c : Nat) (hc : c < 2 ^ 32) (h : Tn n c = 0) : c = 0 := by
  induction n generalizing c with
  | zero => exact h
  | succ n ih => exact T_inj0 c hc (ih _ (T_lt c hc) h)
theorem Tn_inj (n a b : Nat) (ha : a < 2 ^ 32) (hb : b < 2 ^ 32) (h : Tn n a = Tn n b) : a = b := by
  apply xor_cancel
  apply Tn_inj0 n _ (Nat.xor_lt_two_pow ha hb)
  rw [Tn_xor, h, Nat.xor_self]

/-! ### the document's division, highest power first -/
/-- the bits from the other end -/
def revN (n : Nat) : Nat → Nat
  | 0 => 0
  | i + 1 => 2 * revN n i + n >>> i % 2
theorem testBit_two_add (m b j : Nat) (hb : b < 2) : (2 * m + b).testBit j = if j = 0 then decide (b = 1) else m.testBit (j - 1) := by
  cases j with
  | zero =>
    rw [Nat.testBit_zero]
    have : (2 * m + b) % 2 = b := by omega
    rw [this]; simp
  | succ j =>
    rw [Nat.testBit_succ]; simp
    have : (2 * m + b) / 2 = m := by omega
    rw [this]
theorem revN_testBit (n i j : Nat) : (revN n i).testBit j = (decide (j < i) && n.testBit (i - 1 - j)) := by
  induction i generalizing j with
  | zero => simp [revN]
  | succ i ih =>
    unfold revN
    rw [testBit_two_add _ _ _ (Nat.mod_lt _ (by decide))]
    by_cases hj : j = 0
    · subst hj
      have e : n.testBit i = decide (n >>> i % 2 = 1) := by
        rw [Nat.testBit_eq_decide_div_mod_eq, Nat.shiftRight_eq_div_pow]
      rw [if_pos rfl, show i + 1 - 1 - 0 = i by omega, e, decide_eq_true (show 0 < i + 1 by omega), Bool.true_and]
    · rw [if_neg hj, ih]
      have e : i - 1 - (j - 1) = i + 1 - 1 - j := by omega
      rw [e]
      by_cases h : j < i + 1 <;> simp [h] <;> intro h2 <;> omega
def rev (n : Nat) : Nat := revN n 32
theorem rev_testBit (n j : Nat) : (rev n).testBit j = (decide (j < 32) && n.testBit (31 - j)) := revN_testBit n 32 j
theorem rev_lt (n : Nat) : rev n < 2 ^ 32 := by
  apply Nat.lt_pow_two_of_testBit
  intro i hi
  rw [rev_testBit]; simp; intro h; omega
/-- one step of the division -/
def step (r x : Nat) : Nat := let v := 2 * r + x; if v > 4294967295 then v ^^^ 4374732215 else v
theorem poly_rev : ∀ j, j < 32 → Nat.testBit 0xEDB88320 j = Nat.testBit 4374732215 (31 - j) := by decide
theorem ge_testBit (r : Nat) (hr : r < 2 ^ 32) : r.testBit 31 = decide (r ≥ 2 ^ 31) := by
  rw [Nat.testBit_eq_decide_div_mod_eq]
  congr 1
  simp only [eq_iff_iff]
  omega
theorem step_lt (r x : Nat) (hr : r < 2 ^ 32) (hx : x < 2) : step r x < 2 ^ 32 := by
  unfold step
  simp only
  split
  · rename_i h
    apply Nat.lt_pow_two_of_testBit
    intro i hi
    rw [Nat.testBit_xor]
    have hv : 2 * r + x < 2 ^ 33 := by omega
    by_cases h32 : i = 32
    · subst h32
      rw [testBit_two_add _ _ _ hx]
      simp only [show ¬ (32 = 0) by decide, if_false, show 32 - 1 = 31 from rfl]
      rw [ge_testBit _ hr]
      have : r ≥ 2 ^ 31 := by omega
      simp [this]; decide
    · have h1 : (2 * r + x).testBit i = false := Nat.testBit_lt_two_pow (Nat.lt_of_lt_of_le hv (Nat.pow_le_pow_right (by decide) (by omega)))
      have h2 : Nat.testBit 4374732215 i = false := Nat.testBit_lt_two_pow (Nat.lt_of_lt_of_le (by decide : 4374732215 < 2 ^ 33) (Nat.pow_le_pow_right (by decide) (by omega)))
      rw [h1, h2]; rfl
  · omega
theorem rev_step (r x : Nat) (hr : r < 2 ^ 32) (hx : x < 2) : rev (step r x) = T (rev r) ^^^ (2 ^ 31 * x) := by
  apply Nat.eq_of_testBit_eq; intro j
  rw [rev_testBit, Nat.testBit_xor]
  have hodd : (rev r) % 2 = 1 ↔ r ≥ 2 ^ 31 := by
    have := rev_testBit r 0
    rw [Nat.testBit_zero] at this
    simp only [show (0 < 32) by decide, decide_true, Bool.true_and, show 31 - 0 = 31 from rfl, ge_testBit _ hr] at this
    simpa using this
  have hx31 : (2 ^ 31 * x).testBit j = (decide (j = 31) && decide (x = 1)) := by
    rw [Nat.testBit_two_pow_mul]
    rcases (by omega : x = 0 ∨ x = 1) with rfl | rfl
    · simp
    · by_cases h : j = 31
      · subst h; simp
      · by_cases h2 : 31 ≤ j
        · have : Nat.testBit 1 (j - 31) = false := Nat.testBit_lt_two_pow (Nat.lt_of_lt_of_le (by decide : 1 < 2 ^ 1) (Nat.pow_le_pow_right (by decide) (by omega)))
          simp [h, this]
        · simp [h, h2]
  have hT : (T (rev r)).testBit j = ((decide (j + 1 < 32) && r.testBit (30 - j)) ^^ (decide (r ≥ 2 ^ 31) && Nat.testBit 3988292384 j)) := by
    unfold T
    rw [Nat.testBit_xor, Nat.testBit_shiftRight, rev_testBit]
    have e : 31 - (1 + j) = 30 - j := by omega
    rw [e, Nat.add_comm 1 j]
    congr 1
    by_cases h : r ≥ 2 ^ 31
    · rw [if_pos (hodd.2 h)]; simp [h]
    · rw [if_neg (fun h2 => h (hodd.1 h2))]; simp [h]
  rw [hx31, hT]
  by_cases hj : j < 32
  · have hs : (step r x).testBit (31 - j) = ((2 * r + x).testBit (31 - j) ^^ (decide (r ≥ 2 ^ 31) && Nat.testBit 4374732215 (31 - j))) := by
      unfold step
      simp only
      by_cases h : r ≥ 2 ^ 31
      · rw [if_pos (by omega), Nat.testBit_xor]; simp [h]
      · rw [if_neg (by omega)]; simp [h]
    rw [hs, poly_rev j hj, testBit_two_add _ _ _ hx]
    by_cases h31 : j = 31
    · subst h31
      simp
      cases decide (x = 1) <;> cases (decide (2147483648 ≤ r)) <;> rfl
    · rw [if_neg (by omega)]
      have e : 31 - j - 1 = 30 - j := by omega
      rw [e]
      simp [hj, h31, show j + 1 < 32 by omega]
  · have h1 : Nat.testBit 3988292384 j = false := Nat.testBit_lt_two_pow (Nat.lt_of_lt_of_le (by decide : 3988292384 < 2 ^ 32) (Nat.pow_le_pow_right (by decide) (by omega)))
    simp [hj, h1, show ¬ (j + 1 < 32) by omega, show ¬ (j = 31) by omega]

def refRest (start : Nat) (bits : Nat → Nat) : Nat → Nat
  | 0 => 0
  | i + 1 => step (refRest start bits i) ((bits i + if i < 32 then start >>> i % 2 else 0) % 2)
def cbit (c : Nat) (bits : Nat → Nat) : Nat → Nat
  | 0 => c
  | i + 1 => T (cbit c bits i ^^^ bits i)
theorem refRest_lt (start : Nat) (bits : Nat → Nat) (k : Nat) : refRest start bits k < 2 ^ 32 := by
  induction k with
  | zero => exact Nat.two_pow_pos 32
  | succ k ih => exact step_lt _ _ ih (Nat.mod_lt _ (by decide))
theorem xor_bit (a b : Nat) (ha : a < 2) (hb : b < 2) : (a + b) % 2 = a ^^^ b := by
  rcases (by omega : a = 0 ∨ a = 1) with rfl | rfl <;> rcases (by omega : b = 0 ∨ b = 1) with rfl | rfl <;> rfl
theorem rev_zero : rev 0 = 0 := by decide
theorem shr_split (s k : Nat) : s >>> k = (s >>> k % 2) ^^^ 2 * (s >>> (k + 1)) := by
  have := split_xor 1 (s >>> k)
  rw [Nat.shiftRight_succ]
  rw [Nat.xor_comm]
  simpa using this
theorem inv_bits (start : Nat) (hs : start < 2 ^ 32) (bits : Nat → Nat) (hb : ∀ i, bits i < 2) (k : Nat) :
    Tn 32 (rev (refRest start bits k)) ^^^ (start >>> k) = cbit start bits k := by
  induction k with
  | zero => simp only [refRest, rev_zero, Tn_zero, cbit, Nat.zero_xor, Nat.shiftRight_zero]
  | succ k ih =>
    simp only [refRest, cbit]
    rw [rev_step _ _ (refRest_lt ..) (Nat.mod_lt _ (by decide)), ← ih]
    have hsb : (if k < 32 then start >>> k % 2 else 0) = start >>> k % 2 := by
      split
      · rfl
      · rename_i h
        have : start >>> k = 0 := by
          rw [Nat.shiftRight_eq_div_pow]
          exact Nat.div_eq_of_lt (Nat.lt_of_lt_of_le hs (Nat.pow_le_pow_right (by decide) (by omega)))
        rw [this]
    rw [hsb, xor_bit _ _ (hb k) (Nat.mod_lt _ (by decide))]
    rw [Tn_xor]
    have h1 : ∀ x, Tn 32 (2 ^ 31 * x) = T x := fun x => by rw [show 32 = 31 + 1 from rfl, Tn_add, Tn_pow]; rfl
    have h2 : ∀ c, Tn 32 (T c) = T (Tn 32 c) := fun c => by
      have a : Tn (1 + 32) c = Tn 32 (T c) := by rw [Tn_add]; rfl
      have b : Tn (32 + 1) c = T (Tn 32 c) := by rw [Tn_add]; rfl
      rw [← a, ← b]
    rw [h1, h2]
    conv => rhs; rw [shr_split start k]
    simp only [T_xor, T_two]
    ac_rfl
theorem cbit_zero (c : Nat) (bits : Nat → Nat) (n m : Nat) (h : ∀ i, n ≤ i → bits i = 0) : cbit c bits (n + m) = Tn m (cbit c bits n) := by
  induction m with
  | zero => rfl
  | succ m ih =>
    rw [Tn_add m 1, ← Nat.add_assoc]
    simp only [cbit]
    rw [h _ (by omega), ih]; simp [Tn]
/-- the whole division comes to the register -/
theorem ref_is (start : Nat) (hs : start < 2 ^ 32) (bits : Nat → Nat) (hb : ∀ i, bits i < 2) (n : Nat) (h : ∀ i, n ≤ i → bits i = 0) (hc : cbit start bits n < 2 ^ 32) :
    rev (refRest start bits (n + 32)) = cbit start bits n := by
  have e := inv_bits start hs bits hb (n + 32)
  rw [cbit_zero _ _ _ _ h] at e
  have : start >>> (n + 32) = 0 := by
    rw [Nat.shiftRight_eq_div_pow]
    exact Nat.div_eq_of_lt (Nat.lt_of_lt_of_le hs (Nat.pow_le_pow_right (by decide) (by omega)))
  rw [this, Nat.xor_zero] at e
  exact Tn_inj 32 _ _ (rev_lt _) hc e
/-- a byte's eight bits, the lowest first -/
theorem bits_byte (m : Nat) (c x : Nat) (hx : x < 2 ^ m) (bits : Nat → Nat) (h : ∀ i, i < m → bits i = x >>> i % 2) : cbit c bits m = Tn m (c ^^^ x) := by
  induction m generalizing c x bits with
  | zero =>
    have : x = 0 := by omega
    subst this; rw [Nat.xor_zero]; rfl
  | succ m ih =>
    have hsh : ∀ k, cbit c bits (k + 1) = cbit (T (c ^^^ bits 0)) (fun i => bits (i + 1)) k := by
      intro k
      induction k with
      | zero => rfl
      | succ k ihk => rw [cbit, ihk]; rfl
    rw [hsh, ih _ (x / 2) (by rw [Nat.pow_succ] at hx; omega) _ (fun i hi => by
      rw [h _ (by omega), Nat.shiftRight_eq_div_pow, Nat.shiftRight_eq_div_pow, Nat.pow_succ, Nat.mul_comm, Nat.div_div_eq_div_mul])]
    rw [h 0 (by omega)]
    simp only [Tn]
    congr 1
    have e := split_xor 1 x
    conv => rhs; rw [e]
    simp only [Nat.shiftRight_zero, Nat.pow_one]
    rw [T_xor, T_xor, T_xor, T_two]
    ac_rfl
theorem cbit_add (c : Nat) (bits : Nat → Nat) (n m : Nat) : cbit c bits (n + m) = cbit (cbit c bits n) (fun i => bits (n + i)) m := by
  induction m with
  | zero => rfl
  | succ m ih => rw [← Nat.add_assoc]; simp only [cbit]; rw [ih]
/-- the text's bits -/
def bitOf (l : List Nat) (i : Nat) : Nat := if i < 8 * l.length then l.getD (i / 8) 0 >>> (i % 8) % 2 else 0
theorem cbit_text (l : List Nat) (hl : ∀ x ∈ l, x < 256) (c : Nat) : cbit c (bitOf l) (8 * l.length) = reg c l := by
  induction l generalizing c with
  | nil => rfl
  | cons x l ih =>
    have e : 8 * (x :: l).length = 8 + 8 * l.length := by simp; omega
    rw [e, cbit_add]
    rw [bits_byte 8 c x (hl x (by simp)) _ (fun i hi => by
      unfold bitOf; rw [if_pos (by simp; omega)]
      have h1 : i / 8 = 0 := by omega
      have h2 : i % 8 = i := by omega
      rw [h1, h2]; rfl)]
    have hb : (fun i => bitOf (x :: l) (8 + i)) = bitOf l := by
      funext i
      unfold bitOf
      have h1 : (8 + i) / 8 = i / 8 + 1 := by omega
      have h2 : (8 + i) % 8 = i % 8 := by omega
      have h3 : (8 + i < 8 * (x :: l).length) = (i < 8 * l.length) := by simp; omega
      rw [h1, h2]; simp only [h3, List.getD_cons_succ]
    rw [hb, ih (fun y hy => hl y (by simp [hy]))]
    rfl
theorem bitOf_lt (l : List Nat) (i : Nat) : bitOf l i < 2 := by
  unfold bitOf; split
  · exact Nat.mod_lt _ (by decide)
  · decide
/-- THE DOCUMENT's DIVISION IS THE REGISTER -/
theorem ref_reg (start : Nat) (hs : start < 2 ^ 32) (l : List Nat) (hl : ∀ x ∈ l, x < 256) :
    rev (refRest start (bitOf l) (8 * l.length + 32)) = reg start l := by
  rw [ref_is start hs _ (bitOf_lt l) _ (fun i hi => by unfold bitOf; rw [if_neg (by omega)]) (by rw [cbit_text l hl]; exact reg_lt _ _ hs hl), cbit_text l hl]
end Go.Proofs.YtgfinjhhkmflfaaDoor.Crc
