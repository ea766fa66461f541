/- The pure statement of FrameLinear: the sum of two texts of one length laid over each other; conditions: what the row's reading gives. (Plain Lean.) -/
import Derived.Test.YtgfinjhhkmflfaaDoorPuSums
import Derived.Test.YtgfinjhhkmflfaaDoorExact
namespace Go.Proofs.YtgfinjhhkmflfaaDoor.PF
open Go.RowKit Go.Proofs.YtgfinjhhkmflfaaDoorW.PrintWords Go.Proofs.YtgfinjhhkmflfaaDoorW.PrintLast Go.Proofs.YtgfinjhhkmflfaaDoorW.PrintMore
set_option linter.unusedVariables false
theorem compl_nat (a : Nat) (h : a < 4294967296) : 4294967295 - a = 4294967295 ^^^ a := by
  apply Nat.eq_of_testBit_eq; intro j
  rw [Nat.testBit_xor]
  have h2 : 4294967295 - a = 2 ^ 32 - (a + 1) := by omega
  rw [h2, Nat.testBit_two_pow_sub_succ (by omega), show (4294967295 : Nat) = 2 ^ 32 - (0 + 1) from rfl, Nat.testBit_two_pow_sub_succ (by decide)]
  by_cases hj : j < 32
  · simp [hj]
  · simp [hj]
    exact Nat.testBit_lt_two_pow (Nat.lt_of_lt_of_le (show a < 2 ^ 32 from h) (Nat.pow_le_pow_right (by decide) (by omega)))
def nats (l : List Int) : List Nat := l.map Int.toNat
theorem nats_lt {l : List Int} (hb : Bytes l) : ∀ x ∈ nats l, x < 256 := fun x hx => by
  obtain ⟨y, hy, rfl⟩ := List.mem_map.1 hx
  have := hb y hy
  omega
theorem reg_nats_lt (c : Nat) (hc : c < 4294967296) {l : List Int} (hb : Bytes l) : Crc.reg c (nats l) < 4294967296 := Crc.reg_lt c _ hc (nats_lt hb)
theorem sumL_xor {l : List Int} (hb : Bytes l) : sumL l = 4294967295 ^^^ Crc.reg 4294967295 (nats l) := compl_nat _ (reg_nats_lt _ (by decide) hb)
theorem reg_zero (c : Nat) (n : Nat) (l : List Nat) (hl : l.length = n) : Crc.reg c (List.zipWith (· ^^^ ·) l (List.replicate n 0)) = Crc.reg c l := by
  congr 1
  subst hl
  induction l with
  | nil => rfl
  | cons x l ih =>
    rw [List.length_cons, List.replicate_succ, List.zipWith_cons_cons, ih, Nat.xor_zero]
/-- The linear law, on registers. -/
theorem lin (a b : List Nat) (h : a.length = b.length) : Crc.reg 4294967295 (List.zipWith (· ^^^ ·) a b) = Crc.reg 4294967295 a ^^^ Crc.reg 4294967295 b ^^^ Crc.reg 4294967295 (List.replicate a.length 0) := by
  rw [← Crc.reg_xor _ _ a b h, Nat.xor_self, ← Crc.reg_xor _ _ _ _ (by simp [h]), Nat.zero_xor, reg_zero _ _ _ (by simp [h])]
/-- One text over another, as the loop makes it. -/
def over (a b : List Int) : List Int := List.zipWith (fun x y => Go.bits .xor .u8 x y) a b
theorem u8x (x y : Int) (hx : 0 ≤ x ∧ x < 256) (hy : 0 ≤ y ∧ y < 256) : Go.bits .xor .u8 x y = ((x.toNat ^^^ y.toNat : Nat) : Int) := u8_xor x y hx.1 hx.2 hy.1 hy.2
theorem over_nats (a b : List Int) (ha : Bytes a) (hb : Bytes b) : nats (over a b) = List.zipWith (· ^^^ ·) (nats a) (nats b) := by
  induction a generalizing b with
  | nil => rfl
  | cons x a ih =>
    cases b with
    | nil => rfl
    | cons y b =>
      have hx := ha x (by simp)
      have hy := hb y (by simp)
      simp only [over, nats, List.zipWith_cons_cons, List.map_cons] at *
      rw [u8x x y hx hy, Int.toNat_natCast, ih b (fun z hz => ha z (by simp [hz])) (fun z hz => hb z (by simp [hz]))]
theorem over_bytes (a b : List Int) (ha : Bytes a) (hb : Bytes b) : Bytes (over a b) := by
  induction a generalizing b with
  | nil => intro x hx; cases hx
  | cons x a ih =>
    cases b with
    | nil => intro x hx; cases hx
    | cons y b =>
      have hx := ha x (by simp)
      have hy := hb y (by simp)
      intro z hz
      simp only [over, List.zipWith_cons_cons, List.mem_cons] at hz
      rcases hz with rfl | hz
      · rw [u8x x y hx hy]
        have : x.toNat ^^^ y.toNat < 2 ^ 8 := Nat.xor_lt_two_pow (by omega) (by omega)
        omega
      · exact ih b (fun z hz => ha z (by simp [hz])) (fun z hz => hb z (by simp [hz])) z hz
theorem zeros_bytes (n : Nat) : Bytes (List.replicate n (0 : Int)) := fun x hx => by
  rw [List.eq_of_mem_replicate hx]
  omega
theorem sum_over (a b : List Int) (ha : Bytes a) (hb : Bytes b) (h : a.length = b.length) :
    sumL (over a b) = sumL a ^^^ sumL b ^^^ sumL (List.replicate a.length 0) := by
  rw [sumL_xor (over_bytes a b ha hb), over_nats a b ha hb, lin _ _ (by simp [nats, h]), sumL_xor ha, sumL_xor hb, sumL_xor (zeros_bytes _)]
  have e : nats (List.replicate a.length (0 : Int)) = List.replicate (nats a).length 0 := by simp [nats]
  rw [e]
  generalize Crc.reg 4294967295 (nats a) = x
  generalize Crc.reg 4294967295 (nats b) = y
  generalize Crc.reg 4294967295 (List.replicate (nats a).length 0) = z
  generalize 4294967295 = c
  have e2 : c ^^^ x ^^^ (c ^^^ y) ^^^ (c ^^^ z) = c ^^^ (x ^^^ y ^^^ z) ^^^ (c ^^^ c) := by ac_rfl
  rw [e2, Nat.xor_self, Nat.xor_zero]
theorem take_snoc (l : List Int) (i : Nat) (h : i < l.length) : l.take (i + 1) = l.take i ++ [rd l (i : Int)] := by
  rw [rd_nat l i h, List.take_succ_eq_append_getElem h]
theorem over_snoc (a b : List Int) (i : Nat) (ha : i < a.length) (hb : i < b.length) : over (a.take (i + 1)) (b.take (i + 1)) = over (a.take i) (b.take i) ++ [Go.bits .xor .u8 (rd a (i : Int)) (rd b (i : Int))] := by
  rw [take_snoc a i ha, take_snoc b i hb]
  unfold over
  rw [List.zipWith_append (by simp; omega)]
  rfl
theorem over_length (a b : List Int) : (over a b).length = min a.length b.length := by simp [over]
/-- The loop, and what stands behind it. -/
theorem linear_l0 (a b : List Int) (ha : Bytes a) (hb : Bytes b) (hl : a.length ≤ 131072) : ∀ d i, i + d = min a.length b.length →
    Ev (fun k => eddylaw1_FrameLinear.l0 k a b (over (a.take i) (b.take i)) (b.take i) (List.replicate i 0) (i : Int) [0]) true := by
  have hend : ∀ i, i = min a.length b.length → Ev (fun k => eddylaw1_FrameLinear.j2 k a (over (a.take i) (b.take i)) (b.take i) (List.replicate i 0) [0]) true := by
    intro i hi
    have hol : (over (a.take i) (b.take i)).length = i := by rw [over_length]; simp; omega
    apply Ev.step
    · intro k
      simp only [eddylaw1_FrameLinear.j2]
      rw [frame_Sum_eq _ [0] (over_bytes _ _ (ha.take i) (hb.take i)) (by simp), Option.bind_some, hol, if_pos (by omega), if_pos (by omega), Int.toNat_natCast, frame_Sum_eq _ [0] (ha.take i) (by simp), Option.bind_some, frame_Sum_eq _ [0] (hb.take i) (by simp), Option.bind_some, frame_Sum_eq _ [0] (zeros_bytes i) (by simp), Option.bind_some]
    · have hs := sum_over (a.take i) (b.take i) (ha.take i) (hb.take i) (by simp; omega)
      rw [show (a.take i).length = i by simp; omega] at hs
      have h1 := sumL_lt (a.take i)
      have h2 := sumL_lt (b.take i)
      have h3 := sumL_lt (List.replicate i 0)
      rw [hs, u32_xor_nat _ _ h1 h2, u32_xor_nat _ _ (Nat.xor_lt_two_pow (n := 32) h1 h2) h3, beq_self_eq_true]
      exact Ev.now _
  intro d
  induction d with
  | zero =>
    intro i hi
    apply Ev.step
    · intro k
      simp only [eddylaw1_FrameLinear.l0]
      exact rfl
    · by_cases h1 : (i : Int) < (a.length : Int)
      · simp only [if_pos h1, if_neg (show ¬ (i : Int) < (b.length : Int) by omega)]
        exact hend i (by omega)
      · simp only [if_neg h1]
        exact hend i (by omega)
  | succ d ih =>
    intro i hi
    have h1 : i < a.length := by omega
    have h2 : i < b.length := by omega
    apply Ev.step
    · intro k
      simp only [eddylaw1_FrameLinear.l0]
      rw [if_pos (by omega), if_pos (by omega), if_pos (by omega), if_pos (by rw [over_length]; simp; omega), if_pos (by simp; omega), if_pos (by simp; omega), ← over_snoc a b i h1 h2, ← take_snoc b i h2, ← List.replicate_succ', w64 (by omega) (by omega)]
    · exact ih (i + 1) (by omega)
theorem FrameLinear_pure (l0 : List Int) (y0 : l0.length * 1 ≤ 140737488351232) (hw0 : ∀ x ∈ l0, (Lit.int .u8 x).wf = true) (l1 : List Int) (y1 : l1.length * 1 ≤ 140737488351232) (hw1 : ∀ x ∈ l1, (Lit.int .u8 x).wf = true) :
    ∃ k, eddylaw1_FrameLinear.f k l0 l1 [0] = some true := by
  have b0 := bytes_of_wf hw0
  have b1 := bytes_of_wf hw1
  apply Ev.rounds
  unfold eddylaw1_FrameLinear.f
  by_cases hbig : (l0.length : Int) > 131072
  · simp only [if_pos hbig]
    apply Ev.step
    · intro k
      simp only [eddylaw1_FrameLinear.j0, if_true]
      exact rfl
    · rw [decide_eq_true hbig]
      exact Ev.now _
  · simp only [if_neg hbig]
    refine Ev.pure_ (frame_Sum_eq [0] [0] (zeros_bytes 1) (by simp)) ?_
    rw [show ((sumL [0] : Nat) : Int) = 3523407757 by decide +kernel, bne_self_eq_false]
    apply Ev.step
    · intro k
      simp only [eddylaw1_FrameLinear.j0, Bool.false_eq_true, if_false]
      exact rfl
    · exact linear_l0 l0 l1 b0 b1 (by omega) _ 0 (by rw [Nat.zero_add])
end Go.Proofs.YtgfinjhhkmflfaaDoor.PF
