/- The document's checksum and the program's, as the printed functions tell them, are one: the register's complement; conditions: a sum of 32 bits, bytes. (Plain Lean: no memory, no Go.) -/
import Derived.Test.YtgfinjhhkmflfaaDoorPFx2
import Derived.Test.YtgfinjhhkmflfaaDoorWrap
namespace Go.Proofs.YtgfinjhhkmflfaaDoor.PF
open Go.RowKit Go.Proofs.YtgfinjhhkmflfaaDoorW.PrintWords Go.Proofs.YtgfinjhhkmflfaaDoorW.PrintLast Go.Proofs.YtgfinjhhkmflfaaDoorW.PrintMore
set_option linter.unusedVariables false
def Bytes (l : List Int) : Prop := ∀ x ∈ l, 0 ≤ x ∧ x < 256
theorem i64_mask1 (a : Nat) (h : a < 2 ^ 63) : Go.bits .and .i64 (a : Int) 1 = ((a % 2 : Nat) : Int) := by
  have := bits_mask .i64 63 (by decide) (fun n h0 h1 => by rw [i64_w]; unfold wrap64; omega) 1 (by decide) (a : Int) (by omega) (by exact_mod_cast h)
  simpa using this
theorem rd_nat (l : List Int) (i : Nat) (h : i < l.length) : rd l (i : Int) = l[i] := by
  unfold rd
  rw [Int.toNat_natCast, List.getD_eq_getElem?_getD, List.getElem?_eq_getElem h]
  rfl
theorem shr_nat (k : IntKind) (x i : Nat) (hi : i ≤ k.bits) : shr k (x : Int) (i : Int) = ((x >>> i : Nat) : Int) := by
  unfold shr
  rw [Int.toNat_natCast, Nat.min_eq_left hi, Nat.shiftRight_eq_div_pow]
  simp
theorem w64 {x : Int} (h0 : -9223372036854775808 ≤ x) (h1 : x ≤ 9223372036854775807) : wrap64 x = x := by unfold wrap64; omega
/-! ### turned -/
theorem turned_l0 (n : Nat) (hn : n < 2 ^ 32) : ∀ d i, i + d = 32 → Ev (fun k => eddyref1_turned.l0 k (n : Int) ((Crc.revN n i : Nat) : Int) (i : Int)) ((Crc.rev n : Nat) : Int) := by
  intro d
  induction d with
  | zero =>
    intro i hi
    obtain rfl : i = 32 := by omega
    exact Ev.step (f := fun _ => some _) (fun k => by simp only [eddyref1_turned.l0]; rw [if_neg (by omega)]; rfl) (Ev.now _)
  | succ d ih =>
    intro i hi
    refine Ev.step (fun k => ?_) (ih (i + 1) (by omega))
    simp only [eddyref1_turned.l0]
    have hlt : Crc.revN n i < 2 ^ i := Nat.lt_pow_two_of_testBit _ (fun j hj => by rw [Crc.revN_testBit]; simp; intro h; omega)
    have hlt2 : Crc.revN n i < 2 ^ 31 := Nat.lt_of_lt_of_le hlt (Nat.pow_le_pow_right (by decide) (by omega))
    have hsh : n >>> i < 2 ^ 63 := by
      rw [Nat.shiftRight_eq_div_pow]
      exact Nat.lt_of_le_of_lt (Nat.div_le_self _ _) (Nat.lt_trans hn (by decide))
    rw [if_pos (by omega), if_pos (by omega), shr_nat .i64 n i (by show i ≤ 64; omega), i64_mask1 _ hsh]
    have hm := Nat.mod_lt (n >>> i) (show 0 < 2 by decide)
    rw [w64 (x := 2 * _) (by omega) (by omega), w64 (by omega) (by omega), w64 (by omega) (by omega)]
    congr 1
theorem turned_f (n : Nat) (hn : n < 2 ^ 32) : Ev (fun k => eddyref1_turned.f k (n : Int)) ((Crc.rev n : Nat) : Int) := turned_l0 n hn 32 0 rfl
/-! ### the bits of a text -/
theorem bit_f (l : List Int) (hb : Bytes l) (hl : l.length < 2 ^ 40) (i : Nat) : eddyref1_bit.f l (i : Int) = some ((Crc.bitOf (l.map Int.toNat) i : Nat) : Int) := by
  unfold eddyref1_bit.f Crc.bitOf
  rw [w64 (by omega) (by omega), List.length_map]
  by_cases h : i < 8 * l.length
  · have hq : wrap64 (Int.tdiv (i : Int) 8) = ((i / 8 : Nat) : Int) := by
      rw [show Int.tdiv (i : Int) 8 = ((i / 8 : Nat) : Int) from rfl]
      exact w64 (by omega) (by omega)
    have hr : Int.tmod (i : Int) 8 = ((i % 8 : Nat) : Int) := rfl
    have hlt : i / 8 < l.length := by omega
    have hx : rd l ((i / 8 : Nat) : Int) = l[i / 8] := rd_nat l _ hlt
    obtain ⟨b0, b1⟩ := hb l[i / 8] (List.getElem_mem hlt)
    obtain ⟨y, hy⟩ := Int.eq_ofNat_of_zero_le b0
    rw [if_neg (by omega), if_pos h, hq, hr, if_pos (by omega), if_pos (by omega), if_pos (by omega), hx, hy, w64 (by omega) (by omega), shr_nat .i64 y _ (by show i % 8 ≤ 64; omega), i64_mask1 _ (by
      rw [Nat.shiftRight_eq_div_pow]
      exact Nat.lt_of_le_of_lt (Nat.div_le_self _ _) (by omega))]
    simp [List.getD_eq_getElem?_getD, List.getElem?_eq_getElem hlt, hy]
  · rw [if_pos (by omega), if_neg h]
    rfl
/-! ### the document's Add -/
theorem xor64 (a b : Nat) (ha : a < 2 ^ 63) (hb : b < 2 ^ 63) : Go.bits .xor .i64 (a : Int) (b : Int) = ((a ^^^ b : Nat) : Int) := by
  have hx := Nat.xor_lt_two_pow ha hb
  show IntKind.i64.wrap ((BitVec.ofInt 64 (a : Int) ^^^ BitVec.ofInt 64 (b : Int)).toNat : Int) = _
  rw [BitVec.toNat_xor, BitVec.ofInt_natCast, BitVec.ofInt_natCast, BitVec.toNat_ofNat, BitVec.toNat_ofNat, Nat.mod_eq_of_lt (by omega), Nat.mod_eq_of_lt (by omega), i64_w]
  exact w64 (by omega) (by omega)
theorem mod_shr (s i : Nat) : s >>> i % 2 < 2 := Nat.mod_lt _ (by decide)
theorem add_l0 (s : Nat) (hs : s < 2 ^ 32) (l : List Int) (hb : Bytes l) (hl : l.length < 2 ^ 40) : ∀ d i, i + d = 8 * l.length + 32 →
    Ev (fun k => eddyref1_Add.l0 k l (s : Int) ((Crc.refRest s (Crc.bitOf (l.map Int.toNat)) i : Nat) : Int) (i : Int)) ((4294967295 - Crc.reg s (l.map Int.toNat) : Nat) : Int) := by
  have hbN : ∀ x ∈ l.map Int.toNat, x < 256 := fun x hx => by
    obtain ⟨y, hy, rfl⟩ := List.mem_map.1 hx
    have := hb y hy
    omega
  intro d
  induction d with
  | zero =>
    intro i hi
    obtain rfl : i = 8 * l.length + 32 := by omega
    have hr := Crc.ref_reg s hs (l.map Int.toNat) hbN
    rw [List.length_map] at hr
    have hrl := Crc.reg_lt s (l.map Int.toNat) hs hbN
    have ht := turned_f _ (Crc.refRest_lt s (Crc.bitOf (l.map Int.toNat)) (8 * l.length + 32))
    rw [hr] at ht
    refine Ev.step (f := fun k => (eddyref1_turned.f k _).bind fun t => some ((wrap64 (4294967295 - t)) % 4294967296)) (fun k => ?_) (Ev.bind ht ?_)
    · simp only [eddyref1_Add.l0]
      rw [w64 (x := 8 * _) (by omega) (by omega), w64 (by omega) (by omega), if_neg (by omega)]
    · rw [w64 (by omega) (by omega)]
      rw [show ((4294967295 : Int) - (Crc.reg s (l.map Int.toNat) : Nat)) % 4294967296 = ((4294967295 - Crc.reg s (l.map Int.toNat) : Nat) : Int) by omega]
      exact Ev.now _
  | succ d ih =>
    intro i hi
    have hrl := Crc.refRest_lt s (Crc.bitOf (l.map Int.toNat)) i
    have hbl := Crc.bitOf_lt (l.map Int.toNat) i
    refine Ev.step (fun k => ?_) (ih (i + 1) (by omega))
    simp only [eddyref1_Add.l0]
    rw [w64 (x := 8 * _) (by omega) (by omega), w64 (x := 8 * (l.length : Int) + 32) (by omega) (by omega), if_pos (by omega), bit_f l hb hl i]
    simp only [Option.bind_some]
    generalize hR : Crc.refRest s (Crc.bitOf (l.map Int.toNat)) i = R at *
    have hnext : ∀ x, (Crc.bitOf (l.map Int.toNat) i + if i < 32 then s >>> i % 2 else 0) % 2 = x → Crc.refRest s (Crc.bitOf (l.map Int.toNat)) (i + 1) = Crc.step R x := fun x hx => by
      simp only [Crc.refRest]
      rw [hR, hx]
    have hst : ∀ x : Nat, x < 2 → (if wrap64 (wrap64 (2 * (R : Int)) + (x : Int)) > 4294967295 then eddyref1_Add.l0 k l (s : Int) (Go.bits .xor .i64 (wrap64 (wrap64 (2 * (R : Int)) + (x : Int))) 4374732215) (wrap64 ((i : Int) + 1)) else eddyref1_Add.l0 k l (s : Int) (wrap64 (wrap64 (2 * (R : Int)) + (x : Int))) (wrap64 ((i : Int) + 1))) = eddyref1_Add.l0 k l (s : Int) ((Crc.step R x : Nat) : Int) ((i + 1 : Nat) : Int) := fun x hx => by
      rw [w64 (x := 2 * _) (by omega) (by omega), w64 (x := 2 * (R : Int) + x) (by omega) (by omega), w64 (by omega) (by omega)]
      unfold Crc.step
      simp only
      by_cases h : 2 * R + x > 4294967295
      · rw [if_pos (by omega), if_pos h]
        rw [show (2 * (R : Int) + (x : Int)) = ((2 * R + x : Nat) : Int) by omega, show (4374732215 : Int) = ((4374732215 : Nat) : Int) from rfl, xor64 _ _ (by omega) (by decide)]
        rfl
      · rw [if_neg (by omega), if_neg h]
        congr 1
    by_cases h32 : i < 32
    · have hm := mod_shr s i
      have hsh : s >>> i < 2 ^ 63 := by
        rw [Nat.shiftRight_eq_div_pow]
        exact Nat.lt_of_le_of_lt (Nat.div_le_self _ _) (Nat.lt_trans hs (by decide))
      rw [if_pos (by omega), if_pos (by omega), shr_nat .i64 s i (by show i ≤ 64; omega), i64_mask1 _ hsh, w64 (x := (Crc.bitOf _ i : Int) + _) (by omega) (by omega)]
      rw [show Int.tmod ((Crc.bitOf (l.map Int.toNat) i : Int) + ((s >>> i % 2 : Nat) : Int)) 2 = (((Crc.bitOf (l.map Int.toNat) i + s >>> i % 2) % 2 : Nat) : Int) from rfl]
      rw [hst _ (Nat.mod_lt _ (by decide)), hnext _ (by rw [if_pos h32])]
    · rw [if_neg (by omega), hst _ hbl, hnext (Crc.bitOf (l.map Int.toNat) i) (by rw [if_neg h32]; omega)]
/-- What the document's Add tells. -/
theorem refAdd (a : Int) (h0 : 0 ≤ a) (h1 : a < 4294967296) (l : List Int) (hb : Bytes l) (hl : l.length < 2 ^ 40) :
    Ev (fun k => eddyref1_Add.f k a l) ((4294967295 - Crc.reg (4294967295 - a.toNat) (l.map Int.toNat) : Nat) : Int) := by
  obtain ⟨n, rfl⟩ := Int.eq_ofNat_of_zero_le h0
  refine Ev.congr (fun k => ?_) (add_l0 (4294967295 - n) (by omega) l hb hl (8 * l.length + 32) 0 (by omega))
  unfold eddyref1_Add.f
  rw [w64 (x := (n : Int)) (by omega) (by omega), w64 (by omega) (by omega), show (4294967295 : Int) - (n : Int) = ((4294967295 - n : Nat) : Int) by omega]
  rfl
theorem refSum (l : List Int) (hb : Bytes l) (hl : l.length < 2 ^ 40) : Ev (fun k => eddyref1_Sum.f k l) ((sumL l : Nat) : Int) := by
  refine Ev.bind (refAdd 0 (by omega) (by omega) l hb hl) (Ev.now _)
end Go.Proofs.YtgfinjhhkmflfaaDoor.PF
