/- PROVED: what the Go function frame.Add computes where its table lies as laid: the complement of the register, over the bytes, of the complement of the sum; conditions: the table's place, a sum of 32 bits, bytes. -/
import Derived.Test.YtgfinjhhkmflfaaDoorTab
import Derived.Test.YtgfinjhhkmflfaaDoorCrc
import Derived.Test.YtgfinjhhkmflfaaDoorWMore
import Derived.WalkKit
import Derived.Laws.BitsAllLaws
namespace Go.Proofs.YtgfinjhhkmflfaaDoor.PF
open Go.RowKit Go.Proofs.YtgfinjhhkmflfaaDoorW.PrintWords
/-- What frame.Add computes. -/
def frame_Add.f (a0 : Int) (l1 : List Int) (l2 : List Int) : Option Int :=
  if 0 ≤ a0 ∧ a0 < 4294967296 ∧ (∀ x ∈ l1, 0 ≤ x ∧ x < 256) ∧ l2 ≠ [] then
    some ((4294967295 - Crc.reg (4294967295 - a0.toNat) (l1.map Int.toNat) : Nat) : Int) else none
theorem frame_Add.mono : ∀ a0 a1 a2 (_ : Nat), LeO (frame_Add.f a0 a1 a2) (frame_Add.f a0 a1 a2) := fun _ _ _ _ => LeO.refl _

theorem compl_u32 (a : Nat) (h : a < 4294967296) : Go.bits .xor .u32 IntKind.u32.max (a : Int) = ((4294967295 - a : Nat) : Int) := by
  rw [show IntKind.u32.max = ((4294967295 : Nat) : Int) from rfl, u32_xor_nat _ _ (by decide) h]
  congr 1
  apply Nat.eq_of_testBit_eq; intro j
  rw [Nat.testBit_xor]
  have h2 : 4294967295 - a = 2 ^ 32 - (a + 1) := by omega
  rw [h2, Nat.testBit_two_pow_sub_succ (by omega), show (4294967295 : Nat) = 2 ^ 32 - (0 + 1) from rfl, Nat.testBit_two_pow_sub_succ (by decide)]
  by_cases hj : j < 32
  · simp [hj]
  · simp [hj]
    exact Nat.testBit_lt_two_pow (Nat.lt_of_lt_of_le (show a < 2 ^ 32 from h) (Nat.pow_le_pow_right (by decide) (by omega)))
theorem half_nat (i : Nat) (h : i < 16) : halfL.getD i 0 = ((Crc.half.getD i 0 : Nat) : Int) := by
  revert i
  decide
/-- A nibble's step. -/
theorem nib_step (c : Nat) (hc : c < 4294967296) : Go.bits .xor .u32 ((c : Int) / 16) (halfL.getD (c % 16) 0) = ((Crc.Tn 4 c : Nat) : Int) := by
  have hlt : Crc.half.getD (c % 16) 0 < 4294967296 := by
    rw [Crc.half_eq _ (Nat.mod_lt _ (by decide))]
    exact Crc.Tn_lt 4 _ (by omega)
  rw [half_nat _ (Nat.mod_lt _ (by decide)), show (c : Int) / 16 = ((c / 16 : Nat) : Int) from rfl, u32_xor_nat _ _ (by omega) hlt, ← Crc.nib c, Nat.shiftRight_eq_div_pow]
theorem mask15 (c : Nat) (hc : c < 4294967296) : Go.bits .and .u32 (c : Int) 15 = ((c % 16 : Nat) : Int) := by
  rw [show (15 : Int) = ((15 : Nat) : Int) from rfl, u32_and_nat _ _ hc (by decide)]
  congr 1
  exact Nat.and_two_pow_sub_one_eq_mod c 4
def bytesN (l : List Int) : List Nat := l.map Int.toNat
theorem reg_take (s : Nat) (l : List Int) (k : Nat) (h : k < l.length) : Crc.reg s (bytesN (l.take (k + 1))) = Crc.Tn 8 (Crc.reg s (bytesN (l.take k)) ^^^ (rd l k).toNat) := by
  rw [List.take_succ_eq_append_getElem h, bytesN, List.map_append, Crc.reg_append]
  simp only [List.map_cons, List.map_nil, Crc.reg, bytesN]
  congr 3
  simp [rd, List.getD_eq_getElem?_getD, List.getElem?_eq_getElem h]
theorem reg_take_lt (s : Nat) (hs : s < 4294967296) (l : List Int) (hb : ∀ x ∈ l, 0 ≤ x ∧ x < 256) (k : Nat) : Crc.reg s (bytesN (l.take k)) < 4294967296 :=
  Crc.reg_lt s _ hs (fun x hx => by
    obtain ⟨y, hy, rfl⟩ := List.mem_map.1 hx
    have := hb y (List.mem_of_mem_take hy)
    omega)
/-- A byte's step: the two nibbles', all bounds and the cells read. -/
theorem byte_step (n : Nat) (hn : n < 4294967296) (x : Int) (h0 : 0 ≤ x) (h1 : x < 256) (w : World) (hT : TabAt w) :
    ∃ c1 i1 v1 c2 i2 v2 : Int, 0 ≤ c1 ∧ c1 < 4294967296 ∧ 0 ≤ i1 ∧ i1 < 16 ∧ 0 ≤ c2 ∧ c2 < 4294967296 ∧ 0 ≤ i2 ∧ i2 < 16 ∧ Go.bits .xor .u32 (n : Int) x = c1 ∧ Go.bits .and .u32 c1 15 = i1 ∧ w.cell? ⟨0, i1.toNat, none⟩ = some (.int .u32 v1) ∧
      Go.bits .xor .u32 (c1 / 16) v1 = c2 ∧ Go.bits .and .u32 c2 15 = i2 ∧ w.cell? ⟨0, i2.toNat, none⟩ = some (.int .u32 v2) ∧ Go.bits .xor .u32 (c2 / 16) v2 = ((Crc.Tn 8 (n ^^^ x.toNat) : Nat) : Int) := by
  obtain ⟨y, rfl⟩ := Int.eq_ofNat_of_zero_le h0
  have e1 : n ^^^ y < 4294967296 := Nat.xor_lt_two_pow (n := 32) hn (by omega)
  have e2 : Crc.Tn 4 (n ^^^ y) < 4294967296 := Crc.Tn_lt 4 _ e1
  refine ⟨_, _, halfL.getD ((n ^^^ y) % 16) 0, _, _, halfL.getD (Crc.Tn 4 (n ^^^ y) % 16) 0, ?_, ?_, ?_, ?_, ?_, ?_, ?_, ?_, u32_xor_nat n y hn (by omega), mask15 _ e1, ?_, nib_step _ e1, mask15 _ e2, ?_, ?_⟩
  case _ => omega
  case _ => omega
  case _ => omega
  case _ => omega
  case _ => omega
  case _ => omega
  case _ => omega
  case _ => omega
  · exact hT _ (by omega)
  · exact hT _ (by omega)
  · rw [nib_step _ e2, ← Crc.Tn_add 4 4]; rfl

set_option maxHeartbeats 400000 in
theorem frame_Add.calls (a0 : Int) (A1 : Option Addr) (c1 : Nat) (l1 : List Int) (A2 : Option Addr) (c2 : Nat) (l2 : List Int) (r : Int) (w : World)
    (hr1 : Kd.C (Kd.int .u8) w A1 l1.length l1) (_hc1 : l1.length ≤ c1) (hr2 : Kd.C kTab w A2 l2.length l2) (_hc2 : l2.length ≤ c2) (h : frame_Add.f a0 l1 l2 = some r) :
    Calls Tryd.prog 20 #[.int .u32 a0, .slice A1 l1.length c1] w fun e w' => e = .returned (.int .u32 r) ∧ Drawn0 w w' := by
  unfold frame_Add.f at h
  split at h
  · rename_i hh
    obtain ⟨h0, h1, hb, hl2⟩ := hh
    have hT := tab_of hr2 hl2
    have hm := hr1.2.1
    have HR1 := Aside0.mk hr1
    have HT := Aside0.mk hT
    have HB := Aside0.mk hb
    have Hh := Aside0.mk (Option.some.inj h)
    clear hr1 hr2 hT hb h hl2
    go_enter Tryd.func20, Tryd.ntmps20
    go_wp2
    go_loopw [5, 7, 12] (fun c _ i wr => ∃ k : Nat, k ≤ l1.length ∧ i = .int .i64 k ∧ c = .int .u32 ((Crc.reg (4294967295 - a0.toNat) (bytesN (l1.take k)) : Nat) : Int) ∧ Drawn0 w wr) (fun _ _ i _ => l1.length - (intOf i).toNat)
    case atStart =>
      refine ⟨0, Nat.zero_le _, rfl, ?_, Drawn0.refl _⟩
      obtain ⟨b, rfl⟩ := Int.eq_ofNat_of_zero_le h0
      rw [compl_u32 b (by omega)]
      rfl
    case round =>
      obtain ⟨k, hk, rfl, rfl, ⟨⟨nd, rfl⟩⟩⟩ := hrel
      by_cases hlt : k < l1.length
      · have hbk := HB.out (rd l1 k) (by
          simp only [rd, List.getD_eq_getElem?_getD]
          rw [List.getElem?_eq_getElem (by simpa using hlt)]
          simp)
        obtain ⟨ad, had, hcell⟩ := Kd.at_int HR1.out (k : Int) (by omega) (by omega)
        cases had
        simp only [Int.toNat_natCast] at hcell
        have hn := reg_take_lt (4294967295 - a0.toNat) (by omega) l1 HB.out k
        obtain ⟨m1, i1, v1, m2, i2, v2, b1, b2, b3, b4, b5, b6, b7, b8, q1, q2, q3, q4, q5, q6, q7⟩ := byte_step _ hn (rd l1 k) hbk.1 hbk.2 w HT.out
        rw [← reg_take _ _ _ hlt] at q7
        have HQ := Aside0.mk q7
        obtain ⟨hb0, hb1⟩ := hbk
        clear q7 hn
        go_wp2
        go_roundw
        case rel => exact ⟨k + 1, by omega, by go_num, by rw [HQ.out], (Drawn0.refl w).step nd⟩
        case measure => simp [intOf]; omega
      · have hke : k = l1.length := by omega
        have hn := reg_take_lt (4294967295 - a0.toNat) (by omega) l1 HB.out k
        have HN := Aside0.mk hn
        have HKE := Aside0.mk hke
        clear hn hke
        go_wp2
        go_ret
        refine ⟨?_, (Drawn0.refl w).step nd⟩
        rw [← Hh.out, compl_u32 _ HN.out, HKE.out, List.take_length]
        rfl
  · cases h
end Go.Proofs.YtgfinjhhkmflfaaDoor.PF
