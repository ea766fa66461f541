/- value.decoder: the plain reading of a value off bytes; fail, next walked; conditions: those in each theorem. -/
import Derived.Test.YthmkioodkldgbaaGreatQcM16
import Derived.Defers
import Derived.Recover
namespace Go.Proofs.YthmkioodkldgbaaGreat.DK
open Go.Proofs.YthmkioodkldgbaaGreat.PD
open Go.RowKit Go.Proofs.YthmkioodkldgbaaGreatW.PrintWords Go.Proofs.YthmkioodkldgbaaGreatW.PrintLast Go.Proofs.YthmkioodkldgbaaGreatW.PrintMore
set_option linter.unusedVariables false
set_option linter.unusedSimpArgs false
set_option maxRecDepth 100000
/-- The groups of an int, the i-th first. -/
def pInt : Nat → List Int → Rd Int
 | _, [] => .bad 28
 | i, c :: l => if (i = 9 ∧ 1 < c) ∨ (0 < i ∧ c = 0) then .bad 28 else if c < 128 then .ok c l else (pInt (i + 1) l).map fun u => c % 128 + 128 * u
/-- The int that the groups' number says. -/
def unz (u : Int) : Int := if u % 2 = 0 then u / 2 else -(u / 2) - 1
/-- A text. -/
def pText : List Int → Rd ByteArray
 | [] => .bad 28
 | n :: l => if 24 < n then .bad 21 else if l.length < n.toNat then .bad 28 else .ok (strOfNums (l.take n.toNat)) (l.drop n.toNat)
/-- So many values, one behind the other; p: the parts so far. -/
def pItems (f : Int → List Int → Rd (S25 × Int)) : Nat → List S25 → Int → List Int → Rd (List S25 × Int)
 | 0, acc, p, l => .ok (acc, p) l
 | n + 1, acc, p, l => (f p l).bind fun v l' => pItems f n (acc ++ [v.1]) v.2 l'
/-- A list: how many, then each. -/
def pLst (f : Int → List Int → Rd (S25 × Int)) (p : Int) : List Int → Rd (S25 × Int)
 | [] => .bad 28
 | n :: l => if 6 < n then .bad 22 else (pItems f n.toNat [] p l).map fun x => (⟨3, 0, ⟨#[]⟩, x.1⟩, x.2)
/-- A value; lst: what a list says. -/
def pOne (lst : Int → List Int → Rd (S25 × Int)) (p : Int) : List Int → Rd (S25 × Int)
 | [] => .bad 28
 | c :: l => if 12 < p + 1 then .bad 22 else if 3 < c then .bad 28 else if c = 1 then (pInt 0 l).map fun u => (⟨1, unz u, ⟨#[]⟩, []⟩, p + 1)
  else if c = 2 then (pText l).map fun t => (⟨2, 0, t, []⟩, p + 1) else if c = 3 then lst (p + 1) l else .ok (⟨0, 0, ⟨#[]⟩, []⟩, p + 1) l
/-- A value that may hold lists k deep. -/
def pDeep : Nat → Int → List Int → Rd (S25 × Int)
 | 0 => pOne fun _ _ => .bad 23
 | k + 1 => pOne (pLst (pDeep k))
/-- A value. -/
def pVal (l : List Int) : Rd S25 := (pDeep 3 0 l).map Prod.fst
/-- The decoder at block g: the rest l of all bytes, p parts. -/
structure Dec (b : Nat) (w : World) (g : Nat) (A : Option Addr) (c : Nat) (L : List Int) (i : Nat) (p : Int) : Prop where
 box : w.heap[g]? = some (.cells #[.slice A L.length c, .int .i64 i, .int .i64 p] 219 (0, 0))
 ge : b ≤ g
 inp : In (Kd.int .u8) b w A L
 le : i ≤ L.length
 cap : L.length ≤ c
 pp : 0 ≤ p ∧ p ≤ 12
 rng : ∀ x ∈ L, 0 ≤ x ∧ x ≤ 255
/-- What is thrown. -/
def thrown (e : Int) : List PanicEntry := [{ v := .iface 234 (.agg #[.int .i64 e, .int .i64 0]), recovered := false }]
section
variable {b : Nat} {w w1 : World} {g : Nat} {A : Option Addr} {c : Nat} {L : List Int} {i : Nat} {p : Int}
theorem Dec.b_le (h : Dec b w g A c L i p) : b ≤ w.heap.size := Nat.le_of_lt (Nat.lt_of_le_of_lt h.ge (blk_lt h.box))
theorem Dec.ut {T : List Nat} (h : Dec b w g A c L i p) (hu : UT T b w w1) (hT : 219 ∉ T) : Dec b w1 g A c L i p := ⟨hu.blk h.box hT, h.ge, h.inp.ext (hu.below h.b_le), h.le, h.cap, h.pp, h.rng⟩
theorem Dec.below (h : Dec b w g A c L i p) (hb : Below w.heap.size w w1) : Dec b w1 g A c L i p := h.ut (UT.of_below [] b hb) (by simp)
theorem Dec.setAt (h : Dec b w g A c L i p) (j : Nat) (hj : j ≤ L.length) : Dec b (w.setCell ⟨g, 1, none⟩ (.int .i64 j)) g A c L j p :=
 ⟨blk_set h.box, h.ge, h.inp.ext (((UT.refl [219] b w).set h.box (by simp) h.ge 1 (.int .i64 j)).below h.b_le), hj, h.cap, h.pp, h.rng⟩
theorem Dec.setP (h : Dec b w g A c L i p) (q : Int) (hq : 0 ≤ q ∧ q ≤ 12) : Dec b (w.setCell ⟨g, 2, none⟩ (.int .i64 q)) g A c L i q :=
 ⟨blk_set h.box, h.ge, h.inp.ext (((UT.refl [219] b w).set h.box (by simp) h.ge 2 (.int .i64 q)).below h.b_le), h.le, h.cap, hq, h.rng⟩
theorem Dec.set_ut (h : Dec b w g A c L i p) (j : Nat) (v : Value) : UT [219] b w (w.setCell ⟨g, j, none⟩ v) := (UT.refl _ _ _).set h.box (by simp) h.ge j v
set_option maxHeartbeats 4000000 in
theorem dfail_calls (v : Value) (x : Int) : Calls Tryz.prog 157 #[v, .int .i64 x] w (fun en w' => en = .panicked (thrown x) ∧ w' = w) := by
 have hp : ∀ (t : TypeId) (v : Value) (W : World), (Instr.panic (.iface t v)).run Tryz.prog W = .halt (.panic (.iface t v)) W := fun _ _ _ => rfl
 go_enter Tryz.func157, Tryz.ntmps157
 go_wp2
 exact ⟨rfl, rfl, rfl⟩
/-- Behind a step of the decoder: at i', p' parts; r what the bytes say. -/
structure DecS {α : Type} (b : Nat) (w : World) (g : Nat) (A : Option Addr) (c : Nat) (L : List Int) (r : Rd α) (x : α) (w' : World) (i' : Nat) (p' : Int) : Prop where
 dec : Dec b w' g A c L i' p'
 ut : UT [219] b w w'
 ok : r = .ok x (L.drop i')
/-- One letter. -/
def NextG (b : Nat) (w : World) (g : Nat) (A : Option Addr) (c : Nat) (L : List Int) (i : Nat) (p : Int) (en : Ending) (w' : World) : Prop :=
 (∃ h : i < L.length, en = .returned (.int .u8 L[i]) ∧ Dec b w' g A c L (i + 1) p ∧ UT [219] b w w') ∨ (L.length ≤ i ∧ en = .panicked (thrown 28) ∧ UT [219] b w w')
theorem NextG.ok_mk {w' : World} (h : i < L.length) {x : Int} (hx : x = L[i]) (hd : Dec b w' g A c L (i + 1) p) (hu : UT [219] b w w') : NextG b w g A c L i p (.returned (.int .u8 x)) w' := .inl ⟨h, by rw [hx], hd, hu⟩
theorem NextG.bad_mk {w' : World} (h : L.length ≤ i) (hu : UT [219] b w w') : NextG b w g A c L i p (.panicked (thrown 28)) w' := .inr ⟨h, rfl, hu⟩
set_option maxHeartbeats 4000000 in
theorem dnext_calls (h : Dec b w g A c L i p) : Calls Tryz.prog 156 #[.pointer (some ⟨g, 0, none⟩)] w (NextG b w g A c L i p) := by
 have m0 := blk_cell h.box 0
 have m1 := blk_cell h.box 1
 have q1 := blk_frozen h.box 1
 simp only [List.getElem?_toArray, List.getElem?_cons_succ, List.getElem?_cons_zero] at m0 m1 q1
 have hblk := blk_lt h.box
 have hlen : L.length ≤ 9223372036854775807 := h.inp.C.2.1
 have hle := h.le
 by_cases hi : i < L.length
 ·obtain ⟨ad, rfl, d0⟩ := h.inp.atInt hi
  have hib : ¬ (i : Int) = (L.length : Int) := by omega
  have hI := Aside0.mk h
  clear h
  go_enter Tryz.func156, Tryz.ntmps156
  go_wp2
  go_quiet (fail)
  go_wp2
  have hD := (hI.out.below (w1 := w.drewN nq) (pw_below_drewN (Below.refl _ _) nq)).setAt (i + 1) (by omega)
  have hU := ((UT.refl [219] b w).drewN nq).trans ((hI.out.below (w1 := w.drewN nq) (pw_below_drewN (Below.refl _ _) nq)).set_ut 1 (.int .i64 ((i + 1 : Nat) : Int)))
  push_cast at hD hU
  generalize (w.drewN nq).setCell ⟨g, 1, none⟩ (.int .i64 ((i : Int) + 1)) = W at *
  have n0 := blk_cell hD.box 0
  have n1 := blk_cell hD.box 1
  simp only [List.getElem?_toArray, List.getElem?_cons_succ, List.getElem?_cons_zero] at n0 n1
  obtain ⟨ad', e', d1⟩ := hD.inp.atInt hi
  injection e' with e'
  subst e'
  have HD := Aside0.mk hD
  have HU := Aside0.mk hU
  clear hD hU m0 m1 q1 d0
  go_quiet (fail)
  go_wp2
  go_ret
  exact NextG.ok_mk hi rfl (HD.out.below (pw_below_drewN (Below.refl _ _) nq)) (HU.out.drewN nq)
 ·have hib : (i : Int) = (L.length : Int) := by omega
  have hI := Aside0.mk h
  clear h
  go_enter Tryz.func156, Tryz.ntmps156
  go_wp2
  go_quiet (fail)
  go_wp2_with fail
  refine (dfail_calls _ 28).mono ?_
  rintro en w1 ⟨rfl, rfl⟩
  exact ⟨rfl, NextG.bad_mk (by omega) ((UT.refl _ _ _).drewN _)⟩
theorem or_shl64 (j : Nat) (hj : j ≤ 9) (n x : Int) (h0 : 0 ≤ n) (h1 : n < 128 ^ j) (h2 : 0 ≤ x) (h3 : x < 128) (h9 : j = 9 → x ≤ 1) : bits .or .u64 n (IntKind.u64.wrap (x * 2 ^ (7 * j))) = n + x * 128 ^ j := by
 have e128 : (128 : Int) ^ j = 2 ^ (7 * j) := by rw [Int.pow_mul]; rfl
 rw [e128] at h1 ⊢
 obtain ⟨a, rfl⟩ := Int.eq_ofNat_of_zero_le h0
 obtain ⟨c, rfl⟩ := Int.eq_ofNat_of_zero_le h2
 have hc : ((c * 2 ^ (7 * j) : Nat) : Int) = (c : Int) * 2 ^ (7 * j) := by push_cast; rfl
 have hm : c * 2 ^ (7 * j) < 18446744073709551616 := by
  by_cases h : j = 9
  ·subst h
   have := h9 rfl
   have : c * 2 ^ (7 * 9) ≤ 1 * 2 ^ (7 * 9) := Nat.mul_le_mul (by omega) (Nat.le_refl _)
   omega
  ·have hp : (2 : Nat) ^ (7 * j) ≤ 2 ^ 56 := Nat.pow_le_pow_right (by decide) (by omega)
   have : c * 2 ^ (7 * j) ≤ 127 * 2 ^ 56 := Nat.mul_le_mul (by omega) hp
   omega
 have hw : IntKind.u64.wrap ((c : Int) * 2 ^ (7 * j)) = (c : Int) * 2 ^ (7 * j) := by rw [← hc, wrap_u64]; omega
 rw [hw]
 have ha : a < 2 ^ (7 * j) := by exact_mod_cast h1
 have ha2 : a < 18446744073709551616 := by
  have hp : (2 : Nat) ^ (7 * j) ≤ 2 ^ 63 := Nat.pow_le_pow_right (by decide) (by omega)
  omega
 have hn := (bits_nat .u64 64 (by decide) (fun n h0 h1 => by rw [wrap_u64]; omega) a (c * 2 ^ (7 * j)) (by omega) (by omega)).2
 rw [hc] at hn
 rw [hn]
 have h := Nat.two_pow_add_eq_or_of_lt ha c
 rw [Nat.or_comm, Nat.mul_comm c, ← h, ← hc]
 push_cast
 rw [Int.mul_comm]
 omega
theorem unz_bits {u : Int} (h0 : 0 ≤ u) (h1 : u < 18446744073709551616) : bits .xor .i64 (wrap64 (u / 2)) (wrap64 (-wrap64 (bits .and .u64 u 1))) = unz u := by
 obtain ⟨a, rfl⟩ := Int.eq_ofNat_of_zero_le h0
 have ha := (bits_nat .u64 64 (by decide) (fun n h0 h1 => by rw [wrap_u64]; omega) a 1 (by omega) (by decide)).1
 rw [show ((1 : Nat) : Int) = 1 from rfl] at ha
 rw [ha, Nat.and_one_is_mod]
 have hd : wrap64 ((a : Int) / 2) = (a : Int) / 2 := by unfold wrap64; omega
 rw [hd]
 unfold unz
 by_cases h : a % 2 = 0
 ·rw [if_pos (by omega), h]
  have e1 : (a : Int) / 2 = ((a / 2 : Nat) : Int) := by omega
  have e2 : wrap64 (-wrap64 ((0 : Nat) : Int)) = ((0 : Nat) : Int) := by unfold wrap64; omega
  have hlt : a / 2 < 2 ^ 64 := by omega
  rw [e1, e2]
  show IntKind.i64.wrap (((BitVec.ofInt 64 ((a / 2 : Nat) : Int)) ^^^ (BitVec.ofInt 64 ((0 : Nat) : Int))).toNat : Int) = _
  rw [BitVec.ofInt_natCast, BitVec.ofInt_natCast, BitVec.toNat_xor, BitVec.toNat_ofNat, BitVec.toNat_ofNat, Nat.mod_eq_of_lt hlt, Nat.zero_mod, Nat.xor_zero, IntKind.wrap_i64]
  omega
 ·rw [if_neg (by omega), show a % 2 = 1 by omega]
  have e1 : (a : Int) / 2 = ((a / 2 : Nat) : Int) := by omega
  have e2 : wrap64 (-wrap64 ((1 : Nat) : Int)) = -1 := by unfold wrap64; omega
  have hlt : a / 2 < 2 ^ 64 := by omega
  rw [e1, e2]
  generalize hq : a / 2 = q at *
  have h3 : q ^^^ 18446744073709551615 = 18446744073709551615 - q := by
   have h2 := congrArg BitVec.toNat (BitVec.xor_allOnes (x := BitVec.ofNat 64 q))
   rw [BitVec.toNat_not, BitVec.toNat_xor, BitVec.toNat_allOnes, BitVec.toNat_ofNat, Nat.mod_eq_of_lt hlt] at h2
   exact h2
  show IntKind.i64.wrap (((BitVec.ofInt 64 (q : Int)) ^^^ (BitVec.ofInt 64 (-1 : Int))).toNat : Int) = _
  rw [BitVec.ofInt_natCast, show BitVec.ofInt 64 (-1) = BitVec.ofNat 64 18446744073709551615 by decide, BitVec.toNat_xor, BitVec.toNat_ofNat, BitVec.toNat_ofNat, Nat.mod_eq_of_lt hlt, Nat.mod_eq_of_lt (by decide : 18446744073709551615 < 2 ^ 64), h3, IntKind.wrap_i64]
  omega
theorem grow_lt (j : Nat) (hj : j ≤ 9) (n x : Int) (h0 : 0 ≤ n) (h1 : n < 128 ^ j) (h2 : 0 ≤ x) (h3 : x < 128) (h9 : j = 9 → x ≤ 1) : 0 ≤ n + x * 128 ^ j ∧ n + x * 128 ^ j < 128 ^ (j + 1) ∧ n + x * 128 ^ j < 18446744073709551616 := by
 have hp : (0 : Int) < 128 ^ j := Int.pow_pos (by decide)
 have hx : 0 ≤ x * 128 ^ j := Int.mul_nonneg h2 (Int.le_of_lt hp)
 have hx1 : x * 128 ^ j ≤ 127 * 128 ^ j := Int.mul_le_mul_of_nonneg_right (by omega) (Int.le_of_lt hp)
 rw [Int.pow_succ]
 refine ⟨by omega, by omega, ?_⟩
 by_cases h : j = 9
 ·subst h
  have := h9 rfl
  have hx2 : x * 128 ^ 9 ≤ 1 * 128 ^ 9 := Int.mul_le_mul_of_nonneg_right (by omega) (Int.le_of_lt hp)
  omega
 ·have hq : (128 : Int) ^ j ≤ 128 ^ 8 := by
   have : (128 : Nat) ^ j ≤ 128 ^ 8 := Nat.pow_le_pow_right (by decide) (by omega)
   exact_mod_cast this
  omega
/-- The int while it is read: j groups so far, their number n. -/
structure IntI (b : Nat) (w : World) (g : Nat) (A : Option Addr) (c : Nat) (L : List Int) (i : Nat) (p : Int) (j : Nat) (n : Int) (wr : World) : Prop where
 dec : Dec b wr g A c L (i + j) p
 ut : UT [219] b w wr
 hj : j ≤ 9
 n0 : 0 ≤ n
 n1 : n < 128 ^ j
 eq : pInt 0 (L.drop i) = (pInt j (L.drop (i + j))).map fun v => n + 128 ^ j * v
def IntE (b : Nat) (w : World) (g : Nat) (A : Option Addr) (c : Nat) (L : List Int) (i : Nat) (p : Int) (nv iv : Value) (wr : World) : Prop := ∃ (j : Nat) (n : Int), iv = .int .i64 j ∧ nv = .int .u64 n ∧ IntI b w g A c L i p j n wr
/-- An int. -/
def IntG (b : Nat) (w : World) (g : Nat) (A : Option Addr) (c : Nat) (L : List Int) (i : Nat) (p : Int) (en : Ending) (w' : World) : Prop :=
 (∃ u i', en = .returned (.int .i64 (unz u)) ∧ 0 ≤ u ∧ u < 18446744073709551616 ∧ DecS b w g A c L (pInt 0 (L.drop i)) u w' i' p) ∨ (∃ x, pInt 0 (L.drop i) = .bad x ∧ en = .panicked (thrown x) ∧ UT [219] b w w')
theorem drop_lt {i : Nat} (h : i < L.length) : L.drop i = L[i] :: L.drop (i + 1) := List.drop_eq_getElem_cons h
theorem map_map2 (r : Rd Int) (n y z : Int) (j : Nat) : (r.map fun u => y + 128 * u).map (fun v => n + 128 ^ j * v) = r.map fun v => n + y * 128 ^ j + 128 ^ (j + 1) * v := by
 cases r with
 | bad e => rfl
 | ok v l =>
  simp only [Rd.map]
  congr 1
  rw [Int.mul_add, Int.pow_succ, Int.mul_comm y, ← Int.mul_assoc, Int.add_assoc]
set_option maxHeartbeats 8000000 in
theorem dint_calls (h : Dec b w g A c L i p) : Calls Tryz.prog 158 #[.pointer (some ⟨g, 0, none⟩)] w (IntG b w g A c L i p) := by
 have H := Aside0.mk h
 clear h
 go_enter Tryz.func158, Tryz.ntmps158
 go_wp2
 go_loopw [3, 4] (fun nv iv wr => IntE b w g A c L i p nv iv wr) (fun _ iv _ => 10 - (intOf iv).toNat)
 case atStart => exact ⟨0, 0, rfl, rfl, H.out, UT.refl _ _ _, by omega, by omega, by decide, by cases h : pInt 0 (L.drop i) <;> simp [Rd.map, h]⟩
 case round =>
  obtain ⟨j, n, rfl, rfl, hs⟩ := hrel
  have HS := Aside0.mk hs
  clear hs
  go_wp2_with fail
  refine (dnext_calls HS.out.dec).mono ?_
  intro en w1 hn
  rcases hn with ⟨hlt, rfl, hd, hu⟩ | ⟨hge, rfl, hu⟩
  ·have hr := HS.out.dec.rng L[i + j] (List.getElem_mem hlt)
   have hdr := drop_lt hlt
   have heq := HS.out.eq
   have hj9 := HS.out.hj
   rw [hdr, pInt] at heq
   generalize L[i + j] = x at *
   have HD := Aside0.mk hd
   have HU := Aside0.mk (HS.out.ut.trans hu)
   clear hd hu
   by_cases hbad : (j = 9 ∧ 1 < x) ∨ (0 < j ∧ x = 0)
   ·rw [if_pos hbad] at heq
    have HE := Aside0.mk heq
    clear heq hdr
    by_cases h9 : j = 9
    ·subst h9
     by_cases h1 : x > 1
     ·go_wp2_with fail
      refine (dfail_calls _ 28).mono ?_
      rintro en w2 ⟨rfl, rfl⟩
      exact ⟨rfl, .inr ⟨_, HE.out, rfl, HU.out⟩⟩
     ·have hx : x = 0 := by omega
      subst hx
      go_wp2_with fail
      refine (dfail_calls _ 28).mono ?_
      rintro en w2 ⟨rfl, rfl⟩
      exact ⟨rfl, .inr ⟨_, HE.out, rfl, HU.out⟩⟩
    ·have h9b : ¬ (j : Int) = 9 := by omega
     have h0 : (j : Int) > 0 := by omega
     have hx : x = 0 := by omega
     subst hx
     go_wp2_with fail
     refine (dfail_calls _ 28).mono ?_
     rintro en w2 ⟨rfl, rfl⟩
     exact ⟨rfl, .inr ⟨_, HE.out, rfl, HU.out⟩⟩
   ·rw [if_neg hbad] at heq
    have hx7 := and127 hr.1 hr.2
    have hb := or_shl64 j hj9 n (x % 128) HS.out.n0 HS.out.n1 (by omega) (by omega) (fun h => by have : ¬ (j = 9 ∧ 1 < x) := fun hh => hbad (.inl hh); omega)
    have hgr := grow_lt j hj9 n (x % 128) HS.out.n0 HS.out.n1 (by omega) (by omega) (fun h => by have : ¬ (j = 9 ∧ 1 < x) := fun hh => hbad (.inl hh); omega)
    by_cases hlow : x < 128
    ·rw [if_pos hlow] at heq
     have HE := Aside0.mk heq
     clear heq hdr
     by_cases h9 : j = 9
     ·subst h9
      have h1 : ¬ x > 1 := fun hh => hbad (.inl ⟨rfl, hh⟩)
      have hx0 : ¬ x = 0 := fun hh => hbad (.inr ⟨by decide, hh⟩)
      have hcb : (decide (1 < x) || x == 0) = false := by simp; omega
      have HG := Aside0.mk hgr
      clear hgr
      go_wp2
      rw [show x % 128 * 9223372036854775808 = IntKind.u64.wrap (x % 128 * 2 ^ (7 * 9)) by rw [wrap_u64]; omega, hb, unz_bits HG.out.1 HG.out.2.2]
      go_ret
      exact .inl ⟨_, i + 9 + 1, rfl, HG.out.1, HG.out.2.2, ⟨HD.out, HU.out, by rw [HE.out, show x % 128 = x by omega, Int.mul_comm x]; rfl⟩⟩
     ·have h9b : ¬ (j : Int) = 9 := by omega
      have HG := Aside0.mk hgr
      clear hgr
      by_cases hj0 : 0 < j
      ·have hj0i : (j : Int) > 0 := by omega
       have hx0 : ¬ x = 0 := fun hh => hbad (.inr ⟨hj0, hh⟩)
       have hx0b : (x == 0) = false := by simpa using hx0
       go_wp2
       rw [unz_bits HG.out.1 HG.out.2.2]
       go_ret
       exact .inl ⟨_, i + j + 1, rfl, HG.out.1, HG.out.2.2, ⟨HD.out, HU.out, by rw [HE.out, show x % 128 = x by omega, Int.mul_comm x]; rfl⟩⟩
      ·have hj0i : ¬ (j : Int) > 0 := by omega
       go_wp2
       rw [unz_bits HG.out.1 HG.out.2.2]
       go_ret
       exact .inl ⟨_, i + j + 1, rfl, HG.out.1, HG.out.2.2, ⟨HD.out, HU.out, by rw [HE.out, show x % 128 = x by omega, Int.mul_comm x]; rfl⟩⟩
    ·rw [if_neg hlow] at heq
     have hj8 : ¬ j = 9 := fun h => hbad (.inl ⟨h, by omega⟩)
     have h9b : ¬ (j : Int) = 9 := by omega
     have HE := Aside0.mk heq
     have HG := Aside0.mk hgr
     clear heq hdr hgr
     by_cases hj0 : 0 < j
     ·have hj0i : (j : Int) > 0 := by omega
      have hx0 : ¬ x = 0 := fun hh => hbad (.inr ⟨hj0, hh⟩)
      have hx0b : (x == 0) = false := by simpa using hx0
      go_wp2
      go_roundw
      case rel => exact ⟨j + 1, _, by simp, rfl, HD.out, HU.out, by omega, HG.out.1, HG.out.2.1, by rw [HE.out]; exact map_map2 _ _ _ 0 _⟩
      case measure => simp [intOf]; omega
     ·have hj0i : ¬ (j : Int) > 0 := by omega
      go_wp2
      go_roundw
      case rel => exact ⟨j + 1, _, by simp, rfl, HD.out, HU.out, by omega, HG.out.1, HG.out.2.1, by rw [HE.out]; exact map_map2 _ _ _ 0 _⟩
      case measure => simp [intOf]; omega
  ·have heq := HS.out.eq
   rw [List.drop_eq_nil_of_le hge, pInt] at heq
   have HE := Aside0.mk heq
   have HU := Aside0.mk (HS.out.ut.trans hu)
   clear heq hu
   exact ⟨rfl, .inr ⟨_, HE.out, rfl, HU.out⟩⟩
end
end Go.Proofs.YthmkioodkldgbaaGreat.DK
/- value.decoder.text; conditions: those in each theorem. -/
namespace Go.Proofs.YthmkioodkldgbaaGreat.DK
open Go.Proofs.YthmkioodkldgbaaGreat.PD
open Go.RowKit Go.Proofs.YthmkioodkldgbaaGreatW.PrintWords Go.Proofs.YthmkioodkldgbaaGreatW.PrintLast Go.Proofs.YthmkioodkldgbaaGreatW.PrintMore
set_option linter.unusedVariables false
set_option linter.unusedSimpArgs false
set_option maxRecDepth 100000
section
variable {b : Nat} {w w1 : World} {g : Nat} {A : Option Addr} {c : Nat} {L : List Int} {i : Nat} {p : Int}
/-- A text. -/
def TextG (b : Nat) (w : World) (g : Nat) (A : Option Addr) (c : Nat) (L : List Int) (i : Nat) (p : Int) (en : Ending) (w' : World) : Prop :=
 (∃ s i', en = .returned (.string s) ∧ DecS b w g A c L (pText (L.drop i)) s w' i' p) ∨ (∃ x, pText (L.drop i) = .bad x ∧ en = .panicked (thrown x) ∧ UT [219] b w w')
theorem TextG.bad_mk {w' : World} {x : Int} (h : pText (L.drop i) = .bad x) (hu : UT [219] b w w') : TextG b w g A c L i p (.panicked (thrown x)) w' := .inr ⟨x, h, rfl, hu⟩
theorem TextG.ok_mk {w' : World} {s : ByteArray} {i' : Nat} (h : pText (L.drop i) = .ok s (L.drop i')) (hd : Dec b w' g A c L i' p) (hu : UT [219] b w w') : TextG b w g A c L i p (.returned (.string s)) w' := .inl ⟨s, i', rfl, hd, hu, h⟩
theorem take_drop_mid (L : List Int) (a m : Nat) : (L.take (a + m)).drop a = (L.drop a).take m := by rw [List.drop_take]; simp
set_option maxHeartbeats 8000000 in
theorem dtext_calls (h : Dec b w g A c L i p) : Calls Tryz.prog 159 #[.pointer (some ⟨g, 0, none⟩)] w (TextG b w g A c L i p) := by
 have H := Aside0.mk h
 clear h
 go_enter Tryz.func159, Tryz.ntmps159
 go_wp2_with fail
 refine (dnext_calls H.out).mono ?_
 intro en w1 hn
 rcases hn with ⟨hlt, rfl, hd, hu⟩ | ⟨hge, rfl, hu⟩
 ·have hr := H.out.rng L[i] (List.getElem_mem hlt)
  have hdr := drop_lt hlt
  have hpt := congrArg pText hdr
  rw [pText] at hpt
  generalize L[i] = x at *
  obtain ⟨m, rfl⟩ := Int.eq_ofNat_of_zero_le hr.1
  rw [Int.toNat_natCast] at hpt
  have HD := Aside0.mk hd
  have HU := Aside0.mk hu
  clear hd hu hdr
  by_cases h24 : 24 < (m : Int)
  ·rw [if_pos h24] at hpt
   have HP := Aside0.mk hpt
   clear hpt
   go_wp2_with fail
   refine (dfail_calls _ 21).mono ?_
   rintro en w2 ⟨rfl, rfl⟩
   exact ⟨rfl, TextG.bad_mk HP.out HU.out⟩
  ·rw [if_neg h24] at hpt
   have hle := HD.out.le
   have hlen : L.length ≤ 9223372036854775807 := HD.out.inp.C.2.1
   have m0 := blk_cell HD.out.box 0
   have m1 := blk_cell HD.out.box 1
   simp only [List.getElem?_toArray, List.getElem?_cons_succ, List.getElem?_cons_zero] at m0 m1
   rw [List.length_drop] at hpt
   by_cases hsh : L.length - (i + 1) < m
   ·rw [if_pos hsh] at hpt
    have HP := Aside0.mk hpt
    clear hpt
    have hshi : (L.length : Int) - ((i : Int) + 1) < m := by omega
    push_cast at m1
    go_wp2
    go_quiet (fail)
    go_wp2_with fail
    refine (dfail_calls _ 28).mono ?_
    rintro en w2 ⟨rfl, rfl⟩
    exact ⟨rfl, TextG.bad_mk HP.out (HU.out.drewN _)⟩
   ·rw [if_neg hsh] at hpt
    have HP := Aside0.mk hpt
    clear hpt
    have hshi : ¬ (L.length : Int) - ((i : Int) + 1) < m := by omega
    have q1 := blk_frozen HD.out.box 1
    have hblk := blk_lt HD.out.box
    have hmid := print_mid_of (P := Tryz.prog) (Value.int .u8) (0 : Int) 49 5 .i64 .i64 Tryz.underlying49 (info_parts info5).choose_spec.1 (info_parts info5).choose_spec.2.2.1 A c L ((i : Int) + 1) ((i : Int) + 1 + m) (by omega) (by omega) (by omega) HD.out.cap
    obtain ⟨A', hcut, hrd, _⟩ := hmid
    have et1 : ((i : Int) + 1).toNat = i + 1 := by omega
    have et2 : ((i : Int) + 1 + m).toNat = i + 1 + m := by omega
    have et3 : (List.take m (List.drop (i + 1) L)).length = m := by rw [List.length_take, List.length_drop]; omega
    rw [et1, et2, take_drop_mid, et3] at hcut hrd
    push_cast at m1
    go_wp2
    go_quiet (fail)
    go_wp2
    have hD := (HD.out.below (w1 := w1.drewN nq) (pw_below_drewN (Below.refl _ _) nq)).setAt (i + 1 + m) (by omega)
    have hU := (HU.out.drewN nq).trans ((HD.out.below (w1 := w1.drewN nq) (pw_below_drewN (Below.refl _ _) nq)).set_ut 1 (.int .i64 ((i + 1 + m : Nat) : Int)))
    push_cast at hD hU
    generalize (w1.drewN nq).setCell ⟨g, 1, none⟩ (.int .i64 ((i : Int) + 1 + m)) = W at *
    have n0 := blk_cell hD.box 0
    have n1 := blk_cell hD.box 1
    simp only [List.getElem?_toArray, List.getElem?_cons_succ, List.getElem?_cons_zero] at n0 n1
    have hcv : ∀ k, (convert 49 9 (.slice A' m (c - (i + 1)))).run Tryz.prog (W.drewN k) = .ok (.string (strOfNums (List.take m (List.drop (i + 1) L)))) (W.drewN k) := fun k => string_of_reads (P := Tryz.prog) (c := c - (i + 1)) Tryz.underlying49 Tryz.underlying5 Tryz.underlying9 (hrd (W.drewN k) (Kd.reads_of_C (d := (0 : Int)) (hD.below (w1 := W.drewN k) (pw_below_drewN (Below.refl _ _) k)).inp.C))
    have hwr : IntKind.i64.wrap ((i : Int) + 1) = (i : Int) + 1 := by rw [IntKind.wrap_i64]; omega
    have HD2 := Aside0.mk hD
    have HU2 := Aside0.mk hU
    clear hD hU m0 m1 q1 hrd
    go_quiet (fail)
    go_wp2
    go_ret
    exact TextG.ok_mk (i' := i + 1 + m) (by rw [HP.out, List.drop_drop]) (HD2.out.below (pw_below_drewN (Below.refl _ _) nq)) (HU2.out.drewN nq)
 ·have hpt : pText (L.drop i) = .bad 28 := by rw [List.drop_eq_nil_of_le hge]; rfl
  exact ⟨rfl, TextG.bad_mk hpt hu⟩
end
end Go.Proofs.YthmkioodkldgbaaGreat.DK
