/- value.Check: the program's walk through a value's parts; conditions: those in each theorem. -/
import Derived.Test.YthmkioodkldgbaaGreatQcM04
namespace Go.Proofs.YthmkioodkldgbaaGreat.DK
open Go.Proofs.YthmkioodkldgbaaGreat.PD
open Go.RowKit Go.Proofs.YthmkioodkldgbaaGreatW.PrintWords Go.Proofs.YthmkioodkldgbaaGreatW.PrintLast Go.Proofs.YthmkioodkldgbaaGreatW.PrintMore
set_option linter.unusedVariables false
set_option linter.unusedSimpArgs false
/-- Is a field set that its kind doesn't have? -/
def other (k n : Int) (t : ByteArray) (l : List S25) : Prop := (n ≠ 0 ∧ k ≠ 1) ∨ (t.toList ≠ [] ∧ k ≠ 2) ∨ (0 < l.length ∧ k ≠ 3)
instance (k n : Int) (t : ByteArray) (l : List S25) : Decidable (other k n t l) := by unfold other; infer_instance
mutual
/-- How many parts were seen behind it, and the first fault. -/
def chk : S25 → Int → Int → Int × Int
 | ⟨k, n, t, l⟩, d, p =>
  if 12 < p + 1 then (p + 1, 22)
  else if k < 0 ∨ 3 < k then (p + 1, 20)
  else if other k n t l then (p + 1, 20)
  else if k = 3 ∧ 3 ≤ d then (p + 1, 23)
  else if 24 < t.size then (p + 1, 21)
  else if 6 < l.length then (p + 1, 22)
  else chkL l (d + 1) (p + 1)
def chkL : List S25 → Int → Int → Int × Int
 | [], _, p => (p, 0)
 | x :: l, d, p => if (chk x d p).2 ≠ 0 then chk x d p else chkL l d (chk x d p).1
end
theorem chk_eq (v : S25) (d p : Int) : chk v d p = if 12 < p + 1 then (p + 1, 22)
  else if v.f0 < 0 ∨ 3 < v.f0 then (p + 1, 20)
  else if other v.f0 v.f1 v.f2 v.f3 then (p + 1, 20)
  else if v.f0 = 3 ∧ 3 ≤ d then (p + 1, 23)
  else if 24 < v.f2.size then (p + 1, 21)
  else if 6 < v.f3.length then (p + 1, 22)
  else chkL v.f3 (d + 1) (p + 1) := by
 obtain ⟨k, n, t, l⟩ := v
 rw [chk]
theorem chkL_nil (d p : Int) : chkL [] d p = (p, 0) := by rw [chkL]
theorem chkL_cons (x : S25) (l : List S25) (d p : Int) : chkL (x :: l) d p = if (chk x d p).2 ≠ 0 then chk x d p else chkL l d (chk x d p).1 := by rw [chkL]
theorem size_mem {x : S25} {v : S25} (h : x ∈ v.f3) : SizeOf.sizeOf x < SizeOf.sizeOf v := by
 obtain ⟨k, n, t, l⟩ := v
 have h : x ∈ l := h
 have h1 := List.sizeOf_lt_of_mem h
 have h2 : SizeOf.sizeOf (S25.mk k n t l) = 1 + SizeOf.sizeOf k + SizeOf.sizeOf n + SizeOf.sizeOf t + SizeOf.sizeOf l := by simp
 omega
mutual
theorem chk_ge : ∀ (v : S25) (d p : Int), p < (chk v d p).1 ∧ ((chk v d p).2 = 0 → (chk v d p).1 ≤ 12)
 | ⟨k, n, t, l⟩, d, p => by
  rw [chk_eq]
  dsimp only
  split
  ·exact ⟨by dsimp only; omega, fun h => by simp at h⟩
  split
  ·exact ⟨by dsimp only; omega, fun h => by simp at h⟩
  split
  ·exact ⟨by dsimp only; omega, fun h => by simp at h⟩
  split
  ·exact ⟨by dsimp only; omega, fun h => by simp at h⟩
  split
  ·exact ⟨by dsimp only; omega, fun h => by simp at h⟩
  split
  ·exact ⟨by dsimp only; omega, fun h => by simp at h⟩
  ·have h := chkL_ge l (d + 1) (p + 1)
   exact ⟨by omega, fun hz => h.2 (by omega) hz⟩
theorem chkL_ge : ∀ (l : List S25) (d p : Int), p ≤ (chkL l d p).1 ∧ (p ≤ 12 → (chkL l d p).2 = 0 → (chkL l d p).1 ≤ 12)
 | [], d, p => by rw [chkL_nil]; exact ⟨Int.le_refl _, fun h _ => h⟩
 | x :: l, d, p => by
  have h1 := chk_ge x d p
  rw [chkL_cons]
  split
  ·exact ⟨by omega, fun _ hz => absurd hz (by assumption)⟩
  ·rename_i hz
   have h2 := chkL_ge l d (chk x d p).1
   exact ⟨by omega, fun _ hz2 => h2.2 (h1.2 (by omega)) hz2⟩
end
/-- A list of values, read in the world w0; nothing that was there has changed since. -/
structure ValIn (w0 w : World) (l : List S25) (A : Option Addr) (c : Nat) : Prop where
 le : l.length ≤ c
 r : k25.C w0 A l.length l
 b : Below w0.heap.size w0 w
theorem ValIn.now {w : World} {l : List S25} {A : Option Addr} {c : Nat} (h : k25.C w A l.length l) (hc : l.length ≤ c) : ValIn w w l A c := ⟨hc, h, Below.refl _ _⟩
theorem ValIn.C {w0 w : World} {l : List S25} {A : Option Addr} {c : Nat} (h : ValIn w0 w l A c) : k25.C w A l.length l := Kd.C_below h.r h.b
theorem ValIn.below {w0 w w' : World} {l : List S25} {A : Option Addr} {c : Nat} (h : ValIn w0 w l A c) (hb : Below w0.heap.size w w') : ValIn w0 w' l A c := ⟨h.le, h.r, h.b.trans hb⟩
theorem rd25_nat (l : List S25) (i : Nat) (h : i < l.length) : rd_T25 l (i : Int) = l[i] := by
 unfold rd_T25
 rw [Int.toNat_natCast, List.getD_eq_getElem?_getD, List.getElem?_eq_getElem h]
 rfl
theorem ValIn.at {w0 w : World} {l : List S25} {A : Option Addr} {c : Nat} (h : ValIn w0 w l A c) {i : Nat} (hi : i < l.length) : ∃ ad A3 c3, A = some ad ∧
  (∀ w', Below w0.heap.size w w' → w'.cell? (ad.add (i * 4)) = some (.int .i64 l[i].f0) ∧ w'.cell? ⟨(ad.add (i * 4)).block, (ad.add (i * 4)).off + 1, none⟩ = some (.int .i64 l[i].f1) ∧ w'.cell? ⟨(ad.add (i * 4)).block, (ad.add (i * 4)).off + 2, none⟩ = some (.string l[i].f2) ∧ w'.cell? ⟨(ad.add (i * 4)).block, (ad.add (i * 4)).off + 3, none⟩ = some (.slice A3 l[i].f3.length c3)) ∧ ValIn w0 w l[i].f3 A3 c3 := by
 have h1 := at_T25 h.r (i : Int) (by omega) (by omega)
 rw [rd25_nat l i hi] at h1
 obtain ⟨ad, A3, c3, e, d0, d1, d2, d3, l5, g5⟩ := h1
 simp only [Int.toNat_natCast] at d0 d1 d2 d3
 exact ⟨ad, A3, c3, e, fun w' hb => ⟨cell_old (h.b.trans hb) d0, cell_old (h.b.trans hb) d1, cell_old (h.b.trans hb) d2, cell_old (h.b.trans hb) d3⟩, l5, g5, h.b⟩
def PartPost (w : World) (g : Nat) (r : Int × Int) (e : Ending) (w' : World) : Prop := e = .returned (.int .i64 r.2) ∧ Upd (fun k => k = g) w w' ∧ w'.heap[g]? = some (.cells #[.int .i64 r.1] 195 (0, 0))
theorem toList_size {t : ByteArray} (h : t.toList = []) : t.size = 0 := by
 rw [ByteArray.toList_eq] at h
 have : t.data.size = 0 := by rw [← Array.length_toList, h]; rfl
 exact this
structure PartI (w wr : World) (g : Nat) (l : List S25) (d p : Int) (i : Nat) (q : Int) : Prop where
 le : i ≤ l.length
 hp : wr.heap[g]? = some (.cells #[.int .i64 q] 195 (0, 0))
 up : Upd (fun k => k = g) w wr
 eq : chkL (l.drop i) d q = chkL l d p
 q0 : 0 ≤ q
 q1 : q ≤ 12
def PartE (w : World) (g : Nat) (l : List S25) (d p : Int) (iv : Value) (wr : World) : Prop := ∃ (i : Nat) (q : Int), iv = .int .i64 i ∧ PartI w wr g l d p i q
set_option maxHeartbeats 16000000 in
set_option maxRecDepth 100000 in
theorem part_calls (n : Nat) : ∀ (v : S25) (hn : SizeOf.sizeOf v ≤ n) (w0 w : World) (g : Nat) (A : Option Addr) (c : Nat) (p d : Int) (hg : w.heap[g]? = some (.cells #[.int .i64 p] 195 (0, 0))) (hB : w0.heap.size ≤ g) (hv : ValIn w0 w v.f3 A c) (hp0 : 0 ≤ p) (hp1 : p ≤ 12) (hd0 : 0 ≤ d) (hd3 : d ≤ 3),
  Calls Tryz.prog 128 #[.pointer (some ⟨g, 0, none⟩), .agg #[.int .i64 v.f0, .int .i64 v.f1, .string v.f2, .slice A v.f3.length c], .int .i64 d] w (PartPost w g (chk v d p)) := by
 induction n with
 | zero =>
  intro v hn
  obtain ⟨k, m, t, l⟩ := v
  simp at hn
 | succ n ih =>
  intro v hn w0 w g A c p d hg hB hv hp0 hp1 hd0 hd3
  have HIH := Aside0.mk (fun (x : S25) (hx : x ∈ v.f3) => ih x (by have := size_mem hx; omega))
  have HV := Aside0.mk hv
  have HG := Aside0.mk hg
  rw [chk_eq]
  obtain ⟨k, m, t, l⟩ := v
  dsimp only at HIH HV hv ⊢
  have hlen : l.length ≤ 9223372036854775807 := hv.r.2.1
  have hgl := blk_lt hg
  have g0 := blk_cell hg 0
  have fg0 := blk_frozen hg 0
  simp only [List.getElem?_toArray, List.getElem?_cons_succ, List.getElem?_cons_zero] at g0
  have hw1 := w64 (show -9223372036854775808 ≤ p + 1 by omega) (show p + 1 ≤ 9223372036854775807 by omega)
  have hw2 := w64 (show -9223372036854775808 ≤ d + 1 by omega) (show d + 1 ≤ 9223372036854775807 by omega)
  have HLC := Aside0.mk hv.le
  clear hg hv hn ih
  unfold PartPost
  by_cases c1 : 12 < p + 1
  ·rw [if_pos c1]
   go_enter Tryz.func128, Tryz.ntmps128
   go_wp2
   all_goals go_ret
   all_goals exact ⟨rfl, ((Upd.refl _ w).set1 0 _).alloc _, blk_alloc (blk_set HG.out) _⟩
  rw [if_neg c1]
  by_cases hk1 : k < 0
  ·rw [if_pos (.inl hk1)]
   go_enter Tryz.func128, Tryz.ntmps128
   go_wp2
   all_goals go_ret
   all_goals exact ⟨rfl, ((Upd.refl _ w).set1 0 _).alloc _, blk_alloc (blk_set HG.out) _⟩
  by_cases hk2 : 3 < k
  ·rw [if_pos (.inr hk2)]
   go_enter Tryz.func128, Tryz.ntmps128
   go_wp2
   all_goals go_ret
   all_goals exact ⟨rfl, ((Upd.refl _ w).set1 0 _).alloc _, blk_alloc (blk_set HG.out) _⟩
  rw [if_neg (fun h => h.elim hk1 hk2)]
  have hk : k = 0 ∨ k = 1 ∨ k = 2 ∨ k = 3 := by omega
  clear hk1 hk2
  rcases hk with rfl | rfl | rfl | rfl
  ·skip
   by_cases hm : m = 0
   rotate_left
   ·rw [if_pos (.inl ⟨hm, by decide⟩)]
    go_enter Tryz.func128, Tryz.ntmps128
    go_wp2
    all_goals go_ret
    all_goals exact ⟨rfl, ((Upd.refl _ w).set1 0 _).alloc _, blk_alloc (blk_set HG.out) _⟩
   subst hm
   by_cases ht : t.toList = []
   rotate_left
   ·rw [if_pos (.inr (.inl ⟨ht, by decide⟩))]
    have hte : (!t.toList.isEmpty) = true := by simpa using ht
    clear ht
    go_enter Tryz.func128, Tryz.ntmps128
    go_wp2
    all_goals go_ret
    all_goals exact ⟨rfl, ((Upd.refl _ w).set1 0 _).alloc _, blk_alloc (blk_set HG.out) _⟩
   have hts := toList_size ht
   have hte : (!t.toList.isEmpty) = false := by simpa using ht
   have HT := Aside0.mk ht
   clear ht
   by_cases hl : 0 < l.length
   ·rw [if_pos (.inr (.inr ⟨hl, by decide⟩))]
    go_enter Tryz.func128, Tryz.ntmps128
    go_wp2
    all_goals go_ret
    all_goals exact ⟨rfl, ((Upd.refl _ w).set1 0 _).alloc _, blk_alloc (blk_set HG.out) _⟩
   rw [if_neg (fun h => h.elim (fun h => h.1 rfl) (fun h => h.elim (fun h => h.1 HT.out) (fun h => hl h.1)))]
   rw [if_neg (fun h => absurd h.1 (by decide))]
   rw [if_neg (show ¬ 24 < t.size by omega)]
   rw [if_neg (show ¬ 6 < l.length by omega)]
   have hl0 : l = [] := List.length_eq_zero_iff.mp (by omega)
   have HL0 := Aside0.mk hl0
   have hln : l.length = 0 := by omega
   clear hl0
   go_enter Tryz.func128, Tryz.ntmps128
   go_wp2
   go_loopw [79] (fun iv wr => PartE w g l (d + 1) (p + 1) iv wr) (fun iv _ => l.length - (intOf iv).toNat)
   case atStart => exact ⟨0, p + 1, rfl, Nat.zero_le _, blk_alloc (blk_set HG.out) _, ((Upd.refl _ w).set1 0 _).alloc _, by rw [List.drop_zero], by omega, by omega⟩
   case round =>
    obtain ⟨i, q, rfl, hle, hq, hu, heq, hq0, hq1⟩ := hrel
    by_cases hlt : i < l.length
    ·omega
    ·have hi : i = l.length := by omega
     rw [hi, List.drop_length, chkL_nil] at heq
     have HEQ := Aside0.mk heq
     have HQ := Aside0.mk hq
     have HU := Aside0.mk hu
     clear heq hq hu
     have hir : ¬ (i : Int) < (l.length : Int) := by omega
     go_wp2
     go_ret
     rw [← HEQ.out]
     exact ⟨rfl, HU.out, HQ.out⟩
  ·skip
   by_cases ht : t.toList = []
   rotate_left
   ·rw [if_pos (.inr (.inl ⟨ht, by decide⟩))]
    have hte : (!t.toList.isEmpty) = true := by simpa using ht
    clear ht
    go_enter Tryz.func128, Tryz.ntmps128
    go_wp2
    all_goals go_ret
    all_goals exact ⟨rfl, ((Upd.refl _ w).set1 0 _).alloc _, blk_alloc (blk_set HG.out) _⟩
   have hts := toList_size ht
   have hte : (!t.toList.isEmpty) = false := by simpa using ht
   have HT := Aside0.mk ht
   clear ht
   by_cases hl : 0 < l.length
   ·rw [if_pos (.inr (.inr ⟨hl, by decide⟩))]
    go_enter Tryz.func128, Tryz.ntmps128
    go_wp2
    all_goals go_ret
    all_goals exact ⟨rfl, ((Upd.refl _ w).set1 0 _).alloc _, blk_alloc (blk_set HG.out) _⟩
   rw [if_neg (fun h => h.elim (fun h => h.2 rfl) (fun h => h.elim (fun h => h.1 HT.out) (fun h => hl h.1)))]
   rw [if_neg (fun h => absurd h.1 (by decide))]
   rw [if_neg (show ¬ 24 < t.size by omega)]
   rw [if_neg (show ¬ 6 < l.length by omega)]
   by_cases hm : m = 0
   ·skip
    have hl0 : l = [] := List.length_eq_zero_iff.mp (by omega)
    have HL0 := Aside0.mk hl0
    have hln : l.length = 0 := by omega
    clear hl0
    go_enter Tryz.func128, Tryz.ntmps128
    go_wp2
    go_loopw [79] (fun iv wr => PartE w g l (d + 1) (p + 1) iv wr) (fun iv _ => l.length - (intOf iv).toNat)
    case atStart => exact ⟨0, p + 1, rfl, Nat.zero_le _, blk_alloc (blk_set HG.out) _, ((Upd.refl _ w).set1 0 _).alloc _, by rw [List.drop_zero], by omega, by omega⟩
    case round =>
     obtain ⟨i, q, rfl, hle, hq, hu, heq, hq0, hq1⟩ := hrel
     by_cases hlt : i < l.length
     ·omega
     ·have hi : i = l.length := by omega
      rw [hi, List.drop_length, chkL_nil] at heq
      have HEQ := Aside0.mk heq
      have HQ := Aside0.mk hq
      have HU := Aside0.mk hu
      clear heq hq hu
      have hir : ¬ (i : Int) < (l.length : Int) := by omega
      go_wp2
      go_ret
      rw [← HEQ.out]
      exact ⟨rfl, HU.out, HQ.out⟩
   ·skip
    have hl0 : l = [] := List.length_eq_zero_iff.mp (by omega)
    have HL0 := Aside0.mk hl0
    have hln : l.length = 0 := by omega
    clear hl0
    go_enter Tryz.func128, Tryz.ntmps128
    go_wp2
    go_loopw [79] (fun iv wr => PartE w g l (d + 1) (p + 1) iv wr) (fun iv _ => l.length - (intOf iv).toNat)
    case atStart => exact ⟨0, p + 1, rfl, Nat.zero_le _, blk_alloc (blk_set HG.out) _, ((Upd.refl _ w).set1 0 _).alloc _, by rw [List.drop_zero], by omega, by omega⟩
    case round =>
     obtain ⟨i, q, rfl, hle, hq, hu, heq, hq0, hq1⟩ := hrel
     by_cases hlt : i < l.length
     ·omega
     ·have hi : i = l.length := by omega
      rw [hi, List.drop_length, chkL_nil] at heq
      have HEQ := Aside0.mk heq
      have HQ := Aside0.mk hq
      have HU := Aside0.mk hu
      clear heq hq hu
      have hir : ¬ (i : Int) < (l.length : Int) := by omega
      go_wp2
      go_ret
      rw [← HEQ.out]
      exact ⟨rfl, HU.out, HQ.out⟩
  ·skip
   by_cases hm : m = 0
   rotate_left
   ·rw [if_pos (.inl ⟨hm, by decide⟩)]
    go_enter Tryz.func128, Tryz.ntmps128
    go_wp2
    all_goals go_ret
    all_goals exact ⟨rfl, ((Upd.refl _ w).set1 0 _).alloc _, blk_alloc (blk_set HG.out) _⟩
   subst hm
   by_cases hl : 0 < l.length
   ·rw [if_pos (.inr (.inr ⟨hl, by decide⟩))]
    go_enter Tryz.func128, Tryz.ntmps128
    go_wp2
    all_goals go_ret
    all_goals exact ⟨rfl, ((Upd.refl _ w).set1 0 _).alloc _, blk_alloc (blk_set HG.out) _⟩
   rw [if_neg (fun h => h.elim (fun h => h.1 rfl) (fun h => h.elim (fun h => h.2 rfl) (fun h => hl h.1)))]
   rw [if_neg (fun h => absurd h.1 (by decide))]
   by_cases h24 : 24 < t.size
   ·rw [if_pos h24]
    go_enter Tryz.func128, Tryz.ntmps128
    go_wp2
    all_goals go_ret
    all_goals exact ⟨rfl, ((Upd.refl _ w).set1 0 _).alloc _, blk_alloc (blk_set HG.out) _⟩
   rw [if_neg h24]
   rw [if_neg (show ¬ 6 < l.length by omega)]
   cases hte : (!t.toList.isEmpty)
   ·skip
    have hl0 : l = [] := List.length_eq_zero_iff.mp (by omega)
    have HL0 := Aside0.mk hl0
    have hln : l.length = 0 := by omega
    clear hl0
    go_enter Tryz.func128, Tryz.ntmps128
    go_wp2
    go_loopw [79] (fun iv wr => PartE w g l (d + 1) (p + 1) iv wr) (fun iv _ => l.length - (intOf iv).toNat)
    case atStart => exact ⟨0, p + 1, rfl, Nat.zero_le _, blk_alloc (blk_set HG.out) _, ((Upd.refl _ w).set1 0 _).alloc _, by rw [List.drop_zero], by omega, by omega⟩
    case round =>
     obtain ⟨i, q, rfl, hle, hq, hu, heq, hq0, hq1⟩ := hrel
     by_cases hlt : i < l.length
     ·omega
     ·have hi : i = l.length := by omega
      rw [hi, List.drop_length, chkL_nil] at heq
      have HEQ := Aside0.mk heq
      have HQ := Aside0.mk hq
      have HU := Aside0.mk hu
      clear heq hq hu
      have hir : ¬ (i : Int) < (l.length : Int) := by omega
      go_wp2
      go_ret
      rw [← HEQ.out]
      exact ⟨rfl, HU.out, HQ.out⟩
   ·skip
    have hl0 : l = [] := List.length_eq_zero_iff.mp (by omega)
    have HL0 := Aside0.mk hl0
    have hln : l.length = 0 := by omega
    clear hl0
    go_enter Tryz.func128, Tryz.ntmps128
    go_wp2
    go_loopw [79] (fun iv wr => PartE w g l (d + 1) (p + 1) iv wr) (fun iv _ => l.length - (intOf iv).toNat)
    case atStart => exact ⟨0, p + 1, rfl, Nat.zero_le _, blk_alloc (blk_set HG.out) _, ((Upd.refl _ w).set1 0 _).alloc _, by rw [List.drop_zero], by omega, by omega⟩
    case round =>
     obtain ⟨i, q, rfl, hle, hq, hu, heq, hq0, hq1⟩ := hrel
     by_cases hlt : i < l.length
     ·omega
     ·have hi : i = l.length := by omega
      rw [hi, List.drop_length, chkL_nil] at heq
      have HEQ := Aside0.mk heq
      have HQ := Aside0.mk hq
      have HU := Aside0.mk hu
      clear heq hq hu
      have hir : ¬ (i : Int) < (l.length : Int) := by omega
      go_wp2
      go_ret
      rw [← HEQ.out]
      exact ⟨rfl, HU.out, HQ.out⟩
  ·skip
   by_cases hm : m = 0
   rotate_left
   ·rw [if_pos (.inl ⟨hm, by decide⟩)]
    go_enter Tryz.func128, Tryz.ntmps128
    go_wp2
    all_goals go_ret
    all_goals exact ⟨rfl, ((Upd.refl _ w).set1 0 _).alloc _, blk_alloc (blk_set HG.out) _⟩
   subst hm
   by_cases ht : t.toList = []
   rotate_left
   ·rw [if_pos (.inr (.inl ⟨ht, by decide⟩))]
    have hte : (!t.toList.isEmpty) = true := by simpa using ht
    clear ht
    go_enter Tryz.func128, Tryz.ntmps128
    go_wp2
    all_goals go_ret
    all_goals exact ⟨rfl, ((Upd.refl _ w).set1 0 _).alloc _, blk_alloc (blk_set HG.out) _⟩
   have hts := toList_size ht
   have hte : (!t.toList.isEmpty) = false := by simpa using ht
   have HT := Aside0.mk ht
   clear ht
   rw [if_neg (fun h => h.elim (fun h => h.1 rfl) (fun h => h.elim (fun h => h.1 HT.out) (fun h => h.2 rfl)))]
   by_cases hd : 3 ≤ d
   ·rw [if_pos ⟨rfl, hd⟩]
    go_enter Tryz.func128, Tryz.ntmps128
    go_wp2
    all_goals go_ret
    all_goals exact ⟨rfl, ((Upd.refl _ w).set1 0 _).alloc _, blk_alloc (blk_set HG.out) _⟩
   rw [if_neg (fun h => hd h.2)]
   rw [if_neg (show ¬ 24 < t.size by omega)]
   by_cases h6 : 6 < l.length
   ·rw [if_pos h6]
    go_enter Tryz.func128, Tryz.ntmps128
    go_wp2
    all_goals go_ret
    all_goals exact ⟨rfl, ((Upd.refl _ w).set1 0 _).alloc _, blk_alloc (blk_set HG.out) _⟩
   rw [if_neg h6]
   by_cases hl : 0 < l.length
   ·skip
    go_enter Tryz.func128, Tryz.ntmps128
    go_wp2
    go_loopw [79] (fun iv wr => PartE w g l (d + 1) (p + 1) iv wr) (fun iv _ => l.length - (intOf iv).toNat)
    case atStart => exact ⟨0, p + 1, rfl, Nat.zero_le _, blk_alloc (blk_set HG.out) _, ((Upd.refl _ w).set1 0 _).alloc _, by rw [List.drop_zero], by omega, by omega⟩
    case round =>
     obtain ⟨i, q, rfl, hle, hq, hu, heq, hq0, hq1⟩ := hrel
     by_cases hlt : i < l.length
     ·obtain ⟨ad, A3, c3, rfl, hcell, hvi⟩ := HV.out.at hlt
      have hdrop : l.drop i = l[i] :: l.drop (i + 1) := List.drop_eq_getElem_cons hlt
      have HX := Aside0.mk (List.getElem_mem hlt)
      have hub : Below w0.heap.size w wr := hu.below HV.out.b.size (fun q e => by omega)
      obtain ⟨d0, d1, d2, d3⟩ := hcell wr hub
      have HVI := Aside0.mk hvi
      have HUB := Aside0.mk hub
      have HQ := Aside0.mk hq
      have HU := Aside0.mk hu
      rw [hdrop, chkL_cons] at heq
      have HEQ := Aside0.mk heq
      have HIX := Aside0.mk (fun (W : World) (hw : Below wr.heap.size wr W) => HIH.out l[i] HX.out w0 W g A3 c3 q (d + 1) (blk_upd hq (Upd.of_below hw (fun _ => False)) (fun h => h)) hB (hvi.below (hub.trans (hw.mono (Nat.le_trans HV.out.b.size hu.size)))) hq0 hq1 (by omega) (by omega))
      have HGE := Aside0.mk (chk_ge l[i] (d + 1) q)
      have hgq := blk_lt hq
      clear hcell hvi hub hq hu heq hdrop HIH
      generalize l[i] = x at *
      go_wp2_with fail
      refine (HIX.out _ ?hw).mono ?_
      case hw => repeat (with_reducible first | exact Below.refl _ _ | apply below_drew | apply pw_below_drewN | apply below_alloc)
      rintro e w5 ⟨rfl, hu5, hq5⟩
      have HQ5 := Aside0.mk hq5
      have HU5 := Aside0.mk (show Upd (fun k => k = g) w w5 from HU.out.seq ((Upd.of_below (show Below wr.heap.size wr _ by repeat (with_reducible first | exact Below.refl _ _ | apply below_drew | apply pw_below_drewN | apply below_alloc)) (fun k => k = g ∨ w.heap.size ≤ k)).seq (hu5.mono (fun b _ h => .inl (.inl h)))))
      clear hu5 hq5
      by_cases hz : (chk x (d + 1) q).2 = 0
      ·have HE2 := Aside0.mk HEQ.out
       rw [if_neg (fun h => h hz)] at HE2
       have HQ1 := Aside0.mk (HGE.out.2 hz)
       rw [hz]
       clear hz
       go_wp2
       go_roundw
       case rel => exact ⟨i + 1, _, by simp, hlt, HQ5.out, HU5.out, HE2.out, by have := HGE.out.1; omega, HQ1.out⟩
       case measure => simp [intOf]; omega
      ·have HE2 := Aside0.mk HEQ.out
       rw [if_pos hz] at HE2
       generalize chk x (d + 1) q = rr at *
       have hb : (rr.2 != 0) = true := by simpa using hz
       clear hz
       go_wp2
       go_ret
       rw [← HE2.out]
       exact ⟨rfl, HU5.out, HQ5.out⟩
     ·have hi : i = l.length := by omega
      rw [hi, List.drop_length, chkL_nil] at heq
      have HEQ := Aside0.mk heq
      have HQ := Aside0.mk hq
      have HU := Aside0.mk hu
      clear heq hq hu
      have hir : ¬ (i : Int) < (l.length : Int) := by omega
      go_wp2
      go_ret
      rw [← HEQ.out]
      exact ⟨rfl, HU.out, HQ.out⟩
   ·skip
    have hl0 : l = [] := List.length_eq_zero_iff.mp (by omega)
    have HL0 := Aside0.mk hl0
    have hln : l.length = 0 := by omega
    clear hl0
    go_enter Tryz.func128, Tryz.ntmps128
    go_wp2
    go_loopw [79] (fun iv wr => PartE w g l (d + 1) (p + 1) iv wr) (fun iv _ => l.length - (intOf iv).toNat)
    case atStart => exact ⟨0, p + 1, rfl, Nat.zero_le _, blk_alloc (blk_set HG.out) _, ((Upd.refl _ w).set1 0 _).alloc _, by rw [List.drop_zero], by omega, by omega⟩
    case round =>
     obtain ⟨i, q, rfl, hle, hq, hu, heq, hq0, hq1⟩ := hrel
     by_cases hlt : i < l.length
     ·omega
     ·have hi : i = l.length := by omega
      rw [hi, List.drop_length, chkL_nil] at heq
      have HEQ := Aside0.mk heq
      have HQ := Aside0.mk hq
      have HU := Aside0.mk hu
      clear heq hq hu
      have hir : ¬ (i : Int) < (l.length : Int) := by omega
      go_wp2
      go_ret
      rw [← HEQ.out]
      exact ⟨rfl, HU.out, HQ.out⟩
end Go.Proofs.YthmkioodkldgbaaGreat.DK
/- value.Check: the first fault of a value; conditions: those in each theorem. -/
namespace Go.Proofs.YthmkioodkldgbaaGreat.PD
open Go.RowKit Go.Proofs.YthmkioodkldgbaaGreatW.PrintWords Go.Proofs.YthmkioodkldgbaaGreatW.PrintLast Go.Proofs.YthmkioodkldgbaaGreatW.PrintMore
open Go.Proofs.YthmkioodkldgbaaGreat.DK
set_option linter.unusedVariables false
set_option linter.unusedSimpArgs false
theorem new2 (w : World) (o o2 : Obj) : ((w.alloc o).alloc o2).heap[w.heap.size + 1]? = some o2 := by
 have := heap_alloc_new (w.alloc o) o2
 simpa using this
def value_Check.f (a0_0 a0_1 : Int) (a0_2 : ByteArray) (l0_3 : List S25) : Option Int := some (chk ⟨a0_0, a0_1, a0_2, l0_3⟩ 0 0).2
set_option maxHeartbeats 16000000 in
set_option maxRecDepth 100000 in
theorem value_Check.calls (a0_0 : Int) (a0_1 : Int) (a0_2 : ByteArray) (A0_3 : Option Addr) (c0_3 : Nat) (l0_3 : List (S25)) (r : Int) (w : World) (hr0_3 : Kd.C k25 w A0_3 l0_3.length l0_3) (hc0_3 : l0_3.length ≤ c0_3) (h : value_Check.f a0_0 a0_1 a0_2 l0_3 = some r) :
  Calls Tryz.prog 89 #[.agg #[.int .i64 a0_0, .int .i64 a0_1, .string a0_2, .slice A0_3 l0_3.length c0_3]] w fun e w' => e = .returned (.int .i64 r) ∧ Below w.heap.size w w' := by
 obtain rfl := Option.some.inj h
 have hu25 := Tryz.underlying24
 have hu207 := Tryz.underlying195
 have HV := Aside0.mk (ValIn.now hr0_3 hc0_3)
 clear h hr0_3 hc0_3
 go_enter Tryz.func89, Tryz.ntmps89
 go_wp2_with fail
 refine (part_calls _ ⟨a0_0, a0_1, a0_2, l0_3⟩ (Nat.le_refl _) w _ (w.heap.size + 1) A0_3 c0_3 0 0 (new2 w _ _) (by omega) (HV.out.below (below_alloc (below_alloc (Below.refl _ _) _) _)) (by omega) (by omega) (by omega) (by omega)).mono ?_
 rintro e w1 ⟨rfl, hu, hq⟩
 have HB := Aside0.mk (show Below w.heap.size w w1 from (below_alloc (below_alloc (Below.refl _ _) _) _).trans (hu.below (by simp; omega) (fun k e => by omega)))
 clear hu hq
 go_wp2
 go_ret
 exact ⟨rfl, HB.out⟩
end Go.Proofs.YthmkioodkldgbaaGreat.PD
/- value.encode; conditions: those in each theorem. -/
namespace Go.Proofs.YthmkioodkldgbaaGreat.DK
open Go.Proofs.YthmkioodkldgbaaGreat.PD
open Go.RowKit Go.Proofs.YthmkioodkldgbaaGreatW.PrintWords Go.Proofs.YthmkioodkldgbaaGreatW.PrintLast Go.Proofs.YthmkioodkldgbaaGreatW.PrintMore
set_option linter.unusedVariables false
set_option linter.unusedSimpArgs false
set_option maxRecDepth 100000
/-- A number as one of at least 0. -/
def zz (n : Int) : Int := if n < 0 then -2 * n - 1 else 2 * n
theorem wrap_u64 (n : Int) : IntKind.u64.wrap n = n % 18446744073709551616 := by simp [IntKind.wrap, IntKind.bits, IntKind.signed]
theorem zz_bits {m : Int} (h0 : -9223372036854775808 ≤ m) (h1 : m ≤ 9223372036854775807) : bits .xor .u64 (IntKind.u64.wrap (IntKind.u64.wrap m * 2)) (IntKind.u64.wrap (m / 9223372036854775808)) = zz m := by
 rw [wrap_u64, wrap_u64, wrap_u64]
 unfold zz
 by_cases h : m < 0
 ·rw [if_pos h]
  have e1 : m % 18446744073709551616 * 2 % 18446744073709551616 = ((2 * m + 18446744073709551616).toNat : Int) := by omega
  have e2 : m / 9223372036854775808 % 18446744073709551616 = ((18446744073709551615 : Nat) : Int) := by omega
  rw [e1, e2]
  have hlt : (2 * m + 18446744073709551616).toNat < 2 ^ 64 := by omega
  generalize hq : (2 * m + 18446744073709551616).toNat = q at *
  have h3 : q ^^^ 18446744073709551615 = 18446744073709551615 - q := by
   have h2 := congrArg BitVec.toNat (BitVec.xor_allOnes (x := BitVec.ofNat 64 q))
   rw [BitVec.toNat_not, BitVec.toNat_xor, BitVec.toNat_allOnes, BitVec.toNat_ofNat, Nat.mod_eq_of_lt hlt] at h2
   exact h2
  show IntKind.u64.wrap (((BitVec.ofInt 64 (q : Int)) ^^^ (BitVec.ofInt 64 ((18446744073709551615 : Nat) : Int))).toNat : Int) = _
  rw [BitVec.ofInt_natCast, BitVec.ofInt_natCast, BitVec.toNat_xor, BitVec.toNat_ofNat, BitVec.toNat_ofNat, Nat.mod_eq_of_lt hlt, Nat.mod_eq_of_lt (by decide : 18446744073709551615 < 2 ^ 64), h3, wrap_u64]
  omega
 ·rw [if_neg h]
  have e1 : m % 18446744073709551616 * 2 % 18446744073709551616 = ((2 * m).toNat : Int) := by omega
  have e2 : m / 9223372036854775808 % 18446744073709551616 = ((0 : Nat) : Int) := by omega
  rw [e1, e2]
  have hlt : (2 * m).toNat < 2 ^ 64 := by omega
  show IntKind.u64.wrap (((BitVec.ofInt 64 (((2 * m).toNat : Nat) : Int)) ^^^ (BitVec.ofInt 64 ((0 : Nat) : Int))).toNat : Int) = _
  rw [BitVec.ofInt_natCast, BitVec.ofInt_natCast, BitVec.toNat_xor, BitVec.toNat_ofNat, BitVec.toNat_ofNat, Nat.mod_eq_of_lt hlt, Nat.zero_mod, Nat.xor_zero, wrap_u64]
  omega
mutual
def encM : S25 → List Int
 | ⟨k, n, t, l⟩ => if k = 1 then 1 :: grp (zz n) else if k = 2 then 2 :: ((t.size : Int) % 256) :: bytesOf t else if k = 3 then 3 :: ((l.length : Int) % 256) :: encL l else [0]
def encL : List S25 → List Int
 | [] => []
 | x :: l => encM x ++ encL l
end
theorem encM_eq (v : S25) : encM v = if v.f0 = 1 then 1 :: grp (zz v.f1) else if v.f0 = 2 then 2 :: ((v.f2.size : Int) % 256) :: bytesOf v.f2 else if v.f0 = 3 then 3 :: ((v.f3.length : Int) % 256) :: encL v.f3 else [0] := by
 obtain ⟨k, n, t, l⟩ := v
 rw [encM]
theorem encL_nil : encL [] = [] := by rw [encL]
theorem encL_cons (x : S25) (l : List S25) : encL (x :: l) = encM x ++ encL l := by rw [encL]
mutual
/-- Its whole numbers are such. -/
def okS : S25 → Prop
 | ⟨k, n, t, l⟩ => (-9223372036854775808 ≤ k ∧ k ≤ 9223372036854775807) ∧ (-9223372036854775808 ≤ n ∧ n ≤ 9223372036854775807) ∧ okL l
def okL : List S25 → Prop
 | [] => True
 | x :: l => okS x ∧ okL l
end
theorem okS_eq (v : S25) : okS v = ((-9223372036854775808 ≤ v.f0 ∧ v.f0 ≤ 9223372036854775807) ∧ (-9223372036854775808 ≤ v.f1 ∧ v.f1 ≤ 9223372036854775807) ∧ okL v.f3) := by
 obtain ⟨k, n, t, l⟩ := v
 rw [okS]
theorem okL_mem : ∀ {l : List S25}, okL l → ∀ x ∈ l, okS x
 | [], _, x, hx => by simp at hx
 | y :: l, h, x, hx => by
  rw [okL] at h
  rcases List.mem_cons.1 hx with rfl | hx
  ·exact h.1
  ·exact okL_mem h.2 x hx
structure EncI (b : Nat) (w : World) (l : List S25) (zs : List Int) (u : Value) (i : Nat) (ys : List Int) (wr : World) : Prop where
 le : i ≤ l.length
 row : R5 b wr u ys
 up : U5 b w wr
 eq : ys ++ encL (l.drop i) = zs
def EncE (b : Nat) (w : World) (l : List S25) (zs : List Int) (u iv : Value) (wr : World) : Prop := ∃ (i : Nat) (ys : List Int), iv = .int .i64 i ∧ EncI b w l zs u i ys wr
set_option maxHeartbeats 8000000 in
theorem encode_calls (b : Nat) (n : Nat) : ∀ (v : S25) (hn : SizeOf.sizeOf v ≤ n) (hn1 : okS v) (w0 w : World) (u : Value) (xs : List Int) (A : Option Addr) (c : Nat) (HO : R5 b w u xs) (hB : w0.heap.size ≤ b) (hb : b ≤ w.heap.size) (hv : ValIn w0 w v.f3 A c) (hl : (xs ++ encM v).length ≤ 140737488355328),
  Calls Tryz.prog 146 #[u, .agg #[.int .i64 v.f0, .int .i64 v.f1, .string v.f2, .slice A v.f3.length c]] w (Ext b w (xs ++ encM v)) := by
 induction n with
 | zero =>
  intro v hn
  obtain ⟨k, m, t, l⟩ := v
  simp at hn
 | succ n ih =>
  intro v hn hn1 w0 w u xs A c HO hB hb hv hl
  rw [okS_eq] at hn1
  have HIH := Aside0.mk (fun (x : S25) (hx : x ∈ v.f3) => ih x (by have := size_mem hx; omega) (okL_mem hn1.2.2 x hx))
  have hr1 := hn1.2.1
  clear hn1
  have HV := Aside0.mk hv
  have HR := Aside0.mk HO
  rw [encM_eq] at hl ⊢
  obtain ⟨k, m, t, l⟩ := v
  dsimp only at HIH HV hv hl hr1 ⊢
  have hlen : l.length ≤ 9223372036854775807 := hv.r.2.1
  have hu25 := Tryz.underlying24
  clear hv hn ih HO
  unfold Ext
  by_cases h1 : k = 1
  ·subst h1
   rw [if_pos rfl] at hl ⊢
   have HZ := Aside0.mk (zz_bits hr1.1 hr1.2)
   go_enter Tryz.func146, Tryz.ntmps146
   go_wp2
   have hbx : (w.alloc (.cells #[.int .i64 1, .int .i64 m, .string t, .slice A l.length c] 24)).heap[w.heap.size]? = some (.cells #[.int .i64 1, .int .i64 m, .string t, .slice A l.length c] 24 (0, 0)) := heap_alloc_new w _
   have m1 := blk_cell hbx 1
   simp only [List.getElem?_toArray, List.getElem?_cons_succ, List.getElem?_cons_zero] at m1
   have HBX := Aside0.mk hbx
   clear hbx
   refine start_ (n := 14) (S := fun w' => w'.cell? ⟨w.heap.size, 1, none⟩ = some (.int .i64 m)) (ds := [12]) #[false, false, false, false, false, false, false, false, false, false, false, false, false, false] (by kernel_rfl) rfl rfl (m1) (fun hHeld => ?_)
   refine zq 0 (some 11) ?_
   refine zq 3 (some 14) ?_
   refine zq 7 (some 18) ?_
   refine zu 4 (some 15) hHeld ?_
   refine zq 5 (some 16) ?_
   refine zq 6 (some 17) ?_
   refine zu 8 (some 19) hHeld ?_
   refine zq 9 (some 20) ?_
   refine zq 10 (some 21) ?_
   refine zq 11 (some 22) ?_
   refine one_ (i := 1) (N := some 12) #[true, true, false, true, true, true, true, true, true, true, true, true, false, false] rfl rfl (by kernel_rfl) (by decide) (fun K hK => ?_)
   refine value_ (w1 := ?_) (v := ?_) (by rfl) rfl ?_ ?_
   rotate_left 2
   ·go_simp
    constructor
    ·rfl
    ·rfl
   refine hK.out _ _ ((blk_cell (blk_alloc HBX.out _) 1)) (fun hHeld => ?_)
   clear hK K
   refine norm_ (a' := ?_) ?_ ?_
   rotate_left
   ·show Act.put _ (some 12) _ = _
    simp only [Act.put, zla, zlb, zlc, i64_w, i32_w]
    rfl
   refine one_ (i := 2) (N := some 13) #[true, true, true, true, true, true, true, true, true, true, true, true, false, false] rfl rfl (by kernel_rfl) (by decide) (fun K hK => ?_)
   refine appLit_step (by rfl) (.tmp 11) (.tmp 12) rfl u xs [1] rfl _ _ ⟨1, rfl⟩ rfl 1 rfl _ rfl (by simp) (HR.out.alloc _) (by simp; omega) (by simp at hl ⊢; omega) ?_
   intro v1 w1 h1 h2
   have HR1 := Aside0.mk h1
   have HU1 := Aside0.mk (((U5.refl b w).alloc _).trans h2)
   have HB1 := Aside0.mk (h2.blk HBX.out (by decide))
   clear h1 h2
   refine hK.out _ _ ((blk_cell HB1.out 1)) (fun hHeld => ?_)
   clear hK K
   refine norm_ (a' := ?_) ?_ ?_
   rotate_left
   ·show Act.put _ (some 13) _ = _
    simp only [Act.put, zla, zlb, zlc, i64_w, i32_w]
    rfl
   refine last_ (i := 12) (N := some 23) #[true, true, true, true, true, true, true, true, true, true, true, true, true, false] rfl rfl (by kernel_rfl) (by decide) (fun K hK => ?_)
   rw [HZ.out]
   refine goes_ Tryz.func155 (by kernel_rfl) rfl #[v1, .int .u64 (zz m)] (by rfl) rfl rfl (by simp only [List.map_toArray, List.map_cons, List.map_nil]; rfl) ?_
   refine (groups_calls b _ v1 (xs ++ [1]) (zz m) (by unfold zz; split <;> omega) (by unfold zz; split <;> omega) HR1.out (Nat.le_trans hb HU1.out.size) (by simpa using hl)).mono ?_
   rintro e w2 ⟨u2, rfl, h1, h2⟩
   have HR2 := Aside0.mk h1
   have HU2 := Aside0.mk (HU1.out.trans h2)
   clear h1 h2
   refine ⟨_, rfl, ?_⟩
   refine hK.out _ _ ?_
   clear hK K
   refine norm_ (a' := ?_) ?_ ?_
   rotate_left
   ·show Act.put _ (some 23) _ = _
    simp only [Act.put, zla, zlb, zlc, i64_w, i32_w]
    rfl
   refine zq 13 (some 4) ?_
   refine done_ (by kernel_rfl) ?_
   go_wp2
   go_ret
   exact ⟨u2, rfl, by have h := HR2.out; rwa [List.append_assoc] at h, by first | exact HU2.out | exact HU2.out.drew⟩
  rw [if_neg h1] at hl ⊢
  by_cases h2 : k = 2
  ·subst h2
   clear h1
   rw [if_pos rfl] at hl ⊢
   have hl1 : xs.length + [2, (t.size : Int) % 256].length ≤ 140737488355328 := by simp at hl ⊢; omega
   have hl2 : (xs ++ [2, (t.size : Int) % 256]).length + t.size ≤ 140737488355328 := by have := bytesOf_length t; simp at hl ⊢; omega
   go_enter Tryz.func146, Tryz.ntmps146
   go_wp2_with (first | (at_builtin; refine appLit rfl (.tmp 26) (.tmp 31) rfl u xs [2, (t.size : Int) % 256] rfl _ rfl 2 rfl _ (by first | (go_simp; done) | (go_simp; rfl)) (by simp) (HR.out.alloc _) (by simp; omega) hl1 ?_; intro v1 w1 h1 h2; (have HR1 := Aside0.mk h1); (have HU1 := Aside0.mk (((U5.refl b w).alloc _).trans h2)); (have hb1 : b ≤ w1.heap.size := Nat.le_trans hb (HU1.out.size)); (have HB1 := Aside0.mk (h2.blk (heap_alloc_new w (.cells #[.int .i64 2, .int .i64 m, .string t, .slice A l.length c] 24)) (by decide))); (have m2 := blk_cell HB1.out 2); simp only [List.getElem?_toArray, List.getElem?_cons_succ, List.getElem?_cons_zero] at m2; clear h1 h2) | (at_builtin; refine appStr rfl (.tmp 33) (.tmp 35) rfl v1 _ t rfl rfl HR1.out hb1 hl2 ?_; intro v2 w2 h1 h2; (have HR2 := Aside0.mk h1); (have HU2 := Aside0.mk (HU1.out.trans h2)); clear h1 h2))
   go_ret
   exact ⟨v2, rfl, by have h := HR2.out; rwa [List.append_assoc] at h, HU2.out⟩
  rw [if_neg h2] at hl ⊢
  by_cases h3 : k = 3
  ·subst h3
   clear h1 h2
   rw [if_pos rfl] at hl ⊢
   have hl1 : xs.length + [3, (l.length : Int) % 256].length ≤ 140737488355328 := by simp at hl ⊢; omega
   have HL := Aside0.mk hl
   clear hl
   go_enter Tryz.func146, Tryz.ntmps146
   go_wp2_with (first | (at_builtin; refine appLit rfl (.tmp 39) (.tmp 44) rfl u xs [3, (l.length : Int) % 256] rfl _ rfl 2 rfl _ (by first | (go_simp; done) | (go_simp; rfl)) (by simp) (HR.out.alloc _) (by simp; omega) hl1 ?_; intro v1 w1 h1 h2; (have HR1 := Aside0.mk h1); (have HU1 := Aside0.mk (((U5.refl b w).alloc _).trans h2)); (have hb1 : b ≤ w1.heap.size := Nat.le_trans hb (HU1.out.size)); (have HB1 := Aside0.mk (h2.blk (heap_alloc_new w (.cells #[.int .i64 3, .int .i64 m, .string t, .slice A l.length c] 24)) (by decide))); (have m3 := blk_cell HB1.out 3); simp only [List.getElem?_toArray, List.getElem?_cons_succ, List.getElem?_cons_zero] at m3; clear h1 h2))
   clear m3
   go_loopw [0, 49] (fun u iv wr => EncE b w1 l (xs ++ 3 :: ((l.length : Int) % 256) :: encL l) u iv wr) (fun _ iv _ => l.length - (intOf iv).toNat)
   case atStart => exact ⟨0, _, rfl, Nat.zero_le _, HR1.out, U5.refl _ _, by simp⟩
   case round =>
    obtain ⟨i, ys, rfl, hle, hrow, hup, heq⟩ := hrel
    have HRW := Aside0.mk hrow
    have HUP := Aside0.mk hup
    have HBL := Aside0.mk (HV.out.below (((HU1.out.trans hup).below hb).mono hB))
    have hbr : b ≤ wr.heap.size := Nat.le_trans hb1 hup.size
    clear hrow hup
    by_cases hlt : i < l.length
    ·obtain ⟨ad, A3, c3, rfl, hcell, hvi⟩ := HBL.out.at hlt
     have hdrop : l.drop i = l[i] :: l.drop (i + 1) := List.drop_eq_getElem_cons hlt
     obtain ⟨d0, d1, d2, d3⟩ := hcell wr (Below.refl _ _)
     rw [hdrop, encL_cons, ← List.append_assoc] at heq
     have hll : (ys ++ encM l[i]).length ≤ 140737488355328 := by
      have h := HL.out
      rw [← heq] at h
      simp only [List.length_append] at h ⊢
      omega
     have HEQ := Aside0.mk heq
     have HX := Aside0.mk (fun (W : World) (hw : Below wr.heap.size wr W) => HIH.out l[i] (List.getElem_mem hlt) w0 W u0 ys A3 c3 (HRW.out.below hw) hB (Nat.le_trans hbr hw.size) (hvi.below (hw.mono (Nat.le_trans hB hbr))) hll)
     clear hcell hvi heq hdrop hll
     generalize l[i] = x at *
     go_wp2_with fail
     refine (HX.out _ ?hw).mono ?_
     case hw => repeat (with_reducible first | exact Below.refl _ _ | apply below_drew | apply pw_below_drewN | apply below_alloc)
     rintro e w5 ⟨u5, rfl, h1, h2⟩
     have HR5 := Aside0.mk h1
     have HU5 := Aside0.mk ((HUP.out.alloc _).trans h2)
     clear h1 h2
     go_wp2
     go_roundw
     case rel => exact ⟨i + 1, _, by simp, hlt, HR5.out, HU5.out, HEQ.out⟩
     case measure => simp [intOf]; omega
    ·have hi : i = l.length := by omega
     rw [hi, List.drop_length, encL_nil, List.append_nil] at heq
     have hir : ¬ (i : Int) < (l.length : Int) := by omega
     have HEQ := Aside0.mk heq
     clear heq hi
     go_wp2
     go_ret
     exact ⟨_, rfl, by have h := HRW.out; rwa [HEQ.out] at h, HU1.out.trans HUP.out⟩
  rw [if_neg h3] at hl ⊢
  have e1 : (k == 1) = false := by simpa using h1
  have e2 : (k == 2) = false := by simpa using h2
  have e3 : (k == 3) = false := by simpa using h3
  clear h1 h2 h3
  go_enter Tryz.func146, Tryz.ntmps146
  go_wp2_with (first | (at_builtin; refine app1 rfl (.tmp 58) (.tmp 59) rfl u xs 0 rfl (by first | (go_simp; done) | (go_simp; rfl)) (HR.out.alloc _) (by simp; omega) (by simpa using hl) ?_; intro v1 w1 h1 h2; (have HR1 := Aside0.mk h1); (have HU1 := Aside0.mk (((U5.refl b w).alloc _).trans h2)); clear h1 h2))
  go_ret
  exact ⟨v1, rfl, HR1.out, HU1.out⟩
end Go.Proofs.YthmkioodkldgbaaGreat.DK
