/- wire.reader.word; conditions: those in each theorem. -/
import Derived.Test.YthmkioodkldgbaaGreatQuM11
import Derived.Defers
import Derived.Recover
namespace Go.Proofs.YthmkioodkldgbaaGreat.DK
open Go.Proofs.YthmkioodkldgbaaGreat.PD
open Go.RowKit Go.Proofs.YthmkioodkldgbaaGreatW.PrintWords Go.Proofs.YthmkioodkldgbaaGreatW.PrintLast Go.Proofs.YthmkioodkldgbaaGreatW.PrintMore
set_option linter.unusedVariables false
set_option linter.unusedSimpArgs false
set_option maxRecDepth 100000
/-- A word. -/
def pWord : List Int → Rd Int
 | a :: b :: c :: d :: l => .ok (a + 256 * b + 65536 * c + 16777216 * d) l
 | _ => .bad 40
theorem or32 (k : Nat) {x y : Int} (h0 : 0 ≤ x) (h1 : x < 2 ^ k) (hk : k ≤ 24) (h2 : 0 ≤ y) (h3 : y ≤ 255) : bits .or .u32 x (y * 2 ^ k) = x + y * 2 ^ k := by
 obtain ⟨a, rfl⟩ := Int.eq_ofNat_of_zero_le h0
 obtain ⟨c, rfl⟩ := Int.eq_ofNat_of_zero_le h2
 have hp : (2 : Nat) ^ k ≤ 2 ^ 24 := Nat.pow_le_pow_right (by decide) hk
 have ha : a < 2 ^ k := by exact_mod_cast h1
 have hm : c * 2 ^ k ≤ 255 * 2 ^ 24 := Nat.mul_le_mul (by omega) hp
 have hn := (bits_nat .u32 32 (by decide) (fun n h0 h1 => by simp [IntKind.wrap, IntKind.bits, IntKind.signed]; omega) a (c * 2 ^ k) (by omega) (by omega)).2
 have hc : ((c * 2 ^ k : Nat) : Int) = (c : Int) * 2 ^ k := by push_cast; rfl
 rw [hc] at hn
 rw [hn]
 have h := Nat.two_pow_add_eq_or_of_lt ha c
 rw [Nat.or_comm, Nat.mul_comm c, ← h, ← hc]
 push_cast
 rw [Int.mul_comm]
 omega
def Worded (b : Nat) (w : World) (g : Nat) (l : List Int) (e : Int) (en : Ending) (w' : World) : Prop :=
 ∃ n, en = .returned (.int .u32 n) ∧ match pWord l with
 | .ok k l' => n = k ∧ RdrP b w g l' e w'
 | .bad c => RdrP b w g [] (bump e c) w'
section
variable {b : Nat} {w : World} {g : Nat} {l : List Int} {e : Int} {u : Value}
set_option maxHeartbeats 4000000 in
theorem rword_calls (h : Rdr b w g l e u) : Calls Tryz.prog 105 #[.pointer (some ⟨g, 0, none⟩)] w (Worded b w g l e) := by
 have H := Aside0.mk h
 clear h
 go_enter Tryz.func105, Tryz.ntmps105
 go_wp2_with fail
 refine (rtake_calls H.out 4).mono ?_
 intro en w1 h1
 unfold Took at h1
 by_cases hl : 4 ≤ l.length
 ·match l, hl with
  | c0 :: c1 :: c2 :: c3 :: l, hl =>
   rw [if_pos hl] at h1
   obtain ⟨A, rfl, hi, h2⟩ := h1
   have HP := Aside0.mk h2
   have hi' : In (Kd.int .u8) b w1 A [c0, c1, c2, c3] := by simpa using hi
   obtain ⟨ad, rfl, d0⟩ := hi'.atInt (i := 0) (by simp)
   obtain ⟨_, e1, d1⟩ := hi'.atInt (i := 1) (by simp)
   injection e1 with e1
   subst e1
   obtain ⟨_, e1, d2⟩ := hi'.atInt (i := 2) (by simp)
   injection e1 with e1
   subst e1
   obtain ⟨_, e1, d3⟩ := hi'.atInt (i := 3) (by simp)
   injection e1 with e1
   subst e1
   simp only [List.getElem_cons_zero, List.getElem_cons_succ] at d0 d1 d2 d3
   replace d0 : w1.cell? ad = some (.int .u8 c0) := by simpa [Addr.add] using d0
   replace d1 : w1.cell? ⟨ad.block, ad.off + 1, none⟩ = some (.int .u8 c1) := by simpa [Addr.add] using d1
   replace d2 : w1.cell? ⟨ad.block, ad.off + 2, none⟩ = some (.int .u8 c2) := by simpa [Addr.add] using d2
   replace d3 : w1.cell? ⟨ad.block, ad.off + 3, none⟩ = some (.int .u8 c3) := by simpa [Addr.add] using d3
   have hr := H.out.rng
   have r0 := hr c0 (by simp)
   have r1 := hr c1 (by simp)
   have r2 := hr c2 (by simp)
   have r3 := hr c3 (by simp)
   clear h2 hi hi' hr
   go_wp2
   go_quiet (fail)
   go_wp2
   have q1 := or32 8 r0.1 (by omega) (by decide) r1.1 r1.2
   have q2 := or32 16 (x := c0 + c1 * 2 ^ 8) (by omega) (by omega) (by decide) r2.1 r2.2
   have q3 := or32 24 (x := c0 + c1 * 2 ^ 8 + c2 * 2 ^ 16) (by omega) (by omega) (by decide) r3.1 r3.2
   have q : bits .or .u32 (bits .or .u32 (bits .or .u32 c0 (c1 * 256)) (c2 * 65536)) (c3 * 16777216) = c0 + 256 * c1 + 65536 * c2 + 16777216 * c3 := by
    rw [show c1 * 256 = c1 * 2 ^ 8 by omega, q1, show c2 * 65536 = c2 * 2 ^ 16 by omega, q2, show c3 * 16777216 = c3 * 2 ^ 24 by omega, q3]
    omega
   go_ret
   exact ⟨_, rfl, q, HP.out.drewN _⟩
 ·rw [if_neg hl] at h1
  obtain ⟨rfl, h2⟩ := h1
  have HP := Aside0.mk h2
  have hp : pWord l = .bad 40 := by
   match l, hl with
   | [], _ => rfl
   | [_], _ => rfl
   | [_, _], _ => rfl
   | [_, _, _], _ => rfl
   | _ :: _ :: _ :: _ :: _, hl => exact absurd (by simp) hl
  have HQ := Aside0.mk hp
  clear h2 hp
  go_wp2
  go_ret
  exact ⟨0, rfl, by rw [HQ.out]; exact HP.out⟩
end
end Go.Proofs.YthmkioodkldgbaaGreat.DK
/- Words for the gets: what a reading leaves (GotS), one behind another; rows that stay; conditions: those in each theorem. -/
namespace Go.Proofs.YthmkioodkldgbaaGreat.DK
open Go.Proofs.YthmkioodkldgbaaGreat.PD
open Go.RowKit Go.Proofs.YthmkioodkldgbaaGreatW.PrintWords Go.Proofs.YthmkioodkldgbaaGreatW.PrintLast Go.Proofs.YthmkioodkldgbaaGreatW.PrintMore
set_option linter.unusedVariables false
set_option linter.unusedSimpArgs false
/-- Behind a reading: l' is left, e' the error, x what was read, r what the bytes say. -/
structure GotS {α : Type} (b : Nat) (w : World) (g : Nat) (e : Int) (r : Rd α) (x : α) (w' : World) (l' : List Int) (e' : Int) (u : Value) : Prop where
 rdr : Rdr b w' g l' e' u
 ut : UT [172] b w w'
 ok : e = 0 → e' = 0 → r = .ok x l'
 bad : e = 0 → e' ≠ 0 → r = .bad e'
 old : e ≠ 0 → e' = e
namespace GotS
variable {α β : Type} {b : Nat} {w w1 w2 : World} {g : Nat} {e e1 e2 : Int} {r : Rd α} {x : α} {y : β} {l l1 l2 : List Int} {u u1 u2 : Value}
theorem pure (h : Rdr b w g l e u) (x : α) : GotS b w g e (.ok x l) x w l e u := ⟨h, UT.refl _ _ _, fun _ _ => rfl, fun h0 h1 => absurd h0 h1, fun _ => rfl⟩
theorem bind {f : α → List Int → Rd β} (h : GotS b w g e r x w1 l1 e1 u1) (k : GotS b w1 g e1 (f x l1) y w2 l2 e2 u2) : GotS b w g e (r.bind f) y w2 l2 e2 u2 := by
 refine ⟨k.rdr, h.ut.trans k.ut, fun h0 h2 => ?_, fun h0 h2 => ?_, fun h0 => ?_⟩
 ·have h1 : e1 = 0 := by
   refine Decidable.byContradiction fun hc => hc ?_
   rw [← k.old hc]; exact h2
  rw [h.ok h0 h1, Rd.bind_ok, k.ok h1 h2]
 ·by_cases h1 : e1 = 0
  ·rw [h.ok h0 h1, Rd.bind_ok, k.bad h1 h2]
  ·rw [h.bad h0 h1, Rd.bind_bad, k.old h1]
 ·have h1 := h.old h0
  rw [k.old (by rw [h1]; exact h0), h1]
theorem below (h : GotS b w g e r x w1 l1 e1 u1) (hb : Below w1.heap.size w1 w2) : GotS b w g e r x w2 l1 e1 u1 := ⟨h.rdr.below hb, h.ut.trans (UT.of_below _ _ hb), h.ok, h.bad, h.old⟩
theorem drew (h : GotS b w g e r x w1 l1 e1 u1) : GotS b w g e r x w1.drew l1 e1 u1 := h.below (below_drew (Below.refl _ _))
theorem drewN (h : GotS b w g e r x w1 l1 e1 u1) (n : Nat) : GotS b w g e r x (w1.drewN n) l1 e1 u1 := h.below (pw_below_drewN (Below.refl _ _) n)
theorem alloc (h : GotS b w g e r x w1 l1 e1 u1) (o : Obj) : GotS b w g e r x (w1.alloc o) l1 e1 u1 := h.below (below_alloc (Below.refl _ _) o)
theorem from_ {w0 : World} (h : GotS b w g e r x w1 l1 e1 u1) (hb : Below w0.heap.size w0 w) : GotS b w0 g e r x w1 l1 e1 u1 := ⟨h.rdr, (UT.of_below _ _ hb).trans h.ut, h.ok, h.bad, h.old⟩
theorem says {r' : Rd β} (h : GotS b w g e r x w1 l1 e1 u1) (hok : r = .ok x l1 → r' = .ok y l1) (hbad : r = .bad e1 → r' = .bad e1) : GotS b w g e r' y w1 l1 e1 u1 := ⟨h.rdr, h.ut, fun h0 h1 => hok (h.ok h0 h1), fun h0 h1 => hbad (h.bad h0 h1), h.old⟩
theorem map {f : α → β} (h : GotS b w g e r x w1 l1 e1 u1) : GotS b w g e (r.map f) (f x) w1 l1 e1 u1 := h.says (fun h => by rw [h]; rfl) (fun h => by rw [h]; rfl)
/-- Out of what the small readers leave. -/
theorem of_post {r : Rd α} (hr : Rdr b w g l e u) (hl : l = [] → ∃ c, r = .bad c) (hc : ∀ c, r = .bad c → c ≠ 0) (hk : ∀ k l', r = .ok k l' → x = k ∧ RdrP b w g l' e w1) (hb : ∀ c, r = .bad c → RdrP b w g [] (bump e c) w1) : ∃ l1 e1 u1, GotS b w g e r x w1 l1 e1 u1 := by
 by_cases he : e = 0
 ·subst he
  cases r with
  | ok k l' =>
   obtain ⟨rfl, ⟨u1, h1⟩, h2⟩ := hk _ _ rfl
   exact ⟨l', 0, u1, h1, h2, fun _ _ => rfl, fun _ h => absurd rfl h, fun h => absurd rfl h⟩
  | bad c =>
   obtain ⟨⟨u1, h1⟩, h2⟩ := hb c rfl
   rw [bump_0] at h1
   exact ⟨[], c, u1, h1, h2, fun _ h => absurd h (hc c rfl), fun _ _ => rfl, fun h => absurd rfl h⟩
 ·obtain ⟨c, hcc⟩ := hl (hr.bad he)
  obtain ⟨⟨u1, h1⟩, h2⟩ := hb c hcc
  rw [bump_ne he] at h1
  exact ⟨[], e, u1, h1, h2, fun h => absurd h he, fun h => absurd h he, fun _ => rfl⟩
end GotS
/-- A row of one's own, behind the readers. -/
theorem R_ut {α : Type} {d : Kd α} {e b b' : Nat} {ok : Nat → Prop} {v : Value} {xs : List α} {w w1 : World} {T : List Nat} (h : d.R e w b ok v xs) (hu : UT T b' w w1) (hT : ∀ q, q ∈ e :: d.E → q ∉ T) : d.R e w1 b ok v xs :=
 Kd.R_mono (Kd.R_move (Kd.R_bound h) (fun k hk => by
  obtain ⟨_, _, hlt, q, hq, cells, hc⟩ := hk
  exact hu.same k hlt (.inr fun cs t ht e' => by rw [hc] at e'; injection e' with e'; injection e' with _ e'; exact hT q hq (e' ▸ ht)))) (fun _ hk => hk.1)
/-- All that was made behind W. -/
abbrev News (W : World) : Nat → Prop := fun _ => True
theorem pNum_nil (most : Int) : pNum most [] = .bad 40 := by simp [pNum, highs]
theorem pNum_bad {most : Int} {l : List Int} {c : Int} (h : pNum most l = .bad c) : c ≠ 0 := by
 unfold pNum at h
 simp only at h
 repeat (first | (split at h) | (injection h with h; omega) | (exact absurd h (by simp)))
theorem pKey_nil : pKey [] = .bad 40 := by simp [pKey, pNum_nil]
theorem pTake_bad {n : Nat} {l : List Int} {c : Int} (h : pTake n l = .bad c) : c ≠ 0 := by
 unfold pTake at h
 split at h
 ·injection h with h; omega
 ·cases h
theorem pKey_bad {l : List Int} {c : Int} (h : pKey l = .bad c) : c ≠ 0 := by
 unfold pKey at h
 cases hn : pNum 12 l with
 | bad c' => rw [hn] at h; injection h with h; subst h; exact pNum_bad hn
 | ok n l' =>
  rw [hn] at h
  simp only [Rd.bind_ok] at h
  cases ht : pTake n.toNat l' with
  | bad c' => rw [ht] at h; injection h with h; subst h; exact pTake_bad ht
  | ok k l'' => rw [ht] at h; cases h
theorem pWord_bad {l : List Int} {c : Int} (h : pWord l = .bad c) : c ≠ 0 := by
 unfold pWord at h
 split at h
 ·cases h
 ·injection h with h; omega
theorem pMark_bad {m : Int} {l : List Int} {c : Int} (h : pMark m l = .bad c) : c ≠ 0 := by
 unfold pMark at h
 split at h
 ·injection h with h; omega
 ·split at h
  ·cases h
  ·injection h with h; omega
section
variable {b : Nat} {w : World} {g : Nat} {l : List Int} {e : Int} {u : Value}
def NumG (b : Nat) (w : World) (g : Nat) (e : Int) (most : Int) (l : List Int) (en : Ending) (w' : World) : Prop := ∃ n, en = .returned (.int .i64 n) ∧ 0 ≤ n ∧ (n = 0 ∨ n ≤ most) ∧ ∃ l' e' u', GotS b w g e (pNum most l) n w' l' e' u'
theorem rnumber_got (h : Rdr b w g l e u) (most : Int) : Calls Tryz.prog 101 #[.pointer (some ⟨g, 0, none⟩), .int .i64 most] w (NumG b w g e most l) := by
 refine (rnumber_calls h most).mono ?_
 intro en w1 h1
 unfold Numd at h1
 cases hp : pNum most l with
 | ok n l' =>
  rw [hp] at h1
  obtain ⟨rfl, h2⟩ := h1
  exact ⟨n, rfl, (pNum_pos hp).1, .inr (pNum_pos hp).2, GotS.of_post h (fun hl => ⟨40, by rw [hl]; exact pNum_nil most⟩) (fun c hc => pNum_bad hc) (fun k l'' hk => by rw [hp] at hk; injection hk with h1 h2; subst h1 h2; exact ⟨rfl, by assumption⟩) (fun c hc => by rw [hp] at hc; cases hc)⟩
 | bad c =>
  rw [hp] at h1
  obtain ⟨rfl, h2⟩ := h1
  exact ⟨0, rfl, Int.le_refl _, .inl rfl, GotS.of_post h (fun hl => ⟨40, by rw [hl]; exact pNum_nil most⟩) (fun c hc => pNum_bad hc) (fun k l'' hk => by rw [hp] at hk; cases hk) (fun c' hc => by rw [hp] at hc; injection hc with h1; subst h1; exact h2)⟩
def KeyG (b : Nat) (w : World) (g : Nat) (e : Int) (l : List Int) (en : Ending) (w' : World) : Prop := ∃ k, en = .returned (.string k) ∧ ∃ l' e' u', GotS b w g e (pKey l) k w' l' e' u'
theorem rkey_got (h : Rdr b w g l e u) : Calls Tryz.prog 113 #[.pointer (some ⟨g, 0, none⟩)] w (KeyG b w g e l) := by
 refine (rkey_calls h).mono ?_
 rintro en w1 ⟨s, rfl, h1⟩
 exact ⟨s, rfl, GotS.of_post h (fun hl => ⟨40, by rw [hl]; exact pKey_nil⟩) (fun c hc => pKey_bad hc) (fun k l' hk => by rw [hk] at h1; exact h1) (fun c hc => by rw [hc] at h1; exact h1)⟩
def WordG (b : Nat) (w : World) (g : Nat) (e : Int) (l : List Int) (en : Ending) (w' : World) : Prop := ∃ k, en = .returned (.int .u32 k) ∧ ∃ l' e' u', GotS b w g e (pWord l) k w' l' e' u'
theorem rword_got (h : Rdr b w g l e u) : Calls Tryz.prog 105 #[.pointer (some ⟨g, 0, none⟩)] w (WordG b w g e l) := by
 refine (rword_calls h).mono ?_
 rintro en w1 ⟨s, rfl, h1⟩
 exact ⟨s, rfl, GotS.of_post h (fun hl => ⟨40, by rw [hl]; rfl⟩) (fun c hc => pWord_bad hc) (fun k l' hk => by rw [hk] at h1; exact h1) (fun c hc => by rw [hc] at h1; exact h1)⟩
def MarkG (b : Nat) (w : World) (g : Nat) (e m : Int) (l : List Int) (en : Ending) (w' : World) : Prop := en = .returned (.tuple #[]) ∧ ∃ l' e' u', GotS b w g e (pMark m l) () w' l' e' u'
theorem rmark_got (h : Rdr b w g l e u) (m : Int) : Calls Tryz.prog 104 #[.pointer (some ⟨g, 0, none⟩), .int .u8 m] w (MarkG b w g e m l) := by
 refine (rmark_calls h m).mono ?_
 rintro en w1 ⟨rfl, h1⟩
 exact ⟨rfl, GotS.of_post h (fun hl => ⟨40, by rw [hl]; rfl⟩) (fun c hc => pMark_bad hc) (fun k l' hk => by rw [hk] at h1; exact ⟨rfl, h1⟩) (fun c hc => by rw [hc] at h1; exact h1)⟩
end
/-- What a list's reading means while it goes on. -/
structure LstF {α : Type} (e e' : Int) (R : Rd (List α)) (p : List α → List Int → Rd α) (n : Nat) (xs : List α) (l' : List Int) : Prop where
 ok : e = 0 → e' = 0 → R = pMany p n xs l'
 bad : e = 0 → e' ≠ 0 → R = .bad e'
 old : e ≠ 0 → e' = e
/-- A list's reading while it goes on: the list lv of xs, n still to come. -/
def LstG {α : Type} (d : Kd α) (ty : Nat) (b : Nat) (w : World) (g : Nat) (e : Int) (most : Int) (p : List α → List Int → Rd α) (R : Rd (List α)) (lv nv : Value) (wr : World) : Prop :=
 ∃ (xs : List α) (n : Int) (l' : List Int) (e' : Int) (u : Value), nv = .int .i64 n ∧ 0 ≤ n ∧ (xs.length + n ≤ most ∨ n = 0) ∧ d.R ty wr w.heap.size (News w) lv xs ∧ Rdr b wr g l' e' u ∧ UT [172] b w wr ∧ LstF e e' R p n.toNat xs l'
/-- What a list's reading hands out. -/
def ListG {α : Type} (d : Kd α) (ty : Nat) (b : Nat) (w : World) (g : Nat) (e : Int) (r : Rd (List α)) (en : Ending) (w' : World) : Prop :=
 ∃ (v : Value) (xs : List α), en = .returned v ∧ d.R ty w' w.heap.size (News w) v xs ∧ ∃ l' e' u', GotS b w g e r xs w' l' e' u'
section
variable {α : Type} {d : Kd α} {ty b : Nat} {w wr w1 : World} {g : Nat} {e most : Int} {p : List α → List Int → Rd α} {R : Rd (List α)} {lv nv : Value} {l : List Int} {n : Int}
theorem ListG.mk {v : Value} {xs : List α} (hR : d.R ty w1 w.heap.size (News w) v xs) {l' : List Int} {e' : Int} {u' : Value} (h : GotS b w g e R xs w1 l' e' u') : ListG d ty b w g e R (.returned v) w1 := ⟨v, xs, rfl, hR, l', e', u', h⟩
theorem LstG.start {u0 : Value} {e1 : Int} {l1 : List Int} (h : GotS b w g e (pNum most l) n wr l1 e1 u0) (h0 : 0 ≤ n) (h1 : n = 0 ∨ n ≤ most) : LstG d ty b w g e most p (pList most p l) (.slice none 0 0) (.int .i64 n) wr :=
 ⟨[], n, l1, e1, u0, rfl, h0, by rcases h1 with h1 | h1 <;> simp <;> omega, Kd.R_nil _ _ _ _ _, h.rdr, h.ut, fun a c => by rw [pList, h.ok a c]; rfl, fun a c => by rw [pList, h.bad a c]; rfl, h.old⟩
theorem LstG.done {xs : List α} {l' : List Int} {e' : Int} {u : Value} (hn : n = 0 ∨ e' ≠ 0) (hr : Rdr b wr g l' e' u) (hu : UT [172] b w wr) (h : LstF e e' R p n.toNat xs l') : GotS b w g e R xs wr l' e' u :=
 ⟨hr, hu, fun a c => by rcases hn with hn | hn; (rw [h.ok a c, hn]; rfl); (exact absurd c hn), h.bad, h.old⟩
/-- Old blocks stay. -/
theorem UT.low {T : List Nat} {w w1 w2 : World} (h : UT T b w w1) (k : Below w.heap.size w1 w2) : UT T b w w2 := ⟨k.os.trans h.os, k.tape.trans h.tape, k.output.trans h.output, Nat.le_trans h.size k.size, fun q hq hn => (k.block q hq).trans (h.same q hq hn)⟩
theorem Rdr.low {B : Nat} {w w1 : World} {l : List Int} {e : Int} {u : Value} (h : Rdr b w g l e u) (hg : g < B) (hB : b ≤ B) (hb : Below B w w1) : Rdr b w1 g l e u := by
 obtain ⟨A, c, hu1, hl, hi⟩ := h.inp
 exact ⟨(hb.block g hg).trans h.box, h.ge, ⟨A, c, hu1, hl, hi.ext ⟨hb.os, hb.tape, hb.output, hb.size, fun k hk => hb.block k (Nat.lt_of_lt_of_le hk hB)⟩⟩, h.bad, h.rng⟩
theorem LstG.next {w3 : World} {xs : List α} {x : α} {l' l2 : List Int} {e2 : Int} {u2 : Value} (hgw : g < w.heap.size) (h0 : 0 < n) (hm : xs.length + n ≤ most) (h : LstF e 0 R p n.toNat xs l') (hu : UT [172] b w wr) {v2 : Value} (hR : d.R ty w3 w.heap.size (News w) v2 (xs ++ [x])) (hg : GotS b wr g 0 (p xs l') x w1 l2 e2 u2) (hb : Below w.heap.size w1 w3) : LstG d ty b w g e most p R v2 (.int .i64 (n - 1)) w3 := by
 have hn : n.toNat = (n - 1).toNat + 1 := by omega
 refine ⟨xs ++ [x], n - 1, l2, e2, u2, rfl, by omega, .inl (by simp; omega), hR, hg.rdr.low hgw (Nat.le_of_lt (Nat.lt_of_le_of_lt hg.rdr.ge hgw)) hb, (hu.trans hg.ut).low hb, fun a c => ?_, fun a c => ?_, fun a => absurd (h.old a).symm a⟩
 ·rw [h.ok a rfl, hn, pMany, hg.ok rfl c, Rd.bind_ok]
 ·rw [h.ok a rfl, hn, pMany, hg.bad rfl c, Rd.bind_bad]
end
end Go.Proofs.YthmkioodkldgbaaGreat.DK
/- value.decoder: the plain reading of a value off bytes; fail, next walked; conditions: those in each theorem. -/
namespace Go.Proofs.YthmkioodkldgbaaGreat.DK
open Go.Proofs.YthmkioodkldgbaaGreat.PD
open Go.RowKit Go.Proofs.YthmkioodkldgbaaGreatW.PrintWords Go.Proofs.YthmkioodkldgbaaGreatW.PrintLast Go.Proofs.YthmkioodkldgbaaGreatW.PrintMore
set_option linter.unusedVariables false
set_option linter.unusedSimpArgs false
set_option maxRecDepth 100000
/-- The groups of an int, the i-th first. -/
def pInt : Nat → List Int → Rd Int
 | _, [] => .bad 28
 | i, c :: l => if (i = 9 ∧ 1 < c) ∨ (0 < i ∧ c = 0) then .bad 28 else if c < 128 then .ok c l else (pInt (i + 1) l).map fun u => c % 128 + 128 * u
/-- The int that the groups' number says. -/
def unz (u : Int) : Int := if u % 2 = 0 then u / 2 else -(u / 2) - 1
/-- A text. -/
def pText : List Int → Rd ByteArray
 | [] => .bad 28
 | n :: l => if 24 < n then .bad 21 else if l.length < n.toNat then .bad 28 else .ok (strOfNums (l.take n.toNat)) (l.drop n.toNat)
/-- So many values, one behind the other; p: the parts so far. -/
def pItems (f : Int → List Int → Rd (S25 × Int)) : Nat → List S25 → Int → List Int → Rd (List S25 × Int)
 | 0, acc, p, l => .ok (acc, p) l
 | n + 1, acc, p, l => (f p l).bind fun v l' => pItems f n (acc ++ [v.1]) v.2 l'
/-- A list: how many, then each. -/
def pLst (f : Int → List Int → Rd (S25 × Int)) (p : Int) : List Int → Rd (S25 × Int)
 | [] => .bad 28
 | n :: l => if 6 < n then .bad 22 else (pItems f n.toNat [] p l).map fun x => (⟨3, 0, ⟨#[]⟩, x.1⟩, x.2)
/-- A value; lst: what a list says. -/
def pOne (lst : Int → List Int → Rd (S25 × Int)) (p : Int) : List Int → Rd (S25 × Int)
 | [] => .bad 28
 | c :: l => if 12 < p + 1 then .bad 22 else if 3 < c then .bad 28 else if c = 1 then (pInt 0 l).map fun u => (⟨1, unz u, ⟨#[]⟩, []⟩, p + 1)
  else if c = 2 then (pText l).map fun t => (⟨2, 0, t, []⟩, p + 1) else if c = 3 then lst (p + 1) l else .ok (⟨0, 0, ⟨#[]⟩, []⟩, p + 1) l
/-- A value that may hold lists k deep. -/
def pDeep : Nat → Int → List Int → Rd (S25 × Int)
 | 0 => pOne fun _ _ => .bad 23
 | k + 1 => pOne (pLst (pDeep k))
/-- A value. -/
def pVal (l : List Int) : Rd S25 := (pDeep 3 0 l).map Prod.fst
/-- The decoder at block g: the rest l of all bytes, p parts. -/
structure Dec (b : Nat) (w : World) (g : Nat) (A : Option Addr) (c : Nat) (L : List Int) (i : Nat) (p : Int) : Prop where
 box : w.heap[g]? = some (.cells #[.slice A L.length c, .int .i64 i, .int .i64 p] 219 (0, 0))
 ge : b ≤ g
 inp : In (Kd.int .u8) b w A L
 le : i ≤ L.length
 cap : L.length ≤ c
 pp : 0 ≤ p ∧ p ≤ 12
 rng : ∀ x ∈ L, 0 ≤ x ∧ x ≤ 255
/-- What is thrown. -/
def thrown (e : Int) : List PanicEntry := [{ v := .iface 234 (.agg #[.int .i64 e, .int .i64 0]), recovered := false }]
section
variable {b : Nat} {w w1 : World} {g : Nat} {A : Option Addr} {c : Nat} {L : List Int} {i : Nat} {p : Int}
theorem Dec.b_le (h : Dec b w g A c L i p) : b ≤ w.heap.size := Nat.le_of_lt (Nat.lt_of_le_of_lt h.ge (blk_lt h.box))
theorem Dec.ut {T : List Nat} (h : Dec b w g A c L i p) (hu : UT T b w w1) (hT : 219 ∉ T) : Dec b w1 g A c L i p := ⟨hu.blk h.box hT, h.ge, h.inp.ext (hu.below h.b_le), h.le, h.cap, h.pp, h.rng⟩
theorem Dec.below (h : Dec b w g A c L i p) (hb : Below w.heap.size w w1) : Dec b w1 g A c L i p := h.ut (UT.of_below [] b hb) (by simp)
theorem Dec.setAt (h : Dec b w g A c L i p) (j : Nat) (hj : j ≤ L.length) : Dec b (w.setCell ⟨g, 1, none⟩ (.int .i64 j)) g A c L j p :=
 ⟨blk_set h.box, h.ge, h.inp.ext (((UT.refl [219] b w).set h.box (by simp) h.ge 1 (.int .i64 j)).below h.b_le), hj, h.cap, h.pp, h.rng⟩
theorem Dec.setP (h : Dec b w g A c L i p) (q : Int) (hq : 0 ≤ q ∧ q ≤ 12) : Dec b (w.setCell ⟨g, 2, none⟩ (.int .i64 q)) g A c L i q :=
 ⟨blk_set h.box, h.ge, h.inp.ext (((UT.refl [219] b w).set h.box (by simp) h.ge 2 (.int .i64 q)).below h.b_le), h.le, h.cap, hq, h.rng⟩
theorem Dec.set_ut (h : Dec b w g A c L i p) (j : Nat) (v : Value) : UT [219] b w (w.setCell ⟨g, j, none⟩ v) := (UT.refl _ _ _).set h.box (by simp) h.ge j v
set_option maxHeartbeats 4000000 in
theorem dfail_calls (v : Value) (x : Int) : Calls Tryz.prog 157 #[v, .int .i64 x] w (fun en w' => en = .panicked (thrown x) ∧ w' = w) := by
 have hp : ∀ (t : TypeId) (v : Value) (W : World), (Instr.panic (.iface t v)).run Tryz.prog W = .halt (.panic (.iface t v)) W := fun _ _ _ => rfl
 go_enter Tryz.func157, Tryz.ntmps157
 go_wp2
 exact ⟨rfl, rfl, rfl⟩
/-- Behind a step of the decoder: at i', p' parts; r what the bytes say. -/
structure DecS {α : Type} (b : Nat) (w : World) (g : Nat) (A : Option Addr) (c : Nat) (L : List Int) (r : Rd α) (x : α) (w' : World) (i' : Nat) (p' : Int) : Prop where
 dec : Dec b w' g A c L i' p'
 ut : UT [219] b w w'
 ok : r = .ok x (L.drop i')
/-- One letter. -/
def NextG (b : Nat) (w : World) (g : Nat) (A : Option Addr) (c : Nat) (L : List Int) (i : Nat) (p : Int) (en : Ending) (w' : World) : Prop :=
 (∃ h : i < L.length, en = .returned (.int .u8 L[i]) ∧ Dec b w' g A c L (i + 1) p ∧ UT [219] b w w') ∨ (L.length ≤ i ∧ en = .panicked (thrown 28) ∧ UT [219] b w w')
theorem NextG.ok_mk {w' : World} (h : i < L.length) {x : Int} (hx : x = L[i]) (hd : Dec b w' g A c L (i + 1) p) (hu : UT [219] b w w') : NextG b w g A c L i p (.returned (.int .u8 x)) w' := .inl ⟨h, by rw [hx], hd, hu⟩
theorem NextG.bad_mk {w' : World} (h : L.length ≤ i) (hu : UT [219] b w w') : NextG b w g A c L i p (.panicked (thrown 28)) w' := .inr ⟨h, rfl, hu⟩
set_option maxHeartbeats 4000000 in
theorem dnext_calls (h : Dec b w g A c L i p) : Calls Tryz.prog 156 #[.pointer (some ⟨g, 0, none⟩)] w (NextG b w g A c L i p) := by
 have m0 := blk_cell h.box 0
 have m1 := blk_cell h.box 1
 have q1 := blk_frozen h.box 1
 simp only [List.getElem?_toArray, List.getElem?_cons_succ, List.getElem?_cons_zero] at m0 m1 q1
 have hblk := blk_lt h.box
 have hlen : L.length ≤ 9223372036854775807 := h.inp.C.2.1
 have hle := h.le
 by_cases hi : i < L.length
 ·obtain ⟨ad, rfl, d0⟩ := h.inp.atInt hi
  have hib : ¬ (i : Int) = (L.length : Int) := by omega
  have hI := Aside0.mk h
  clear h
  go_enter Tryz.func156, Tryz.ntmps156
  go_wp2
  go_quiet (fail)
  go_wp2
  have hD := (hI.out.below (w1 := w.drewN nq) (pw_below_drewN (Below.refl _ _) nq)).setAt (i + 1) (by omega)
  have hU := ((UT.refl [219] b w).drewN nq).trans ((hI.out.below (w1 := w.drewN nq) (pw_below_drewN (Below.refl _ _) nq)).set_ut 1 (.int .i64 ((i + 1 : Nat) : Int)))
  push_cast at hD hU
  generalize (w.drewN nq).setCell ⟨g, 1, none⟩ (.int .i64 ((i : Int) + 1)) = W at *
  have n0 := blk_cell hD.box 0
  have n1 := blk_cell hD.box 1
  simp only [List.getElem?_toArray, List.getElem?_cons_succ, List.getElem?_cons_zero] at n0 n1
  obtain ⟨ad', e', d1⟩ := hD.inp.atInt hi
  injection e' with e'
  subst e'
  have HD := Aside0.mk hD
  have HU := Aside0.mk hU
  clear hD hU m0 m1 q1 d0
  go_quiet (fail)
  go_wp2
  go_ret
  exact NextG.ok_mk hi rfl (HD.out.below (pw_below_drewN (Below.refl _ _) nq)) (HU.out.drewN nq)
 ·have hib : (i : Int) = (L.length : Int) := by omega
  have hI := Aside0.mk h
  clear h
  go_enter Tryz.func156, Tryz.ntmps156
  go_wp2
  go_quiet (fail)
  go_wp2_with fail
  refine (dfail_calls _ 28).mono ?_
  rintro en w1 ⟨rfl, rfl⟩
  exact ⟨rfl, NextG.bad_mk (by omega) ((UT.refl _ _ _).drewN _)⟩
theorem or_shl64 (j : Nat) (hj : j ≤ 9) (n x : Int) (h0 : 0 ≤ n) (h1 : n < 128 ^ j) (h2 : 0 ≤ x) (h3 : x < 128) (h9 : j = 9 → x ≤ 1) : bits .or .u64 n (IntKind.u64.wrap (x * 2 ^ (7 * j))) = n + x * 128 ^ j := by
 have e128 : (128 : Int) ^ j = 2 ^ (7 * j) := by rw [Int.pow_mul]; rfl
 rw [e128] at h1 ⊢
 obtain ⟨a, rfl⟩ := Int.eq_ofNat_of_zero_le h0
 obtain ⟨c, rfl⟩ := Int.eq_ofNat_of_zero_le h2
 have hc : ((c * 2 ^ (7 * j) : Nat) : Int) = (c : Int) * 2 ^ (7 * j) := by push_cast; rfl
 have hm : c * 2 ^ (7 * j) < 18446744073709551616 := by
  by_cases h : j = 9
  ·subst h
   have := h9 rfl
   have : c * 2 ^ (7 * 9) ≤ 1 * 2 ^ (7 * 9) := Nat.mul_le_mul (by omega) (Nat.le_refl _)
   omega
  ·have hp : (2 : Nat) ^ (7 * j) ≤ 2 ^ 56 := Nat.pow_le_pow_right (by decide) (by omega)
   have : c * 2 ^ (7 * j) ≤ 127 * 2 ^ 56 := Nat.mul_le_mul (by omega) hp
   omega
 have hw : IntKind.u64.wrap ((c : Int) * 2 ^ (7 * j)) = (c : Int) * 2 ^ (7 * j) := by rw [← hc, wrap_u64]; omega
 rw [hw]
 have ha : a < 2 ^ (7 * j) := by exact_mod_cast h1
 have ha2 : a < 18446744073709551616 := by
  have hp : (2 : Nat) ^ (7 * j) ≤ 2 ^ 63 := Nat.pow_le_pow_right (by decide) (by omega)
  omega
 have hn := (bits_nat .u64 64 (by decide) (fun n h0 h1 => by rw [wrap_u64]; omega) a (c * 2 ^ (7 * j)) (by omega) (by omega)).2
 rw [hc] at hn
 rw [hn]
 have h := Nat.two_pow_add_eq_or_of_lt ha c
 rw [Nat.or_comm, Nat.mul_comm c, ← h, ← hc]
 push_cast
 rw [Int.mul_comm]
 omega
theorem unz_bits {u : Int} (h0 : 0 ≤ u) (h1 : u < 18446744073709551616) : bits .xor .i64 (wrap64 (u / 2)) (wrap64 (-wrap64 (bits .and .u64 u 1))) = unz u := by
 obtain ⟨a, rfl⟩ := Int.eq_ofNat_of_zero_le h0
 have ha := (bits_nat .u64 64 (by decide) (fun n h0 h1 => by rw [wrap_u64]; omega) a 1 (by omega) (by decide)).1
 rw [show ((1 : Nat) : Int) = 1 from rfl] at ha
 rw [ha, Nat.and_one_is_mod]
 have hd : wrap64 ((a : Int) / 2) = (a : Int) / 2 := by unfold wrap64; omega
 rw [hd]
 unfold unz
 by_cases h : a % 2 = 0
 ·rw [if_pos (by omega), h]
  have e1 : (a : Int) / 2 = ((a / 2 : Nat) : Int) := by omega
  have e2 : wrap64 (-wrap64 ((0 : Nat) : Int)) = ((0 : Nat) : Int) := by unfold wrap64; omega
  have hlt : a / 2 < 2 ^ 64 := by omega
  rw [e1, e2]
  show IntKind.i64.wrap (((BitVec.ofInt 64 ((a / 2 : Nat) : Int)) ^^^ (BitVec.ofInt 64 ((0 : Nat) : Int))).toNat : Int) = _
  rw [BitVec.ofInt_natCast, BitVec.ofInt_natCast, BitVec.toNat_xor, BitVec.toNat_ofNat, BitVec.toNat_ofNat, Nat.mod_eq_of_lt hlt, Nat.zero_mod, Nat.xor_zero, IntKind.wrap_i64]
  omega
 ·rw [if_neg (by omega), show a % 2 = 1 by omega]
  have e1 : (a : Int) / 2 = ((a / 2 : Nat) : Int) := by omega
  have e2 : wrap64 (-wrap64 ((1 : Nat) : Int)) = -1 := by unfold wrap64; omega
  have hlt : a / 2 < 2 ^ 64 := by omega
  rw [e1, e2]
  generalize hq : a / 2 = q at *
  have h3 : q ^^^ 18446744073709551615 = 18446744073709551615 - q := by
   have h2 := congrArg BitVec.toNat (BitVec.xor_allOnes (x := BitVec.ofNat 64 q))
   rw [BitVec.toNat_not, BitVec.toNat_xor, BitVec.toNat_allOnes, BitVec.toNat_ofNat, Nat.mod_eq_of_lt hlt] at h2
   exact h2
  show IntKind.i64.wrap (((BitVec.ofInt 64 (q : Int)) ^^^ (BitVec.ofInt 64 (-1 : Int))).toNat : Int) = _
  rw [BitVec.ofInt_natCast, show BitVec.ofInt 64 (-1) = BitVec.ofNat 64 18446744073709551615 by decide, BitVec.toNat_xor, BitVec.toNat_ofNat, BitVec.toNat_ofNat, Nat.mod_eq_of_lt hlt, Nat.mod_eq_of_lt (by decide : 18446744073709551615 < 2 ^ 64), h3, IntKind.wrap_i64]
  omega
theorem grow_lt (j : Nat) (hj : j ≤ 9) (n x : Int) (h0 : 0 ≤ n) (h1 : n < 128 ^ j) (h2 : 0 ≤ x) (h3 : x < 128) (h9 : j = 9 → x ≤ 1) : 0 ≤ n + x * 128 ^ j ∧ n + x * 128 ^ j < 128 ^ (j + 1) ∧ n + x * 128 ^ j < 18446744073709551616 := by
 have hp : (0 : Int) < 128 ^ j := Int.pow_pos (by decide)
 have hx : 0 ≤ x * 128 ^ j := Int.mul_nonneg h2 (Int.le_of_lt hp)
 have hx1 : x * 128 ^ j ≤ 127 * 128 ^ j := Int.mul_le_mul_of_nonneg_right (by omega) (Int.le_of_lt hp)
 rw [Int.pow_succ]
 refine ⟨by omega, by omega, ?_⟩
 by_cases h : j = 9
 ·subst h
  have := h9 rfl
  have hx2 : x * 128 ^ 9 ≤ 1 * 128 ^ 9 := Int.mul_le_mul_of_nonneg_right (by omega) (Int.le_of_lt hp)
  omega
 ·have hq : (128 : Int) ^ j ≤ 128 ^ 8 := by
   have : (128 : Nat) ^ j ≤ 128 ^ 8 := Nat.pow_le_pow_right (by decide) (by omega)
   exact_mod_cast this
  omega
/-- The int while it is read: j groups so far, their number n. -/
structure IntI (b : Nat) (w : World) (g : Nat) (A : Option Addr) (c : Nat) (L : List Int) (i : Nat) (p : Int) (j : Nat) (n : Int) (wr : World) : Prop where
 dec : Dec b wr g A c L (i + j) p
 ut : UT [219] b w wr
 hj : j ≤ 9
 n0 : 0 ≤ n
 n1 : n < 128 ^ j
 eq : pInt 0 (L.drop i) = (pInt j (L.drop (i + j))).map fun v => n + 128 ^ j * v
def IntE (b : Nat) (w : World) (g : Nat) (A : Option Addr) (c : Nat) (L : List Int) (i : Nat) (p : Int) (nv iv : Value) (wr : World) : Prop := ∃ (j : Nat) (n : Int), iv = .int .i64 j ∧ nv = .int .u64 n ∧ IntI b w g A c L i p j n wr
/-- An int. -/
def IntG (b : Nat) (w : World) (g : Nat) (A : Option Addr) (c : Nat) (L : List Int) (i : Nat) (p : Int) (en : Ending) (w' : World) : Prop :=
 (∃ u i', en = .returned (.int .i64 (unz u)) ∧ 0 ≤ u ∧ u < 18446744073709551616 ∧ DecS b w g A c L (pInt 0 (L.drop i)) u w' i' p) ∨ (∃ x, pInt 0 (L.drop i) = .bad x ∧ en = .panicked (thrown x) ∧ UT [219] b w w')
theorem drop_lt {i : Nat} (h : i < L.length) : L.drop i = L[i] :: L.drop (i + 1) := List.drop_eq_getElem_cons h
theorem map_map2 (r : Rd Int) (n y z : Int) (j : Nat) : (r.map fun u => y + 128 * u).map (fun v => n + 128 ^ j * v) = r.map fun v => n + y * 128 ^ j + 128 ^ (j + 1) * v := by
 cases r with
 | bad e => rfl
 | ok v l =>
  simp only [Rd.map]
  congr 1
  rw [Int.mul_add, Int.pow_succ, Int.mul_comm y, ← Int.mul_assoc, Int.add_assoc]
set_option maxHeartbeats 8000000 in
theorem dint_calls (h : Dec b w g A c L i p) : Calls Tryz.prog 158 #[.pointer (some ⟨g, 0, none⟩)] w (IntG b w g A c L i p) := by
 have H := Aside0.mk h
 clear h
 go_enter Tryz.func158, Tryz.ntmps158
 go_wp2
 go_loopw [3, 4] (fun nv iv wr => IntE b w g A c L i p nv iv wr) (fun _ iv _ => 10 - (intOf iv).toNat)
 case atStart => exact ⟨0, 0, rfl, rfl, H.out, UT.refl _ _ _, by omega, by omega, by decide, by cases h : pInt 0 (L.drop i) <;> simp [Rd.map, h]⟩
 case round =>
  obtain ⟨j, n, rfl, rfl, hs⟩ := hrel
  have HS := Aside0.mk hs
  clear hs
  go_wp2_with fail
  refine (dnext_calls HS.out.dec).mono ?_
  intro en w1 hn
  rcases hn with ⟨hlt, rfl, hd, hu⟩ | ⟨hge, rfl, hu⟩
  ·have hr := HS.out.dec.rng L[i + j] (List.getElem_mem hlt)
   have hdr := drop_lt hlt
   have heq := HS.out.eq
   have hj9 := HS.out.hj
   rw [hdr, pInt] at heq
   generalize L[i + j] = x at *
   have HD := Aside0.mk hd
   have HU := Aside0.mk (HS.out.ut.trans hu)
   clear hd hu
   by_cases hbad : (j = 9 ∧ 1 < x) ∨ (0 < j ∧ x = 0)
   ·rw [if_pos hbad] at heq
    have HE := Aside0.mk heq
    clear heq hdr
    by_cases h9 : j = 9
    ·subst h9
     by_cases h1 : x > 1
     ·go_wp2_with fail
      refine (dfail_calls _ 28).mono ?_
      rintro en w2 ⟨rfl, rfl⟩
      exact ⟨rfl, .inr ⟨_, HE.out, rfl, HU.out⟩⟩
     ·have hx : x = 0 := by omega
      subst hx
      go_wp2_with fail
      refine (dfail_calls _ 28).mono ?_
      rintro en w2 ⟨rfl, rfl⟩
      exact ⟨rfl, .inr ⟨_, HE.out, rfl, HU.out⟩⟩
    ·have h9b : ¬ (j : Int) = 9 := by omega
     have h0 : (j : Int) > 0 := by omega
     have hx : x = 0 := by omega
     subst hx
     go_wp2_with fail
     refine (dfail_calls _ 28).mono ?_
     rintro en w2 ⟨rfl, rfl⟩
     exact ⟨rfl, .inr ⟨_, HE.out, rfl, HU.out⟩⟩
   ·rw [if_neg hbad] at heq
    have hx7 := and127 hr.1 hr.2
    have hb := or_shl64 j hj9 n (x % 128) HS.out.n0 HS.out.n1 (by omega) (by omega) (fun h => by have : ¬ (j = 9 ∧ 1 < x) := fun hh => hbad (.inl hh); omega)
    have hgr := grow_lt j hj9 n (x % 128) HS.out.n0 HS.out.n1 (by omega) (by omega) (fun h => by have : ¬ (j = 9 ∧ 1 < x) := fun hh => hbad (.inl hh); omega)
    by_cases hlow : x < 128
    ·rw [if_pos hlow] at heq
     have HE := Aside0.mk heq
     clear heq hdr
     by_cases h9 : j = 9
     ·subst h9
      have h1 : ¬ x > 1 := fun hh => hbad (.inl ⟨rfl, hh⟩)
      have hx0 : ¬ x = 0 := fun hh => hbad (.inr ⟨by decide, hh⟩)
      have hcb : (decide (1 < x) || x == 0) = false := by simp; omega
      have HG := Aside0.mk hgr
      clear hgr
      go_wp2
      rw [show x % 128 * 9223372036854775808 = IntKind.u64.wrap (x % 128 * 2 ^ (7 * 9)) by rw [wrap_u64]; omega, hb, unz_bits HG.out.1 HG.out.2.2]
      go_ret
      exact .inl ⟨_, i + 9 + 1, rfl, HG.out.1, HG.out.2.2, ⟨HD.out, HU.out, by rw [HE.out, show x % 128 = x by omega, Int.mul_comm x]; rfl⟩⟩
     ·have h9b : ¬ (j : Int) = 9 := by omega
      have HG := Aside0.mk hgr
      clear hgr
      by_cases hj0 : 0 < j
      ·have hj0i : (j : Int) > 0 := by omega
       have hx0 : ¬ x = 0 := fun hh => hbad (.inr ⟨hj0, hh⟩)
       have hx0b : (x == 0) = false := by simpa using hx0
       go_wp2
       rw [unz_bits HG.out.1 HG.out.2.2]
       go_ret
       exact .inl ⟨_, i + j + 1, rfl, HG.out.1, HG.out.2.2, ⟨HD.out, HU.out, by rw [HE.out, show x % 128 = x by omega, Int.mul_comm x]; rfl⟩⟩
      ·have hj0i : ¬ (j : Int) > 0 := by omega
       go_wp2
       rw [unz_bits HG.out.1 HG.out.2.2]
       go_ret
       exact .inl ⟨_, i + j + 1, rfl, HG.out.1, HG.out.2.2, ⟨HD.out, HU.out, by rw [HE.out, show x % 128 = x by omega, Int.mul_comm x]; rfl⟩⟩
    ·rw [if_neg hlow] at heq
     have hj8 : ¬ j = 9 := fun h => hbad (.inl ⟨h, by omega⟩)
     have h9b : ¬ (j : Int) = 9 := by omega
     have HE := Aside0.mk heq
     have HG := Aside0.mk hgr
     clear heq hdr hgr
     by_cases hj0 : 0 < j
     ·have hj0i : (j : Int) > 0 := by omega
      have hx0 : ¬ x = 0 := fun hh => hbad (.inr ⟨hj0, hh⟩)
      have hx0b : (x == 0) = false := by simpa using hx0
      go_wp2
      go_roundw
      case rel => exact ⟨j + 1, _, by simp, rfl, HD.out, HU.out, by omega, HG.out.1, HG.out.2.1, by rw [HE.out]; exact map_map2 _ _ _ 0 _⟩
      case measure => simp [intOf]; omega
     ·have hj0i : ¬ (j : Int) > 0 := by omega
      go_wp2
      go_roundw
      case rel => exact ⟨j + 1, _, by simp, rfl, HD.out, HU.out, by omega, HG.out.1, HG.out.2.1, by rw [HE.out]; exact map_map2 _ _ _ 0 _⟩
      case measure => simp [intOf]; omega
  ·have heq := HS.out.eq
   rw [List.drop_eq_nil_of_le hge, pInt] at heq
   have HE := Aside0.mk heq
   have HU := Aside0.mk (HS.out.ut.trans hu)
   clear heq hu
   exact ⟨rfl, .inr ⟨_, HE.out, rfl, HU.out⟩⟩
end
end Go.Proofs.YthmkioodkldgbaaGreat.DK
/- value.decoder.text; conditions: those in each theorem. -/
namespace Go.Proofs.YthmkioodkldgbaaGreat.DK
open Go.Proofs.YthmkioodkldgbaaGreat.PD
open Go.RowKit Go.Proofs.YthmkioodkldgbaaGreatW.PrintWords Go.Proofs.YthmkioodkldgbaaGreatW.PrintLast Go.Proofs.YthmkioodkldgbaaGreatW.PrintMore
set_option linter.unusedVariables false
set_option linter.unusedSimpArgs false
set_option maxRecDepth 100000
section
variable {b : Nat} {w w1 : World} {g : Nat} {A : Option Addr} {c : Nat} {L : List Int} {i : Nat} {p : Int}
/-- A text. -/
def TextG (b : Nat) (w : World) (g : Nat) (A : Option Addr) (c : Nat) (L : List Int) (i : Nat) (p : Int) (en : Ending) (w' : World) : Prop :=
 (∃ s i', en = .returned (.string s) ∧ DecS b w g A c L (pText (L.drop i)) s w' i' p) ∨ (∃ x, pText (L.drop i) = .bad x ∧ en = .panicked (thrown x) ∧ UT [219] b w w')
theorem TextG.bad_mk {w' : World} {x : Int} (h : pText (L.drop i) = .bad x) (hu : UT [219] b w w') : TextG b w g A c L i p (.panicked (thrown x)) w' := .inr ⟨x, h, rfl, hu⟩
theorem TextG.ok_mk {w' : World} {s : ByteArray} {i' : Nat} (h : pText (L.drop i) = .ok s (L.drop i')) (hd : Dec b w' g A c L i' p) (hu : UT [219] b w w') : TextG b w g A c L i p (.returned (.string s)) w' := .inl ⟨s, i', rfl, hd, hu, h⟩
theorem take_drop_mid (L : List Int) (a m : Nat) : (L.take (a + m)).drop a = (L.drop a).take m := by rw [List.drop_take]; simp
set_option maxHeartbeats 8000000 in
theorem dtext_calls (h : Dec b w g A c L i p) : Calls Tryz.prog 159 #[.pointer (some ⟨g, 0, none⟩)] w (TextG b w g A c L i p) := by
 have H := Aside0.mk h
 clear h
 go_enter Tryz.func159, Tryz.ntmps159
 go_wp2_with fail
 refine (dnext_calls H.out).mono ?_
 intro en w1 hn
 rcases hn with ⟨hlt, rfl, hd, hu⟩ | ⟨hge, rfl, hu⟩
 ·have hr := H.out.rng L[i] (List.getElem_mem hlt)
  have hdr := drop_lt hlt
  have hpt := congrArg pText hdr
  rw [pText] at hpt
  generalize L[i] = x at *
  obtain ⟨m, rfl⟩ := Int.eq_ofNat_of_zero_le hr.1
  rw [Int.toNat_natCast] at hpt
  have HD := Aside0.mk hd
  have HU := Aside0.mk hu
  clear hd hu hdr
  by_cases h24 : 24 < (m : Int)
  ·rw [if_pos h24] at hpt
   have HP := Aside0.mk hpt
   clear hpt
   go_wp2_with fail
   refine (dfail_calls _ 21).mono ?_
   rintro en w2 ⟨rfl, rfl⟩
   exact ⟨rfl, TextG.bad_mk HP.out HU.out⟩
  ·rw [if_neg h24] at hpt
   have hle := HD.out.le
   have hlen : L.length ≤ 9223372036854775807 := HD.out.inp.C.2.1
   have m0 := blk_cell HD.out.box 0
   have m1 := blk_cell HD.out.box 1
   simp only [List.getElem?_toArray, List.getElem?_cons_succ, List.getElem?_cons_zero] at m0 m1
   rw [List.length_drop] at hpt
   by_cases hsh : L.length - (i + 1) < m
   ·rw [if_pos hsh] at hpt
    have HP := Aside0.mk hpt
    clear hpt
    have hshi : (L.length : Int) - ((i : Int) + 1) < m := by omega
    push_cast at m1
    go_wp2
    go_quiet (fail)
    go_wp2_with fail
    refine (dfail_calls _ 28).mono ?_
    rintro en w2 ⟨rfl, rfl⟩
    exact ⟨rfl, TextG.bad_mk HP.out (HU.out.drewN _)⟩
   ·rw [if_neg hsh] at hpt
    have HP := Aside0.mk hpt
    clear hpt
    have hshi : ¬ (L.length : Int) - ((i : Int) + 1) < m := by omega
    have q1 := blk_frozen HD.out.box 1
    have hblk := blk_lt HD.out.box
    have hmid := print_mid_of (P := Tryz.prog) (Value.int .u8) (0 : Int) 49 5 .i64 .i64 Tryz.underlying49 (info_parts info5).choose_spec.1 (info_parts info5).choose_spec.2.2.1 A c L ((i : Int) + 1) ((i : Int) + 1 + m) (by omega) (by omega) (by omega) HD.out.cap
    obtain ⟨A', hcut, hrd, _⟩ := hmid
    have et1 : ((i : Int) + 1).toNat = i + 1 := by omega
    have et2 : ((i : Int) + 1 + m).toNat = i + 1 + m := by omega
    have et3 : (List.take m (List.drop (i + 1) L)).length = m := by rw [List.length_take, List.length_drop]; omega
    rw [et1, et2, take_drop_mid, et3] at hcut hrd
    push_cast at m1
    go_wp2
    go_quiet (fail)
    go_wp2
    have hD := (HD.out.below (w1 := w1.drewN nq) (pw_below_drewN (Below.refl _ _) nq)).setAt (i + 1 + m) (by omega)
    have hU := (HU.out.drewN nq).trans ((HD.out.below (w1 := w1.drewN nq) (pw_below_drewN (Below.refl _ _) nq)).set_ut 1 (.int .i64 ((i + 1 + m : Nat) : Int)))
    push_cast at hD hU
    generalize (w1.drewN nq).setCell ⟨g, 1, none⟩ (.int .i64 ((i : Int) + 1 + m)) = W at *
    have n0 := blk_cell hD.box 0
    have n1 := blk_cell hD.box 1
    simp only [List.getElem?_toArray, List.getElem?_cons_succ, List.getElem?_cons_zero] at n0 n1
    have hcv : ∀ k, (convert 49 9 (.slice A' m (c - (i + 1)))).run Tryz.prog (W.drewN k) = .ok (.string (strOfNums (List.take m (List.drop (i + 1) L)))) (W.drewN k) := fun k => string_of_reads (P := Tryz.prog) (c := c - (i + 1)) Tryz.underlying49 Tryz.underlying5 Tryz.underlying9 (hrd (W.drewN k) (Kd.reads_of_C (d := (0 : Int)) (hD.below (w1 := W.drewN k) (pw_below_drewN (Below.refl _ _) k)).inp.C))
    have hwr : IntKind.i64.wrap ((i : Int) + 1) = (i : Int) + 1 := by rw [IntKind.wrap_i64]; omega
    have HD2 := Aside0.mk hD
    have HU2 := Aside0.mk hU
    clear hD hU m0 m1 q1 hrd
    go_quiet (fail)
    go_wp2
    go_ret
    exact TextG.ok_mk (i' := i + 1 + m) (by rw [HP.out, List.drop_drop]) (HD2.out.below (pw_below_drewN (Below.refl _ _) nq)) (HU2.out.drewN nq)
 ·have hpt : pText (L.drop i) = .bad 28 := by rw [List.drop_eq_nil_of_le hge]; rfl
  exact ⟨rfl, TextG.bad_mk hpt hu⟩
end
end Go.Proofs.YthmkioodkldgbaaGreat.DK
