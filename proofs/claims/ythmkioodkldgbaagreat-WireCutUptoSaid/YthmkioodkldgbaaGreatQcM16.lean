/- wire.reader.mark, key; conditions: those in each theorem. -/
import Derived.Test.YthmkioodkldgbaaGreatQcM15
namespace Go.Proofs.YthmkioodkldgbaaGreat.DK
open Go.Proofs.YthmkioodkldgbaaGreat.PD
open Go.RowKit Go.Proofs.YthmkioodkldgbaaGreatW.PrintWords Go.Proofs.YthmkioodkldgbaaGreatW.PrintLast Go.Proofs.YthmkioodkldgbaaGreatW.PrintMore
set_option linter.unusedVariables false
set_option linter.unusedSimpArgs false
set_option maxRecDepth 100000
/-- A mark. -/
def pMark (m : Int) : List Int → Rd Unit
 | [] => .bad 40
 | c :: l => if c = m then .ok () l else .bad 41
def Marked (b : Nat) (w : World) (g : Nat) (l : List Int) (e m : Int) (en : Ending) (w' : World) : Prop :=
 en = .returned (.tuple #[]) ∧ match pMark m l with
 | .ok _ l' => RdrP b w g l' e w'
 | .bad c => RdrP b w g [] (bump e c) w'
theorem RdrP.trans {b : Nat} {w w1 w2 : World} {g : Nat} {l l' : List Int} {e e' : Int} (h : RdrP b w g l e w1) (k : RdrP b w1 g l' e' w2) : RdrP b w g l' e' w2 := ⟨k.1, h.2.trans k.2⟩
section
variable {b : Nat} {w : World} {g : Nat} {l : List Int} {e : Int} {u : Value}
set_option maxHeartbeats 4000000 in
theorem rmark_calls (h : Rdr b w g l e u) (m : Int) : Calls Tryz.prog 104 #[.pointer (some ⟨g, 0, none⟩), .int .u8 m] w (Marked b w g l e m) := by
 have H := Aside0.mk h
 clear h
 go_enter Tryz.func104, Tryz.ntmps104
 go_wp2_with fail
 refine (rtake_calls H.out 1).mono ?_
 intro en w1 h1
 unfold Took at h1
 cases l with
 | nil =>
  rw [if_neg (by simp)] at h1
  obtain ⟨rfl, h2⟩ := h1
  have HP := Aside0.mk h2
  clear h2
  go_wp2
  first | go_end0 | ((try simp only [Exit.inBlock, Exit.then]); refine bodyPost_ret (results_none rfl _ _ _) rfl ?_)
  exact ⟨rfl, HP.out⟩
 | cons x l =>
  rw [if_pos (by simp)] at h1
  obtain ⟨A, rfl, hi, h2⟩ := h1
  have HP := Aside0.mk h2
  obtain ⟨ad, rfl, d0⟩ := In.atInt (l := [x]) (by simpa using hi) (i := 0) (by simp)
  replace d0 : w1.cell? ad = some (.int .u8 x) := by simpa [Addr.add] using d0
  clear h2 hi
  by_cases hx : x = m
  ·have hxb : (x == m) = true := by simpa using hx
   go_wp2
   first | go_end0 | ((try simp only [Exit.inBlock, Exit.then]); refine bodyPost_ret (results_none rfl _ _ _) rfl ?_)
   exact ⟨rfl, by rw [pMark, if_pos hx]; exact HP.out⟩
  ·have hxb : (x == m) = false := by simpa using hx
   obtain ⟨⟨u1, hr1⟩, hu1⟩ := HP.out
   have HR := Aside0.mk hr1
   clear hr1 hu1
   go_wp2_with fail
   refine (rfail_calls HR.out 41).mono ?_
   rintro en w2 ⟨rfl, h3⟩
   have HQ := Aside0.mk (HP.out.trans h3)
   clear h3
   go_wp2
   first | go_end0 | ((try simp only [Exit.inBlock, Exit.then]); refine bodyPost_ret (results_none rfl _ _ _) rfl ?_)
   exact ⟨rfl, by rw [pMark, if_neg hx]; exact HQ.out⟩
/-- A key. -/
def pKey (l : List Int) : Rd ByteArray := (pNum 12 l).bind fun n l' => (pTake n.toNat l').bind fun xs l'' => .ok (strOfNums xs) l''
def Keyed (b : Nat) (w : World) (g : Nat) (l : List Int) (e : Int) (en : Ending) (w' : World) : Prop :=
 ∃ s, en = .returned (.string s) ∧ match pKey l with
 | .ok k l' => s = k ∧ RdrP b w g l' e w'
 | .bad c => RdrP b w g [] (bump e c) w'
theorem Keyed.ok_mk {w' : World} {k : ByteArray} {l' : List Int} (hp : pKey l = .ok k l') (h : RdrP b w g l' e w') : Keyed b w g l e (.returned (.string k)) w' := ⟨k, rfl, by rw [hp]; exact ⟨rfl, h⟩⟩
theorem Keyed.bad_mk {w' : World} {s : ByteArray} {c : Int} (hp : pKey l = .bad c) (h : RdrP b w g [] (bump e c) w') : Keyed b w g l e (.returned (.string s)) w' := ⟨s, rfl, by rw [hp]; exact h⟩
theorem pNum_pos {most : Int} {l l' : List Int} {n : Int} (h : pNum most l = .ok n l') : 0 ≤ n ∧ n ≤ most := by
 unfold pNum at h
 simp only at h
 split at h
 ·cases h
 split at h
 ·cases h
 split at h
 ·cases h
 split at h
 ·injection h with h1 h2
  subst h1
  exact ⟨(grps_bounds _ _).1, by assumption⟩
 ·cases h
theorem In.conv {w1 : World} {A : Option Addr} {xs : List Int} (h : In (Kd.int .u8) b w1 A xs) : (convert 49 9 (.slice A xs.length xs.length)).run Tryz.prog w1 = .ok (.string (strOfNums xs)) w1 :=
 string_of_reads Tryz.underlying49 Tryz.underlying5 Tryz.underlying9 (Kd.reads_of_C (d := (0 : Int)) h.C)
set_option maxHeartbeats 4000000 in
theorem rkey_calls (h : Rdr b w g l e u) : Calls Tryz.prog 113 #[.pointer (some ⟨g, 0, none⟩)] w (Keyed b w g l e) := by
 have H := Aside0.mk h
 clear h
 go_enter Tryz.func113, Tryz.ntmps113
 go_wp2_with fail
 refine (rnumber_calls H.out 12).mono ?_
 intro en w1 h1
 unfold Numd at h1
 cases hp : pNum 12 l with
 | bad c =>
  rw [hp] at h1
  obtain ⟨rfl, hq⟩ := h1
  have HK := Aside0.mk (show pKey l = .bad c by rw [pKey, hp]; rfl)
  have HP := Aside0.mk hq
  obtain ⟨⟨u1, hr1⟩, hu1⟩ := hq
  have HR := Aside0.mk hr1
  clear hr1 hu1 hp
  go_wp2_with fail
  refine (rtake_calls HR.out 0).mono ?_
  intro en w2 h2
  unfold Took at h2
  rw [if_pos (by simp)] at h2
  obtain ⟨A, rfl, hi, h3⟩ := h2
  have HQ := Aside0.mk (HP.out.trans h3)
  have hcv := hi.conv
  simp only [List.take_nil, List.length_nil] at hcv
  clear hi h3
  go_wp2
  go_ret
  exact Keyed.bad_mk HK.out HQ.out
 | ok n l' =>
  rw [hp] at h1
  obtain ⟨rfl, hq⟩ := h1
  obtain ⟨m, rfl⟩ := Int.eq_ofNat_of_zero_le (pNum_pos hp).1
  have HP := Aside0.mk hq
  obtain ⟨⟨u1, hr1⟩, hu1⟩ := hq
  have HR := Aside0.mk hr1
  clear hr1 hu1
  by_cases hm : m ≤ l'.length
  ·have HK := Aside0.mk (show pKey l = .ok (strOfNums (l'.take m)) (l'.drop m) by rw [pKey, hp]; simp [pTake, Nat.not_lt.2 hm])
   clear hp
   go_wp2_with fail
   refine (rtake_calls HR.out m).mono ?_
   intro en w2 h2
   unfold Took at h2
   rw [if_pos hm] at h2
   obtain ⟨A, rfl, hi, h3⟩ := h2
   have HQ := Aside0.mk (HP.out.trans h3)
   have hcv := hi.conv
   rw [List.length_take, Nat.min_eq_left hm] at hcv
   clear hi h3
   go_wp2
   go_ret
   exact Keyed.ok_mk HK.out HQ.out
  ·have HK := Aside0.mk (show pKey l = .bad 40 by rw [pKey, hp]; simp [pTake, Nat.not_le.1 hm])
   clear hp
   go_wp2_with fail
   refine (rtake_calls HR.out m).mono ?_
   intro en w2 h2
   unfold Took at h2
   rw [if_neg hm] at h2
   obtain ⟨rfl, h3⟩ := h2
   have HQ := Aside0.mk (HP.out.trans h3)
   have hcv := string_of_reads (P := Tryz.prog) (w := w2) (A := none) (n := 0) (c := 0) (xs := []) Tryz.underlying49 Tryz.underlying5 Tryz.underlying9 ⟨rfl, Nat.zero_le _, fun hh => absurd hh (Nat.lt_irrefl _)⟩
   clear h3
   go_wp2
   go_ret
   exact Keyed.bad_mk HK.out HQ.out
end
end Go.Proofs.YthmkioodkldgbaaGreat.DK
/- wire.reader.word; conditions: those in each theorem. -/
namespace Go.Proofs.YthmkioodkldgbaaGreat.DK
open Go.Proofs.YthmkioodkldgbaaGreat.PD
open Go.RowKit Go.Proofs.YthmkioodkldgbaaGreatW.PrintWords Go.Proofs.YthmkioodkldgbaaGreatW.PrintLast Go.Proofs.YthmkioodkldgbaaGreatW.PrintMore
set_option linter.unusedVariables false
set_option linter.unusedSimpArgs false
set_option maxRecDepth 100000
/-- A word. -/
def pWord : List Int → Rd Int
 | a :: b :: c :: d :: l => .ok (a + 256 * b + 65536 * c + 16777216 * d) l
 | _ => .bad 40
theorem or32 (k : Nat) {x y : Int} (h0 : 0 ≤ x) (h1 : x < 2 ^ k) (hk : k ≤ 24) (h2 : 0 ≤ y) (h3 : y ≤ 255) : bits .or .u32 x (y * 2 ^ k) = x + y * 2 ^ k := by
 obtain ⟨a, rfl⟩ := Int.eq_ofNat_of_zero_le h0
 obtain ⟨c, rfl⟩ := Int.eq_ofNat_of_zero_le h2
 have hp : (2 : Nat) ^ k ≤ 2 ^ 24 := Nat.pow_le_pow_right (by decide) hk
 have ha : a < 2 ^ k := by exact_mod_cast h1
 have hm : c * 2 ^ k ≤ 255 * 2 ^ 24 := Nat.mul_le_mul (by omega) hp
 have hn := (bits_nat .u32 32 (by decide) (fun n h0 h1 => by simp [IntKind.wrap, IntKind.bits, IntKind.signed]; omega) a (c * 2 ^ k) (by omega) (by omega)).2
 have hc : ((c * 2 ^ k : Nat) : Int) = (c : Int) * 2 ^ k := by push_cast; rfl
 rw [hc] at hn
 rw [hn]
 have h := Nat.two_pow_add_eq_or_of_lt ha c
 rw [Nat.or_comm, Nat.mul_comm c, ← h, ← hc]
 push_cast
 rw [Int.mul_comm]
 omega
def Worded (b : Nat) (w : World) (g : Nat) (l : List Int) (e : Int) (en : Ending) (w' : World) : Prop :=
 ∃ n, en = .returned (.int .u32 n) ∧ match pWord l with
 | .ok k l' => n = k ∧ RdrP b w g l' e w'
 | .bad c => RdrP b w g [] (bump e c) w'
section
variable {b : Nat} {w : World} {g : Nat} {l : List Int} {e : Int} {u : Value}
set_option maxHeartbeats 4000000 in
theorem rword_calls (h : Rdr b w g l e u) : Calls Tryz.prog 105 #[.pointer (some ⟨g, 0, none⟩)] w (Worded b w g l e) := by
 have H := Aside0.mk h
 clear h
 go_enter Tryz.func105, Tryz.ntmps105
 go_wp2_with fail
 refine (rtake_calls H.out 4).mono ?_
 intro en w1 h1
 unfold Took at h1
 by_cases hl : 4 ≤ l.length
 ·match l, hl with
  | c0 :: c1 :: c2 :: c3 :: l, hl =>
   rw [if_pos hl] at h1
   obtain ⟨A, rfl, hi, h2⟩ := h1
   have HP := Aside0.mk h2
   have hi' : In (Kd.int .u8) b w1 A [c0, c1, c2, c3] := by simpa using hi
   obtain ⟨ad, rfl, d0⟩ := hi'.atInt (i := 0) (by simp)
   obtain ⟨_, e1, d1⟩ := hi'.atInt (i := 1) (by simp)
   injection e1 with e1
   subst e1
   obtain ⟨_, e1, d2⟩ := hi'.atInt (i := 2) (by simp)
   injection e1 with e1
   subst e1
   obtain ⟨_, e1, d3⟩ := hi'.atInt (i := 3) (by simp)
   injection e1 with e1
   subst e1
   simp only [List.getElem_cons_zero, List.getElem_cons_succ] at d0 d1 d2 d3
   replace d0 : w1.cell? ad = some (.int .u8 c0) := by simpa [Addr.add] using d0
   replace d1 : w1.cell? ⟨ad.block, ad.off + 1, none⟩ = some (.int .u8 c1) := by simpa [Addr.add] using d1
   replace d2 : w1.cell? ⟨ad.block, ad.off + 2, none⟩ = some (.int .u8 c2) := by simpa [Addr.add] using d2
   replace d3 : w1.cell? ⟨ad.block, ad.off + 3, none⟩ = some (.int .u8 c3) := by simpa [Addr.add] using d3
   have hr := H.out.rng
   have r0 := hr c0 (by simp)
   have r1 := hr c1 (by simp)
   have r2 := hr c2 (by simp)
   have r3 := hr c3 (by simp)
   clear h2 hi hi' hr
   go_wp2
   go_quiet (fail)
   go_wp2
   have q1 := or32 8 r0.1 (by omega) (by decide) r1.1 r1.2
   have q2 := or32 16 (x := c0 + c1 * 2 ^ 8) (by omega) (by omega) (by decide) r2.1 r2.2
   have q3 := or32 24 (x := c0 + c1 * 2 ^ 8 + c2 * 2 ^ 16) (by omega) (by omega) (by decide) r3.1 r3.2
   have q : bits .or .u32 (bits .or .u32 (bits .or .u32 c0 (c1 * 256)) (c2 * 65536)) (c3 * 16777216) = c0 + 256 * c1 + 65536 * c2 + 16777216 * c3 := by
    rw [show c1 * 256 = c1 * 2 ^ 8 by omega, q1, show c2 * 65536 = c2 * 2 ^ 16 by omega, q2, show c3 * 16777216 = c3 * 2 ^ 24 by omega, q3]
    omega
   go_ret
   exact ⟨_, rfl, q, HP.out.drewN _⟩
 ·rw [if_neg hl] at h1
  obtain ⟨rfl, h2⟩ := h1
  have HP := Aside0.mk h2
  have hp : pWord l = .bad 40 := by
   match l, hl with
   | [], _ => rfl
   | [_], _ => rfl
   | [_, _], _ => rfl
   | [_, _, _], _ => rfl
   | _ :: _ :: _ :: _ :: _, hl => exact absurd (by simp) hl
  have HQ := Aside0.mk hp
  clear h2 hp
  go_wp2
  go_ret
  exact ⟨0, rfl, by rw [HQ.out]; exact HP.out⟩
end
end Go.Proofs.YthmkioodkldgbaaGreat.DK
/- Words for the gets: what a reading leaves (GotS), one behind another; rows that stay; conditions: those in each theorem. -/
namespace Go.Proofs.YthmkioodkldgbaaGreat.DK
open Go.Proofs.YthmkioodkldgbaaGreat.PD
open Go.RowKit Go.Proofs.YthmkioodkldgbaaGreatW.PrintWords Go.Proofs.YthmkioodkldgbaaGreatW.PrintLast Go.Proofs.YthmkioodkldgbaaGreatW.PrintMore
set_option linter.unusedVariables false
set_option linter.unusedSimpArgs false
/-- Behind a reading: l' is left, e' the error, x what was read, r what the bytes say. -/
structure GotS {α : Type} (b : Nat) (w : World) (g : Nat) (e : Int) (r : Rd α) (x : α) (w' : World) (l' : List Int) (e' : Int) (u : Value) : Prop where
 rdr : Rdr b w' g l' e' u
 ut : UT [172] b w w'
 ok : e = 0 → e' = 0 → r = .ok x l'
 bad : e = 0 → e' ≠ 0 → r = .bad e'
 old : e ≠ 0 → e' = e
namespace GotS
variable {α β : Type} {b : Nat} {w w1 w2 : World} {g : Nat} {e e1 e2 : Int} {r : Rd α} {x : α} {y : β} {l l1 l2 : List Int} {u u1 u2 : Value}
theorem pure (h : Rdr b w g l e u) (x : α) : GotS b w g e (.ok x l) x w l e u := ⟨h, UT.refl _ _ _, fun _ _ => rfl, fun h0 h1 => absurd h0 h1, fun _ => rfl⟩
theorem bind {f : α → List Int → Rd β} (h : GotS b w g e r x w1 l1 e1 u1) (k : GotS b w1 g e1 (f x l1) y w2 l2 e2 u2) : GotS b w g e (r.bind f) y w2 l2 e2 u2 := by
 refine ⟨k.rdr, h.ut.trans k.ut, fun h0 h2 => ?_, fun h0 h2 => ?_, fun h0 => ?_⟩
 ·have h1 : e1 = 0 := by
   refine Decidable.byContradiction fun hc => hc ?_
   rw [← k.old hc]; exact h2
  rw [h.ok h0 h1, Rd.bind_ok, k.ok h1 h2]
 ·by_cases h1 : e1 = 0
  ·rw [h.ok h0 h1, Rd.bind_ok, k.bad h1 h2]
  ·rw [h.bad h0 h1, Rd.bind_bad, k.old h1]
 ·have h1 := h.old h0
  rw [k.old (by rw [h1]; exact h0), h1]
theorem below (h : GotS b w g e r x w1 l1 e1 u1) (hb : Below w1.heap.size w1 w2) : GotS b w g e r x w2 l1 e1 u1 := ⟨h.rdr.below hb, h.ut.trans (UT.of_below _ _ hb), h.ok, h.bad, h.old⟩
theorem drew (h : GotS b w g e r x w1 l1 e1 u1) : GotS b w g e r x w1.drew l1 e1 u1 := h.below (below_drew (Below.refl _ _))
theorem drewN (h : GotS b w g e r x w1 l1 e1 u1) (n : Nat) : GotS b w g e r x (w1.drewN n) l1 e1 u1 := h.below (pw_below_drewN (Below.refl _ _) n)
theorem alloc (h : GotS b w g e r x w1 l1 e1 u1) (o : Obj) : GotS b w g e r x (w1.alloc o) l1 e1 u1 := h.below (below_alloc (Below.refl _ _) o)
theorem from_ {w0 : World} (h : GotS b w g e r x w1 l1 e1 u1) (hb : Below w0.heap.size w0 w) : GotS b w0 g e r x w1 l1 e1 u1 := ⟨h.rdr, (UT.of_below _ _ hb).trans h.ut, h.ok, h.bad, h.old⟩
theorem says {r' : Rd β} (h : GotS b w g e r x w1 l1 e1 u1) (hok : r = .ok x l1 → r' = .ok y l1) (hbad : r = .bad e1 → r' = .bad e1) : GotS b w g e r' y w1 l1 e1 u1 := ⟨h.rdr, h.ut, fun h0 h1 => hok (h.ok h0 h1), fun h0 h1 => hbad (h.bad h0 h1), h.old⟩
theorem map {f : α → β} (h : GotS b w g e r x w1 l1 e1 u1) : GotS b w g e (r.map f) (f x) w1 l1 e1 u1 := h.says (fun h => by rw [h]; rfl) (fun h => by rw [h]; rfl)
/-- Out of what the small readers leave. -/
theorem of_post {r : Rd α} (hr : Rdr b w g l e u) (hl : l = [] → ∃ c, r = .bad c) (hc : ∀ c, r = .bad c → c ≠ 0) (hk : ∀ k l', r = .ok k l' → x = k ∧ RdrP b w g l' e w1) (hb : ∀ c, r = .bad c → RdrP b w g [] (bump e c) w1) : ∃ l1 e1 u1, GotS b w g e r x w1 l1 e1 u1 := by
 by_cases he : e = 0
 ·subst he
  cases r with
  | ok k l' =>
   obtain ⟨rfl, ⟨u1, h1⟩, h2⟩ := hk _ _ rfl
   exact ⟨l', 0, u1, h1, h2, fun _ _ => rfl, fun _ h => absurd rfl h, fun h => absurd rfl h⟩
  | bad c =>
   obtain ⟨⟨u1, h1⟩, h2⟩ := hb c rfl
   rw [bump_0] at h1
   exact ⟨[], c, u1, h1, h2, fun _ h => absurd h (hc c rfl), fun _ _ => rfl, fun h => absurd rfl h⟩
 ·obtain ⟨c, hcc⟩ := hl (hr.bad he)
  obtain ⟨⟨u1, h1⟩, h2⟩ := hb c hcc
  rw [bump_ne he] at h1
  exact ⟨[], e, u1, h1, h2, fun h => absurd h he, fun h => absurd h he, fun _ => rfl⟩
end GotS
/-- A row of one's own, behind the readers. -/
theorem R_ut {α : Type} {d : Kd α} {e b b' : Nat} {ok : Nat → Prop} {v : Value} {xs : List α} {w w1 : World} {T : List Nat} (h : d.R e w b ok v xs) (hu : UT T b' w w1) (hT : ∀ q, q ∈ e :: d.E → q ∉ T) : d.R e w1 b ok v xs :=
 Kd.R_mono (Kd.R_move (Kd.R_bound h) (fun k hk => by
  obtain ⟨_, _, hlt, q, hq, cells, hc⟩ := hk
  exact hu.same k hlt (.inr fun cs t ht e' => by rw [hc] at e'; injection e' with e'; injection e' with _ e'; exact hT q hq (e' ▸ ht)))) (fun _ hk => hk.1)
/-- All that was made behind W. -/
abbrev News (W : World) : Nat → Prop := fun _ => True
theorem pNum_nil (most : Int) : pNum most [] = .bad 40 := by simp [pNum, highs]
theorem pNum_bad {most : Int} {l : List Int} {c : Int} (h : pNum most l = .bad c) : c ≠ 0 := by
 unfold pNum at h
 simp only at h
 repeat (first | (split at h) | (injection h with h; omega) | (exact absurd h (by simp)))
theorem pKey_nil : pKey [] = .bad 40 := by simp [pKey, pNum_nil]
theorem pTake_bad {n : Nat} {l : List Int} {c : Int} (h : pTake n l = .bad c) : c ≠ 0 := by
 unfold pTake at h
 split at h
 ·injection h with h; omega
 ·cases h
theorem pKey_bad {l : List Int} {c : Int} (h : pKey l = .bad c) : c ≠ 0 := by
 unfold pKey at h
 cases hn : pNum 12 l with
 | bad c' => rw [hn] at h; injection h with h; subst h; exact pNum_bad hn
 | ok n l' =>
  rw [hn] at h
  simp only [Rd.bind_ok] at h
  cases ht : pTake n.toNat l' with
  | bad c' => rw [ht] at h; injection h with h; subst h; exact pTake_bad ht
  | ok k l'' => rw [ht] at h; cases h
theorem pWord_bad {l : List Int} {c : Int} (h : pWord l = .bad c) : c ≠ 0 := by
 unfold pWord at h
 split at h
 ·cases h
 ·injection h with h; omega
theorem pMark_bad {m : Int} {l : List Int} {c : Int} (h : pMark m l = .bad c) : c ≠ 0 := by
 unfold pMark at h
 split at h
 ·injection h with h; omega
 ·split at h
  ·cases h
  ·injection h with h; omega
section
variable {b : Nat} {w : World} {g : Nat} {l : List Int} {e : Int} {u : Value}
def NumG (b : Nat) (w : World) (g : Nat) (e : Int) (most : Int) (l : List Int) (en : Ending) (w' : World) : Prop := ∃ n, en = .returned (.int .i64 n) ∧ 0 ≤ n ∧ (n = 0 ∨ n ≤ most) ∧ ∃ l' e' u', GotS b w g e (pNum most l) n w' l' e' u'
theorem rnumber_got (h : Rdr b w g l e u) (most : Int) : Calls Tryz.prog 101 #[.pointer (some ⟨g, 0, none⟩), .int .i64 most] w (NumG b w g e most l) := by
 refine (rnumber_calls h most).mono ?_
 intro en w1 h1
 unfold Numd at h1
 cases hp : pNum most l with
 | ok n l' =>
  rw [hp] at h1
  obtain ⟨rfl, h2⟩ := h1
  exact ⟨n, rfl, (pNum_pos hp).1, .inr (pNum_pos hp).2, GotS.of_post h (fun hl => ⟨40, by rw [hl]; exact pNum_nil most⟩) (fun c hc => pNum_bad hc) (fun k l'' hk => by rw [hp] at hk; injection hk with h1 h2; subst h1 h2; exact ⟨rfl, by assumption⟩) (fun c hc => by rw [hp] at hc; cases hc)⟩
 | bad c =>
  rw [hp] at h1
  obtain ⟨rfl, h2⟩ := h1
  exact ⟨0, rfl, Int.le_refl _, .inl rfl, GotS.of_post h (fun hl => ⟨40, by rw [hl]; exact pNum_nil most⟩) (fun c hc => pNum_bad hc) (fun k l'' hk => by rw [hp] at hk; cases hk) (fun c' hc => by rw [hp] at hc; injection hc with h1; subst h1; exact h2)⟩
def KeyG (b : Nat) (w : World) (g : Nat) (e : Int) (l : List Int) (en : Ending) (w' : World) : Prop := ∃ k, en = .returned (.string k) ∧ ∃ l' e' u', GotS b w g e (pKey l) k w' l' e' u'
theorem rkey_got (h : Rdr b w g l e u) : Calls Tryz.prog 113 #[.pointer (some ⟨g, 0, none⟩)] w (KeyG b w g e l) := by
 refine (rkey_calls h).mono ?_
 rintro en w1 ⟨s, rfl, h1⟩
 exact ⟨s, rfl, GotS.of_post h (fun hl => ⟨40, by rw [hl]; exact pKey_nil⟩) (fun c hc => pKey_bad hc) (fun k l' hk => by rw [hk] at h1; exact h1) (fun c hc => by rw [hc] at h1; exact h1)⟩
def WordG (b : Nat) (w : World) (g : Nat) (e : Int) (l : List Int) (en : Ending) (w' : World) : Prop := ∃ k, en = .returned (.int .u32 k) ∧ ∃ l' e' u', GotS b w g e (pWord l) k w' l' e' u'
theorem rword_got (h : Rdr b w g l e u) : Calls Tryz.prog 105 #[.pointer (some ⟨g, 0, none⟩)] w (WordG b w g e l) := by
 refine (rword_calls h).mono ?_
 rintro en w1 ⟨s, rfl, h1⟩
 exact ⟨s, rfl, GotS.of_post h (fun hl => ⟨40, by rw [hl]; rfl⟩) (fun c hc => pWord_bad hc) (fun k l' hk => by rw [hk] at h1; exact h1) (fun c hc => by rw [hc] at h1; exact h1)⟩
def MarkG (b : Nat) (w : World) (g : Nat) (e m : Int) (l : List Int) (en : Ending) (w' : World) : Prop := en = .returned (.tuple #[]) ∧ ∃ l' e' u', GotS b w g e (pMark m l) () w' l' e' u'
theorem rmark_got (h : Rdr b w g l e u) (m : Int) : Calls Tryz.prog 104 #[.pointer (some ⟨g, 0, none⟩), .int .u8 m] w (MarkG b w g e m l) := by
 refine (rmark_calls h m).mono ?_
 rintro en w1 ⟨rfl, h1⟩
 exact ⟨rfl, GotS.of_post h (fun hl => ⟨40, by rw [hl]; rfl⟩) (fun c hc => pMark_bad hc) (fun k l' hk => by rw [hk] at h1; exact ⟨rfl, h1⟩) (fun c hc => by rw [hc] at h1; exact h1)⟩
end
/-- What a list's reading means while it goes on. -/
structure LstF {α : Type} (e e' : Int) (R : Rd (List α)) (p : List α → List Int → Rd α) (n : Nat) (xs : List α) (l' : List Int) : Prop where
 ok : e = 0 → e' = 0 → R = pMany p n xs l'
 bad : e = 0 → e' ≠ 0 → R = .bad e'
 old : e ≠ 0 → e' = e
/-- A list's reading while it goes on: the list lv of xs, n still to come. -/
def LstG {α : Type} (d : Kd α) (ty : Nat) (b : Nat) (w : World) (g : Nat) (e : Int) (most : Int) (p : List α → List Int → Rd α) (R : Rd (List α)) (lv nv : Value) (wr : World) : Prop :=
 ∃ (xs : List α) (n : Int) (l' : List Int) (e' : Int) (u : Value), nv = .int .i64 n ∧ 0 ≤ n ∧ (xs.length + n ≤ most ∨ n = 0) ∧ d.R ty wr w.heap.size (News w) lv xs ∧ Rdr b wr g l' e' u ∧ UT [172] b w wr ∧ LstF e e' R p n.toNat xs l'
/-- What a list's reading hands out. -/
def ListG {α : Type} (d : Kd α) (ty : Nat) (b : Nat) (w : World) (g : Nat) (e : Int) (r : Rd (List α)) (en : Ending) (w' : World) : Prop :=
 ∃ (v : Value) (xs : List α), en = .returned v ∧ d.R ty w' w.heap.size (News w) v xs ∧ ∃ l' e' u', GotS b w g e r xs w' l' e' u'
section
variable {α : Type} {d : Kd α} {ty b : Nat} {w wr w1 : World} {g : Nat} {e most : Int} {p : List α → List Int → Rd α} {R : Rd (List α)} {lv nv : Value} {l : List Int} {n : Int}
theorem ListG.mk {v : Value} {xs : List α} (hR : d.R ty w1 w.heap.size (News w) v xs) {l' : List Int} {e' : Int} {u' : Value} (h : GotS b w g e R xs w1 l' e' u') : ListG d ty b w g e R (.returned v) w1 := ⟨v, xs, rfl, hR, l', e', u', h⟩
theorem LstG.start {u0 : Value} {e1 : Int} {l1 : List Int} (h : GotS b w g e (pNum most l) n wr l1 e1 u0) (h0 : 0 ≤ n) (h1 : n = 0 ∨ n ≤ most) : LstG d ty b w g e most p (pList most p l) (.slice none 0 0) (.int .i64 n) wr :=
 ⟨[], n, l1, e1, u0, rfl, h0, by rcases h1 with h1 | h1 <;> simp <;> omega, Kd.R_nil _ _ _ _ _, h.rdr, h.ut, fun a c => by rw [pList, h.ok a c]; rfl, fun a c => by rw [pList, h.bad a c]; rfl, h.old⟩
theorem LstG.done {xs : List α} {l' : List Int} {e' : Int} {u : Value} (hn : n = 0 ∨ e' ≠ 0) (hr : Rdr b wr g l' e' u) (hu : UT [172] b w wr) (h : LstF e e' R p n.toNat xs l') : GotS b w g e R xs wr l' e' u :=
 ⟨hr, hu, fun a c => by rcases hn with hn | hn; (rw [h.ok a c, hn]; rfl); (exact absurd c hn), h.bad, h.old⟩
/-- Old blocks stay. -/
theorem UT.low {T : List Nat} {w w1 w2 : World} (h : UT T b w w1) (k : Below w.heap.size w1 w2) : UT T b w w2 := ⟨k.os.trans h.os, k.tape.trans h.tape, k.output.trans h.output, Nat.le_trans h.size k.size, fun q hq hn => (k.block q hq).trans (h.same q hq hn)⟩
theorem Rdr.low {B : Nat} {w w1 : World} {l : List Int} {e : Int} {u : Value} (h : Rdr b w g l e u) (hg : g < B) (hB : b ≤ B) (hb : Below B w w1) : Rdr b w1 g l e u := by
 obtain ⟨A, c, hu1, hl, hi⟩ := h.inp
 exact ⟨(hb.block g hg).trans h.box, h.ge, ⟨A, c, hu1, hl, hi.ext ⟨hb.os, hb.tape, hb.output, hb.size, fun k hk => hb.block k (Nat.lt_of_lt_of_le hk hB)⟩⟩, h.bad, h.rng⟩
theorem LstG.next {w3 : World} {xs : List α} {x : α} {l' l2 : List Int} {e2 : Int} {u2 : Value} (hgw : g < w.heap.size) (h0 : 0 < n) (hm : xs.length + n ≤ most) (h : LstF e 0 R p n.toNat xs l') (hu : UT [172] b w wr) {v2 : Value} (hR : d.R ty w3 w.heap.size (News w) v2 (xs ++ [x])) (hg : GotS b wr g 0 (p xs l') x w1 l2 e2 u2) (hb : Below w.heap.size w1 w3) : LstG d ty b w g e most p R v2 (.int .i64 (n - 1)) w3 := by
 have hn : n.toNat = (n - 1).toNat + 1 := by omega
 refine ⟨xs ++ [x], n - 1, l2, e2, u2, rfl, by omega, .inl (by simp; omega), hR, hg.rdr.low hgw (Nat.le_of_lt (Nat.lt_of_le_of_lt hg.rdr.ge hgw)) hb, (hu.trans hg.ut).low hb, fun a c => ?_, fun a c => ?_, fun a => absurd (h.old a).symm a⟩
 ·rw [h.ok a rfl, hn, pMany, hg.ok rfl c, Rd.bind_ok]
 ·rw [h.ok a rfl, hn, pMany, hg.bad rfl c, Rd.bind_bad]
end
end Go.Proofs.YthmkioodkldgbaaGreat.DK
