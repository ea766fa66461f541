/- eddylaw4.only; conditions: those in each theorem. -/
import Derived.Test.YthmkioodkldgbaaQoM28
import Derived.Test.YthmkioodkldgbaaQoM23
import Derived.Test.YthmkioodkldgbaaQoM17
namespace Go.Proofs.Ythmkioodkldgbaa.DK
open Go.Proofs.Ythmkioodkldgbaa.PD
open Go.RowKit Go.Proofs.YthmkioodkldgbaaW.PrintWords Go.Proofs.YthmkioodkldgbaaW.PrintLast Go.Proofs.YthmkioodkldgbaaW.PrintMore
set_option linter.unusedVariables false
set_option linter.unusedSimpArgs false
set_option maxRecDepth 100000
/-- A thing is handed out. -/
def ThgP (w0 w : World) (t : Thg) (en : Ending) (w' : World) : Prop := ∃ (a1 a2 a3 a4 a5 a6 a7 a8 a9 a10 a11 : Option Addr) (c1 c2 c3 c4 c5 c6 c7 c8 c9 c10 c11 : Nat), en = .returned (.agg #[.int .i64 t.kind, .string t.r.f0, .int .i64 t.r.f1.f0, .int .i64 t.r.f1.f1, .string t.r.f1.f2, .slice a1 t.r.f1.f3.length c1, .slice a2 t.r.f2.length c2, .int .i64 t.sn, .slice a3 t.sc.length c3, .int .i64 t.g.id, .int .i64 t.g.task, .int .i64 t.g.base, .int .u32 t.g.sum, .int .i64 t.g.snum, .slice a4 t.g.cells.length c4, .int .i64 t.g.dnum, .slice a5 t.g.set.length c5, .slice a6 t.g.gone.length c6, .slice a7 t.g.logs.length c7, .slice a8 t.g.pend.length c8, .int .i64 t.mi, .int .u32 t.ms, .slice a9 t.mr.length c9, .int .i64 t.oa, .string t.ox.f0, .int .i64 t.ox.f1.f0, .int .i64 t.ox.f1.f1, .string t.ox.f1.f2, .slice a10 t.ox.f1.f3.length c10, .slice a11 t.ox.f2.length c11]) ∧ ThIn w0 t a1 a2 a3 a4 a5 a6 a7 a8 a9 a10 a11 c1 c2 c3 c4 c5 c6 c7 c8 c9 c10 c11 ∧ Below w.heap.size w w'
theorem ThgP.mk {w0 w : World} (t : Thg) {w' : World} {a1 a2 a3 a4 a5 a6 a7 a8 a9 a10 a11 : Option Addr} {c1 c2 c3 c4 c5 c6 c7 c8 c9 c10 c11 : Nat} (h : ThIn w0 t a1 a2 a3 a4 a5 a6 a7 a8 a9 a10 a11 c1 c2 c3 c4 c5 c6 c7 c8 c9 c10 c11) (hb : Below w.heap.size w w') : ThgP w0 w t (.returned (.agg #[.int .i64 t.kind, .string t.r.f0, .int .i64 t.r.f1.f0, .int .i64 t.r.f1.f1, .string t.r.f1.f2, .slice a1 t.r.f1.f3.length c1, .slice a2 t.r.f2.length c2, .int .i64 t.sn, .slice a3 t.sc.length c3, .int .i64 t.g.id, .int .i64 t.g.task, .int .i64 t.g.base, .int .u32 t.g.sum, .int .i64 t.g.snum, .slice a4 t.g.cells.length c4, .int .i64 t.g.dnum, .slice a5 t.g.set.length c5, .slice a6 t.g.gone.length c6, .slice a7 t.g.logs.length c7, .slice a8 t.g.pend.length c8, .int .i64 t.mi, .int .u32 t.ms, .slice a9 t.mr.length c9, .int .i64 t.oa, .string t.ox.f0, .int .i64 t.ox.f1.f0, .int .i64 t.ox.f1.f1, .string t.ox.f1.f2, .slice a10 t.ox.f1.f3.length c10, .slice a11 t.ox.f2.length c11])) w' := ⟨a1, a2, a3, a4, a5, a6, a7, a8, a9, a10, a11, c1, c2, c3, c4, c5, c6, c7, c8, c9, c10, c11, rfl, h, hb⟩
section
variable {w0 w : World} {t : Thg} {a1 a2 a3 a4 a5 a6 a7 a8 a9 a10 a11 : Option Addr} {c1 c2 c3 c4 c5 c6 c7 c8 c9 c10 c11 : Nat}
end
end Go.Proofs.Ythmkioodkldgbaa.DK
/- eddylaw4.only whatever the kind; the marks, plainly; conditions: those in each theorem. -/
namespace Go.Proofs.Ythmkioodkldgbaa.DK
open Go.Proofs.Ythmkioodkldgbaa.PD
open Go.RowKit Go.Proofs.YthmkioodkldgbaaW.PrintWords
theorem whole_bad {α : Type} {p : List Int → Rd α} {l : List Int} {c : Int} (h : p l = .bad c) : pWhole p l = .bad c := by rw [pWhole, h]; rfl
end Go.Proofs.Ythmkioodkldgbaa.DK
/- What is written are bytes; conditions: the things' numbers are such. -/
namespace Go.Proofs.Ythmkioodkldgbaa.DK
open Go.Proofs.Ythmkioodkldgbaa.PD
open Go.RowKit Go.Proofs.YthmkioodkldgbaaW.PrintWords
def Byt (l : List Int) : Prop := ∀ x ∈ l, 0 ≤ x ∧ x ≤ 255
namespace Byt
theorem nil : Byt [] := fun x h => by cases h
theorem cons {c : Int} {l : List Int} (hc : 0 ≤ c ∧ c ≤ 255) (h : Byt l) : Byt (c :: l) := fun x hx => by
 rcases List.mem_cons.1 hx with rfl | hx
 ·exact hc
 ·exact h x hx
theorem app {l m : List Int} (h : Byt l) (k : Byt m) : Byt (l ++ m) := fun x hx => (List.mem_append.1 hx).elim (h x) (k x)
theorem grpN : ∀ n : Nat, Byt (DK.grpN n) := fun n => by
 induction n using Nat.strongRecOn with
 | _ n ih =>
  rw [DK.grpN]
  split
  ·exact cons (by omega) (ih _ (by omega))
  ·exact cons (by omega) nil
theorem grp (n : Int) : Byt (DK.grp n) := grpN _
theorem bytes (s : ByteArray) : Byt (bytesOf s) := fun x hx => by
 unfold bytesOf at hx
 obtain ⟨b, _, rfl⟩ := List.mem_map.1 hx
 have := b.toNat_lt
 omega
theorem word {n : Int} (h : 0 ≤ n ∧ n ≤ 4294967295) : Byt (DK.word n) := cons (by omega) (cons (by omega) (cons (by omega) (cons (by omega) nil)))
theorem key (k : ByteArray) : Byt (keyB k) := (grp _).app (bytes _)
theorem flat {α : Type} {f : α → List Int} : ∀ {l : List α}, (∀ x ∈ l, Byt (f x)) → Byt (l.flatMap f)
 | [], _ => nil
 | a :: l, h => by rw [List.flatMap_cons]; exact (h a (by simp)).app (flat fun x hx => h x (by simp [hx]))
theorem lst {α : Type} {f : α → List Int} {l : List α} (h : ∀ x ∈ l, Byt (f x)) : Byt (DK.lst f l) := (grp _).app (flat h)
mutual
theorem encM : ∀ v : S25, Byt (DK.encM v)
 | ⟨a, b, c, d⟩ => by
  rw [encM_eq]
  split
  ·exact cons (by omega) (grp _)
  split
  ·exact cons (by omega) (cons (by omega) (bytes _))
  split
  ·exact cons (by omega) (cons (by omega) (encL d))
  ·exact cons (by omega) nil
theorem encL : ∀ l : List S25, Byt (DK.encL l)
 | [] => by rw [encL_nil]; exact nil
 | x :: l => by rw [encL_cons]; exact (encM x).app (encL l)
end
theorem encC (x : S121) : Byt (DK.encC x) := (key _).app (lst fun v _ => encM v)
theorem encR (x : S28) : Byt (DK.encR x) := ((key _).app (encM _)).app (lst fun n _ => grp n)
theorem encSt (n : Int) (l : List S121) : Byt (DK.encSt n l) := (grp _).app (lst fun x _ => encC x)
theorem encSeg {s : Seg} (h : s.Ok) : Byt (DK.encSeg s) := by
 unfold DK.encSeg encFront encDelta encLogs
 refine Byt.app (Byt.app (Byt.app (Byt.app (cons (by omega) (grp _)) (grp _)) (grp _)) ?_) ((lst fun x _ => lst fun y _ => encR y).app (lst fun y _ => encR y))
 split
 ·exact encSt _ _
 ·exact (((word h.sum).app (grp _)).app (lst fun x _ => encC x)).app (lst fun x _ => key x)
theorem putB {t : Thg} (h : t.Ok) : Byt (DK.putB t) := by
 unfold DK.putB
 split
 ·exact encSt _ _
 split
 ·exact encSeg h.g
 split
 ·exact ((cons (by omega) (grp _)).app (word h.ms)).app (lst fun x hx => (grp _).app (word (h.mr x hx)))
 split
 ·exact (cons (by omega) (grp _)).app (encR _)
 ·exact encR _
end Byt
end Go.Proofs.Ythmkioodkldgbaa.DK
/- Reading and writing agree: small parts (numbers, ints, texts, keys, words, lists), values; conditions: those in each theorem. (Plain Lean.) -/
namespace Go.Proofs.Ythmkioodkldgbaa.DK
open Go.Proofs.Ythmkioodkldgbaa.PD
open Go.RowKit Go.Proofs.YthmkioodkldgbaaW.PrintWords
set_option linter.unusedVariables false
set_option linter.unusedSimpArgs false
theorem Byt.tail {c : Int} {l : List Int} (h : Byt (c :: l)) : (0 ≤ c ∧ c ≤ 255) ∧ Byt l := ⟨h c List.mem_cons_self, fun x hx => h x (List.mem_cons_of_mem _ hx)⟩
theorem Byt.right {a b : List Int} (h : Byt (a ++ b)) : Byt b := fun x hx => h x (List.mem_append_right _ hx)
theorem Byt.left {a b : List Int} (h : Byt (a ++ b)) : Byt a := fun x hx => h x (List.mem_append_left _ hx)
namespace Rd
theorem map_inv {α β : Type} {f : α → β} {r : Rd α} {y : β} {l : List Int} (h : r.map f = .ok y l) : ∃ x, r = .ok x l ∧ f x = y := by
 cases r with
 | ok v m => simp only [Rd.map, Rd.ok.injEq] at h; exact ⟨v, by rw [h.2], h.1⟩
 | bad e => simp [Rd.map] at h
theorem bind_inv {α β : Type} {f : α → List Int → Rd β} {r : Rd α} {y : β} {l : List Int} (h : r.bind f = .ok y l) : ∃ x m, r = .ok x m ∧ f x m = .ok y l := by
 cases r with
 | ok v m => exact ⟨v, m, rfl, h⟩
 | bad e => simp [Rd.bind] at h
theorem map_err {α β : Type} {f : α → β} {r : Rd α} {c : Int} (h : r.map f = .bad c) : r = .bad c := by
 cases r with
 | ok v m => simp [Rd.map] at h
 | bad e => simp only [Rd.map, Rd.bad.injEq] at h; rw [h]
theorem bind_err {α β : Type} {f : α → List Int → Rd β} {r : Rd α} {c : Int} (h : r.bind f = .bad c) : r = .bad c ∨ ∃ x m, f x m = .bad c := by
 cases r with
 | ok v m => exact .inr ⟨v, m, h⟩
 | bad e => simp only [Rd.bind_bad, Rd.bad.injEq] at h; exact .inl (by rw [h])
end Rd
/-- Never without a reason, never for what stands behind. -/
def Errs {α : Type} (p : List Int → Rd α) : Prop := ∀ l c, p l = .bad c → c ≠ 0 ∧ c ≠ 44
theorem Errs.map {α β : Type} {p : List Int → Rd α} (h : Errs p) (g : α → β) : Errs fun l => (p l).map g := fun l c e => h l c (Rd.map_err e)
theorem Errs.bind {α β : Type} {p : List Int → Rd α} (h : Errs p) {g : α → List Int → Rd β} (hg : ∀ x, Errs (g x)) : Errs fun l => (p l).bind g := fun l c e => by
 rcases Rd.bind_err e with e | ⟨x, m, e⟩
 ·exact h l c e
 ·exact hg x m c e
/-- What p takes is what f writes of what fits (q), and that is read back. -/
structure Law {α : Type} (p : List Int → Rd α) (f : α → List Int) (q : α → Prop) : Prop where
 one : ∀ l x l', Byt l → p l = .ok x l' → q x ∧ l = f x ++ l'
 back : ∀ x l', q x → p (f x ++ l') = .ok x l'
 bad : Errs p
namespace Law
variable {α β : Type} {p : List Int → Rd α} {f : α → List Int} {q : α → Prop} {p' : List Int → Rd β} {f' : β → List Int} {q' : β → Prop}
theorem and (h : Law p f q) (h' : Law p' f' q') : Law (fun l => (p l).and p') (fun x => f x.1 ++ f' x.2) (fun x => q x.1 ∧ q' x.2) where
 one := fun l x l' hb hp => by
  obtain ⟨a, m, e1, e2⟩ := Rd.bind_inv hp
  obtain ⟨c, e3, rfl⟩ := Rd.map_inv e2
  obtain ⟨q1, rfl⟩ := h.one l a m hb e1
  obtain ⟨q2, rfl⟩ := h'.one m c l' hb.right e3
  exact ⟨⟨q1, q2⟩, by rw [List.append_assoc]⟩
 back := fun x l' hq => by
  rw [List.append_assoc, Rd.and, h.back x.1 _ hq.1, Rd.bind_ok, h'.back x.2 _ hq.2]
  rfl
 bad := h.bad.bind fun x => h'.bad.map _
theorem map (h : Law p f q) (g : α → β) (g' : β → α) (h1 : ∀ x, q x → q' (g x) ∧ f' (g x) = f x) (h2 : ∀ y, q' y → q (g' y) ∧ g (g' y) = y ∧ f (g' y) = f' y) : Law (fun l => (p l).map g) f' q' where
 one := fun l y l' hb hp => by
  obtain ⟨x, e1, rfl⟩ := Rd.map_inv hp
  obtain ⟨q1, e2⟩ := h.one l x l' hb e1
  exact ⟨(h1 x q1).1, by rw [(h1 x q1).2]; exact e2⟩
 back := fun y l' hq => by
  obtain ⟨q1, e1, e2⟩ := h2 y hq
  rw [← e2, h.back _ _ q1]
  simp [Rd.map, e1]
 bad := h.bad.map g
theorem congr {q2 : α → Prop} (h : Law p f q) (e : ∀ x, q x ↔ q2 x) : Law p f q2 := ⟨fun l x l' hb hp => ⟨(e x).1 (h.one l x l' hb hp).1, (h.one l x l' hb hp).2⟩, fun x l' hq => h.back x l' ((e x).2 hq), h.bad⟩
theorem cong2 {p2 : List Int → Rd α} {f2 : α → List Int} {q2 : α → Prop} (h : Law p f q) (e1 : ∀ l, p2 l = p l) (e2 : ∀ x, q x → f2 x = f x) (e : ∀ x, q x ↔ q2 x) : Law p2 f2 q2 :=
 ⟨fun l x l' hb hp => by rw [e1] at hp; obtain ⟨a, b⟩ := h.one l x l' hb hp; exact ⟨(e x).1 a, by rw [e2 x a]; exact b⟩, fun x l' hq => by rw [e1, e2 x ((e x).2 hq)]; exact h.back x l' ((e x).2 hq), fun l c hp => h.bad l c (by rw [← e1]; exact hp)⟩
end Law
/-! Numbers. -/
theorem num_one : ∀ (k : Nat) (l : List Int) (i : Nat), Byt l → highs k l = i → i < k → i < l.length → (0 < i → l.getD i 0 ≠ 0) → grp (grps (i + 1) l) = l.take (i + 1) ∧ 0 ≤ grps (i + 1) l ∧ (l.getD i 0 ≠ 0 → 0 < grps (i + 1) l)
 | 0, l, i, _, _, h, _, _ => absurd h (by omega)
 | k + 1, [], i, _, _, _, h, _ => absurd h (by simp)
 | k + 1, c :: l, i, hb, hi, hk, hl, hz => by
  obtain ⟨hc, hb'⟩ := hb.tail
  rw [highs] at hi
  split at hi
  ·rename_i h1
   subst hi
   have h0 : l.getD (highs k l) 0 ≠ 0 := by have := hz (by omega); simpa using this
   obtain ⟨e1, e2, e3⟩ := num_one k l (highs k l) hb' rfl (by omega) (by simpa using hl) (fun _ => h0)
   have e4 := e3 h0
   rw [grps]
   refine ⟨?_, by omega, fun _ => by omega⟩
   rw [grp_high (by omega), List.take_succ_cons, show (c % 128 + 128 * grps (highs k l + 1) l) % 128 + 128 = c from by omega, show (c % 128 + 128 * grps (highs k l + 1) l) / 128 = grps (highs k l + 1) l from by omega, e1]
  ·rename_i h1
   subst hi
   have e : grps (0 + 1) (c :: l) = c := by rw [grps, grps]; omega
   rw [e]
   refine ⟨?_, hc.1, fun h => ?_⟩
   ·rw [grp_low hc.1 h1]; rfl
   ·simp only [List.getD_cons_zero] at h; omega
theorem num_back : ∀ (k : Nat) (n : Int) (m : List Int), 0 ≤ n → n < 128 ^ (k + 1) → ∃ i, (grp n).length = i + 1 ∧ i < k + 1 ∧ highs (k + 1) (grp n ++ m) = i ∧ grps (i + 1) (grp n ++ m) = n ∧ (0 < n → (grp n ++ m).getD i 0 ≠ 0) := by
 intro k
 induction k with
 | zero =>
  intro n m h0 h1
  have hn : ¬ 128 ≤ n := by omega
  rw [grp_low h0 hn]
  refine ⟨0, rfl, by omega, ?_, ?_, fun h => ?_⟩
  ·rw [List.cons_append, highs, if_neg hn]
  ·rw [List.cons_append, grps, grps]; omega
  ·simp; omega
 | succ k ih =>
  intro n m h0 h1
  by_cases hn : 128 ≤ n
  ·rw [grp_high hn]
   rw [Int.pow_succ] at h1
   obtain ⟨i, e1, e2, e3, e4, e5⟩ := ih (n / 128) m (by omega) (by omega)
   refine ⟨i + 1, by rw [List.length_cons, e1], by omega, ?_, ?_, fun _ => ?_⟩
   ·rw [List.cons_append, highs, if_pos (by omega), e3]
   ·rw [List.cons_append, grps, e4]; omega
   ·have := e5 (by omega)
    simpa using this
  ·rw [grp_low h0 hn]
   refine ⟨0, rfl, by omega, ?_, ?_, fun h => ?_⟩
   ·rw [List.cons_append, highs, if_neg hn]
   ·rw [List.cons_append, grps, grps]; omega
   ·simp; omega
theorem num_law {most : Int} (hm : most < 128 ^ 5) : Law (pNum most) grp (fun n => 0 ≤ n ∧ n ≤ most) where
 one := fun l n l' hb hp => by
  unfold pNum at hp
  dsimp only at hp
  split at hp
  ·cases hp
  split at hp
  ·cases hp
  split at hp
  ·cases hp
  split at hp
  ·rename_i h1 h2 h3 h4
   have hh := highs_le 5 l
   obtain ⟨e1, e2, e3⟩ := num_one 5 l (highs 5 l) hb rfl (by omega) (by omega) (fun h hz => h3 ⟨h, hz⟩)
   injection hp with e4 e5
   subst e4 e5
   exact ⟨⟨e2, h4⟩, by rw [e1, List.take_append_drop]⟩
  ·cases hp
 back := fun n l' ⟨h0, h1⟩ => by
  obtain ⟨i, e1, e2, e3, e4, e5⟩ := num_back 4 n l' h0 (by omega)
  unfold pNum
  dsimp only
  rw [e3, if_neg (by omega), if_neg (by rw [List.length_append, e1]; omega), if_neg (by
   intro ⟨hi, hz⟩
   refine e5 ?_ hz
   by_cases hn : 128 ≤ n
   ·omega
   ·rw [grp_low h0 hn] at e1; simp at e1; omega), e4, if_pos h1, ← e1, List.drop_left]
 bad := fun l c h => by
  unfold pNum at h
  dsimp only at h
  (repeat' split at h) <;> first | (cases h; decide) | cases h
/-! Ints of a value. -/
theorem int_one : ∀ (l : List Int) (j i : Nat) (u : Int) (l' : List Int), Byt l → i + j = 9 → pInt i l = .ok u l' → l = grp u ++ l' ∧ 0 ≤ u ∧ (0 < i → 0 < u) ∧ u < 2 * 128 ^ j
 | [], j, i, u, l', _, _, h => by simp [pInt] at h
 | c :: l, j, i, u, l', hb, hi, h => by
  obtain ⟨hc, hb'⟩ := hb.tail
  rw [pInt] at h
  split at h
  ·cases h
  rename_i hn
  split at h
  ·rename_i hc2
   injection h with h1 h2
   subst h1 h2
   refine ⟨by rw [grp_low hc.1 (by omega)]; rfl, hc.1, fun h => by omega, ?_⟩
   cases j with
   | zero => simp; omega
   | succ j => rw [Int.pow_succ]; have : (0 : Int) < 128 ^ j := Int.pow_pos (by decide); omega
  ·rename_i hc2
   cases j with
   | zero => omega
   | succ j =>
    obtain ⟨v, e1, rfl⟩ := Rd.map_inv h
    obtain ⟨e2, e3, e4, e5⟩ := int_one l j (i + 1) v l' hb' (by omega) e1
    have e6 := e4 (by omega)
    refine ⟨?_, by omega, fun _ => by omega, by rw [Int.pow_succ]; omega⟩
    rw [grp_high (by omega), show (c % 128 + 128 * v) % 128 + 128 = c from by omega, show (c % 128 + 128 * v) / 128 = v from by omega, List.cons_append, ← e2]
theorem int_back : ∀ (j i : Nat) (u : Int) (l' : List Int), i + j = 9 → 0 ≤ u → (0 < i → 0 < u) → u < 2 * 128 ^ j → pInt i (grp u ++ l') = .ok u l' := by
 intro j
 induction j with
 | zero =>
  intro i u l' hi h0 h1 h2
  have := h1 (by omega)
  simp at h2
  rw [grp_low h0 (by omega), List.cons_append, pInt, if_neg (by omega), if_pos (by omega)]
  rfl
 | succ j ih =>
  intro i u l' hi h0 h1 h2
  by_cases hu : 128 ≤ u
  ·rw [Int.pow_succ] at h2
   rw [grp_high hu, List.cons_append, pInt, if_neg (by omega), if_neg (by omega), ih (i + 1) (u / 128) l' (by omega) (by omega) (fun _ => by omega) (by omega)]
   simp only [Rd.map]
   congr 1
   omega
  ·rw [grp_low h0 hu, List.cons_append, pInt, if_neg (by omega), if_pos (by omega)]
   rfl
theorem int_bad : ∀ (l : List Int) (i : Nat) {c : Int}, pInt i l = .bad c → c = 28
 | [], i, c, h => by rw [pInt] at h; cases h; rfl
 | a :: l, i, c, h => by
  rw [pInt] at h
  split at h
  ·cases h; rfl
  split at h
  ·cases h
  ·exact int_bad l (i + 1) (Rd.map_err h)
theorem unz_zz {n : Int} : unz (zz n) = n := by unfold unz zz; split <;> split <;> omega
theorem zz_unz {u : Int} (h : 0 ≤ u) : zz (unz u) = u := by unfold unz zz; split <;> split <;> omega
/-! Texts, keys, words. -/
theorem bytesOf_str {l : List Int} (h : Byt l) : bytesOf (strOfNums l) = l := by
 unfold bytesOf strOfNums
 simp only [List.map_map]
 conv => rhs; rw [← List.map_id l]
 refine List.map_congr_left fun x hx => ?_
 have := h x hx
 simp only [Function.comp, UInt8.toNat_ofNat', id]
 omega
theorem str_bytesOf (s : ByteArray) : strOfNums (bytesOf s) = s := by
 unfold bytesOf strOfNums
 simp only [List.map_map]
 obtain ⟨a⟩ := s
 congr 1
 conv => rhs; rw [← a.toArray_toList, ← List.map_id a.toList]
 congr 1
 refine List.map_congr_left fun x _ => ?_
 simp
theorem str_size {l : List Int} : (strOfNums l).size = l.length := by simp [strOfNums, ByteArray.size]
theorem take_law (n : Nat) : Law (fun l => (pTake n l).map strOfNums) bytesOf (fun k => k.size = n) where
 one := fun l x l' hb hp => by
  obtain ⟨v, e1, rfl⟩ := Rd.map_inv hp
  unfold pTake at e1
  split at e1
  ·cases e1
  injection e1 with e2 e3
  subst e2 e3
  rw [← List.take_append_drop n l] at hb
  exact ⟨by rw [str_size, List.length_take]; omega, by rw [bytesOf_str hb.left, List.take_append_drop]⟩
 back := fun x l' hq => by
  have hl : (bytesOf x).length = n := by rw [bytesOf_length, hq]
  unfold pTake
  rw [if_neg (by rw [List.length_append]; omega), ← hl, List.take_left, List.drop_left, Rd.map, str_bytesOf]
 bad := Errs.map (fun l c h => by unfold pTake at h; split at h <;> first | (cases h; decide) | cases h) _
theorem key_law : Law pKey keyB (fun k => k.size ≤ 12) where
 one := fun l x l' hb hp => by
  unfold pKey at hp
  obtain ⟨n, m, e1, e2⟩ := Rd.bind_inv hp
  obtain ⟨⟨h0, h1⟩, rfl⟩ := (num_law (by decide)).one l n m hb e1
  have e3 : (pTake n.toNat m).map strOfNums = .ok x l' := by
   obtain ⟨v, m', e4, e5⟩ := Rd.bind_inv e2
   rw [e4]; exact e5
  obtain ⟨e4, rfl⟩ := (take_law n.toNat).one m x l' hb.right e3
  refine ⟨by omega, ?_⟩
  rw [keyB, List.append_assoc, e4, Int.toNat_of_nonneg h0]
 back := fun x l' hq => by
  unfold pKey keyB
  rw [List.append_assoc, (num_law (by decide)).back _ _ ⟨by omega, by omega⟩, Rd.bind_ok, Int.toNat_natCast]
  have h := (take_law x.size).back x l' rfl
  obtain ⟨v, e1, e2⟩ := Rd.map_inv h
  rw [e1, Rd.bind_ok, e2]
 bad := (num_law (by decide)).bad.bind fun n => Errs.bind (fun l c h => by unfold pTake at h; split at h <;> first | (cases h; decide) | cases h) fun x l c h => by cases h
theorem word_law : Law pWord word (fun n => 0 ≤ n ∧ n ≤ 4294967295) where
 one := fun l x l' hb hp => by
  match l, hb, hp with
  | a :: b :: c :: d :: l, hb, hp =>
   obtain ⟨h1, hb⟩ := hb.tail
   obtain ⟨h2, hb⟩ := hb.tail
   obtain ⟨h3, hb⟩ := hb.tail
   obtain ⟨h4, hb⟩ := hb.tail
   rw [pWord] at hp
   injection hp with e1 e2
   subst e1 e2
   refine ⟨by omega, ?_⟩
   unfold word
   simp only [List.cons_append, List.nil_append, List.cons.injEq, and_true]
   omega
  | [], _, hp => simp [pWord] at hp
  | [_], _, hp => simp [pWord] at hp
  | [_, _], _, hp => simp [pWord] at hp
  | [_, _, _], _, hp => simp [pWord] at hp
 back := fun x l' hq => by
  unfold word
  simp only [List.cons_append, List.nil_append, pWord]
  congr 1
  omega
 bad := fun l c h => by unfold pWord at h; split at h <;> first | (cases h; decide) | cases h
theorem mark_law (m : Int) : Law (pMark m) (fun _ => [m]) (fun _ => True) where
 one := fun l x l' hb hp => by
  cases l with
  | nil => simp [pMark] at hp
  | cons c l =>
   rw [pMark] at hp
   split at hp
   ·rename_i h; injection hp with _ e; subst e h; exact ⟨trivial, rfl⟩
   ·cases hp
 back := fun x l' _ => by simp [pMark]
 bad := fun l c h => by
  cases l with
  | nil => cases h; decide
  | cons a l => rw [pMark] at h; split at h <;> first | (cases h; decide) | cases h
/-! Lists. -/
/-- Each fits behind the ones ahead of it. -/
def Many {α : Type} (Q : List α → α → Prop) : List α → List α → Prop
 | _, [] => True
 | acc, x :: xs => Q acc x ∧ Many Q (acc ++ [x]) xs
theorem Many.of_all {α : Type} {q : α → Prop} : ∀ {xs acc : List α}, Many (fun _ => q) acc xs ↔ ∀ x ∈ xs, q x
 | [], acc => by simp [Many]
 | x :: xs, acc => by rw [Many, Many.of_all, List.forall_mem_cons]
section
variable {α : Type} {p : List α → List Int → Rd α} {f : α → List Int} {Q : List α → α → Prop}
theorem many_one (h : ∀ acc, Law (p acc) f (Q acc)) : ∀ (n : Nat) (acc : List α) (l : List Int) (ys : List α) (l' : List Int), Byt l → pMany p n acc l = .ok ys l' → ∃ xs, ys = acc ++ xs ∧ xs.length = n ∧ Many Q acc xs ∧ l = xs.flatMap f ++ l'
 | 0, acc, l, ys, l', _, hp => by
  rw [pMany] at hp
  injection hp with e1 e2
  subst e1 e2
  exact ⟨[], by simp, rfl, trivial, rfl⟩
 | n + 1, acc, l, ys, l', hb, hp => by
  rw [pMany] at hp
  obtain ⟨x, m, e1, e2⟩ := Rd.bind_inv hp
  obtain ⟨q1, rfl⟩ := (h acc).one l x m hb e1
  obtain ⟨xs, rfl, e3, e4, rfl⟩ := many_one h n (acc ++ [x]) m ys l' hb.right e2
  exact ⟨x :: xs, by simp, by simp [e3], ⟨q1, e4⟩, by simp⟩
theorem many_back (h : ∀ acc, Law (p acc) f (Q acc)) : ∀ (xs acc : List α) (l' : List Int), Many Q acc xs → pMany p xs.length acc (xs.flatMap f ++ l') = .ok (acc ++ xs) l'
 | [], acc, l', _ => by simp [pMany]
 | x :: xs, acc, l', hq => by
  rw [List.flatMap_cons, List.append_assoc, List.length_cons, pMany, (h acc).back x _ hq.1, Rd.bind_ok, many_back h xs (acc ++ [x]) l' hq.2]
  simp
theorem many_bad (h : ∀ acc, Law (p acc) f (Q acc)) : ∀ (n : Nat) (acc : List α), Errs (pMany p n acc)
 | 0, acc => fun l c e => by rw [pMany] at e; cases e
 | n + 1, acc => fun l c e => by
  rw [pMany] at e
  exact Errs.bind (h acc).bad (fun x => many_bad h n (acc ++ [x])) l c e
theorem list_in {most : Int} (hm : most < 128 ^ 5) (h : ∀ acc, Law (p acc) f (Q acc)) : Law (pList most p) (lst f) (fun xs => (xs.length : Int) ≤ most ∧ Many Q [] xs) where
 one := fun l ys l' hb hp => by
  unfold pList at hp
  obtain ⟨n, m, e1, e2⟩ := Rd.bind_inv hp
  obtain ⟨⟨h0, h1⟩, rfl⟩ := (num_law hm).one l n m hb e1
  obtain ⟨xs, rfl, e3, e4, rfl⟩ := many_one h n.toNat [] m ys l' hb.right e2
  refine ⟨⟨by omega, e4⟩, ?_⟩
  unfold lst
  rw [e3, Int.toNat_of_nonneg h0, List.append_assoc]
 back := fun xs l' hq => by
  unfold pList lst
  rw [List.append_assoc, (num_law hm).back _ _ ⟨by omega, hq.1⟩, Rd.bind_ok, Int.toNat_natCast, many_back h xs [] l' hq.2, List.nil_append]
 bad := (num_law hm).bad.bind fun n => many_bad h n.toNat []
end
theorem list_law {α : Type} {p : List Int → Rd α} {f : α → List Int} {q : α → Prop} {most : Int} (hm : most < 128 ^ 5) (h : Law p f q) : Law (pList most fun _ => p) (lst f) (fun xs => (xs.length : Int) ≤ most ∧ ∀ x ∈ xs, q x) :=
 (list_in (Q := fun _ => q) hm fun _ => h).congr fun xs => by rw [Many.of_all]
end Go.Proofs.Ythmkioodkldgbaa.DK
