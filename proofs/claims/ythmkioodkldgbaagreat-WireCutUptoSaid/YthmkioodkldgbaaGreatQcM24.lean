/- Reading and writing agree: values, records, states, segments, manifests, rows; conditions: those in each theorem. (Plain Lean.) -/
import Derived.Test.YthmkioodkldgbaaGreatQcM23
namespace Go.Proofs.YthmkioodkldgbaaGreat.DK
open Go.Proofs.YthmkioodkldgbaaGreat.PD
open Go.RowKit Go.Proofs.YthmkioodkldgbaaGreatW.PrintWords
set_option linter.unusedVariables false
set_option linter.unusedSimpArgs false
/-! Values. -/
def ListOne (ls : Int → List Int → Rd (S25 × Int)) (d : Int) : Prop := ∀ p l v p' l', Byt l → ls p l = .ok (v, p') l' → ∃ xs, v = ⟨3, 0, ⟨#[]⟩, xs⟩ ∧ xs.length ≤ 6 ∧ d < 3 ∧ chkL xs (d + 1) p = (p', 0) ∧ okL xs ∧ l = ((xs.length : Int) % 256) :: (encL xs ++ l')
def ListBack (ls : Int → List Int → Rd (S25 × Int)) (d : Int) : Prop := ∀ p xs p' l', xs.length ≤ 6 → d < 3 → chkL xs (d + 1) p = (p', 0) → okL xs → ls p (((xs.length : Int) % 256) :: (encL xs ++ l')) = .ok (⟨3, 0, ⟨#[]⟩, xs⟩, p') l'
theorem toList_nil {t : ByteArray} : t.toList = [] ↔ t = ⟨#[]⟩ := by
 rw [ByteArray.toList_eq]
 obtain ⟨a⟩ := t
 exact ⟨fun h => by congr 1; exact Array.ext' h, fun h => by cases h; rfl⟩
theorem chk_fine {k n : Int} {t : ByteArray} {xs : List S25} {d p : Int} (h1 : ¬ 12 < p + 1) (h2 : ¬ (k < 0 ∨ 3 < k)) (h3 : ¬ other k n t xs) (h4 : ¬ (k = 3 ∧ 3 ≤ d)) (h5 : ¬ 24 < t.size) (h6 : ¬ 6 < xs.length) : chk ⟨k, n, t, xs⟩ d p = chkL xs (d + 1) (p + 1) := by
 rw [chk, if_neg h1, if_neg h2, if_neg h3, if_neg h4, if_neg h5, if_neg h6]
theorem one_one {ls : Int → List Int → Rd (S25 × Int)} {d : Int} (hls : ListOne ls d) {p : Int} {l : List Int} {v : S25} {p' : Int} {l' : List Int} (hb : Byt l) (hp : pOne ls p l = .ok (v, p') l') : chk v d p = (p', 0) ∧ okS v ∧ l = encM v ++ l' := by
 cases l with
 | nil => simp [pOne] at hp
 | cons c l =>
  obtain ⟨hc, hb'⟩ := hb.tail
  rw [pOne] at hp
  split at hp
  ·cases hp
  rename_i h1
  split at hp
  ·cases hp
  rename_i h2
  split at hp
  ·rename_i hk
   subst hk
   obtain ⟨u, e1, e2⟩ := Rd.map_inv hp
   injection e2 with e2 e3
   subst e2 e3
   obtain ⟨rfl, e4, _, e5⟩ := int_one l 9 0 u l' hb' rfl e1
   have e6 := zz_unz e4
   refine ⟨by rw [chk_fine h1 (by omega) (by simp [other, toList_nil]) (by omega) (by simp [ByteArray.size]) (by simp), chkL_nil], ?_, ?_⟩
   ·rw [okS, okL]
    refine ⟨by omega, ?_, trivial⟩
    have e9 : (2 : Int) * 128 ^ 9 = 18446744073709551616 := by decide
    rw [e9] at e5
    unfold unz
    split <;> omega
   ·rw [encM_eq]; dsimp only; rw [if_pos rfl, e6]; rfl
  split at hp
  ·rename_i hk0 hk
   subst hk
   obtain ⟨u, e1, e2⟩ := Rd.map_inv hp
   injection e2 with e2 e3
   subst e2 e3
   cases l with
   | nil => simp [pText] at e1
   | cons n l =>
    obtain ⟨hn, hb''⟩ := hb'.tail
    rw [pText] at e1
    split at e1
    ·cases e1
    rename_i hn2
    split at e1
    ·cases e1
    rename_i hn3
    have h := (take_law n.toNat).one l u l' hb'' (by unfold pTake; rw [if_neg hn3]; exact e1)
    refine ⟨by rw [chk_fine h1 (by omega) (by simp [other]) (by omega) (by have := h.1; omega) (by simp), chkL_nil], by rw [okS, okL]; exact ⟨by omega, by omega, trivial⟩, ?_⟩
    rw [encM_eq]
    dsimp only
    rw [if_neg (by omega), if_pos rfl, h.1, Int.toNat_of_nonneg hn.1, show n % 256 = n from by omega, List.cons_append, List.cons_append, ← h.2]
  split at hp
  ·rename_i hk0 hk1 hk
   subst hk
   obtain ⟨xs, rfl, e1, e2, e3, e4, rfl⟩ := hls _ _ _ _ _ hb' hp
   refine ⟨by rw [chk_fine h1 (by omega) (by simp [other, toList_nil]) (by omega) (by simp [ByteArray.size]) (by omega), e3], by rw [okS]; exact ⟨by omega, by omega, e4⟩, ?_⟩
   rw [encM_eq]
   dsimp only
   rw [if_neg (by omega), if_neg (by omega), if_pos rfl]
   rfl
  ·rename_i hk0 hk1 hk
   obtain rfl : c = 0 := by omega
   injection hp with e1 e2
   injection e1 with e1 e3
   subst e1 e2 e3
   refine ⟨by rw [chk_fine h1 (by omega) (by simp [other, toList_nil]) (by omega) (by simp [ByteArray.size]) (by simp), chkL_nil], by rw [okS, okL]; exact ⟨by omega, by omega, trivial⟩, ?_⟩
   rw [encM_eq]
   rfl
theorem one_back {ls : Int → List Int → Rd (S25 × Int)} {d : Int} (hls : ListBack ls d) {p : Int} {v : S25} {p' : Int} {l' : List Int} (hk : chk v d p = (p', 0)) (ho : okS v) : pOne ls p (encM v ++ l') = .ok (v, p') l' := by
 obtain ⟨k, n, t, xs⟩ := v
 rw [okS] at ho
 rw [chk] at hk
 split at hk
 ·simp at hk
 rename_i h1
 split at hk
 ·simp at hk
 rename_i h2
 split at hk
 ·simp at hk
 rename_i h3
 split at hk
 ·simp at hk
 rename_i h4
 split at hk
 ·simp at hk
 rename_i h5
 split at hk
 ·simp at hk
 rename_i h6
 have n0 : k ≠ 1 → n = 0 := fun h => by
  rcases Classical.em (n = 0) with h0 | h0
  ·exact h0
  ·exact absurd (.inl ⟨h0, h⟩) h3
 have t0 : k ≠ 2 → t = ⟨#[]⟩ := fun h => by
  rcases Classical.em (t.toList = []) with h0 | h0
  ·exact toList_nil.1 h0
  ·exact absurd (.inr (.inl ⟨h0, h⟩)) h3
 have x0 : k ≠ 3 → xs = [] := fun h => by
  rcases Classical.em (0 < xs.length) with h0 | h0
  ·exact absurd (.inr (.inr ⟨h0, h⟩)) h3
  ·exact List.length_eq_zero_iff.1 (by omega)
 rw [encM_eq]
 dsimp only
 by_cases k1 : k = 1
 ·subst k1
  obtain rfl := t0 (by omega)
  obtain rfl := x0 (by omega)
  rw [if_pos rfl, List.cons_append, pOne, if_neg h1, if_neg (by omega), if_pos rfl, int_back 9 0 (zz n) l' rfl (by unfold zz; split <;> omega) (fun h => by omega) (by rw [show (2 : Int) * 128 ^ 9 = 18446744073709551616 from by decide]; unfold zz; split <;> omega), Rd.map, unz_zz]
  rw [chkL_nil] at hk
  injection hk with hk _
  rw [hk]
 rw [if_neg k1]
 by_cases k2 : k = 2
 ·subst k2
  obtain rfl := n0 (by omega)
  obtain rfl := x0 (by omega)
  rw [if_pos rfl, List.cons_append, List.cons_append, pOne, if_neg h1, if_neg (by omega), if_neg (by omega), if_pos rfl, show (t.size : Int) % 256 = t.size from by omega, pText, if_neg (by omega), Int.toNat_natCast]
  have h := (take_law t.size).back t l' rfl
  unfold pTake at h
  split at h
  ·simp [Rd.map] at h
  ·rename_i hh
   rw [if_neg hh]
   simp only [Rd.map] at h ⊢
   injection h with e1 e2
   rw [e1, e2]
   rw [chkL_nil] at hk
   injection hk with hk _
   rw [hk]
 rw [if_neg k2]
 by_cases k3 : k = 3
 ·subst k3
  obtain rfl := n0 (by omega)
  obtain rfl := t0 (by omega)
  rw [if_pos rfl, List.cons_append, pOne, if_neg h1, if_neg (by omega), if_neg (by omega), if_neg (by omega), if_pos rfl]
  exact hls _ _ _ _ (by omega) (by omega) hk ho.2.2
 rw [if_neg k3]
 obtain rfl : k = 0 := by omega
 obtain rfl := n0 (by omega)
 obtain rfl := t0 (by omega)
 obtain rfl := x0 (by omega)
 rw [List.cons_append, pOne, if_neg h1, if_neg (by omega), if_neg (by omega), if_neg (by omega), if_neg (by omega), List.nil_append]
 rw [chkL_nil] at hk
 injection hk with hk _
 rw [hk]
theorem items_one {f : Int → List Int → Rd (S25 × Int)} {d : Int} (h : ∀ p l v p' l', Byt l → f p l = .ok (v, p') l' → chk v d p = (p', 0) ∧ okS v ∧ l = encM v ++ l') : ∀ (n : Nat) (acc : List S25) (p : Int) (l : List Int) (ys : List S25) (p' : Int) (l' : List Int), Byt l → pItems f n acc p l = .ok (ys, p') l' → ∃ xs, ys = acc ++ xs ∧ xs.length = n ∧ chkL xs d p = (p', 0) ∧ okL xs ∧ l = encL xs ++ l'
 | 0, acc, p, l, ys, p', l', _, hp => by
  rw [pItems] at hp
  injection hp with e1 e2
  injection e1 with e1 e3
  subst e1 e2 e3
  exact ⟨[], by simp, rfl, chkL_nil _ _, trivial, by rw [encL_nil]; rfl⟩
 | n + 1, acc, p, l, ys, p', l', hb, hp => by
  rw [pItems] at hp
  obtain ⟨⟨v, p1⟩, m, e1, e2⟩ := Rd.bind_inv hp
  obtain ⟨h1, h2, rfl⟩ := h _ _ _ _ _ hb e1
  obtain ⟨xs, rfl, e3, e4, e5, rfl⟩ := items_one h n _ _ _ _ _ _ hb.right e2
  refine ⟨v :: xs, by simp, by simp [e3], ?_, ⟨h2, e5⟩, by rw [encL_cons, List.append_assoc]⟩
  rw [chkL_cons, h1, if_neg (by simp)]
  exact e4
theorem items_back {f : Int → List Int → Rd (S25 × Int)} {d : Int} (h : ∀ p v p' l', chk v d p = (p', 0) → okS v → f p (encM v ++ l') = .ok (v, p') l') : ∀ (xs acc : List S25) (p p' : Int) (l' : List Int), chkL xs d p = (p', 0) → okL xs → pItems f xs.length acc p (encL xs ++ l') = .ok (acc ++ xs, p') l'
 | [], acc, p, p', l', hc, _ => by
  rw [chkL_nil] at hc
  injection hc with hc _
  rw [encL_nil, hc]
  simp [pItems]
 | v :: xs, acc, p, p', l', hc, ho => by
  rw [chkL_cons] at hc
  rw [okL] at ho
  split at hc
  ·rename_i h1
   rw [hc] at h1
   exact absurd rfl h1
  ·rename_i h1
   have e : chk v d p = ((chk v d p).1, 0) := by rw [← Classical.not_not.1 h1]
   rw [encL_cons, List.append_assoc, List.length_cons, pItems, h p v _ _ e ho.1, Rd.bind_ok, items_back h xs _ _ _ _ hc ho.2]
   simp
theorem deep_law : ∀ k : Nat, (∀ p l v p' l', Byt l → pDeep k p l = .ok (v, p') l' → chk v (3 - k) p = (p', 0) ∧ okS v ∧ l = encM v ++ l') ∧ ∀ p v p' l', chk v (3 - k) p = (p', 0) → okS v → pDeep k p (encM v ++ l') = .ok (v, p') l'
 | 0 => ⟨fun p l v p' l' hb hp => one_one (fun _ _ _ _ _ _ h => by cases h) hb hp, fun p v p' l' hc ho => one_back (fun _ _ _ _ _ h => absurd h (by simp)) hc ho⟩
 | k + 1 => by
  obtain ⟨i1, i2⟩ := deep_law k
  have e : (3 : Int) - ((k + 1 : Nat) : Int) + 1 = 3 - k := by omega
  refine ⟨fun p l v p' l' hb hp => one_one (fun q m u q' m' hb hp => ?_) hb hp, fun p v p' l' hc ho => one_back (fun q xs q' m' hx hd hc ho => ?_) hc ho⟩
  ·cases m with
   | nil => simp [pLst] at hp
   | cons n m =>
    obtain ⟨hn, hb'⟩ := hb.tail
    rw [pLst] at hp
    split at hp
    ·cases hp
    rename_i hn6
    obtain ⟨⟨xs, q1⟩, e1, e2⟩ := Rd.map_inv hp
    injection e2 with e2 e3
    subst e2 e3
    obtain ⟨xs, rfl, e4, e5, e6, rfl⟩ := items_one i1 _ _ _ _ _ _ _ hb' e1
    refine ⟨xs, by simp, by omega, by omega, by rw [e]; exact e5, e6, ?_⟩
    rw [e4, Int.toNat_of_nonneg hn.1, show n % 256 = n from by omega]
  ·rw [e] at hc
   rw [show ((xs.length : Int) % 256) = xs.length from by omega, pLst, if_neg (by omega), Int.toNat_natCast, items_back i2 xs [] q q' m' hc ho]
   rfl
theorem one_bad {ls : Int → List Int → Rd (S25 × Int)} (hl : ∀ p, Errs (ls p)) (p : Int) : Errs (pOne ls p) := fun l c h => by
 cases l with
 | nil => cases h; decide
 | cons a l =>
  rw [pOne] at h
  split at h
  ·cases h; decide
  split at h
  ·cases h; decide
  split at h
  ·rw [int_bad _ _ (Rd.map_err h)]; decide
  split at h
  ·have h1 := Rd.map_err h
   cases l with
   | nil => cases h1; decide
   | cons n l => rw [pText] at h1; (repeat' split at h1) <;> first | (cases h1; decide) | cases h1
  split at h
  ·exact hl _ _ _ h
  ·cases h
theorem items_bad {f : Int → List Int → Rd (S25 × Int)} (hf : ∀ p, Errs (f p)) : ∀ (n : Nat) (acc : List S25) (p : Int), Errs (pItems f n acc p)
 | 0, acc, p => fun l c h => by rw [pItems] at h; cases h
 | n + 1, acc, p => fun l c h => by
  rw [pItems] at h
  exact Errs.bind (hf p) (fun v => items_bad hf n _ _) l c h
theorem deep_bad : ∀ (k : Nat) (p : Int), Errs (pDeep k p)
 | 0, p => one_bad (fun p l c h => by cases h; decide) p
 | k + 1, p => one_bad (fun p l c h => by
  cases l with
  | nil => cases h; decide
  | cons n l =>
   rw [pLst] at h
   split at h
   ·cases h; decide
   ·exact items_bad (deep_bad k) _ _ _ _ _ (Rd.map_err h)) p
theorem val_law : Law pVal encM okV where
 one := fun l v l' hb hp => by
  obtain ⟨⟨u, p'⟩, e1, rfl⟩ := Rd.map_inv hp
  obtain ⟨h1, h2, h3⟩ := (deep_law 3).1 _ _ _ _ _ hb e1
  exact ⟨⟨h2, by rw [show (3 : Int) - ((3 : Nat) : Int) = 0 from rfl] at h1; rw [h1]⟩, h3⟩
 back := fun v l' hv => by
  unfold pVal
  rw [(deep_law 3).2 0 v (chk v 0 0).1 l' (by rw [show (3 : Int) - ((3 : Nat) : Int) = 0 from rfl]; exact Prod.ext rfl hv.2) hv.1]
  rfl
 bad := (deep_bad 3 0).map _
/-! Records. -/
theorem loopsC_iff : ∀ {l : List Int}, loopsC l = 0 ↔ ∀ n ∈ l, 0 ≤ n ∧ n ≤ 9
 | [] => by simp [loopsC]
 | n :: l => by
  rw [loopsC, List.forall_mem_cons]
  split
  ·exact ⟨fun h => by simp at h, fun h => by have := h.1; omega⟩
  ·rw [loopsC_iff]; exact ⟨fun h => ⟨by omega, h⟩, fun h => h.2⟩
def RecQ (x : S28) : Prop := okS x.f1 ∧ recC x = 0
theorem recQ_iff {x : S28} : RecQ x ↔ (((x.f0.size ≤ 12) ∧ okV x.f1) ∧ ((x.f2.length : Int) ≤ 3 ∧ ∀ n ∈ x.f2, 0 ≤ n ∧ n ≤ 9)) := by
 unfold RecQ recC okV
 constructor
 ·intro ⟨h0, h⟩
  split at h
  ·simp at h
  split at h
  ·rename_i h1; exact absurd h h1
  split at h
  ·simp at h
  exact ⟨⟨by omega, h0, by omega⟩, by omega, loopsC_iff.1 h⟩
 ·intro ⟨⟨h1, h2, h3⟩, h4, h5⟩
  refine ⟨h2, ?_⟩
  rw [if_neg (by omega), if_neg (by omega), if_neg (by omega)]
  exact loopsC_iff.2 h5
theorem rec_law : Law pRec encR RecQ :=
 ((key_law.and val_law).and (list_law (most := 3) (by decide) (num_law (most := 9) (by decide)))).map _ (fun x => ((x.f0, x.f1), x.f2)) (fun x hx => ⟨recQ_iff.2 hx, rfl⟩) (fun x hx => ⟨recQ_iff.1 hx, rfl, rfl⟩)
theorem recsL_iff : ∀ {l : List S28}, recsL l = 0 ↔ ∀ x ∈ l, recC x = 0
 | [] => by simp [recsL]
 | x :: l => by
  rw [recsL, List.forall_mem_cons]
  split
  ·rename_i h; rw [recsL_iff]; exact ⟨fun h' => ⟨h, h'⟩, fun h' => h'.2⟩
  ·rename_i h; exact ⟨fun h' => absurd h' h, fun h' => absurd h'.1 h⟩
def RecsQ (l : List S28) : Prop := (∀ x ∈ l, okS x.f1) ∧ recsC l = 0
theorem recsQ_iff {l : List S28} : RecsQ l ↔ ((l.length : Int) ≤ 256 ∧ ∀ x ∈ l, RecQ x) := by
 unfold RecsQ recsC RecQ
 constructor
 ·intro ⟨h0, h⟩
  split at h
  ·simp at h
  ·exact ⟨by omega, fun x hx => ⟨h0 x hx, recsL_iff.1 h x hx⟩⟩
 ·intro ⟨h0, h⟩
  rw [if_neg (by omega)]
  exact ⟨fun x hx => (h x hx).1, recsL_iff.2 fun x hx => (h x hx).2⟩
theorem recs_law : Law pRecs (lst encR) RecsQ := (list_law (most := 256) (by decide) rec_law).congr fun x => recsQ_iff.symm
def LogsQ (l : List (List S28)) : Prop := (l.length : Int) ≤ 4 ∧ ∀ x ∈ l, RecsQ x
theorem logs_law : Law pLogs (lst (lst encR)) LogsQ := list_law (most := 4) (by decide) recs_law
theorem logsL_iff {p : List S28} : ∀ {l : List (List S28)}, logsL l p = 0 ↔ (∀ x ∈ l, recsC x = 0) ∧ recsC p = 0
 | [] => by simp [logsL]
 | x :: l => by
  rw [logsL, List.forall_mem_cons]
  split
  ·rename_i h; rw [logsL_iff]; exact ⟨fun h' => ⟨⟨h, h'.1⟩, h'.2⟩, fun h' => ⟨h'.1.2, h'.2⟩⟩
  ·rename_i h; exact ⟨fun h' => absurd h' h, fun h' => absurd h'.1.1 h⟩
theorem logsC_iff {l : List (List S28)} {p : List S28} : ((∀ y ∈ l, ∀ x ∈ y, okS x.f1) ∧ (∀ x ∈ p, okS x.f1) ∧ logsC l p = 0) ↔ (LogsQ l ∧ RecsQ p) := by
 unfold logsC LogsQ RecsQ
 constructor
 ·intro ⟨h0, h1, h⟩
  split at h
  ·simp at h
  ·have h2 := logsL_iff.1 h
   exact ⟨⟨by omega, fun x hx => ⟨h0 x hx, h2.1 x hx⟩⟩, h1, h2.2⟩
 ·intro ⟨⟨h0, h1⟩, h2, h3⟩
  rw [if_neg (by omega)]
  exact ⟨fun y hy => (h1 y hy).1, h2, logsL_iff.2 ⟨fun y hy => (h1 y hy).2, h3⟩⟩
/-! States. -/
theorem valsC_iff : ∀ {l : List S25}, (okL l ∧ valsC l = 0) ↔ ∀ v ∈ l, okV v
 | [] => by simp [okL, valsC]
 | v :: l => by
  rw [okL, valsC, List.forall_mem_cons, ← valsC_iff]
  unfold okV
  constructor
  ·intro ⟨⟨h1, h2⟩, h⟩
   split at h
   ·rename_i h3; exact ⟨⟨h1, h3⟩, h2, h⟩
   ·rename_i h3; exact absurd h h3
  ·intro ⟨⟨h1, h2⟩, h3, h4⟩
   rw [if_pos h2]
   exact ⟨⟨h1, h3⟩, h4⟩
def CellQ (acc : List S121) (x : S121) : Prop := (x.f0.size ≤ 12 ∧ late (acc.getLast?.map (·.f0)) x.f0 = false) ∧ ((x.f1.length : Int) ≤ 6 ∧ ∀ v ∈ x.f1, okV v)
theorem after_bad (q : Option ByteArray) (k : ByteArray) : Errs (pAfter q k) := fun l c h => by unfold pAfter at h; split at h <;> first | (cases h; decide) | cases h
theorem cell_law (acc : List S121) : Law (pCellIn acc) encC (CellQ acc) where
 one := fun l x l' hb hp => by
  unfold pCellIn at hp
  obtain ⟨k, m, e1, e2⟩ := Rd.bind_inv hp
  obtain ⟨q1, rfl⟩ := key_law.one _ _ _ hb e1
  obtain ⟨k2, m2, e3, e4⟩ := Rd.bind_inv e2
  unfold pAfter at e3
  split at e3
  ·cases e3
  rename_i hl
  injection e3 with e5 e6
  subst e5 e6
  obtain ⟨vs, e7, rfl⟩ := Rd.map_inv e4
  obtain ⟨q2, rfl⟩ := (list_law (most := 6) (by decide) val_law).one _ _ _ hb.right e7
  exact ⟨⟨⟨q1, by simpa using hl⟩, q2⟩, by rw [encC, List.append_assoc]⟩
 back := fun x l' ⟨⟨h1, h2⟩, h3⟩ => by
  unfold pCellIn encC
  rw [List.append_assoc, key_law.back _ _ h1, Rd.bind_ok, pAfter, h2, if_neg (by simp), Rd.bind_ok, (list_law (most := 6) (by decide) val_law).back _ _ h3]
  rfl
 bad := key_law.bad.bind fun k => Errs.bind (after_bad _ _) fun k => (list_law (most := 6) (by decide) val_law).bad.map _
theorem cellsL_late (q : Option ByteArray) (x : S121) (l : List S121) : cellsL q (x :: l) = if 12 < x.f0.size then 24 else if late q x.f0 = true then 27 else if 6 < x.f1.length then 27 else if valsC x.f1 = 0 then cellsL (some x.f0) l else valsC x.f1 := by
 rw [cellsL_cons]
 cases q <;> rfl
theorem goneL_late (q : Option ByteArray) (x : ByteArray) (l : List ByteArray) : goneL q (x :: l) = if 12 < x.size then 24 else if late q x = true then 42 else goneL (some x) l := by
 rw [goneL_cons]
 cases q <;> rfl
theorem cellsL_iff : ∀ {l acc : List S121}, (cellsL (acc.getLast?.map (·.f0)) l = 0 ∧ ∀ x ∈ l, okL x.f1) ↔ Many CellQ acc l
 | [], acc => by simp [cellsL_nil, Many]
 | x :: l, acc => by
  have ih := @cellsL_iff l (acc ++ [x])
  rw [show (acc ++ [x]).getLast?.map (·.f0) = some x.f0 from by simp] at ih
  rw [Many, ← ih, cellsL_late, List.forall_mem_cons]
  unfold CellQ
  constructor
  ·intro ⟨h, h1, h2⟩
   split at h
   ·simp at h
   split at h
   ·simp at h
   split at h
   ·simp at h
   split at h
   ·rename_i a b c d
    exact ⟨⟨⟨by omega, by simpa using b⟩, by omega, valsC_iff.1 ⟨h1, d⟩⟩, h, h2⟩
   ·rename_i a b c d; exact absurd h d
  ·intro ⟨⟨⟨h1, h2⟩, h3, h4⟩, h5, h6⟩
   have h7 := valsC_iff.2 h4
   rw [if_neg (by omega), h2, if_neg (by simp), if_neg (by omega), if_pos h7.2]
   exact ⟨h5, h7.1, h6⟩
def StQ (n : Int) (l : List S121) : Prop := stateC n l = 0 ∧ ∀ x ∈ l, okL x.f1
theorem stQ_iff {n : Int} {l : List S121} : StQ n l ↔ ((0 ≤ n ∧ n ≤ 1073741824) ∧ ((l.length : Int) ≤ 64 ∧ Many CellQ [] l)) := by
 unfold StQ stateC
 rw [← cellsL_iff]
 constructor
 ·intro ⟨h, h0⟩
  split at h
  ·simp at h
  split at h
  ·simp at h
  exact ⟨by omega, by omega, h, h0⟩
 ·intro ⟨h1, h2, h3, h4⟩
  rw [if_neg (by omega), if_neg (by omega)]
  exact ⟨h3, h4⟩
theorem cells_law : Law (pList 64 pCellIn) (lst encC) (fun l => (l.length : Int) ≤ 64 ∧ Many CellQ [] l) := list_in (by decide) cell_law
theorem st_law : Law pState (fun x => encSt x.1 x.2) (fun x => StQ x.1 x.2) := ((num_law (most := 1073741824) (by decide)).and cells_law).congr fun x => stQ_iff.symm
/-! Keys that are gone. -/
def KeyQ (acc : List ByteArray) (k : ByteArray) : Prop := k.size ≤ 12 ∧ late acc.getLast? k = false
theorem keyIn_law (acc : List ByteArray) : Law (pKeyIn acc) keyB (KeyQ acc) where
 one := fun l x l' hb hp => by
  unfold pKeyIn at hp
  obtain ⟨k, m, e1, e2⟩ := Rd.bind_inv hp
  obtain ⟨q1, rfl⟩ := key_law.one _ _ _ hb e1
  unfold pAfter at e2
  split at e2
  ·cases e2
  rename_i hl
  injection e2 with e5 e6
  subst e5 e6
  exact ⟨⟨q1, by simpa using hl⟩, rfl⟩
 back := fun x l' ⟨h1, h2⟩ => by
  unfold pKeyIn
  rw [key_law.back _ _ h1, Rd.bind_ok, pAfter, h2, if_neg (by simp)]
 bad := key_law.bad.bind fun k => after_bad _ _
theorem goneL_iff : ∀ {l acc : List ByteArray}, goneL acc.getLast? l = 0 ↔ Many KeyQ acc l
 | [], acc => by simp [goneL_nil, Many]
 | x :: l, acc => by
  have ih := @goneL_iff l (acc ++ [x])
  rw [show (acc ++ [x]).getLast? = some x from by simp] at ih
  rw [Many, ← ih, goneL_late]
  unfold KeyQ
  constructor
  ·intro h
   split at h
   ·simp at h
   split at h
   ·simp at h
   rename_i a b
   exact ⟨⟨by omega, by simpa using b⟩, h⟩
  ·intro ⟨⟨h1, h2⟩, h3⟩
   rw [if_neg (by omega), h2, if_neg (by simp)]
   exact h3
theorem goneC_iff {l : List ByteArray} : goneC l = 0 ↔ ((l.length : Int) ≤ 64 ∧ Many KeyQ [] l) := by
 unfold goneC
 rw [← goneL_iff]
 constructor
 ·intro h
  split at h
  ·simp at h
  ·exact ⟨by omega, h⟩
 ·intro ⟨h1, h2⟩
  rw [if_neg (by omega)]
  exact h2
theorem gone_law : Law (pList 64 pKeyIn) (lst keyB) (fun l => goneC l = 0) := (list_in (by decide) keyIn_law).congr fun l => goneC_iff.symm
/-! Manifests, rows. -/
def RowQ (x : S108) : Prop := (0 ≤ x.f0 ∧ x.f0 ≤ 65536) ∧ (0 ≤ x.f1 ∧ x.f1 ≤ 4294967295)
theorem row_law : Law pRow1 encRow RowQ :=
 ((((num_law (most := 65536) (by decide)).and word_law).map (fun x => (⟨x.1, x.2⟩ : S108)) (fun x => (x.f0, x.f1)) (f' := encRow) (q' := RowQ) (fun x hx => ⟨hx, rfl⟩) (fun x hx => ⟨hx, rfl, rfl⟩)).cong2 (fun l => by
  unfold pRow1 Rd.and
  cases pNum 65536 l with
  | ok n m => simp only [Rd.bind, Rd.map]; cases pWord m <;> rfl
  | bad e => rfl) (fun _ _ => rfl) fun _ => Iff.rfl)
theorem rowsC_iff : ∀ {l : List S108}, rowsC l = 0 ↔ ∀ x ∈ l, 0 ≤ x.f0 ∧ x.f0 ≤ 65536
 | [] => by simp [rowsC]
 | x :: l => by
  rw [rowsC, List.forall_mem_cons]
  split
  ·exact ⟨fun h => by simp at h, fun h => by have := h.1; omega⟩
  ·rw [rowsC_iff]; exact ⟨fun h => ⟨by omega, h⟩, fun h => h.2⟩
def ManQ (id ms : Int) (l : List S108) : Prop := manC id l = 0 ∧ (0 ≤ ms ∧ ms ≤ 4294967295) ∧ ∀ x ∈ l, 0 ≤ x.f1 ∧ x.f1 ≤ 4294967295
theorem manQ_iff {id ms : Int} {l : List S108} : ManQ id ms l ↔ (((True ∧ 0 ≤ id ∧ id ≤ 9999) ∧ (0 ≤ ms ∧ ms ≤ 4294967295)) ∧ ((l.length : Int) ≤ 12 ∧ ∀ x ∈ l, RowQ x)) := by
 unfold ManQ manC RowQ
 constructor
 ·intro ⟨h, h1, h2⟩
  split at h
  ·simp at h
  ·exact ⟨⟨⟨trivial, by omega⟩, h1⟩, by omega, fun x hx => ⟨rowsC_iff.1 h x hx, h2 x hx⟩⟩
 ·intro ⟨⟨⟨_, h1⟩, h2⟩, h3, h4⟩
  rw [if_neg (by omega)]
  exact ⟨rowsC_iff.2 fun x hx => (h4 x hx).1, h2, fun x hx => (h4 x hx).2⟩
theorem man_law : Law pMan (fun x => encMan x.1 x.2.1 x.2.2) (fun x => ManQ x.1 x.2.1 x.2.2) :=
 (((((mark_law 77).and (num_law (most := 9999) (by decide))).and word_law).and (list_law (most := 12) (by decide) row_law)).map _ (fun x => ((((), x.1), x.2.1), x.2.2)) (fun x hx => ⟨manQ_iff.2 hx, rfl⟩) (fun x hx => ⟨manQ_iff.1 hx, rfl, rfl⟩))
def OutQ (n : Int) (x : S28) : Prop := okS x.f1 ∧ rowC n x = 0
theorem outQ_iff {n : Int} {x : S28} : OutQ n x ↔ ((True ∧ 0 ≤ n ∧ n ≤ 1073741824) ∧ RecQ x) := by
 unfold OutQ rowC RecQ
 constructor
 ·intro ⟨h0, h⟩
  split at h
  ·simp at h
  ·exact ⟨⟨trivial, by omega⟩, h0, h⟩
 ·intro ⟨⟨_, h1⟩, h2, h3⟩
  rw [if_neg (by omega)]
  exact ⟨h2, h3⟩
theorem out_law : Law pOut (fun x => encOut x.1 x.2) (fun x => OutQ x.1 x.2) :=
 (((mark_law 79).and (num_law (most := 1073741824) (by decide))).and rec_law).map _ (fun x => (((), x.1), x.2)) (fun x hx => ⟨outQ_iff.2 hx, rfl⟩) (fun x hx => ⟨outQ_iff.1 hx, rfl, rfl⟩)
end Go.Proofs.YthmkioodkldgbaaGreat.DK
