/- value.Decode; conditions: those in each theorem. -/
import Derived.Test.YthmkioodkldgbaaQoM13
namespace Go.Proofs.Ythmkioodkldgbaa.DK
open Go.Proofs.Ythmkioodkldgbaa.PD
open Go.RowKit Go.Proofs.YthmkioodkldgbaaW.PrintWords Go.Proofs.YthmkioodkldgbaaW.PrintLast Go.Proofs.YthmkioodkldgbaaW.PrintMore
set_option linter.unusedVariables false
set_option linter.unusedSimpArgs false
set_option maxRecDepth 100000
section
variable {w : World} {bv bn be : Nat} {c0 c1 c2 c3 n e : Value} {x : Int}
theorem d1_panicking (h : Three w bv bn be #[c0, c1, c2, c3] n e) (h1 : bv < bn) (h2 : bn < be) : CallsD Try.prog 143 #[.pointer (some ⟨bv, 0, none⟩), .pointer (some ⟨bn, 0, none⟩), .pointer (some ⟨be, 0, none⟩)] (.panicking (thrown x)) w fun en u' w' =>
  u' = .panicking [{ v := .iface 227 (.agg #[.int .i64 x, .int .i64 0]), recovered := true }] ∧ CaughtP w bv bn be x en w' := by
 refine callsD_of_wpS Try.func143 rfl fun c₀ cs hu => ?_
 apply wpS_region
 simp [wpOpsS, go_sem, recoverD, hu, thrown, Try.ntmps143, Exit.thenS]
 refine (caught_calls h h1 h2).mono ?_
 rintro en w1 ⟨rfl, h3, hu3⟩
 exact ⟨rfl, _, rfl, _, by simp [results, Try.results143], rfl, rfl, h3, hu3⟩
theorem d1_idle (v1 v2 v3 : Value) : CallsD Try.prog 143 #[v1, v2, v3] .returning w fun en u' w' => en = .returned (.tuple #[]) ∧ u' = .returning ∧ w' = w := by
 refine callsD_of_wpS Try.func143 rfl fun c₀ cs hu => ?_
 apply wpS_region
 simp [wpOpsS, go_sem, recoverD, hu, thrown, Try.ntmps143, Exit.thenS]
 refine (caught_idle v1 v2 v3).mono ?_
 rintro en w1 ⟨rfl, rfl⟩
 refine ⟨rfl, .returning, ?_, _, by simp [results, Try.results143], rfl, rfl, rfl⟩
 rw [← hu]
theorem map_bad {α β : Type} {f : α → β} {r : Rd α} {x : Int} (h : r.map f = .bad x) : r = .bad x := by
 cases r with
 | ok v l => cases h
 | bad e => exact (by injection h with h; rw [h])
theorem pInt_bad : ∀ (l : List Int) (i : Nat) {x : Int}, pInt i l = .bad x → x ≠ 0
 | [], i, x, h => by rw [pInt] at h; injection h with h; omega
 | c :: l, i, x, h => by
  rw [pInt] at h
  split at h
  ·injection h with h; omega
  ·split at h
   ·cases h
   ·exact pInt_bad l (i + 1) (map_bad h)
theorem pText_bad {l : List Int} {x : Int} (h : pText l = .bad x) : x ≠ 0 := by
 cases l with
 | nil => injection h with h; omega
 | cons n l =>
  rw [pText] at h
  split at h
  ·injection h with h; omega
  ·split at h
   ·injection h with h; omega
   ·cases h
theorem pItems_bad {f : Int → List Int → Rd (S25 × Int)} (hf : ∀ p l x, f p l = .bad x → x ≠ 0) : ∀ (n : Nat) (acc : List S25) (p : Int) (l : List Int) {x : Int}, pItems f n acc p l = .bad x → x ≠ 0
 | 0, acc, p, l, x, h => by rw [pItems] at h; cases h
 | n + 1, acc, p, l, x, h => by
  rw [pItems] at h
  cases hq : f p l with
  | bad e => rw [hq] at h; injection h with h; subst h; exact hf p l _ hq
  | ok v l' => rw [hq] at h; exact pItems_bad hf n _ _ _ h
theorem pLst_bad {f : Int → List Int → Rd (S25 × Int)} (hf : ∀ p l x, f p l = .bad x → x ≠ 0) (p : Int) (l : List Int) {x : Int} (h : pLst f p l = .bad x) : x ≠ 0 := by
 cases l with
 | nil => injection h with h; omega
 | cons n l =>
  rw [pLst] at h
  split at h
  ·injection h with h; omega
  ·exact pItems_bad hf _ _ _ _ (map_bad h)
theorem pOne_bad {lst : Int → List Int → Rd (S25 × Int)} (hf : ∀ p l x, lst p l = .bad x → x ≠ 0) (p : Int) (l : List Int) {x : Int} (h : pOne lst p l = .bad x) : x ≠ 0 := by
 cases l with
 | nil => injection h with h; omega
 | cons n l =>
  rw [pOne] at h
  split at h
  ·injection h with h; omega
  split at h
  ·injection h with h; omega
  split at h
  ·exact pInt_bad _ _ (map_bad h)
  split at h
  ·exact pText_bad (map_bad h)
  split at h
  ·exact hf _ _ _ h
  ·cases h
theorem pDeep_bad : ∀ (k : Nat) (p : Int) (l : List Int) {x : Int}, pDeep k p l = .bad x → x ≠ 0
 | 0, p, l, x, h => pOne_bad (fun _ _ _ h => by injection h with h; omega) p l h
 | k + 1, p, l, x, h => pOne_bad (fun p l x h => pLst_bad (fun p l x h => pDeep_bad k p l h) p l h) p l h
/-- What Decode hands out. -/
def DecodeG (w : World) (l : List Int) (en : Ending) (w' : World) : Prop :=
 ∃ (v : S25) (v3 : Value) (i : Nat) (e : Int), en = .returned (.tuple #[.agg #[.int .i64 v.f0, .int .i64 v.f1, .string v.f2, v3], .int .i64 i, .int .i64 e]) ∧ Below w.heap.size w w' ∧ k25.R 25 w' w.heap.size (News w) v3 v.f3 ∧
  ((e = 0 ∧ i ≤ l.length ∧ pVal l = .ok v (l.drop i)) ∨ (e ≠ 0 ∧ pVal l = .bad e))
theorem size_alloc (w : World) (o : Obj) : (w.alloc o).heap.size = w.heap.size + 1 := by
 show (w.heap.push o).size = _
 exact Array.size_push _
theorem new_at (w : World) (o : Obj) (k : Nat) (hk : k = w.heap.size) : (w.alloc o).heap[k]? = some o := by subst hk; exact heap_alloc_new w o
/-- Four new blocks. -/
theorem four_new (w : World) (o1 o2 o3 o4 : Obj) : ((((w.alloc o1).alloc o2).alloc o3).alloc o4).heap[w.heap.size]? = some o1 ∧ ((((w.alloc o1).alloc o2).alloc o3).alloc o4).heap[w.heap.size + 1]? = some o2 ∧ ((((w.alloc o1).alloc o2).alloc o3).alloc o4).heap[w.heap.size + 1 + 1]? = some o3 ∧ ((((w.alloc o1).alloc o2).alloc o3).alloc o4).heap[w.heap.size + 1 + 1 + 1]? = some o4 ∧ Below w.heap.size w ((((w.alloc o1).alloc o2).alloc o3).alloc o4) :=
 ⟨blk_alloc (blk_alloc (blk_alloc (heap_alloc_new w o1) _) _) _, blk_alloc (blk_alloc (new_at _ _ _ (by rw [size_alloc])) _) _, blk_alloc (new_at _ _ _ (by rw [size_alloc, size_alloc])) _, new_at _ _ _ (by rw [size_alloc, size_alloc, size_alloc]), below_alloc (below_alloc (below_alloc (below_alloc (Below.refl _ _) _) _) _) _⟩
theorem results_134 {w : World} {bv bn be : Nat} {n e : Value} (h : Three w bv bn be #[c0, c1, c2, c3] n e) (tmps : Array Value) (h1 : tmps[2]?.getD undef = .pointer (some ⟨bv, 0, none⟩)) (h2 : tmps[3]?.getD undef = .pointer (some ⟨bn, 0, none⟩)) (h3 : tmps[4]?.getD undef = .pointer (some ⟨be, 0, none⟩)) :
  (results Try.f134 tmps).run Try.prog w = .ok (.tuple #[.agg #[c0, c1, c2, c3], n, e]) w := by
 have m0 := blk_cell h.v 0
 have m1 := blk_cell h.v 1
 have m2 := blk_cell h.v 2
 have m3 := blk_cell h.v 3
 have m4 := blk_cell h.n 0
 have m5 := blk_cell h.e 0
 simp only [List.getElem?_toArray, List.getElem?_cons_succ, List.getElem?_cons_zero] at m0 m1 m2 m3 m4 m5
 simp [results, Try.results134, h1, h2, h3, go_sem, m0, m1, m2, m3, m4, m5]
set_option maxHeartbeats 8000000 in
theorem Decode_calls {b : Nat} {A : Option Addr} {c : Nat} {l : List Int} (h : In (Kd.int .u8) b w A l) (hc : l.length ≤ c) (hr : ∀ x ∈ l, 0 ≤ x ∧ x ≤ 255) : Calls Try.prog 134 #[.slice A l.length c] w (DecodeG w l) := by
 have H := Aside0.mk (In.mk h.C (Nat.le_refl _))
 have HC := Aside0.mk hc
 have HR := Aside0.mk hr
 clear h hc hr
 have hmf : ∀ (fn : Fn) (first cap : Array Value) (w : World), (Instr.makeFunc fn first cap).run Try.prog w = .ok (.func fn first cap) w := fun _ _ _ _ => rfl
 go_enter_defers Try.func134, Try.ntmps134
 go_wp2_with fail
 obtain ⟨x1, x2, x3, x4, xb⟩ := four_new w (.cells #[.int .i64 0, .int .i64 0, .string ⟨#[]⟩, .slice none 0 0] 25) (.cells #[.int .i64 0] 3) (.cells #[.int .i64 0] 67) (.cells #[.slice A l.length c, .int .i64 0, .int .i64 0] 220)
 generalize (((w.alloc (.cells #[.int .i64 0, .int .i64 0, .string ⟨#[]⟩, .slice none 0 0] 25)).alloc (.cells #[.int .i64 0] 3)).alloc (.cells #[.int .i64 0] 67)).alloc (.cells #[.slice A l.length c, .int .i64 0, .int .i64 0] 220) = W0 at *
 have HT := Aside0.mk (show Three W0 w.heap.size (w.heap.size + 1) (w.heap.size + 1 + 1) #[.int .i64 0, .int .i64 0, .string ⟨#[]⟩, .slice none 0 0] (.int .i64 0) (.int .i64 0) from ⟨x1, x2, x3⟩)
 have HD := Aside0.mk (show Dec w.heap.size W0 (w.heap.size + 1 + 1 + 1) A c l 0 0 from ⟨x4, by omega, H.out.ext xb, Nat.zero_le _, HC.out, by decide, HR.out⟩)
 have HB := Aside0.mk xb
 clear x1 x2 x3 x4 xb
 have hv := dvalue_calls 3 0 rfl W0 0 0 HD.out
 simp only [Int.natCast_zero, List.drop_zero] at hv
 refine hv.mono ?_
 rintro en w5 (⟨v, q, i, v3, rfl, hR, hd, hu, hr⟩ | ⟨x, hr, rfl, hu⟩)
 ·have HR5 := Aside0.mk hR
  have HD5 := Aside0.mk hd
  have HU5 := Aside0.mk hu
  have HE5 := Aside0.mk hr
  have HT5 := Aside0.mk (show Three w5 w.heap.size (w.heap.size + 1) (w.heap.size + 1 + 1) #[.int .i64 0, .int .i64 0, .string ⟨#[]⟩, .slice none 0 0] (.int .i64 0) (.int .i64 0) from ⟨hu.blk HT.out.v (by decide), hu.blk HT.out.n (by decide), hu.blk HT.out.e (by decide)⟩)
  clear hR hd hu hr hv
  obtain ⟨A6, n, c6, rfl⟩ : ∃ A n c, v3 = .slice A n c := (Kd.R_slice HR5.out).elim (fun A h => h.elim (fun c h => ⟨A, _, c, h⟩))
  have n0 := blk_cell HT5.out.v 0
  have n1 := blk_cell HT5.out.v 1
  have n2 := blk_cell HT5.out.v 2
  have n3 := blk_cell HT5.out.v 3
  have f0 := blk_frozen HT5.out.v 0
  have f1 := blk_frozen HT5.out.v 1
  have f2 := blk_frozen HT5.out.v 2
  have f3 := blk_frozen HT5.out.v 3
  have n4 := blk_cell HT5.out.n 0
  have f4 := blk_frozen HT5.out.n 0
  have n5 := blk_cell HT5.out.e 0
  have f5 := blk_frozen HT5.out.e 0
  have n6 := blk_cell HD5.out.box 1
  simp only [List.getElem?_toArray, List.getElem?_cons_succ, List.getElem?_cons_zero] at n0 n1 n2 n3 n4 n5 n6
  obtain ⟨a1, a2, a3⟩ := fill4 HT5.out.v (.int .i64 v.f0) (.int .i64 v.f1) (.string v.f2) (.slice A6 n c6)
  obtain ⟨b1, b2, b3⟩ := fill4 a1 (.int .i64 v.f0) (.int .i64 v.f1) (.string v.f2) (.slice A6 n c6)
  have gn := (b2 (w.heap.size + 1) (by omega)).trans ((a2 _ (by omega)).trans HT5.out.n)
  have ge := (b2 (w.heap.size + 1 + 1) (by omega)).trans ((a2 _ (by omega)).trans HT5.out.e)
  have gn1 := blk_set (i := 0) (v := .int .i64 i) gn
  have ge1 := (Below.heap_setCell _ ⟨w.heap.size + 1, 0, none⟩ (.int .i64 i) (w.heap.size + 1 + 1) (show w.heap.size + 1 + 1 ≠ w.heap.size + 1 by omega)).trans ge
  have gv1 := (Below.heap_setCell _ ⟨w.heap.size + 1, 0, none⟩ (.int .i64 i) (w.heap.size) (show w.heap.size ≠ w.heap.size + 1 by omega)).trans b1
  have HT9 := Aside0.mk (Three.mk ((Below.heap_setCell _ ⟨w.heap.size + 1 + 1, 0, none⟩ (.int .i64 0) (w.heap.size) (show w.heap.size ≠ w.heap.size + 1 + 1 by omega)).trans gv1) ((Below.heap_setCell _ ⟨w.heap.size + 1 + 1, 0, none⟩ (.int .i64 0) (w.heap.size + 1) (show w.heap.size + 1 ≠ w.heap.size + 1 + 1 by omega)).trans gn1) (blk_set (i := 0) (v := .int .i64 0) ge1))
  have HU9 := Aside0.mk ((((a3.trans b3).mono (T' := [25, 3, 67]) (by simp)).set gn (by simp) (by omega) 0 (.int .i64 i)).set ge1 (by simp) (by omega) 0 (.int .i64 0))
  have HK9 := Aside0.mk (fun (k : Nat) (hk : w.heap.size + 1 + 1 < k) => (Below.heap_setCell _ ⟨w.heap.size + 1 + 1, 0, none⟩ (.int .i64 0) k (show k ≠ w.heap.size + 1 + 1 by omega)).trans ((Below.heap_setCell _ ⟨w.heap.size + 1, 0, none⟩ (.int .i64 i) k (show k ≠ w.heap.size + 1 by omega)).trans ((b2 k (by omega)).trans (a2 k (by omega)))))
  clear a1 a2 a3 b1 b2 b3 gn ge gn1 ge1 gv1
  go_wp2
  generalize (((((((((w5.setCell ⟨w.heap.size, 0, none⟩ (.int .i64 v.f0)).setCell ⟨w.heap.size, 1, none⟩ (.int .i64 v.f1)).setCell ⟨w.heap.size, 2, none⟩ (.string v.f2)).setCell ⟨w.heap.size, 3, none⟩ (.slice A6 n c6)).setCell ⟨w.heap.size, 0, none⟩ (.int .i64 v.f0)).setCell ⟨w.heap.size, 1, none⟩ (.int .i64 v.f1)).setCell ⟨w.heap.size, 2, none⟩ (.string v.f2)).setCell ⟨w.heap.size, 3, none⟩ (.slice A6 n c6)).setCell ⟨w.heap.size + 1, 0, none⟩ (.int .i64 i)).setCell ⟨w.heap.size + 1 + 1, 0, none⟩ (.int .i64 0) = W9 at *
  refine leaves_cons (f := 143) (args := #[.pointer (some ⟨w.heap.size, 0, none⟩), .pointer (some ⟨w.heap.size + 1, 0, none⟩), .pointer (some ⟨w.heap.size + 1 + 1, 0, none⟩)]) (by simp) (by simp [go_sem]) ?_
  refine (d1_idle _ _ _).mono ?_
  rintro e u' w'' ⟨rfl, rfl, rfl⟩
  refine ⟨_, results_134 HT9.out _ rfl rfl rfl, ?_⟩
  refine ⟨v, _, i, 0, rfl, ?_, ?_, .inl ⟨rfl, HD5.out.le, by rw [pVal, HE5.out]; rfl⟩⟩
  ·exact (HB.out.trans (HU5.out.below HB.out.size)).trans (HU9.out.below (Nat.le_trans HB.out.size HU5.out.size))
  ·have hlt := blk_lt HT.out.e
   exact Kd.R_lower (Kd.R_mono (Kd.R_move (Kd.R_bound HR5.out) (fun k hk => HK9.out k (by have := hk.2.1; omega))) (fun _ _ => trivial)) HB.out.size
 ·have HU5 := Aside0.mk hu
  have HE5 := Aside0.mk hr
  have HT5 := Aside0.mk (show Three w5 w.heap.size (w.heap.size + 1) (w.heap.size + 1 + 1) #[.int .i64 0, .int .i64 0, .string ⟨#[]⟩, .slice none 0 0] (.int .i64 0) (.int .i64 0) from ⟨hu.blk HT.out.v (by decide), hu.blk HT.out.n (by decide), hu.blk HT.out.e (by decide)⟩)
  clear hu hr hv
  refine leaves_cons (f := 143) (args := #[.pointer (some ⟨w.heap.size, 0, none⟩), .pointer (some ⟨w.heap.size + 1, 0, none⟩), .pointer (some ⟨w.heap.size + 1 + 1, 0, none⟩)]) (by simp) (by simp [go_sem]) ?_
  refine (d1_panicking HT5.out (by omega) (by omega)).mono ?_
  rintro e u' w9 ⟨rfl, rfl, h3, hu3⟩
  refine ⟨_, results_134 h3 _ rfl rfl rfl, ?_⟩
  have hx : x ≠ 0 := pDeep_bad _ _ _ HE5.out
  refine ⟨⟨0, 0, ⟨#[]⟩, []⟩, _, 0, x, rfl, ?_, Kd.R_nil _ _ _ _ _, .inr ⟨hx, by rw [pVal, HE5.out]; rfl⟩⟩
  exact (HB.out.trans (HU5.out.below HB.out.size)).trans (hu3.below (Nat.le_trans HB.out.size HU5.out.size))
end
end Go.Proofs.Ythmkioodkldgbaa.DK
/- wire.reader.value; conditions: those in each theorem. -/
namespace Go.Proofs.Ythmkioodkldgbaa.DK
open Go.Proofs.Ythmkioodkldgbaa.PD
open Go.RowKit Go.Proofs.YthmkioodkldgbaaW.PrintWords Go.Proofs.YthmkioodkldgbaaW.PrintLast Go.Proofs.YthmkioodkldgbaaW.PrintMore
set_option linter.unusedVariables false
set_option linter.unusedSimpArgs false
set_option maxRecDepth 100000
/-- A value, read. -/
def ValueG (b : Nat) (w : World) (g : Nat) (e : Int) (r : Rd S25) (en : Ending) (w' : World) : Prop :=
 ∃ (v : S25) (v3 : Value), en = .returned (.agg #[.int .i64 v.f0, .int .i64 v.f1, .string v.f2, v3]) ∧ k25.R 25 w' w.heap.size (News w) v3 v.f3 ∧ ∃ l' e' u', GotS b w g e r v w' l' e' u'
theorem ValueG.mk {b : Nat} {w : World} {g : Nat} {e : Int} {r : Rd S25} {w' : World} (v : S25) {v3 : Value} {l' : List Int} {e' : Int} {u' : Value} (h : GotS b w g e r v w' l' e' u') (hR : k25.R 25 w' w.heap.size (News w) v3 v.f3) : ValueG b w g e r (.returned (.agg #[.int .i64 v.f0, .int .i64 v.f1, .string v.f2, v3])) w' := ⟨v, v3, rfl, hR, l', e', u', h⟩
/-- A block made in between is filled. -/
theorem GotS.fill {α : Type} {b : Nat} {w w1 w2 : World} {g : Nat} {e : Int} {r : Rd α} {x : α} {l1 : List Int} {e1 : Int} {u1 : Value} (h : GotS b w g e r x w1 l1 e1 u1) {T : List Nat} (hu : UT T w.heap.size w1 w2) (hT : 154 ∉ T) (hb : b ≤ w.heap.size) : GotS b w g e r x w2 l1 e1 u1 :=
 ⟨h.rdr.ut (hu.lower hb) hT, h.ut.fill hu, h.ok, h.bad, h.old⟩
section
variable {b : Nat} {w : World} {g : Nat} {l : List Int} {e : Int} {u : Value}
set_option maxHeartbeats 8000000 in
theorem rvalue_calls (h : Rdr b w g l e u) : Calls Try.prog 103 #[.pointer (some ⟨g, 0, none⟩)] w (ValueG b w g e (pVal l)) := by
 obtain ⟨A, c, rfl, hlc, hi⟩ := h.inp
 have m0 := blk_cell h.box 0
 have m1 := blk_cell h.box 1
 simp only [List.getElem?_toArray, List.getElem?_cons_succ, List.getElem?_cons_zero] at m0 m1
 have hblk := blk_lt h.box
 have hlen : l.length ≤ 9223372036854775807 := hi.C.2.1
 have H := Aside0.mk h
 have HI := Aside0.mk hi
 clear h hi
 by_cases he : e = 0
 ·subst he
  go_enter Try.func103, Try.ntmps103
  go_wp2_with fail
  refine (Decode_calls (HI.out.below (below_alloc (Below.refl _ _) _)) hlc H.out.rng).mono ?_
  rintro en w5 ⟨v, v3, i, x, rfl, hb, hR, hd⟩
  obtain ⟨A6, n, c6, rfl⟩ : ∃ A n c, v3 = .slice A n c := (Kd.R_slice hR).elim (fun A h => h.elim (fun c h => ⟨A, _, c, h⟩))
  have HR5 := Aside0.mk hR
  have HB5 := Aside0.mk (show Below w.heap.size w w5 from (below_alloc (Below.refl _ _) _).trans (hb.mono (by rw [size_alloc]; omega)))
  have HX5 := Aside0.mk ((hb.block w.heap.size (by rw [size_alloc]; omega)).trans (heap_alloc_new w _))
  have hsz : (w.alloc (.cells #[.int .i64 0, .int .i64 0, .string ⟨#[]⟩, .slice none 0 0] 25)).heap.size = w.heap.size + 1 := size_alloc _ _
  have hsz5 : w.heap.size + 1 ≤ w5.heap.size := by rw [← hsz]; exact hb.size
  have HRW5 := Aside0.mk (H.out.below HB5.out)
  clear hb hR
  rcases hd with ⟨rfl, hin, hd⟩ | ⟨hx, hd⟩
  ·have HD := Aside0.mk hd
   clear hd
   go_wp2_with fail
   refine (rtake_calls (HRW5.out.below (below_alloc (Below.refl _ _) _)) i).mono ?_
   intro en w6 h6
   unfold Took at h6
   rw [if_pos hin] at h6
   obtain ⟨A9, rfl, _, ⟨⟨u6, hr6⟩, hu6⟩⟩ := h6
   have HR6 := Aside0.mk hr6
   have HU6 := Aside0.mk (((UT.of_below [154] b HB5.out).alloc _).trans hu6)
   have HV6 := Aside0.mk (R_ut (Kd.R_below HR5.out (below_alloc (Below.refl _ _) (.cells #[.int .i64 v.f0, .int .i64 v.f1, .string v.f2, .slice A6 n c6] 25))) hu6 (by decide))
   have HX6 := Aside0.mk (hu6.blk (blk_alloc HX5.out _) (by decide))
   have HY6 := Aside0.mk (hu6.blk (heap_alloc_new w5 _) (by decide))
   clear hr6 hu6
   have n0 := blk_cell HX6.out 0
   have f0 := blk_frozen HX6.out 0
   have n1 := blk_cell HX6.out 1
   have f1 := blk_frozen HX6.out 1
   have n2 := blk_cell HX6.out 2
   have f2 := blk_frozen HX6.out 2
   have n3 := blk_cell HX6.out 3
   have f3 := blk_frozen HX6.out 3
   have k0 := blk_cell HY6.out 0
   have k1 := blk_cell HY6.out 1
   have k2 := blk_cell HY6.out 2
   have k3 := blk_cell HY6.out 3
   simp only [List.getElem?_toArray, List.getElem?_cons_succ, List.getElem?_cons_zero] at n0 n1 n2 n3 k0 k1 k2 k3
   have hb4 := blk_lt HX6.out
   obtain ⟨hW1, hW2, hW3⟩ := fill4 HX6.out (.int .i64 v.f0) (.int .i64 v.f1) (.string v.f2) (.slice A6 n c6)
   have HF := Aside0.mk hW2
   have HT := Aside0.mk hW3
   have HG := Aside0.mk hW1
   clear hW1 hW2 hW3
   go_wp2
   (try simp only [Exit.inBlock, Exit.then])
   refine bodyPost_ret (results_cell_row rfl _ _ w.heap.size 25 _ (0, 0) _ rfl HG.out Try.underlying25 rfl size25) rfl ?_
   refine ValueG.mk v (GotS.fill (w1 := w6) ⟨HR6.out, HU6.out, fun _ _ => HD.out, fun _ h => absurd rfl h, fun h => absurd rfl h⟩ HT.out (by decide) H.out.le) ?_
   exact Kd.R_lower (Kd.R_mono (Kd.R_move (Kd.R_bound HV6.out) (fun k hk => HF.out k (by have := hk.2.1; omega))) (fun _ _ => trivial)) (by omega)
  ·have HD := Aside0.mk hd
   have hxb : (x != 0) = true := by simpa using hx
   clear hd
   go_wp2_with fail
   refine (rfail_calls (HRW5.out.below (below_alloc (Below.refl _ _) _)) x).mono ?_
   rintro en w6 ⟨rfl, ⟨⟨u6, hr6⟩, hu6⟩⟩
   rw [bump_0] at hr6
   have HR6 := Aside0.mk hr6
   have HU6 := Aside0.mk (((UT.of_below [154] b HB5.out).alloc _).trans hu6)
   have HX6 := Aside0.mk (hu6.blk (blk_alloc HX5.out _) (by decide))
   have HXX := Aside0.mk hx
   clear hr6 hu6
   have n0 := blk_cell HX6.out 0
   have f0 := blk_frozen HX6.out 0
   have n1 := blk_cell HX6.out 1
   have f1 := blk_frozen HX6.out 1
   have n2 := blk_cell HX6.out 2
   have f2 := blk_frozen HX6.out 2
   have n3 := blk_cell HX6.out 3
   have f3 := blk_frozen HX6.out 3
   simp only [List.getElem?_toArray, List.getElem?_cons_succ, List.getElem?_cons_zero] at n0 n1 n2 n3
   have hb4 := blk_lt HX6.out
   obtain ⟨hW1, hW2, hW3⟩ := fill4 HX6.out (.int .i64 0) (.int .i64 0) (.string ⟨#[]⟩) (.slice none 0 0)
   have HF := Aside0.mk hW2
   have HT := Aside0.mk hW3
   have HG := Aside0.mk hW1
   clear hW1 hW2 hW3
   go_wp2
   (try simp only [Exit.inBlock, Exit.then])
   refine bodyPost_ret (results_cell_row rfl _ _ w.heap.size 25 _ (0, 0) _ rfl HG.out Try.underlying25 rfl size25) rfl ?_
   exact ValueG.mk ⟨0, 0, ⟨#[]⟩, []⟩ (GotS.fill (w1 := w6) ⟨HR6.out, HU6.out, fun _ h => absurd h HXX.out, fun _ _ => HD.out, fun h => absurd rfl h⟩ HT.out (by decide) H.out.le) (Kd.R_nil _ _ _ _ _)
 ·have heb : (e != 0) = true := by simpa using he
  have HE := Aside0.mk he
  go_enter Try.func103, Try.ntmps103
  go_wp2
  (try simp only [Exit.inBlock, Exit.then])
  refine bodyPost_ret (results_cell_row rfl _ _ w.heap.size 25 _ (0, 0) _ rfl (heap_alloc_new w _) Try.underlying25 rfl size25) rfl ?_
  exact ValueG.mk ⟨0, 0, ⟨#[]⟩, []⟩ ⟨H.out.below (below_alloc (Below.refl _ _) _), (UT.refl _ _ _).alloc _, fun h => absurd h HE.out, fun h => absurd h HE.out, fun _ => rfl⟩ (Kd.R_nil _ _ _ _ _)
end
end Go.Proofs.Ythmkioodkldgbaa.DK
/- wire.getLoop, getValue, getKey, the lists of these, and of rows; conditions: those in each theorem. -/
namespace Go.Proofs.Ythmkioodkldgbaa.DK
open Go.Proofs.Ythmkioodkldgbaa.PD
open Go.RowKit Go.Proofs.YthmkioodkldgbaaW.PrintWords Go.Proofs.YthmkioodkldgbaaW.PrintLast Go.Proofs.YthmkioodkldgbaaW.PrintMore
set_option linter.unusedVariables false
set_option linter.unusedSimpArgs false
set_option maxRecDepth 100000
theorem gi9 : (Try.prog.info? 9).map (fun i => (i.zero, i.size, i.bytes)) = some (some (.string ⟨#[]⟩), 1, 16) := by kernel_rfl
theorem gi108 : (Try.prog.info? 108).map (fun i => (i.zero, i.size, i.bytes)) = some (some (.agg #[.int .i64 0, .int .u32 0]), 2, 16) := by kernel_rfl
theorem gi121 : (Try.prog.info? 121).map (fun i => (i.zero, i.size, i.bytes)) = some (some (.agg #[.string ⟨#[]⟩, .slice none 0 0]), 2, 40) := by kernel_rfl
theorem gi28 : (Try.prog.info? 28).map (fun i => (i.zero, i.size, i.bytes)) = some (some (.agg #[.string ⟨#[]⟩, .int .i64 0, .int .i64 0, .string ⟨#[]⟩, .slice none 0 0, .slice none 0 0]), 6, 96) := by kernel_rfl
theorem gi37 : (Try.prog.info? 37).map (fun i => (i.zero, i.size, i.bytes)) = some (some (.slice none 0 0), 1, 24) := by kernel_rfl
/-- The cells of block B filled one by one, from the i-th on. -/
def sets (w : World) (B : Nat) : Nat → List Value → World
 | _, [] => w
 | i, v :: vs => sets (w.setCell ⟨B, i, none⟩ v) B (i + 1) vs
theorem sets_at {B t : Nat} : ∀ (vs : List Value) (i : Nat) (w : World) (cs : Array Value), w.heap[B]? = some (.cells cs t (0, 0)) → cs.size = i + vs.length → (sets w B i vs).heap[B]? = some (.cells (cs.toList.take i ++ vs).toArray t (0, 0))
 | [], i, w, cs, h, hs => by
  rw [sets, h, List.append_nil, List.take_of_length_le (by simp at hs ⊢; omega)]
 | v :: vs, i, w, cs, h, hs => by
  rw [sets, sets_at vs (i + 1) _ _ (blk_set h) (by simp at hs ⊢; omega)]
  have e : (cs.setIfInBounds i v).toList.take (i + 1) = cs.toList.take i ++ [v] := by
   rw [Array.toList_setIfInBounds, List.take_set, List.take_succ_eq_append_getElem (by simp at hs ⊢; omega), List.set_append_right _ _ (by simp; omega)]
   simp at hs ⊢
   rw [Nat.min_eq_left (by omega), Nat.sub_self]
   simp
  rw [e]
  simp
theorem sets_off {B : Nat} : ∀ (vs : List Value) (i : Nat) (w : World) (k : Nat), k ≠ B → (sets w B i vs).heap[k]? = w.heap[k]?
 | [], i, w, k, hk => rfl
 | v :: vs, i, w, k, hk => by rw [sets, sets_off vs (i + 1) _ k hk, Below.heap_setCell _ _ _ k hk]
theorem sets_ut {B t : Nat} : ∀ (vs : List Value) (i : Nat) (w : World) (cs : Array Value), w.heap[B]? = some (.cells cs t (0, 0)) → UT [t] B w (sets w B i vs)
 | [], i, w, cs, h => UT.refl _ _ _
 | v :: vs, i, w, cs, h => ((UT.refl [t] B w).set h (by simp) (Nat.le_refl _) i v).trans (sets_ut vs (i + 1) _ _ (blk_set h))
/-- A block filled whole. -/
theorem filln {w : World} {B t : Nat} {cs : Array Value} (h : w.heap[B]? = some (.cells cs t (0, 0))) (vs : List Value) (hs : cs.size = vs.length) :
  (sets w B 0 vs).heap[B]? = some (.cells vs.toArray t (0, 0)) ∧ (∀ k, k ≠ B → (sets w B 0 vs).heap[k]? = w.heap[k]?) ∧ UT [t] B w (sets w B 0 vs) :=
 ⟨by have := sets_at vs 0 w cs h (by omega); simpa using this, fun k hk => sets_off vs 0 w k hk, sets_ut vs 0 w cs h⟩
section
variable {b : Nat} {w : World} {g : Nat} {l : List Int} {e : Int} {u : Value}
set_option maxHeartbeats 4000000 in
theorem getLoop_calls (h : Rdr b w g l e u) (v : Value) : Calls Try.prog 105 #[.pointer (some ⟨g, 0, none⟩), v] w (NumG b w g e 9 l) := by
 have H := Aside0.mk h
 clear h
 go_enter Try.func105, Try.ntmps105
 go_wp2_with fail
 refine (rnumber_got H.out 9).mono ?_
 rintro en w1 ⟨n, rfl, hn⟩
 have HN := Aside0.mk hn
 clear hn
 go_wp2
 go_ret
 exact ⟨n, rfl, HN.out⟩
end
set_option maxHeartbeats 8000000 in
theorem getLoops_calls {b : Nat} {w : World} {g : Nat} {l : List Int} {e : Int} {u : Value} (h : Rdr b w g l e u) (most : Int) (hm : most ≤ 1000) :
  Calls Try.prog 104 #[.pointer (some ⟨g, 0, none⟩), .int .i64 most, .func (.func 105) #[] #[]] w (ListG (Kd.int .i64) 3 b w g e (pList most (fun _ => pNum 9) l)) := by
 have H := Aside0.mk h
 have hgw := blk_lt h.box
 clear h 
 go_enter Try.func104, Try.ntmps104
 go_wp2_with fail
 refine (rnumber_got H.out most).mono ?_
 rintro en w1 ⟨n, rfl, hn0, hn1, l1, e1, u1, h1⟩
 have HS := Aside0.mk (LstG.start (d := Kd.int .i64) (ty := 3) (p := fun _ => pNum 9) h1 hn0 hn1)
 clear h1 hn0 hn1
 go_wp2
 go_loopw [7, 8] (fun u nv wr => LstG (Kd.int .i64) 3 b w g e most (fun _ => pNum 9) (pList most (fun _ => pNum 9) l) u nv wr) (fun _ nv _ => (intOf nv).toNat)
 case atStart => exact HS.out
 case round =>
  obtain ⟨xs, n, l', e', u', rfl, hn0, hmm, hR, hr, hu, h1⟩ := hrel
  have m1 := blk_cell hr.box 1
  simp only [List.getElem?_toArray, List.getElem?_cons_succ, List.getElem?_cons_zero] at m1
  have hgr := blk_lt hr.box
  obtain ⟨A, nn, c, rfl⟩ : ∃ A n c, u7 = .slice A n c := (Kd.R_slice hR).elim (fun A h => h.elim (fun c h => ⟨A, _, c, h⟩))
  have HR := Aside0.mk hR
  have HRD := Aside0.mk hr
  have HU := Aside0.mk hu
  have H1 := Aside0.mk h1
  have HMM := Aside0.mk hmm
  clear hR hr hu h1 hmm
  by_cases hn : n > 0
  ·by_cases he : e' = 0
   ·subst he
    have HM3 := Aside0.mk (show (xs.length : Int) + n ≤ most by have := HMM.out; omega)
    have hn9 : n ≤ 1000 := by have := HM3.out; omega
    have hsz := HU.out.size
    go_wp2_with fail
    refine (getLoop_calls HRD.out _).mono ?_
    rintro en w2 ⟨x, rfl, _, _, l2, e2, u2, hg⟩
    have hx : (Kd.int .i64).M w2 wr.heap.size (News w) x [.int .i64 x] := rfl
    have HG2 := Aside0.mk hg
    have HM2 := Aside0.mk hx
    clear hg hx
    go_wp2_with ((with_reducible refine gate_builtin (b := .append) (xs := #[.tmp 23, .tmp 28]) rfl ?_); at_builtin; refine Kd.R_append (Kd.int .i64) (w0 := w2) (W := w2) w.heap.size rfl (.tmp 23) (.tmp 28) 26 3 (.int .i64 0) 8 rfl Try.underlying26 info3 rfl (by decide) (by decide) (.slice A nn c) xs x [.int .i64 x] (News w) (fun k => wr.heap.size ≤ k) rfl rfl ?aP ?aK (fun _ _ => trivial) ?aO (Below.refl _ _) ?aS ?aL ?_; (case aP => exact (Kd.int .i64).M_lower hsz ((Kd.int .i64).M_mono (fun k hk => hk.2.1) ((Kd.int .i64).M_bound HM2.out))); (case aK => exact (fun k hk => ⟨trivial, fun e => absurd (Kd.R_lt HR.out k e.symm) (Nat.not_lt.2 hk)⟩)); (case aO => exact (R_ut HR.out HG2.out.ut (by decide))); (case aS => exact Nat.le_trans hsz HG2.out.ut.size); (case aL => have := HM3.out; omega); intro v3 w3 ho hb3 hg3 hat; have HO := Aside0.mk ho; have HB3 := Aside0.mk hb3; clear ho hb3 hg3 hat)
    go_wp2
    go_roundw
    case rel => exact LstG.next hgw hn HM3.out H1.out HU.out HO.out HG2.out HB3.out
    case measure => simp [intOf]; omega
   ·have heb : (e' == 0) = false := by simpa using he
    have HE := Aside0.mk he
    go_wp2
    go_ret
    exact ListG.mk HR.out (LstG.done (.inr HE.out) HRD.out HU.out H1.out)
  ·have hz := Int.le_antisymm (Int.not_lt.1 hn) hn0
   have HZ := Aside0.mk hz
   clear hz
   go_wp2
   go_ret
   exact ListG.mk HR.out (LstG.done (.inl HZ.out) HRD.out HU.out H1.out)
section
variable {b : Nat} {w : World} {g : Nat} {l : List Int} {e : Int} {u : Value}
set_option maxHeartbeats 4000000 in
theorem getValue_calls (h : Rdr b w g l e u) (v : Value) : Calls Try.prog 130 #[.pointer (some ⟨g, 0, none⟩), v] w (ValueG b w g e (pVal l)) := by
 have H := Aside0.mk h
 clear h
 go_enter Try.func130, Try.ntmps130
 go_wp2_with fail
 refine (rvalue_calls (H.out.below (below_alloc (Below.refl _ _) _))).mono ?_
 rintro en w1 ⟨x, v3, rfl, hR, l', e', u', hg⟩
 obtain ⟨A6, n, c6, rfl⟩ : ∃ A n c, v3 = .slice A n c := (Kd.R_slice hR).elim (fun A h => h.elim (fun c h => ⟨A, _, c, h⟩))
 have HR5 := Aside0.mk hR
 have HG5 := Aside0.mk (hg.from_ (below_alloc (Below.refl _ _) _))
 have HX5 := Aside0.mk (hg.ut.blk (heap_alloc_new w _) (by decide))
 have hsz : (w.alloc (.cells #[.int .i64 0, .int .i64 0, .string ⟨#[]⟩, .slice none 0 0] 25)).heap.size = w.heap.size + 1 := size_alloc _ _
 clear hg hR
 have n0 := blk_cell HX5.out 0
 have f0 := blk_frozen HX5.out 0
 have n1 := blk_cell HX5.out 1
 have f1 := blk_frozen HX5.out 1
 have n2 := blk_cell HX5.out 2
 have f2 := blk_frozen HX5.out 2
 have n3 := blk_cell HX5.out 3
 have f3 := blk_frozen HX5.out 3
 simp only [List.getElem?_toArray, List.getElem?_cons_succ, List.getElem?_cons_zero] at n0 n1 n2 n3
 have hb4 := blk_lt HX5.out
 obtain ⟨hW1, hW2, hW3⟩ := filln HX5.out [.int .i64 x.f0, .int .i64 x.f1, .string x.f2, .slice A6 n c6] rfl
 have HF := Aside0.mk (show ∀ kk, kk ≠ w.heap.size → ((((w1.setCell ⟨w.heap.size, 0, none⟩ (.int .i64 x.f0)).setCell ⟨w.heap.size, 1, none⟩ (.int .i64 x.f1)).setCell ⟨w.heap.size, 2, none⟩ (.string x.f2)).setCell ⟨w.heap.size, 3, none⟩ (.slice A6 n c6)).heap[kk]? = w1.heap[kk]? from hW2)
 have HT := Aside0.mk (show UT [25] w.heap.size w1 ((((w1.setCell ⟨w.heap.size, 0, none⟩ (.int .i64 x.f0)).setCell ⟨w.heap.size, 1, none⟩ (.int .i64 x.f1)).setCell ⟨w.heap.size, 2, none⟩ (.string x.f2)).setCell ⟨w.heap.size, 3, none⟩ (.slice A6 n c6)) from hW3)
 have HG := Aside0.mk (show ((((w1.setCell ⟨w.heap.size, 0, none⟩ (.int .i64 x.f0)).setCell ⟨w.heap.size, 1, none⟩ (.int .i64 x.f1)).setCell ⟨w.heap.size, 2, none⟩ (.string x.f2)).setCell ⟨w.heap.size, 3, none⟩ (.slice A6 n c6)).heap[w.heap.size]? = some (.cells #[.int .i64 x.f0, .int .i64 x.f1, .string x.f2, .slice A6 n c6] 25 (0, 0)) from hW1)
 clear hW1 hW2 hW3
 go_wp2
 (try simp only [Exit.inBlock, Exit.then])
 refine bodyPost_ret (results_cell_row rfl _ _ w.heap.size 25 _ (0, 0) _ rfl HG.out Try.underlying25 rfl size25) rfl ?_
 exact ValueG.mk x (GotS.fill HG5.out HT.out (by decide) H.out.le) (Kd.R_lower (Kd.R_mono (Kd.R_move (Kd.R_bound HR5.out) (fun k hk => HF.out k (by have := hk.2.1; omega))) (fun _ _ => trivial)) (by omega))
end
set_option maxHeartbeats 8000000 in
theorem getValues_calls {b : Nat} {w : World} {g : Nat} {l : List Int} {e : Int} {u : Value} (h : Rdr b w g l e u) (most : Int) (hm : most ≤ 1000) :
  Calls Try.prog 129 #[.pointer (some ⟨g, 0, none⟩), .int .i64 most, .func (.func 130) #[] #[]] w (ListG (k25) 25 b w g e (pList most (fun _ => pVal) l)) := by
 have H := Aside0.mk h
 have hgw := blk_lt h.box
 clear h 
 go_enter Try.func129, Try.ntmps129
 go_wp2_with fail
 refine (rnumber_got H.out most).mono ?_
 rintro en w1 ⟨n, rfl, hn0, hn1, l1, e1, u1, h1⟩
 have HS := Aside0.mk (LstG.start (d := k25) (ty := 25) (p := fun _ => pVal) h1 hn0 hn1)
 clear h1 hn0 hn1
 go_wp2
 go_loopw [7, 8] (fun u nv wr => LstG (k25) 25 b w g e most (fun _ => pVal) (pList most (fun _ => pVal) l) u nv wr) (fun _ nv _ => (intOf nv).toNat)
 case atStart => exact HS.out
 case round =>
  obtain ⟨xs, n, l', e', u', rfl, hn0, hmm, hR, hr, hu, h1⟩ := hrel
  have m1 := blk_cell hr.box 1
  simp only [List.getElem?_toArray, List.getElem?_cons_succ, List.getElem?_cons_zero] at m1
  have hgr := blk_lt hr.box
  obtain ⟨A, nn, c, rfl⟩ : ∃ A n c, u7 = .slice A n c := (Kd.R_slice hR).elim (fun A h => h.elim (fun c h => ⟨A, _, c, h⟩))
  have HR := Aside0.mk hR
  have HRD := Aside0.mk hr
  have HU := Aside0.mk hu
  have H1 := Aside0.mk h1
  have HMM := Aside0.mk hmm
  clear hR hr hu h1 hmm
  by_cases hn : n > 0
  ·by_cases he : e' = 0
   ·subst he
    have HM3 := Aside0.mk (show (xs.length : Int) + n ≤ most by have := HMM.out; omega)
    have hn9 : n ≤ 1000 := by have := HM3.out; omega
    have hsz := HU.out.size
    go_wp2_with fail
    refine (getValue_calls HRD.out _).mono ?_
    rintro en w2 ⟨x, v9, rfl, hR9, l2, e2, u2, hg⟩
    have hx := k25_mkM w2 wr.heap.size (News w) x hR9
    have HG2 := Aside0.mk hg
    have HM2 := Aside0.mk hx
    clear hg hx
    go_wp2_with ((with_reducible refine gate_builtin (b := .append) (xs := #[.tmp 23, .tmp 28]) rfl ?_); at_builtin; refine Kd.R_append (k25) (w0 := w2) (W := w2) w.heap.size rfl (.tmp 23) (.tmp 28) 23 25 (.agg #[.int .i64 0, .int .i64 0, .string ⟨#[]⟩, .slice none 0 0]) 56 rfl Try.underlying23 info25 rfl (by decide) (by decide) (.slice A nn c) xs x [.int .i64 x.f0, .int .i64 x.f1, .string x.f2, v9] (News w) (fun k => wr.heap.size ≤ k) rfl rfl ?aP ?aK (fun _ _ => trivial) ?aO (Below.refl _ _) ?aS ?aL ?_; (case aP => exact (k25).M_lower hsz ((k25).M_mono (fun k hk => hk.2.1) ((k25).M_bound HM2.out))); (case aK => exact (fun k hk => ⟨trivial, fun e => absurd (Kd.R_lt HR.out k e.symm) (Nat.not_lt.2 hk)⟩)); (case aO => exact (R_ut HR.out HG2.out.ut (by decide))); (case aS => exact Nat.le_trans hsz HG2.out.ut.size); (case aL => have := HM3.out; omega); intro v3 w3 ho hb3 hg3 hat; have HO := Aside0.mk ho; have HB3 := Aside0.mk hb3; clear ho hb3 hg3 hat)
    go_wp2
    go_roundw
    case rel => exact LstG.next hgw hn HM3.out H1.out HU.out HO.out HG2.out HB3.out
    case measure => simp [intOf]; omega
   ·have heb : (e' == 0) = false := by simpa using he
    have HE := Aside0.mk he
    go_wp2
    go_ret
    exact ListG.mk HR.out (LstG.done (.inr HE.out) HRD.out HU.out H1.out)
  ·have hz := Int.le_antisymm (Int.not_lt.1 hn) hn0
   have HZ := Aside0.mk hz
   clear hz
   go_wp2
   go_ret
   exact ListG.mk HR.out (LstG.done (.inl HZ.out) HRD.out HU.out H1.out)
/-- Is k not behind the one ahead of it? -/
def late : Option ByteArray → ByteArray → Bool
 | none, _ => false
 | some q, k => !less q k
def pAfter (q : Option ByteArray) (k : ByteArray) (l : List Int) : Rd ByteArray := if late q k = true then .bad 42 else .ok k l
/-- A key that rises. -/
def pKeyIn (xs : List ByteArray) (l : List Int) : Rd ByteArray := (pKey l).bind fun k l' => pAfter xs.getLast? k l'
section
variable {b : Nat} {w : World} {g : Nat} {l : List Int} {e : Int} {u : Value}
theorem GotS.pass {α : Type} {w1 : World} {l1 : List Int} {e1 : Int} {u1 : Value} {r : Rd α} {x : α} (h : Rdr b w1 g l1 e1 u1) (hr : e1 = 0 → r = .ok x l1) : GotS b w1 g e1 r x w1 l1 e1 u1 := ⟨h, UT.refl _ _ _, fun h0 _ => hr h0, fun h0 h1 => absurd h0 h1, fun _ => rfl⟩
theorem GotS.failed {α : Type} {w1 w2 : World} {r : Rd α} {c : Int} {x : α} (h : RdrP b w1 g [] (bump 0 c) w2) (hc : c ≠ 0) (hr : r = .bad c) : ∃ l2 e2 u2, GotS b w1 g 0 r x w2 l2 e2 u2 := by
 obtain ⟨⟨u2, h1⟩, h2⟩ := h
 exact ⟨[], c, u2, h1, h2, fun _ h => absurd h hc, fun _ _ => hr, fun h => absurd rfl h⟩
/-- A key of a list. -/
def KeyLG (b : Nat) (w : World) (g : Nat) (e : Int) (r : Rd ByteArray) (en : Ending) (w' : World) : Prop := ∃ k, en = .returned (.string k) ∧ ∃ l' e' u', GotS b w g e r k w' l' e' u'
theorem last_get {α : Type} {xs : List α} (h : 0 < xs.length) : xs.getLast? = some (xs[xs.length - 1]'(by omega)) := by
 rw [List.getLast?_eq_getElem?, List.getElem?_eq_getElem (by omega)]
set_option maxHeartbeats 8000000 in
theorem getKey_calls (h : Rdr b w g l e u) (xs : List ByteArray) {B : Nat} {ok : Nat → Prop} {lv : Value} (hx : Kd.string.R 9 w B ok lv xs) (hm : xs.length ≤ 1000) : Calls Try.prog 96 #[.pointer (some ⟨g, 0, none⟩), lv] w (KeyLG b w g e (pKeyIn xs l)) := by
 have H := Aside0.mk h
 have hgw := blk_lt h.box
 have HR := Aside0.mk hx
 obtain ⟨A, c, rfl, hc, _⟩ := Kd.R_reads hx
 clear h hx
 go_enter Try.func96, Try.ntmps96
 go_wp2_with fail
 refine (rkey_got H.out).mono ?_
 rintro en w1 ⟨k, rfl, l1, e1, u1, hg⟩
 have m1 := blk_cell hg.rdr.box 1
 simp only [List.getElem?_toArray, List.getElem?_cons_succ, List.getElem?_cons_zero] at m1
 have hg1 := blk_lt hg.rdr.box
 have HG := Aside0.mk hg
 clear hg
 by_cases hx : 0 < xs.length
 ·have hxi : (xs.length : Int) > 0 := by omega
  by_cases he : e1 = 0
  ·subst he
   obtain ⟨A', c', ee, hc', hC⟩ := Kd.R_reads (R_ut HR.out HG.out.ut (by decide))
   injection ee with e1 e2 e3
   subst e1 e3
   obtain ⟨ad, rfl, d0⟩ := (In.mk hC (Nat.le_refl _)).atString (i := xs.length - 1) (by omega)
   have hw1 := w64p (i := xs.length) hx (by omega)
   have hlast := last_get hx
   generalize xs[xs.length - 1] = q at *
   have HL := Aside0.mk hlast
   have HB := Aside0.mk (show late xs.getLast? k = !less q k by rw [hlast]; rfl)
   have hidx : ((xs.length : Int) - 1) = ((xs.length - 1 : Nat) : Int) := by omega
   clear hlast hC
   by_cases hb : Op.bytesLess q.toList k.toList = true
   ·go_wp2
    go_ret
    exact ⟨k, rfl, _, _, _, HG.out.bind (GotS.pass HG.out.rdr (fun _ => by rw [pAfter, HB.out, less, hb]; rfl))⟩
   ·have hbf : Op.bytesLess q.toList k.toList = false := by simpa using hb
    go_wp2_with fail
    refine (rfail_calls HG.out.rdr 42).mono ?_
    rintro en w2 ⟨rfl, hf⟩
    have HF := Aside0.mk hf
    clear hf
    go_wp2
    go_ret
    obtain ⟨l2, e2, u2, hf⟩ := GotS.failed (r := pAfter xs.getLast? k l1) (x := k) HF.out (by decide) (by rw [pAfter, HB.out, less, hbf]; rfl)
    exact ⟨k, rfl, _, _, _, HG.out.bind hf⟩
  ·have heb : (e1 == 0) = false := by simpa using he
   have HE := Aside0.mk he
   go_wp2
   go_ret
   exact ⟨k, rfl, _, _, _, HG.out.bind (GotS.pass HG.out.rdr (fun h => absurd h HE.out))⟩
 ·have hx0 : ¬ (xs.length : Int) > 0 := by omega
  have HX := Aside0.mk (show xs = [] from List.eq_nil_of_length_eq_zero (by omega))
  go_wp2
  go_ret
  exact ⟨k, rfl, _, _, _, HG.out.bind (GotS.pass HG.out.rdr (fun _ => by rw [HX.out]; rfl))⟩
end
set_option maxHeartbeats 8000000 in
theorem getKeys_calls {b : Nat} {w : World} {g : Nat} {l : List Int} {e : Int} {u : Value} (h : Rdr b w g l e u) (most : Int) (hm : most ≤ 1000) :
  Calls Try.prog 95 #[.pointer (some ⟨g, 0, none⟩), .int .i64 most, .func (.func 96) #[] #[]] w (ListG (Kd.string) 9 b w g e (pList most (pKeyIn) l)) := by
 have H := Aside0.mk h
 have hgw := blk_lt h.box
 clear h 
 go_enter Try.func95, Try.ntmps95
 go_wp2_with fail
 refine (rnumber_got H.out most).mono ?_
 rintro en w1 ⟨n, rfl, hn0, hn1, l1, e1, u1, h1⟩
 have HS := Aside0.mk (LstG.start (d := Kd.string) (ty := 9) (p := pKeyIn) h1 hn0 hn1)
 clear h1 hn0 hn1
 go_wp2
 go_loopw [7, 8] (fun u nv wr => LstG (Kd.string) 9 b w g e most (pKeyIn) (pList most (pKeyIn) l) u nv wr) (fun _ nv _ => (intOf nv).toNat)
 case atStart => exact HS.out
 case round =>
  obtain ⟨xs, n, l', e', u', rfl, hn0, hmm, hR, hr, hu, h1⟩ := hrel
  have m1 := blk_cell hr.box 1
  simp only [List.getElem?_toArray, List.getElem?_cons_succ, List.getElem?_cons_zero] at m1
  have hgr := blk_lt hr.box
  obtain ⟨A, nn, c, rfl⟩ : ∃ A n c, u7 = .slice A n c := (Kd.R_slice hR).elim (fun A h => h.elim (fun c h => ⟨A, _, c, h⟩))
  have HR := Aside0.mk hR
  have HRD := Aside0.mk hr
  have HU := Aside0.mk hu
  have H1 := Aside0.mk h1
  have HMM := Aside0.mk hmm
  clear hR hr hu h1 hmm
  by_cases hn : n > 0
  ·by_cases he : e' = 0
   ·subst he
    have HM3 := Aside0.mk (show (xs.length : Int) + n ≤ most by have := HMM.out; omega)
    have hn9 : n ≤ 1000 := by have := HM3.out; omega
    have hsz := HU.out.size
    have hxl : xs.length ≤ 1000 := by have := HM3.out; omega
    go_wp2_with fail
    refine (getKey_calls HRD.out xs HR.out hxl).mono ?_
    rintro en w2 ⟨x, rfl, l2, e2, u2, hg⟩
    have hx : Kd.string.M w2 wr.heap.size (News w) x [.string x] := rfl
    have HG2 := Aside0.mk hg
    have HM2 := Aside0.mk hx
    clear hg hx
    go_wp2_with ((with_reducible refine gate_builtin (b := .append) (xs := #[.tmp 23, .tmp 28]) rfl ?_); at_builtin; refine Kd.R_append (Kd.string) (w0 := w2) (W := w2) w.heap.size rfl (.tmp 23) (.tmp 28) 33 9 (.string ⟨#[]⟩) 16 rfl Try.underlying33 gi9 rfl (by decide) (by decide) (.slice A nn c) xs x [.string x] (News w) (fun k => wr.heap.size ≤ k) rfl rfl ?aP ?aK (fun _ _ => trivial) ?aO (Below.refl _ _) ?aS ?aL ?_; (case aP => exact (Kd.string).M_lower hsz ((Kd.string).M_mono (fun k hk => hk.2.1) ((Kd.string).M_bound HM2.out))); (case aK => exact (fun k hk => ⟨trivial, fun e => absurd (Kd.R_lt HR.out k e.symm) (Nat.not_lt.2 hk)⟩)); (case aO => exact (R_ut HR.out HG2.out.ut (by decide))); (case aS => exact Nat.le_trans hsz HG2.out.ut.size); (case aL => have := HM3.out; omega); intro v3 w3 ho hb3 hg3 hat; have HO := Aside0.mk ho; have HB3 := Aside0.mk hb3; clear ho hb3 hg3 hat)
    go_wp2
    go_roundw
    case rel => exact LstG.next hgw hn HM3.out H1.out HU.out HO.out HG2.out HB3.out
    case measure => simp [intOf]; omega
   ·have heb : (e' == 0) = false := by simpa using he
    have HE := Aside0.mk he
    go_wp2
    go_ret
    exact ListG.mk HR.out (LstG.done (.inr HE.out) HRD.out HU.out H1.out)
  ·have hz := Int.le_antisymm (Int.not_lt.1 hn) hn0
   have HZ := Aside0.mk hz
   clear hz
   go_wp2
   go_ret
   exact ListG.mk HR.out (LstG.done (.inl HZ.out) HRD.out HU.out H1.out)
/-- A manifest's row. -/
def pRow1 (l : List Int) : Rd S108 := (pNum 65536 l).bind fun n l1 => (pWord l1).map fun k => ⟨n, k⟩
def Row1G (b : Nat) (w : World) (g : Nat) (e : Int) (r : Rd S108) (en : Ending) (w' : World) : Prop := ∃ x : S108, en = .returned (.agg #[.int .i64 x.f0, .int .u32 x.f1]) ∧ ∃ l' e' u', GotS b w g e r x w' l' e' u'
theorem Row1G.mk {b : Nat} {w : World} {g : Nat} {e : Int} {r : Rd S108} {w' : World} {l' : List Int} {e' : Int} {u' : Value} (x : S108) (h : GotS b w g e r x w' l' e' u') : Row1G b w g e r (.returned (.agg #[.int .i64 x.f0, .int .u32 x.f1])) w' := ⟨x, rfl, _, _, _, h⟩
theorem size108 : (Try.prog.info? 108).map (·.size) = some 2 := by kernel_rfl
section
variable {b : Nat} {w : World} {g : Nat} {l : List Int} {e : Int} {u : Value}
set_option maxHeartbeats 8000000 in
theorem getRow1_calls (h : Rdr b w g l e u) (v : Value) : Calls Try.prog 101 #[.pointer (some ⟨g, 0, none⟩), v] w (Row1G b w g e (pRow1 l)) := by
 have H := Aside0.mk h
 clear h
 go_enter Try.func101, Try.ntmps101
 go_wp2_with fail
 refine (rnumber_got (H.out.below (below_alloc (Below.refl _ _) _)) 65536).mono ?_
 rintro en w1 ⟨n, rfl, _, _, l1, e1, u1, hg⟩
 have HX1 := Aside0.mk (hg.ut.blk (heap_alloc_new w _) (by decide))
 have HG1 := Aside0.mk (hg.from_ (below_alloc (Below.refl _ _) _))
 clear hg
 go_wp2_with fail
 refine (rword_got (HG1.out.rdr.below (below_alloc (Below.refl _ _) _))).mono ?_
 rintro en w2 ⟨k, rfl, l2, e2, u2, hg⟩
 have HX2 := Aside0.mk (hg.ut.blk (blk_alloc HX1.out _) (by decide))
 have HY2 := Aside0.mk (hg.ut.blk (heap_alloc_new w1 _) (by decide))
 have HG2 := Aside0.mk (hg.from_ (below_alloc (Below.refl _ _) _))
 have hlt := blk_lt HX1.out
 clear hg
 have HY3 := Aside0.mk (blk_set (i := 1) (v := .int .u32 k) HY2.out)
 have hne : w.heap.size ≠ w1.heap.size := by omega
 have HX3 := Aside0.mk ((Below.heap_setCell w2 ⟨w1.heap.size, 1, none⟩ (.int .u32 k) w.heap.size hne).trans HX2.out)
 have HU3 := Aside0.mk ((UT.refl [108] w.heap.size w2).set HY2.out (by simp) (by omega) 1 (.int .u32 k))
 have j1 := blk_cell HY2.out 1
 have g1 := blk_frozen HY2.out 1
 simp only [List.getElem?_toArray, List.getElem?_cons_succ, List.getElem?_cons_zero] at j1
 have n0 := blk_cell HX3.out 0
 have f0 := blk_frozen HX3.out 0
 have n1 := blk_cell HX3.out 1
 have f1 := blk_frozen HX3.out 1
 have k0 := blk_cell HY3.out 0
 have k1 := blk_cell HY3.out 1
 simp only [List.getElem?_toArray, List.getElem?_cons_succ, List.getElem?_cons_zero] at n0 n1 k0 k1
 have hb4 := blk_lt HX3.out
 obtain ⟨hW1, hW2, hW3⟩ := filln HX3.out [.int .i64 n, .int .u32 k] rfl
 have HF := Aside0.mk (show ∀ kk, kk ≠ w.heap.size → (((w2.setCell ⟨w1.heap.size, 1, none⟩ (.int .u32 k)).setCell ⟨w.heap.size, 0, none⟩ (.int .i64 n)).setCell ⟨w.heap.size, 1, none⟩ (.int .u32 k)).heap[kk]? = (w2.setCell ⟨w1.heap.size, 1, none⟩ (.int .u32 k)).heap[kk]? from hW2)
 have HT := Aside0.mk (show UT [108] w.heap.size (w2.setCell ⟨w1.heap.size, 1, none⟩ (.int .u32 k)) (((w2.setCell ⟨w1.heap.size, 1, none⟩ (.int .u32 k)).setCell ⟨w.heap.size, 0, none⟩ (.int .i64 n)).setCell ⟨w.heap.size, 1, none⟩ (.int .u32 k)) from hW3)
 have HG := Aside0.mk (show (((w2.setCell ⟨w1.heap.size, 1, none⟩ (.int .u32 k)).setCell ⟨w.heap.size, 0, none⟩ (.int .i64 n)).setCell ⟨w.heap.size, 1, none⟩ (.int .u32 k)).heap[w.heap.size]? = some (.cells #[.int .i64 n, .int .u32 k] 108 (0, 0)) from hW1)
 clear hW1 hW2 hW3
 go_wp2
 (try simp only [Exit.inBlock, Exit.then])
 refine bodyPost_ret (results_cell_row rfl _ _ w.heap.size 108 _ (0, 0) _ rfl HG.out Try.underlying108 rfl size108) rfl ?_
 exact Row1G.mk ⟨n, k⟩ (GotS.fill (T := [108]) ((HG1.out.bind (HG2.out.map (f := fun k => (⟨n, k⟩ : S108))))) (HU3.out.trans HT.out) (by decide) H.out.le)
end
end Go.Proofs.Ythmkioodkldgbaa.DK
