/- value.Decode; conditions: those in each theorem. -/
import Derived.Test.YthmkioodkldgbaaGreatQcM18
namespace Go.Proofs.YthmkioodkldgbaaGreat.DK
open Go.Proofs.YthmkioodkldgbaaGreat.PD
open Go.RowKit Go.Proofs.YthmkioodkldgbaaGreatW.PrintWords Go.Proofs.YthmkioodkldgbaaGreatW.PrintLast Go.Proofs.YthmkioodkldgbaaGreatW.PrintMore
set_option linter.unusedVariables false
set_option linter.unusedSimpArgs false
set_option maxRecDepth 100000
section
variable {w : World} {bv bn be : Nat} {c0 c1 c2 c3 n e : Value} {x : Int}
theorem d1_panicking (h : Three w bv bn be #[c0, c1, c2, c3] n e) (h1 : bv < bn) (h2 : bn < be) : CallsD Tryz.prog 148 #[.pointer (some ⟨bv, 0, none⟩), .pointer (some ⟨bn, 0, none⟩), .pointer (some ⟨be, 0, none⟩)] (.panicking (thrown x)) w fun en u' w' =>
  u' = .panicking [{ v := .iface 234 (.agg #[.int .i64 x, .int .i64 0]), recovered := true }] ∧ CaughtP w bv bn be x en w' := by
 refine callsD_of_wpS Tryz.func148 rfl fun c₀ cs hu => ?_
 apply wpS_region
 simp [wpOpsS, go_sem, recoverD, hu, thrown, Tryz.ntmps148, Exit.thenS]
 refine (caught_calls h h1 h2).mono ?_
 rintro en w1 ⟨rfl, h3, hu3⟩
 exact ⟨rfl, _, rfl, _, by simp [results, Tryz.results143], rfl, rfl, h3, hu3⟩
theorem d1_idle (v1 v2 v3 : Value) : CallsD Tryz.prog 148 #[v1, v2, v3] .returning w fun en u' w' => en = .returned (.tuple #[]) ∧ u' = .returning ∧ w' = w := by
 refine callsD_of_wpS Tryz.func148 rfl fun c₀ cs hu => ?_
 apply wpS_region
 simp [wpOpsS, go_sem, recoverD, hu, thrown, Tryz.ntmps148, Exit.thenS]
 refine (caught_idle v1 v2 v3).mono ?_
 rintro en w1 ⟨rfl, rfl⟩
 refine ⟨rfl, .returning, ?_, _, by simp [results, Tryz.results143], rfl, rfl, rfl⟩
 rw [← hu]
theorem map_bad {α β : Type} {f : α → β} {r : Rd α} {x : Int} (h : r.map f = .bad x) : r = .bad x := by
 cases r with
 | ok v l => cases h
 | bad e => exact (by injection h with h; rw [h])
theorem pInt_bad : ∀ (l : List Int) (i : Nat) {x : Int}, pInt i l = .bad x → x ≠ 0
 | [], i, x, h => by rw [pInt] at h; injection h with h; omega
 | c :: l, i, x, h => by
  rw [pInt] at h
  split at h
  ·injection h with h; omega
  ·split at h
   ·cases h
   ·exact pInt_bad l (i + 1) (map_bad h)
theorem pText_bad {l : List Int} {x : Int} (h : pText l = .bad x) : x ≠ 0 := by
 cases l with
 | nil => injection h with h; omega
 | cons n l =>
  rw [pText] at h
  split at h
  ·injection h with h; omega
  ·split at h
   ·injection h with h; omega
   ·cases h
theorem pItems_bad {f : Int → List Int → Rd (S25 × Int)} (hf : ∀ p l x, f p l = .bad x → x ≠ 0) : ∀ (n : Nat) (acc : List S25) (p : Int) (l : List Int) {x : Int}, pItems f n acc p l = .bad x → x ≠ 0
 | 0, acc, p, l, x, h => by rw [pItems] at h; cases h
 | n + 1, acc, p, l, x, h => by
  rw [pItems] at h
  cases hq : f p l with
  | bad e => rw [hq] at h; injection h with h; subst h; exact hf p l _ hq
  | ok v l' => rw [hq] at h; exact pItems_bad hf n _ _ _ h
theorem pLst_bad {f : Int → List Int → Rd (S25 × Int)} (hf : ∀ p l x, f p l = .bad x → x ≠ 0) (p : Int) (l : List Int) {x : Int} (h : pLst f p l = .bad x) : x ≠ 0 := by
 cases l with
 | nil => injection h with h; omega
 | cons n l =>
  rw [pLst] at h
  split at h
  ·injection h with h; omega
  ·exact pItems_bad hf _ _ _ _ (map_bad h)
theorem pOne_bad {lst : Int → List Int → Rd (S25 × Int)} (hf : ∀ p l x, lst p l = .bad x → x ≠ 0) (p : Int) (l : List Int) {x : Int} (h : pOne lst p l = .bad x) : x ≠ 0 := by
 cases l with
 | nil => injection h with h; omega
 | cons n l =>
  rw [pOne] at h
  split at h
  ·injection h with h; omega
  split at h
  ·injection h with h; omega
  split at h
  ·exact pInt_bad _ _ (map_bad h)
  split at h
  ·exact pText_bad (map_bad h)
  split at h
  ·exact hf _ _ _ h
  ·cases h
theorem pDeep_bad : ∀ (k : Nat) (p : Int) (l : List Int) {x : Int}, pDeep k p l = .bad x → x ≠ 0
 | 0, p, l, x, h => pOne_bad (fun _ _ _ h => by injection h with h; omega) p l h
 | k + 1, p, l, x, h => pOne_bad (fun p l x h => pLst_bad (fun p l x h => pDeep_bad k p l h) p l h) p l h
/-- What Decode hands out. -/
def DecodeG (w : World) (l : List Int) (en : Ending) (w' : World) : Prop :=
 ∃ (v : S25) (v3 : Value) (i : Nat) (e : Int), en = .returned (.tuple #[.agg #[.int .i64 v.f0, .int .i64 v.f1, .string v.f2, v3], .int .i64 i, .int .i64 e]) ∧ Below w.heap.size w w' ∧ k25.R 24 w' w.heap.size (News w) v3 v.f3 ∧
  ((e = 0 ∧ i ≤ l.length ∧ pVal l = .ok v (l.drop i)) ∨ (e ≠ 0 ∧ pVal l = .bad e))
theorem size_alloc (w : World) (o : Obj) : (w.alloc o).heap.size = w.heap.size + 1 := by
 show (w.heap.push o).size = _
 exact Array.size_push _
theorem new_at (w : World) (o : Obj) (k : Nat) (hk : k = w.heap.size) : (w.alloc o).heap[k]? = some o := by subst hk; exact heap_alloc_new w o
/-- Four new blocks. -/
theorem four_new (w : World) (o1 o2 o3 o4 : Obj) : ((((w.alloc o1).alloc o2).alloc o3).alloc o4).heap[w.heap.size]? = some o1 ∧ ((((w.alloc o1).alloc o2).alloc o3).alloc o4).heap[w.heap.size + 1]? = some o2 ∧ ((((w.alloc o1).alloc o2).alloc o3).alloc o4).heap[w.heap.size + 1 + 1]? = some o3 ∧ ((((w.alloc o1).alloc o2).alloc o3).alloc o4).heap[w.heap.size + 1 + 1 + 1]? = some o4 ∧ Below w.heap.size w ((((w.alloc o1).alloc o2).alloc o3).alloc o4) :=
 ⟨blk_alloc (blk_alloc (blk_alloc (heap_alloc_new w o1) _) _) _, blk_alloc (blk_alloc (new_at _ _ _ (by rw [size_alloc])) _) _, blk_alloc (new_at _ _ _ (by rw [size_alloc, size_alloc])) _, new_at _ _ _ (by rw [size_alloc, size_alloc, size_alloc]), below_alloc (below_alloc (below_alloc (below_alloc (Below.refl _ _) _) _) _) _⟩
theorem results_134 {w : World} {bv bn be : Nat} {n e : Value} (h : Three w bv bn be #[c0, c1, c2, c3] n e) (tmps : Array Value) (h1 : tmps[2]?.getD undef = .pointer (some ⟨bv, 0, none⟩)) (h2 : tmps[3]?.getD undef = .pointer (some ⟨bn, 0, none⟩)) (h3 : tmps[4]?.getD undef = .pointer (some ⟨be, 0, none⟩)) :
  (results Tryz.f137 tmps).run Tryz.prog w = .ok (.tuple #[.agg #[c0, c1, c2, c3], n, e]) w := by
 have m0 := blk_cell h.v 0
 have m1 := blk_cell h.v 1
 have m2 := blk_cell h.v 2
 have m3 := blk_cell h.v 3
 have m4 := blk_cell h.n 0
 have m5 := blk_cell h.e 0
 simp only [List.getElem?_toArray, List.getElem?_cons_succ, List.getElem?_cons_zero] at m0 m1 m2 m3 m4 m5
 simp [results, Tryz.results134, h1, h2, h3, go_sem, m0, m1, m2, m3, m4, m5]
set_option maxHeartbeats 8000000 in
theorem Decode_calls {b : Nat} {A : Option Addr} {c : Nat} {l : List Int} (h : In (Kd.int .u8) b w A l) (hc : l.length ≤ c) (hr : ∀ x ∈ l, 0 ≤ x ∧ x ≤ 255) : Calls Tryz.prog 137 #[.slice A l.length c] w (DecodeG w l) := by
 have H := Aside0.mk (In.mk h.C (Nat.le_refl _))
 have HC := Aside0.mk hc
 have HR := Aside0.mk hr
 clear h hc hr
 have hmf : ∀ (fn : Fn) (first cap : Array Value) (w : World), (Instr.makeFunc fn first cap).run Tryz.prog w = .ok (.func fn first cap) w := fun _ _ _ _ => rfl
 go_enter_defers Tryz.func137, Tryz.ntmps137
 go_wp2_with fail
 obtain ⟨x1, x2, x3, x4, xb⟩ := four_new w (.cells #[.int .i64 0, .int .i64 0, .string ⟨#[]⟩, .slice none 0 0] 24) (.cells #[.int .i64 0] 3) (.cells #[.int .i64 0] 63) (.cells #[.slice A l.length c, .int .i64 0, .int .i64 0] 219)
 generalize (((w.alloc (.cells #[.int .i64 0, .int .i64 0, .string ⟨#[]⟩, .slice none 0 0] 24)).alloc (.cells #[.int .i64 0] 3)).alloc (.cells #[.int .i64 0] 63)).alloc (.cells #[.slice A l.length c, .int .i64 0, .int .i64 0] 219) = W0 at *
 have HT := Aside0.mk (show Three W0 w.heap.size (w.heap.size + 1) (w.heap.size + 1 + 1) #[.int .i64 0, .int .i64 0, .string ⟨#[]⟩, .slice none 0 0] (.int .i64 0) (.int .i64 0) from ⟨x1, x2, x3⟩)
 have HD := Aside0.mk (show Dec w.heap.size W0 (w.heap.size + 1 + 1 + 1) A c l 0 0 from ⟨x4, by omega, H.out.ext xb, Nat.zero_le _, HC.out, by decide, HR.out⟩)
 have HB := Aside0.mk xb
 clear x1 x2 x3 x4 xb
 have hv := dvalue_calls 3 0 rfl W0 0 0 HD.out
 simp only [Int.natCast_zero, List.drop_zero] at hv
 refine hv.mono ?_
 rintro en w5 (⟨v, q, i, v3, rfl, hR, hd, hu, hr⟩ | ⟨x, hr, rfl, hu⟩)
 ·have HR5 := Aside0.mk hR
  have HD5 := Aside0.mk hd
  have HU5 := Aside0.mk hu
  have HE5 := Aside0.mk hr
  have HT5 := Aside0.mk (show Three w5 w.heap.size (w.heap.size + 1) (w.heap.size + 1 + 1) #[.int .i64 0, .int .i64 0, .string ⟨#[]⟩, .slice none 0 0] (.int .i64 0) (.int .i64 0) from ⟨hu.blk HT.out.v (by decide), hu.blk HT.out.n (by decide), hu.blk HT.out.e (by decide)⟩)
  clear hR hd hu hr hv
  obtain ⟨A6, n, c6, rfl⟩ : ∃ A n c, v3 = .slice A n c := (Kd.R_slice HR5.out).elim (fun A h => h.elim (fun c h => ⟨A, _, c, h⟩))
  have n0 := blk_cell HT5.out.v 0
  have n1 := blk_cell HT5.out.v 1
  have n2 := blk_cell HT5.out.v 2
  have n3 := blk_cell HT5.out.v 3
  have f0 := blk_frozen HT5.out.v 0
  have f1 := blk_frozen HT5.out.v 1
  have f2 := blk_frozen HT5.out.v 2
  have f3 := blk_frozen HT5.out.v 3
  have n4 := blk_cell HT5.out.n 0
  have f4 := blk_frozen HT5.out.n 0
  have n5 := blk_cell HT5.out.e 0
  have f5 := blk_frozen HT5.out.e 0
  have n6 := blk_cell HD5.out.box 1
  simp only [List.getElem?_toArray, List.getElem?_cons_succ, List.getElem?_cons_zero] at n0 n1 n2 n3 n4 n5 n6
  obtain ⟨a1, a2, a3⟩ := fill4 HT5.out.v (.int .i64 v.f0) (.int .i64 v.f1) (.string v.f2) (.slice A6 n c6)
  obtain ⟨b1, b2, b3⟩ := fill4 a1 (.int .i64 v.f0) (.int .i64 v.f1) (.string v.f2) (.slice A6 n c6)
  have gn := (b2 (w.heap.size + 1) (by omega)).trans ((a2 _ (by omega)).trans HT5.out.n)
  have ge := (b2 (w.heap.size + 1 + 1) (by omega)).trans ((a2 _ (by omega)).trans HT5.out.e)
  have gn1 := blk_set (i := 0) (v := .int .i64 i) gn
  have ge1 := (Below.heap_setCell _ ⟨w.heap.size + 1, 0, none⟩ (.int .i64 i) (w.heap.size + 1 + 1) (show w.heap.size + 1 + 1 ≠ w.heap.size + 1 by omega)).trans ge
  have gv1 := (Below.heap_setCell _ ⟨w.heap.size + 1, 0, none⟩ (.int .i64 i) (w.heap.size) (show w.heap.size ≠ w.heap.size + 1 by omega)).trans b1
  have HT9 := Aside0.mk (Three.mk ((Below.heap_setCell _ ⟨w.heap.size + 1 + 1, 0, none⟩ (.int .i64 0) (w.heap.size) (show w.heap.size ≠ w.heap.size + 1 + 1 by omega)).trans gv1) ((Below.heap_setCell _ ⟨w.heap.size + 1 + 1, 0, none⟩ (.int .i64 0) (w.heap.size + 1) (show w.heap.size + 1 ≠ w.heap.size + 1 + 1 by omega)).trans gn1) (blk_set (i := 0) (v := .int .i64 0) ge1))
  have HU9 := Aside0.mk ((((a3.trans b3).mono (T' := [24, 3, 63]) (by simp)).set gn (by simp) (by omega) 0 (.int .i64 i)).set ge1 (by simp) (by omega) 0 (.int .i64 0))
  have HK9 := Aside0.mk (fun (k : Nat) (hk : w.heap.size + 1 + 1 < k) => (Below.heap_setCell _ ⟨w.heap.size + 1 + 1, 0, none⟩ (.int .i64 0) k (show k ≠ w.heap.size + 1 + 1 by omega)).trans ((Below.heap_setCell _ ⟨w.heap.size + 1, 0, none⟩ (.int .i64 i) k (show k ≠ w.heap.size + 1 by omega)).trans ((b2 k (by omega)).trans (a2 k (by omega)))))
  clear a1 a2 a3 b1 b2 b3 gn ge gn1 ge1 gv1
  go_wp2
  generalize (((((((((w5.setCell ⟨w.heap.size, 0, none⟩ (.int .i64 v.f0)).setCell ⟨w.heap.size, 1, none⟩ (.int .i64 v.f1)).setCell ⟨w.heap.size, 2, none⟩ (.string v.f2)).setCell ⟨w.heap.size, 3, none⟩ (.slice A6 n c6)).setCell ⟨w.heap.size, 0, none⟩ (.int .i64 v.f0)).setCell ⟨w.heap.size, 1, none⟩ (.int .i64 v.f1)).setCell ⟨w.heap.size, 2, none⟩ (.string v.f2)).setCell ⟨w.heap.size, 3, none⟩ (.slice A6 n c6)).setCell ⟨w.heap.size + 1, 0, none⟩ (.int .i64 i)).setCell ⟨w.heap.size + 1 + 1, 0, none⟩ (.int .i64 0) = W9 at *
  refine leaves_cons (f := 148) (args := #[.pointer (some ⟨w.heap.size, 0, none⟩), .pointer (some ⟨w.heap.size + 1, 0, none⟩), .pointer (some ⟨w.heap.size + 1 + 1, 0, none⟩)]) (by simp) (by simp [go_sem]) ?_
  refine (d1_idle _ _ _).mono ?_
  rintro e u' w'' ⟨rfl, rfl, rfl⟩
  refine ⟨_, results_134 HT9.out _ rfl rfl rfl, ?_⟩
  refine ⟨v, _, i, 0, rfl, ?_, ?_, .inl ⟨rfl, HD5.out.le, by rw [pVal, HE5.out]; rfl⟩⟩
  ·exact (HB.out.trans (HU5.out.below HB.out.size)).trans (HU9.out.below (Nat.le_trans HB.out.size HU5.out.size))
  ·have hlt := blk_lt HT.out.e
   exact Kd.R_lower (Kd.R_mono (Kd.R_move (Kd.R_bound HR5.out) (fun k hk => HK9.out k (by have := hk.2.1; omega))) (fun _ _ => trivial)) HB.out.size
 ·have HU5 := Aside0.mk hu
  have HE5 := Aside0.mk hr
  have HT5 := Aside0.mk (show Three w5 w.heap.size (w.heap.size + 1) (w.heap.size + 1 + 1) #[.int .i64 0, .int .i64 0, .string ⟨#[]⟩, .slice none 0 0] (.int .i64 0) (.int .i64 0) from ⟨hu.blk HT.out.v (by decide), hu.blk HT.out.n (by decide), hu.blk HT.out.e (by decide)⟩)
  clear hu hr hv
  refine leaves_cons (f := 148) (args := #[.pointer (some ⟨w.heap.size, 0, none⟩), .pointer (some ⟨w.heap.size + 1, 0, none⟩), .pointer (some ⟨w.heap.size + 1 + 1, 0, none⟩)]) (by simp) (by simp [go_sem]) ?_
  refine (d1_panicking HT5.out (by omega) (by omega)).mono ?_
  rintro e u' w9 ⟨rfl, rfl, h3, hu3⟩
  refine ⟨_, results_134 h3 _ rfl rfl rfl, ?_⟩
  have hx : x ≠ 0 := pDeep_bad _ _ _ HE5.out
  refine ⟨⟨0, 0, ⟨#[]⟩, []⟩, _, 0, x, rfl, ?_, Kd.R_nil _ _ _ _ _, .inr ⟨hx, by rw [pVal, HE5.out]; rfl⟩⟩
  exact (HB.out.trans (HU5.out.below HB.out.size)).trans (hu3.below (Nat.le_trans HB.out.size HU5.out.size))
end
end Go.Proofs.YthmkioodkldgbaaGreat.DK
/- wire.reader.value; conditions: those in each theorem. -/
namespace Go.Proofs.YthmkioodkldgbaaGreat.DK
open Go.Proofs.YthmkioodkldgbaaGreat.PD
open Go.RowKit Go.Proofs.YthmkioodkldgbaaGreatW.PrintWords Go.Proofs.YthmkioodkldgbaaGreatW.PrintLast Go.Proofs.YthmkioodkldgbaaGreatW.PrintMore
set_option linter.unusedVariables false
set_option linter.unusedSimpArgs false
set_option maxRecDepth 100000
/-- A value, read. -/
def ValueG (b : Nat) (w : World) (g : Nat) (e : Int) (r : Rd S25) (en : Ending) (w' : World) : Prop :=
 ∃ (v : S25) (v3 : Value), en = .returned (.agg #[.int .i64 v.f0, .int .i64 v.f1, .string v.f2, v3]) ∧ k25.R 24 w' w.heap.size (News w) v3 v.f3 ∧ ∃ l' e' u', GotS b w g e r v w' l' e' u'
theorem ValueG.mk {b : Nat} {w : World} {g : Nat} {e : Int} {r : Rd S25} {w' : World} (v : S25) {v3 : Value} {l' : List Int} {e' : Int} {u' : Value} (h : GotS b w g e r v w' l' e' u') (hR : k25.R 24 w' w.heap.size (News w) v3 v.f3) : ValueG b w g e r (.returned (.agg #[.int .i64 v.f0, .int .i64 v.f1, .string v.f2, v3])) w' := ⟨v, v3, rfl, hR, l', e', u', h⟩
/-- A block made in between is filled. -/
theorem GotS.fill {α : Type} {b : Nat} {w w1 w2 : World} {g : Nat} {e : Int} {r : Rd α} {x : α} {l1 : List Int} {e1 : Int} {u1 : Value} (h : GotS b w g e r x w1 l1 e1 u1) {T : List Nat} (hu : UT T w.heap.size w1 w2) (hT : 172 ∉ T) (hb : b ≤ w.heap.size) : GotS b w g e r x w2 l1 e1 u1 :=
 ⟨h.rdr.ut (hu.lower hb) hT, h.ut.fill hu, h.ok, h.bad, h.old⟩
section
variable {b : Nat} {w : World} {g : Nat} {l : List Int} {e : Int} {u : Value}
set_option maxHeartbeats 8000000 in
theorem rvalue_calls (h : Rdr b w g l e u) : Calls Tryz.prog 114 #[.pointer (some ⟨g, 0, none⟩)] w (ValueG b w g e (pVal l)) := by
 obtain ⟨A, c, rfl, hlc, hi⟩ := h.inp
 have m0 := blk_cell h.box 0
 have m1 := blk_cell h.box 1
 simp only [List.getElem?_toArray, List.getElem?_cons_succ, List.getElem?_cons_zero] at m0 m1
 have hblk := blk_lt h.box
 have hlen : l.length ≤ 9223372036854775807 := hi.C.2.1
 have H := Aside0.mk h
 have HI := Aside0.mk hi
 clear h hi
 by_cases he : e = 0
 ·subst he
  go_enter Tryz.func114, Tryz.ntmps114
  go_wp2_with fail
  refine (Decode_calls (HI.out.below (below_alloc (Below.refl _ _) _)) hlc H.out.rng).mono ?_
  rintro en w5 ⟨v, v3, i, x, rfl, hb, hR, hd⟩
  obtain ⟨A6, n, c6, rfl⟩ : ∃ A n c, v3 = .slice A n c := (Kd.R_slice hR).elim (fun A h => h.elim (fun c h => ⟨A, _, c, h⟩))
  have HR5 := Aside0.mk hR
  have HB5 := Aside0.mk (show Below w.heap.size w w5 from (below_alloc (Below.refl _ _) _).trans (hb.mono (by rw [size_alloc]; omega)))
  have HX5 := Aside0.mk ((hb.block w.heap.size (by rw [size_alloc]; omega)).trans (heap_alloc_new w _))
  have hsz : (w.alloc (.cells #[.int .i64 0, .int .i64 0, .string ⟨#[]⟩, .slice none 0 0] 24)).heap.size = w.heap.size + 1 := size_alloc _ _
  have hsz5 : w.heap.size + 1 ≤ w5.heap.size := by rw [← hsz]; exact hb.size
  have HRW5 := Aside0.mk (H.out.below HB5.out)
  clear hb hR
  rcases hd with ⟨rfl, hin, hd⟩ | ⟨hx, hd⟩
  ·have HD := Aside0.mk hd
   clear hd
   go_wp2_with fail
   refine (rtake_calls (HRW5.out.below (below_alloc (Below.refl _ _) _)) i).mono ?_
   intro en w6 h6
   unfold Took at h6
   rw [if_pos hin] at h6
   obtain ⟨A9, rfl, _, ⟨⟨u6, hr6⟩, hu6⟩⟩ := h6
   have HR6 := Aside0.mk hr6
   have HU6 := Aside0.mk (((UT.of_below [172] b HB5.out).alloc _).trans hu6)
   have HV6 := Aside0.mk (R_ut (Kd.R_below HR5.out (below_alloc (Below.refl _ _) (.cells #[.int .i64 v.f0, .int .i64 v.f1, .string v.f2, .slice A6 n c6] 24))) hu6 (by decide))
   have HX6 := Aside0.mk (hu6.blk (blk_alloc HX5.out _) (by decide))
   have HY6 := Aside0.mk (hu6.blk (heap_alloc_new w5 _) (by decide))
   clear hr6 hu6
   have n0 := blk_cell HX6.out 0
   have f0 := blk_frozen HX6.out 0
   have n1 := blk_cell HX6.out 1
   have f1 := blk_frozen HX6.out 1
   have n2 := blk_cell HX6.out 2
   have f2 := blk_frozen HX6.out 2
   have n3 := blk_cell HX6.out 3
   have f3 := blk_frozen HX6.out 3
   have k0 := blk_cell HY6.out 0
   have k1 := blk_cell HY6.out 1
   have k2 := blk_cell HY6.out 2
   have k3 := blk_cell HY6.out 3
   simp only [List.getElem?_toArray, List.getElem?_cons_succ, List.getElem?_cons_zero] at n0 n1 n2 n3 k0 k1 k2 k3
   have hb4 := blk_lt HX6.out
   obtain ⟨hW1, hW2, hW3⟩ := fill4 HX6.out (.int .i64 v.f0) (.int .i64 v.f1) (.string v.f2) (.slice A6 n c6)
   have HF := Aside0.mk hW2
   have HT := Aside0.mk hW3
   have HG := Aside0.mk hW1
   clear hW1 hW2 hW3
   go_wp2
   (try simp only [Exit.inBlock, Exit.then])
   refine bodyPost_ret (results_cell_row rfl _ _ w.heap.size 24 _ (0, 0) _ rfl HG.out Tryz.underlying24 rfl size25) rfl ?_
   refine ValueG.mk v (GotS.fill (w1 := w6) ⟨HR6.out, HU6.out, fun _ _ => HD.out, fun _ h => absurd rfl h, fun h => absurd rfl h⟩ HT.out (by decide) H.out.le) ?_
   exact Kd.R_lower (Kd.R_mono (Kd.R_move (Kd.R_bound HV6.out) (fun k hk => HF.out k (by have := hk.2.1; omega))) (fun _ _ => trivial)) (by omega)
  ·have HD := Aside0.mk hd
   have hxb : (x != 0) = true := by simpa using hx
   clear hd
   go_wp2_with fail
   refine (rfail_calls (HRW5.out.below (below_alloc (Below.refl _ _) _)) x).mono ?_
   rintro en w6 ⟨rfl, ⟨⟨u6, hr6⟩, hu6⟩⟩
   rw [bump_0] at hr6
   have HR6 := Aside0.mk hr6
   have HU6 := Aside0.mk (((UT.of_below [172] b HB5.out).alloc _).trans hu6)
   have HX6 := Aside0.mk (hu6.blk (blk_alloc HX5.out _) (by decide))
   have HXX := Aside0.mk hx
   clear hr6 hu6
   have n0 := blk_cell HX6.out 0
   have f0 := blk_frozen HX6.out 0
   have n1 := blk_cell HX6.out 1
   have f1 := blk_frozen HX6.out 1
   have n2 := blk_cell HX6.out 2
   have f2 := blk_frozen HX6.out 2
   have n3 := blk_cell HX6.out 3
   have f3 := blk_frozen HX6.out 3
   simp only [List.getElem?_toArray, List.getElem?_cons_succ, List.getElem?_cons_zero] at n0 n1 n2 n3
   have hb4 := blk_lt HX6.out
   obtain ⟨hW1, hW2, hW3⟩ := fill4 HX6.out (.int .i64 0) (.int .i64 0) (.string ⟨#[]⟩) (.slice none 0 0)
   have HF := Aside0.mk hW2
   have HT := Aside0.mk hW3
   have HG := Aside0.mk hW1
   clear hW1 hW2 hW3
   go_wp2
   (try simp only [Exit.inBlock, Exit.then])
   refine bodyPost_ret (results_cell_row rfl _ _ w.heap.size 24 _ (0, 0) _ rfl HG.out Tryz.underlying24 rfl size25) rfl ?_
   exact ValueG.mk ⟨0, 0, ⟨#[]⟩, []⟩ (GotS.fill (w1 := w6) ⟨HR6.out, HU6.out, fun _ h => absurd h HXX.out, fun _ _ => HD.out, fun h => absurd rfl h⟩ HT.out (by decide) H.out.le) (Kd.R_nil _ _ _ _ _)
 ·have heb : (e != 0) = true := by simpa using he
  have HE := Aside0.mk he
  go_enter Tryz.func114, Tryz.ntmps114
  go_wp2
  (try simp only [Exit.inBlock, Exit.then])
  refine bodyPost_ret (results_cell_row rfl _ _ w.heap.size 24 _ (0, 0) _ rfl (heap_alloc_new w _) Tryz.underlying24 rfl size25) rfl ?_
  exact ValueG.mk ⟨0, 0, ⟨#[]⟩, []⟩ ⟨H.out.below (below_alloc (Below.refl _ _) _), (UT.refl _ _ _).alloc _, fun h => absurd h HE.out, fun h => absurd h HE.out, fun _ => rfl⟩ (Kd.R_nil _ _ _ _ _)
end
end Go.Proofs.YthmkioodkldgbaaGreat.DK
