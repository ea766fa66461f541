/- wire.getRow, getManifest, getSegment; conditions: those in each theorem. -/
import Derived.Test.YthmkioodkldgbaaGreatQuM16
namespace Go.Proofs.YthmkioodkldgbaaGreat.DK
open Go.Proofs.YthmkioodkldgbaaGreat.PD
open Go.RowKit Go.Proofs.YthmkioodkldgbaaGreatW.PrintWords Go.Proofs.YthmkioodkldgbaaGreatW.PrintLast Go.Proofs.YthmkioodkldgbaaGreatW.PrintMore
set_option linter.unusedVariables false
set_option linter.unusedSimpArgs false
set_option maxRecDepth 100000
/-- The same state, from here on. -/
theorem GotS.again {α : Type} {b : Nat} {w w1 : World} {g : Nat} {e e1 : Int} {r : Rd α} {x : α} {l1 : List Int} {u1 : Value} (h : GotS b w g e r x w1 l1 e1 u1) : GotS b w g e1 (.ok () l1) () w1 l1 e1 u1 := ⟨h.rdr, h.ut, fun _ _ => rfl, fun h0 h1 => absurd h0 h1, fun _ => rfl⟩
theorem GotS.join {α β : Type} {b : Nat} {w w1 w2 : World} {g : Nat} {e e1 e2 : Int} {r : Rd α} {x : α} {f : α → List Int → Rd β} {y : β} {l1 l2 : List Int} {u1 u2 : Value} (h : GotS b w g e r x w1 l1 e1 u1) (k : GotS b w g e1 (f x l1) y w2 l2 e2 u2) : GotS b w g e (r.bind f) y w2 l2 e2 u2 := by
 refine ⟨k.rdr, k.ut, fun h0 h2 => ?_, fun h0 h2 => ?_, fun h0 => ?_⟩
 ·have h1 : e1 = 0 := by
   refine Decidable.byContradiction fun hc => hc ?_
   rw [← k.old hc]; exact h2
  rw [h.ok h0 h1, Rd.bind_ok, k.ok h1 h2]
 ·by_cases h1 : e1 = 0
  ·rw [h.ok h0 h1, Rd.bind_ok, k.bad h1 h2]
  ·rw [h.bad h0 h1, Rd.bind_bad, k.old h1]
 ·have h1 := h.old h0
  rw [k.old (by rw [h1]; exact h0), h1]
theorem size42 : (Tryz.prog.info? 41).map (·.size) = some 3 := by kernel_rfl
theorem size44 : (Tryz.prog.info? 43).map (·.size) = some 7 := by kernel_rfl
theorem size39 : (Tryz.prog.info? 38).map (·.size) = some 11 := by kernel_rfl
/-- An output row. -/
def pOut (l : List Int) : Rd (Int × S28) := (((pMark 79 l).and (pNum 1073741824)).and pRec).map fun x => (x.1.2, x.2)
def OutG (b : Nat) (w : World) (g : Nat) (e : Int) (r : Rd (Int × S28)) (en : Ending) (w' : World) : Prop :=
 ∃ (x : Int × S28) (v4 v5 : Value), en = .returned (.agg #[.int .i64 x.1, .string x.2.f0, .int .i64 x.2.f1.f0, .int .i64 x.2.f1.f1, .string x.2.f1.f2, v4, v5]) ∧ k25.R 24 w' w.heap.size (News w) v4 x.2.f1.f3 ∧ (Kd.int .i64).R 3 w' w.heap.size (News w) v5 x.2.f2 ∧ ∃ l' e' u', GotS b w g e r x w' l' e' u'
theorem OutG.mk {b : Nat} {w : World} {g : Nat} {e : Int} {r : Rd (Int × S28)} {w' : World} (x : Int × S28) {v4 v5 : Value} {l' : List Int} {e' : Int} {u' : Value} (h : GotS b w g e r x w' l' e' u') (h4 : k25.R 24 w' w.heap.size (News w) v4 x.2.f1.f3) (h5 : (Kd.int .i64).R 3 w' w.heap.size (News w) v5 x.2.f2) :
  OutG b w g e r (.returned (.agg #[.int .i64 x.1, .string x.2.f0, .int .i64 x.2.f1.f0, .int .i64 x.2.f1.f1, .string x.2.f1.f2, v4, v5])) w' := ⟨x, v4, v5, rfl, h4, h5, l', e', u', h⟩
/-- A manifest. -/
def pMan (l : List Int) : Rd (Int × Int × List S108) := ((((pMark 77 l).and (pNum 9999)).and pWord).and (pList 12 fun _ => pRow1)).map fun x => (x.1.1.2, x.1.2, x.2)
def ManG (b : Nat) (w : World) (g : Nat) (e : Int) (r : Rd (Int × Int × List S108)) (en : Ending) (w' : World) : Prop :=
 ∃ (x : Int × Int × List S108) (v2 : Value), en = .returned (.agg #[.int .i64 x.1, .int .u32 x.2.1, v2]) ∧ k108.R 111 w' w.heap.size (News w) v2 x.2.2 ∧ ∃ l' e' u', GotS b w g e r x w' l' e' u'
theorem ManG.mk {b : Nat} {w : World} {g : Nat} {e : Int} {r : Rd (Int × Int × List S108)} {w' : World} (x : Int × Int × List S108) {v2 : Value} {l' : List Int} {e' : Int} {u' : Value} (h : GotS b w g e r x w' l' e' u') (h2 : k108.R 111 w' w.heap.size (News w) v2 x.2.2) :
  ManG b w g e r (.returned (.agg #[.int .i64 x.1, .int .u32 x.2.1, v2])) w' := ⟨x, v2, rfl, h2, l', e', u', h⟩
/-- A segment. -/
abbrev Frt := ((Unit × Int) × Int) × Int
def pFront (l : List Int) : Rd Frt := (((pMark 83 l).and (pNum 9999)).and (pNum 11)).and (pNum 9999)
def pLogs (l : List Int) : Rd (List (List S28)) := pList 4 (fun _ => pRecs) l
def pSegA (f : Frt) (l : List Int) : Rd Seg := (((pState l).and pLogs).and pRecs).map fun x => ⟨f.1.1.2, f.1.2, f.2, 0, x.1.1.1, x.1.1.2, 0, [], [], x.1.2, x.2⟩
def pSegB (f : Frt) (l : List Int) : Rd Seg := ((((((pWord l).and (pNum 1073741824)).and (pList 64 pCellIn)).and (pList 64 pKeyIn)).and pLogs).and pRecs).map fun x => ⟨f.1.1.2, f.1.2, f.2, x.1.1.1.1.1, 0, [], x.1.1.1.1.2, x.1.1.1.2, x.1.1.2, x.1.2, x.2⟩
def pSeg (l : List Int) : Rd Seg := (pFront l).bind fun f l' => if f.2 = 0 then pSegA f l' else pSegB f l'
def SegG (b : Nat) (w : World) (g : Nat) (e : Int) (r : Rd Seg) (en : Ending) (w' : World) : Prop :=
 ∃ (s : Seg) (v5 v7 v8 v9 v10 : Value), en = .returned (.agg #[.int .i64 s.id, .int .i64 s.task, .int .i64 s.base, .int .u32 s.sum, .int .i64 s.snum, v5, .int .i64 s.dnum, v7, v8, v9, v10]) ∧ k121.R 129 w' w.heap.size (News w) v5 s.cells ∧ k121.R 129 w' w.heap.size (News w) v7 s.set ∧ Kd.string.R 9 w' w.heap.size (News w) v8 s.gone ∧
  (Kd.slice 27 k28).R 36 w' w.heap.size (News w) v9 s.logs ∧ k28.R 27 w' w.heap.size (News w) v10 s.pend ∧ ∃ l' e' u', GotS b w g e r s w' l' e' u'
theorem SegG.mk {b : Nat} {w : World} {g : Nat} {e : Int} {r : Rd Seg} {w' : World} (s : Seg) {v5 v7 v8 v9 v10 : Value} {l' : List Int} {e' : Int} {u' : Value} (h : GotS b w g e r s w' l' e' u') (h5 : k121.R 129 w' w.heap.size (News w) v5 s.cells) (h7 : k121.R 129 w' w.heap.size (News w) v7 s.set) (h8 : Kd.string.R 9 w' w.heap.size (News w) v8 s.gone)
  (h9 : (Kd.slice 27 k28).R 36 w' w.heap.size (News w) v9 s.logs) (h10 : k28.R 27 w' w.heap.size (News w) v10 s.pend) :
  SegG b w g e r (.returned (.agg #[.int .i64 s.id, .int .i64 s.task, .int .i64 s.base, .int .u32 s.sum, .int .i64 s.snum, v5, .int .i64 s.dnum, v7, v8, v9, v10])) w' := ⟨s, v5, v7, v8, v9, v10, rfl, h5, h7, h8, h9, h10, l', e', u', h⟩
section
variable {b : Nat} {w : World} {g : Nat} {l : List Int} {e : Int} {u : Value}
set_option maxHeartbeats 16000000 in
theorem getOut_calls (h : Rdr b w g l e u) : Calls Tryz.prog 67 #[.pointer (some ⟨g, 0, none⟩)] w (OutG b w g e (pOut l)) := by
 have H := Aside0.mk h
 clear h
 go_enter Tryz.func67, Tryz.ntmps67
 have HX := Aside0.mk (heap_alloc_new w (.cells #[.int .i64 0, .string ⟨#[]⟩, .int .i64 0, .int .i64 0, .string ⟨#[]⟩, .slice none 0 0, .slice none 0 0] 43))
 have HK := Aside0.mk (GotS.pass0 (H.out) (below_alloc (Below.refl _ _) (.cells #[.int .i64 0, .string ⟨#[]⟩, .int .i64 0, .int .i64 0, .string ⟨#[]⟩, .slice none 0 0, .slice none 0 0] 43)))
 have hX0 : w.heap.size < (w.alloc (.cells #[.int .i64 0, .string ⟨#[]⟩, .int .i64 0, .int .i64 0, .string ⟨#[]⟩, .slice none 0 0, .slice none 0 0] 43)).heap.size := blk_lt HX.out
 go_wp2_with fail
 refine (rmark_got HK.out.rdr 79).mono ?_
 rintro en w1 ⟨rfl, l1, e1, u1, hg⟩
 have hsz1 := hg.ut.size
 replace HX := Aside0.mk (hg.ut.blk HX.out (by decide))
 replace HK := Aside0.mk (HK.out.bind (f := fun _ l => _) hg)
 clear hg 
 go_wp2_with fail
 refine (rnumber_got HK.out.rdr 1073741824).mono ?_
 rintro en w2 ⟨n, rfl, _, _, l2, e2, u2, hg⟩
 have hsz2 := hg.ut.size
 replace HX := Aside0.mk (hg.ut.blk HX.out (by decide))
 replace HK := Aside0.mk (HK.out.and hg)
 clear hg 
 have hh : w.heap.size < w2.heap.size := blk_lt HX.out
 have HY := Aside0.mk (heap_alloc_new w2 (.cells #[.int .i64 n, .string ⟨#[]⟩, .int .i64 0, .int .i64 0, .string ⟨#[]⟩, .slice none 0 0, .slice none 0 0] 43))
 replace HX := Aside0.mk (blk_alloc HX.out (.cells #[.int .i64 n, .string ⟨#[]⟩, .int .i64 0, .int .i64 0, .string ⟨#[]⟩, .slice none 0 0, .slice none 0 0] 43))
 replace HK := Aside0.mk (HK.out.alloc (.cells #[.int .i64 n, .string ⟨#[]⟩, .int .i64 0, .int .i64 0, .string ⟨#[]⟩, .slice none 0 0, .slice none 0 0] 43))
 go_wp2_with fail
 refine (getRecord_calls HK.out.rdr).mono ?_
 rintro en w3 ⟨x, v4, v5, rfl, hR4, hR5, l3, e3, u3, hg⟩
 obtain ⟨sa4, sn4, sc4, rfl⟩ : ∃ A n c, v4 = .slice A n c := (Kd.R_slice hR4).elim (fun A h => h.elim (fun c h => ⟨A, _, c, h⟩))
 obtain ⟨sa5, sn5, sc5, rfl⟩ : ∃ A n c, v5 = .slice A n c := (Kd.R_slice hR5).elim (fun A h => h.elim (fun c h => ⟨A, _, c, h⟩))
 have hsz3 := hg.ut.size
 have HQ4 := Aside0.mk (Kd.R_lower (base' := w2.heap.size + 1) hR4 (by have := blk_lt HY.out; omega))
 have HQ5 := Aside0.mk (Kd.R_lower (base' := w2.heap.size + 1) hR5 (by have := blk_lt HY.out; omega))
 replace HX := Aside0.mk (hg.ut.blk HX.out (by decide))
 replace HY := Aside0.mk (hg.ut.blk HY.out (by decide))
 replace HK := Aside0.mk (HK.out.and hg)
 clear hg hR4 hR5
 have j0 := blk_cell HY.out 1
 have g0 := blk_frozen HY.out 1
 have j1 := blk_cell HY.out 2
 have g1 := blk_frozen HY.out 2
 have j2 := blk_cell HY.out 3
 have g2 := blk_frozen HY.out 3
 have j3 := blk_cell HY.out 4
 have g3 := blk_frozen HY.out 4
 have j4 := blk_cell HY.out 5
 have g4 := blk_frozen HY.out 5
 have j5 := blk_cell HY.out 6
 have g5 := blk_frozen HY.out 6
 simp only [List.getElem?_toArray, List.getElem?_cons_succ, List.getElem?_cons_zero] at j0 j1 j2 j3 j4 j5
 replace HK := Aside0.mk (GotS.fill (T := [43]) HK.out ((UT.refl [43] w.heap.size _).set HY.out (by simp) (by omega) 1 (.string x.f0)) (by decide) H.out.le)
 replace HQ4 := Aside0.mk (Kd.R_mono (ok' := News w) (Kd.R_far (Kd.R_bound HQ4.out) (p := ⟨w2.heap.size, 1, none⟩) (fun k hk => Nat.ne_of_gt (Nat.lt_of_succ_le hk.2.1)) (.string x.f0)) (fun _ _ => trivial))
 replace HQ5 := Aside0.mk (Kd.R_mono (ok' := News w) (Kd.R_far (Kd.R_bound HQ5.out) (p := ⟨w2.heap.size, 1, none⟩) (fun k hk => Nat.ne_of_gt (Nat.lt_of_succ_le hk.2.1)) (.string x.f0)) (fun _ _ => trivial))
 replace HX := Aside0.mk ((Below.heap_setCell _ ⟨w2.heap.size, 1, none⟩ (.string x.f0) w.heap.size (show w.heap.size ≠ w2.heap.size by omega)).trans HX.out)
 replace HY := Aside0.mk (blk_set (i := 1) (v := .string x.f0) HY.out)
 replace HK := Aside0.mk (GotS.fill (T := [43]) HK.out ((UT.refl [43] w.heap.size _).set HY.out (by simp) (by omega) 2 (.int .i64 x.f1.f0)) (by decide) H.out.le)
 replace HQ4 := Aside0.mk (Kd.R_mono (ok' := News w) (Kd.R_far (Kd.R_bound HQ4.out) (p := ⟨w2.heap.size, 2, none⟩) (fun k hk => Nat.ne_of_gt (Nat.lt_of_succ_le hk.2.1)) (.int .i64 x.f1.f0)) (fun _ _ => trivial))
 replace HQ5 := Aside0.mk (Kd.R_mono (ok' := News w) (Kd.R_far (Kd.R_bound HQ5.out) (p := ⟨w2.heap.size, 2, none⟩) (fun k hk => Nat.ne_of_gt (Nat.lt_of_succ_le hk.2.1)) (.int .i64 x.f1.f0)) (fun _ _ => trivial))
 replace HX := Aside0.mk ((Below.heap_setCell _ ⟨w2.heap.size, 2, none⟩ (.int .i64 x.f1.f0) w.heap.size (show w.heap.size ≠ w2.heap.size by omega)).trans HX.out)
 replace HY := Aside0.mk (blk_set (i := 2) (v := .int .i64 x.f1.f0) HY.out)
 replace HK := Aside0.mk (GotS.fill (T := [43]) HK.out ((UT.refl [43] w.heap.size _).set HY.out (by simp) (by omega) 3 (.int .i64 x.f1.f1)) (by decide) H.out.le)
 replace HQ4 := Aside0.mk (Kd.R_mono (ok' := News w) (Kd.R_far (Kd.R_bound HQ4.out) (p := ⟨w2.heap.size, 3, none⟩) (fun k hk => Nat.ne_of_gt (Nat.lt_of_succ_le hk.2.1)) (.int .i64 x.f1.f1)) (fun _ _ => trivial))
 replace HQ5 := Aside0.mk (Kd.R_mono (ok' := News w) (Kd.R_far (Kd.R_bound HQ5.out) (p := ⟨w2.heap.size, 3, none⟩) (fun k hk => Nat.ne_of_gt (Nat.lt_of_succ_le hk.2.1)) (.int .i64 x.f1.f1)) (fun _ _ => trivial))
 replace HX := Aside0.mk ((Below.heap_setCell _ ⟨w2.heap.size, 3, none⟩ (.int .i64 x.f1.f1) w.heap.size (show w.heap.size ≠ w2.heap.size by omega)).trans HX.out)
 replace HY := Aside0.mk (blk_set (i := 3) (v := .int .i64 x.f1.f1) HY.out)
 replace HK := Aside0.mk (GotS.fill (T := [43]) HK.out ((UT.refl [43] w.heap.size _).set HY.out (by simp) (by omega) 4 (.string x.f1.f2)) (by decide) H.out.le)
 replace HQ4 := Aside0.mk (Kd.R_mono (ok' := News w) (Kd.R_far (Kd.R_bound HQ4.out) (p := ⟨w2.heap.size, 4, none⟩) (fun k hk => Nat.ne_of_gt (Nat.lt_of_succ_le hk.2.1)) (.string x.f1.f2)) (fun _ _ => trivial))
 replace HQ5 := Aside0.mk (Kd.R_mono (ok' := News w) (Kd.R_far (Kd.R_bound HQ5.out) (p := ⟨w2.heap.size, 4, none⟩) (fun k hk => Nat.ne_of_gt (Nat.lt_of_succ_le hk.2.1)) (.string x.f1.f2)) (fun _ _ => trivial))
 replace HX := Aside0.mk ((Below.heap_setCell _ ⟨w2.heap.size, 4, none⟩ (.string x.f1.f2) w.heap.size (show w.heap.size ≠ w2.heap.size by omega)).trans HX.out)
 replace HY := Aside0.mk (blk_set (i := 4) (v := .string x.f1.f2) HY.out)
 replace HK := Aside0.mk (GotS.fill (T := [43]) HK.out ((UT.refl [43] w.heap.size _).set HY.out (by simp) (by omega) 5 (.slice sa4 sn4 sc4)) (by decide) H.out.le)
 replace HQ4 := Aside0.mk (Kd.R_mono (ok' := News w) (Kd.R_far (Kd.R_bound HQ4.out) (p := ⟨w2.heap.size, 5, none⟩) (fun k hk => Nat.ne_of_gt (Nat.lt_of_succ_le hk.2.1)) (.slice sa4 sn4 sc4)) (fun _ _ => trivial))
 replace HQ5 := Aside0.mk (Kd.R_mono (ok' := News w) (Kd.R_far (Kd.R_bound HQ5.out) (p := ⟨w2.heap.size, 5, none⟩) (fun k hk => Nat.ne_of_gt (Nat.lt_of_succ_le hk.2.1)) (.slice sa4 sn4 sc4)) (fun _ _ => trivial))
 replace HX := Aside0.mk ((Below.heap_setCell _ ⟨w2.heap.size, 5, none⟩ (.slice sa4 sn4 sc4) w.heap.size (show w.heap.size ≠ w2.heap.size by omega)).trans HX.out)
 replace HY := Aside0.mk (blk_set (i := 5) (v := .slice sa4 sn4 sc4) HY.out)
 replace HK := Aside0.mk (GotS.fill (T := [43]) HK.out ((UT.refl [43] w.heap.size _).set HY.out (by simp) (by omega) 6 (.slice sa5 sn5 sc5)) (by decide) H.out.le)
 replace HQ4 := Aside0.mk (Kd.R_mono (ok' := News w) (Kd.R_far (Kd.R_bound HQ4.out) (p := ⟨w2.heap.size, 6, none⟩) (fun k hk => Nat.ne_of_gt (Nat.lt_of_succ_le hk.2.1)) (.slice sa5 sn5 sc5)) (fun _ _ => trivial))
 replace HQ5 := Aside0.mk (Kd.R_mono (ok' := News w) (Kd.R_far (Kd.R_bound HQ5.out) (p := ⟨w2.heap.size, 6, none⟩) (fun k hk => Nat.ne_of_gt (Nat.lt_of_succ_le hk.2.1)) (.slice sa5 sn5 sc5)) (fun _ _ => trivial))
 replace HX := Aside0.mk ((Below.heap_setCell _ ⟨w2.heap.size, 6, none⟩ (.slice sa5 sn5 sc5) w.heap.size (show w.heap.size ≠ w2.heap.size by omega)).trans HX.out)
 replace HY := Aside0.mk (blk_set (i := 6) (v := .slice sa5 sn5 sc5) HY.out)
 replace HY := Aside0.mk (show ((((((w3.setCell ⟨w2.heap.size, 1, none⟩ (.string x.f0)).setCell ⟨w2.heap.size, 2, none⟩ (.int .i64 x.f1.f0)).setCell ⟨w2.heap.size, 3, none⟩ (.int .i64 x.f1.f1)).setCell ⟨w2.heap.size, 4, none⟩ (.string x.f1.f2)).setCell ⟨w2.heap.size, 5, none⟩ (.slice sa4 sn4 sc4)).setCell ⟨w2.heap.size, 6, none⟩ (.slice sa5 sn5 sc5)).heap[w2.heap.size]? = some (.cells #[.int .i64 n, .string x.f0, .int .i64 x.f1.f0, .int .i64 x.f1.f1, .string x.f1.f2, .slice sa4 sn4 sc4, .slice sa5 sn5 sc5] 43 (0, 0)) from HY.out)
 have n0 := blk_cell HX.out 0
 have f0 := blk_frozen HX.out 0
 have n1 := blk_cell HX.out 1
 have f1 := blk_frozen HX.out 1
 have n2 := blk_cell HX.out 2
 have f2 := blk_frozen HX.out 2
 have n3 := blk_cell HX.out 3
 have f3 := blk_frozen HX.out 3
 have n4 := blk_cell HX.out 4
 have f4 := blk_frozen HX.out 4
 have n5 := blk_cell HX.out 5
 have f5 := blk_frozen HX.out 5
 have n6 := blk_cell HX.out 6
 have f6 := blk_frozen HX.out 6
 have k0 := blk_cell HY.out 0
 have k1 := blk_cell HY.out 1
 have k2 := blk_cell HY.out 2
 have k3 := blk_cell HY.out 3
 have k4 := blk_cell HY.out 4
 have k5 := blk_cell HY.out 5
 have k6 := blk_cell HY.out 6
 simp only [List.getElem?_toArray, List.getElem?_cons_succ, List.getElem?_cons_zero] at n0 n1 n2 n3 n4 n5 n6 k0 k1 k2 k3 k4 k5 k6
 have hb4 := blk_lt HX.out
 obtain ⟨hW1, hW2, hW3⟩ := filln HX.out [.int .i64 n, .string x.f0, .int .i64 x.f1.f0, .int .i64 x.f1.f1, .string x.f1.f2, .slice sa4 sn4 sc4, .slice sa5 sn5 sc5] rfl
 have HF := Aside0.mk hW2
 have HT := Aside0.mk hW3
 have HG := Aside0.mk hW1
 clear hW1 hW2 hW3
 go_wp2
 (try simp only [Exit.inBlock, Exit.then])
 refine bodyPost_ret (results_cell_row rfl _ _ w.heap.size 43 _ (0, 0) _ rfl HG.out Tryz.underlying43 rfl size44) rfl ?_
 have hQ4 := Kd.R_lower (base' := w.heap.size) (Kd.R_mono (ok' := News w) (Kd.R_move (Kd.R_bound HQ4.out) (fun q hq => HF.out q (by have := hq.2.1; omega))) (fun _ _ => trivial)) (by omega)
 have hQ5 := Kd.R_lower (base' := w.heap.size) (Kd.R_mono (ok' := News w) (Kd.R_move (Kd.R_bound HQ5.out) (fun q hq => HF.out q (by have := hq.2.1; omega))) (fun _ _ => trivial)) (by omega)
 have hgot := GotS.fill HK.out HT.out (by decide) H.out.le
 exact OutG.mk (n, x) (by rw [pOut]; exact hgot.map (f := fun x : (Unit × Int) × S28 => (x.1.2, x.2))) hQ4 hQ5
set_option maxHeartbeats 16000000 in
theorem getManifest_calls (h : Rdr b w g l e u) : Calls Tryz.prog 65 #[.pointer (some ⟨g, 0, none⟩)] w (ManG b w g e (pMan l)) := by
 have H := Aside0.mk h
 clear h
 go_enter Tryz.func65, Tryz.ntmps65
 have HX := Aside0.mk (heap_alloc_new w (.cells #[.int .i64 0, .int .u32 0, .slice none 0 0] 41))
 have HK := Aside0.mk (GotS.pass0 (H.out) (below_alloc (Below.refl _ _) (.cells #[.int .i64 0, .int .u32 0, .slice none 0 0] 41)))
 have hX0 : w.heap.size < (w.alloc (.cells #[.int .i64 0, .int .u32 0, .slice none 0 0] 41)).heap.size := blk_lt HX.out
 go_wp2_with fail
 refine (rmark_got HK.out.rdr 77).mono ?_
 rintro en w1 ⟨rfl, l1, e1, u1, hg⟩
 have hsz1 := hg.ut.size
 replace HX := Aside0.mk (hg.ut.blk HX.out (by decide))
 replace HK := Aside0.mk (HK.out.bind (f := fun _ l => _) hg)
 clear hg 
 go_wp2_with fail
 refine (rnumber_got HK.out.rdr 9999).mono ?_
 rintro en w2 ⟨n, rfl, _, _, l2, e2, u2, hg⟩
 have hsz2 := hg.ut.size
 replace HX := Aside0.mk (hg.ut.blk HX.out (by decide))
 replace HK := Aside0.mk (HK.out.and hg)
 clear hg 
 have hh : w.heap.size < w2.heap.size := blk_lt HX.out
 have HY := Aside0.mk (heap_alloc_new w2 (.cells #[.int .i64 n, .int .u32 0, .slice none 0 0] 41))
 replace HX := Aside0.mk (blk_alloc HX.out (.cells #[.int .i64 n, .int .u32 0, .slice none 0 0] 41))
 replace HK := Aside0.mk (HK.out.alloc (.cells #[.int .i64 n, .int .u32 0, .slice none 0 0] 41))
 go_wp2_with fail
 refine (rword_got HK.out.rdr).mono ?_
 rintro en w3 ⟨m, rfl, l3, e3, u3, hg⟩
 have hsz3 := hg.ut.size
 replace HX := Aside0.mk (hg.ut.blk HX.out (by decide))
 replace HY := Aside0.mk (hg.ut.blk HY.out (by decide))
 replace HK := Aside0.mk (HK.out.and hg)
 clear hg 
 have j0 := blk_cell HY.out 1
 have g0 := blk_frozen HY.out 1
 simp only [List.getElem?_toArray, List.getElem?_cons_succ, List.getElem?_cons_zero] at j0
 replace HK := Aside0.mk (GotS.fill (T := [41]) HK.out ((UT.refl [41] w.heap.size _).set HY.out (by simp) (by omega) 1 (.int .u32 m)) (by decide) H.out.le)
 replace HX := Aside0.mk ((Below.heap_setCell _ ⟨w2.heap.size, 1, none⟩ (.int .u32 m) w.heap.size (show w.heap.size ≠ w2.heap.size by omega)).trans HX.out)
 replace HY := Aside0.mk (blk_set (i := 1) (v := .int .u32 m) HY.out)
 replace HY := Aside0.mk (show (w3.setCell ⟨w2.heap.size, 1, none⟩ (.int .u32 m)).heap[w2.heap.size]? = some (.cells #[.int .i64 n, .int .u32 m, .slice none 0 0] 41 (0, 0)) from HY.out)
 go_wp2_with fail
 refine (getRows_calls HK.out.rdr 12 (by decide)).mono ?_
 rintro en w4 ⟨v2, xs, rfl, hR, l4, e4, u4, hg⟩
 obtain ⟨sa2, sn2, sc2, rfl⟩ : ∃ A n c, v2 = .slice A n c := (Kd.R_slice hR).elim (fun A h => h.elim (fun c h => ⟨A, _, c, h⟩))
 have hsz4 := hg.ut.size
 have HQ2 := Aside0.mk (Kd.R_lower (base' := w2.heap.size + 1) hR (by have := blk_lt HY.out; omega))
 replace HX := Aside0.mk (hg.ut.blk HX.out (by decide))
 replace HY := Aside0.mk (hg.ut.blk HY.out (by decide))
 replace HK := Aside0.mk (HK.out.and hg)
 clear hg hR
 have j0 := blk_cell HY.out 2
 have g0 := blk_frozen HY.out 2
 simp only [List.getElem?_toArray, List.getElem?_cons_succ, List.getElem?_cons_zero] at j0
 replace HK := Aside0.mk (GotS.fill (T := [41]) HK.out ((UT.refl [41] w.heap.size _).set HY.out (by simp) (by omega) 2 (.slice sa2 sn2 sc2)) (by decide) H.out.le)
 replace HQ2 := Aside0.mk (Kd.R_mono (ok' := News w) (Kd.R_far (Kd.R_bound HQ2.out) (p := ⟨w2.heap.size, 2, none⟩) (fun k hk => Nat.ne_of_gt (Nat.lt_of_succ_le hk.2.1)) (.slice sa2 sn2 sc2)) (fun _ _ => trivial))
 replace HX := Aside0.mk ((Below.heap_setCell _ ⟨w2.heap.size, 2, none⟩ (.slice sa2 sn2 sc2) w.heap.size (show w.heap.size ≠ w2.heap.size by omega)).trans HX.out)
 replace HY := Aside0.mk (blk_set (i := 2) (v := .slice sa2 sn2 sc2) HY.out)
 replace HY := Aside0.mk (show (w4.setCell ⟨w2.heap.size, 2, none⟩ (.slice sa2 sn2 sc2)).heap[w2.heap.size]? = some (.cells #[.int .i64 n, .int .u32 m, .slice sa2 sn2 sc2] 41 (0, 0)) from HY.out)
 have n0 := blk_cell HX.out 0
 have f0 := blk_frozen HX.out 0
 have n1 := blk_cell HX.out 1
 have f1 := blk_frozen HX.out 1
 have n2 := blk_cell HX.out 2
 have f2 := blk_frozen HX.out 2
 have k0 := blk_cell HY.out 0
 have k1 := blk_cell HY.out 1
 have k2 := blk_cell HY.out 2
 simp only [List.getElem?_toArray, List.getElem?_cons_succ, List.getElem?_cons_zero] at n0 n1 n2 k0 k1 k2
 have hb4 := blk_lt HX.out
 obtain ⟨hW1, hW2, hW3⟩ := filln HX.out [.int .i64 n, .int .u32 m, .slice sa2 sn2 sc2] rfl
 have HF := Aside0.mk hW2
 have HT := Aside0.mk hW3
 have HG := Aside0.mk hW1
 clear hW1 hW2 hW3
 go_wp2
 (try simp only [Exit.inBlock, Exit.then])
 refine bodyPost_ret (results_cell_row rfl _ _ w.heap.size 41 _ (0, 0) _ rfl HG.out Tryz.underlying41 rfl size42) rfl ?_
 have hQ2 := Kd.R_lower (base' := w.heap.size) (Kd.R_mono (ok' := News w) (Kd.R_move (Kd.R_bound HQ2.out) (fun q hq => HF.out q (by have := hq.2.1; omega))) (fun _ _ => trivial)) (by omega)
 have hgot := GotS.fill HK.out HT.out (by decide) H.out.le
 exact ManG.mk (n, m, xs) (by rw [pMan]; exact hgot.map (f := fun x : ((Unit × Int) × Int) × List S108 => (x.1.1.2, x.1.2, x.2))) hQ2
end
end Go.Proofs.YthmkioodkldgbaaGreat.DK
