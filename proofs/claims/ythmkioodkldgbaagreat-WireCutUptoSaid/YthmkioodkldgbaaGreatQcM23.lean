/- wire.getRow, getManifest, getSegment; conditions: those in each theorem. -/
import Derived.Test.YthmkioodkldgbaaGreatQcM22
import Derived.Test.YthmkioodkldgbaaGreatQcM15
namespace Go.Proofs.YthmkioodkldgbaaGreat.DK
open Go.Proofs.YthmkioodkldgbaaGreat.PD
open Go.RowKit Go.Proofs.YthmkioodkldgbaaGreatW.PrintWords Go.Proofs.YthmkioodkldgbaaGreatW.PrintLast Go.Proofs.YthmkioodkldgbaaGreatW.PrintMore
set_option linter.unusedVariables false
set_option linter.unusedSimpArgs false
set_option maxRecDepth 100000
/-- The same state, from here on. -/
theorem GotS.again {α : Type} {b : Nat} {w w1 : World} {g : Nat} {e e1 : Int} {r : Rd α} {x : α} {l1 : List Int} {u1 : Value} (h : GotS b w g e r x w1 l1 e1 u1) : GotS b w g e1 (.ok () l1) () w1 l1 e1 u1 := ⟨h.rdr, h.ut, fun _ _ => rfl, fun h0 h1 => absurd h0 h1, fun _ => rfl⟩
theorem GotS.join {α β : Type} {b : Nat} {w w1 w2 : World} {g : Nat} {e e1 e2 : Int} {r : Rd α} {x : α} {f : α → List Int → Rd β} {y : β} {l1 l2 : List Int} {u1 u2 : Value} (h : GotS b w g e r x w1 l1 e1 u1) (k : GotS b w g e1 (f x l1) y w2 l2 e2 u2) : GotS b w g e (r.bind f) y w2 l2 e2 u2 := by
 refine ⟨k.rdr, k.ut, fun h0 h2 => ?_, fun h0 h2 => ?_, fun h0 => ?_⟩
 ·have h1 : e1 = 0 := by
   refine Decidable.byContradiction fun hc => hc ?_
   rw [← k.old hc]; exact h2
  rw [h.ok h0 h1, Rd.bind_ok, k.ok h1 h2]
 ·by_cases h1 : e1 = 0
  ·rw [h.ok h0 h1, Rd.bind_ok, k.bad h1 h2]
  ·rw [h.bad h0 h1, Rd.bind_bad, k.old h1]
 ·have h1 := h.old h0
  rw [k.old (by rw [h1]; exact h0), h1]
theorem size42 : (Tryz.prog.info? 41).map (·.size) = some 3 := by kernel_rfl
theorem size44 : (Tryz.prog.info? 43).map (·.size) = some 7 := by kernel_rfl
theorem size39 : (Tryz.prog.info? 38).map (·.size) = some 11 := by kernel_rfl
/-- An output row. -/
def pOut (l : List Int) : Rd (Int × S28) := (((pMark 79 l).and (pNum 1073741824)).and pRec).map fun x => (x.1.2, x.2)
def OutG (b : Nat) (w : World) (g : Nat) (e : Int) (r : Rd (Int × S28)) (en : Ending) (w' : World) : Prop :=
 ∃ (x : Int × S28) (v4 v5 : Value), en = .returned (.agg #[.int .i64 x.1, .string x.2.f0, .int .i64 x.2.f1.f0, .int .i64 x.2.f1.f1, .string x.2.f1.f2, v4, v5]) ∧ k25.R 24 w' w.heap.size (News w) v4 x.2.f1.f3 ∧ (Kd.int .i64).R 3 w' w.heap.size (News w) v5 x.2.f2 ∧ ∃ l' e' u', GotS b w g e r x w' l' e' u'
theorem OutG.mk {b : Nat} {w : World} {g : Nat} {e : Int} {r : Rd (Int × S28)} {w' : World} (x : Int × S28) {v4 v5 : Value} {l' : List Int} {e' : Int} {u' : Value} (h : GotS b w g e r x w' l' e' u') (h4 : k25.R 24 w' w.heap.size (News w) v4 x.2.f1.f3) (h5 : (Kd.int .i64).R 3 w' w.heap.size (News w) v5 x.2.f2) :
  OutG b w g e r (.returned (.agg #[.int .i64 x.1, .string x.2.f0, .int .i64 x.2.f1.f0, .int .i64 x.2.f1.f1, .string x.2.f1.f2, v4, v5])) w' := ⟨x, v4, v5, rfl, h4, h5, l', e', u', h⟩
/-- A manifest. -/
def pMan (l : List Int) : Rd (Int × Int × List S108) := ((((pMark 77 l).and (pNum 9999)).and pWord).and (pList 12 fun _ => pRow1)).map fun x => (x.1.1.2, x.1.2, x.2)
def ManG (b : Nat) (w : World) (g : Nat) (e : Int) (r : Rd (Int × Int × List S108)) (en : Ending) (w' : World) : Prop :=
 ∃ (x : Int × Int × List S108) (v2 : Value), en = .returned (.agg #[.int .i64 x.1, .int .u32 x.2.1, v2]) ∧ k108.R 111 w' w.heap.size (News w) v2 x.2.2 ∧ ∃ l' e' u', GotS b w g e r x w' l' e' u'
theorem ManG.mk {b : Nat} {w : World} {g : Nat} {e : Int} {r : Rd (Int × Int × List S108)} {w' : World} (x : Int × Int × List S108) {v2 : Value} {l' : List Int} {e' : Int} {u' : Value} (h : GotS b w g e r x w' l' e' u') (h2 : k108.R 111 w' w.heap.size (News w) v2 x.2.2) :
  ManG b w g e r (.returned (.agg #[.int .i64 x.1, .int .u32 x.2.1, v2])) w' := ⟨x, v2, rfl, h2, l', e', u', h⟩
/-- A segment. -/
abbrev Frt := ((Unit × Int) × Int) × Int
def pFront (l : List Int) : Rd Frt := (((pMark 83 l).and (pNum 9999)).and (pNum 11)).and (pNum 9999)
def pLogs (l : List Int) : Rd (List (List S28)) := pList 4 (fun _ => pRecs) l
def pSegA (f : Frt) (l : List Int) : Rd Seg := (((pState l).and pLogs).and pRecs).map fun x => ⟨f.1.1.2, f.1.2, f.2, 0, x.1.1.1, x.1.1.2, 0, [], [], x.1.2, x.2⟩
def pSegB (f : Frt) (l : List Int) : Rd Seg := ((((((pWord l).and (pNum 1073741824)).and (pList 64 pCellIn)).and (pList 64 pKeyIn)).and pLogs).and pRecs).map fun x => ⟨f.1.1.2, f.1.2, f.2, x.1.1.1.1.1, 0, [], x.1.1.1.1.2, x.1.1.1.2, x.1.1.2, x.1.2, x.2⟩
def pSeg (l : List Int) : Rd Seg := (pFront l).bind fun f l' => if f.2 = 0 then pSegA f l' else pSegB f l'
def SegG (b : Nat) (w : World) (g : Nat) (e : Int) (r : Rd Seg) (en : Ending) (w' : World) : Prop :=
 ∃ (s : Seg) (v5 v7 v8 v9 v10 : Value), en = .returned (.agg #[.int .i64 s.id, .int .i64 s.task, .int .i64 s.base, .int .u32 s.sum, .int .i64 s.snum, v5, .int .i64 s.dnum, v7, v8, v9, v10]) ∧ k121.R 129 w' w.heap.size (News w) v5 s.cells ∧ k121.R 129 w' w.heap.size (News w) v7 s.set ∧ Kd.string.R 9 w' w.heap.size (News w) v8 s.gone ∧
  (Kd.slice 27 k28).R 36 w' w.heap.size (News w) v9 s.logs ∧ k28.R 27 w' w.heap.size (News w) v10 s.pend ∧ ∃ l' e' u', GotS b w g e r s w' l' e' u'
theorem SegG.mk {b : Nat} {w : World} {g : Nat} {e : Int} {r : Rd Seg} {w' : World} (s : Seg) {v5 v7 v8 v9 v10 : Value} {l' : List Int} {e' : Int} {u' : Value} (h : GotS b w g e r s w' l' e' u') (h5 : k121.R 129 w' w.heap.size (News w) v5 s.cells) (h7 : k121.R 129 w' w.heap.size (News w) v7 s.set) (h8 : Kd.string.R 9 w' w.heap.size (News w) v8 s.gone)
  (h9 : (Kd.slice 27 k28).R 36 w' w.heap.size (News w) v9 s.logs) (h10 : k28.R 27 w' w.heap.size (News w) v10 s.pend) :
  SegG b w g e r (.returned (.agg #[.int .i64 s.id, .int .i64 s.task, .int .i64 s.base, .int .u32 s.sum, .int .i64 s.snum, v5, .int .i64 s.dnum, v7, v8, v9, v10])) w' := ⟨s, v5, v7, v8, v9, v10, rfl, h5, h7, h8, h9, h10, l', e', u', h⟩
section
variable {b : Nat} {w : World} {g : Nat} {l : List Int} {e : Int} {u : Value}
set_option maxHeartbeats 16000000 in
theorem getOut_calls (h : Rdr b w g l e u) : Calls Tryz.prog 67 #[.pointer (some ⟨g, 0, none⟩)] w (OutG b w g e (pOut l)) := by
 have H := Aside0.mk h
 clear h
 go_enter Tryz.func67, Tryz.ntmps67
 have HX := Aside0.mk (heap_alloc_new w (.cells #[.int .i64 0, .string ⟨#[]⟩, .int .i64 0, .int .i64 0, .string ⟨#[]⟩, .slice none 0 0, .slice none 0 0] 43))
 have HK := Aside0.mk (GotS.pass0 (H.out) (below_alloc (Below.refl _ _) (.cells #[.int .i64 0, .string ⟨#[]⟩, .int .i64 0, .int .i64 0, .string ⟨#[]⟩, .slice none 0 0, .slice none 0 0] 43)))
 have hX0 : w.heap.size < (w.alloc (.cells #[.int .i64 0, .string ⟨#[]⟩, .int .i64 0, .int .i64 0, .string ⟨#[]⟩, .slice none 0 0, .slice none 0 0] 43)).heap.size := blk_lt HX.out
 go_wp2_with fail
 refine (rmark_got HK.out.rdr 79).mono ?_
 rintro en w1 ⟨rfl, l1, e1, u1, hg⟩
 have hsz1 := hg.ut.size
 replace HX := Aside0.mk (hg.ut.blk HX.out (by decide))
 replace HK := Aside0.mk (HK.out.bind (f := fun _ l => _) hg)
 clear hg 
 go_wp2_with fail
 refine (rnumber_got HK.out.rdr 1073741824).mono ?_
 rintro en w2 ⟨n, rfl, _, _, l2, e2, u2, hg⟩
 have hsz2 := hg.ut.size
 replace HX := Aside0.mk (hg.ut.blk HX.out (by decide))
 replace HK := Aside0.mk (HK.out.and hg)
 clear hg 
 have hh : w.heap.size < w2.heap.size := blk_lt HX.out
 have HY := Aside0.mk (heap_alloc_new w2 (.cells #[.int .i64 n, .string ⟨#[]⟩, .int .i64 0, .int .i64 0, .string ⟨#[]⟩, .slice none 0 0, .slice none 0 0] 43))
 replace HX := Aside0.mk (blk_alloc HX.out (.cells #[.int .i64 n, .string ⟨#[]⟩, .int .i64 0, .int .i64 0, .string ⟨#[]⟩, .slice none 0 0, .slice none 0 0] 43))
 replace HK := Aside0.mk (HK.out.alloc (.cells #[.int .i64 n, .string ⟨#[]⟩, .int .i64 0, .int .i64 0, .string ⟨#[]⟩, .slice none 0 0, .slice none 0 0] 43))
 go_wp2_with fail
 refine (getRecord_calls HK.out.rdr).mono ?_
 rintro en w3 ⟨x, v4, v5, rfl, hR4, hR5, l3, e3, u3, hg⟩
 obtain ⟨sa4, sn4, sc4, rfl⟩ : ∃ A n c, v4 = .slice A n c := (Kd.R_slice hR4).elim (fun A h => h.elim (fun c h => ⟨A, _, c, h⟩))
 obtain ⟨sa5, sn5, sc5, rfl⟩ : ∃ A n c, v5 = .slice A n c := (Kd.R_slice hR5).elim (fun A h => h.elim (fun c h => ⟨A, _, c, h⟩))
 have hsz3 := hg.ut.size
 have HQ4 := Aside0.mk (Kd.R_lower (base' := w2.heap.size + 1) hR4 (by have := blk_lt HY.out; omega))
 have HQ5 := Aside0.mk (Kd.R_lower (base' := w2.heap.size + 1) hR5 (by have := blk_lt HY.out; omega))
 replace HX := Aside0.mk (hg.ut.blk HX.out (by decide))
 replace HY := Aside0.mk (hg.ut.blk HY.out (by decide))
 replace HK := Aside0.mk (HK.out.and hg)
 clear hg hR4 hR5
 have j0 := blk_cell HY.out 1
 have g0 := blk_frozen HY.out 1
 have j1 := blk_cell HY.out 2
 have g1 := blk_frozen HY.out 2
 have j2 := blk_cell HY.out 3
 have g2 := blk_frozen HY.out 3
 have j3 := blk_cell HY.out 4
 have g3 := blk_frozen HY.out 4
 have j4 := blk_cell HY.out 5
 have g4 := blk_frozen HY.out 5
 have j5 := blk_cell HY.out 6
 have g5 := blk_frozen HY.out 6
 simp only [List.getElem?_toArray, List.getElem?_cons_succ, List.getElem?_cons_zero] at j0 j1 j2 j3 j4 j5
 replace HK := Aside0.mk (GotS.fill (T := [43]) HK.out ((UT.refl [43] w.heap.size _).set HY.out (by simp) (by omega) 1 (.string x.f0)) (by decide) H.out.le)
 replace HQ4 := Aside0.mk (Kd.R_mono (ok' := News w) (Kd.R_far (Kd.R_bound HQ4.out) (p := ⟨w2.heap.size, 1, none⟩) (fun k hk => Nat.ne_of_gt (Nat.lt_of_succ_le hk.2.1)) (.string x.f0)) (fun _ _ => trivial))
 replace HQ5 := Aside0.mk (Kd.R_mono (ok' := News w) (Kd.R_far (Kd.R_bound HQ5.out) (p := ⟨w2.heap.size, 1, none⟩) (fun k hk => Nat.ne_of_gt (Nat.lt_of_succ_le hk.2.1)) (.string x.f0)) (fun _ _ => trivial))
 replace HX := Aside0.mk ((Below.heap_setCell _ ⟨w2.heap.size, 1, none⟩ (.string x.f0) w.heap.size (show w.heap.size ≠ w2.heap.size by omega)).trans HX.out)
 replace HY := Aside0.mk (blk_set (i := 1) (v := .string x.f0) HY.out)
 replace HK := Aside0.mk (GotS.fill (T := [43]) HK.out ((UT.refl [43] w.heap.size _).set HY.out (by simp) (by omega) 2 (.int .i64 x.f1.f0)) (by decide) H.out.le)
 replace HQ4 := Aside0.mk (Kd.R_mono (ok' := News w) (Kd.R_far (Kd.R_bound HQ4.out) (p := ⟨w2.heap.size, 2, none⟩) (fun k hk => Nat.ne_of_gt (Nat.lt_of_succ_le hk.2.1)) (.int .i64 x.f1.f0)) (fun _ _ => trivial))
 replace HQ5 := Aside0.mk (Kd.R_mono (ok' := News w) (Kd.R_far (Kd.R_bound HQ5.out) (p := ⟨w2.heap.size, 2, none⟩) (fun k hk => Nat.ne_of_gt (Nat.lt_of_succ_le hk.2.1)) (.int .i64 x.f1.f0)) (fun _ _ => trivial))
 replace HX := Aside0.mk ((Below.heap_setCell _ ⟨w2.heap.size, 2, none⟩ (.int .i64 x.f1.f0) w.heap.size (show w.heap.size ≠ w2.heap.size by omega)).trans HX.out)
 replace HY := Aside0.mk (blk_set (i := 2) (v := .int .i64 x.f1.f0) HY.out)
 replace HK := Aside0.mk (GotS.fill (T := [43]) HK.out ((UT.refl [43] w.heap.size _).set HY.out (by simp) (by omega) 3 (.int .i64 x.f1.f1)) (by decide) H.out.le)
 replace HQ4 := Aside0.mk (Kd.R_mono (ok' := News w) (Kd.R_far (Kd.R_bound HQ4.out) (p := ⟨w2.heap.size, 3, none⟩) (fun k hk => Nat.ne_of_gt (Nat.lt_of_succ_le hk.2.1)) (.int .i64 x.f1.f1)) (fun _ _ => trivial))
 replace HQ5 := Aside0.mk (Kd.R_mono (ok' := News w) (Kd.R_far (Kd.R_bound HQ5.out) (p := ⟨w2.heap.size, 3, none⟩) (fun k hk => Nat.ne_of_gt (Nat.lt_of_succ_le hk.2.1)) (.int .i64 x.f1.f1)) (fun _ _ => trivial))
 replace HX := Aside0.mk ((Below.heap_setCell _ ⟨w2.heap.size, 3, none⟩ (.int .i64 x.f1.f1) w.heap.size (show w.heap.size ≠ w2.heap.size by omega)).trans HX.out)
 replace HY := Aside0.mk (blk_set (i := 3) (v := .int .i64 x.f1.f1) HY.out)
 replace HK := Aside0.mk (GotS.fill (T := [43]) HK.out ((UT.refl [43] w.heap.size _).set HY.out (by simp) (by omega) 4 (.string x.f1.f2)) (by decide) H.out.le)
 replace HQ4 := Aside0.mk (Kd.R_mono (ok' := News w) (Kd.R_far (Kd.R_bound HQ4.out) (p := ⟨w2.heap.size, 4, none⟩) (fun k hk => Nat.ne_of_gt (Nat.lt_of_succ_le hk.2.1)) (.string x.f1.f2)) (fun _ _ => trivial))
 replace HQ5 := Aside0.mk (Kd.R_mono (ok' := News w) (Kd.R_far (Kd.R_bound HQ5.out) (p := ⟨w2.heap.size, 4, none⟩) (fun k hk => Nat.ne_of_gt (Nat.lt_of_succ_le hk.2.1)) (.string x.f1.f2)) (fun _ _ => trivial))
 replace HX := Aside0.mk ((Below.heap_setCell _ ⟨w2.heap.size, 4, none⟩ (.string x.f1.f2) w.heap.size (show w.heap.size ≠ w2.heap.size by omega)).trans HX.out)
 replace HY := Aside0.mk (blk_set (i := 4) (v := .string x.f1.f2) HY.out)
 replace HK := Aside0.mk (GotS.fill (T := [43]) HK.out ((UT.refl [43] w.heap.size _).set HY.out (by simp) (by omega) 5 (.slice sa4 sn4 sc4)) (by decide) H.out.le)
 replace HQ4 := Aside0.mk (Kd.R_mono (ok' := News w) (Kd.R_far (Kd.R_bound HQ4.out) (p := ⟨w2.heap.size, 5, none⟩) (fun k hk => Nat.ne_of_gt (Nat.lt_of_succ_le hk.2.1)) (.slice sa4 sn4 sc4)) (fun _ _ => trivial))
 replace HQ5 := Aside0.mk (Kd.R_mono (ok' := News w) (Kd.R_far (Kd.R_bound HQ5.out) (p := ⟨w2.heap.size, 5, none⟩) (fun k hk => Nat.ne_of_gt (Nat.lt_of_succ_le hk.2.1)) (.slice sa4 sn4 sc4)) (fun _ _ => trivial))
 replace HX := Aside0.mk ((Below.heap_setCell _ ⟨w2.heap.size, 5, none⟩ (.slice sa4 sn4 sc4) w.heap.size (show w.heap.size ≠ w2.heap.size by omega)).trans HX.out)
 replace HY := Aside0.mk (blk_set (i := 5) (v := .slice sa4 sn4 sc4) HY.out)
 replace HK := Aside0.mk (GotS.fill (T := [43]) HK.out ((UT.refl [43] w.heap.size _).set HY.out (by simp) (by omega) 6 (.slice sa5 sn5 sc5)) (by decide) H.out.le)
 replace HQ4 := Aside0.mk (Kd.R_mono (ok' := News w) (Kd.R_far (Kd.R_bound HQ4.out) (p := ⟨w2.heap.size, 6, none⟩) (fun k hk => Nat.ne_of_gt (Nat.lt_of_succ_le hk.2.1)) (.slice sa5 sn5 sc5)) (fun _ _ => trivial))
 replace HQ5 := Aside0.mk (Kd.R_mono (ok' := News w) (Kd.R_far (Kd.R_bound HQ5.out) (p := ⟨w2.heap.size, 6, none⟩) (fun k hk => Nat.ne_of_gt (Nat.lt_of_succ_le hk.2.1)) (.slice sa5 sn5 sc5)) (fun _ _ => trivial))
 replace HX := Aside0.mk ((Below.heap_setCell _ ⟨w2.heap.size, 6, none⟩ (.slice sa5 sn5 sc5) w.heap.size (show w.heap.size ≠ w2.heap.size by omega)).trans HX.out)
 replace HY := Aside0.mk (blk_set (i := 6) (v := .slice sa5 sn5 sc5) HY.out)
 replace HY := Aside0.mk (show ((((((w3.setCell ⟨w2.heap.size, 1, none⟩ (.string x.f0)).setCell ⟨w2.heap.size, 2, none⟩ (.int .i64 x.f1.f0)).setCell ⟨w2.heap.size, 3, none⟩ (.int .i64 x.f1.f1)).setCell ⟨w2.heap.size, 4, none⟩ (.string x.f1.f2)).setCell ⟨w2.heap.size, 5, none⟩ (.slice sa4 sn4 sc4)).setCell ⟨w2.heap.size, 6, none⟩ (.slice sa5 sn5 sc5)).heap[w2.heap.size]? = some (.cells #[.int .i64 n, .string x.f0, .int .i64 x.f1.f0, .int .i64 x.f1.f1, .string x.f1.f2, .slice sa4 sn4 sc4, .slice sa5 sn5 sc5] 43 (0, 0)) from HY.out)
 have n0 := blk_cell HX.out 0
 have f0 := blk_frozen HX.out 0
 have n1 := blk_cell HX.out 1
 have f1 := blk_frozen HX.out 1
 have n2 := blk_cell HX.out 2
 have f2 := blk_frozen HX.out 2
 have n3 := blk_cell HX.out 3
 have f3 := blk_frozen HX.out 3
 have n4 := blk_cell HX.out 4
 have f4 := blk_frozen HX.out 4
 have n5 := blk_cell HX.out 5
 have f5 := blk_frozen HX.out 5
 have n6 := blk_cell HX.out 6
 have f6 := blk_frozen HX.out 6
 have k0 := blk_cell HY.out 0
 have k1 := blk_cell HY.out 1
 have k2 := blk_cell HY.out 2
 have k3 := blk_cell HY.out 3
 have k4 := blk_cell HY.out 4
 have k5 := blk_cell HY.out 5
 have k6 := blk_cell HY.out 6
 simp only [List.getElem?_toArray, List.getElem?_cons_succ, List.getElem?_cons_zero] at n0 n1 n2 n3 n4 n5 n6 k0 k1 k2 k3 k4 k5 k6
 have hb4 := blk_lt HX.out
 obtain ⟨hW1, hW2, hW3⟩ := filln HX.out [.int .i64 n, .string x.f0, .int .i64 x.f1.f0, .int .i64 x.f1.f1, .string x.f1.f2, .slice sa4 sn4 sc4, .slice sa5 sn5 sc5] rfl
 have HF := Aside0.mk hW2
 have HT := Aside0.mk hW3
 have HG := Aside0.mk hW1
 clear hW1 hW2 hW3
 go_wp2
 (try simp only [Exit.inBlock, Exit.then])
 refine bodyPost_ret (results_cell_row rfl _ _ w.heap.size 43 _ (0, 0) _ rfl HG.out Tryz.underlying43 rfl size44) rfl ?_
 have hQ4 := Kd.R_lower (base' := w.heap.size) (Kd.R_mono (ok' := News w) (Kd.R_move (Kd.R_bound HQ4.out) (fun q hq => HF.out q (by have := hq.2.1; omega))) (fun _ _ => trivial)) (by omega)
 have hQ5 := Kd.R_lower (base' := w.heap.size) (Kd.R_mono (ok' := News w) (Kd.R_move (Kd.R_bound HQ5.out) (fun q hq => HF.out q (by have := hq.2.1; omega))) (fun _ _ => trivial)) (by omega)
 have hgot := GotS.fill HK.out HT.out (by decide) H.out.le
 exact OutG.mk (n, x) (by rw [pOut]; exact hgot.map (f := fun x : (Unit × Int) × S28 => (x.1.2, x.2))) hQ4 hQ5
set_option maxHeartbeats 16000000 in
theorem getManifest_calls (h : Rdr b w g l e u) : Calls Tryz.prog 65 #[.pointer (some ⟨g, 0, none⟩)] w (ManG b w g e (pMan l)) := by
 have H := Aside0.mk h
 clear h
 go_enter Tryz.func65, Tryz.ntmps65
 have HX := Aside0.mk (heap_alloc_new w (.cells #[.int .i64 0, .int .u32 0, .slice none 0 0] 41))
 have HK := Aside0.mk (GotS.pass0 (H.out) (below_alloc (Below.refl _ _) (.cells #[.int .i64 0, .int .u32 0, .slice none 0 0] 41)))
 have hX0 : w.heap.size < (w.alloc (.cells #[.int .i64 0, .int .u32 0, .slice none 0 0] 41)).heap.size := blk_lt HX.out
 go_wp2_with fail
 refine (rmark_got HK.out.rdr 77).mono ?_
 rintro en w1 ⟨rfl, l1, e1, u1, hg⟩
 have hsz1 := hg.ut.size
 replace HX := Aside0.mk (hg.ut.blk HX.out (by decide))
 replace HK := Aside0.mk (HK.out.bind (f := fun _ l => _) hg)
 clear hg 
 go_wp2_with fail
 refine (rnumber_got HK.out.rdr 9999).mono ?_
 rintro en w2 ⟨n, rfl, _, _, l2, e2, u2, hg⟩
 have hsz2 := hg.ut.size
 replace HX := Aside0.mk (hg.ut.blk HX.out (by decide))
 replace HK := Aside0.mk (HK.out.and hg)
 clear hg 
 have hh : w.heap.size < w2.heap.size := blk_lt HX.out
 have HY := Aside0.mk (heap_alloc_new w2 (.cells #[.int .i64 n, .int .u32 0, .slice none 0 0] 41))
 replace HX := Aside0.mk (blk_alloc HX.out (.cells #[.int .i64 n, .int .u32 0, .slice none 0 0] 41))
 replace HK := Aside0.mk (HK.out.alloc (.cells #[.int .i64 n, .int .u32 0, .slice none 0 0] 41))
 go_wp2_with fail
 refine (rword_got HK.out.rdr).mono ?_
 rintro en w3 ⟨m, rfl, l3, e3, u3, hg⟩
 have hsz3 := hg.ut.size
 replace HX := Aside0.mk (hg.ut.blk HX.out (by decide))
 replace HY := Aside0.mk (hg.ut.blk HY.out (by decide))
 replace HK := Aside0.mk (HK.out.and hg)
 clear hg 
 have j0 := blk_cell HY.out 1
 have g0 := blk_frozen HY.out 1
 simp only [List.getElem?_toArray, List.getElem?_cons_succ, List.getElem?_cons_zero] at j0
 replace HK := Aside0.mk (GotS.fill (T := [41]) HK.out ((UT.refl [41] w.heap.size _).set HY.out (by simp) (by omega) 1 (.int .u32 m)) (by decide) H.out.le)
 replace HX := Aside0.mk ((Below.heap_setCell _ ⟨w2.heap.size, 1, none⟩ (.int .u32 m) w.heap.size (show w.heap.size ≠ w2.heap.size by omega)).trans HX.out)
 replace HY := Aside0.mk (blk_set (i := 1) (v := .int .u32 m) HY.out)
 replace HY := Aside0.mk (show (w3.setCell ⟨w2.heap.size, 1, none⟩ (.int .u32 m)).heap[w2.heap.size]? = some (.cells #[.int .i64 n, .int .u32 m, .slice none 0 0] 41 (0, 0)) from HY.out)
 go_wp2_with fail
 refine (getRows_calls HK.out.rdr 12 (by decide)).mono ?_
 rintro en w4 ⟨v2, xs, rfl, hR, l4, e4, u4, hg⟩
 obtain ⟨sa2, sn2, sc2, rfl⟩ : ∃ A n c, v2 = .slice A n c := (Kd.R_slice hR).elim (fun A h => h.elim (fun c h => ⟨A, _, c, h⟩))
 have hsz4 := hg.ut.size
 have HQ2 := Aside0.mk (Kd.R_lower (base' := w2.heap.size + 1) hR (by have := blk_lt HY.out; omega))
 replace HX := Aside0.mk (hg.ut.blk HX.out (by decide))
 replace HY := Aside0.mk (hg.ut.blk HY.out (by decide))
 replace HK := Aside0.mk (HK.out.and hg)
 clear hg hR
 have j0 := blk_cell HY.out 2
 have g0 := blk_frozen HY.out 2
 simp only [List.getElem?_toArray, List.getElem?_cons_succ, List.getElem?_cons_zero] at j0
 replace HK := Aside0.mk (GotS.fill (T := [41]) HK.out ((UT.refl [41] w.heap.size _).set HY.out (by simp) (by omega) 2 (.slice sa2 sn2 sc2)) (by decide) H.out.le)
 replace HQ2 := Aside0.mk (Kd.R_mono (ok' := News w) (Kd.R_far (Kd.R_bound HQ2.out) (p := ⟨w2.heap.size, 2, none⟩) (fun k hk => Nat.ne_of_gt (Nat.lt_of_succ_le hk.2.1)) (.slice sa2 sn2 sc2)) (fun _ _ => trivial))
 replace HX := Aside0.mk ((Below.heap_setCell _ ⟨w2.heap.size, 2, none⟩ (.slice sa2 sn2 sc2) w.heap.size (show w.heap.size ≠ w2.heap.size by omega)).trans HX.out)
 replace HY := Aside0.mk (blk_set (i := 2) (v := .slice sa2 sn2 sc2) HY.out)
 replace HY := Aside0.mk (show (w4.setCell ⟨w2.heap.size, 2, none⟩ (.slice sa2 sn2 sc2)).heap[w2.heap.size]? = some (.cells #[.int .i64 n, .int .u32 m, .slice sa2 sn2 sc2] 41 (0, 0)) from HY.out)
 have n0 := blk_cell HX.out 0
 have f0 := blk_frozen HX.out 0
 have n1 := blk_cell HX.out 1
 have f1 := blk_frozen HX.out 1
 have n2 := blk_cell HX.out 2
 have f2 := blk_frozen HX.out 2
 have k0 := blk_cell HY.out 0
 have k1 := blk_cell HY.out 1
 have k2 := blk_cell HY.out 2
 simp only [List.getElem?_toArray, List.getElem?_cons_succ, List.getElem?_cons_zero] at n0 n1 n2 k0 k1 k2
 have hb4 := blk_lt HX.out
 obtain ⟨hW1, hW2, hW3⟩ := filln HX.out [.int .i64 n, .int .u32 m, .slice sa2 sn2 sc2] rfl
 have HF := Aside0.mk hW2
 have HT := Aside0.mk hW3
 have HG := Aside0.mk hW1
 clear hW1 hW2 hW3
 go_wp2
 (try simp only [Exit.inBlock, Exit.then])
 refine bodyPost_ret (results_cell_row rfl _ _ w.heap.size 41 _ (0, 0) _ rfl HG.out Tryz.underlying41 rfl size42) rfl ?_
 have hQ2 := Kd.R_lower (base' := w.heap.size) (Kd.R_mono (ok' := News w) (Kd.R_move (Kd.R_bound HQ2.out) (fun q hq => HF.out q (by have := hq.2.1; omega))) (fun _ _ => trivial)) (by omega)
 have hgot := GotS.fill HK.out HT.out (by decide) H.out.le
 exact ManG.mk (n, m, xs) (by rw [pMan]; exact hgot.map (f := fun x : ((Unit × Int) × Int) × List S108 => (x.1.1.2, x.1.2, x.2))) hQ2
end
end Go.Proofs.YthmkioodkldgbaaGreat.DK
/- Reading and writing agree: small parts (numbers, ints, texts, keys, words, lists), values; conditions: those in each theorem. (Plain Lean.) -/
namespace Go.Proofs.YthmkioodkldgbaaGreat.DK
open Go.Proofs.YthmkioodkldgbaaGreat.PD
open Go.RowKit Go.Proofs.YthmkioodkldgbaaGreatW.PrintWords
set_option linter.unusedVariables false
set_option linter.unusedSimpArgs false
theorem Byt.tail {c : Int} {l : List Int} (h : Byt (c :: l)) : (0 ≤ c ∧ c ≤ 255) ∧ Byt l := ⟨h c List.mem_cons_self, fun x hx => h x (List.mem_cons_of_mem _ hx)⟩
theorem Byt.right {a b : List Int} (h : Byt (a ++ b)) : Byt b := fun x hx => h x (List.mem_append_right _ hx)
theorem Byt.left {a b : List Int} (h : Byt (a ++ b)) : Byt a := fun x hx => h x (List.mem_append_left _ hx)
namespace Rd
theorem map_inv {α β : Type} {f : α → β} {r : Rd α} {y : β} {l : List Int} (h : r.map f = .ok y l) : ∃ x, r = .ok x l ∧ f x = y := by
 cases r with
 | ok v m => simp only [Rd.map, Rd.ok.injEq] at h; exact ⟨v, by rw [h.2], h.1⟩
 | bad e => simp [Rd.map] at h
theorem bind_inv {α β : Type} {f : α → List Int → Rd β} {r : Rd α} {y : β} {l : List Int} (h : r.bind f = .ok y l) : ∃ x m, r = .ok x m ∧ f x m = .ok y l := by
 cases r with
 | ok v m => exact ⟨v, m, rfl, h⟩
 | bad e => simp [Rd.bind] at h
theorem map_err {α β : Type} {f : α → β} {r : Rd α} {c : Int} (h : r.map f = .bad c) : r = .bad c := by
 cases r with
 | ok v m => simp [Rd.map] at h
 | bad e => simp only [Rd.map, Rd.bad.injEq] at h; rw [h]
theorem bind_err {α β : Type} {f : α → List Int → Rd β} {r : Rd α} {c : Int} (h : r.bind f = .bad c) : r = .bad c ∨ ∃ x m, f x m = .bad c := by
 cases r with
 | ok v m => exact .inr ⟨v, m, h⟩
 | bad e => simp only [Rd.bind_bad, Rd.bad.injEq] at h; exact .inl (by rw [h])
end Rd
/-- Never without a reason, never for what stands behind. -/
def Errs {α : Type} (p : List Int → Rd α) : Prop := ∀ l c, p l = .bad c → c ≠ 0 ∧ c ≠ 44
theorem Errs.map {α β : Type} {p : List Int → Rd α} (h : Errs p) (g : α → β) : Errs fun l => (p l).map g := fun l c e => h l c (Rd.map_err e)
theorem Errs.bind {α β : Type} {p : List Int → Rd α} (h : Errs p) {g : α → List Int → Rd β} (hg : ∀ x, Errs (g x)) : Errs fun l => (p l).bind g := fun l c e => by
 rcases Rd.bind_err e with e | ⟨x, m, e⟩
 ·exact h l c e
 ·exact hg x m c e
/-- What p takes is what f writes of what fits (q), and that is read back. -/
structure Law {α : Type} (p : List Int → Rd α) (f : α → List Int) (q : α → Prop) : Prop where
 one : ∀ l x l', Byt l → p l = .ok x l' → q x ∧ l = f x ++ l'
 back : ∀ x l', q x → p (f x ++ l') = .ok x l'
 bad : Errs p
namespace Law
variable {α β : Type} {p : List Int → Rd α} {f : α → List Int} {q : α → Prop} {p' : List Int → Rd β} {f' : β → List Int} {q' : β → Prop}
theorem and (h : Law p f q) (h' : Law p' f' q') : Law (fun l => (p l).and p') (fun x => f x.1 ++ f' x.2) (fun x => q x.1 ∧ q' x.2) where
 one := fun l x l' hb hp => by
  obtain ⟨a, m, e1, e2⟩ := Rd.bind_inv hp
  obtain ⟨c, e3, rfl⟩ := Rd.map_inv e2
  obtain ⟨q1, rfl⟩ := h.one l a m hb e1
  obtain ⟨q2, rfl⟩ := h'.one m c l' hb.right e3
  exact ⟨⟨q1, q2⟩, by rw [List.append_assoc]⟩
 back := fun x l' hq => by
  rw [List.append_assoc, Rd.and, h.back x.1 _ hq.1, Rd.bind_ok, h'.back x.2 _ hq.2]
  rfl
 bad := h.bad.bind fun x => h'.bad.map _
theorem map (h : Law p f q) (g : α → β) (g' : β → α) (h1 : ∀ x, q x → q' (g x) ∧ f' (g x) = f x) (h2 : ∀ y, q' y → q (g' y) ∧ g (g' y) = y ∧ f (g' y) = f' y) : Law (fun l => (p l).map g) f' q' where
 one := fun l y l' hb hp => by
  obtain ⟨x, e1, rfl⟩ := Rd.map_inv hp
  obtain ⟨q1, e2⟩ := h.one l x l' hb e1
  exact ⟨(h1 x q1).1, by rw [(h1 x q1).2]; exact e2⟩
 back := fun y l' hq => by
  obtain ⟨q1, e1, e2⟩ := h2 y hq
  rw [← e2, h.back _ _ q1]
  simp [Rd.map, e1]
 bad := h.bad.map g
theorem congr {q2 : α → Prop} (h : Law p f q) (e : ∀ x, q x ↔ q2 x) : Law p f q2 := ⟨fun l x l' hb hp => ⟨(e x).1 (h.one l x l' hb hp).1, (h.one l x l' hb hp).2⟩, fun x l' hq => h.back x l' ((e x).2 hq), h.bad⟩
theorem cong2 {p2 : List Int → Rd α} {f2 : α → List Int} {q2 : α → Prop} (h : Law p f q) (e1 : ∀ l, p2 l = p l) (e2 : ∀ x, q x → f2 x = f x) (e : ∀ x, q x ↔ q2 x) : Law p2 f2 q2 :=
 ⟨fun l x l' hb hp => by rw [e1] at hp; obtain ⟨a, b⟩ := h.one l x l' hb hp; exact ⟨(e x).1 a, by rw [e2 x a]; exact b⟩, fun x l' hq => by rw [e1, e2 x ((e x).2 hq)]; exact h.back x l' ((e x).2 hq), fun l c hp => h.bad l c (by rw [← e1]; exact hp)⟩
end Law
/-! Numbers. -/
theorem num_one : ∀ (k : Nat) (l : List Int) (i : Nat), Byt l → highs k l = i → i < k → i < l.length → (0 < i → l.getD i 0 ≠ 0) → grp (grps (i + 1) l) = l.take (i + 1) ∧ 0 ≤ grps (i + 1) l ∧ (l.getD i 0 ≠ 0 → 0 < grps (i + 1) l)
 | 0, l, i, _, _, h, _, _ => absurd h (by omega)
 | k + 1, [], i, _, _, _, h, _ => absurd h (by simp)
 | k + 1, c :: l, i, hb, hi, hk, hl, hz => by
  obtain ⟨hc, hb'⟩ := hb.tail
  rw [highs] at hi
  split at hi
  ·rename_i h1
   subst hi
   have h0 : l.getD (highs k l) 0 ≠ 0 := by have := hz (by omega); simpa using this
   obtain ⟨e1, e2, e3⟩ := num_one k l (highs k l) hb' rfl (by omega) (by simpa using hl) (fun _ => h0)
   have e4 := e3 h0
   rw [grps]
   refine ⟨?_, by omega, fun _ => by omega⟩
   rw [grp_high (by omega), List.take_succ_cons, show (c % 128 + 128 * grps (highs k l + 1) l) % 128 + 128 = c from by omega, show (c % 128 + 128 * grps (highs k l + 1) l) / 128 = grps (highs k l + 1) l from by omega, e1]
  ·rename_i h1
   subst hi
   have e : grps (0 + 1) (c :: l) = c := by rw [grps, grps]; omega
   rw [e]
   refine ⟨?_, hc.1, fun h => ?_⟩
   ·rw [grp_low hc.1 h1]; rfl
   ·simp only [List.getD_cons_zero] at h; omega
theorem num_back : ∀ (k : Nat) (n : Int) (m : List Int), 0 ≤ n → n < 128 ^ (k + 1) → ∃ i, (grp n).length = i + 1 ∧ i < k + 1 ∧ highs (k + 1) (grp n ++ m) = i ∧ grps (i + 1) (grp n ++ m) = n ∧ (0 < n → (grp n ++ m).getD i 0 ≠ 0) := by
 intro k
 induction k with
 | zero =>
  intro n m h0 h1
  have hn : ¬ 128 ≤ n := by omega
  rw [grp_low h0 hn]
  refine ⟨0, rfl, by omega, ?_, ?_, fun h => ?_⟩
  ·rw [List.cons_append, highs, if_neg hn]
  ·rw [List.cons_append, grps, grps]; omega
  ·simp; omega
 | succ k ih =>
  intro n m h0 h1
  by_cases hn : 128 ≤ n
  ·rw [grp_high hn]
   rw [Int.pow_succ] at h1
   obtain ⟨i, e1, e2, e3, e4, e5⟩ := ih (n / 128) m (by omega) (by omega)
   refine ⟨i + 1, by rw [List.length_cons, e1], by omega, ?_, ?_, fun _ => ?_⟩
   ·rw [List.cons_append, highs, if_pos (by omega), e3]
   ·rw [List.cons_append, grps, e4]; omega
   ·have := e5 (by omega)
    simpa using this
  ·rw [grp_low h0 hn]
   refine ⟨0, rfl, by omega, ?_, ?_, fun h => ?_⟩
   ·rw [List.cons_append, highs, if_neg hn]
   ·rw [List.cons_append, grps, grps]; omega
   ·simp; omega
theorem num_law {most : Int} (hm : most < 128 ^ 5) : Law (pNum most) grp (fun n => 0 ≤ n ∧ n ≤ most) where
 one := fun l n l' hb hp => by
  unfold pNum at hp
  dsimp only at hp
  split at hp
  ·cases hp
  split at hp
  ·cases hp
  split at hp
  ·cases hp
  split at hp
  ·rename_i h1 h2 h3 h4
   have hh := highs_le 5 l
   obtain ⟨e1, e2, e3⟩ := num_one 5 l (highs 5 l) hb rfl (by omega) (by omega) (fun h hz => h3 ⟨h, hz⟩)
   injection hp with e4 e5
   subst e4 e5
   exact ⟨⟨e2, h4⟩, by rw [e1, List.take_append_drop]⟩
  ·cases hp
 back := fun n l' ⟨h0, h1⟩ => by
  obtain ⟨i, e1, e2, e3, e4, e5⟩ := num_back 4 n l' h0 (by omega)
  unfold pNum
  dsimp only
  rw [e3, if_neg (by omega), if_neg (by rw [List.length_append, e1]; omega), if_neg (by
   intro ⟨hi, hz⟩
   refine e5 ?_ hz
   by_cases hn : 128 ≤ n
   ·omega
   ·rw [grp_low h0 hn] at e1; simp at e1; omega), e4, if_pos h1, ← e1, List.drop_left]
 bad := fun l c h => by
  unfold pNum at h
  dsimp only at h
  (repeat' split at h) <;> first | (cases h; decide) | cases h
/-! Ints of a value. -/
theorem int_one : ∀ (l : List Int) (j i : Nat) (u : Int) (l' : List Int), Byt l → i + j = 9 → pInt i l = .ok u l' → l = grp u ++ l' ∧ 0 ≤ u ∧ (0 < i → 0 < u) ∧ u < 2 * 128 ^ j
 | [], j, i, u, l', _, _, h => by simp [pInt] at h
 | c :: l, j, i, u, l', hb, hi, h => by
  obtain ⟨hc, hb'⟩ := hb.tail
  rw [pInt] at h
  split at h
  ·cases h
  rename_i hn
  split at h
  ·rename_i hc2
   injection h with h1 h2
   subst h1 h2
   refine ⟨by rw [grp_low hc.1 (by omega)]; rfl, hc.1, fun h => by omega, ?_⟩
   cases j with
   | zero => simp; omega
   | succ j => rw [Int.pow_succ]; have : (0 : Int) < 128 ^ j := Int.pow_pos (by decide); omega
  ·rename_i hc2
   cases j with
   | zero => omega
   | succ j =>
    obtain ⟨v, e1, rfl⟩ := Rd.map_inv h
    obtain ⟨e2, e3, e4, e5⟩ := int_one l j (i + 1) v l' hb' (by omega) e1
    have e6 := e4 (by omega)
    refine ⟨?_, by omega, fun _ => by omega, by rw [Int.pow_succ]; omega⟩
    rw [grp_high (by omega), show (c % 128 + 128 * v) % 128 + 128 = c from by omega, show (c % 128 + 128 * v) / 128 = v from by omega, List.cons_append, ← e2]
theorem int_back : ∀ (j i : Nat) (u : Int) (l' : List Int), i + j = 9 → 0 ≤ u → (0 < i → 0 < u) → u < 2 * 128 ^ j → pInt i (grp u ++ l') = .ok u l' := by
 intro j
 induction j with
 | zero =>
  intro i u l' hi h0 h1 h2
  have := h1 (by omega)
  simp at h2
  rw [grp_low h0 (by omega), List.cons_append, pInt, if_neg (by omega), if_pos (by omega)]
  rfl
 | succ j ih =>
  intro i u l' hi h0 h1 h2
  by_cases hu : 128 ≤ u
  ·rw [Int.pow_succ] at h2
   rw [grp_high hu, List.cons_append, pInt, if_neg (by omega), if_neg (by omega), ih (i + 1) (u / 128) l' (by omega) (by omega) (fun _ => by omega) (by omega)]
   simp only [Rd.map]
   congr 1
   omega
  ·rw [grp_low h0 hu, List.cons_append, pInt, if_neg (by omega), if_pos (by omega)]
   rfl
theorem int_bad : ∀ (l : List Int) (i : Nat) {c : Int}, pInt i l = .bad c → c = 28
 | [], i, c, h => by rw [pInt] at h; cases h; rfl
 | a :: l, i, c, h => by
  rw [pInt] at h
  split at h
  ·cases h; rfl
  split at h
  ·cases h
  ·exact int_bad l (i + 1) (Rd.map_err h)
theorem unz_zz {n : Int} : unz (zz n) = n := by unfold unz zz; split <;> split <;> omega
theorem zz_unz {u : Int} (h : 0 ≤ u) : zz (unz u) = u := by unfold unz zz; split <;> split <;> omega
/-! Texts, keys, words. -/
theorem bytesOf_str {l : List Int} (h : Byt l) : bytesOf (strOfNums l) = l := by
 unfold bytesOf strOfNums
 simp only [List.map_map]
 conv => rhs; rw [← List.map_id l]
 refine List.map_congr_left fun x hx => ?_
 have := h x hx
 simp only [Function.comp, UInt8.toNat_ofNat', id]
 omega
theorem str_bytesOf (s : ByteArray) : strOfNums (bytesOf s) = s := by
 unfold bytesOf strOfNums
 simp only [List.map_map]
 obtain ⟨a⟩ := s
 congr 1
 conv => rhs; rw [← a.toArray_toList, ← List.map_id a.toList]
 congr 1
 refine List.map_congr_left fun x _ => ?_
 simp
theorem str_size {l : List Int} : (strOfNums l).size = l.length := by simp [strOfNums, ByteArray.size]
theorem take_law (n : Nat) : Law (fun l => (pTake n l).map strOfNums) bytesOf (fun k => k.size = n) where
 one := fun l x l' hb hp => by
  obtain ⟨v, e1, rfl⟩ := Rd.map_inv hp
  unfold pTake at e1
  split at e1
  ·cases e1
  injection e1 with e2 e3
  subst e2 e3
  rw [← List.take_append_drop n l] at hb
  exact ⟨by rw [str_size, List.length_take]; omega, by rw [bytesOf_str hb.left, List.take_append_drop]⟩
 back := fun x l' hq => by
  have hl : (bytesOf x).length = n := by rw [bytesOf_length, hq]
  unfold pTake
  rw [if_neg (by rw [List.length_append]; omega), ← hl, List.take_left, List.drop_left, Rd.map, str_bytesOf]
 bad := Errs.map (fun l c h => by unfold pTake at h; split at h <;> first | (cases h; decide) | cases h) _
theorem key_law : Law pKey keyB (fun k => k.size ≤ 12) where
 one := fun l x l' hb hp => by
  unfold pKey at hp
  obtain ⟨n, m, e1, e2⟩ := Rd.bind_inv hp
  obtain ⟨⟨h0, h1⟩, rfl⟩ := (num_law (by decide)).one l n m hb e1
  have e3 : (pTake n.toNat m).map strOfNums = .ok x l' := by
   obtain ⟨v, m', e4, e5⟩ := Rd.bind_inv e2
   rw [e4]; exact e5
  obtain ⟨e4, rfl⟩ := (take_law n.toNat).one m x l' hb.right e3
  refine ⟨by omega, ?_⟩
  rw [keyB, List.append_assoc, e4, Int.toNat_of_nonneg h0]
 back := fun x l' hq => by
  unfold pKey keyB
  rw [List.append_assoc, (num_law (by decide)).back _ _ ⟨by omega, by omega⟩, Rd.bind_ok, Int.toNat_natCast]
  have h := (take_law x.size).back x l' rfl
  obtain ⟨v, e1, e2⟩ := Rd.map_inv h
  rw [e1, Rd.bind_ok, e2]
 bad := (num_law (by decide)).bad.bind fun n => Errs.bind (fun l c h => by unfold pTake at h; split at h <;> first | (cases h; decide) | cases h) fun x l c h => by cases h
theorem word_law : Law pWord word (fun n => 0 ≤ n ∧ n ≤ 4294967295) where
 one := fun l x l' hb hp => by
  match l, hb, hp with
  | a :: b :: c :: d :: l, hb, hp =>
   obtain ⟨h1, hb⟩ := hb.tail
   obtain ⟨h2, hb⟩ := hb.tail
   obtain ⟨h3, hb⟩ := hb.tail
   obtain ⟨h4, hb⟩ := hb.tail
   rw [pWord] at hp
   injection hp with e1 e2
   subst e1 e2
   refine ⟨by omega, ?_⟩
   unfold word
   simp only [List.cons_append, List.nil_append, List.cons.injEq, and_true]
   omega
  | [], _, hp => simp [pWord] at hp
  | [_], _, hp => simp [pWord] at hp
  | [_, _], _, hp => simp [pWord] at hp
  | [_, _, _], _, hp => simp [pWord] at hp
 back := fun x l' hq => by
  unfold word
  simp only [List.cons_append, List.nil_append, pWord]
  congr 1
  omega
 bad := fun l c h => by unfold pWord at h; split at h <;> first | (cases h; decide) | cases h
theorem mark_law (m : Int) : Law (pMark m) (fun _ => [m]) (fun _ => True) where
 one := fun l x l' hb hp => by
  cases l with
  | nil => simp [pMark] at hp
  | cons c l =>
   rw [pMark] at hp
   split at hp
   ·rename_i h; injection hp with _ e; subst e h; exact ⟨trivial, rfl⟩
   ·cases hp
 back := fun x l' _ => by simp [pMark]
 bad := fun l c h => by
  cases l with
  | nil => cases h; decide
  | cons a l => rw [pMark] at h; split at h <;> first | (cases h; decide) | cases h
/-! Lists. -/
/-- Each fits behind the ones ahead of it. -/
def Many {α : Type} (Q : List α → α → Prop) : List α → List α → Prop
 | _, [] => True
 | acc, x :: xs => Q acc x ∧ Many Q (acc ++ [x]) xs
theorem Many.of_all {α : Type} {q : α → Prop} : ∀ {xs acc : List α}, Many (fun _ => q) acc xs ↔ ∀ x ∈ xs, q x
 | [], acc => by simp [Many]
 | x :: xs, acc => by rw [Many, Many.of_all, List.forall_mem_cons]
section
variable {α : Type} {p : List α → List Int → Rd α} {f : α → List Int} {Q : List α → α → Prop}
theorem many_one (h : ∀ acc, Law (p acc) f (Q acc)) : ∀ (n : Nat) (acc : List α) (l : List Int) (ys : List α) (l' : List Int), Byt l → pMany p n acc l = .ok ys l' → ∃ xs, ys = acc ++ xs ∧ xs.length = n ∧ Many Q acc xs ∧ l = xs.flatMap f ++ l'
 | 0, acc, l, ys, l', _, hp => by
  rw [pMany] at hp
  injection hp with e1 e2
  subst e1 e2
  exact ⟨[], by simp, rfl, trivial, rfl⟩
 | n + 1, acc, l, ys, l', hb, hp => by
  rw [pMany] at hp
  obtain ⟨x, m, e1, e2⟩ := Rd.bind_inv hp
  obtain ⟨q1, rfl⟩ := (h acc).one l x m hb e1
  obtain ⟨xs, rfl, e3, e4, rfl⟩ := many_one h n (acc ++ [x]) m ys l' hb.right e2
  exact ⟨x :: xs, by simp, by simp [e3], ⟨q1, e4⟩, by simp⟩
theorem many_back (h : ∀ acc, Law (p acc) f (Q acc)) : ∀ (xs acc : List α) (l' : List Int), Many Q acc xs → pMany p xs.length acc (xs.flatMap f ++ l') = .ok (acc ++ xs) l'
 | [], acc, l', _ => by simp [pMany]
 | x :: xs, acc, l', hq => by
  rw [List.flatMap_cons, List.append_assoc, List.length_cons, pMany, (h acc).back x _ hq.1, Rd.bind_ok, many_back h xs (acc ++ [x]) l' hq.2]
  simp
theorem many_bad (h : ∀ acc, Law (p acc) f (Q acc)) : ∀ (n : Nat) (acc : List α), Errs (pMany p n acc)
 | 0, acc => fun l c e => by rw [pMany] at e; cases e
 | n + 1, acc => fun l c e => by
  rw [pMany] at e
  exact Errs.bind (h acc).bad (fun x => many_bad h n (acc ++ [x])) l c e
theorem list_in {most : Int} (hm : most < 128 ^ 5) (h : ∀ acc, Law (p acc) f (Q acc)) : Law (pList most p) (lst f) (fun xs => (xs.length : Int) ≤ most ∧ Many Q [] xs) where
 one := fun l ys l' hb hp => by
  unfold pList at hp
  obtain ⟨n, m, e1, e2⟩ := Rd.bind_inv hp
  obtain ⟨⟨h0, h1⟩, rfl⟩ := (num_law hm).one l n m hb e1
  obtain ⟨xs, rfl, e3, e4, rfl⟩ := many_one h n.toNat [] m ys l' hb.right e2
  refine ⟨⟨by omega, e4⟩, ?_⟩
  unfold lst
  rw [e3, Int.toNat_of_nonneg h0, List.append_assoc]
 back := fun xs l' hq => by
  unfold pList lst
  rw [List.append_assoc, (num_law hm).back _ _ ⟨by omega, hq.1⟩, Rd.bind_ok, Int.toNat_natCast, many_back h xs [] l' hq.2, List.nil_append]
 bad := (num_law hm).bad.bind fun n => many_bad h n.toNat []
end
theorem list_law {α : Type} {p : List Int → Rd α} {f : α → List Int} {q : α → Prop} {most : Int} (hm : most < 128 ^ 5) (h : Law p f q) : Law (pList most fun _ => p) (lst f) (fun xs => (xs.length : Int) ≤ most ∧ ∀ x ∈ xs, q x) :=
 (list_in (Q := fun _ => q) hm fun _ => h).congr fun xs => by rw [Many.of_all]
end Go.Proofs.YthmkioodkldgbaaGreat.DK
