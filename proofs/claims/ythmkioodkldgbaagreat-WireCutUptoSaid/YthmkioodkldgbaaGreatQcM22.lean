/- wire.getRecord, getRecords, getState and the lists they want; conditions: those in each theorem. -/
import Derived.Test.YthmkioodkldgbaaGreatQcM21
namespace Go.Proofs.YthmkioodkldgbaaGreat.DK
open Go.Proofs.YthmkioodkldgbaaGreat.PD
open Go.RowKit Go.Proofs.YthmkioodkldgbaaGreatW.PrintWords Go.Proofs.YthmkioodkldgbaaGreatW.PrintLast Go.Proofs.YthmkioodkldgbaaGreatW.PrintMore
set_option linter.unusedVariables false
set_option linter.unusedSimpArgs false
set_option maxRecDepth 100000
/-- One behind the other. -/
def Rd.and {α β : Type} (r : Rd α) (p : List Int → Rd β) : Rd (α × β) := r.bind fun a l => (p l).map fun b => (a, b)
theorem GotS.and {α β : Type} {b : Nat} {w w1 w2 : World} {g : Nat} {e e1 e2 : Int} {r : Rd α} {x : α} {p : List Int → Rd β} {y : β} {l1 l2 : List Int} {u1 u2 : Value} (h : GotS b w g e r x w1 l1 e1 u1) (k : GotS b w1 g e1 (p l1) y w2 l2 e2 u2) : GotS b w g e (r.and p) (x, y) w2 l2 e2 u2 :=
 h.bind (f := fun a l => (p l).map fun b => (a, b)) k.map
/-- Nothing read yet. -/
theorem GotS.pass0 {b : Nat} {w w1 : World} {g : Nat} {l : List Int} {e : Int} {u : Value} (h : Rdr b w g l e u) (hb : Below w.heap.size w w1) : GotS b w g e (.ok () l) () w1 l e u := ⟨h.below hb, UT.of_below _ _ hb, fun _ _ => rfl, fun h0 h1 => absurd h0 h1, fun _ => rfl⟩
theorem size28 : (Tryz.prog.info? 27).map (·.size) = some 6 := by kernel_rfl
theorem size31 : (Tryz.prog.info? 30).map (·.size) = some 2 := by kernel_rfl
set_option maxHeartbeats 8000000 in
theorem getCells_calls {b : Nat} {w : World} {g : Nat} {l : List Int} {e : Int} {u : Value} (h : Rdr b w g l e u) (most : Int) (hm : most ≤ 1000) :
  Calls Tryz.prog 102 #[.pointer (some ⟨g, 0, none⟩), .int .i64 most, .func (.func 103) #[] #[]] w (ListG (k121) 129 b w g e (pList most (pCellIn) l)) := by
 have H := Aside0.mk h
 have hgw := blk_lt h.box
 clear h 
 go_enter Tryz.func102, Tryz.ntmps102
 go_wp2_with fail
 refine (rnumber_got H.out most).mono ?_
 rintro en w1 ⟨n, rfl, hn0, hn1, l1, e1, u1, h1⟩
 have HS := Aside0.mk (LstG.start (d := k121) (ty := 129) (p := pCellIn) h1 hn0 hn1)
 clear h1 hn0 hn1
 go_wp2
 go_loopw [7, 8] (fun u nv wr => LstG (k121) 129 b w g e most (pCellIn) (pList most (pCellIn) l) u nv wr) (fun _ nv _ => (intOf nv).toNat)
 case atStart => exact HS.out
 case round =>
  obtain ⟨xs, n, l', e', u', rfl, hn0, hmm, hR, hr, hu, h1⟩ := hrel
  have m1 := blk_cell hr.box 1
  simp only [List.getElem?_toArray, List.getElem?_cons_succ, List.getElem?_cons_zero] at m1
  have hgr := blk_lt hr.box
  obtain ⟨A, nn, c, rfl⟩ : ∃ A n c, u7 = .slice A n c := (Kd.R_slice hR).elim (fun A h => h.elim (fun c h => ⟨A, _, c, h⟩))
  have HR := Aside0.mk hR
  have HRD := Aside0.mk hr
  have HU := Aside0.mk hu
  have H1 := Aside0.mk h1
  have HMM := Aside0.mk hmm
  clear hR hr hu h1 hmm
  by_cases hn : n > 0
  ·by_cases he : e' = 0
   ·subst he
    have HM3 := Aside0.mk (show (xs.length : Int) + n ≤ most by have := HMM.out; omega)
    have hn9 : n ≤ 1000 := by have := HM3.out; omega
    have hsz := HU.out.size
    have hxl : xs.length ≤ 1000 := by have := HM3.out; omega
    go_wp2_with fail
    refine (getCell_calls HRD.out xs HR.out hxl).mono ?_
    rintro en w2 ⟨x, v9, rfl, hR9, l2, e2, u2, hg⟩
    have hx := k121_mkM w2 wr.heap.size (News w) x hR9
    have HG2 := Aside0.mk hg
    have HM2 := Aside0.mk hx
    clear hg hx
    go_wp2_with ((with_reducible refine gate_builtin (b := .append) (xs := #[.tmp 23, .tmp 28]) rfl ?_); at_builtin; refine Kd.R_append (k121) (w0 := w2) (W := w2) w.heap.size rfl (.tmp 23) (.tmp 28) 28 129 (.agg #[.string ⟨#[]⟩, .slice none 0 0]) 40 rfl Tryz.underlying28 gi121 rfl (by decide) (by decide) (.slice A nn c) xs x [.string x.f0, v9] (News w) (fun k => wr.heap.size ≤ k) rfl rfl ?aP ?aK (fun _ _ => trivial) ?aO (Below.refl _ _) ?aS ?aL ?_; (case aP => exact (k121).M_lower hsz ((k121).M_mono (fun k hk => hk.2.1) ((k121).M_bound HM2.out))); (case aK => exact (fun k hk => ⟨trivial, fun e => absurd (Kd.R_lt HR.out k e.symm) (Nat.not_lt.2 hk)⟩)); (case aO => exact (R_ut HR.out HG2.out.ut (by decide))); (case aS => exact Nat.le_trans hsz HG2.out.ut.size); (case aL => have := HM3.out; omega); intro v3 w3 ho hb3 hg3 hat; have HO := Aside0.mk ho; have HB3 := Aside0.mk hb3; clear ho hb3 hg3 hat)
    go_wp2
    go_roundw
    case rel => exact LstG.next hgw hn HM3.out H1.out HU.out HO.out HG2.out HB3.out
    case measure => simp [intOf]; omega
   ·have heb : (e' == 0) = false := by simpa using he
    have HE := Aside0.mk he
    go_wp2
    go_ret
    exact ListG.mk HR.out (LstG.done (.inr HE.out) HRD.out HU.out H1.out)
  ·have hz := Int.le_antisymm (Int.not_lt.1 hn) hn0
   have HZ := Aside0.mk hz
   clear hz
   go_wp2
   go_ret
   exact ListG.mk HR.out (LstG.done (.inl HZ.out) HRD.out HU.out H1.out)
/-- A record. -/
def pRec (l : List Int) : Rd S28 := (((pKey l).and pVal).and (pList 3 fun _ => pNum 9)).map fun x => ⟨x.1.1, x.1.2, x.2⟩
def RecG (b : Nat) (w : World) (g : Nat) (e : Int) (r : Rd S28) (en : Ending) (w' : World) : Prop :=
 ∃ (x : S28) (v4 v5 : Value), en = .returned (.agg #[.string x.f0, .int .i64 x.f1.f0, .int .i64 x.f1.f1, .string x.f1.f2, v4, v5]) ∧ k25.R 24 w' w.heap.size (News w) v4 x.f1.f3 ∧ (Kd.int .i64).R 3 w' w.heap.size (News w) v5 x.f2 ∧ ∃ l' e' u', GotS b w g e r x w' l' e' u'
theorem RecG.mk {b : Nat} {w : World} {g : Nat} {e : Int} {r : Rd S28} {w' : World} (x : S28) {v4 v5 : Value} {l' : List Int} {e' : Int} {u' : Value} (h : GotS b w g e r x w' l' e' u') (h4 : k25.R 24 w' w.heap.size (News w) v4 x.f1.f3) (h5 : (Kd.int .i64).R 3 w' w.heap.size (News w) v5 x.f2) :
  RecG b w g e r (.returned (.agg #[.string x.f0, .int .i64 x.f1.f0, .int .i64 x.f1.f1, .string x.f1.f2, v4, v5])) w' := ⟨x, v4, v5, rfl, h4, h5, l', e', u', h⟩
section
variable {b : Nat} {w : World} {g : Nat} {l : List Int} {e : Int} {u : Value}
set_option maxHeartbeats 16000000 in
theorem getRecord_calls (h : Rdr b w g l e u) : Calls Tryz.prog 69 #[.pointer (some ⟨g, 0, none⟩)] w (RecG b w g e (pRec l)) := by
 have H := Aside0.mk h
 clear h
 go_enter Tryz.func69, Tryz.ntmps69
 have HX := Aside0.mk (heap_alloc_new w (.cells #[.string ⟨#[]⟩, .int .i64 0, .int .i64 0, .string ⟨#[]⟩, .slice none 0 0, .slice none 0 0] 27))
 have HK := Aside0.mk (GotS.pass0 (H.out) (below_alloc (Below.refl _ _) (.cells #[.string ⟨#[]⟩, .int .i64 0, .int .i64 0, .string ⟨#[]⟩, .slice none 0 0, .slice none 0 0] 27)))
 have hX0 : w.heap.size < (w.alloc (.cells #[.string ⟨#[]⟩, .int .i64 0, .int .i64 0, .string ⟨#[]⟩, .slice none 0 0, .slice none 0 0] 27)).heap.size := blk_lt HX.out
 go_wp2_with fail
 refine (rkey_got HK.out.rdr).mono ?_
 rintro en w1 ⟨k, rfl, l1, e1, u1, hg⟩
 have hsz1 := hg.ut.size
 replace HX := Aside0.mk (hg.ut.blk HX.out (by decide))
 replace HK := Aside0.mk (HK.out.bind (f := fun _ l => _) hg)
 clear hg 
 have hh : w.heap.size < w1.heap.size := blk_lt HX.out
 have HY := Aside0.mk (heap_alloc_new w1 (.cells #[.string k, .int .i64 0, .int .i64 0, .string ⟨#[]⟩, .slice none 0 0, .slice none 0 0] 27))
 replace HX := Aside0.mk (blk_alloc HX.out (.cells #[.string k, .int .i64 0, .int .i64 0, .string ⟨#[]⟩, .slice none 0 0, .slice none 0 0] 27))
 replace HK := Aside0.mk (HK.out.alloc (.cells #[.string k, .int .i64 0, .int .i64 0, .string ⟨#[]⟩, .slice none 0 0, .slice none 0 0] 27))
 go_wp2_with fail
 refine (rvalue_calls HK.out.rdr).mono ?_
 rintro en w2 ⟨v, v4, rfl, hR, l2, e2, u2, hg⟩
 obtain ⟨sa4, sn4, sc4, rfl⟩ : ∃ A n c, v4 = .slice A n c := (Kd.R_slice hR).elim (fun A h => h.elim (fun c h => ⟨A, _, c, h⟩))
 have hsz2 := hg.ut.size
 have HQ4 := Aside0.mk (Kd.R_lower (base' := w1.heap.size + 1) hR (by have := blk_lt HY.out; omega))
 replace HX := Aside0.mk (hg.ut.blk HX.out (by decide))
 replace HY := Aside0.mk (hg.ut.blk HY.out (by decide))
 replace HK := Aside0.mk (HK.out.and hg)
 clear hg hR
 have j0 := blk_cell HY.out 1
 have g0 := blk_frozen HY.out 1
 have j1 := blk_cell HY.out 2
 have g1 := blk_frozen HY.out 2
 have j2 := blk_cell HY.out 3
 have g2 := blk_frozen HY.out 3
 have j3 := blk_cell HY.out 4
 have g3 := blk_frozen HY.out 4
 simp only [List.getElem?_toArray, List.getElem?_cons_succ, List.getElem?_cons_zero] at j0 j1 j2 j3
 replace HK := Aside0.mk (GotS.fill (T := [27]) HK.out ((UT.refl [27] w.heap.size _).set HY.out (by simp) (by omega) 1 (.int .i64 v.f0)) (by decide) H.out.le)
 replace HQ4 := Aside0.mk (Kd.R_mono (ok' := News w) (Kd.R_far (Kd.R_bound HQ4.out) (p := ⟨w1.heap.size, 1, none⟩) (fun k hk => Nat.ne_of_gt (Nat.lt_of_succ_le hk.2.1)) (.int .i64 v.f0)) (fun _ _ => trivial))
 replace HX := Aside0.mk ((Below.heap_setCell _ ⟨w1.heap.size, 1, none⟩ (.int .i64 v.f0) w.heap.size (show w.heap.size ≠ w1.heap.size by omega)).trans HX.out)
 replace HY := Aside0.mk (blk_set (i := 1) (v := .int .i64 v.f0) HY.out)
 replace HK := Aside0.mk (GotS.fill (T := [27]) HK.out ((UT.refl [27] w.heap.size _).set HY.out (by simp) (by omega) 2 (.int .i64 v.f1)) (by decide) H.out.le)
 replace HQ4 := Aside0.mk (Kd.R_mono (ok' := News w) (Kd.R_far (Kd.R_bound HQ4.out) (p := ⟨w1.heap.size, 2, none⟩) (fun k hk => Nat.ne_of_gt (Nat.lt_of_succ_le hk.2.1)) (.int .i64 v.f1)) (fun _ _ => trivial))
 replace HX := Aside0.mk ((Below.heap_setCell _ ⟨w1.heap.size, 2, none⟩ (.int .i64 v.f1) w.heap.size (show w.heap.size ≠ w1.heap.size by omega)).trans HX.out)
 replace HY := Aside0.mk (blk_set (i := 2) (v := .int .i64 v.f1) HY.out)
 replace HK := Aside0.mk (GotS.fill (T := [27]) HK.out ((UT.refl [27] w.heap.size _).set HY.out (by simp) (by omega) 3 (.string v.f2)) (by decide) H.out.le)
 replace HQ4 := Aside0.mk (Kd.R_mono (ok' := News w) (Kd.R_far (Kd.R_bound HQ4.out) (p := ⟨w1.heap.size, 3, none⟩) (fun k hk => Nat.ne_of_gt (Nat.lt_of_succ_le hk.2.1)) (.string v.f2)) (fun _ _ => trivial))
 replace HX := Aside0.mk ((Below.heap_setCell _ ⟨w1.heap.size, 3, none⟩ (.string v.f2) w.heap.size (show w.heap.size ≠ w1.heap.size by omega)).trans HX.out)
 replace HY := Aside0.mk (blk_set (i := 3) (v := .string v.f2) HY.out)
 replace HK := Aside0.mk (GotS.fill (T := [27]) HK.out ((UT.refl [27] w.heap.size _).set HY.out (by simp) (by omega) 4 (.slice sa4 sn4 sc4)) (by decide) H.out.le)
 replace HQ4 := Aside0.mk (Kd.R_mono (ok' := News w) (Kd.R_far (Kd.R_bound HQ4.out) (p := ⟨w1.heap.size, 4, none⟩) (fun k hk => Nat.ne_of_gt (Nat.lt_of_succ_le hk.2.1)) (.slice sa4 sn4 sc4)) (fun _ _ => trivial))
 replace HX := Aside0.mk ((Below.heap_setCell _ ⟨w1.heap.size, 4, none⟩ (.slice sa4 sn4 sc4) w.heap.size (show w.heap.size ≠ w1.heap.size by omega)).trans HX.out)
 replace HY := Aside0.mk (blk_set (i := 4) (v := .slice sa4 sn4 sc4) HY.out)
 replace HY := Aside0.mk (show ((((w2.setCell ⟨w1.heap.size, 1, none⟩ (.int .i64 v.f0)).setCell ⟨w1.heap.size, 2, none⟩ (.int .i64 v.f1)).setCell ⟨w1.heap.size, 3, none⟩ (.string v.f2)).setCell ⟨w1.heap.size, 4, none⟩ (.slice sa4 sn4 sc4)).heap[w1.heap.size]? = some (.cells #[.string k, .int .i64 v.f0, .int .i64 v.f1, .string v.f2, .slice sa4 sn4 sc4, .slice none 0 0] 27 (0, 0)) from HY.out)
 go_wp2_with fail
 refine (getLoops_calls HK.out.rdr 3 (by decide)).mono ?_
 rintro en w3 ⟨v5, ls, rfl, hR, l3, e3, u3, hg⟩
 obtain ⟨sa5, sn5, sc5, rfl⟩ : ∃ A n c, v5 = .slice A n c := (Kd.R_slice hR).elim (fun A h => h.elim (fun c h => ⟨A, _, c, h⟩))
 have hsz3 := hg.ut.size
 have HQ5 := Aside0.mk (Kd.R_lower (base' := w1.heap.size + 1) hR (by have := blk_lt HY.out; omega))
 replace HQ4 := Aside0.mk (R_ut HQ4.out hg.ut (by decide))
 replace HX := Aside0.mk (hg.ut.blk HX.out (by decide))
 replace HY := Aside0.mk (hg.ut.blk HY.out (by decide))
 replace HK := Aside0.mk (HK.out.and hg)
 clear hg hR
 have j0 := blk_cell HY.out 5
 have g0 := blk_frozen HY.out 5
 simp only [List.getElem?_toArray, List.getElem?_cons_succ, List.getElem?_cons_zero] at j0
 replace HK := Aside0.mk (GotS.fill (T := [27]) HK.out ((UT.refl [27] w.heap.size _).set HY.out (by simp) (by omega) 5 (.slice sa5 sn5 sc5)) (by decide) H.out.le)
 replace HQ4 := Aside0.mk (Kd.R_mono (ok' := News w) (Kd.R_far (Kd.R_bound HQ4.out) (p := ⟨w1.heap.size, 5, none⟩) (fun k hk => Nat.ne_of_gt (Nat.lt_of_succ_le hk.2.1)) (.slice sa5 sn5 sc5)) (fun _ _ => trivial))
 replace HQ5 := Aside0.mk (Kd.R_mono (ok' := News w) (Kd.R_far (Kd.R_bound HQ5.out) (p := ⟨w1.heap.size, 5, none⟩) (fun k hk => Nat.ne_of_gt (Nat.lt_of_succ_le hk.2.1)) (.slice sa5 sn5 sc5)) (fun _ _ => trivial))
 replace HX := Aside0.mk ((Below.heap_setCell _ ⟨w1.heap.size, 5, none⟩ (.slice sa5 sn5 sc5) w.heap.size (show w.heap.size ≠ w1.heap.size by omega)).trans HX.out)
 replace HY := Aside0.mk (blk_set (i := 5) (v := .slice sa5 sn5 sc5) HY.out)
 replace HY := Aside0.mk (show (w3.setCell ⟨w1.heap.size, 5, none⟩ (.slice sa5 sn5 sc5)).heap[w1.heap.size]? = some (.cells #[.string k, .int .i64 v.f0, .int .i64 v.f1, .string v.f2, .slice sa4 sn4 sc4, .slice sa5 sn5 sc5] 27 (0, 0)) from HY.out)
 have n0 := blk_cell HX.out 0
 have f0 := blk_frozen HX.out 0
 have n1 := blk_cell HX.out 1
 have f1 := blk_frozen HX.out 1
 have n2 := blk_cell HX.out 2
 have f2 := blk_frozen HX.out 2
 have n3 := blk_cell HX.out 3
 have f3 := blk_frozen HX.out 3
 have n4 := blk_cell HX.out 4
 have f4 := blk_frozen HX.out 4
 have n5 := blk_cell HX.out 5
 have f5 := blk_frozen HX.out 5
 have k0 := blk_cell HY.out 0
 have k1 := blk_cell HY.out 1
 have k2 := blk_cell HY.out 2
 have k3 := blk_cell HY.out 3
 have k4 := blk_cell HY.out 4
 have k5 := blk_cell HY.out 5
 simp only [List.getElem?_toArray, List.getElem?_cons_succ, List.getElem?_cons_zero] at n0 n1 n2 n3 n4 n5 k0 k1 k2 k3 k4 k5
 have hb4 := blk_lt HX.out
 obtain ⟨hW1, hW2, hW3⟩ := filln HX.out [.string k, .int .i64 v.f0, .int .i64 v.f1, .string v.f2, .slice sa4 sn4 sc4, .slice sa5 sn5 sc5] rfl
 have HF := Aside0.mk hW2
 have HT := Aside0.mk hW3
 have HG := Aside0.mk hW1
 clear hW1 hW2 hW3
 go_wp2
 (try simp only [Exit.inBlock, Exit.then])
 refine bodyPost_ret (results_cell_row rfl _ _ w.heap.size 27 _ (0, 0) _ rfl HG.out Tryz.underlying27 rfl size28) rfl ?_
 have hQ4 := Kd.R_lower (base' := w.heap.size) (Kd.R_mono (ok' := News w) (Kd.R_move (Kd.R_bound HQ4.out) (fun q hq => HF.out q (by have := hq.2.1; omega))) (fun _ _ => trivial)) (by omega)
 have hQ5 := Kd.R_lower (base' := w.heap.size) (Kd.R_mono (ok' := News w) (Kd.R_move (Kd.R_bound HQ5.out) (fun q hq => HF.out q (by have := hq.2.1; omega))) (fun _ _ => trivial)) (by omega)
 have hgot := GotS.fill HK.out HT.out (by decide) H.out.le
 exact RecG.mk ⟨k, v, ls⟩ (by rw [pRec]; exact hgot.map (f := fun x : (ByteArray × S25) × List Int => (⟨x.1.1, x.1.2, x.2⟩ : S28))) hQ4 hQ5
set_option maxHeartbeats 16000000 in
theorem getRecord1_calls (h : Rdr b w g l e u) (v : Value) : Calls Tryz.prog 136 #[.pointer (some ⟨g, 0, none⟩), v] w (RecG b w g e (pRec l)) := by
 have H := Aside0.mk h
 clear h
 go_enter Tryz.func136, Tryz.ntmps136
 have HX := Aside0.mk (heap_alloc_new w (.cells #[.string ⟨#[]⟩, .int .i64 0, .int .i64 0, .string ⟨#[]⟩, .slice none 0 0, .slice none 0 0] 27))
 have HK := Aside0.mk (GotS.pass0 (H.out) (below_alloc (Below.refl _ _) (.cells #[.string ⟨#[]⟩, .int .i64 0, .int .i64 0, .string ⟨#[]⟩, .slice none 0 0, .slice none 0 0] 27)))
 have hX0 : w.heap.size < (w.alloc (.cells #[.string ⟨#[]⟩, .int .i64 0, .int .i64 0, .string ⟨#[]⟩, .slice none 0 0, .slice none 0 0] 27)).heap.size := blk_lt HX.out
 go_wp2_with fail
 refine (getRecord_calls HK.out.rdr).mono ?_
 rintro en w1 ⟨x, v4, v5, rfl, hR4, hR5, l1, e1, u1, hg⟩
 obtain ⟨sa4, sn4, sc4, rfl⟩ : ∃ A n c, v4 = .slice A n c := (Kd.R_slice hR4).elim (fun A h => h.elim (fun c h => ⟨A, _, c, h⟩))
 obtain ⟨sa5, sn5, sc5, rfl⟩ : ∃ A n c, v5 = .slice A n c := (Kd.R_slice hR5).elim (fun A h => h.elim (fun c h => ⟨A, _, c, h⟩))
 have hsz1 := hg.ut.size
 have HQ4 := Aside0.mk (Kd.R_lower (base' := w.heap.size + 1) hR4 (hX0))
 have HQ5 := Aside0.mk (Kd.R_lower (base' := w.heap.size + 1) hR5 (hX0))
 replace HX := Aside0.mk (hg.ut.blk HX.out (by decide))
 replace HK := Aside0.mk (HK.out.bind (f := fun _ l => _) hg)
 clear hg hR4 hR5
 have n0 := blk_cell HX.out 0
 have f0 := blk_frozen HX.out 0
 have n1 := blk_cell HX.out 1
 have f1 := blk_frozen HX.out 1
 have n2 := blk_cell HX.out 2
 have f2 := blk_frozen HX.out 2
 have n3 := blk_cell HX.out 3
 have f3 := blk_frozen HX.out 3
 have n4 := blk_cell HX.out 4
 have f4 := blk_frozen HX.out 4
 have n5 := blk_cell HX.out 5
 have f5 := blk_frozen HX.out 5
 simp only [List.getElem?_toArray, List.getElem?_cons_succ, List.getElem?_cons_zero] at n0 n1 n2 n3 n4 n5
 have hb4 := blk_lt HX.out
 obtain ⟨hW1, hW2, hW3⟩ := filln HX.out [.string x.f0, .int .i64 x.f1.f0, .int .i64 x.f1.f1, .string x.f1.f2, .slice sa4 sn4 sc4, .slice sa5 sn5 sc5] rfl
 have HF := Aside0.mk hW2
 have HT := Aside0.mk hW3
 have HG := Aside0.mk hW1
 clear hW1 hW2 hW3
 go_wp2
 (try simp only [Exit.inBlock, Exit.then])
 refine bodyPost_ret (results_cell_row rfl _ _ w.heap.size 27 _ (0, 0) _ rfl HG.out Tryz.underlying27 rfl size28) rfl ?_
 have hQ4 := Kd.R_lower (base' := w.heap.size) (Kd.R_mono (ok' := News w) (Kd.R_move (Kd.R_bound HQ4.out) (fun q hq => HF.out q (by have := hq.2.1; omega))) (fun _ _ => trivial)) (by omega)
 have hQ5 := Kd.R_lower (base' := w.heap.size) (Kd.R_mono (ok' := News w) (Kd.R_move (Kd.R_bound HQ5.out) (fun q hq => HF.out q (by have := hq.2.1; omega))) (fun _ _ => trivial)) (by omega)
 have hgot := GotS.fill HK.out HT.out (by decide) H.out.le
 exact RecG.mk x hgot hQ4 hQ5
end
set_option maxHeartbeats 8000000 in
theorem getRecs_calls {b : Nat} {w : World} {g : Nat} {l : List Int} {e : Int} {u : Value} (h : Rdr b w g l e u) (most : Int) (hm : most ≤ 1000) :
  Calls Tryz.prog 135 #[.pointer (some ⟨g, 0, none⟩), .int .i64 most, .func (.func 136) #[] #[]] w (ListG (k28) 27 b w g e (pList most (fun _ => pRec) l)) := by
 have H := Aside0.mk h
 have hgw := blk_lt h.box
 clear h 
 go_enter Tryz.func135, Tryz.ntmps135
 go_wp2_with fail
 refine (rnumber_got H.out most).mono ?_
 rintro en w1 ⟨n, rfl, hn0, hn1, l1, e1, u1, h1⟩
 have HS := Aside0.mk (LstG.start (d := k28) (ty := 27) (p := fun _ => pRec) h1 hn0 hn1)
 clear h1 hn0 hn1
 go_wp2
 go_loopw [7, 8] (fun u nv wr => LstG (k28) 27 b w g e most (fun _ => pRec) (pList most (fun _ => pRec) l) u nv wr) (fun _ nv _ => (intOf nv).toNat)
 case atStart => exact HS.out
 case round =>
  obtain ⟨xs, n, l', e', u', rfl, hn0, hmm, hR, hr, hu, h1⟩ := hrel
  have m1 := blk_cell hr.box 1
  simp only [List.getElem?_toArray, List.getElem?_cons_succ, List.getElem?_cons_zero] at m1
  have hgr := blk_lt hr.box
  obtain ⟨A, nn, c, rfl⟩ : ∃ A n c, u7 = .slice A n c := (Kd.R_slice hR).elim (fun A h => h.elim (fun c h => ⟨A, _, c, h⟩))
  have HR := Aside0.mk hR
  have HRD := Aside0.mk hr
  have HU := Aside0.mk hu
  have H1 := Aside0.mk h1
  have HMM := Aside0.mk hmm
  clear hR hr hu h1 hmm
  by_cases hn : n > 0
  ·by_cases he : e' = 0
   ·subst he
    have HM3 := Aside0.mk (show (xs.length : Int) + n ≤ most by have := HMM.out; omega)
    have hn9 : n ≤ 1000 := by have := HM3.out; omega
    have hsz := HU.out.size
    go_wp2_with fail
    refine (getRecord1_calls HRD.out _).mono ?_
    rintro en w2 ⟨x, v8, v9, rfl, hR8, hR9, l2, e2, u2, hg⟩
    have hx := k28_mkM w2 wr.heap.size (News w) x hR8 hR9
    have HG2 := Aside0.mk hg
    have HM2 := Aside0.mk hx
    clear hg hx
    go_wp2_with ((with_reducible refine gate_builtin (b := .append) (xs := #[.tmp 23, .tmp 28]) rfl ?_); at_builtin; refine Kd.R_append (k28) (w0 := w2) (W := w2) w.heap.size rfl (.tmp 23) (.tmp 28) 36 27 (.agg #[.string ⟨#[]⟩, .int .i64 0, .int .i64 0, .string ⟨#[]⟩, .slice none 0 0, .slice none 0 0]) 96 rfl Tryz.underlying36 gi28 rfl (by decide) (by decide) (.slice A nn c) xs x [.string x.f0, .int .i64 x.f1.f0, .int .i64 x.f1.f1, .string x.f1.f2, v8, v9] (News w) (fun k => wr.heap.size ≤ k) rfl rfl ?aP ?aK (fun _ _ => trivial) ?aO (Below.refl _ _) ?aS ?aL ?_; (case aP => exact (k28).M_lower hsz ((k28).M_mono (fun k hk => hk.2.1) ((k28).M_bound HM2.out))); (case aK => exact (fun k hk => ⟨trivial, fun e => absurd (Kd.R_lt HR.out k e.symm) (Nat.not_lt.2 hk)⟩)); (case aO => exact (R_ut HR.out HG2.out.ut (by decide))); (case aS => exact Nat.le_trans hsz HG2.out.ut.size); (case aL => have := HM3.out; omega); intro v3 w3 ho hb3 hg3 hat; have HO := Aside0.mk ho; have HB3 := Aside0.mk hb3; clear ho hb3 hg3 hat)
    go_wp2
    go_roundw
    case rel => exact LstG.next hgw hn HM3.out H1.out HU.out HO.out HG2.out HB3.out
    case measure => simp [intOf]; omega
   ·have heb : (e' == 0) = false := by simpa using he
    have HE := Aside0.mk he
    go_wp2
    go_ret
    exact ListG.mk HR.out (LstG.done (.inr HE.out) HRD.out HU.out H1.out)
  ·have hz := Int.le_antisymm (Int.not_lt.1 hn) hn0
   have HZ := Aside0.mk hz
   clear hz
   go_wp2
   go_ret
   exact ListG.mk HR.out (LstG.done (.inl HZ.out) HRD.out HU.out H1.out)
def pRecs (l : List Int) : Rd (List S28) := pList 256 (fun _ => pRec) l
section
variable {b : Nat} {w : World} {g : Nat} {l : List Int} {e : Int} {u : Value}
set_option maxHeartbeats 16000000 in
theorem getRecords_calls (h : Rdr b w g l e u) : Calls Tryz.prog 110 #[.pointer (some ⟨g, 0, none⟩)] w (ListG k28 27 b w g e (pRecs l)) := by
 have H := Aside0.mk h
 clear h
 go_enter Tryz.func110, Tryz.ntmps110
 go_wp2_with fail
 refine (getRecs_calls H.out 256 (by decide)).mono ?_
 rintro en w1 ⟨v, xs, rfl, hR, l1, e1, u1, hg⟩
 have HR := Aside0.mk hR
 have HG := Aside0.mk hg
 clear hR hg
 go_wp2
 go_ret
 exact ListG.mk HR.out HG.out
set_option maxHeartbeats 16000000 in
theorem getLog_calls (h : Rdr b w g l e u) (v : Value) : Calls Tryz.prog 109 #[.pointer (some ⟨g, 0, none⟩), v] w (ListG k28 27 b w g e (pRecs l)) := by
 have H := Aside0.mk h
 clear h
 go_enter Tryz.func109, Tryz.ntmps109
 go_wp2_with fail
 refine (getRecords_calls H.out).mono ?_
 rintro en w1 ⟨v, xs, rfl, hR, l1, e1, u1, hg⟩
 have HR := Aside0.mk hR
 have HG := Aside0.mk hg
 clear hR hg
 go_wp2
 go_ret
 exact ListG.mk HR.out HG.out
end
set_option maxHeartbeats 8000000 in
theorem getLogs_calls {b : Nat} {w : World} {g : Nat} {l : List Int} {e : Int} {u : Value} (h : Rdr b w g l e u) (most : Int) (hm : most ≤ 1000) :
  Calls Tryz.prog 108 #[.pointer (some ⟨g, 0, none⟩), .int .i64 most, .func (.func 109) #[] #[]] w (ListG (Kd.slice 27 k28) 36 b w g e (pList most (fun _ => pRecs) l)) := by
 have H := Aside0.mk h
 have hgw := blk_lt h.box
 clear h 
 go_enter Tryz.func108, Tryz.ntmps108
 go_wp2_with fail
 refine (rnumber_got H.out most).mono ?_
 rintro en w1 ⟨n, rfl, hn0, hn1, l1, e1, u1, h1⟩
 have HS := Aside0.mk (LstG.start (d := Kd.slice 27 k28) (ty := 36) (p := fun _ => pRecs) h1 hn0 hn1)
 clear h1 hn0 hn1
 go_wp2
 go_loopw [7, 8] (fun u nv wr => LstG (Kd.slice 27 k28) 36 b w g e most (fun _ => pRecs) (pList most (fun _ => pRecs) l) u nv wr) (fun _ nv _ => (intOf nv).toNat)
 case atStart => exact HS.out
 case round =>
  obtain ⟨xs, n, l', e', u', rfl, hn0, hmm, hR, hr, hu, h1⟩ := hrel
  have m1 := blk_cell hr.box 1
  simp only [List.getElem?_toArray, List.getElem?_cons_succ, List.getElem?_cons_zero] at m1
  have hgr := blk_lt hr.box
  obtain ⟨A, nn, c, rfl⟩ : ∃ A n c, u7 = .slice A n c := (Kd.R_slice hR).elim (fun A h => h.elim (fun c h => ⟨A, _, c, h⟩))
  have HR := Aside0.mk hR
  have HRD := Aside0.mk hr
  have HU := Aside0.mk hu
  have H1 := Aside0.mk h1
  have HMM := Aside0.mk hmm
  clear hR hr hu h1 hmm
  by_cases hn : n > 0
  ·by_cases he : e' = 0
   ·subst he
    have HM3 := Aside0.mk (show (xs.length : Int) + n ≤ most by have := HMM.out; omega)
    have hn9 : n ≤ 1000 := by have := HM3.out; omega
    have hsz := HU.out.size
    go_wp2_with fail
    refine (getLog_calls HRD.out _).mono ?_
    rintro en w2 ⟨v8, x, rfl, hR8, l2, e2, u2, hg⟩
    have hx : (Kd.slice 27 k28).M w2 wr.heap.size (News w) x [v8] := ⟨v8, rfl, hR8⟩
    obtain ⟨q8, r8, s8, rfl⟩ : ∃ A n c, v8 = .slice A n c := (Kd.R_slice hR8).elim (fun A h => h.elim (fun c h => ⟨A, _, c, h⟩))
    clear hR8
    have HG2 := Aside0.mk hg
    have HM2 := Aside0.mk hx
    clear hg hx
    go_wp2_with ((with_reducible refine gate_builtin (b := .append) (xs := #[.tmp 23, .tmp 28]) rfl ?_); at_builtin; refine Kd.R_append (Kd.slice 27 k28) (w0 := w2) (W := w2) w.heap.size rfl (.tmp 23) (.tmp 28) 35 36 (.slice none 0 0) 24 rfl Tryz.underlying35 gi37 rfl (by decide) (by decide) (.slice A nn c) xs x [.slice q8 r8 s8] (News w) (fun k => wr.heap.size ≤ k) rfl rfl ?aP ?aK (fun _ _ => trivial) ?aO (Below.refl _ _) ?aS ?aL ?_; (case aP => exact (Kd.slice 27 k28).M_lower hsz ((Kd.slice 27 k28).M_mono (fun k hk => hk.2.1) ((Kd.slice 27 k28).M_bound HM2.out))); (case aK => exact (fun k hk => ⟨trivial, fun e => absurd (Kd.R_lt HR.out k e.symm) (Nat.not_lt.2 hk)⟩)); (case aO => exact (R_ut HR.out HG2.out.ut (by decide))); (case aS => exact Nat.le_trans hsz HG2.out.ut.size); (case aL => have := HM3.out; omega); intro v3 w3 ho hb3 hg3 hat; have HO := Aside0.mk ho; have HB3 := Aside0.mk hb3; clear ho hb3 hg3 hat)
    go_wp2
    go_roundw
    case rel => exact LstG.next hgw hn HM3.out H1.out HU.out HO.out HG2.out HB3.out
    case measure => simp [intOf]; omega
   ·have heb : (e' == 0) = false := by simpa using he
    have HE := Aside0.mk he
    go_wp2
    go_ret
    exact ListG.mk HR.out (LstG.done (.inr HE.out) HRD.out HU.out H1.out)
  ·have hz := Int.le_antisymm (Int.not_lt.1 hn) hn0
   have HZ := Aside0.mk hz
   clear hz
   go_wp2
   go_ret
   exact ListG.mk HR.out (LstG.done (.inl HZ.out) HRD.out HU.out H1.out)
/-- A state. -/
def pState (l : List Int) : Rd (Int × List S121) := (pNum 1073741824 l).and (pList 64 pCellIn)
def StG (b : Nat) (w : World) (g : Nat) (e : Int) (r : Rd (Int × List S121)) (en : Ending) (w' : World) : Prop :=
 ∃ (x : Int × List S121) (v1 : Value), en = .returned (.agg #[.int .i64 x.1, v1]) ∧ k121.R 129 w' w.heap.size (News w) v1 x.2 ∧ ∃ l' e' u', GotS b w g e r x w' l' e' u'
theorem StG.mk {b : Nat} {w : World} {g : Nat} {e : Int} {r : Rd (Int × List S121)} {w' : World} (x : Int × List S121) {v1 : Value} {l' : List Int} {e' : Int} {u' : Value} (h : GotS b w g e r x w' l' e' u') (h1 : k121.R 129 w' w.heap.size (News w) v1 x.2) :
  StG b w g e r (.returned (.agg #[.int .i64 x.1, v1])) w' := ⟨x, v1, rfl, h1, l', e', u', h⟩
section
variable {b : Nat} {w : World} {g : Nat} {l : List Int} {e : Int} {u : Value}
set_option maxHeartbeats 16000000 in
theorem getState_calls (h : Rdr b w g l e u) : Calls Tryz.prog 61 #[.pointer (some ⟨g, 0, none⟩)] w (StG b w g e (pState l)) := by
 have H := Aside0.mk h
 clear h
 go_enter Tryz.func61, Tryz.ntmps61
 have HX := Aside0.mk (heap_alloc_new w (.cells #[.int .i64 0, .slice none 0 0] 30))
 have HK := Aside0.mk (GotS.pass0 (H.out) (below_alloc (Below.refl _ _) (.cells #[.int .i64 0, .slice none 0 0] 30)))
 have hX0 : w.heap.size < (w.alloc (.cells #[.int .i64 0, .slice none 0 0] 30)).heap.size := blk_lt HX.out
 go_wp2_with fail
 refine (rnumber_got HK.out.rdr 1073741824).mono ?_
 rintro en w1 ⟨n, rfl, _, _, l1, e1, u1, hg⟩
 have hsz1 := hg.ut.size
 replace HX := Aside0.mk (hg.ut.blk HX.out (by decide))
 replace HK := Aside0.mk (HK.out.bind (f := fun _ l => _) hg)
 clear hg 
 have hh : w.heap.size < w1.heap.size := blk_lt HX.out
 have HY := Aside0.mk (heap_alloc_new w1 (.cells #[.int .i64 n, .slice none 0 0] 30))
 replace HX := Aside0.mk (blk_alloc HX.out (.cells #[.int .i64 n, .slice none 0 0] 30))
 replace HK := Aside0.mk (HK.out.alloc (.cells #[.int .i64 n, .slice none 0 0] 30))
 go_wp2_with fail
 refine (getCells_calls HK.out.rdr 64 (by decide)).mono ?_
 rintro en w2 ⟨v1, xs, rfl, hR, l2, e2, u2, hg⟩
 obtain ⟨sa1, sn1, sc1, rfl⟩ : ∃ A n c, v1 = .slice A n c := (Kd.R_slice hR).elim (fun A h => h.elim (fun c h => ⟨A, _, c, h⟩))
 have hsz2 := hg.ut.size
 have HQ1 := Aside0.mk (Kd.R_lower (base' := w1.heap.size + 1) hR (by have := blk_lt HY.out; omega))
 replace HX := Aside0.mk (hg.ut.blk HX.out (by decide))
 replace HY := Aside0.mk (hg.ut.blk HY.out (by decide))
 replace HK := Aside0.mk (HK.out.and hg)
 clear hg hR
 have j0 := blk_cell HY.out 1
 have g0 := blk_frozen HY.out 1
 simp only [List.getElem?_toArray, List.getElem?_cons_succ, List.getElem?_cons_zero] at j0
 replace HK := Aside0.mk (GotS.fill (T := [30]) HK.out ((UT.refl [30] w.heap.size _).set HY.out (by simp) (by omega) 1 (.slice sa1 sn1 sc1)) (by decide) H.out.le)
 replace HQ1 := Aside0.mk (Kd.R_mono (ok' := News w) (Kd.R_far (Kd.R_bound HQ1.out) (p := ⟨w1.heap.size, 1, none⟩) (fun k hk => Nat.ne_of_gt (Nat.lt_of_succ_le hk.2.1)) (.slice sa1 sn1 sc1)) (fun _ _ => trivial))
 replace HX := Aside0.mk ((Below.heap_setCell _ ⟨w1.heap.size, 1, none⟩ (.slice sa1 sn1 sc1) w.heap.size (show w.heap.size ≠ w1.heap.size by omega)).trans HX.out)
 replace HY := Aside0.mk (blk_set (i := 1) (v := .slice sa1 sn1 sc1) HY.out)
 replace HY := Aside0.mk (show (w2.setCell ⟨w1.heap.size, 1, none⟩ (.slice sa1 sn1 sc1)).heap[w1.heap.size]? = some (.cells #[.int .i64 n, .slice sa1 sn1 sc1] 30 (0, 0)) from HY.out)
 have n0 := blk_cell HX.out 0
 have f0 := blk_frozen HX.out 0
 have n1 := blk_cell HX.out 1
 have f1 := blk_frozen HX.out 1
 have k0 := blk_cell HY.out 0
 have k1 := blk_cell HY.out 1
 simp only [List.getElem?_toArray, List.getElem?_cons_succ, List.getElem?_cons_zero] at n0 n1 k0 k1
 have hb4 := blk_lt HX.out
 obtain ⟨hW1, hW2, hW3⟩ := filln HX.out [.int .i64 n, .slice sa1 sn1 sc1] rfl
 have HF := Aside0.mk hW2
 have HT := Aside0.mk hW3
 have HG := Aside0.mk hW1
 clear hW1 hW2 hW3
 go_wp2
 (try simp only [Exit.inBlock, Exit.then])
 refine bodyPost_ret (results_cell_row rfl _ _ w.heap.size 30 _ (0, 0) _ rfl HG.out Tryz.underlying30 rfl size31) rfl ?_
 have hQ1 := Kd.R_lower (base' := w.heap.size) (Kd.R_mono (ok' := News w) (Kd.R_move (Kd.R_bound HQ1.out) (fun q hq => HF.out q (by have := hq.2.1; omega))) (fun _ _ => trivial)) (by omega)
 have hgot := GotS.fill HK.out HT.out (by decide) H.out.le
 exact StG.mk (n, xs) hgot hQ1
end
end Go.Proofs.YthmkioodkldgbaaGreat.DK
