/- wire.getCell, the lists of rows and of cells; conditions: those in each theorem. -/
import Derived.Test.YthmkioodkldgbaaGreatQcM20
namespace Go.Proofs.YthmkioodkldgbaaGreat.DK
open Go.Proofs.YthmkioodkldgbaaGreat.PD
open Go.RowKit Go.Proofs.YthmkioodkldgbaaGreatW.PrintWords Go.Proofs.YthmkioodkldgbaaGreatW.PrintLast Go.Proofs.YthmkioodkldgbaaGreatW.PrintMore
set_option linter.unusedVariables false
set_option linter.unusedSimpArgs false
set_option maxRecDepth 100000
set_option maxHeartbeats 8000000 in
theorem getRows_calls {b : Nat} {w : World} {g : Nat} {l : List Int} {e : Int} {u : Value} (h : Rdr b w g l e u) (most : Int) (hm : most ≤ 1000) :
  Calls Tryz.prog 111 #[.pointer (some ⟨g, 0, none⟩), .int .i64 most, .func (.func 112) #[] #[]] w (ListG (k108) 111 b w g e (pList most (fun _ => pRow1) l)) := by
 have H := Aside0.mk h
 have hgw := blk_lt h.box
 clear h 
 go_enter Tryz.func111, Tryz.ntmps111
 go_wp2_with fail
 refine (rnumber_got H.out most).mono ?_
 rintro en w1 ⟨n, rfl, hn0, hn1, l1, e1, u1, h1⟩
 have HS := Aside0.mk (LstG.start (d := k108) (ty := 111) (p := fun _ => pRow1) h1 hn0 hn1)
 clear h1 hn0 hn1
 go_wp2
 go_loopw [7, 8] (fun u nv wr => LstG (k108) 111 b w g e most (fun _ => pRow1) (pList most (fun _ => pRow1) l) u nv wr) (fun _ nv _ => (intOf nv).toNat)
 case atStart => exact HS.out
 case round =>
  obtain ⟨xs, n, l', e', u', rfl, hn0, hmm, hR, hr, hu, h1⟩ := hrel
  have m1 := blk_cell hr.box 1
  simp only [List.getElem?_toArray, List.getElem?_cons_succ, List.getElem?_cons_zero] at m1
  have hgr := blk_lt hr.box
  obtain ⟨A, nn, c, rfl⟩ : ∃ A n c, u7 = .slice A n c := (Kd.R_slice hR).elim (fun A h => h.elim (fun c h => ⟨A, _, c, h⟩))
  have HR := Aside0.mk hR
  have HRD := Aside0.mk hr
  have HU := Aside0.mk hu
  have H1 := Aside0.mk h1
  have HMM := Aside0.mk hmm
  clear hR hr hu h1 hmm
  by_cases hn : n > 0
  ·by_cases he : e' = 0
   ·subst he
    have HM3 := Aside0.mk (show (xs.length : Int) + n ≤ most by have := HMM.out; omega)
    have hn9 : n ≤ 1000 := by have := HM3.out; omega
    have hsz := HU.out.size
    go_wp2_with fail
    refine (getRow1_calls HRD.out _).mono ?_
    rintro en w2 ⟨x, rfl, l2, e2, u2, hg⟩
    have hx := k108_mkM w2 wr.heap.size (News w) x
    have HG2 := Aside0.mk hg
    have HM2 := Aside0.mk hx
    clear hg hx
    go_wp2_with ((with_reducible refine gate_builtin (b := .append) (xs := #[.tmp 23, .tmp 28]) rfl ?_); at_builtin; refine Kd.R_append (k108) (w0 := w2) (W := w2) w.heap.size rfl (.tmp 23) (.tmp 28) 39 111 (.agg #[.int .i64 0, .int .u32 0]) 16 rfl Tryz.underlying39 gi108 rfl (by decide) (by decide) (.slice A nn c) xs x [.int .i64 x.f0, .int .u32 x.f1] (News w) (fun k => wr.heap.size ≤ k) rfl rfl ?aP ?aK (fun _ _ => trivial) ?aO (Below.refl _ _) ?aS ?aL ?_; (case aP => exact (k108).M_lower hsz ((k108).M_mono (fun k hk => hk.2.1) ((k108).M_bound HM2.out))); (case aK => exact (fun k hk => ⟨trivial, fun e => absurd (Kd.R_lt HR.out k e.symm) (Nat.not_lt.2 hk)⟩)); (case aO => exact (R_ut HR.out HG2.out.ut (by decide))); (case aS => exact Nat.le_trans hsz HG2.out.ut.size); (case aL => have := HM3.out; omega); intro v3 w3 ho hb3 hg3 hat; have HO := Aside0.mk ho; have HB3 := Aside0.mk hb3; clear ho hb3 hg3 hat)
    go_wp2
    go_roundw
    case rel => exact LstG.next hgw hn HM3.out H1.out HU.out HO.out HG2.out HB3.out
    case measure => simp [intOf]; omega
   ·have heb : (e' == 0) = false := by simpa using he
    have HE := Aside0.mk he
    go_wp2
    go_ret
    exact ListG.mk HR.out (LstG.done (.inr HE.out) HRD.out HU.out H1.out)
  ·have hz := Int.le_antisymm (Int.not_lt.1 hn) hn0
   have HZ := Aside0.mk hz
   clear hz
   go_wp2
   go_ret
   exact ListG.mk HR.out (LstG.done (.inl HZ.out) HRD.out HU.out H1.out)
theorem size121 : (Tryz.prog.info? 129).map (·.size) = some 2 := by kernel_rfl
/-- A cell of a list. -/
def pCellIn (xs : List S121) (l : List Int) : Rd S121 := (pKey l).bind fun k l1 => (pAfter (xs.getLast?.map (·.f0)) k l1).bind fun k l2 => (pList 6 (fun _ => pVal) l2).map fun vs => ⟨k, vs⟩
def CellG (b : Nat) (w : World) (g : Nat) (e : Int) (r : Rd S121) (en : Ending) (w' : World) : Prop :=
 ∃ (x : S121) (v1 : Value), en = .returned (.agg #[.string x.f0, v1]) ∧ k25.R 24 w' w.heap.size (News w) v1 x.f1 ∧ ∃ l' e' u', GotS b w g e r x w' l' e' u'
theorem CellG.mk {b : Nat} {w : World} {g : Nat} {e : Int} {r : Rd S121} {w' : World} (x : S121) {v1 : Value} {l' : List Int} {e' : Int} {u' : Value} (h : GotS b w g e r x w' l' e' u') (hR : k25.R 24 w' w.heap.size (News w) v1 x.f1) : CellG b w g e r (.returned (.agg #[.string x.f0, v1])) w' := ⟨x, v1, rfl, hR, l', e', u', h⟩
theorem bind_assoc {α β γ : Type} (r : Rd α) (f : α → List Int → Rd β) (h : β → List Int → Rd γ) : (r.bind f).bind h = r.bind fun a l => (f a l).bind h := by cases r <;> rfl
section
variable {b : Nat} {w : World} {g : Nat} {l : List Int} {e : Int} {u : Value}
set_option maxHeartbeats 16000000 in
theorem getCell_calls (h : Rdr b w g l e u) (xs : List S121) {B : Nat} {ok : Nat → Prop} {lv : Value} (hx : k121.R 129 w B ok lv xs) (hm : xs.length ≤ 1000) : Calls Tryz.prog 103 #[.pointer (some ⟨g, 0, none⟩), lv] w (CellG b w g e (pCellIn xs l)) := by
 have H := Aside0.mk h
 have hgw := blk_lt h.box
 have HR := Aside0.mk hx
 obtain ⟨A, c, rfl, hc, _⟩ := Kd.R_reads hx
 clear h hx
 go_enter Tryz.func103, Tryz.ntmps103
 go_wp2_with fail
 refine (rkey_got (H.out.below (below_alloc (Below.refl _ _) _))).mono ?_
 rintro en w1 ⟨k, rfl, l1, e1, u1, hg⟩
 have HX1 := Aside0.mk (hg.ut.blk (heap_alloc_new w _) (by decide))
 have HR1 := Aside0.mk (R_ut (Kd.R_below HR.out (below_alloc (Below.refl _ _) _)) hg.ut (by decide))
 have HG1 := Aside0.mk (hg.from_ (below_alloc (Below.refl _ _) _))
 clear hg
 go_wp2
 have hY := heap_alloc_new w1 (.cells #[.string k, .slice none 0 0] 129)
 have hb1 : Below w1.heap.size w1 (w1.alloc (.cells #[.string k, .slice none 0 0] 129)) := below_alloc (Below.refl _ _) _
 have HG2 := Aside0.mk (HG1.out.below hb1)
 have HR2 := Aside0.mk (Kd.R_below HR1.out hb1)
 have HX2 := Aside0.mk ((hb1.block _ (blk_lt HX1.out)).trans HX1.out)
 have HY2 := Aside0.mk hY
 have hlt1 := blk_lt HX1.out
 clear hY hb1
 generalize w1.alloc (.cells #[.string k, .slice none 0 0] 129) = W2 at *
 generalize w1.heap.size = h5 at *
 have m1 := blk_cell HG2.out.rdr.box 1
 have m5 := blk_cell HY2.out 0
 simp only [List.getElem?_toArray, List.getElem?_cons_succ, List.getElem?_cons_zero] at m1 m5
 have hg1 := blk_lt HG2.out.rdr.box

 by_cases hx : 0 < xs.length
 ·have hxi : (xs.length : Int) > 0 := by omega
  by_cases he : e1 = 0
  ·subst he
   obtain ⟨A', c', ee, hc', hC⟩ := Kd.R_reads HR2.out
   injection ee with e1 e2 e3
   subst e1 e3
   obtain ⟨ad, A1, c1, rfl, d0, d1, _, _⟩ := (In.mk hC (Nat.le_refl _)).at121 (i := xs.length - 1) (by omega)
   have hw1 := w64p (i := xs.length) hx (by omega)
   have hlast := last_get hx
   generalize xs[xs.length - 1] = q at *
   have HB := Aside0.mk (show late (xs.getLast?.map (·.f0)) k = !less q.f0 k by rw [hlast]; rfl)
   have hidx : ((xs.length : Int) - 1) = ((xs.length - 1 : Nat) : Int) := by omega
   clear hlast hC d1
   by_cases hb : Op.bytesLess q.f0.toList k.toList = true
   ·have HBB := Aside0.mk hb
    go_quiet (fail)
    have HGd := Aside0.mk (HG2.out.drewN nq)
    have HXd := Aside0.mk (show (W2.drewN nq).heap[w.heap.size]? = _ from HX2.out)
    have HYd := Aside0.mk (show (W2.drewN nq).heap[h5]? = _ from HY2.out)
    clear m1 m5 d0
    generalize W2.drewN nq = Wd at *
    have HGc := HGd
    have HXc := HXd
    have HYc := HYd
    have m5 := blk_cell HYc.out 0
    have f5 := blk_frozen HYc.out 1
    have j5 := blk_cell HYc.out 1
    simp only [List.getElem?_toArray, List.getElem?_cons_succ, List.getElem?_cons_zero] at m5 j5
    have hlt5 := blk_lt HYc.out
    go_wp2_with fail
    refine (getValues_calls HGc.out.rdr 6 (by decide)).mono ?_
    rintro en w5 ⟨v5, vs, rfl, hR5, l5, e5, u5, hg5⟩
    obtain ⟨A6, n6, c6, rfl⟩ : ∃ A n c, v5 = .slice A n c := (Kd.R_slice hR5).elim (fun A h => h.elim (fun c h => ⟨A, _, c, h⟩))
    have hszc := hg5.ut.size
    have HR5 := Aside0.mk hR5
    have HG5 := Aside0.mk hg5
    have HX5 := Aside0.mk (hg5.ut.blk HXc.out (by decide))
    have HY5 := Aside0.mk (hg5.ut.blk HYc.out (by decide))
    clear hR5 hg5
    have HY6 := Aside0.mk (blk_set (i := 1) (v := .slice A6 n6 c6) HY5.out)
    have HX6 := Aside0.mk ((Below.heap_setCell w5 ⟨h5, 1, none⟩ (.slice A6 n6 c6) w.heap.size (show w.heap.size ≠ h5 by omega)).trans HX5.out)
    have HU6 := Aside0.mk ((UT.refl [129] w.heap.size w5).set HY5.out (by simp) (by omega) 1 (.slice A6 n6 c6))
    clear m5 f5 j5
    have q5 := blk_cell HY5.out 1
    have y5 := blk_frozen HY5.out 1
    simp only [List.getElem?_toArray, List.getElem?_cons_succ, List.getElem?_cons_zero] at q5
    have n0 := blk_cell HX6.out 0
    have f0 := blk_frozen HX6.out 0
    have n1 := blk_cell HX6.out 1
    have f1 := blk_frozen HX6.out 1
    have k0 := blk_cell HY6.out 0
    have k1 := blk_cell HY6.out 1
    simp only [List.getElem?_toArray, List.getElem?_cons_succ, List.getElem?_cons_zero] at n0 n1 k0 k1
    have hb4 := blk_lt HX6.out
    obtain ⟨hW1, hW2, hW3⟩ := filln HX6.out [.string k, .slice A6 n6 c6] rfl
    have HF := Aside0.mk hW2
    have HT := Aside0.mk hW3
    have HG := Aside0.mk hW1
    clear hW1 hW2 hW3
    go_wp2
    (try simp only [Exit.inBlock, Exit.then])
    refine bodyPost_ret (results_cell_row rfl _ _ w.heap.size 129 _ (0, 0) _ rfl HG.out Tryz.underlying129 rfl size121) rfl ?_
    have hRf : k25.R 24 _ w.heap.size (News w) (.slice A6 n6 c6) vs := Kd.R_lower (Kd.R_mono (Kd.R_move (Kd.R_bound HR5.out) (fun q hq => (HF.out q (by have := hq.2.1; omega)).trans (Below.heap_setCell w5 ⟨h5, 1, none⟩ (.slice A6 n6 c6) q (show q ≠ h5 by have := hq.2.1; omega)))) (fun _ _ => trivial)) (by omega)
    exact CellG.mk ⟨k, vs⟩ (GotS.fill (T := [129]) (by rw [pCellIn, ← bind_assoc]; exact (HGc.out.bind (GotS.pass HGc.out.rdr (fun _ => by rw [pAfter, HB.out, less, HBB.out]; rfl))).bind (HG5.out.map (f := fun vs => (⟨k, vs⟩ : S121)))) (HU6.out.trans HT.out) (by decide) H.out.le) hRf
   ·have hbf : Op.bytesLess q.f0.toList k.toList = false := by simpa using hb
    have HBB := Aside0.mk hbf
    go_quiet (fail)
    have HGd := Aside0.mk (HG2.out.drewN nq)
    have HXd := Aside0.mk (show (W2.drewN nq).heap[w.heap.size]? = _ from HX2.out)
    have HYd := Aside0.mk (show (W2.drewN nq).heap[h5]? = _ from HY2.out)
    clear m1 m5 d0
    generalize W2.drewN nq = Wd at *
    go_wp2_with fail
    refine (rfail_calls HGd.out.rdr 42).mono ?_
    rintro en w3 ⟨rfl, hf⟩
    obtain ⟨l2, e2, u2, hgf⟩ := GotS.failed (r := pAfter (xs.getLast?.map (·.f0)) k l1) (x := k) hf (by decide) (by rw [pAfter, HB.out, less, HBB.out]; rfl)
    have HGc := Aside0.mk hgf
    have HGe := Aside0.mk (HGd.out.bind (f := fun k l2 => pAfter (xs.getLast?.map (·.f0)) k l2) hgf)
    have HXc := Aside0.mk (hgf.ut.blk HXd.out (by decide))
    have HYc := Aside0.mk (hgf.ut.blk HYd.out (by decide))
    clear hgf hf
    have m5 := blk_cell HYc.out 0
    have f5 := blk_frozen HYc.out 1
    have j5 := blk_cell HYc.out 1
    simp only [List.getElem?_toArray, List.getElem?_cons_succ, List.getElem?_cons_zero] at m5 j5
    have hlt5 := blk_lt HYc.out
    go_wp2_with fail
    refine (getValues_calls HGc.out.rdr 6 (by decide)).mono ?_
    rintro en w5 ⟨v5, vs, rfl, hR5, l5, e5, u5, hg5⟩
    obtain ⟨A6, n6, c6, rfl⟩ : ∃ A n c, v5 = .slice A n c := (Kd.R_slice hR5).elim (fun A h => h.elim (fun c h => ⟨A, _, c, h⟩))
    have hszc := hg5.ut.size
    have HR5 := Aside0.mk hR5
    have HG5 := Aside0.mk hg5
    have HX5 := Aside0.mk (hg5.ut.blk HXc.out (by decide))
    have HY5 := Aside0.mk (hg5.ut.blk HYc.out (by decide))
    clear hR5 hg5
    have HY6 := Aside0.mk (blk_set (i := 1) (v := .slice A6 n6 c6) HY5.out)
    have HX6 := Aside0.mk ((Below.heap_setCell w5 ⟨h5, 1, none⟩ (.slice A6 n6 c6) w.heap.size (show w.heap.size ≠ h5 by omega)).trans HX5.out)
    have HU6 := Aside0.mk ((UT.refl [129] w.heap.size w5).set HY5.out (by simp) (by omega) 1 (.slice A6 n6 c6))
    clear m5 f5 j5
    have q5 := blk_cell HY5.out 1
    have y5 := blk_frozen HY5.out 1
    simp only [List.getElem?_toArray, List.getElem?_cons_succ, List.getElem?_cons_zero] at q5
    have n0 := blk_cell HX6.out 0
    have f0 := blk_frozen HX6.out 0
    have n1 := blk_cell HX6.out 1
    have f1 := blk_frozen HX6.out 1
    have k0 := blk_cell HY6.out 0
    have k1 := blk_cell HY6.out 1
    simp only [List.getElem?_toArray, List.getElem?_cons_succ, List.getElem?_cons_zero] at n0 n1 k0 k1
    have hb4 := blk_lt HX6.out
    obtain ⟨hW1, hW2, hW3⟩ := filln HX6.out [.string k, .slice A6 n6 c6] rfl
    have HF := Aside0.mk hW2
    have HT := Aside0.mk hW3
    have HG := Aside0.mk hW1
    clear hW1 hW2 hW3
    go_wp2
    (try simp only [Exit.inBlock, Exit.then])
    refine bodyPost_ret (results_cell_row rfl _ _ w.heap.size 129 _ (0, 0) _ rfl HG.out Tryz.underlying129 rfl size121) rfl ?_
    have hRf : k25.R 24 _ w.heap.size (News w) (.slice A6 n6 c6) vs := Kd.R_lower (Kd.R_mono (Kd.R_move (Kd.R_bound HR5.out) (fun q hq => (HF.out q (by have := hq.2.1; omega)).trans (Below.heap_setCell w5 ⟨h5, 1, none⟩ (.slice A6 n6 c6) q (show q ≠ h5 by have := hq.2.1; omega)))) (fun _ _ => trivial)) (by omega)
    exact CellG.mk ⟨k, vs⟩ (GotS.fill (T := [129]) (by rw [pCellIn, ← bind_assoc]; exact (HGe.out).bind (HG5.out.map (f := fun vs => (⟨k, vs⟩ : S121)))) (HU6.out.trans HT.out) (by decide) H.out.le) hRf
  ·have heb : (e1 == 0) = false := by simpa using he
   have HE := Aside0.mk he
   go_quiet (fail)
   have HGc := Aside0.mk (HG2.out.drewN nq)
   have HXc := Aside0.mk (show (W2.drewN nq).heap[w.heap.size]? = _ from HX2.out)
   have HYc := Aside0.mk (show (W2.drewN nq).heap[h5]? = _ from HY2.out)
   clear m1 m5
   generalize W2.drewN nq = Wc at *
   have m5 := blk_cell HYc.out 0
   have f5 := blk_frozen HYc.out 1
   have j5 := blk_cell HYc.out 1
   simp only [List.getElem?_toArray, List.getElem?_cons_succ, List.getElem?_cons_zero] at m5 j5
   have hlt5 := blk_lt HYc.out
   go_wp2_with fail
   refine (getValues_calls HGc.out.rdr 6 (by decide)).mono ?_
   rintro en w5 ⟨v5, vs, rfl, hR5, l5, e5, u5, hg5⟩
   obtain ⟨A6, n6, c6, rfl⟩ : ∃ A n c, v5 = .slice A n c := (Kd.R_slice hR5).elim (fun A h => h.elim (fun c h => ⟨A, _, c, h⟩))
   have hszc := hg5.ut.size
   have HR5 := Aside0.mk hR5
   have HG5 := Aside0.mk hg5
   have HX5 := Aside0.mk (hg5.ut.blk HXc.out (by decide))
   have HY5 := Aside0.mk (hg5.ut.blk HYc.out (by decide))
   clear hR5 hg5
   have HY6 := Aside0.mk (blk_set (i := 1) (v := .slice A6 n6 c6) HY5.out)
   have HX6 := Aside0.mk ((Below.heap_setCell w5 ⟨h5, 1, none⟩ (.slice A6 n6 c6) w.heap.size (show w.heap.size ≠ h5 by omega)).trans HX5.out)
   have HU6 := Aside0.mk ((UT.refl [129] w.heap.size w5).set HY5.out (by simp) (by omega) 1 (.slice A6 n6 c6))
   clear m5 f5 j5
   have q5 := blk_cell HY5.out 1
   have y5 := blk_frozen HY5.out 1
   simp only [List.getElem?_toArray, List.getElem?_cons_succ, List.getElem?_cons_zero] at q5
   have n0 := blk_cell HX6.out 0
   have f0 := blk_frozen HX6.out 0
   have n1 := blk_cell HX6.out 1
   have f1 := blk_frozen HX6.out 1
   have k0 := blk_cell HY6.out 0
   have k1 := blk_cell HY6.out 1
   simp only [List.getElem?_toArray, List.getElem?_cons_succ, List.getElem?_cons_zero] at n0 n1 k0 k1
   have hb4 := blk_lt HX6.out
   obtain ⟨hW1, hW2, hW3⟩ := filln HX6.out [.string k, .slice A6 n6 c6] rfl
   have HF := Aside0.mk hW2
   have HT := Aside0.mk hW3
   have HG := Aside0.mk hW1
   clear hW1 hW2 hW3
   go_wp2
   (try simp only [Exit.inBlock, Exit.then])
   refine bodyPost_ret (results_cell_row rfl _ _ w.heap.size 129 _ (0, 0) _ rfl HG.out Tryz.underlying129 rfl size121) rfl ?_
   have hRf : k25.R 24 _ w.heap.size (News w) (.slice A6 n6 c6) vs := Kd.R_lower (Kd.R_mono (Kd.R_move (Kd.R_bound HR5.out) (fun q hq => (HF.out q (by have := hq.2.1; omega)).trans (Below.heap_setCell w5 ⟨h5, 1, none⟩ (.slice A6 n6 c6) q (show q ≠ h5 by have := hq.2.1; omega)))) (fun _ _ => trivial)) (by omega)
   exact CellG.mk ⟨k, vs⟩ (GotS.fill (T := [129]) (by rw [pCellIn, ← bind_assoc]; exact (HGc.out.bind (GotS.pass HGc.out.rdr (fun h => absurd h HE.out))).bind (HG5.out.map (f := fun vs => (⟨k, vs⟩ : S121)))) (HU6.out.trans HT.out) (by decide) H.out.le) hRf
 ·have hx0 : ¬ (xs.length : Int) > 0 := by omega
  have HX := Aside0.mk (show xs = [] from List.eq_nil_of_length_eq_zero (by omega))
  go_quiet (fail)
  have HGc := Aside0.mk (HG2.out.drewN nq)
  have HXc := Aside0.mk (show (W2.drewN nq).heap[w.heap.size]? = _ from HX2.out)
  have HYc := Aside0.mk (show (W2.drewN nq).heap[h5]? = _ from HY2.out)
  have hcs : W2.heap.size ≤ (W2.drewN nq).heap.size := Nat.le_refl _
  generalize W2.drewN nq = Wc at *
  have m5 := blk_cell HYc.out 0
  have f5 := blk_frozen HYc.out 1
  have j5 := blk_cell HYc.out 1
  simp only [List.getElem?_toArray, List.getElem?_cons_succ, List.getElem?_cons_zero] at m5 j5
  have hlt5 := blk_lt HYc.out
  go_wp2_with fail
  refine (getValues_calls HGc.out.rdr 6 (by decide)).mono ?_
  rintro en w5 ⟨v5, vs, rfl, hR5, l5, e5, u5, hg5⟩
  obtain ⟨A6, n6, c6, rfl⟩ : ∃ A n c, v5 = .slice A n c := (Kd.R_slice hR5).elim (fun A h => h.elim (fun c h => ⟨A, _, c, h⟩))
  have hszc := hg5.ut.size
  have HR5 := Aside0.mk hR5
  have HG5 := Aside0.mk hg5
  have HX5 := Aside0.mk (hg5.ut.blk HXc.out (by decide))
  have HY5 := Aside0.mk (hg5.ut.blk HYc.out (by decide))
  clear hR5 hg5
  have HY6 := Aside0.mk (blk_set (i := 1) (v := .slice A6 n6 c6) HY5.out)
  have HX6 := Aside0.mk ((Below.heap_setCell w5 ⟨h5, 1, none⟩ (.slice A6 n6 c6) w.heap.size (show w.heap.size ≠ h5 by omega)).trans HX5.out)
  have HU6 := Aside0.mk ((UT.refl [129] w.heap.size w5).set HY5.out (by simp) (by omega) 1 (.slice A6 n6 c6))
  clear m5 f5 j5
  have q5 := blk_cell HY5.out 1
  have y5 := blk_frozen HY5.out 1
  simp only [List.getElem?_toArray, List.getElem?_cons_succ, List.getElem?_cons_zero] at q5
  have n0 := blk_cell HX6.out 0
  have f0 := blk_frozen HX6.out 0
  have n1 := blk_cell HX6.out 1
  have f1 := blk_frozen HX6.out 1
  have k0 := blk_cell HY6.out 0
  have k1 := blk_cell HY6.out 1
  simp only [List.getElem?_toArray, List.getElem?_cons_succ, List.getElem?_cons_zero] at n0 n1 k0 k1
  have hb4 := blk_lt HX6.out
  obtain ⟨hW1, hW2, hW3⟩ := filln HX6.out [.string k, .slice A6 n6 c6] rfl
  have HF := Aside0.mk hW2
  have HT := Aside0.mk hW3
  have HG := Aside0.mk hW1
  clear hW1 hW2 hW3
  go_wp2
  (try simp only [Exit.inBlock, Exit.then])
  refine bodyPost_ret (results_cell_row rfl _ _ w.heap.size 129 _ (0, 0) _ rfl HG.out Tryz.underlying129 rfl size121) rfl ?_
  have hRf : k25.R 24 _ w.heap.size (News w) (.slice A6 n6 c6) vs := Kd.R_lower (Kd.R_mono (Kd.R_move (Kd.R_bound HR5.out) (fun q hq => (HF.out q (by have := hq.2.1; omega)).trans (Below.heap_setCell w5 ⟨h5, 1, none⟩ (.slice A6 n6 c6) q (show q ≠ h5 by have := hq.2.1; omega)))) (fun _ _ => trivial)) (by omega)
  exact CellG.mk ⟨k, vs⟩ (GotS.fill (T := [129]) (by rw [pCellIn, ← bind_assoc]; exact (HGc.out.bind (GotS.pass HGc.out.rdr (fun _ => by rw [HX.out]; rfl))).bind (HG5.out.map (f := fun vs => (⟨k, vs⟩ : S121)))) (HU6.out.trans HT.out) (by decide) H.out.le) hRf
end
end Go.Proofs.YthmkioodkldgbaaGreat.DK
