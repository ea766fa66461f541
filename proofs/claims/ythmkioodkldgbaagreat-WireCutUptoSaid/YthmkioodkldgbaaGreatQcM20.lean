/- wire.getLoop, getValue, getKey, the lists of these, and of rows; conditions: those in each theorem. -/
import Derived.Test.YthmkioodkldgbaaGreatQcM19
namespace Go.Proofs.YthmkioodkldgbaaGreat.DK
open Go.Proofs.YthmkioodkldgbaaGreat.PD
open Go.RowKit Go.Proofs.YthmkioodkldgbaaGreatW.PrintWords Go.Proofs.YthmkioodkldgbaaGreatW.PrintLast Go.Proofs.YthmkioodkldgbaaGreatW.PrintMore
set_option linter.unusedVariables false
set_option linter.unusedSimpArgs false
set_option maxRecDepth 100000
theorem gi9 : (Tryz.prog.info? 9).map (fun i => (i.zero, i.size, i.bytes)) = some (some (.string ⟨#[]⟩), 1, 16) := by kernel_rfl
theorem gi108 : (Tryz.prog.info? 111).map (fun i => (i.zero, i.size, i.bytes)) = some (some (.agg #[.int .i64 0, .int .u32 0]), 2, 16) := by kernel_rfl
theorem gi121 : (Tryz.prog.info? 129).map (fun i => (i.zero, i.size, i.bytes)) = some (some (.agg #[.string ⟨#[]⟩, .slice none 0 0]), 2, 40) := by kernel_rfl
theorem gi28 : (Tryz.prog.info? 27).map (fun i => (i.zero, i.size, i.bytes)) = some (some (.agg #[.string ⟨#[]⟩, .int .i64 0, .int .i64 0, .string ⟨#[]⟩, .slice none 0 0, .slice none 0 0]), 6, 96) := by kernel_rfl
theorem gi37 : (Tryz.prog.info? 36).map (fun i => (i.zero, i.size, i.bytes)) = some (some (.slice none 0 0), 1, 24) := by kernel_rfl
/-- The cells of block B filled one by one, from the i-th on. -/
def sets (w : World) (B : Nat) : Nat → List Value → World
 | _, [] => w
 | i, v :: vs => sets (w.setCell ⟨B, i, none⟩ v) B (i + 1) vs
theorem sets_at {B t : Nat} : ∀ (vs : List Value) (i : Nat) (w : World) (cs : Array Value), w.heap[B]? = some (.cells cs t (0, 0)) → cs.size = i + vs.length → (sets w B i vs).heap[B]? = some (.cells (cs.toList.take i ++ vs).toArray t (0, 0))
 | [], i, w, cs, h, hs => by
  rw [sets, h, List.append_nil, List.take_of_length_le (by simp at hs ⊢; omega)]
 | v :: vs, i, w, cs, h, hs => by
  rw [sets, sets_at vs (i + 1) _ _ (blk_set h) (by simp at hs ⊢; omega)]
  have e : (cs.setIfInBounds i v).toList.take (i + 1) = cs.toList.take i ++ [v] := by
   rw [Array.toList_setIfInBounds, List.take_set, List.take_succ_eq_append_getElem (by simp at hs ⊢; omega), List.set_append_right _ _ (by simp; omega)]
   simp at hs ⊢
   rw [Nat.min_eq_left (by omega), Nat.sub_self]
   simp
  rw [e]
  simp
theorem sets_off {B : Nat} : ∀ (vs : List Value) (i : Nat) (w : World) (k : Nat), k ≠ B → (sets w B i vs).heap[k]? = w.heap[k]?
 | [], i, w, k, hk => rfl
 | v :: vs, i, w, k, hk => by rw [sets, sets_off vs (i + 1) _ k hk, Below.heap_setCell _ _ _ k hk]
theorem sets_ut {B t : Nat} : ∀ (vs : List Value) (i : Nat) (w : World) (cs : Array Value), w.heap[B]? = some (.cells cs t (0, 0)) → UT [t] B w (sets w B i vs)
 | [], i, w, cs, h => UT.refl _ _ _
 | v :: vs, i, w, cs, h => ((UT.refl [t] B w).set h (by simp) (Nat.le_refl _) i v).trans (sets_ut vs (i + 1) _ _ (blk_set h))
/-- A block filled whole. -/
theorem filln {w : World} {B t : Nat} {cs : Array Value} (h : w.heap[B]? = some (.cells cs t (0, 0))) (vs : List Value) (hs : cs.size = vs.length) :
  (sets w B 0 vs).heap[B]? = some (.cells vs.toArray t (0, 0)) ∧ (∀ k, k ≠ B → (sets w B 0 vs).heap[k]? = w.heap[k]?) ∧ UT [t] B w (sets w B 0 vs) :=
 ⟨by have := sets_at vs 0 w cs h (by omega); simpa using this, fun k hk => sets_off vs 0 w k hk, sets_ut vs 0 w cs h⟩
section
variable {b : Nat} {w : World} {g : Nat} {l : List Int} {e : Int} {u : Value}
set_option maxHeartbeats 4000000 in
theorem getLoop_calls (h : Rdr b w g l e u) (v : Value) : Calls Tryz.prog 116 #[.pointer (some ⟨g, 0, none⟩), v] w (NumG b w g e 9 l) := by
 have H := Aside0.mk h
 clear h
 go_enter Tryz.func116, Tryz.ntmps116
 go_wp2_with fail
 refine (rnumber_got H.out 9).mono ?_
 rintro en w1 ⟨n, rfl, hn⟩
 have HN := Aside0.mk hn
 clear hn
 go_wp2
 go_ret
 exact ⟨n, rfl, HN.out⟩
end
set_option maxHeartbeats 8000000 in
theorem getLoops_calls {b : Nat} {w : World} {g : Nat} {l : List Int} {e : Int} {u : Value} (h : Rdr b w g l e u) (most : Int) (hm : most ≤ 1000) :
  Calls Tryz.prog 115 #[.pointer (some ⟨g, 0, none⟩), .int .i64 most, .func (.func 116) #[] #[]] w (ListG (Kd.int .i64) 3 b w g e (pList most (fun _ => pNum 9) l)) := by
 have H := Aside0.mk h
 have hgw := blk_lt h.box
 clear h 
 go_enter Tryz.func115, Tryz.ntmps115
 go_wp2_with fail
 refine (rnumber_got H.out most).mono ?_
 rintro en w1 ⟨n, rfl, hn0, hn1, l1, e1, u1, h1⟩
 have HS := Aside0.mk (LstG.start (d := Kd.int .i64) (ty := 3) (p := fun _ => pNum 9) h1 hn0 hn1)
 clear h1 hn0 hn1
 go_wp2
 go_loopw [7, 8] (fun u nv wr => LstG (Kd.int .i64) 3 b w g e most (fun _ => pNum 9) (pList most (fun _ => pNum 9) l) u nv wr) (fun _ nv _ => (intOf nv).toNat)
 case atStart => exact HS.out
 case round =>
  obtain ⟨xs, n, l', e', u', rfl, hn0, hmm, hR, hr, hu, h1⟩ := hrel
  have m1 := blk_cell hr.box 1
  simp only [List.getElem?_toArray, List.getElem?_cons_succ, List.getElem?_cons_zero] at m1
  have hgr := blk_lt hr.box
  obtain ⟨A, nn, c, rfl⟩ : ∃ A n c, u7 = .slice A n c := (Kd.R_slice hR).elim (fun A h => h.elim (fun c h => ⟨A, _, c, h⟩))
  have HR := Aside0.mk hR
  have HRD := Aside0.mk hr
  have HU := Aside0.mk hu
  have H1 := Aside0.mk h1
  have HMM := Aside0.mk hmm
  clear hR hr hu h1 hmm
  by_cases hn : n > 0
  ·by_cases he : e' = 0
   ·subst he
    have HM3 := Aside0.mk (show (xs.length : Int) + n ≤ most by have := HMM.out; omega)
    have hn9 : n ≤ 1000 := by have := HM3.out; omega
    have hsz := HU.out.size
    go_wp2_with fail
    refine (getLoop_calls HRD.out _).mono ?_
    rintro en w2 ⟨x, rfl, _, _, l2, e2, u2, hg⟩
    have hx : (Kd.int .i64).M w2 wr.heap.size (News w) x [.int .i64 x] := rfl
    have HG2 := Aside0.mk hg
    have HM2 := Aside0.mk hx
    clear hg hx
    go_wp2_with ((with_reducible refine gate_builtin (b := .append) (xs := #[.tmp 23, .tmp 28]) rfl ?_); at_builtin; refine Kd.R_append (Kd.int .i64) (w0 := w2) (W := w2) w.heap.size rfl (.tmp 23) (.tmp 28) 25 3 (.int .i64 0) 8 rfl Tryz.underlying25 info3 rfl (by decide) (by decide) (.slice A nn c) xs x [.int .i64 x] (News w) (fun k => wr.heap.size ≤ k) rfl rfl ?aP ?aK (fun _ _ => trivial) ?aO (Below.refl _ _) ?aS ?aL ?_; (case aP => exact (Kd.int .i64).M_lower hsz ((Kd.int .i64).M_mono (fun k hk => hk.2.1) ((Kd.int .i64).M_bound HM2.out))); (case aK => exact (fun k hk => ⟨trivial, fun e => absurd (Kd.R_lt HR.out k e.symm) (Nat.not_lt.2 hk)⟩)); (case aO => exact (R_ut HR.out HG2.out.ut (by decide))); (case aS => exact Nat.le_trans hsz HG2.out.ut.size); (case aL => have := HM3.out; omega); intro v3 w3 ho hb3 hg3 hat; have HO := Aside0.mk ho; have HB3 := Aside0.mk hb3; clear ho hb3 hg3 hat)
    go_wp2
    go_roundw
    case rel => exact LstG.next hgw hn HM3.out H1.out HU.out HO.out HG2.out HB3.out
    case measure => simp [intOf]; omega
   ·have heb : (e' == 0) = false := by simpa using he
    have HE := Aside0.mk he
    go_wp2
    go_ret
    exact ListG.mk HR.out (LstG.done (.inr HE.out) HRD.out HU.out H1.out)
  ·have hz := Int.le_antisymm (Int.not_lt.1 hn) hn0
   have HZ := Aside0.mk hz
   clear hz
   go_wp2
   go_ret
   exact ListG.mk HR.out (LstG.done (.inl HZ.out) HRD.out HU.out H1.out)
section
variable {b : Nat} {w : World} {g : Nat} {l : List Int} {e : Int} {u : Value}
set_option maxHeartbeats 4000000 in
theorem getValue_calls (h : Rdr b w g l e u) (v : Value) : Calls Tryz.prog 133 #[.pointer (some ⟨g, 0, none⟩), v] w (ValueG b w g e (pVal l)) := by
 have H := Aside0.mk h
 clear h
 go_enter Tryz.func133, Tryz.ntmps133
 go_wp2_with fail
 refine (rvalue_calls (H.out.below (below_alloc (Below.refl _ _) _))).mono ?_
 rintro en w1 ⟨x, v3, rfl, hR, l', e', u', hg⟩
 obtain ⟨A6, n, c6, rfl⟩ : ∃ A n c, v3 = .slice A n c := (Kd.R_slice hR).elim (fun A h => h.elim (fun c h => ⟨A, _, c, h⟩))
 have HR5 := Aside0.mk hR
 have HG5 := Aside0.mk (hg.from_ (below_alloc (Below.refl _ _) _))
 have HX5 := Aside0.mk (hg.ut.blk (heap_alloc_new w _) (by decide))
 have hsz : (w.alloc (.cells #[.int .i64 0, .int .i64 0, .string ⟨#[]⟩, .slice none 0 0] 24)).heap.size = w.heap.size + 1 := size_alloc _ _
 clear hg hR
 have n0 := blk_cell HX5.out 0
 have f0 := blk_frozen HX5.out 0
 have n1 := blk_cell HX5.out 1
 have f1 := blk_frozen HX5.out 1
 have n2 := blk_cell HX5.out 2
 have f2 := blk_frozen HX5.out 2
 have n3 := blk_cell HX5.out 3
 have f3 := blk_frozen HX5.out 3
 simp only [List.getElem?_toArray, List.getElem?_cons_succ, List.getElem?_cons_zero] at n0 n1 n2 n3
 have hb4 := blk_lt HX5.out
 obtain ⟨hW1, hW2, hW3⟩ := filln HX5.out [.int .i64 x.f0, .int .i64 x.f1, .string x.f2, .slice A6 n c6] rfl
 have HF := Aside0.mk (show ∀ kk, kk ≠ w.heap.size → ((((w1.setCell ⟨w.heap.size, 0, none⟩ (.int .i64 x.f0)).setCell ⟨w.heap.size, 1, none⟩ (.int .i64 x.f1)).setCell ⟨w.heap.size, 2, none⟩ (.string x.f2)).setCell ⟨w.heap.size, 3, none⟩ (.slice A6 n c6)).heap[kk]? = w1.heap[kk]? from hW2)
 have HT := Aside0.mk (show UT [24] w.heap.size w1 ((((w1.setCell ⟨w.heap.size, 0, none⟩ (.int .i64 x.f0)).setCell ⟨w.heap.size, 1, none⟩ (.int .i64 x.f1)).setCell ⟨w.heap.size, 2, none⟩ (.string x.f2)).setCell ⟨w.heap.size, 3, none⟩ (.slice A6 n c6)) from hW3)
 have HG := Aside0.mk (show ((((w1.setCell ⟨w.heap.size, 0, none⟩ (.int .i64 x.f0)).setCell ⟨w.heap.size, 1, none⟩ (.int .i64 x.f1)).setCell ⟨w.heap.size, 2, none⟩ (.string x.f2)).setCell ⟨w.heap.size, 3, none⟩ (.slice A6 n c6)).heap[w.heap.size]? = some (.cells #[.int .i64 x.f0, .int .i64 x.f1, .string x.f2, .slice A6 n c6] 24 (0, 0)) from hW1)
 clear hW1 hW2 hW3
 go_wp2
 (try simp only [Exit.inBlock, Exit.then])
 refine bodyPost_ret (results_cell_row rfl _ _ w.heap.size 24 _ (0, 0) _ rfl HG.out Tryz.underlying24 rfl size25) rfl ?_
 exact ValueG.mk x (GotS.fill HG5.out HT.out (by decide) H.out.le) (Kd.R_lower (Kd.R_mono (Kd.R_move (Kd.R_bound HR5.out) (fun k hk => HF.out k (by have := hk.2.1; omega))) (fun _ _ => trivial)) (by omega))
end
set_option maxHeartbeats 8000000 in
theorem getValues_calls {b : Nat} {w : World} {g : Nat} {l : List Int} {e : Int} {u : Value} (h : Rdr b w g l e u) (most : Int) (hm : most ≤ 1000) :
  Calls Tryz.prog 132 #[.pointer (some ⟨g, 0, none⟩), .int .i64 most, .func (.func 133) #[] #[]] w (ListG (k25) 24 b w g e (pList most (fun _ => pVal) l)) := by
 have H := Aside0.mk h
 have hgw := blk_lt h.box
 clear h 
 go_enter Tryz.func132, Tryz.ntmps132
 go_wp2_with fail
 refine (rnumber_got H.out most).mono ?_
 rintro en w1 ⟨n, rfl, hn0, hn1, l1, e1, u1, h1⟩
 have HS := Aside0.mk (LstG.start (d := k25) (ty := 24) (p := fun _ => pVal) h1 hn0 hn1)
 clear h1 hn0 hn1
 go_wp2
 go_loopw [7, 8] (fun u nv wr => LstG (k25) 24 b w g e most (fun _ => pVal) (pList most (fun _ => pVal) l) u nv wr) (fun _ nv _ => (intOf nv).toNat)
 case atStart => exact HS.out
 case round =>
  obtain ⟨xs, n, l', e', u', rfl, hn0, hmm, hR, hr, hu, h1⟩ := hrel
  have m1 := blk_cell hr.box 1
  simp only [List.getElem?_toArray, List.getElem?_cons_succ, List.getElem?_cons_zero] at m1
  have hgr := blk_lt hr.box
  obtain ⟨A, nn, c, rfl⟩ : ∃ A n c, u7 = .slice A n c := (Kd.R_slice hR).elim (fun A h => h.elim (fun c h => ⟨A, _, c, h⟩))
  have HR := Aside0.mk hR
  have HRD := Aside0.mk hr
  have HU := Aside0.mk hu
  have H1 := Aside0.mk h1
  have HMM := Aside0.mk hmm
  clear hR hr hu h1 hmm
  by_cases hn : n > 0
  ·by_cases he : e' = 0
   ·subst he
    have HM3 := Aside0.mk (show (xs.length : Int) + n ≤ most by have := HMM.out; omega)
    have hn9 : n ≤ 1000 := by have := HM3.out; omega
    have hsz := HU.out.size
    go_wp2_with fail
    refine (getValue_calls HRD.out _).mono ?_
    rintro en w2 ⟨x, v9, rfl, hR9, l2, e2, u2, hg⟩
    have hx := k25_mkM w2 wr.heap.size (News w) x hR9
    have HG2 := Aside0.mk hg
    have HM2 := Aside0.mk hx
    clear hg hx
    go_wp2_with ((with_reducible refine gate_builtin (b := .append) (xs := #[.tmp 23, .tmp 28]) rfl ?_); at_builtin; refine Kd.R_append (k25) (w0 := w2) (W := w2) w.heap.size rfl (.tmp 23) (.tmp 28) 22 24 (.agg #[.int .i64 0, .int .i64 0, .string ⟨#[]⟩, .slice none 0 0]) 56 rfl Tryz.underlying22 info25 rfl (by decide) (by decide) (.slice A nn c) xs x [.int .i64 x.f0, .int .i64 x.f1, .string x.f2, v9] (News w) (fun k => wr.heap.size ≤ k) rfl rfl ?aP ?aK (fun _ _ => trivial) ?aO (Below.refl _ _) ?aS ?aL ?_; (case aP => exact (k25).M_lower hsz ((k25).M_mono (fun k hk => hk.2.1) ((k25).M_bound HM2.out))); (case aK => exact (fun k hk => ⟨trivial, fun e => absurd (Kd.R_lt HR.out k e.symm) (Nat.not_lt.2 hk)⟩)); (case aO => exact (R_ut HR.out HG2.out.ut (by decide))); (case aS => exact Nat.le_trans hsz HG2.out.ut.size); (case aL => have := HM3.out; omega); intro v3 w3 ho hb3 hg3 hat; have HO := Aside0.mk ho; have HB3 := Aside0.mk hb3; clear ho hb3 hg3 hat)
    go_wp2
    go_roundw
    case rel => exact LstG.next hgw hn HM3.out H1.out HU.out HO.out HG2.out HB3.out
    case measure => simp [intOf]; omega
   ·have heb : (e' == 0) = false := by simpa using he
    have HE := Aside0.mk he
    go_wp2
    go_ret
    exact ListG.mk HR.out (LstG.done (.inr HE.out) HRD.out HU.out H1.out)
  ·have hz := Int.le_antisymm (Int.not_lt.1 hn) hn0
   have HZ := Aside0.mk hz
   clear hz
   go_wp2
   go_ret
   exact ListG.mk HR.out (LstG.done (.inl HZ.out) HRD.out HU.out H1.out)
/-- Is k not behind the one ahead of it? -/
def late : Option ByteArray → ByteArray → Bool
 | none, _ => false
 | some q, k => !less q k
def pAfter (q : Option ByteArray) (k : ByteArray) (l : List Int) : Rd ByteArray := if late q k = true then .bad 42 else .ok k l
/-- A key that rises. -/
def pKeyIn (xs : List ByteArray) (l : List Int) : Rd ByteArray := (pKey l).bind fun k l' => pAfter xs.getLast? k l'
section
variable {b : Nat} {w : World} {g : Nat} {l : List Int} {e : Int} {u : Value}
theorem GotS.pass {α : Type} {w1 : World} {l1 : List Int} {e1 : Int} {u1 : Value} {r : Rd α} {x : α} (h : Rdr b w1 g l1 e1 u1) (hr : e1 = 0 → r = .ok x l1) : GotS b w1 g e1 r x w1 l1 e1 u1 := ⟨h, UT.refl _ _ _, fun h0 _ => hr h0, fun h0 h1 => absurd h0 h1, fun _ => rfl⟩
theorem GotS.failed {α : Type} {w1 w2 : World} {r : Rd α} {c : Int} {x : α} (h : RdrP b w1 g [] (bump 0 c) w2) (hc : c ≠ 0) (hr : r = .bad c) : ∃ l2 e2 u2, GotS b w1 g 0 r x w2 l2 e2 u2 := by
 obtain ⟨⟨u2, h1⟩, h2⟩ := h
 exact ⟨[], c, u2, h1, h2, fun _ h => absurd h hc, fun _ _ => hr, fun h => absurd rfl h⟩
/-- A key of a list. -/
def KeyLG (b : Nat) (w : World) (g : Nat) (e : Int) (r : Rd ByteArray) (en : Ending) (w' : World) : Prop := ∃ k, en = .returned (.string k) ∧ ∃ l' e' u', GotS b w g e r k w' l' e' u'
theorem last_get {α : Type} {xs : List α} (h : 0 < xs.length) : xs.getLast? = some (xs[xs.length - 1]'(by omega)) := by
 rw [List.getLast?_eq_getElem?, List.getElem?_eq_getElem (by omega)]
set_option maxHeartbeats 8000000 in
theorem getKey_calls (h : Rdr b w g l e u) (xs : List ByteArray) {B : Nat} {ok : Nat → Prop} {lv : Value} (hx : Kd.string.R 9 w B ok lv xs) (hm : xs.length ≤ 1000) : Calls Tryz.prog 107 #[.pointer (some ⟨g, 0, none⟩), lv] w (KeyLG b w g e (pKeyIn xs l)) := by
 have H := Aside0.mk h
 have hgw := blk_lt h.box
 have HR := Aside0.mk hx
 obtain ⟨A, c, rfl, hc, _⟩ := Kd.R_reads hx
 clear h hx
 go_enter Tryz.func107, Tryz.ntmps107
 go_wp2_with fail
 refine (rkey_got H.out).mono ?_
 rintro en w1 ⟨k, rfl, l1, e1, u1, hg⟩
 have m1 := blk_cell hg.rdr.box 1
 simp only [List.getElem?_toArray, List.getElem?_cons_succ, List.getElem?_cons_zero] at m1
 have hg1 := blk_lt hg.rdr.box
 have HG := Aside0.mk hg
 clear hg
 by_cases hx : 0 < xs.length
 ·have hxi : (xs.length : Int) > 0 := by omega
  by_cases he : e1 = 0
  ·subst he
   obtain ⟨A', c', ee, hc', hC⟩ := Kd.R_reads (R_ut HR.out HG.out.ut (by decide))
   injection ee with e1 e2 e3
   subst e1 e3
   obtain ⟨ad, rfl, d0⟩ := (In.mk hC (Nat.le_refl _)).atString (i := xs.length - 1) (by omega)
   have hw1 := w64p (i := xs.length) hx (by omega)
   have hlast := last_get hx
   generalize xs[xs.length - 1] = q at *
   have HL := Aside0.mk hlast
   have HB := Aside0.mk (show late xs.getLast? k = !less q k by rw [hlast]; rfl)
   have hidx : ((xs.length : Int) - 1) = ((xs.length - 1 : Nat) : Int) := by omega
   clear hlast hC
   by_cases hb : Op.bytesLess q.toList k.toList = true
   ·go_wp2
    go_ret
    exact ⟨k, rfl, _, _, _, HG.out.bind (GotS.pass HG.out.rdr (fun _ => by rw [pAfter, HB.out, less, hb]; rfl))⟩
   ·have hbf : Op.bytesLess q.toList k.toList = false := by simpa using hb
    go_wp2_with fail
    refine (rfail_calls HG.out.rdr 42).mono ?_
    rintro en w2 ⟨rfl, hf⟩
    have HF := Aside0.mk hf
    clear hf
    go_wp2
    go_ret
    obtain ⟨l2, e2, u2, hf⟩ := GotS.failed (r := pAfter xs.getLast? k l1) (x := k) HF.out (by decide) (by rw [pAfter, HB.out, less, hbf]; rfl)
    exact ⟨k, rfl, _, _, _, HG.out.bind hf⟩
  ·have heb : (e1 == 0) = false := by simpa using he
   have HE := Aside0.mk he
   go_wp2
   go_ret
   exact ⟨k, rfl, _, _, _, HG.out.bind (GotS.pass HG.out.rdr (fun h => absurd h HE.out))⟩
 ·have hx0 : ¬ (xs.length : Int) > 0 := by omega
  have HX := Aside0.mk (show xs = [] from List.eq_nil_of_length_eq_zero (by omega))
  go_wp2
  go_ret
  exact ⟨k, rfl, _, _, _, HG.out.bind (GotS.pass HG.out.rdr (fun _ => by rw [HX.out]; rfl))⟩
end
set_option maxHeartbeats 8000000 in
theorem getKeys_calls {b : Nat} {w : World} {g : Nat} {l : List Int} {e : Int} {u : Value} (h : Rdr b w g l e u) (most : Int) (hm : most ≤ 1000) :
  Calls Tryz.prog 106 #[.pointer (some ⟨g, 0, none⟩), .int .i64 most, .func (.func 107) #[] #[]] w (ListG (Kd.string) 9 b w g e (pList most (pKeyIn) l)) := by
 have H := Aside0.mk h
 have hgw := blk_lt h.box
 clear h 
 go_enter Tryz.func106, Tryz.ntmps106
 go_wp2_with fail
 refine (rnumber_got H.out most).mono ?_
 rintro en w1 ⟨n, rfl, hn0, hn1, l1, e1, u1, h1⟩
 have HS := Aside0.mk (LstG.start (d := Kd.string) (ty := 9) (p := pKeyIn) h1 hn0 hn1)
 clear h1 hn0 hn1
 go_wp2
 go_loopw [7, 8] (fun u nv wr => LstG (Kd.string) 9 b w g e most (pKeyIn) (pList most (pKeyIn) l) u nv wr) (fun _ nv _ => (intOf nv).toNat)
 case atStart => exact HS.out
 case round =>
  obtain ⟨xs, n, l', e', u', rfl, hn0, hmm, hR, hr, hu, h1⟩ := hrel
  have m1 := blk_cell hr.box 1
  simp only [List.getElem?_toArray, List.getElem?_cons_succ, List.getElem?_cons_zero] at m1
  have hgr := blk_lt hr.box
  obtain ⟨A, nn, c, rfl⟩ : ∃ A n c, u7 = .slice A n c := (Kd.R_slice hR).elim (fun A h => h.elim (fun c h => ⟨A, _, c, h⟩))
  have HR := Aside0.mk hR
  have HRD := Aside0.mk hr
  have HU := Aside0.mk hu
  have H1 := Aside0.mk h1
  have HMM := Aside0.mk hmm
  clear hR hr hu h1 hmm
  by_cases hn : n > 0
  ·by_cases he : e' = 0
   ·subst he
    have HM3 := Aside0.mk (show (xs.length : Int) + n ≤ most by have := HMM.out; omega)
    have hn9 : n ≤ 1000 := by have := HM3.out; omega
    have hsz := HU.out.size
    have hxl : xs.length ≤ 1000 := by have := HM3.out; omega
    go_wp2_with fail
    refine (getKey_calls HRD.out xs HR.out hxl).mono ?_
    rintro en w2 ⟨x, rfl, l2, e2, u2, hg⟩
    have hx : Kd.string.M w2 wr.heap.size (News w) x [.string x] := rfl
    have HG2 := Aside0.mk hg
    have HM2 := Aside0.mk hx
    clear hg hx
    go_wp2_with ((with_reducible refine gate_builtin (b := .append) (xs := #[.tmp 23, .tmp 28]) rfl ?_); at_builtin; refine Kd.R_append (Kd.string) (w0 := w2) (W := w2) w.heap.size rfl (.tmp 23) (.tmp 28) 32 9 (.string ⟨#[]⟩) 16 rfl Tryz.underlying32 gi9 rfl (by decide) (by decide) (.slice A nn c) xs x [.string x] (News w) (fun k => wr.heap.size ≤ k) rfl rfl ?aP ?aK (fun _ _ => trivial) ?aO (Below.refl _ _) ?aS ?aL ?_; (case aP => exact (Kd.string).M_lower hsz ((Kd.string).M_mono (fun k hk => hk.2.1) ((Kd.string).M_bound HM2.out))); (case aK => exact (fun k hk => ⟨trivial, fun e => absurd (Kd.R_lt HR.out k e.symm) (Nat.not_lt.2 hk)⟩)); (case aO => exact (R_ut HR.out HG2.out.ut (by decide))); (case aS => exact Nat.le_trans hsz HG2.out.ut.size); (case aL => have := HM3.out; omega); intro v3 w3 ho hb3 hg3 hat; have HO := Aside0.mk ho; have HB3 := Aside0.mk hb3; clear ho hb3 hg3 hat)
    go_wp2
    go_roundw
    case rel => exact LstG.next hgw hn HM3.out H1.out HU.out HO.out HG2.out HB3.out
    case measure => simp [intOf]; omega
   ·have heb : (e' == 0) = false := by simpa using he
    have HE := Aside0.mk he
    go_wp2
    go_ret
    exact ListG.mk HR.out (LstG.done (.inr HE.out) HRD.out HU.out H1.out)
  ·have hz := Int.le_antisymm (Int.not_lt.1 hn) hn0
   have HZ := Aside0.mk hz
   clear hz
   go_wp2
   go_ret
   exact ListG.mk HR.out (LstG.done (.inl HZ.out) HRD.out HU.out H1.out)
/-- A manifest's row. -/
def pRow1 (l : List Int) : Rd S108 := (pNum 65536 l).bind fun n l1 => (pWord l1).map fun k => ⟨n, k⟩
def Row1G (b : Nat) (w : World) (g : Nat) (e : Int) (r : Rd S108) (en : Ending) (w' : World) : Prop := ∃ x : S108, en = .returned (.agg #[.int .i64 x.f0, .int .u32 x.f1]) ∧ ∃ l' e' u', GotS b w g e r x w' l' e' u'
theorem Row1G.mk {b : Nat} {w : World} {g : Nat} {e : Int} {r : Rd S108} {w' : World} {l' : List Int} {e' : Int} {u' : Value} (x : S108) (h : GotS b w g e r x w' l' e' u') : Row1G b w g e r (.returned (.agg #[.int .i64 x.f0, .int .u32 x.f1])) w' := ⟨x, rfl, _, _, _, h⟩
theorem size108 : (Tryz.prog.info? 111).map (·.size) = some 2 := by kernel_rfl
section
variable {b : Nat} {w : World} {g : Nat} {l : List Int} {e : Int} {u : Value}
set_option maxHeartbeats 8000000 in
theorem getRow1_calls (h : Rdr b w g l e u) (v : Value) : Calls Tryz.prog 112 #[.pointer (some ⟨g, 0, none⟩), v] w (Row1G b w g e (pRow1 l)) := by
 have H := Aside0.mk h
 clear h
 go_enter Tryz.func112, Tryz.ntmps112
 go_wp2_with fail
 refine (rnumber_got (H.out.below (below_alloc (Below.refl _ _) _)) 65536).mono ?_
 rintro en w1 ⟨n, rfl, _, _, l1, e1, u1, hg⟩
 have HX1 := Aside0.mk (hg.ut.blk (heap_alloc_new w _) (by decide))
 have HG1 := Aside0.mk (hg.from_ (below_alloc (Below.refl _ _) _))
 clear hg
 go_wp2_with fail
 refine (rword_got (HG1.out.rdr.below (below_alloc (Below.refl _ _) _))).mono ?_
 rintro en w2 ⟨k, rfl, l2, e2, u2, hg⟩
 have HX2 := Aside0.mk (hg.ut.blk (blk_alloc HX1.out _) (by decide))
 have HY2 := Aside0.mk (hg.ut.blk (heap_alloc_new w1 _) (by decide))
 have HG2 := Aside0.mk (hg.from_ (below_alloc (Below.refl _ _) _))
 have hlt := blk_lt HX1.out
 clear hg
 have HY3 := Aside0.mk (blk_set (i := 1) (v := .int .u32 k) HY2.out)
 have hne : w.heap.size ≠ w1.heap.size := by omega
 have HX3 := Aside0.mk ((Below.heap_setCell w2 ⟨w1.heap.size, 1, none⟩ (.int .u32 k) w.heap.size hne).trans HX2.out)
 have HU3 := Aside0.mk ((UT.refl [111] w.heap.size w2).set HY2.out (by simp) (by omega) 1 (.int .u32 k))
 have j1 := blk_cell HY2.out 1
 have g1 := blk_frozen HY2.out 1
 simp only [List.getElem?_toArray, List.getElem?_cons_succ, List.getElem?_cons_zero] at j1
 have n0 := blk_cell HX3.out 0
 have f0 := blk_frozen HX3.out 0
 have n1 := blk_cell HX3.out 1
 have f1 := blk_frozen HX3.out 1
 have k0 := blk_cell HY3.out 0
 have k1 := blk_cell HY3.out 1
 simp only [List.getElem?_toArray, List.getElem?_cons_succ, List.getElem?_cons_zero] at n0 n1 k0 k1
 have hb4 := blk_lt HX3.out
 obtain ⟨hW1, hW2, hW3⟩ := filln HX3.out [.int .i64 n, .int .u32 k] rfl
 have HF := Aside0.mk (show ∀ kk, kk ≠ w.heap.size → (((w2.setCell ⟨w1.heap.size, 1, none⟩ (.int .u32 k)).setCell ⟨w.heap.size, 0, none⟩ (.int .i64 n)).setCell ⟨w.heap.size, 1, none⟩ (.int .u32 k)).heap[kk]? = (w2.setCell ⟨w1.heap.size, 1, none⟩ (.int .u32 k)).heap[kk]? from hW2)
 have HT := Aside0.mk (show UT [111] w.heap.size (w2.setCell ⟨w1.heap.size, 1, none⟩ (.int .u32 k)) (((w2.setCell ⟨w1.heap.size, 1, none⟩ (.int .u32 k)).setCell ⟨w.heap.size, 0, none⟩ (.int .i64 n)).setCell ⟨w.heap.size, 1, none⟩ (.int .u32 k)) from hW3)
 have HG := Aside0.mk (show (((w2.setCell ⟨w1.heap.size, 1, none⟩ (.int .u32 k)).setCell ⟨w.heap.size, 0, none⟩ (.int .i64 n)).setCell ⟨w.heap.size, 1, none⟩ (.int .u32 k)).heap[w.heap.size]? = some (.cells #[.int .i64 n, .int .u32 k] 111 (0, 0)) from hW1)
 clear hW1 hW2 hW3
 go_wp2
 (try simp only [Exit.inBlock, Exit.then])
 refine bodyPost_ret (results_cell_row rfl _ _ w.heap.size 111 _ (0, 0) _ rfl HG.out Tryz.underlying111 rfl size108) rfl ?_
 exact Row1G.mk ⟨n, k⟩ (GotS.fill (T := [111]) ((HG1.out.bind (HG2.out.map (f := fun k => (⟨n, k⟩ : S108))))) (HU3.out.trans HT.out) (by decide) H.out.le)
end
end Go.Proofs.YthmkioodkldgbaaGreat.DK
