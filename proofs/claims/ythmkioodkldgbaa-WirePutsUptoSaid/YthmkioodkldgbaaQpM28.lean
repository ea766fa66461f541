/- eddysize.Count over things: a number is left; conditions: those in each theorem. -/
import Derived.Test.YthmkioodkldgbaaQpM27
import Derived.Test.YthmkioodkldgbaaQpM09
import Derived.Test.YthmkioodkldgbaaQpM15
namespace Go.Proofs.Ythmkioodkldgbaa.DK
open Go.Proofs.Ythmkioodkldgbaa.PD
open Go.RowKit Go.Proofs.YthmkioodkldgbaaW.PrintWords Go.Proofs.YthmkioodkldgbaaW.PrintLast Go.Proofs.YthmkioodkldgbaaW.PrintMore
set_option linter.unusedVariables false
set_option linter.unusedSimpArgs false
set_option maxRecDepth 100000
theorem heap25 : Kd.Heap k25 := Kd.heap_fix (fun d h => Kd.heap_iso _ (Kd.heap_pair (Kd.heap_int _) (Kd.heap_pair (Kd.heap_int _) (Kd.heap_pair Kd.heap_string (Kd.heap_slice 25 h)))))
/-- A count is left. -/
def Cnt (w0 : World) (g : Nat) (W : World) : Prop := ∃ q, IsS170 w0 W g q ∧ Below w0.heap.size w0 W
theorem Cnt.step {w0 W W' : World} {g : Nat} (h : Cnt w0 g W) (hb : Below W.heap.size W W') : Cnt w0 g W' := by
 obtain ⟨q, ⟨h1, h2⟩, h3⟩ := h
 exact ⟨q, ⟨(hb.block g (blk_lt h1)).trans h1, h2⟩, h3.trans (hb.mono h3.size)⟩
def CntP (w0 w : World) (g : Nat) (e : Ending) (w' : World) : Prop := e = .returned (.tuple #[]) ∧ Cnt w0 g w' ∧ KeepBut w w' g none
theorem keep_tr {w w1 w2 : World} {g : Nat} (h : KeepBut w w1 g none) (k : KeepBut w1 w2 g none) : KeepBut w w2 g none := h.trans k (.inl rfl)
theorem keep_bel {w w1 : World} {g : Nat} (h : Below w.heap.size w w1) : KeepBut w w1 g none := KeepBut.of_below h g none
theorem vals_cnt (w0 w : World) (g : Nat) (h : Cnt w0 g w) (l : List S25) (A : Option Addr) (c : Nat) (hr : k25.C w0 A l.length l) (hc : l.length ≤ c) : Calls Try.prog 107 #[.pointer (some ⟨g, 0, none⟩), .slice A l.length c] w (CntP w0 w g) := by
 obtain ⟨q, hI, hB⟩ := h
 exact (eddysize_Count_Values.calls g q A c l _ w0 w hI hB (Kd.C_foot_came heap25 hr hB hI.2) hc rfl).mono fun e w' ⟨he, h1, h2, h3⟩ => ⟨he, ⟨_, h1, h2⟩, h3⟩
theorem add_cnt (w0 w : World) (g : Nat) (h : Cnt w0 g w) (n : Int) : Calls Try.prog 106 #[.pointer (some ⟨g, 0, none⟩), .int .i64 n] w fun e w' => (∃ b, e = .returned (.bool b)) ∧ Cnt w0 g w' ∧ KeepBut w w' g none := by
 obtain ⟨q, hI, hB⟩ := h
 exact (eddysize_Count_Add.calls g q n _ _ w0 w hI hB (cadd_f q n)).mono fun e w' ⟨he, h1, h2, h3⟩ => ⟨⟨_, he⟩, ⟨_, h1, h2⟩, h3⟩
theorem rec_cnt (w0 w : World) (g : Nat) (h : Cnt w0 g w) (x : S28) (A4 : Option Addr) (c4 : Nat) (A5 : Option Addr) (c5 : Nat) (h4 : k25.C w0 A4 x.f1.f3.length x.f1.f3) (l4 : x.f1.f3.length ≤ c4) (h5 : (Kd.int .i64).C w0 A5 x.f2.length x.f2) (l5 : x.f2.length ≤ c5) :
  Calls Try.prog 63 #[.pointer (some ⟨g, 0, none⟩), .agg #[.string x.f0, .int .i64 x.f1.f0, .int .i64 x.f1.f1, .string x.f1.f2, .slice A4 x.f1.f3.length c4, .slice A5 x.f2.length c5]] w (CntP w0 w g) := by
 obtain ⟨q, hI, hB⟩ := h
 have hf : eddysize_Count_Record.f q x.f0 x.f1.f0 x.f1.f1 x.f1.f2 x.f1.f3 x.f2 = some (cntL x.f1.f3 (cadd (cadd q (wrap64 (1 + (x.f2.length : Int)))) x.f1.f3.length)) := by
  unfold eddysize_Count_Record.f
  rw [cadd_f]
  rfl
 exact (eddysize_Count_Record.calls g q x.f0 x.f1.f0 x.f1.f1 x.f1.f2 A4 c4 x.f1.f3 A5 c5 x.f2 _ w0 w hI hB (Kd.C_foot_came heap25 h4 hB hI.2) l4 (Kd.C_below h5 hB) l5 (fun ad e hn hg => by
  have h1 := Kd.C_lt (d := Kd.int .i64) (ad := ad) (e ▸ h5) hn (by decide)
  have h2 := hI.2
  omega) hf).mono fun e w' ⟨he, h1, h2, h3⟩ => ⟨he, ⟨_, h1, h2⟩, h3⟩
def CntE (w0 w : World) (g m : Nat) (iv : Value) (wr : World) : Prop := ∃ i : Nat, iv = .int .i64 i ∧ i ≤ m ∧ Cnt w0 g wr ∧ KeepBut w wr g none
set_option maxHeartbeats 8000000 in
theorem cells_cnt (w0 w : World) (g : Nat) (h : Cnt w0 g w) (l : List S121) (A : Option Addr) (c : Nat) (hr : k121.C w0 A l.length l) (hc : l.length ≤ c) : Calls Try.prog 64 #[.pointer (some ⟨g, 0, none⟩), .slice A l.length c] w (CntP w0 w g) := by
 have hln : l.length ≤ 9223372036854775807 := hr.2.1
 have H := Aside0.mk h
 have HR := Aside0.mk hr
 clear h hr
 unfold CntP
 go_enter Try.func64, Try.ntmps64
 go_wp2_with fail
 refine (add_cnt w0 _ g (H.out.step ?hd) _).mono ?_
 case hd => repeat (with_reducible first | exact Below.refl _ _ | apply below_drew | apply pw_below_drewN | apply below_alloc)
 rintro e w1 ⟨⟨b, rfl⟩, h1, k1⟩
 have H1 := Aside0.mk h1
 have K1 := Aside0.mk k1
 clear h1 k1
 go_wp2
 go_loopw [4] (fun iv wr => CntE w0 w g l.length iv wr) (fun iv _ => l.length - (intOf iv).toNat)
 case atStart => exact ⟨0, rfl, Nat.zero_le _, H1.out, K1.out⟩
 case round =>
  obtain ⟨i, rfl, hle, hc1, hk1⟩ := hrel
  have HKr := Aside0.mk hk1
  clear hk1
  by_cases hlt : i < l.length
  ·skip
   obtain ⟨q, hI, hB⟩ := hc1
   have HI2 := Aside0.mk hI
   have HB2 := Aside0.mk hB
   clear hI hB
   go_wp2_with fail
   refine (eddysize_Count_Ok.calls g q _ _ w0 _ ?hi ?hb rfl).mono ?_
   case hi => repeat (first | exact HI2.out | apply IsS170.alloc | apply IsS170.drewN | apply IsS170.drew)
   case hb => repeat (with_reducible first | exact HB2.out | apply below_alloc | apply pw_below_drewN | apply below_drew1)
   rintro e w3 ⟨rfl, hI3, hB3, hK3⟩
   have H3 := Aside0.mk (show Cnt w0 g w3 from ⟨_, hI3, hB3⟩)
   have K3 := Aside0.mk (keep_tr HKr.out hK3)
   have HB3 := Aside0.mk hB3
   clear hI3 hK3 hB3
   by_cases hq : 0 ≤ q
   ·have hqb : decide (q ≥ 0) = true := by simpa using hq
    have hat := at_T121 HR.out (i : Int) (by omega) (by omega)
    rw [show rd_T121 l (i : Int) = l[i] from getD_nat l _ i hlt] at hat
    simp only [Int.toNat_natCast] at hat
    obtain ⟨ad, A1, c1, rfl, d0, d1, l1, g1⟩ := hat
    have G1 := Aside0.mk g1
    have D1 := Aside0.mk (pw_cell_below HB3.out d1)
    clear g1 d0 d1
    have d1 := D1.out
    generalize l[i] = x at *
    go_wp2_with fail
    refine (vals_cnt w0 _ g (H3.out.step ?hd) x.f1 A1 c1 G1.out l1).mono ?_
    case hd => repeat (with_reducible first | exact Below.refl _ _ | apply below_drew | apply pw_below_drewN | apply below_alloc)
    rintro e w5 ⟨rfl, h5, k5⟩
    have H5 := Aside0.mk h5
    have K5 := Aside0.mk (keep_tr K3.out (keep_tr (keep_bel (by repeat (with_reducible first | exact Below.refl _ _ | apply below_drew | apply pw_below_drewN | apply below_alloc))) k5))
    clear h5 k5
    go_wp2
    go_roundw
    case rel => exact ⟨i + 1, by simp, hlt, H5.out, K5.out⟩
    case measure => simp [intOf]; omega
   ·have hqb : decide (q ≥ 0) = false := by simpa using hq
    go_wp2
    first | go_end0 | ((try simp only [Exit.inBlock, Exit.then]); refine bodyPost_ret (results_none rfl _ _ _) rfl ?_)
    exact ⟨rfl, H3.out, K3.out⟩
  ·skip
   have hir : ¬ (i : Int) < (l.length : Int) := by omega
   have H9 := Aside0.mk hc1
   clear hc1
   go_wp2
   first | go_end0 | ((try simp only [Exit.inBlock, Exit.then]); refine bodyPost_ret (results_none rfl _ _ _) rfl ?_)
   exact ⟨rfl, H9.out, HKr.out⟩
set_option maxHeartbeats 8000000 in
theorem recs_cnt (w0 w : World) (g : Nat) (h : Cnt w0 g w) (l : List S28) (A : Option Addr) (c : Nat) (hr : k28.C w0 A l.length l) (hc : l.length ≤ c) : Calls Try.prog 109 #[.pointer (some ⟨g, 0, none⟩), .slice A l.length c] w (CntP w0 w g) := by
 have hln : l.length ≤ 9223372036854775807 := hr.2.1
 have H := Aside0.mk h
 have HR := Aside0.mk hr
 clear h hr
 unfold CntP
 go_enter Try.func109, Try.ntmps109
 have H1 := H
 have K1 := Aside0.mk (KeepBut.refl w g none)
 go_wp2
 go_loopw [4] (fun iv wr => CntE w0 w g l.length iv wr) (fun iv _ => l.length - (intOf iv).toNat)
 case atStart => exact ⟨0, rfl, Nat.zero_le _, H1.out, K1.out⟩
 case round =>
  obtain ⟨i, rfl, hle, hc1, hk1⟩ := hrel
  have HKr := Aside0.mk hk1
  clear hk1
  by_cases hlt : i < l.length
  ·skip
   obtain ⟨q, hI, hB⟩ := hc1
   have HI2 := Aside0.mk hI
   have HB2 := Aside0.mk hB
   clear hI hB
   go_wp2_with fail
   refine (eddysize_Count_Ok.calls g q _ _ w0 _ ?hi ?hb rfl).mono ?_
   case hi => repeat (first | exact HI2.out | apply IsS170.alloc | apply IsS170.drewN | apply IsS170.drew)
   case hb => repeat (with_reducible first | exact HB2.out | apply below_alloc | apply pw_below_drewN | apply below_drew1)
   rintro e w3 ⟨rfl, hI3, hB3, hK3⟩
   have H3 := Aside0.mk (show Cnt w0 g w3 from ⟨_, hI3, hB3⟩)
   have K3 := Aside0.mk (keep_tr HKr.out hK3)
   have HB3 := Aside0.mk hB3
   clear hI3 hK3 hB3
   by_cases hq : 0 ≤ q
   ·have hqb : decide (q ≥ 0) = true := by simpa using hq
    have hat := at_T28 HR.out (i : Int) (by omega) (by omega)
    rw [show rd_T28 l (i : Int) = l[i] from getD_nat l _ i hlt] at hat
    simp only [Int.toNat_natCast] at hat
    obtain ⟨ad, A4, c4, A5, c5, rfl, d0, d1, d2, d3, d4, d5, l4, g4, l5, g5⟩ := hat
    have G4 := Aside0.mk g4
    have G5 := Aside0.mk g5
    clear g4 g5
    replace d0 := pw_cell_below HB3.out d0
    replace d1 := pw_cell_below HB3.out d1
    replace d2 := pw_cell_below HB3.out d2
    replace d3 := pw_cell_below HB3.out d3
    replace d4 := pw_cell_below HB3.out d4
    replace d5 := pw_cell_below HB3.out d5
    generalize l[i] = x at *
    go_wp2_with fail
    refine (rec_cnt w0 _ g (H3.out.step ?hd) x A4 c4 A5 c5 G4.out l4 G5.out l5).mono ?_
    case hd => repeat (with_reducible first | exact Below.refl _ _ | apply below_drew | apply pw_below_drewN | apply below_alloc)
    rintro e w5 ⟨rfl, h5, k5⟩
    have H5 := Aside0.mk h5
    have K5 := Aside0.mk (keep_tr K3.out (keep_tr (keep_bel (by repeat (with_reducible first | exact Below.refl _ _ | apply below_drew | apply pw_below_drewN | apply below_alloc))) k5))
    clear h5 k5
    go_wp2
    go_roundw
    case rel => exact ⟨i + 1, by simp, hlt, H5.out, K5.out⟩
    case measure => simp [intOf]; omega
   ·have hqb : decide (q ≥ 0) = false := by simpa using hq
    go_wp2
    first | go_end0 | ((try simp only [Exit.inBlock, Exit.then]); refine bodyPost_ret (results_none rfl _ _ _) rfl ?_)
    exact ⟨rfl, H3.out, K3.out⟩
  ·skip
   have hir : ¬ (i : Int) < (l.length : Int) := by omega
   have H9 := Aside0.mk hc1
   clear hc1
   go_wp2
   first | go_end0 | ((try simp only [Exit.inBlock, Exit.then]); refine bodyPost_ret (results_none rfl _ _ _) rfl ?_)
   exact ⟨rfl, H9.out, HKr.out⟩
set_option maxHeartbeats 8000000 in
theorem lists_cnt (w0 w : World) (g : Nat) (h : Cnt w0 g w) (l : List (List S28)) (A : Option Addr) (c : Nat) (hr : (Kd.slice 28 k28).C w0 A l.length l) (hc : l.length ≤ c) : Calls Try.prog 108 #[.pointer (some ⟨g, 0, none⟩), .slice A l.length c] w (CntP w0 w g) := by
 have hln : l.length ≤ 9223372036854775807 := hr.2.1
 have H := Aside0.mk h
 have HR := Aside0.mk hr
 clear h hr
 unfold CntP
 go_enter Try.func108, Try.ntmps108
 go_wp2_with fail
 refine (add_cnt w0 _ g (H.out.step ?hd) _).mono ?_
 case hd => repeat (with_reducible first | exact Below.refl _ _ | apply below_drew | apply pw_below_drewN | apply below_alloc)
 rintro e w1 ⟨⟨b, rfl⟩, h1, k1⟩
 have H1 := Aside0.mk h1
 have K1 := Aside0.mk k1
 clear h1 k1
 go_wp2
 go_loopw [4] (fun iv wr => CntE w0 w g l.length iv wr) (fun iv _ => l.length - (intOf iv).toNat)
 case atStart => exact ⟨0, rfl, Nat.zero_le _, H1.out, K1.out⟩
 case round =>
  obtain ⟨i, rfl, hle, hc1, hk1⟩ := hrel
  have HKr := Aside0.mk hk1
  clear hk1
  by_cases hlt : i < l.length
  ·skip
   obtain ⟨q, hI, hB⟩ := hc1
   have HI2 := Aside0.mk hI
   have HB2 := Aside0.mk hB
   clear hI hB
   go_wp2_with fail
   refine (eddysize_Count_Ok.calls g q _ _ w0 _ ?hi ?hb rfl).mono ?_
   case hi => repeat (first | exact HI2.out | apply IsS170.alloc | apply IsS170.drewN | apply IsS170.drew)
   case hb => repeat (with_reducible first | exact HB2.out | apply below_alloc | apply pw_below_drewN | apply below_drew1)
   rintro e w3 ⟨rfl, hI3, hB3, hK3⟩
   have H3 := Aside0.mk (show Cnt w0 g w3 from ⟨_, hI3, hB3⟩)
   have K3 := Aside0.mk (keep_tr HKr.out hK3)
   have HB3 := Aside0.mk hB3
   clear hI3 hK3 hB3
   by_cases hq : 0 ≤ q
   ·have hqb : decide (q ≥ 0) = true := by simpa using hq
    obtain ⟨ad, A1, c1, rfl, d0, l1, g1⟩ := slice_at HR.out hlt
    have G1 := Aside0.mk g1
    replace d0 := pw_cell_below HB3.out d0
    clear g1
    generalize l[i] = x at *
    go_wp2_with fail
    refine (recs_cnt w0 _ g (H3.out.step ?hd) x A1 c1 G1.out l1).mono ?_
    case hd => repeat (with_reducible first | exact Below.refl _ _ | apply below_drew | apply pw_below_drewN | apply below_alloc)
    rintro e w5 ⟨rfl, h5, k5⟩
    have H5 := Aside0.mk h5
    have K5 := Aside0.mk (keep_tr K3.out (keep_tr (keep_bel (by repeat (with_reducible first | exact Below.refl _ _ | apply below_drew | apply pw_below_drewN | apply below_alloc))) k5))
    clear h5 k5
    go_wp2
    go_roundw
    case rel => exact ⟨i + 1, by simp, hlt, H5.out, K5.out⟩
    case measure => simp [intOf]; omega
   ·have hqb : decide (q ≥ 0) = false := by simpa using hq
    go_wp2
    first | go_end0 | ((try simp only [Exit.inBlock, Exit.then]); refine bodyPost_ret (results_none rfl _ _ _) rfl ?_)
    exact ⟨rfl, H3.out, K3.out⟩
  ·skip
   have hir : ¬ (i : Int) < (l.length : Int) := by omega
   have H9 := Aside0.mk hc1
   clear hc1
   go_wp2
   first | go_end0 | ((try simp only [Exit.inBlock, Exit.then]); refine bodyPost_ret (results_none rfl _ _ _) rfl ?_)
   exact ⟨rfl, H9.out, HKr.out⟩
set_option maxHeartbeats 8000000 in
theorem part_cnt (w0 w : World) (g : Nat) (h : Cnt w0 g w) (n : Int) (cs : List S121) (ls : List (List S28)) (ps : List S28) (A B C : Option Addr) (a b c : Nat) (h1 : k121.C w0 A cs.length cs) (l1 : cs.length ≤ a) (h2 : (Kd.slice 28 k28).C w0 B ls.length ls) (l2 : ls.length ≤ b) (h3 : k28.C w0 C ps.length ps) (l3 : ps.length ≤ c) : Calls Try.prog 65 #[.pointer (some ⟨g, 0, none⟩), .agg #[.int .i64 n, .slice A cs.length a, .slice B ls.length b, .slice C ps.length c]] w (CntP w0 w g) := by
 have H := Aside0.mk h
 have HI1 := Aside0.mk h1
 have HI2 := Aside0.mk h2
 have HI3 := Aside0.mk h3
 obtain ⟨q0, hq1, hq2⟩ := h
 have hgl := blk_lt hq1.1
 clear h1 h2 h3 hq1 hq2
 unfold CntP
 have H0 := H
 go_enter Try.func65, Try.ntmps65
 go_wp2_with fail
 refine (cells_cnt w0 _ g (H0.out.step ?hd) cs A a HI1.out l1).mono ?_
 case hd => repeat (with_reducible first | exact Below.refl _ _ | apply below_drew | apply pw_below_drewN | apply below_alloc)
 rintro e w1 ⟨rfl, h1, k1⟩
 have H1 := Aside0.mk h1
 have K1 := Aside0.mk (keep_tr (w := w) (keep_bel (by repeat (with_reducible first | exact Below.refl _ _ | apply below_drew | apply pw_below_drewN | apply below_alloc))) k1)
 have X1 := Aside0.mk (KeepBut.blk (row := none) (w := _) (g := g) (by first | exact k1 | exact keep_tr (keep_bel (by repeat (with_reducible first | exact Below.refl _ _ | apply below_drew | apply pw_below_drewN | apply below_alloc))) k1) (heap_alloc_new w (.cells #[.int .i64 n, .slice A cs.length a, .slice B ls.length b, .slice C ps.length c] 131)) (by omega) (by simp))
 clear h1 k1
 have x1_2 := blk_cell X1.out 2
 simp only [List.getElem?_toArray, List.getElem?_cons_succ, List.getElem?_cons_zero] at x1_2
 go_wp2_with fail
 refine (lists_cnt w0 _ g (H1.out.step ?hd) ls B b HI2.out l2).mono ?_
 case hd => repeat (with_reducible first | exact Below.refl _ _ | apply below_drew | apply pw_below_drewN | apply below_alloc)
 rintro e w2 ⟨rfl, h1, k1⟩
 have H2 := Aside0.mk h1
 have K2 := Aside0.mk (keep_tr K1.out (keep_tr (keep_bel (by repeat (with_reducible first | exact Below.refl _ _ | apply below_drew | apply pw_below_drewN | apply below_alloc))) k1))
 have X2 := Aside0.mk (KeepBut.blk (row := none) (w := _) (g := g) (by first | exact k1 | exact keep_tr (keep_bel (by repeat (with_reducible first | exact Below.refl _ _ | apply below_drew | apply pw_below_drewN | apply below_alloc))) k1) X1.out (by omega) (by simp))
 clear h1 k1
 have x2_3 := blk_cell X2.out 3
 simp only [List.getElem?_toArray, List.getElem?_cons_succ, List.getElem?_cons_zero] at x2_3
 go_wp2_with fail
 refine (recs_cnt w0 _ g (H2.out.step ?hd) ps C c HI3.out l3).mono ?_
 case hd => repeat (with_reducible first | exact Below.refl _ _ | apply below_drew | apply pw_below_drewN | apply below_alloc)
 rintro e w3 ⟨rfl, h1, k1⟩
 have H3 := Aside0.mk h1
 have K3 := Aside0.mk (keep_tr K2.out (keep_tr (keep_bel (by repeat (with_reducible first | exact Below.refl _ _ | apply below_drew | apply pw_below_drewN | apply below_alloc))) k1))
 have X3 := Aside0.mk (KeepBut.blk (row := none) (w := _) (g := g) (by first | exact k1 | exact keep_tr (keep_bel (by repeat (with_reducible first | exact Below.refl _ _ | apply below_drew | apply pw_below_drewN | apply below_alloc))) k1) X2.out (by omega) (by simp))
 clear h1 k1
 go_wp2
 first | go_end0 | ((try simp only [Exit.inBlock, Exit.then]); refine bodyPost_ret (results_none rfl _ _ _) rfl ?_)
 exact ⟨rfl, H3.out, K3.out⟩
set_option maxHeartbeats 8000000 in
theorem delta_cnt (w0 w : World) (g : Nat) (h : Cnt w0 g w) (n : Int) (cs : List S121) (gs : List ByteArray) (A B : Option Addr) (a b : Nat) (h1 : k121.C w0 A cs.length cs) (l1 : cs.length ≤ a) (hg : gs.length ≤ 9223372036854775807) : Calls Try.prog 66 #[.pointer (some ⟨g, 0, none⟩), .agg #[.int .i64 n, .slice A cs.length a, .slice B gs.length b]] w (CntP w0 w g) := by
 have H0 := Aside0.mk h
 have HI1 := Aside0.mk h1
 obtain ⟨q0, hq1, hq2⟩ := h
 have hgl := blk_lt hq1.1
 clear h1 hq1 hq2
 unfold CntP
 go_enter Try.func66, Try.ntmps66
 go_wp2_with fail
 refine (add_cnt w0 _ g (H0.out.step ?hd) _).mono ?_
 case hd => repeat (with_reducible first | exact Below.refl _ _ | apply below_drew | apply pw_below_drewN | apply below_alloc)
 rintro e w1 ⟨⟨b0, rfl⟩, h1, k1⟩
 have H1 := Aside0.mk h1
 have K1 := Aside0.mk (keep_tr (w := w) (keep_bel (by repeat (with_reducible first | exact Below.refl _ _ | apply below_drew | apply pw_below_drewN | apply below_alloc))) k1)
 have X1 := Aside0.mk (KeepBut.blk (row := none) (w := _) (g := g) (by first | exact k1 | exact keep_tr (keep_bel (by repeat (with_reducible first | exact Below.refl _ _ | apply below_drew | apply pw_below_drewN | apply below_alloc))) k1) (heap_alloc_new w (.cells #[.int .i64 n, .slice A cs.length a, .slice B gs.length b] 35)) (by omega) (by simp))
 clear h1 k1
 have x1_1 := blk_cell X1.out 1
 simp only [List.getElem?_toArray, List.getElem?_cons_succ, List.getElem?_cons_zero] at x1_1
 go_wp2_with fail
 refine (cells_cnt w0 _ g (H1.out.step ?hd) cs A a HI1.out l1).mono ?_
 case hd => repeat (with_reducible first | exact Below.refl _ _ | apply below_drew | apply pw_below_drewN | apply below_alloc)
 rintro e w2 ⟨rfl, h1, k1⟩
 have H2 := Aside0.mk h1
 have K2 := Aside0.mk (keep_tr K1.out (keep_tr (keep_bel (by repeat (with_reducible first | exact Below.refl _ _ | apply below_drew | apply pw_below_drewN | apply below_alloc))) k1))
 have X2 := Aside0.mk (KeepBut.blk (row := none) (w := _) (g := g) (by first | exact k1 | exact keep_tr (keep_bel (by repeat (with_reducible first | exact Below.refl _ _ | apply below_drew | apply pw_below_drewN | apply below_alloc))) k1) X1.out (by omega) (by simp))
 clear h1 k1
 go_wp2
 first | go_end0 | ((try simp only [Exit.inBlock, Exit.then]); refine bodyPost_ret (results_none rfl _ _ _) rfl ?_)
 exact ⟨rfl, H2.out, K2.out⟩
end Go.Proofs.Ythmkioodkldgbaa.DK
/- eddylaw4.put, putRef; conditions: those in each theorem. -/
namespace Go.Proofs.Ythmkioodkldgbaa.DK
open Go.Proofs.Ythmkioodkldgbaa.PD
open Go.RowKit Go.Proofs.YthmkioodkldgbaaW.PrintWords Go.Proofs.YthmkioodkldgbaaW.PrintLast Go.Proofs.YthmkioodkldgbaaW.PrintMore
set_option linter.unusedVariables false
set_option linter.unusedSimpArgs false
set_option maxRecDepth 100000
/-- One of the five things. -/
structure Thg where
 kind : Int
 r : S28
 sn : Int
 sc : List S121
 g : Seg
 mi : Int
 ms : Int
 mr : List S108
 oa : Int
 ox : S28
/-- Its numbers are such. -/
structure Thg.Ok (t : Thg) : Prop where
 r : okS t.r.f1
 sc : ∀ x ∈ t.sc, okL x.f1
 g : t.g.Ok
 ms : 0 ≤ t.ms ∧ t.ms ≤ 4294967295
 mr : ∀ x ∈ t.mr, 0 ≤ x.f1 ∧ x.f1 ≤ 4294967295
 ox : okS t.ox.f1
/-- Its lists are read in w0. -/
structure ThIn (w0 : World) (t : Thg) (a1 a2 a3 a4 a5 a6 a7 a8 a9 a10 a11 : Option Addr) (c1 c2 c3 c4 c5 c6 c7 c8 c9 c10 c11 : Nat) : Prop where
 i1 : k25.C w0 a1 t.r.f1.f3.length t.r.f1.f3
 i2 : (Kd.int .i64).C w0 a2 t.r.f2.length t.r.f2
 i3 : k121.C w0 a3 t.sc.length t.sc
 i4 : k121.C w0 a4 t.g.cells.length t.g.cells
 i5 : k121.C w0 a5 t.g.set.length t.g.set
 i6 : Kd.string.C w0 a6 t.g.gone.length t.g.gone
 i7 : (Kd.slice 28 k28).C w0 a7 t.g.logs.length t.g.logs
 i8 : k28.C w0 a8 t.g.pend.length t.g.pend
 i9 : k108.C w0 a9 t.mr.length t.mr
 i10 : k25.C w0 a10 t.ox.f1.f3.length t.ox.f1.f3
 i11 : (Kd.int .i64).C w0 a11 t.ox.f2.length t.ox.f2
 l1 : t.r.f1.f3.length ≤ c1
 l2 : t.r.f2.length ≤ c2
 l3 : t.sc.length ≤ c3
 l4 : t.g.cells.length ≤ c4
 l5 : t.g.set.length ≤ c5
 l6 : t.g.gone.length ≤ c6
 l7 : t.g.logs.length ≤ c7
 l8 : t.g.pend.length ≤ c8
 l9 : t.mr.length ≤ c9
 l10 : t.ox.f1.f3.length ≤ c10
 l11 : t.ox.f2.length ≤ c11
theorem cells_short {w : World} {A : Option Addr} {l : List S121} (h : k121.C w A l.length l) : ∀ x ∈ l, x.f1.length ≤ 9223372036854775807 := fun x hx => by
 obtain ⟨i, hi, rfl⟩ := List.mem_iff_getElem.1 hx
 obtain ⟨_, _, _, _, _, _, _, g1⟩ := at_T121 h (i : Int) (by omega) (by omega)
 rw [show rd_T121 l (i : Int) = l[i] from getD_nat l _ i hi] at g1
 exact g1.2.1
theorem recs_short {w : World} {A : Option Addr} {l : List S28} (h : k28.C w A l.length l) : ∀ x ∈ l, x.f2.length ≤ 9223372036854775807 := fun x hx => by
 obtain ⟨i, hi, rfl⟩ := List.mem_iff_getElem.1 hx
 obtain ⟨_, _, _, _, _, _, _, _, _, _, _, _, _, _, _, g5⟩ := at_T28 h (i : Int) (by omega) (by omega)
 rw [show rd_T28 l (i : Int) = l[i] from getD_nat l _ i hi] at g5
 exact g5.2.1
theorem ThIn.short {w0 : World} {t : Thg} {a1 a2 a3 a4 a5 a6 a7 a8 a9 a10 a11 : Option Addr} {c1 c2 c3 c4 c5 c6 c7 c8 c9 c10 c11 : Nat} (h : ThIn w0 t a1 a2 a3 a4 a5 a6 a7 a8 a9 a10 a11 c1 c2 c3 c4 c5 c6 c7 c8 c9 c10 c11) : t.g.Short :=
 ⟨h.i4.2.1, cells_short h.i4, h.i5.2.1, cells_short h.i5, h.i6.2.1, h.i7.2.1, fun l hl => by
   obtain ⟨i, hi, rfl⟩ := List.mem_iff_getElem.1 hl
   obtain ⟨_, _, _, _, _, _, g1⟩ := slice_at h.i7 hi
   exact g1.2.1, fun l hl => by
   obtain ⟨i, hi, rfl⟩ := List.mem_iff_getElem.1 hl
   obtain ⟨_, _, _, _, _, _, g1⟩ := slice_at h.i7 hi
   exact recs_short g1, h.i8.2.1, recs_short h.i8⟩
theorem ThIn.below {w0 w1 : World} {t : Thg} {a1 a2 a3 a4 a5 a6 a7 a8 a9 a10 a11 : Option Addr} {c1 c2 c3 c4 c5 c6 c7 c8 c9 c10 c11 : Nat} (h : ThIn w0 t a1 a2 a3 a4 a5 a6 a7 a8 a9 a10 a11 c1 c2 c3 c4 c5 c6 c7 c8 c9 c10 c11) (hb : Below w0.heap.size w0 w1) : ThIn w1 t a1 a2 a3 a4 a5 a6 a7 a8 a9 a10 a11 c1 c2 c3 c4 c5 c6 c7 c8 c9 c10 c11 :=
 ⟨Kd.C_below h.i1 hb, Kd.C_below h.i2 hb, Kd.C_below h.i3 hb, Kd.C_below h.i4 hb, Kd.C_below h.i5 hb, Kd.C_below h.i6 hb, Kd.C_below h.i7 hb, Kd.C_below h.i8 hb, Kd.C_below h.i9 hb, Kd.C_below h.i10 hb, Kd.C_below h.i11 hb, h.l1, h.l2, h.l3, h.l4, h.l5, h.l6, h.l7, h.l8, h.l9, h.l10, h.l11⟩
/-- Why a thing has no bytes; its bytes. -/
def putC (t : Thg) : Int := if t.kind = 2 then stateC t.sn t.sc else if t.kind = 3 then segC t.g else if t.kind = 4 then manC t.mi t.mr else if t.kind = 5 then rowC t.oa t.ox else recC t.r
def putB (t : Thg) : List Int := if t.kind = 2 then encSt t.sn t.sc else if t.kind = 3 then encSeg t.g else if t.kind = 4 then encMan t.mi t.ms t.mr else if t.kind = 5 then encOut t.oa t.ox else encR t.r
theorem Put.at {w w1 : World} {r : Int} {zs : List Int} {e : Ending} {w' : World} (hb : Below w.heap.size w w1) (h : Put w1 r zs e w') : Put w r zs e w' := by
 obtain ⟨u, h1, h2, h3⟩ := h
 exact ⟨u, h1, h2.lower hb.size, hb.trans (h3.mono hb.size)⟩
set_option maxHeartbeats 8000000 in
theorem put_calls (w : World) (t : Thg) (a1 a2 a3 a4 a5 a6 a7 a8 a9 a10 a11 : Option Addr) (c1 c2 c3 c4 c5 c6 c7 c8 c9 c10 c11 : Nat) (hi : ThIn w t a1 a2 a3 a4 a5 a6 a7 a8 a9 a10 a11 c1 c2 c3 c4 c5 c6 c7 c8 c9 c10 c11) (ho : t.Ok) :
  Calls Try.prog 12 #[.agg #[.int .i64 t.kind, .string t.r.f0, .int .i64 t.r.f1.f0, .int .i64 t.r.f1.f1, .string t.r.f1.f2, .slice a1 t.r.f1.f3.length c1, .slice a2 t.r.f2.length c2, .int .i64 t.sn, .slice a3 t.sc.length c3, .int .i64 t.g.id, .int .i64 t.g.task, .int .i64 t.g.base, .int .u32 t.g.sum, .int .i64 t.g.snum, .slice a4 t.g.cells.length c4, .int .i64 t.g.dnum, .slice a5 t.g.set.length c5, .slice a6 t.g.gone.length c6, .slice a7 t.g.logs.length c7, .slice a8 t.g.pend.length c8, .int .i64 t.mi, .int .u32 t.ms, .slice a9 t.mr.length c9, .int .i64 t.oa, .string t.ox.f0, .int .i64 t.ox.f1.f0, .int .i64 t.ox.f1.f1, .string t.ox.f1.f2, .slice a10 t.ox.f1.f3.length c10, .slice a11 t.ox.f2.length c11]] w (Put w (putC t) (putB t)) := by
 have HI := Aside0.mk hi
 have HO := Aside0.mk ho
 have HJ := Aside0.mk (fun (W : World) (hb : Below w.heap.size w W) => hi.below hb)
 clear hi ho
 unfold putC putB
 by_cases hk : t.kind = 2
 ·skip
  rw [if_pos hk, if_pos hk]
  obtain ⟨kd, r, sn, sc, gg, mi, ms, mr, oa, ox⟩ := t
  dsimp only at *
  subst hk
  go_enter Try.func12, Try.ntmps12
  go_wp2_with fail
  refine (PutState_calls _ sn sc a3 c3 (HJ.out _ ?hd).i3 HI.out.l3 (cells_short HI.out.i3) HO.out.sc).mono ?_
  case hd => repeat (with_reducible first | exact Below.refl _ _ | apply below_drew | apply pw_below_drewN | apply below_alloc)
  intro e w1 hp
  obtain ⟨u, rfl, h1, h2⟩ := hp.at (w := w) (by repeat (with_reducible first | exact Below.refl _ _ | apply below_drew | apply pw_below_drewN | apply below_alloc))
  have HR := Aside0.mk h1
  have HB := Aside0.mk h2
  clear h1 h2 hp
  go_wp2_with fail
  refine (eddylaw4_num.calls _ _ _ rfl).mono ?_
  rintro e w2 ⟨rfl, ⟨⟨nd, rfl⟩⟩⟩
  go_wp2
  go_ret2
  exact ⟨u, rfl, HR.out.drewN nd, pw_below_drewN HB.out nd⟩
 rw [if_neg hk, if_neg hk]
 have h2 := hk
 clear hk
 by_cases hk : t.kind = 3
 ·skip
  rw [if_pos hk, if_pos hk]
  obtain ⟨kd, r, sn, sc, gg, mi, ms, mr, oa, ox⟩ := t
  dsimp only at *
  subst hk
  go_enter Try.func12, Try.ntmps12
  go_wp2_with fail
  refine (PutSegment_calls _ gg a4 a5 a6 a7 a8 c4 c5 c6 c7 c8 (HJ.out _ ?hd).i4 (HJ.out _ ?hd).i5 (HJ.out _ ?hd).i6 (HJ.out _ ?hd).i7 (HJ.out _ ?hd).i8 HI.out.l4 HI.out.l5 HI.out.l6 HI.out.l7 HI.out.l8 HI.out.short HO.out.g).mono ?_
  case hd => repeat (with_reducible first | exact Below.refl _ _ | apply below_drew | apply pw_below_drewN | apply below_alloc)
  intro e w1 hp
  obtain ⟨u, rfl, h1, h2⟩ := hp.at (w := w) (by repeat (with_reducible first | exact Below.refl _ _ | apply below_drew | apply pw_below_drewN | apply below_alloc))
  have HR := Aside0.mk h1
  have HB := Aside0.mk h2
  clear h1 h2 hp
  go_wp2_with fail
  refine (eddylaw4_num.calls _ _ _ rfl).mono ?_
  rintro e w2 ⟨rfl, ⟨⟨nd, rfl⟩⟩⟩
  go_wp2
  go_ret2
  exact ⟨u, rfl, HR.out.drewN nd, pw_below_drewN HB.out nd⟩
 rw [if_neg hk, if_neg hk]
 have h3 := hk
 clear hk
 by_cases hk : t.kind = 4
 ·skip
  rw [if_pos hk, if_pos hk]
  obtain ⟨kd, r, sn, sc, gg, mi, ms, mr, oa, ox⟩ := t
  dsimp only at *
  subst hk
  go_enter Try.func12, Try.ntmps12
  go_wp2_with fail
  refine (PutManifest_calls _ mi ms mr a9 c9 (HJ.out _ ?hd).i9 HI.out.l9 HO.out.ms HO.out.mr).mono ?_
  case hd => repeat (with_reducible first | exact Below.refl _ _ | apply below_drew | apply pw_below_drewN | apply below_alloc)
  intro e w1 hp
  obtain ⟨u, rfl, h1, h2⟩ := hp.at (w := w) (by repeat (with_reducible first | exact Below.refl _ _ | apply below_drew | apply pw_below_drewN | apply below_alloc))
  have HR := Aside0.mk h1
  have HB := Aside0.mk h2
  clear h1 h2 hp
  go_wp2_with fail
  refine (eddylaw4_num.calls _ _ _ rfl).mono ?_
  rintro e w2 ⟨rfl, ⟨⟨nd, rfl⟩⟩⟩
  go_wp2
  go_ret2
  exact ⟨u, rfl, HR.out.drewN nd, pw_below_drewN HB.out nd⟩
 rw [if_neg hk, if_neg hk]
 have h4 := hk
 clear hk
 by_cases hk : t.kind = 5
 ·skip
  rw [if_pos hk, if_pos hk]
  obtain ⟨kd, r, sn, sc, gg, mi, ms, mr, oa, ox⟩ := t
  dsimp only at *
  subst hk
  go_enter Try.func12, Try.ntmps12
  go_wp2_with fail
  refine (PutRow_calls _ oa ox a10 c10 a11 c11 (HJ.out _ ?hd).i10 HI.out.l10 (HJ.out _ ?hd).i11 HI.out.l11 HO.out.ox).mono ?_
  case hd => repeat (with_reducible first | exact Below.refl _ _ | apply below_drew | apply pw_below_drewN | apply below_alloc)
  intro e w1 hp
  obtain ⟨u, rfl, h1, h2⟩ := hp.at (w := w) (by repeat (with_reducible first | exact Below.refl _ _ | apply below_drew | apply pw_below_drewN | apply below_alloc))
  have HR := Aside0.mk h1
  have HB := Aside0.mk h2
  clear h1 h2 hp
  go_wp2_with fail
  refine (eddylaw4_num.calls _ _ _ rfl).mono ?_
  rintro e w2 ⟨rfl, ⟨⟨nd, rfl⟩⟩⟩
  go_wp2
  go_ret2
  exact ⟨u, rfl, HR.out.drewN nd, pw_below_drewN HB.out nd⟩
 rw [if_neg hk, if_neg hk]
 have h5 := hk
 clear hk
 have e2 : (t.kind == 2) = false := by simpa using h2
 have e3 : (t.kind == 3) = false := by simpa using h3
 have e4 : (t.kind == 4) = false := by simpa using h4
 have e5 : (t.kind == 5) = false := by simpa using h5
 clear h2 h3 h4 h5
 go_enter Try.func12, Try.ntmps12
 go_wp2_with fail
 refine (PutRecord_calls _ t.r a1 c1 a2 c2 (HJ.out _ ?hd).i1 HI.out.l1 (HJ.out _ ?hd).i2 HI.out.l2 HO.out.r).mono ?_
 case hd => repeat (with_reducible first | exact Below.refl _ _ | apply below_drew | apply pw_below_drewN | apply below_alloc)
 intro e w1 hp
 obtain ⟨u, rfl, h1, h2⟩ := hp.at (w := w) (by repeat (with_reducible first | exact Below.refl _ _ | apply below_drew | apply pw_below_drewN | apply below_alloc))
 have HR := Aside0.mk h1
 have HB := Aside0.mk h2
 clear h1 h2 hp
 go_wp2_with fail
 refine (eddylaw4_num.calls _ _ _ rfl).mono ?_
 rintro e w2 ⟨rfl, ⟨⟨nd, rfl⟩⟩⟩
 go_wp2
 go_ret2
 exact ⟨u, rfl, HR.out.drewN nd, pw_below_drewN HB.out nd⟩
set_option maxHeartbeats 8000000 in
theorem putRef_calls (w : World) (t : Thg) (a1 a2 a3 a4 a5 a6 a7 a8 a9 a10 a11 : Option Addr) (c1 c2 c3 c4 c5 c6 c7 c8 c9 c10 c11 : Nat) (hi : ThIn w t a1 a2 a3 a4 a5 a6 a7 a8 a9 a10 a11 c1 c2 c3 c4 c5 c6 c7 c8 c9 c10 c11) (ho : t.Ok) :
  Calls Try.prog 11 #[.agg #[.int .i64 t.kind, .string t.r.f0, .int .i64 t.r.f1.f0, .int .i64 t.r.f1.f1, .string t.r.f1.f2, .slice a1 t.r.f1.f3.length c1, .slice a2 t.r.f2.length c2, .int .i64 t.sn, .slice a3 t.sc.length c3, .int .i64 t.g.id, .int .i64 t.g.task, .int .i64 t.g.base, .int .u32 t.g.sum, .int .i64 t.g.snum, .slice a4 t.g.cells.length c4, .int .i64 t.g.dnum, .slice a5 t.g.set.length c5, .slice a6 t.g.gone.length c6, .slice a7 t.g.logs.length c7, .slice a8 t.g.pend.length c8, .int .i64 t.mi, .int .u32 t.ms, .slice a9 t.mr.length c9, .int .i64 t.oa, .string t.ox.f0, .int .i64 t.ox.f1.f0, .int .i64 t.ox.f1.f1, .string t.ox.f1.f2, .slice a10 t.ox.f1.f3.length c10, .slice a11 t.ox.f2.length c11]] w (Put w (putC t) (putB t)) := by
 have HI := Aside0.mk hi
 have HO := Aside0.mk ho
 have HJ := Aside0.mk (fun (W : World) (hb : Below w.heap.size w W) => hi.below hb)
 clear hi ho
 unfold putC putB
 by_cases hk : t.kind = 2
 ·skip
  rw [if_pos hk, if_pos hk]
  obtain ⟨kd, r, sn, sc, gg, mi, ms, mr, oa, ox⟩ := t
  dsimp only at *
  subst hk
  go_enter Try.func11, Try.ntmps11
  go_wp2_with fail
  refine (rPutState_calls _ sn sc a3 c3 (HJ.out _ ?hd).i3 HI.out.l3 (cells_short HI.out.i3) HO.out.sc).mono ?_
  case hd => repeat (with_reducible first | exact Below.refl _ _ | apply below_drew | apply pw_below_drewN | apply below_alloc)
  intro e w1 hp
  obtain ⟨u, rfl, h1, h2⟩ := hp.at (w := w) (by repeat (with_reducible first | exact Below.refl _ _ | apply below_drew | apply pw_below_drewN | apply below_alloc))
  have HR := Aside0.mk h1
  have HB := Aside0.mk h2
  clear h1 h2 hp
  go_wp2
  go_ret2
  exact ⟨u, rfl, HR.out, HB.out⟩
 rw [if_neg hk, if_neg hk]
 have h2 := hk
 clear hk
 by_cases hk : t.kind = 3
 ·skip
  rw [if_pos hk, if_pos hk]
  obtain ⟨kd, r, sn, sc, gg, mi, ms, mr, oa, ox⟩ := t
  dsimp only at *
  subst hk
  go_enter Try.func11, Try.ntmps11
  go_wp2_with fail
  refine (rPutSegment_calls _ gg a4 a5 a6 a7 a8 c4 c5 c6 c7 c8 (HJ.out _ ?hd).i4 (HJ.out _ ?hd).i5 (HJ.out _ ?hd).i6 (HJ.out _ ?hd).i7 (HJ.out _ ?hd).i8 HI.out.l4 HI.out.l5 HI.out.l6 HI.out.l7 HI.out.l8 HI.out.short HO.out.g).mono ?_
  case hd => repeat (with_reducible first | exact Below.refl _ _ | apply below_drew | apply pw_below_drewN | apply below_alloc)
  intro e w1 hp
  obtain ⟨u, rfl, h1, h2⟩ := hp.at (w := w) (by repeat (with_reducible first | exact Below.refl _ _ | apply below_drew | apply pw_below_drewN | apply below_alloc))
  have HR := Aside0.mk h1
  have HB := Aside0.mk h2
  clear h1 h2 hp
  go_wp2
  go_ret2
  exact ⟨u, rfl, HR.out, HB.out⟩
 rw [if_neg hk, if_neg hk]
 have h3 := hk
 clear hk
 by_cases hk : t.kind = 4
 ·skip
  rw [if_pos hk, if_pos hk]
  obtain ⟨kd, r, sn, sc, gg, mi, ms, mr, oa, ox⟩ := t
  dsimp only at *
  subst hk
  go_enter Try.func11, Try.ntmps11
  go_wp2_with fail
  refine (rPutManifest_calls _ mi ms mr a9 c9 (HJ.out _ ?hd).i9 HI.out.l9 HO.out.ms HO.out.mr).mono ?_
  case hd => repeat (with_reducible first | exact Below.refl _ _ | apply below_drew | apply pw_below_drewN | apply below_alloc)
  intro e w1 hp
  obtain ⟨u, rfl, h1, h2⟩ := hp.at (w := w) (by repeat (with_reducible first | exact Below.refl _ _ | apply below_drew | apply pw_below_drewN | apply below_alloc))
  have HR := Aside0.mk h1
  have HB := Aside0.mk h2
  clear h1 h2 hp
  go_wp2
  go_ret2
  exact ⟨u, rfl, HR.out, HB.out⟩
 rw [if_neg hk, if_neg hk]
 have h4 := hk
 clear hk
 by_cases hk : t.kind = 5
 ·skip
  rw [if_pos hk, if_pos hk]
  obtain ⟨kd, r, sn, sc, gg, mi, ms, mr, oa, ox⟩ := t
  dsimp only at *
  subst hk
  go_enter Try.func11, Try.ntmps11
  go_wp2_with fail
  refine (rPutRow_calls _ oa ox a10 c10 a11 c11 (HJ.out _ ?hd).i10 HI.out.l10 (HJ.out _ ?hd).i11 HI.out.l11 HO.out.ox).mono ?_
  case hd => repeat (with_reducible first | exact Below.refl _ _ | apply below_drew | apply pw_below_drewN | apply below_alloc)
  intro e w1 hp
  obtain ⟨u, rfl, h1, h2⟩ := hp.at (w := w) (by repeat (with_reducible first | exact Below.refl _ _ | apply below_drew | apply pw_below_drewN | apply below_alloc))
  have HR := Aside0.mk h1
  have HB := Aside0.mk h2
  clear h1 h2 hp
  go_wp2
  go_ret2
  exact ⟨u, rfl, HR.out, HB.out⟩
 rw [if_neg hk, if_neg hk]
 have h5 := hk
 clear hk
 have e2 : (t.kind == 2) = false := by simpa using h2
 have e3 : (t.kind == 3) = false := by simpa using h3
 have e4 : (t.kind == 4) = false := by simpa using h4
 have e5 : (t.kind == 5) = false := by simpa using h5
 clear h2 h3 h4 h5
 go_enter Try.func11, Try.ntmps11
 go_wp2_with fail
 refine (rPutRecord_calls _ t.r a1 c1 a2 c2 (HJ.out _ ?hd).i1 HI.out.l1 (HJ.out _ ?hd).i2 HI.out.l2 HO.out.r).mono ?_
 case hd => repeat (with_reducible first | exact Below.refl _ _ | apply below_drew | apply pw_below_drewN | apply below_alloc)
 intro e w1 hp
 obtain ⟨u, rfl, h1, h2⟩ := hp.at (w := w) (by repeat (with_reducible first | exact Below.refl _ _ | apply below_drew | apply pw_below_drewN | apply below_alloc))
 have HR := Aside0.mk h1
 have HB := Aside0.mk h2
 clear h1 h2 hp
 go_wp2
 go_ret2
 exact ⟨u, rfl, HR.out, HB.out⟩
end Go.Proofs.Ythmkioodkldgbaa.DK
