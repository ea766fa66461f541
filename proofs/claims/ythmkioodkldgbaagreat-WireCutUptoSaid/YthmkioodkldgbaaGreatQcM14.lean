/- What each Go function named in this text computes, as a Lean function, and that the Go code comes to it; conditions: those in each theorem. (Lines written by this session's program.) -/
import Derived.Test.YthmkioodkldgbaaGreatQcM04
import Derived.Test.YthmkioodkldgbaaGreatQcM13
namespace Go.Proofs.YthmkioodkldgbaaGreat.PD
open Go.RowKit Go.Proofs.YthmkioodkldgbaaGreatW.PrintWords Go.Proofs.YthmkioodkldgbaaGreatW.PrintLast Go.Proofs.YthmkioodkldgbaaGreatW.PrintMore
attribute [local go_sem] max2_int min2_int max_two min_two max_three min_three max_four min_four   -- for this text's walks alone
set_option linter.unusedVariables false
set_option linter.unusedSimpArgs false
/-! ### eddysize_Count_Record: function 63 -/
def eddysize_Count_Record.f (s0_0 : Int) (a1_0 : ByteArray) (a1_1 : Int) (a1_2 : Int) (a1_3 : ByteArray) (l1_4 : List (S25)) (l1_5 : List Int) : Option (Int) := (eddysize_Count_Add.f s0_0 (wrap64 (1 + (l1_5.length : Int)))).bind fun bt103 => ((eddysize_Count_Values.f bt103.2 l1_4).bind fun t105 => (some t105))
set_option maxHeartbeats 8000000 in
set_option maxRecDepth 100000 in
theorem eddysize_Count_Record.calls (g : Nat) (s0_0 : Int) (a1_0 : ByteArray) (a1_1 : Int) (a1_2 : Int) (a1_3 : ByteArray) (A1_4 : Option Addr) (c1_4 : Nat) (l1_4 : List (S25)) (A1_5 : Option Addr) (c1_5 : Nat) (l1_5 : List Int) (r : Int) (w0 w : World) (hI : IsS170 w0 w g s0_0) (hB : Below w0.heap.size w0 w) (hr1_4 : ∀ W_, KeepBut w W_ g none → Kd.C k25 W_ A1_4 l1_4.length l1_4) (hc1_4 : l1_4.length ≤ c1_4) (hr1_5 : Kd.C (Kd.int .i64) w A1_5 l1_5.length l1_5) (hc1_5 : l1_5.length ≤ c1_5) (hf1_5 : ∀ ad, A1_5 = some ad → 0 < l1_5.length → ad.block ≠ g) (h : eddysize_Count_Record.f s0_0 a1_0 a1_1 a1_2 a1_3 l1_4 l1_5 = some r) :
  Calls Tryz.prog 45 #[.pointer (some ⟨g, 0, none⟩), .agg #[.string a1_0, .int .i64 a1_1, .int .i64 a1_2, .string a1_3, .slice A1_4 l1_4.length c1_4, .slice A1_5 l1_5.length c1_5]] w fun e w' => e = .returned (.tuple #[]) ∧ IsS170 w0 w' g r ∧ Below w0.heap.size w0 w' ∧ KeepBut w w' g none := by
 have hu28 := Tryz.underlying27
 have HR1_4 := Aside0.mk hr1_4
 have HC1_4 := Aside0.mk hc1_4
 clear hr1_4 hc1_4
 have HR1_5 := Aside0.mk hr1_5
 have HC1_5 := Aside0.mk hc1_5
 clear hr1_5 hc1_5
 have HI0 := Aside0.mk hI
 have HK := Aside0.mk (KeepBut.refl w g none)
 have HL := Aside0.mk hB.size
 clear hI
 have HW0 := Aside0.mk hB.size
 have HB := Aside0.mk hB
 clear hB
 have H : ((eddysize_Count_Add.f s0_0 (wrap64 (1 + (l1_5.length : Int)))).bind fun bt103 => ((eddysize_Count_Values.f bt103.2 l1_4).bind fun t105 => (some t105))) = some r := h
 clear h
 replace H := Option.bind_eq_some_iff.mp H
 obtain ⟨⟨t103, t104⟩, A30, H⟩ := H
 replace H : ((eddysize_Count_Values.f t104 l1_4).bind fun t105 => (some t105)) = some r := H
 have A3 := Aside0.mk A30
 clear A30
 replace H := Option.bind_eq_some_iff.mp H
 obtain ⟨t105, A40, H⟩ := H
 replace H : (some t105) = some r := H
 have A4 := Aside0.mk A40
 clear A40
 obtain rfl := Option.some.inj H
 go_enter Tryz.func45, Tryz.ntmps45
 go_wp2_with (first | ((with_reducible refine gate_dst (N := 3) rfl ?_); refine box_event ?hg (N := 3) ?hd (cs := #[.string a1_0, .int .i64 a1_1, .int .i64 a1_2, .string a1_3, .slice A1_4 l1_4.length c1_4, .slice A1_5 l1_5.length c1_5]) (t := 27) ?hr ?_; (case hd => rfl); (case hg => rfl); (case hr => first | (go_simp; done) | (go_simp; rfl)); intro gb102 hg w5 hbox hb; have n0_ := Aside0.mk (IsS170.below (by repeat (first | (with_reducible first | exact HI0.out | apply IsS170.alloc | apply IsS170.drewN | apply IsS170.drew | apply IsS170.set_0) | exact HI0.out)) hb); have n1_ := Aside0.mk (KeepBut.trans (by repeat (first | (with_reducible first | exact HK.out | apply KeepBut.set_ | apply keep_drewN | apply keep_drew | apply keep_alloc) | exact HK.out)) (KeepBut.of_below hb g none) (.inl rfl)); have n2_ := Aside0.mk (below_step (by repeat (first | (with_reducible first | exact HB.out | apply below_alloc | apply pw_below_drewN | apply below_drew1 | refine below_set ?_ (IsS170.ge HI0.out)) | exact HB.out)) hb); have n3_ := Aside0.mk (hbox); have n4_ := Aside0.mk ((by rw [hg]; exact (keep_size (w := w) (g := g) (row := none) (by repeat (first | (with_reducible first | exact HK.out | apply KeepBut.set_ | apply keep_drewN | apply keep_drew | apply keep_alloc) | exact HK.out))) : w.heap.size ≤ gb102)); have n5_ := Aside0.mk ((Nat.le_trans HW0.out (by rw [hg]; exact (keep_size (w := w) (g := g) (row := none) (by repeat (first | (with_reducible first | exact HK.out | apply KeepBut.set_ | apply keep_drewN | apply keep_drew | apply keep_alloc) | exact HK.out))) : w.heap.size ≤ gb102) : w0.heap.size ≤ gb102)); have n6_ := Aside0.mk ((by rw [hg]; exact Nat.ne_of_lt (IsS170.lt (show IsS170 w0 _ g s0_0 from by repeat (first | (with_reducible first | exact HI0.out | apply IsS170.alloc | apply IsS170.drewN | apply IsS170.drew | apply IsS170.set_0) | exact HI0.out))) : g ≠ gb102)); have n7_ := Aside0.mk ((by rw [hg]; exact Nat.ne_of_gt (IsS170.lt (show IsS170 w0 _ g s0_0 from by repeat (first | (with_reducible first | exact HI0.out | apply IsS170.alloc | apply IsS170.drewN | apply IsS170.drew | apply IsS170.set_0) | exact HI0.out))) : gb102 ≠ g)); clear HI0; clear HK; clear HB; have HI0 := n0_; have HK := n1_; have HB := n2_; have BK102 := n3_; have GW102 := n4_; have GE102 := n5_; have NB0_102 := n6_; have NB102_0 := n7_; clear n0_ n1_ n2_ n3_ n4_ n5_ n6_ n7_; clear hb hbox hg; have hnb6 := NB102_0.out; have hnc6 := NB0_102.out; have hcz7_0 : w5.cell? ⟨gb102, 0, none⟩ = some (.string a1_0) := (blk_cell BK102.out 0).trans rfl; have hcz7_1 : w5.cell? ⟨gb102, 1, none⟩ = some (.int .i64 a1_1) := (blk_cell BK102.out 1).trans rfl; have hcz7_2 : w5.cell? ⟨gb102, 2, none⟩ = some (.int .i64 a1_2) := (blk_cell BK102.out 2).trans rfl; have hcz7_3 : w5.cell? ⟨gb102, 3, none⟩ = some (.string a1_3) := (blk_cell BK102.out 3).trans rfl; have hcz7_4 : w5.cell? ⟨gb102, 4, none⟩ = some (.slice A1_4 l1_4.length c1_4) := (blk_cell BK102.out 4).trans rfl; have hcz7_5 : w5.cell? ⟨gb102, 5, none⟩ = some (.slice A1_5 l1_5.length c1_5) := (blk_cell BK102.out 5).trans rfl; have hfz7_0 := blk_frozen BK102.out 0; have hfz7_1 := blk_frozen BK102.out 1; have hfz7_2 := blk_frozen BK102.out 2; have hfz7_3 := blk_frozen BK102.out 3; have hfz7_4 := blk_frozen BK102.out 4; have hfz7_5 := blk_frozen BK102.out 5) | ((with_reducible refine gate_callee (f := 85) rfl ?_); refine goesL_ (some 9) rfl rfl Tryz.func85 (by kernel_rfl) rfl #[.pointer (some ⟨g, 0, none⟩), .int .i64 (wrap64 (1 + (l1_5.length : Int)))] rfl (by (try simp only [List.map_toArray, List.map_cons, List.map_nil]); first | done | rfl | (simp only [List.length_drop, List.length_take]; rfl)) ?_; (with_reducible refine (eddysize_Count_Add.calls g s0_0 (wrap64 (1 + (l1_5.length : Int))) t103 t104 w0 _ ?side1 ?side2 A3.out).mono ?_); (case side1 => repeat (first | (with_reducible first | exact HI0.out | apply IsS170.alloc | apply IsS170.drewN | apply IsS170.drew | apply IsS170.set_0 | refine IsS170.far ?_ NB0_102.out _) | exact HI0.out)); (case side2 => repeat (first | (with_reducible first | exact HB.out | apply below_alloc | apply pw_below_drewN | apply below_drew1 | refine below_set ?_ (IsS170.ge HI0.out) | refine below_set ?_ GE102.out) | exact HB.out)); rintro e w8 ⟨rfl, hi, hb, hk⟩; refine ⟨_, rfl, ?_⟩; have n0_ := Aside0.mk (KeepBut.blk hk (g' := gb102) (o := .cells #[.string a1_0, .int .i64 a1_1, .int .i64 a1_2, .string a1_3, .slice A1_4 l1_4.length c1_4, .slice A1_5 l1_5.length c1_5] 27 (0, 0)) (by (with_reducible repeat (first | refine blk_drewN ?_ _ | refine blk_drew ?_ | refine blk_alloc ?_ _)); exact BK102.out) NB102_0.out (by simp)); have n1_ := Aside0.mk (KeepBut.trans (by repeat (first | (with_reducible first | exact HK.out | apply KeepBut.set_ | apply keep_drewN | apply keep_drew | apply keep_alloc | refine keep_far ?_ GW102.out _) | exact HK.out)) hk (.inl rfl)); have n2_ := Aside0.mk (hb); have n3_ := Aside0.mk (hi); clear BK102; clear HK; clear HB; clear HI0; have BK102 := n0_; have HK := n1_; have HB := n2_; have HI0 := n3_; clear n0_ n1_ n2_ n3_; (try clear hb); (try clear hb2); (try clear hk); (try clear hi); have hcz9_0 : w8.cell? ⟨gb102, 0, none⟩ = some (.string a1_0) := (blk_cell BK102.out 0).trans rfl; have hcz9_1 : w8.cell? ⟨gb102, 1, none⟩ = some (.int .i64 a1_1) := (blk_cell BK102.out 1).trans rfl; have hcz9_2 : w8.cell? ⟨gb102, 2, none⟩ = some (.int .i64 a1_2) := (blk_cell BK102.out 2).trans rfl; have hcz9_3 : w8.cell? ⟨gb102, 3, none⟩ = some (.string a1_3) := (blk_cell BK102.out 3).trans rfl; have hcz9_4 : w8.cell? ⟨gb102, 4, none⟩ = some (.slice A1_4 l1_4.length c1_4) := (blk_cell BK102.out 4).trans rfl; have hcz9_5 : w8.cell? ⟨gb102, 5, none⟩ = some (.slice A1_5 l1_5.length c1_5) := (blk_cell BK102.out 5).trans rfl; have hfz9_0 := blk_frozen BK102.out 0; have hfz9_1 := blk_frozen BK102.out 1; have hfz9_2 := blk_frozen BK102.out 2; have hfz9_3 := blk_frozen BK102.out 3; have hfz9_4 := blk_frozen BK102.out 4; have hfz9_5 := blk_frozen BK102.out 5) | ((with_reducible refine gate_callee (f := 86) rfl ?_); refine goesL_ (some 14) rfl rfl Tryz.func86 (by kernel_rfl) rfl #[.pointer (some ⟨g, 0, none⟩), .slice A1_4 l1_4.length c1_4] rfl (by (try simp only [List.map_toArray, List.map_cons, List.map_nil]); first | done | rfl | (simp only [List.length_drop, List.length_take]; rfl)) ?_; (with_reducible refine (eddysize_Count_Values.calls g t104 _ _ l1_4 t105 w0 _ ?side1 ?side2 ?side3 ?side4 A4.out).mono ?_); (case side1 => repeat (first | (with_reducible first | exact HI0.out | apply IsS170.alloc | apply IsS170.drewN | apply IsS170.drew | apply IsS170.set_0 | refine IsS170.far ?_ NB0_102.out _) | exact HI0.out)); (case side2 => repeat (first | (with_reducible first | exact HB.out | apply below_alloc | apply pw_below_drewN | apply below_drew1 | refine below_set ?_ (IsS170.ge HI0.out) | refine below_set ?_ GE102.out) | exact HB.out)); (case side3 => exact Kd.C_foot_step HR1_4.out (by repeat (first | (with_reducible first | exact HK.out | apply KeepBut.set_ | apply keep_drewN | apply keep_drew | apply keep_alloc | refine keep_far ?_ GW102.out _) | exact HK.out))); (case side4 => exact HC1_4.out); rintro e w10 ⟨rfl, hi, hb, hk⟩; refine ⟨_, rfl, ?_⟩; have n0_ := Aside0.mk (KeepBut.blk hk (g' := gb102) (o := .cells #[.string a1_0, .int .i64 a1_1, .int .i64 a1_2, .string a1_3, .slice A1_4 l1_4.length c1_4, .slice A1_5 l1_5.length c1_5] 27 (0, 0)) (by (with_reducible repeat (first | refine blk_drewN ?_ _ | refine blk_drew ?_ | refine blk_alloc ?_ _)); exact BK102.out) NB102_0.out (by simp)); have n1_ := Aside0.mk (KeepBut.trans (by repeat (first | (with_reducible first | exact HK.out | apply KeepBut.set_ | apply keep_drewN | apply keep_drew | apply keep_alloc | refine keep_far ?_ GW102.out _) | exact HK.out)) hk (.inl rfl)); have n2_ := Aside0.mk (hb); have n3_ := Aside0.mk (hi); clear BK102; clear HK; clear HB; clear HI0; have BK102 := n0_; have HK := n1_; have HB := n2_; have HI0 := n3_; clear n0_ n1_ n2_ n3_; (try clear hb); (try clear hb2); (try clear hk); (try clear hi)))
 first | go_end0 | ((try simp only [Exit.inBlock, Exit.then]); refine bodyPost_ret (results_none rfl _ _ _) rfl ?_)
 exact ⟨by first | rfl | (simp [errW_none, errW_some] <;> rfl) | (simp [*, errW_none, errW_some] <;> rfl), by repeat (first | (with_reducible first | exact HI0.out | apply IsS170.alloc | apply IsS170.drewN | apply IsS170.drew | apply IsS170.set_0 | refine IsS170.far ?_ NB0_102.out _) | exact HI0.out), by repeat (first | (with_reducible first | exact HB.out | apply below_alloc | apply pw_below_drewN | apply below_drew1 | refine below_set ?_ (IsS170.ge HI0.out) | refine below_set ?_ GE102.out) | exact HB.out), by repeat (first | (with_reducible first | exact HK.out | apply KeepBut.set_ | apply keep_drewN | apply keep_drew | apply keep_alloc | refine keep_far ?_ GW102.out _) | exact HK.out)⟩

end Go.Proofs.YthmkioodkldgbaaGreat.PD
/- eddysize.Count over things: a number is left; conditions: those in each theorem. -/
namespace Go.Proofs.YthmkioodkldgbaaGreat.DK
open Go.Proofs.YthmkioodkldgbaaGreat.PD
open Go.RowKit Go.Proofs.YthmkioodkldgbaaGreatW.PrintWords Go.Proofs.YthmkioodkldgbaaGreatW.PrintLast Go.Proofs.YthmkioodkldgbaaGreatW.PrintMore
set_option linter.unusedVariables false
set_option linter.unusedSimpArgs false
set_option maxRecDepth 100000
theorem heap25 : Kd.Heap k25 := Kd.heap_fix (fun d h => Kd.heap_iso _ (Kd.heap_pair (Kd.heap_int _) (Kd.heap_pair (Kd.heap_int _) (Kd.heap_pair Kd.heap_string (Kd.heap_slice 24 h)))))
/-- A count is left. -/
def Cnt (w0 : World) (g : Nat) (W : World) : Prop := ∃ q, IsS170 w0 W g q ∧ Below w0.heap.size w0 W
theorem Cnt.step {w0 W W' : World} {g : Nat} (h : Cnt w0 g W) (hb : Below W.heap.size W W') : Cnt w0 g W' := by
 obtain ⟨q, ⟨h1, h2⟩, h3⟩ := h
 exact ⟨q, ⟨(hb.block g (blk_lt h1)).trans h1, h2⟩, h3.trans (hb.mono h3.size)⟩
def CntP (w0 w : World) (g : Nat) (e : Ending) (w' : World) : Prop := e = .returned (.tuple #[]) ∧ Cnt w0 g w' ∧ KeepBut w w' g none
theorem keep_tr {w w1 w2 : World} {g : Nat} (h : KeepBut w w1 g none) (k : KeepBut w1 w2 g none) : KeepBut w w2 g none := h.trans k (.inl rfl)
theorem keep_bel {w w1 : World} {g : Nat} (h : Below w.heap.size w w1) : KeepBut w w1 g none := KeepBut.of_below h g none
theorem vals_cnt (w0 w : World) (g : Nat) (h : Cnt w0 g w) (l : List S25) (A : Option Addr) (c : Nat) (hr : k25.C w0 A l.length l) (hc : l.length ≤ c) : Calls Tryz.prog 86 #[.pointer (some ⟨g, 0, none⟩), .slice A l.length c] w (CntP w0 w g) := by
 obtain ⟨q, hI, hB⟩ := h
 exact (eddysize_Count_Values.calls g q A c l _ w0 w hI hB (Kd.C_foot_came heap25 hr hB hI.2) hc rfl).mono fun e w' ⟨he, h1, h2, h3⟩ => ⟨he, ⟨_, h1, h2⟩, h3⟩
theorem add_cnt (w0 w : World) (g : Nat) (h : Cnt w0 g w) (n : Int) : Calls Tryz.prog 85 #[.pointer (some ⟨g, 0, none⟩), .int .i64 n] w fun e w' => (∃ b, e = .returned (.bool b)) ∧ Cnt w0 g w' ∧ KeepBut w w' g none := by
 obtain ⟨q, hI, hB⟩ := h
 exact (eddysize_Count_Add.calls g q n _ _ w0 w hI hB (cadd_f q n)).mono fun e w' ⟨he, h1, h2, h3⟩ => ⟨⟨_, he⟩, ⟨_, h1, h2⟩, h3⟩
theorem rec_cnt (w0 w : World) (g : Nat) (h : Cnt w0 g w) (x : S28) (A4 : Option Addr) (c4 : Nat) (A5 : Option Addr) (c5 : Nat) (h4 : k25.C w0 A4 x.f1.f3.length x.f1.f3) (l4 : x.f1.f3.length ≤ c4) (h5 : (Kd.int .i64).C w0 A5 x.f2.length x.f2) (l5 : x.f2.length ≤ c5) :
  Calls Tryz.prog 45 #[.pointer (some ⟨g, 0, none⟩), .agg #[.string x.f0, .int .i64 x.f1.f0, .int .i64 x.f1.f1, .string x.f1.f2, .slice A4 x.f1.f3.length c4, .slice A5 x.f2.length c5]] w (CntP w0 w g) := by
 obtain ⟨q, hI, hB⟩ := h
 have hf : eddysize_Count_Record.f q x.f0 x.f1.f0 x.f1.f1 x.f1.f2 x.f1.f3 x.f2 = some (cntL x.f1.f3 (cadd (cadd q (wrap64 (1 + (x.f2.length : Int)))) x.f1.f3.length)) := by
  unfold eddysize_Count_Record.f
  rw [cadd_f]
  rfl
 exact (eddysize_Count_Record.calls g q x.f0 x.f1.f0 x.f1.f1 x.f1.f2 A4 c4 x.f1.f3 A5 c5 x.f2 _ w0 w hI hB (Kd.C_foot_came heap25 h4 hB hI.2) l4 (Kd.C_below h5 hB) l5 (fun ad e hn hg => by
  have h1 := Kd.C_lt (d := Kd.int .i64) (ad := ad) (e ▸ h5) hn (by decide)
  have h2 := hI.2
  omega) hf).mono fun e w' ⟨he, h1, h2, h3⟩ => ⟨he, ⟨_, h1, h2⟩, h3⟩
def CntE (w0 w : World) (g m : Nat) (iv : Value) (wr : World) : Prop := ∃ i : Nat, iv = .int .i64 i ∧ i ≤ m ∧ Cnt w0 g wr ∧ KeepBut w wr g none
set_option maxHeartbeats 8000000 in
theorem cells_cnt (w0 w : World) (g : Nat) (h : Cnt w0 g w) (l : List S121) (A : Option Addr) (c : Nat) (hr : k121.C w0 A l.length l) (hc : l.length ≤ c) : Calls Tryz.prog 46 #[.pointer (some ⟨g, 0, none⟩), .slice A l.length c] w (CntP w0 w g) := by
 have hln : l.length ≤ 9223372036854775807 := hr.2.1
 have H := Aside0.mk h
 have HR := Aside0.mk hr
 clear h hr
 unfold CntP
 go_enter Tryz.func46, Tryz.ntmps46
 go_wp2_with fail
 refine (add_cnt w0 _ g (H.out.step ?hd) _).mono ?_
 case hd => repeat (with_reducible first | exact Below.refl _ _ | apply below_drew | apply pw_below_drewN | apply below_alloc)
 rintro e w1 ⟨⟨b, rfl⟩, h1, k1⟩
 have H1 := Aside0.mk h1
 have K1 := Aside0.mk k1
 clear h1 k1
 go_wp2
 go_loopw [4] (fun iv wr => CntE w0 w g l.length iv wr) (fun iv _ => l.length - (intOf iv).toNat)
 case atStart => exact ⟨0, rfl, Nat.zero_le _, H1.out, K1.out⟩
 case round =>
  obtain ⟨i, rfl, hle, hc1, hk1⟩ := hrel
  have HKr := Aside0.mk hk1
  clear hk1
  by_cases hlt : i < l.length
  ·skip
   obtain ⟨q, hI, hB⟩ := hc1
   have HI2 := Aside0.mk hI
   have HB2 := Aside0.mk hB
   clear hI hB
   go_wp2_with fail
   refine (eddysize_Count_Ok.calls g q _ _ w0 _ ?hi ?hb rfl).mono ?_
   case hi => repeat (first | exact HI2.out | apply IsS170.alloc | apply IsS170.drewN | apply IsS170.drew)
   case hb => repeat (with_reducible first | exact HB2.out | apply below_alloc | apply pw_below_drewN | apply below_drew1)
   rintro e w3 ⟨rfl, hI3, hB3, hK3⟩
   have H3 := Aside0.mk (show Cnt w0 g w3 from ⟨_, hI3, hB3⟩)
   have K3 := Aside0.mk (keep_tr HKr.out hK3)
   have HB3 := Aside0.mk hB3
   clear hI3 hK3 hB3
   by_cases hq : 0 ≤ q
   ·have hqb : decide (q ≥ 0) = true := by simpa using hq
    have hat := at_T121 HR.out (i : Int) (by omega) (by omega)
    rw [show rd_T121 l (i : Int) = l[i] from getD_nat l _ i hlt] at hat
    simp only [Int.toNat_natCast] at hat
    obtain ⟨ad, A1, c1, rfl, d0, d1, l1, g1⟩ := hat
    have G1 := Aside0.mk g1
    have D1 := Aside0.mk (pw_cell_below HB3.out d1)
    clear g1 d0 d1
    have d1 := D1.out
    generalize l[i] = x at *
    go_wp2_with fail
    refine (vals_cnt w0 _ g (H3.out.step ?hd) x.f1 A1 c1 G1.out l1).mono ?_
    case hd => repeat (with_reducible first | exact Below.refl _ _ | apply below_drew | apply pw_below_drewN | apply below_alloc)
    rintro e w5 ⟨rfl, h5, k5⟩
    have H5 := Aside0.mk h5
    have K5 := Aside0.mk (keep_tr K3.out (keep_tr (keep_bel (by repeat (with_reducible first | exact Below.refl _ _ | apply below_drew | apply pw_below_drewN | apply below_alloc))) k5))
    clear h5 k5
    go_wp2
    go_roundw
    case rel => exact ⟨i + 1, by simp, hlt, H5.out, K5.out⟩
    case measure => simp [intOf]; omega
   ·have hqb : decide (q ≥ 0) = false := by simpa using hq
    go_wp2
    first | go_end0 | ((try simp only [Exit.inBlock, Exit.then]); refine bodyPost_ret (results_none rfl _ _ _) rfl ?_)
    exact ⟨rfl, H3.out, K3.out⟩
  ·skip
   have hir : ¬ (i : Int) < (l.length : Int) := by omega
   have H9 := Aside0.mk hc1
   clear hc1
   go_wp2
   first | go_end0 | ((try simp only [Exit.inBlock, Exit.then]); refine bodyPost_ret (results_none rfl _ _ _) rfl ?_)
   exact ⟨rfl, H9.out, HKr.out⟩
set_option maxHeartbeats 8000000 in
theorem recs_cnt (w0 w : World) (g : Nat) (h : Cnt w0 g w) (l : List S28) (A : Option Addr) (c : Nat) (hr : k28.C w0 A l.length l) (hc : l.length ≤ c) : Calls Tryz.prog 88 #[.pointer (some ⟨g, 0, none⟩), .slice A l.length c] w (CntP w0 w g) := by
 have hln : l.length ≤ 9223372036854775807 := hr.2.1
 have H := Aside0.mk h
 have HR := Aside0.mk hr
 clear h hr
 unfold CntP
 go_enter Tryz.func88, Tryz.ntmps88
 have H1 := H
 have K1 := Aside0.mk (KeepBut.refl w g none)
 go_wp2
 go_loopw [4] (fun iv wr => CntE w0 w g l.length iv wr) (fun iv _ => l.length - (intOf iv).toNat)
 case atStart => exact ⟨0, rfl, Nat.zero_le _, H1.out, K1.out⟩
 case round =>
  obtain ⟨i, rfl, hle, hc1, hk1⟩ := hrel
  have HKr := Aside0.mk hk1
  clear hk1
  by_cases hlt : i < l.length
  ·skip
   obtain ⟨q, hI, hB⟩ := hc1
   have HI2 := Aside0.mk hI
   have HB2 := Aside0.mk hB
   clear hI hB
   go_wp2_with fail
   refine (eddysize_Count_Ok.calls g q _ _ w0 _ ?hi ?hb rfl).mono ?_
   case hi => repeat (first | exact HI2.out | apply IsS170.alloc | apply IsS170.drewN | apply IsS170.drew)
   case hb => repeat (with_reducible first | exact HB2.out | apply below_alloc | apply pw_below_drewN | apply below_drew1)
   rintro e w3 ⟨rfl, hI3, hB3, hK3⟩
   have H3 := Aside0.mk (show Cnt w0 g w3 from ⟨_, hI3, hB3⟩)
   have K3 := Aside0.mk (keep_tr HKr.out hK3)
   have HB3 := Aside0.mk hB3
   clear hI3 hK3 hB3
   by_cases hq : 0 ≤ q
   ·have hqb : decide (q ≥ 0) = true := by simpa using hq
    have hat := at_T28 HR.out (i : Int) (by omega) (by omega)
    rw [show rd_T28 l (i : Int) = l[i] from getD_nat l _ i hlt] at hat
    simp only [Int.toNat_natCast] at hat
    obtain ⟨ad, A4, c4, A5, c5, rfl, d0, d1, d2, d3, d4, d5, l4, g4, l5, g5⟩ := hat
    have G4 := Aside0.mk g4
    have G5 := Aside0.mk g5
    clear g4 g5
    replace d0 := pw_cell_below HB3.out d0
    replace d1 := pw_cell_below HB3.out d1
    replace d2 := pw_cell_below HB3.out d2
    replace d3 := pw_cell_below HB3.out d3
    replace d4 := pw_cell_below HB3.out d4
    replace d5 := pw_cell_below HB3.out d5
    generalize l[i] = x at *
    go_wp2_with fail
    refine (rec_cnt w0 _ g (H3.out.step ?hd) x A4 c4 A5 c5 G4.out l4 G5.out l5).mono ?_
    case hd => repeat (with_reducible first | exact Below.refl _ _ | apply below_drew | apply pw_below_drewN | apply below_alloc)
    rintro e w5 ⟨rfl, h5, k5⟩
    have H5 := Aside0.mk h5
    have K5 := Aside0.mk (keep_tr K3.out (keep_tr (keep_bel (by repeat (with_reducible first | exact Below.refl _ _ | apply below_drew | apply pw_below_drewN | apply below_alloc))) k5))
    clear h5 k5
    go_wp2
    go_roundw
    case rel => exact ⟨i + 1, by simp, hlt, H5.out, K5.out⟩
    case measure => simp [intOf]; omega
   ·have hqb : decide (q ≥ 0) = false := by simpa using hq
    go_wp2
    first | go_end0 | ((try simp only [Exit.inBlock, Exit.then]); refine bodyPost_ret (results_none rfl _ _ _) rfl ?_)
    exact ⟨rfl, H3.out, K3.out⟩
  ·skip
   have hir : ¬ (i : Int) < (l.length : Int) := by omega
   have H9 := Aside0.mk hc1
   clear hc1
   go_wp2
   first | go_end0 | ((try simp only [Exit.inBlock, Exit.then]); refine bodyPost_ret (results_none rfl _ _ _) rfl ?_)
   exact ⟨rfl, H9.out, HKr.out⟩
set_option maxHeartbeats 8000000 in
theorem lists_cnt (w0 w : World) (g : Nat) (h : Cnt w0 g w) (l : List (List S28)) (A : Option Addr) (c : Nat) (hr : (Kd.slice 27 k28).C w0 A l.length l) (hc : l.length ≤ c) : Calls Tryz.prog 87 #[.pointer (some ⟨g, 0, none⟩), .slice A l.length c] w (CntP w0 w g) := by
 have hln : l.length ≤ 9223372036854775807 := hr.2.1
 have H := Aside0.mk h
 have HR := Aside0.mk hr
 clear h hr
 unfold CntP
 go_enter Tryz.func87, Tryz.ntmps87
 go_wp2_with fail
 refine (add_cnt w0 _ g (H.out.step ?hd) _).mono ?_
 case hd => repeat (with_reducible first | exact Below.refl _ _ | apply below_drew | apply pw_below_drewN | apply below_alloc)
 rintro e w1 ⟨⟨b, rfl⟩, h1, k1⟩
 have H1 := Aside0.mk h1
 have K1 := Aside0.mk k1
 clear h1 k1
 go_wp2
 go_loopw [4] (fun iv wr => CntE w0 w g l.length iv wr) (fun iv _ => l.length - (intOf iv).toNat)
 case atStart => exact ⟨0, rfl, Nat.zero_le _, H1.out, K1.out⟩
 case round =>
  obtain ⟨i, rfl, hle, hc1, hk1⟩ := hrel
  have HKr := Aside0.mk hk1
  clear hk1
  by_cases hlt : i < l.length
  ·skip
   obtain ⟨q, hI, hB⟩ := hc1
   have HI2 := Aside0.mk hI
   have HB2 := Aside0.mk hB
   clear hI hB
   go_wp2_with fail
   refine (eddysize_Count_Ok.calls g q _ _ w0 _ ?hi ?hb rfl).mono ?_
   case hi => repeat (first | exact HI2.out | apply IsS170.alloc | apply IsS170.drewN | apply IsS170.drew)
   case hb => repeat (with_reducible first | exact HB2.out | apply below_alloc | apply pw_below_drewN | apply below_drew1)
   rintro e w3 ⟨rfl, hI3, hB3, hK3⟩
   have H3 := Aside0.mk (show Cnt w0 g w3 from ⟨_, hI3, hB3⟩)
   have K3 := Aside0.mk (keep_tr HKr.out hK3)
   have HB3 := Aside0.mk hB3
   clear hI3 hK3 hB3
   by_cases hq : 0 ≤ q
   ·have hqb : decide (q ≥ 0) = true := by simpa using hq
    obtain ⟨ad, A1, c1, rfl, d0, l1, g1⟩ := slice_at HR.out hlt
    have G1 := Aside0.mk g1
    replace d0 := pw_cell_below HB3.out d0
    clear g1
    generalize l[i] = x at *
    go_wp2_with fail
    refine (recs_cnt w0 _ g (H3.out.step ?hd) x A1 c1 G1.out l1).mono ?_
    case hd => repeat (with_reducible first | exact Below.refl _ _ | apply below_drew | apply pw_below_drewN | apply below_alloc)
    rintro e w5 ⟨rfl, h5, k5⟩
    have H5 := Aside0.mk h5
    have K5 := Aside0.mk (keep_tr K3.out (keep_tr (keep_bel (by repeat (with_reducible first | exact Below.refl _ _ | apply below_drew | apply pw_below_drewN | apply below_alloc))) k5))
    clear h5 k5
    go_wp2
    go_roundw
    case rel => exact ⟨i + 1, by simp, hlt, H5.out, K5.out⟩
    case measure => simp [intOf]; omega
   ·have hqb : decide (q ≥ 0) = false := by simpa using hq
    go_wp2
    first | go_end0 | ((try simp only [Exit.inBlock, Exit.then]); refine bodyPost_ret (results_none rfl _ _ _) rfl ?_)
    exact ⟨rfl, H3.out, K3.out⟩
  ·skip
   have hir : ¬ (i : Int) < (l.length : Int) := by omega
   have H9 := Aside0.mk hc1
   clear hc1
   go_wp2
   first | go_end0 | ((try simp only [Exit.inBlock, Exit.then]); refine bodyPost_ret (results_none rfl _ _ _) rfl ?_)
   exact ⟨rfl, H9.out, HKr.out⟩
set_option maxHeartbeats 8000000 in
theorem part_cnt (w0 w : World) (g : Nat) (h : Cnt w0 g w) (n : Int) (cs : List S121) (ls : List (List S28)) (ps : List S28) (A B C : Option Addr) (a b c : Nat) (h1 : k121.C w0 A cs.length cs) (l1 : cs.length ≤ a) (h2 : (Kd.slice 27 k28).C w0 B ls.length ls) (l2 : ls.length ≤ b) (h3 : k28.C w0 C ps.length ps) (l3 : ps.length ≤ c) : Calls Tryz.prog 47 #[.pointer (some ⟨g, 0, none⟩), .agg #[.int .i64 n, .slice A cs.length a, .slice B ls.length b, .slice C ps.length c]] w (CntP w0 w g) := by
 have H := Aside0.mk h
 have HI1 := Aside0.mk h1
 have HI2 := Aside0.mk h2
 have HI3 := Aside0.mk h3
 obtain ⟨q0, hq1, hq2⟩ := h
 have hgl := blk_lt hq1.1
 clear h1 h2 h3 hq1 hq2
 unfold CntP
 have H0 := H
 go_enter Tryz.func47, Tryz.ntmps47
 go_wp2_with fail
 refine (cells_cnt w0 _ g (H0.out.step ?hd) cs A a HI1.out l1).mono ?_
 case hd => repeat (with_reducible first | exact Below.refl _ _ | apply below_drew | apply pw_below_drewN | apply below_alloc)
 rintro e w1 ⟨rfl, h1, k1⟩
 have H1 := Aside0.mk h1
 have K1 := Aside0.mk (keep_tr (w := w) (keep_bel (by repeat (with_reducible first | exact Below.refl _ _ | apply below_drew | apply pw_below_drewN | apply below_alloc))) k1)
 have X1 := Aside0.mk (KeepBut.blk (row := none) (w := _) (g := g) (by first | exact k1 | exact keep_tr (keep_bel (by repeat (with_reducible first | exact Below.refl _ _ | apply below_drew | apply pw_below_drewN | apply below_alloc))) k1) (heap_alloc_new w (.cells #[.int .i64 n, .slice A cs.length a, .slice B ls.length b, .slice C ps.length c] 104)) (by omega) (by simp))
 clear h1 k1
 have x1_2 := blk_cell X1.out 2
 simp only [List.getElem?_toArray, List.getElem?_cons_succ, List.getElem?_cons_zero] at x1_2
 go_wp2_with fail
 refine (lists_cnt w0 _ g (H1.out.step ?hd) ls B b HI2.out l2).mono ?_
 case hd => repeat (with_reducible first | exact Below.refl _ _ | apply below_drew | apply pw_below_drewN | apply below_alloc)
 rintro e w2 ⟨rfl, h1, k1⟩
 have H2 := Aside0.mk h1
 have K2 := Aside0.mk (keep_tr K1.out (keep_tr (keep_bel (by repeat (with_reducible first | exact Below.refl _ _ | apply below_drew | apply pw_below_drewN | apply below_alloc))) k1))
 have X2 := Aside0.mk (KeepBut.blk (row := none) (w := _) (g := g) (by first | exact k1 | exact keep_tr (keep_bel (by repeat (with_reducible first | exact Below.refl _ _ | apply below_drew | apply pw_below_drewN | apply below_alloc))) k1) X1.out (by omega) (by simp))
 clear h1 k1
 have x2_3 := blk_cell X2.out 3
 simp only [List.getElem?_toArray, List.getElem?_cons_succ, List.getElem?_cons_zero] at x2_3
 go_wp2_with fail
 refine (recs_cnt w0 _ g (H2.out.step ?hd) ps C c HI3.out l3).mono ?_
 case hd => repeat (with_reducible first | exact Below.refl _ _ | apply below_drew | apply pw_below_drewN | apply below_alloc)
 rintro e w3 ⟨rfl, h1, k1⟩
 have H3 := Aside0.mk h1
 have K3 := Aside0.mk (keep_tr K2.out (keep_tr (keep_bel (by repeat (with_reducible first | exact Below.refl _ _ | apply below_drew | apply pw_below_drewN | apply below_alloc))) k1))
 have X3 := Aside0.mk (KeepBut.blk (row := none) (w := _) (g := g) (by first | exact k1 | exact keep_tr (keep_bel (by repeat (with_reducible first | exact Below.refl _ _ | apply below_drew | apply pw_below_drewN | apply below_alloc))) k1) X2.out (by omega) (by simp))
 clear h1 k1
 go_wp2
 first | go_end0 | ((try simp only [Exit.inBlock, Exit.then]); refine bodyPost_ret (results_none rfl _ _ _) rfl ?_)
 exact ⟨rfl, H3.out, K3.out⟩
set_option maxHeartbeats 8000000 in
theorem delta_cnt (w0 w : World) (g : Nat) (h : Cnt w0 g w) (n : Int) (cs : List S121) (gs : List ByteArray) (A B : Option Addr) (a b : Nat) (h1 : k121.C w0 A cs.length cs) (l1 : cs.length ≤ a) (hg : gs.length ≤ 9223372036854775807) : Calls Tryz.prog 48 #[.pointer (some ⟨g, 0, none⟩), .agg #[.int .i64 n, .slice A cs.length a, .slice B gs.length b]] w (CntP w0 w g) := by
 have H0 := Aside0.mk h
 have HI1 := Aside0.mk h1
 obtain ⟨q0, hq1, hq2⟩ := h
 have hgl := blk_lt hq1.1
 clear h1 hq1 hq2
 unfold CntP
 go_enter Tryz.func48, Tryz.ntmps48
 go_wp2_with fail
 refine (add_cnt w0 _ g (H0.out.step ?hd) _).mono ?_
 case hd => repeat (with_reducible first | exact Below.refl _ _ | apply below_drew | apply pw_below_drewN | apply below_alloc)
 rintro e w1 ⟨⟨b0, rfl⟩, h1, k1⟩
 have H1 := Aside0.mk h1
 have K1 := Aside0.mk (keep_tr (w := w) (keep_bel (by repeat (with_reducible first | exact Below.refl _ _ | apply below_drew | apply pw_below_drewN | apply below_alloc))) k1)
 have X1 := Aside0.mk (KeepBut.blk (row := none) (w := _) (g := g) (by first | exact k1 | exact keep_tr (keep_bel (by repeat (with_reducible first | exact Below.refl _ _ | apply below_drew | apply pw_below_drewN | apply below_alloc))) k1) (heap_alloc_new w (.cells #[.int .i64 n, .slice A cs.length a, .slice B gs.length b] 34)) (by omega) (by simp))
 clear h1 k1
 have x1_1 := blk_cell X1.out 1
 simp only [List.getElem?_toArray, List.getElem?_cons_succ, List.getElem?_cons_zero] at x1_1
 go_wp2_with fail
 refine (cells_cnt w0 _ g (H1.out.step ?hd) cs A a HI1.out l1).mono ?_
 case hd => repeat (with_reducible first | exact Below.refl _ _ | apply below_drew | apply pw_below_drewN | apply below_alloc)
 rintro e w2 ⟨rfl, h1, k1⟩
 have H2 := Aside0.mk h1
 have K2 := Aside0.mk (keep_tr K1.out (keep_tr (keep_bel (by repeat (with_reducible first | exact Below.refl _ _ | apply below_drew | apply pw_below_drewN | apply below_alloc))) k1))
 have X2 := Aside0.mk (KeepBut.blk (row := none) (w := _) (g := g) (by first | exact k1 | exact keep_tr (keep_bel (by repeat (with_reducible first | exact Below.refl _ _ | apply below_drew | apply pw_below_drewN | apply below_alloc))) k1) X1.out (by omega) (by simp))
 clear h1 k1
 go_wp2
 first | go_end0 | ((try simp only [Exit.inBlock, Exit.then]); refine bodyPost_ret (results_none rfl _ _ _) rfl ?_)
 exact ⟨rfl, H2.out, K2.out⟩
end Go.Proofs.YthmkioodkldgbaaGreat.DK
/- What each Go function named in this text computes, as a Lean function, and that the Go code comes to it; conditions: those in each theorem. (Lines written by this session's program.) -/
namespace Go.Proofs.YthmkioodkldgbaaGreat.PD
open Go.RowKit Go.Proofs.YthmkioodkldgbaaGreatW.PrintWords Go.Proofs.YthmkioodkldgbaaGreatW.PrintLast Go.Proofs.YthmkioodkldgbaaGreatW.PrintMore
attribute [local go_sem] max2_int min2_int max_two min_two max_three min_three max_four min_four   -- for this text's walks alone
set_option linter.unusedVariables false
set_option linter.unusedSimpArgs false
/-! ### eddylaw4_num: function 26 -/
def eddylaw4_num.f (a0 : Int) : Option (Int) := some a0
set_option maxHeartbeats 8000000 in
set_option maxRecDepth 100000 in
theorem eddylaw4_num.calls (a0 : Int) (r : Int) (w : World) (h : eddylaw4_num.f a0 = some r) :
  Calls Tryz.prog 21 #[.int .i64 a0] w fun e w' => e = .returned (.int .i64 r) ∧ Drawn0 w w' := by
 have H : (some a0) = some r := h
 clear h
 obtain rfl := Option.some.inj H
 go_enter Tryz.func21, Tryz.ntmps21
 go_wp2
 go_ret
 exact ⟨by first | rfl | (simp; done) | (simp [*]; done), by repeat (first | exact Drawn0.refl _ | apply Drawn0.step)⟩

end Go.Proofs.YthmkioodkldgbaaGreat.PD
/- What each Go function named in this text computes, as a Lean function, and that the Go code comes to it; conditions: those in each theorem. (Lines written by this session's program.) -/
namespace Go.Proofs.YthmkioodkldgbaaGreat.PD
open Go.RowKit Go.Proofs.YthmkioodkldgbaaGreatW.PrintWords Go.Proofs.YthmkioodkldgbaaGreatW.PrintLast Go.Proofs.YthmkioodkldgbaaGreatW.PrintMore
attribute [local go_sem] max2_int min2_int max_two min_two max_three min_three max_four min_four   -- for this text's walks alone
set_option linter.unusedVariables false
set_option linter.unusedSimpArgs false
/-- A state of type 103 at block g of W; what its slices lead to came in by w0. -/
def IsS103 (w0 W : World) (g : Nat) (f0 : List Int) (f1 : Int) (f2 : Int) (f3 : List Int) (f4 : List ByteArray) (f5 : List (S25)) (f6 : Int) (f7 : Int) (f8 : Int) : Prop := ∃ A0 c0, ∃ A3 c3, ∃ A4 c4, ∃ A5 c5, W.heap[g]? = some (.cells #[.slice A0 f0.length c0, .int .i64 f1, .int .i64 f2, .slice A3 f3.length c3, .slice A4 f4.length c4, .slice A5 f5.length c5, .int .i64 f6, .int .i64 f7, .int .i64 f8] 147 (0, 0)) ∧ w0.heap.size ≤ g ∧ Kd.C (Kd.int .u8) w0 A0 f0.length f0 ∧ Kd.C (Kd.int .i64) w0 A3 f3.length f3 ∧ Kd.C Kd.string w0 A4 f4.length f4 ∧ Kd.C k25 w0 A5 f5.length f5
theorem IsS103.grown {w0 W : World} {g : Nat} {f0 : List Int} {f1 : Int} {f2 : Int} {f3 : List Int} {f4 : List ByteArray} {f5 : List (S25)} {f6 : Int} {f7 : Int} {f8 : Int} {W1 : World} {row : Option Nat} (h : IsS103 w0 W g f0 f1 f2 f3 f4 f5 f6 f7 f8) (hw : W.grownBy W1 row) (hne : some g ≠ row) : IsS103 w0 W1 g f0 f1 f2 f3 f4 f5 f6 f7 f8 := by
 obtain ⟨A0, c0, A3, c3, A4, c4, A5, c5, hb, hg, hr0, hr3, hr4, hr5⟩ := h
 exact ⟨A0, c0, A3, c3, A4, c4, A5, c5, blk_grown hb hw hne, hg, hr0, hr3, hr4, hr5⟩
theorem IsS103.kept {w0 W : World} {g : Nat} {f0 : List Int} {f1 : Int} {f2 : Int} {f3 : List Int} {f4 : List ByteArray} {f5 : List (S25)} {f6 : Int} {f7 : Int} {f8 : Int} {W1 : World} {S : Nat → Prop} (h : IsS103 w0 W g f0 f1 f2 f3 f4 f5 f6 f7 f8) (hk : Kept W W1 S) (hne : ¬ S g) : IsS103 w0 W1 g f0 f1 f2 f3 f4 f5 f6 f7 f8 := by
 obtain ⟨A0, c0, A3, c3, A4, c4, A5, c5, hb, hg, hr0, hr3, hr4, hr5⟩ := h
 exact ⟨A0, c0, A3, c3, A4, c4, A5, c5, blk_kept hb hk hne, hg, hr0, hr3, hr4, hr5⟩
theorem IsS103.below {w0 W : World} {g : Nat} {f0 : List Int} {f1 : Int} {f2 : Int} {f3 : List Int} {f4 : List ByteArray} {f5 : List (S25)} {f6 : Int} {f7 : Int} {f8 : Int} {W1 : World} (h : IsS103 w0 W g f0 f1 f2 f3 f4 f5 f6 f7 f8) (hw : Below W.heap.size W W1) : IsS103 w0 W1 g f0 f1 f2 f3 f4 f5 f6 f7 f8 := h.grown (grown_of_below hw none) (by simp)
theorem IsS103.alloc {w0 W : World} {g : Nat} {f0 : List Int} {f1 : Int} {f2 : Int} {f3 : List Int} {f4 : List ByteArray} {f5 : List (S25)} {f6 : Int} {f7 : Int} {f8 : Int} (h : IsS103 w0 W g f0 f1 f2 f3 f4 f5 f6 f7 f8) (o : Obj) : IsS103 w0 (W.alloc o) g f0 f1 f2 f3 f4 f5 f6 f7 f8 := h.below (below_alloc (Below.refl _ _) o)
theorem IsS103.drewN {w0 W : World} {g : Nat} {f0 : List Int} {f1 : Int} {f2 : Int} {f3 : List Int} {f4 : List ByteArray} {f5 : List (S25)} {f6 : Int} {f7 : Int} {f8 : Int} (h : IsS103 w0 W g f0 f1 f2 f3 f4 f5 f6 f7 f8) (m : Nat) : IsS103 w0 (W.drewN m) g f0 f1 f2 f3 f4 f5 f6 f7 f8 := h
theorem IsS103.drew {w0 W : World} {g : Nat} {f0 : List Int} {f1 : Int} {f2 : Int} {f3 : List Int} {f4 : List ByteArray} {f5 : List (S25)} {f6 : Int} {f7 : Int} {f8 : Int} (h : IsS103 w0 W g f0 f1 f2 f3 f4 f5 f6 f7 f8) : IsS103 w0 W.drew g f0 f1 f2 f3 f4 f5 f6 f7 f8 := h
theorem IsS103.at_ {w0 W : World} {g : Nat} {f0 : List Int} {f1 : Int} {f2 : Int} {f3 : List Int} {f4 : List ByteArray} {f5 : List (S25)} {f6 : Int} {f7 : Int} {f8 : Int} {w' : World} {m : Nat} (hq : W.drewN m = w') (h : IsS103 w0 W g f0 f1 f2 f3 f4 f5 f6 f7 f8) : IsS103 w0 w' g f0 f1 f2 f3 f4 f5 f6 f7 f8 := by subst hq; exact IsS103.drewN h m
theorem IsS103.apart {w0 W : World} {g : Nat} {f0 : List Int} {f1 : Int} {f2 : Int} {f3 : List Int} {f4 : List ByteArray} {f5 : List (S25)} {f6 : Int} {f7 : Int} {f8 : Int} {α : Type} {d : Kd α} {e : Nat} {base : Nat} {ok : Nat → Prop} {v : Value} {xs : List α} (h : IsS103 w0 W g f0 f1 f2 f3 f4 f5 f6 f7 f8) (ho : d.R e W base ok v xs) (ht : ∀ q, q ∈ e :: d.E → q ≠ 147) : d.R e W base (fun k => ok k ∧ k ≠ g) v xs := by
 obtain ⟨A0, c0, A3, c3, A4, c4, A5, c5, hb, hg, hr0, hr3, hr4, hr5⟩ := h
 exact Kd.R_types ho hb ht
theorem IsS103.own_ne {w0 W : World} {g : Nat} {f0 : List Int} {f1 : Int} {f2 : Int} {f3 : List Int} {f4 : List ByteArray} {f5 : List (S25)} {f6 : Int} {f7 : Int} {f8 : Int} {α : Type} {d : Kd α} {e : Nat} {base : Nat} {ok : Nat → Prop} {v : Value} {xs : List α} (h : IsS103 w0 W g f0 f1 f2 f3 f4 f5 f6 f7 f8) (ho : d.R e W base ok v xs) (ht : e ≠ 147) : some g ≠ v.ownBlock := by
 obtain ⟨A0, c0, A3, c3, A4, c4, A5, c5, hb, hg, hr0, hr3, hr4, hr5⟩ := h
 exact Kd.R_ne ho hb ht
theorem IsS103.lt {w0 W : World} {g : Nat} {f0 : List Int} {f1 : Int} {f2 : Int} {f3 : List Int} {f4 : List ByteArray} {f5 : List (S25)} {f6 : Int} {f7 : Int} {f8 : Int} (h : IsS103 w0 W g f0 f1 f2 f3 f4 f5 f6 f7 f8) : g < W.heap.size := by
 obtain ⟨A0, c0, A3, c3, A4, c4, A5, c5, hb, hg, hr0, hr3, hr4, hr5⟩ := h
 exact blk_lt hb
theorem IsS103.ge {w0 W : World} {g : Nat} {f0 : List Int} {f1 : Int} {f2 : Int} {f3 : List Int} {f4 : List ByteArray} {f5 : List (S25)} {f6 : Int} {f7 : Int} {f8 : Int} (h : IsS103 w0 W g f0 f1 f2 f3 f4 f5 f6 f7 f8) : w0.heap.size ≤ g := by
 obtain ⟨A0, c0, A3, c3, A4, c4, A5, c5, hb, hg, hr0, hr3, hr4, hr5⟩ := h
 exact hg
theorem IsS103.far {w0 W : World} {g : Nat} {f0 : List Int} {f1 : Int} {f2 : Int} {f3 : List Int} {f4 : List ByteArray} {f5 : List (S25)} {f6 : Int} {f7 : Int} {f8 : Int} {p : Addr} (h : IsS103 w0 W g f0 f1 f2 f3 f4 f5 f6 f7 f8) (hne : g ≠ p.block) (u : Value) : IsS103 w0 (W.setCell p u) g f0 f1 f2 f3 f4 f5 f6 f7 f8 := by
 obtain ⟨A0, c0, A3, c3, A4, c4, A5, c5, hb, hg, hr0, hr3, hr4, hr5⟩ := h
 exact ⟨A0, c0, A3, c3, A4, c4, A5, c5, blk_far hb hne u, hg, hr0, hr3, hr4, hr5⟩
end Go.Proofs.YthmkioodkldgbaaGreat.PD
