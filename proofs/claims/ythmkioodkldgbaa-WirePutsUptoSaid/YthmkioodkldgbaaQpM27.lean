/- eddyref4.PutSegment, walked; conditions: those in each theorem. -/
import Derived.Test.YthmkioodkldgbaaQpM26
namespace Go.Proofs.Ythmkioodkldgbaa.DK
open Go.Proofs.Ythmkioodkldgbaa.PD
open Go.RowKit Go.Proofs.YthmkioodkldgbaaW.PrintWords Go.Proofs.YthmkioodkldgbaaW.PrintLast Go.Proofs.YthmkioodkldgbaaW.PrintMore
set_option linter.unusedVariables false
set_option linter.unusedSimpArgs false
set_option maxRecDepth 100000
theorem slice_at {α : Type} {d : Kd α} {e : Nat} {w : World} {A : Option Addr} {xs : List (List α)} (h : Kd.C (Kd.slice e d) w A xs.length xs) {i : Nat} (hi : i < xs.length) : ∃ ad A1 c1, A = some ad ∧ w.cell? (ad.add i) = some (.slice A1 (xs[i]).length c1) ∧ (xs[i]).length ≤ c1 ∧ d.C w A1 (xs[i]).length xs[i] := by
 obtain ⟨ad, rfl, hc⟩ := h.2.2 (by omega)
 obtain ⟨c, hs, ⟨A1, c1, rfl, hl, hr⟩, hcell⟩ := hc i _ (List.getElem?_eq_getElem hi)
 have h0 := hcell 0 _ rfl
 exact ⟨ad, A1, c1, rfl, by simpa [Kd.slice] using h0, hl, hr⟩
structure RsI (w W0 : World) (g : Nat) (N : List Int) (K : List ByteArray) (V : List S25) (l : List (List S28)) (i : Nat) (ns : List Int) (ks : List ByteArray) (vs : List S25) (wr : World) : Prop where
 le : i ≤ l.length
 bag : BagX (RelB w) w.heap.size wr g ns ks vs 0 0 0
 up : UT [101, 3, 9, 25] w.heap.size W0 wr
 n : ns ++ (l.drop i).flatMap logN = N
 k : ks ++ (l.drop i).flatMap (fun y => y.map (fun x => x.f0)) = K
 v : vs ++ (l.drop i).flatMap (fun y => y.map (fun x => x.f1)) = V
def RsE (w W0 : World) (g : Nat) (N : List Int) (K : List ByteArray) (V : List S25) (l : List (List S28)) (iv : Value) (wr : World) : Prop := ∃ (i : Nat) (ns : List Int) (ks : List ByteArray) (vs : List S25), iv = .int .i64 i ∧ RsI w W0 g N K V l i ns ks vs wr
set_option maxHeartbeats 40000000 in
theorem rPutSegment_calls (w : World) (s : Seg) (A5 A7 A8 A9 A10 : Option Addr) (c5 c7 c8 c9 c10 : Nat) (h5 : k121.C w A5 s.cells.length s.cells) (h7 : k121.C w A7 s.set.length s.set) (h8 : Kd.string.C w A8 s.gone.length s.gone) (h9 : (Kd.slice 28 k28).C w A9 s.logs.length s.logs) (h10 : k28.C w A10 s.pend.length s.pend) (l5 : s.cells.length ≤ c5) (l7 : s.set.length ≤ c7) (l8 : s.gone.length ≤ c8) (l9 : s.logs.length ≤ c9) (l10 : s.pend.length ≤ c10) (hs : s.Short) (ho : s.Ok) :
  Calls Try.prog 33 #[.agg #[.int .i64 s.id, .int .i64 s.task, .int .i64 s.base, .int .u32 s.sum, .int .i64 s.snum, .slice A5 s.cells.length c5, .int .i64 s.dnum, .slice A7 s.set.length c7, .slice A8 s.gone.length c8, .slice A9 s.logs.length c9, .slice A10 s.pend.length c10]] w (Put w (segC s) (encSeg s)) := by
 have HC := Aside0.mk (fun (W : World) (hb : Below w.heap.size w W) => (rseg s hs).rounds.elim (fun k hk => eddyref4_fitSegment.calls k s.id s.task s.base s.sum s.snum A5 c5 s.cells s.dnum A7 c7 s.set A8 c8 s.gone A9 c9 s.logs A10 c10 s.pend (segC s) W (Kd.C_below h5 hb) l5 (Kd.C_below h7 hb) l7 (Kd.C_below h8 hb) l8 (Kd.C_below h9 hb) l9 (Kd.C_below h10 hb) l10 hk))
 have HI5 := Aside0.mk h5
 have HI7 := Aside0.mk h7
 have HI8 := Aside0.mk h8
 have HI9 := Aside0.mk h9
 have HI10 := Aside0.mk h10
 have HX := Aside0.mk hs
 have HO := Aside0.mk ho
 have hln8 : s.gone.length ≤ 9223372036854775807 := h8.2.1
 have hln9 : s.logs.length ≤ 9223372036854775807 := h9.2.1
 clear h5 h7 h8 h9 h10 hs ho
 unfold Put
 generalize hq : segC s = q at HC ⊢
 have HQ := Aside0.mk hq
 clear hq
 by_cases hz : q = 0
 rotate_left
 ·skip
  go_enter Try.func33, Try.ntmps33
  go_wp2_with fail
  refine (HC.out _ ?hw).mono ?_
  case hw => repeat (with_reducible first | exact Below.refl _ _ | apply below_drew | apply pw_below_drewN | apply below_alloc)
  rintro e w1 ⟨rfl, hb⟩
  have HB1 := Aside0.mk (show Below w.heap.size w w1 from (below_alloc (Below.refl _ _) _).trans (hb.mono (by simp)))
  clear hb
  have hqb : (q != 0) = true := by simpa using hz
  go_wp2
  go_ret2
  exact ⟨.slice none 0 0, rfl, by first | exact R5.nil _ _ | (rw [if_neg hz]; exact R5.nil _ _), HB1.out⟩
 subst hz
 have HP := Aside0.mk (segC_ok HO.out HQ.out)
 have HSS := Aside0.mk (bodyC_small HQ.out)
 have HSM := Aside0.mk HSS.out.1
 have hs1 := HSM.out.n
 have hs2 := HSM.out.k
 have hs3 := HSM.out.v
 have hs4 := HSM.out.pn
 have hwm := w64 (show -9223372036854775808 ≤ s.sum by have := HO.out.sum; omega) (show s.sum ≤ 9223372036854775807 by have := HO.out.sum; omega)
 by_cases hz : s.base = 0
 ·skip
  have e2 : (s.base == 0) = true := by simpa using hz
  have hz' := Aside0.mk hz
  have hcl := (HSS.out.2.1 hz).1
  have hcs := cells_small hcl (HSS.out.2.1 hz).2
  clear hz
  go_enter Try.func33, Try.ntmps33
  go_wp2_with fail
  refine (HC.out _ ?hw).mono ?_
  case hw => repeat (with_reducible first | exact Below.refl _ _ | apply below_drew | apply pw_below_drewN | apply below_alloc)
  rintro e w1 ⟨rfl, hb⟩
  have HB1 := Aside0.mk (show Below w.heap.size w w1 from (below_alloc (Below.refl _ _) _).trans (hb.mono (by simp)))
  have HX1 := Aside0.mk ((hb.block w.heap.size (by simp)).trans (heap_alloc_new w (.cells #[.int .i64 s.id, .int .i64 s.task, .int .i64 s.base, .int .u32 s.sum, .int .i64 s.snum, .slice A5 s.cells.length c5, .int .i64 s.dnum, .slice A7 s.set.length c7, .slice A8 s.gone.length c8, .slice A9 s.logs.length c9, .slice A10 s.pend.length c10] 39)))
  clear hb
  have HX0 := Aside0.mk (blk_alloc HX1.out (.cells #[.slice none 0 0, .slice none 0 0, .slice none 0 0, .int .i64 0, .int .i64 0, .int .i64 0] 101))
  have HN0 := Aside0.mk (heap_alloc_new w1 (.cells #[.slice none 0 0, .slice none 0 0, .slice none 0 0, .int .i64 0, .int .i64 0, .int .i64 0] 101))
  have hx0 := blk_lt HX1.out
  have HBG0 := Aside0.mk (Bag.new (Rel := RelB w) (w1.alloc (.cells #[.slice none 0 0, .slice none 0 0, .slice none 0 0, .int .i64 0, .int .i64 0, .int .i64 0] 101)) w.heap.size w1.heap.size HN0.out (by have := HB1.out.size; omega))
  have HW0 := Aside0.mk (show Below w.heap.size w (w1.alloc (.cells #[.slice none 0 0, .slice none 0 0, .slice none 0 0, .int .i64 0, .int .i64 0, .int .i64 0] 101)) from HB1.out.trans ((below_alloc (Below.refl _ _) _).mono HB1.out.size))
  have hb0 : w.heap.size ≤ (w1.alloc (.cells #[.slice none 0 0, .slice none 0 0, .slice none 0 0, .int .i64 0, .int .i64 0, .int .i64 0] 101)).heap.size := HW0.out.size
  have HU0 := Aside0.mk (UT.refl [101, 3, 9, 25] w.heap.size (w1.alloc (.cells #[.slice none 0 0, .slice none 0 0, .slice none 0 0, .int .i64 0, .int .i64 0, .int .i64 0] 101)))
  generalize hg : w1.heap.size = g at *
  generalize hW0 : w1.alloc (.cells #[.slice none 0 0, .slice none 0 0, .slice none 0 0, .int .i64 0, .int .i64 0, .int .i64 0] 101) = W0 at *
  go_wp2
  refine start_ (n := 16) (S := fun w' => w'.cell? ⟨g, 0, none⟩ = some (.slice none 0 0) ∧ w'.frozen? ⟨g, 0, none⟩ = false ∧ w'.cell? ⟨w.heap.size, 0, none⟩ = some (.int .i64 s.id) ∧ w'.cell? ⟨w.heap.size, 1, none⟩ = some (.int .i64 s.task) ∧ w'.cell? ⟨w.heap.size, 2, none⟩ = some (.int .i64 s.base)) (ds := [15]) #[false, false, false, false, false, false, false, false, false, false, false, false, false, false, false, false] (by kernel_rfl) rfl rfl ⟨(blk_cell HBG0.out.box 0), (blk_frozen HBG0.out.box 0), (blk_cell HX0.out 0), (blk_cell HX0.out 1), (blk_cell HX0.out 2)⟩ (fun hHeld => ?_)
  refine zq 0 (some 15) ?_
  refine zq 1 (some 16) ?_
  refine zq 2 (some 17) ?_
  refine zq 3 (some 18) ?_
  refine zq 5 (some 20) ?_
  refine zq 7 (some 22) ?_
  refine zq 9 (some 24) ?_
  refine zu 4 (some 19) hHeld ?_
  refine zu 6 (some 21) hHeld ?_
  refine zu 8 (some 23) hHeld ?_
  refine zu 10 (some 25) hHeld ?_
  refine one_ (i := 11) (N := some 26) #[true, true, true, true, true, true, true, true, true, true, true, true, false, false, false, false] rfl rfl (by kernel_rfl) (by decide) (fun K hK => ?_)
  refine value_ (w1 := ?_) (v := ?_) (by rfl) rfl ?_ ?_
  rotate_left 2
  ·go_simp
   constructor
   ·rfl
   ·rfl
  refine hK.out _ _ ⟨(blk_cell (blk_alloc HBG0.out.box _) 0), (blk_frozen (blk_alloc HBG0.out.box _) 0), (blk_cell (blk_alloc HX0.out _) 0), (blk_cell (blk_alloc HX0.out _) 1), (blk_cell (blk_alloc HX0.out _) 2)⟩ (fun hHeld => ?_)
  clear hK K
  refine norm_ (a' := ?_) ?_ ?_
  rotate_left
  ·show Act.put _ (some 26) _ = _
   simp only [Act.put, zla, zlb, zlc, i64_w, i32_w]
   rfl
  refine one_ (i := 12) (N := some 27) #[true, true, true, true, true, true, true, true, true, true, true, true, true, false, false, false] rfl rfl (by kernel_rfl) (by decide) (fun K hK => ?_)
  refine appN_step (by rfl) (.tmp 19) (.tmp 26) rfl (.slice none 0 0) ([]) [s.id, s.task, s.base] rfl W0 _ (by first | exact ⟨1, rfl⟩ | exact ⟨0, rfl⟩ | exact ⟨2, rfl⟩ | exact ⟨3, rfl⟩) rfl 3 rfl _ rfl (by first | rfl | simp) HBG0.out.nums hb0 (by simp) ?_
  intro vz0 wz0 h1 h2
  obtain ⟨Av0, nl0, cv0, rfl⟩ : ∃ A n c, vz0 = .slice A n c := (Kd.R_slice h1).elim (fun A h => h.elim (fun c h => ⟨A, _, c, h⟩))
  have HK0 := Aside0.mk h1
  have HT0 := Aside0.mk h2
  have HG0 := Aside0.mk (h2.blk HBG0.out.box (by decide))
  have HY0 := Aside0.mk (h2.blk HX0.out (by decide))
  clear h1 h2
  refine hK.out _ _ ⟨(blk_cell HG0.out 0), (blk_frozen HG0.out 0), (blk_cell HY0.out 0), (blk_cell HY0.out 1), (blk_cell HY0.out 2)⟩ (fun hHeld => ?_)
  clear hK K
  refine norm_ (a' := ?_) ?_ ?_
  rotate_left
  ·show Act.put _ (some 27) _ = _
   simp only [Act.put, zla, zlb, zlc, i64_w, i32_w]
   rfl
  refine zq 13 (some 28) ?_
  refine zq 14 (some 29) ?_
  refine last_ (i := 15) (N := none) #[true, true, true, true, true, true, true, true, true, true, true, true, true, true, true, true] rfl rfl (by kernel_rfl) (by decide) (fun K hK => ?_)
  refine skip_ (w1 := ?_) (by rfl) rfl ?_ ?_
  rotate_left
  ·go_simp
   rfl
  refine hK.out _ _ ?_
  clear hK K
  refine done_ (by kernel_rfl) ?_
  have HBG1 := Aside0.mk (HBG0.out.setN HT0.out HK0.out)
  have HU1 := Aside0.mk ((HU0.out.trans (HT0.out.mono (by simp))).set HG0.out (by simp) HBG0.out.ge 0 (.slice Av0 nl0 cv0))
  have HX1 := Aside0.mk (((UT.refl [101, 3, 9, 25] w.heap.size wz0).set HG0.out (by simp) HBG0.out.ge 0 (.slice Av0 nl0 cv0)).blk HY0.out (by decide))
  have hb1 : w.heap.size ≤ (wz0.setCell ⟨g, 0, none⟩ (.slice Av0 nl0 cv0)).heap.size := Nat.le_trans hb0 HU1.out.size
  clear HT0 HK0 HG0 HY0
  generalize (wz0.setCell ⟨g, 0, none⟩ (.slice Av0 nl0 cv0)) = W1 at *
  have n1_2 := blk_cell HX1.out 2
  simp only [List.getElem?_toArray, List.getElem?_cons_succ, List.getElem?_cons_zero] at n1_2
  go_wp2
  clear n1_2
  refine start_ (n := 13) (S := fun w' => w'.cell? ⟨g, 0, none⟩ = some (.slice Av0 nl0 cv0) ∧ w'.frozen? ⟨g, 0, none⟩ = false ∧ w'.cell? ⟨w.heap.size, 4, none⟩ = some (.int .i64 s.snum)) (ds := [12]) #[false, false, false, false, false, false, false, false, false, false, false, false, false] (by kernel_rfl) rfl rfl ⟨(blk_cell HBG1.out.box 0), (blk_frozen HBG1.out.box 0), (blk_cell HX1.out 4)⟩ (fun hHeld => ?_)
  refine zq 0 (some 33) ?_
  refine zq 1 (some 34) ?_
  refine zq 2 (some 35) ?_
  refine zq 3 (some 36) ?_
  refine zq 5 (some 38) ?_
  refine zq 6 (some 39) ?_
  refine zu 4 (some 37) hHeld ?_
  refine zu 7 (some 40) hHeld ?_
  refine one_ (i := 8) (N := some 41) #[true, true, true, true, true, true, true, true, true, false, false, false, false] rfl rfl (by kernel_rfl) (by decide) (fun K hK => ?_)
  refine value_ (w1 := ?_) (v := ?_) (by rfl) rfl ?_ ?_
  rotate_left 2
  ·go_simp
   constructor
   ·rfl
   ·rfl
  refine hK.out _ _ ⟨(blk_cell (blk_alloc HBG1.out.box _) 0), (blk_frozen (blk_alloc HBG1.out.box _) 0), (blk_cell (blk_alloc HX1.out _) 4)⟩ (fun hHeld => ?_)
  clear hK K
  refine norm_ (a' := ?_) ?_ ?_
  rotate_left
  ·show Act.put _ (some 41) _ = _
   simp only [Act.put, zla, zlb, zlc, i64_w, i32_w]
   rfl
  refine one_ (i := 9) (N := some 42) #[true, true, true, true, true, true, true, true, true, true, false, false, false] rfl rfl (by kernel_rfl) (by decide) (fun K hK => ?_)
  refine appN_step (by rfl) (.tmp 37) (.tmp 41) rfl (.slice Av0 nl0 cv0) ([] ++ [s.id, s.task, s.base]) [s.snum] rfl W1 _ (by first | exact ⟨1, rfl⟩ | exact ⟨0, rfl⟩ | exact ⟨2, rfl⟩ | exact ⟨3, rfl⟩) rfl 1 rfl _ rfl (by first | rfl | simp) HBG1.out.nums hb1 (by simp only [List.length_append, List.length_cons, List.length_nil]; omega) ?_
  intro vz1 wz1 h1 h2
  obtain ⟨Av1, nl1, cv1, rfl⟩ : ∃ A n c, vz1 = .slice A n c := (Kd.R_slice h1).elim (fun A h => h.elim (fun c h => ⟨A, _, c, h⟩))
  have HK1 := Aside0.mk h1
  have HT1 := Aside0.mk h2
  have HG1 := Aside0.mk (h2.blk HBG1.out.box (by decide))
  have HY1 := Aside0.mk (h2.blk HX1.out (by decide))
  clear h1 h2
  refine hK.out _ _ ⟨(blk_cell HG1.out 0), (blk_frozen HG1.out 0), (blk_cell HY1.out 4)⟩ (fun hHeld => ?_)
  clear hK K
  refine norm_ (a' := ?_) ?_ ?_
  rotate_left
  ·show Act.put _ (some 42) _ = _
   simp only [Act.put, zla, zlb, zlc, i64_w, i32_w]
   rfl
  refine zq 10 (some 43) ?_
  refine zq 11 (some 44) ?_
  refine last_ (i := 12) (N := none) #[true, true, true, true, true, true, true, true, true, true, true, true, true] rfl rfl (by kernel_rfl) (by decide) (fun K hK => ?_)
  refine skip_ (w1 := ?_) (by rfl) rfl ?_ ?_
  rotate_left
  ·go_simp
   rfl
  refine hK.out _ _ ?_
  clear hK K
  refine done_ (by kernel_rfl) ?_
  have HBG2 := Aside0.mk (HBG1.out.setN HT1.out HK1.out)
  have HU2 := Aside0.mk ((HU1.out.trans (HT1.out.mono (by simp))).set HG1.out (by simp) HBG1.out.ge 0 (.slice Av1 nl1 cv1))
  have HX2 := Aside0.mk (((UT.refl [101, 3, 9, 25] w.heap.size wz1).set HG1.out (by simp) HBG1.out.ge 0 (.slice Av1 nl1 cv1)).blk HY1.out (by decide))
  have hb2 : w.heap.size ≤ (wz1.setCell ⟨g, 0, none⟩ (.slice Av1 nl1 cv1)).heap.size := Nat.le_trans hb0 HU2.out.size
  clear HT1 HK1 HG1 HY1
  generalize (wz1.setCell ⟨g, 0, none⟩ (.slice Av1 nl1 cv1)) = W2 at *
  have n2_5 := blk_cell HX2.out 5
  simp only [List.getElem?_toArray, List.getElem?_cons_succ, List.getElem?_cons_zero] at n2_5
  go_wp2_with fail
  refine (addCells_calls w w.heap.size _ g ([] ++ [s.id, s.task, s.base] ++ [s.snum]) [] [] 0 0 0 s.cells A5 c5 ?hx ?hsz (Nat.le_refl _) HI5.out (HW0.out.trans ((HU2.out.below hb0).trans ?hdr)) (by simp only [List.length_append, List.length_cons, List.length_nil]; omega) (by rw [List.nil_append]; omega) (by rw [List.nil_append]; omega)).mono ?_
  case hx => exact ⟨_, _, _, by repeat (with_reducible first | exact HBG2.out | apply Bag.drew | apply Bag.drewN)⟩
  case hsz => exact Nat.le_trans hb2 (by first | exact Nat.le_refl _ | simp)
  case hdr => repeat (with_reducible first | exact Below.refl _ _ | apply below_drew | apply pw_below_drewN)
  rintro e W3 ⟨rfl, h1, h2⟩
  obtain ⟨un3, uk3, uv3, h1⟩ := h1
  have HBG3 := Aside0.mk h1
  have HU3 := Aside0.mk (UT.trans (w := W0) (by repeat (with_reducible first | exact HU2.out | apply UT.drew | apply UT.drewN)) h2)
  have HX3 := Aside0.mk (h2.blk (by repeat (with_reducible first | exact HX2.out | apply blk_drew | apply blk_drewN)) (by decide))
  have hb3 : w.heap.size ≤ W3.heap.size := Nat.le_trans hb0 HU3.out.size
  clear h1 h2
  clear n2_5
  go_wp2
  refine start_ (n := 13) (S := fun w' => w'.cell? ⟨g, 0, none⟩ = some un3 ∧ w'.frozen? ⟨g, 0, none⟩ = false ∧ w'.cell? ⟨w.heap.size, 9, none⟩ = some (.slice A9 s.logs.length c9)) (ds := [12]) #[false, false, false, false, false, false, false, false, false, false, false, false, false] (by kernel_rfl) rfl rfl ⟨(blk_cell HBG3.out.box 0), (blk_frozen HBG3.out.box 0), (blk_cell HX3.out 9)⟩ (fun hHeld => ?_)
  refine zq 0 (some 94) ?_
  refine zq 1 (some 95) ?_
  refine zq 2 (some 96) ?_
  refine zq 3 (some 97) ?_
  refine zq 5 (some 99) ?_
  refine zu 4 (some 98) hHeld ?_
  refine zu 6 (some 100) hHeld ?_
  refine zq 7 (some 101) ?_
  refine one_ (i := 8) (N := some 102) #[true, true, true, true, true, true, true, true, true, false, false, false, false] rfl rfl (by kernel_rfl) (by decide) (fun K hK => ?_)
  refine value_ (w1 := ?_) (v := ?_) (by rfl) rfl ?_ ?_
  rotate_left 2
  ·go_simp
   constructor
   ·rfl
   ·rfl
  refine hK.out _ _ ⟨(blk_cell (blk_alloc HBG3.out.box _) 0), (blk_frozen (blk_alloc HBG3.out.box _) 0), (blk_cell (blk_alloc HX3.out _) 9)⟩ (fun hHeld => ?_)
  clear hK K
  refine norm_ (a' := ?_) ?_ ?_
  rotate_left
  ·show Act.put _ (some 102) _ = _
   simp only [Act.put, zla, zlb, zlc, i64_w, i32_w]
   rfl
  refine one_ (i := 9) (N := some 103) #[true, true, true, true, true, true, true, true, true, true, false, false, false] rfl rfl (by kernel_rfl) (by decide) (fun K hK => ?_)
  refine appN_step (by rfl) (.tmp 98) (.tmp 102) rfl un3 ([] ++ [s.id, s.task, s.base] ++ [s.snum] ++ [(s.cells.length : Int)] ++ s.cells.flatMap cellN) [(s.logs.length : Int)] rfl W3 _ (by first | exact ⟨1, rfl⟩ | exact ⟨0, rfl⟩ | exact ⟨2, rfl⟩ | exact ⟨3, rfl⟩) rfl 1 rfl _ rfl (by first | rfl | simp) HBG3.out.nums hb3 (by simp only [List.length_append, List.length_cons, List.length_nil]; omega) ?_
  intro vz3 wz3 h1 h2
  obtain ⟨Av3, nl3, cv3, rfl⟩ : ∃ A n c, vz3 = .slice A n c := (Kd.R_slice h1).elim (fun A h => h.elim (fun c h => ⟨A, _, c, h⟩))
  have HK3 := Aside0.mk h1
  have HT3 := Aside0.mk h2
  have HG3 := Aside0.mk (h2.blk HBG3.out.box (by decide))
  have HY3 := Aside0.mk (h2.blk HX3.out (by decide))
  clear h1 h2
  refine hK.out _ _ ⟨(blk_cell HG3.out 0), (blk_frozen HG3.out 0), (blk_cell HY3.out 9)⟩ (fun hHeld => ?_)
  clear hK K
  refine norm_ (a' := ?_) ?_ ?_
  rotate_left
  ·show Act.put _ (some 103) _ = _
   simp only [Act.put, zla, zlb, zlc, i64_w, i32_w]
   rfl
  refine zq 10 (some 104) ?_
  refine zq 11 (some 105) ?_
  refine last_ (i := 12) (N := none) #[true, true, true, true, true, true, true, true, true, true, true, true, true] rfl rfl (by kernel_rfl) (by decide) (fun K hK => ?_)
  refine skip_ (w1 := ?_) (by rfl) rfl ?_ ?_
  rotate_left
  ·go_simp
   rfl
  refine hK.out _ _ ?_
  clear hK K
  refine done_ (by kernel_rfl) ?_
  have HBG4 := Aside0.mk (HBG3.out.setN HT3.out HK3.out)
  have HU4 := Aside0.mk ((HU3.out.trans (HT3.out.mono (by simp))).set HG3.out (by simp) HBG3.out.ge 0 (.slice Av3 nl3 cv3))
  have HX4 := Aside0.mk (((UT.refl [101, 3, 9, 25] w.heap.size wz3).set HG3.out (by simp) HBG3.out.ge 0 (.slice Av3 nl3 cv3)).blk HY3.out (by decide))
  have hb4 : w.heap.size ≤ (wz3.setCell ⟨g, 0, none⟩ (.slice Av3 nl3 cv3)).heap.size := Nat.le_trans hb0 HU4.out.size
  clear HT3 HK3 HG3 HY3
  generalize (wz3.setCell ⟨g, 0, none⟩ (.slice Av3 nl3 cv3)) = W4 at *
  go_wp2
  go_loopw [7] (fun iv wr => RsE w W0 g ([] ++ [s.id, s.task, s.base] ++ [s.snum] ++ [(s.cells.length : Int)] ++ s.cells.flatMap cellN ++ [(s.logs.length : Int)] ++ s.logs.flatMap logN) ([] ++ s.cells.map (fun x => x.f0) ++ s.logs.flatMap (fun y => y.map (fun x => x.f0))) ([] ++ s.cells.flatMap (fun x => x.f1) ++ s.logs.flatMap (fun y => y.map (fun x => x.f1))) s.logs iv wr) (fun iv _ => s.logs.length - (intOf iv).toNat)
  case atStart => exact ⟨0, _, _, _, rfl, Nat.zero_le _, ⟨_, _, _, by first | exact HBG4.out | exact HBG4.out.drew⟩, (by first | exact HU4.out | exact HU4.out.drew), rfl, rfl, rfl⟩
  case round =>
   obtain ⟨i, ns, ks, vs, rfl, hle, hbag, hup, hn, hk, hv⟩ := hrel
   have HBr := Aside0.mk hbag
   have HUr := Aside0.mk hup
   have HNr := Aside0.mk hn
   have HKr := Aside0.mk hk
   have HVr := Aside0.mk hv
   have HXr := Aside0.mk (hup.blk HX0.out (by decide))
   have hbr : w.heap.size ≤ wr.heap.size := Nat.le_trans hb0 hup.size
   have HWr := Aside0.mk (HW0.out.trans (hup.below hb0))
   clear hbag hup hn hk hv
   have m_9 := blk_cell HXr.out 9
   have m_10 := blk_cell HXr.out 10
   simp only [List.getElem?_toArray, List.getElem?_cons_succ, List.getElem?_cons_zero] at m_9 m_10
   have lN := congrArg List.length HNr.out
   have lK := congrArg List.length HKr.out
   have lV := congrArg List.length HVr.out
   simp only [List.length_append, List.length_cons, List.length_nil] at lN lK lV
   by_cases hlt : i < s.logs.length
   ·skip
    have hdrop : s.logs.drop i = s.logs[i] :: s.logs.drop (i + 1) := List.drop_eq_getElem_cons hlt
    obtain ⟨ad, A1, c1, rfl, d0, l1, g1⟩ := (In.ofC HI9.out HWr.out (Nat.le_refl _)).atSlice hlt
    have hC := slice_at HI9.out hlt
    obtain ⟨ad', A1', c1', e0, d0', l1', g1'⟩ := hC
    have e0 := Option.some.inj e0
    subst e0
    have e1 := pw_cell_below HWr.out d0'
    rw [d0] at e1
    have e1 := Option.some.inj e1
    injection e1 with e1 e2 e3
    subst e1 e3
    have e1 := HNr.out
    have e2 := HKr.out
    have e3 := HVr.out
    rw [hdrop] at e1 e2 e3
    simp only [List.flatMap_cons] at e1 e2 e3
    have hy1 := HSM.out.log s.logs[i] (List.getElem_mem hlt)
    have hy2 := flatMap_len' recN 4 s.logs[i] (fun x hx => by have := HSM.out.rec_ s.logs[i] (List.getElem_mem hlt) x hx; simp [recN]; omega)
    have E1 := Aside0.mk e1
    have E2 := Aside0.mk e2
    have E3 := Aside0.mk e3
    have G1 := Aside0.mk g1'
    clear hdrop e1 e2 e3 g1 g1' d0' l1'
    generalize s.logs[i] = y at *
    go_wp2_with fail
    refine (addRecords_calls w w.heap.size _ g ns ks vs 0 0 0 y A1 c1 HBr.out hbr (Nat.le_refl _) G1.out HWr.out (by simp only [List.length_append, List.length_singleton]; have := HSM.out.n; omega) (by rw [List.length_append, List.length_map]; have := HSM.out.k; omega) (by rw [List.length_append, List.length_map]; have := HSM.out.v; omega)).mono ?_
    rintro e W5 ⟨rfl, h1, h2⟩
    have HB5 := Aside0.mk h1
    have HU5 := Aside0.mk (HUr.out.trans h2)
    clear h1 h2
    go_wp2
    go_roundw
    case rel => exact ⟨i + 1, _, _, _, by simp, by omega, HB5.out, HU5.out, by rw [← E1.out]; simp only [logN, List.append_assoc, List.cons_append, List.nil_append], by rw [← E2.out]; simp only [List.append_assoc], by rw [← E3.out]; simp only [List.append_assoc]⟩
    case measure => simp [intOf]; omega
   ·skip
    have hi : i = s.logs.length := by omega
    have e1 := HNr.out
    have e2 := HKr.out
    have e3 := HVr.out
    rw [hi, List.drop_length] at e1 e2 e3
    simp only [List.flatMap_nil, List.append_nil] at e1 e2 e3
    subst e1 e2 e3
    have hir : ¬ (i : Int) < (s.logs.length : Int) := by omega
    clear hi
    have hy2 := flatMap_len' recN 4 s.pend (fun x hx => by have := HSM.out.prec x hx; simp [recN]; omega)
    go_wp2_with fail
    refine (addRecords_calls w w.heap.size _ g _ _ _ 0 0 0 s.pend A10 c10 HBr.out hbr (Nat.le_refl _) HI10.out HWr.out ?sn ?sk ?sv).mono ?_
    case sn => simp only [List.length_append, List.length_cons, List.length_nil]; have := HSM.out.pend; omega
    case sk => rw [List.length_append, List.length_map]; have := HSM.out.pend; omega
    case sv => rw [List.length_append, List.length_map]; have := HSM.out.pend; omega
    rintro e W9 ⟨rfl, h1, h2⟩
    obtain ⟨un9, uk9, uv9, h1⟩ := h1
    have HBG9 := Aside0.mk h1
    have HU9 := Aside0.mk (HUr.out.trans h2)
    have hb9 : w.heap.size ≤ W9.heap.size := Nat.le_trans hb0 HU9.out.size
    clear h1 h2 m_9 m_10
    go_wp2_with fail
    refine (write_calls (RelB w) _ formFull (Nat.le_refl _) okFullF ⟨#[83, 105, 116, 105, 110, 60, 99, 107, 91, 98, 118, 93, 62, 91, 112, 91, 108, 107, 118, 91, 97, 104, 93, 93, 93, 91, 108, 107, 118, 91, 97, 104, 93, 93]⟩ (by decide) (by rfl) w.heap.size _ (.slice none 0 0) [] g _ _ _ 0 0 0 un9 uk9 uv9 (R5.nil _ _) ?hsz ?hbag (fun W hW => HW0.out.trans ((HU9.out.below hb0).trans (Below.trans ?hdr hW))) _ _ (by have h := wr_seg s HP.out.1 HX.out HSM.out; rw [if_pos hz'.out] at h; unfold segN segK segV at h; simp only [if_pos hz'.out] at h; simpa [logN, List.append_assoc] using h) (by rw [List.nil_append]; exact HP.out.2)).mono ?_
    case hsz => exact Nat.le_trans hb9 (by first | exact Nat.le_refl _ | simp)
    case hbag => exact Bag.cast (i := 0) (j := 0) (k := 0) (by first | (with_reducible exact HBG9.out) | (with_reducible exact HBG9.out.drew) | (have h := HBG9.out; simpa using h) | (have h := HBG9.out.drew; simpa using h)) rfl rfl rfl
    case hdr => repeat (with_reducible first | exact Below.refl _ _ | apply below_drew | apply pw_below_drewN)
    intro e w9 hp
    obtain ⟨u9, rfl, r9, t9⟩ := wr_done (w0 := w) hp
    rw [List.nil_append] at r9
    have HR9 := Aside0.mk r9
    have HT9 := Aside0.mk (t9.below (by first | exact hb9 | (simp; exact hb9)))
    clear r9 t9 hp
    go_wp2
    go_ret2
    exact ⟨u9, rfl, HR9.out, HW0.out.trans ((HU9.out.below hb0).trans (Below.trans (by repeat (with_reducible first | exact Below.refl _ _ | apply below_drew | apply pw_below_drewN)) HT9.out))⟩
 ·skip
  have e2 : (s.base == 0) = false := by simpa using hz
  have hz' := Aside0.mk hz
  have hcl := (HSS.out.2.2 hz).1.1
  have hcs := cells_small hcl (HSS.out.2.2 hz).1.2
  have hgl := (HSS.out.2.2 hz).2
  clear hz
  go_enter Try.func33, Try.ntmps33
  go_wp2_with fail
  refine (HC.out _ ?hw).mono ?_
  case hw => repeat (with_reducible first | exact Below.refl _ _ | apply below_drew | apply pw_below_drewN | apply below_alloc)
  rintro e w1 ⟨rfl, hb⟩
  have HB1 := Aside0.mk (show Below w.heap.size w w1 from (below_alloc (Below.refl _ _) _).trans (hb.mono (by simp)))
  have HX1 := Aside0.mk ((hb.block w.heap.size (by simp)).trans (heap_alloc_new w (.cells #[.int .i64 s.id, .int .i64 s.task, .int .i64 s.base, .int .u32 s.sum, .int .i64 s.snum, .slice A5 s.cells.length c5, .int .i64 s.dnum, .slice A7 s.set.length c7, .slice A8 s.gone.length c8, .slice A9 s.logs.length c9, .slice A10 s.pend.length c10] 39)))
  clear hb
  have HX0 := Aside0.mk (blk_alloc HX1.out (.cells #[.slice none 0 0, .slice none 0 0, .slice none 0 0, .int .i64 0, .int .i64 0, .int .i64 0] 101))
  have HN0 := Aside0.mk (heap_alloc_new w1 (.cells #[.slice none 0 0, .slice none 0 0, .slice none 0 0, .int .i64 0, .int .i64 0, .int .i64 0] 101))
  have hx0 := blk_lt HX1.out
  have HBG0 := Aside0.mk (Bag.new (Rel := RelB w) (w1.alloc (.cells #[.slice none 0 0, .slice none 0 0, .slice none 0 0, .int .i64 0, .int .i64 0, .int .i64 0] 101)) w.heap.size w1.heap.size HN0.out (by have := HB1.out.size; omega))
  have HW0 := Aside0.mk (show Below w.heap.size w (w1.alloc (.cells #[.slice none 0 0, .slice none 0 0, .slice none 0 0, .int .i64 0, .int .i64 0, .int .i64 0] 101)) from HB1.out.trans ((below_alloc (Below.refl _ _) _).mono HB1.out.size))
  have hb0 : w.heap.size ≤ (w1.alloc (.cells #[.slice none 0 0, .slice none 0 0, .slice none 0 0, .int .i64 0, .int .i64 0, .int .i64 0] 101)).heap.size := HW0.out.size
  have HU0 := Aside0.mk (UT.refl [101, 3, 9, 25] w.heap.size (w1.alloc (.cells #[.slice none 0 0, .slice none 0 0, .slice none 0 0, .int .i64 0, .int .i64 0, .int .i64 0] 101)))
  generalize hg : w1.heap.size = g at *
  generalize hW0 : w1.alloc (.cells #[.slice none 0 0, .slice none 0 0, .slice none 0 0, .int .i64 0, .int .i64 0, .int .i64 0] 101) = W0 at *
  go_wp2
  refine start_ (n := 16) (S := fun w' => w'.cell? ⟨g, 0, none⟩ = some (.slice none 0 0) ∧ w'.frozen? ⟨g, 0, none⟩ = false ∧ w'.cell? ⟨w.heap.size, 0, none⟩ = some (.int .i64 s.id) ∧ w'.cell? ⟨w.heap.size, 1, none⟩ = some (.int .i64 s.task) ∧ w'.cell? ⟨w.heap.size, 2, none⟩ = some (.int .i64 s.base)) (ds := [15]) #[false, false, false, false, false, false, false, false, false, false, false, false, false, false, false, false] (by kernel_rfl) rfl rfl ⟨(blk_cell HBG0.out.box 0), (blk_frozen HBG0.out.box 0), (blk_cell HX0.out 0), (blk_cell HX0.out 1), (blk_cell HX0.out 2)⟩ (fun hHeld => ?_)
  refine zq 0 (some 15) ?_
  refine zq 1 (some 16) ?_
  refine zq 2 (some 17) ?_
  refine zq 3 (some 18) ?_
  refine zq 5 (some 20) ?_
  refine zq 7 (some 22) ?_
  refine zq 9 (some 24) ?_
  refine zu 4 (some 19) hHeld ?_
  refine zu 6 (some 21) hHeld ?_
  refine zu 8 (some 23) hHeld ?_
  refine zu 10 (some 25) hHeld ?_
  refine one_ (i := 11) (N := some 26) #[true, true, true, true, true, true, true, true, true, true, true, true, false, false, false, false] rfl rfl (by kernel_rfl) (by decide) (fun K hK => ?_)
  refine value_ (w1 := ?_) (v := ?_) (by rfl) rfl ?_ ?_
  rotate_left 2
  ·go_simp
   constructor
   ·rfl
   ·rfl
  refine hK.out _ _ ⟨(blk_cell (blk_alloc HBG0.out.box _) 0), (blk_frozen (blk_alloc HBG0.out.box _) 0), (blk_cell (blk_alloc HX0.out _) 0), (blk_cell (blk_alloc HX0.out _) 1), (blk_cell (blk_alloc HX0.out _) 2)⟩ (fun hHeld => ?_)
  clear hK K
  refine norm_ (a' := ?_) ?_ ?_
  rotate_left
  ·show Act.put _ (some 26) _ = _
   simp only [Act.put, zla, zlb, zlc, i64_w, i32_w]
   rfl
  refine one_ (i := 12) (N := some 27) #[true, true, true, true, true, true, true, true, true, true, true, true, true, false, false, false] rfl rfl (by kernel_rfl) (by decide) (fun K hK => ?_)
  refine appN_step (by rfl) (.tmp 19) (.tmp 26) rfl (.slice none 0 0) ([]) [s.id, s.task, s.base] rfl W0 _ (by first | exact ⟨1, rfl⟩ | exact ⟨0, rfl⟩ | exact ⟨2, rfl⟩ | exact ⟨3, rfl⟩) rfl 3 rfl _ rfl (by first | rfl | simp) HBG0.out.nums hb0 (by simp) ?_
  intro vz0 wz0 h1 h2
  obtain ⟨Av0, nl0, cv0, rfl⟩ : ∃ A n c, vz0 = .slice A n c := (Kd.R_slice h1).elim (fun A h => h.elim (fun c h => ⟨A, _, c, h⟩))
  have HK0 := Aside0.mk h1
  have HT0 := Aside0.mk h2
  have HG0 := Aside0.mk (h2.blk HBG0.out.box (by decide))
  have HY0 := Aside0.mk (h2.blk HX0.out (by decide))
  clear h1 h2
  refine hK.out _ _ ⟨(blk_cell HG0.out 0), (blk_frozen HG0.out 0), (blk_cell HY0.out 0), (blk_cell HY0.out 1), (blk_cell HY0.out 2)⟩ (fun hHeld => ?_)
  clear hK K
  refine norm_ (a' := ?_) ?_ ?_
  rotate_left
  ·show Act.put _ (some 27) _ = _
   simp only [Act.put, zla, zlb, zlc, i64_w, i32_w]
   rfl
  refine zq 13 (some 28) ?_
  refine zq 14 (some 29) ?_
  refine last_ (i := 15) (N := none) #[true, true, true, true, true, true, true, true, true, true, true, true, true, true, true, true] rfl rfl (by kernel_rfl) (by decide) (fun K hK => ?_)
  refine skip_ (w1 := ?_) (by rfl) rfl ?_ ?_
  rotate_left
  ·go_simp
   rfl
  refine hK.out _ _ ?_
  clear hK K
  refine done_ (by kernel_rfl) ?_
  have HBG1 := Aside0.mk (HBG0.out.setN HT0.out HK0.out)
  have HU1 := Aside0.mk ((HU0.out.trans (HT0.out.mono (by simp))).set HG0.out (by simp) HBG0.out.ge 0 (.slice Av0 nl0 cv0))
  have HX1 := Aside0.mk (((UT.refl [101, 3, 9, 25] w.heap.size wz0).set HG0.out (by simp) HBG0.out.ge 0 (.slice Av0 nl0 cv0)).blk HY0.out (by decide))
  have hb1 : w.heap.size ≤ (wz0.setCell ⟨g, 0, none⟩ (.slice Av0 nl0 cv0)).heap.size := Nat.le_trans hb0 HU1.out.size
  clear HT0 HK0 HG0 HY0
  generalize (wz0.setCell ⟨g, 0, none⟩ (.slice Av0 nl0 cv0)) = W1 at *
  have n1_2 := blk_cell HX1.out 2
  simp only [List.getElem?_toArray, List.getElem?_cons_succ, List.getElem?_cons_zero] at n1_2
  go_wp2
  clear n1_2
  refine start_ (n := 16) (S := fun w' => w'.cell? ⟨g, 0, none⟩ = some (.slice Av0 nl0 cv0) ∧ w'.frozen? ⟨g, 0, none⟩ = false ∧ w'.cell? ⟨w.heap.size, 3, none⟩ = some (.int .u32 s.sum) ∧ w'.cell? ⟨w.heap.size, 6, none⟩ = some (.int .i64 s.dnum)) (ds := [15]) #[false, false, false, false, false, false, false, false, false, false, false, false, false, false, false, false] (by kernel_rfl) rfl rfl ⟨(blk_cell HBG1.out.box 0), (blk_frozen HBG1.out.box 0), (blk_cell HX1.out 3), (blk_cell HX1.out 6)⟩ (fun hHeld => ?_)
  refine zp 0 (some 50) ?_ rfl rfl (by kernel_rfl) (fun _ _ _ h => h) (by rfl) ?_ ?_ ?_ ?_ ?_
  rotate_left; · (intro w'; go_simp; with_reducible rfl)
  rotate_left 2; · (simp only [Act.put, zla, zlb, zlc, i64_w, i32_w, hwm]; rfl)
  refine zp 1 (some 51) ?_ rfl rfl (by kernel_rfl) (fun _ _ _ h => h) (by rfl) ?_ ?_ ?_ ?_ ?_
  rotate_left; · (intro w'; go_simp; with_reducible rfl)
  rotate_left 2; · (simp only [Act.put, zla, zlb, zlc, i64_w, i32_w, hwm]; rfl)
  refine zp 2 (some 52) ?_ rfl rfl (by kernel_rfl) (fun _ _ _ h => h) (by rfl) ?_ ?_ ?_ ?_ ?_
  rotate_left; · (intro w'; go_simp; with_reducible rfl)
  rotate_left 2; · (simp only [Act.put, zla, zlb, zlc, i64_w, i32_w, hwm]; rfl)
  refine zp 3 (some 53) ?_ rfl rfl (by kernel_rfl) (fun _ _ _ h => h) (by rfl) ?_ ?_ ?_ ?_ ?_
  rotate_left; · (intro w'; go_simp; with_reducible rfl)
  rotate_left 2; · (simp only [Act.put, zla, zlb, zlc, i64_w, i32_w, hwm]; rfl)
  refine zp 5 (some 55) ?_ rfl rfl (by kernel_rfl) (fun _ _ _ h => h) (by rfl) ?_ ?_ ?_ ?_ ?_
  rotate_left; · (intro w'; go_simp; with_reducible rfl)
  rotate_left 2; · (simp only [Act.put, zla, zlb, zlc, i64_w, i32_w, hwm]; rfl)
  refine zp 8 (some 58) ?_ rfl rfl (by kernel_rfl) (fun _ _ _ h => h) (by rfl) ?_ ?_ ?_ ?_ ?_
  rotate_left; · (intro w'; go_simp; with_reducible rfl)
  rotate_left 2; · (simp only [Act.put, zla, zlb, zlc, i64_w, i32_w, hwm]; rfl)
  refine zp 9 (some 59) ?_ rfl rfl (by kernel_rfl) (fun _ _ _ h => h) (by rfl) ?_ ?_ ?_ ?_ ?_
  rotate_left; · (intro w'; go_simp; with_reducible rfl)
  rotate_left 2; · (simp only [Act.put, zla, zlb, zlc, i64_w, i32_w, hwm]; rfl)
  refine zt 4 (some 54) ?_ rfl rfl (by kernel_rfl) (fun _ _ _ h => h) (by rfl) ?_ hHeld ?_ ?_ ?_ ?_
  rotate_left; · (rintro w' ⟨s0, s1, s2, s3⟩; go_simp; with_reducible rfl)
  rotate_left 2; · (simp only [Act.put, zla, zlb, zlc, i64_w, i32_w, hwm]; rfl)
  refine zt 6 (some 56) ?_ rfl rfl (by kernel_rfl) (fun _ _ _ h => h) (by rfl) ?_ hHeld ?_ ?_ ?_ ?_
  rotate_left; · (rintro w' ⟨s0, s1, s2, s3⟩; go_simp; with_reducible rfl)
  rotate_left 2; · (simp only [Act.put, zla, zlb, zlc, i64_w, i32_w, hwm]; rfl)
  refine zp 7 (some 57) ?_ rfl rfl (by kernel_rfl) (fun _ _ _ h => h) (by rfl) ?_ ?_ ?_ ?_ ?_
  rotate_left; · (intro w'; go_simp; with_reducible rfl)
  rotate_left 2; · (simp only [Act.put, zla, zlb, zlc, i64_w, i32_w, hwm]; rfl)
  refine zt 10 (some 60) ?_ rfl rfl (by kernel_rfl) (fun _ _ _ h => h) (by rfl) ?_ hHeld ?_ ?_ ?_ ?_
  rotate_left; · (rintro w' ⟨s0, s1, s2, s3⟩; go_simp; with_reducible rfl)
  rotate_left 2; · (simp only [Act.put, zla, zlb, zlc, i64_w, i32_w, hwm]; rfl)
  refine one_ (i := 11) (N := some 61) #[true, true, true, true, true, true, true, true, true, true, true, true, false, false, false, false] rfl rfl (by kernel_rfl) (by decide) (fun K hK => ?_)
  refine value_ (w1 := ?_) (v := ?_) (by rfl) rfl ?_ ?_
  rotate_left 2
  ·go_simp
   constructor
   ·rfl
   ·rfl
  refine hK.out _ _ ⟨(blk_cell (blk_alloc HBG1.out.box _) 0), (blk_frozen (blk_alloc HBG1.out.box _) 0), (blk_cell (blk_alloc HX1.out _) 3), (blk_cell (blk_alloc HX1.out _) 6)⟩ (fun hHeld => ?_)
  clear hK K
  refine norm_ (a' := ?_) ?_ ?_
  rotate_left
  ·show Act.put _ (some 61) _ = _
   simp only [Act.put, zla, zlb, zlc, i64_w, i32_w, hwm]
   rfl
  refine one_ (i := 12) (N := some 62) #[true, true, true, true, true, true, true, true, true, true, true, true, true, false, false, false] rfl rfl (by kernel_rfl) (by decide) (fun K hK => ?_)
  refine appN_step (by rfl) (.tmp 54) (.tmp 61) rfl (.slice Av0 nl0 cv0) ([] ++ [s.id, s.task, s.base]) [s.sum, s.dnum] rfl W1 _ (by first | exact ⟨1, rfl⟩ | exact ⟨0, rfl⟩ | exact ⟨2, rfl⟩ | exact ⟨3, rfl⟩) rfl 2 rfl _ rfl (by first | rfl | simp) HBG1.out.nums hb1 (by simp only [List.length_append, List.length_cons, List.length_nil]; omega) ?_
  intro vz1 wz1 h1 h2
  obtain ⟨Av1, nl1, cv1, rfl⟩ : ∃ A n c, vz1 = .slice A n c := (Kd.R_slice h1).elim (fun A h => h.elim (fun c h => ⟨A, _, c, h⟩))
  have HK1 := Aside0.mk h1
  have HT1 := Aside0.mk h2
  have HG1 := Aside0.mk (h2.blk HBG1.out.box (by decide))
  have HY1 := Aside0.mk (h2.blk HX1.out (by decide))
  clear h1 h2
  refine hK.out _ _ ⟨(blk_cell HG1.out 0), (blk_frozen HG1.out 0), (blk_cell HY1.out 3), (blk_cell HY1.out 6)⟩ (fun hHeld => ?_)
  clear hK K
  refine norm_ (a' := ?_) ?_ ?_
  rotate_left
  ·show Act.put _ (some 62) _ = _
   simp only [Act.put, zla, zlb, zlc, i64_w, i32_w, hwm]
   rfl
  refine zp 13 (some 63) ?_ rfl rfl (by kernel_rfl) (fun _ _ _ h => h) (by rfl) ?_ ?_ ?_ ?_ ?_
  rotate_left; · (intro w'; go_simp; with_reducible rfl)
  rotate_left 2; · (simp only [Act.put, zla, zlb, zlc, i64_w, i32_w, hwm]; rfl)
  refine zp 14 (some 64) ?_ rfl rfl (by kernel_rfl) (fun _ _ _ h => h) (by rfl) ?_ ?_ ?_ ?_ ?_
  rotate_left; · (intro w'; go_simp; with_reducible rfl)
  rotate_left 2; · (simp only [Act.put, zla, zlb, zlc, i64_w, i32_w, hwm]; rfl)
  refine last_ (i := 15) (N := none) #[true, true, true, true, true, true, true, true, true, true, true, true, true, true, true, true] rfl rfl (by kernel_rfl) (by decide) (fun K hK => ?_)
  refine skip_ (w1 := ?_) (by rfl) rfl ?_ ?_
  rotate_left
  ·go_simp
   rfl
  refine hK.out _ _ ?_
  clear hK K
  refine done_ (by kernel_rfl) ?_
  have HBG2 := Aside0.mk (HBG1.out.setN HT1.out HK1.out)
  have HU2 := Aside0.mk ((HU1.out.trans (HT1.out.mono (by simp))).set HG1.out (by simp) HBG1.out.ge 0 (.slice Av1 nl1 cv1))
  have HX2 := Aside0.mk (((UT.refl [101, 3, 9, 25] w.heap.size wz1).set HG1.out (by simp) HBG1.out.ge 0 (.slice Av1 nl1 cv1)).blk HY1.out (by decide))
  have hb2 : w.heap.size ≤ (wz1.setCell ⟨g, 0, none⟩ (.slice Av1 nl1 cv1)).heap.size := Nat.le_trans hb0 HU2.out.size
  clear HT1 HK1 HG1 HY1
  generalize (wz1.setCell ⟨g, 0, none⟩ (.slice Av1 nl1 cv1)) = W2 at *
  have n2_7 := blk_cell HX2.out 7
  simp only [List.getElem?_toArray, List.getElem?_cons_succ, List.getElem?_cons_zero] at n2_7
  go_wp2_with fail
  refine (addCells_calls w w.heap.size _ g ([] ++ [s.id, s.task, s.base] ++ [s.sum, s.dnum]) [] [] 0 0 0 s.set A7 c7 ?hx ?hsz (Nat.le_refl _) HI7.out (HW0.out.trans ((HU2.out.below hb0).trans ?hdr)) (by simp only [List.length_append, List.length_cons, List.length_nil]; omega) (by rw [List.nil_append]; omega) (by rw [List.nil_append]; omega)).mono ?_
  case hx => exact ⟨_, _, _, by repeat (with_reducible first | exact HBG2.out | apply Bag.drew | apply Bag.drewN)⟩
  case hsz => exact Nat.le_trans hb2 (by first | exact Nat.le_refl _ | simp)
  case hdr => repeat (with_reducible first | exact Below.refl _ _ | apply below_drew | apply pw_below_drewN)
  rintro e W3 ⟨rfl, h1, h2⟩
  obtain ⟨un3, uk3, uv3, h1⟩ := h1
  have HBG3 := Aside0.mk h1
  have HU3 := Aside0.mk (UT.trans (w := W0) (by repeat (with_reducible first | exact HU2.out | apply UT.drew | apply UT.drewN)) h2)
  have HX3 := Aside0.mk (h2.blk (by repeat (with_reducible first | exact HX2.out | apply blk_drew | apply blk_drewN)) (by decide))
  have hb3 : w.heap.size ≤ W3.heap.size := Nat.le_trans hb0 HU3.out.size
  clear h1 h2
  clear n2_7
  go_wp2
  refine start_ (n := 14) (S := fun w' => w'.cell? ⟨g, 0, none⟩ = some un3 ∧ w'.frozen? ⟨g, 0, none⟩ = false ∧ w'.cell? ⟨w.heap.size, 8, none⟩ = some (.slice A8 s.gone.length c8)) (ds := [13]) #[false, false, false, false, false, false, false, false, false, false, false, false, false, false] (by kernel_rfl) rfl rfl ⟨(blk_cell HBG3.out.box 0), (blk_frozen HBG3.out.box 0), (blk_cell HX3.out 8)⟩ (fun hHeld => ?_)
  refine zq 0 (some 70) ?_
  refine zq 1 (some 71) ?_
  refine zq 2 (some 72) ?_
  refine zq 3 (some 73) ?_
  refine zq 5 (some 75) ?_
  refine zq 6 (some 76) ?_
  refine zu 4 (some 74) hHeld ?_
  refine zu 7 (some 77) hHeld ?_
  refine zq 8 (some 78) ?_
  refine one_ (i := 9) (N := some 79) #[true, true, true, true, true, true, true, true, true, true, false, false, false, false] rfl rfl (by kernel_rfl) (by decide) (fun K hK => ?_)
  refine value_ (w1 := ?_) (v := ?_) (by rfl) rfl ?_ ?_
  rotate_left 2
  ·go_simp
   constructor
   ·rfl
   ·rfl
  refine hK.out _ _ ⟨(blk_cell (blk_alloc HBG3.out.box _) 0), (blk_frozen (blk_alloc HBG3.out.box _) 0), (blk_cell (blk_alloc HX3.out _) 8)⟩ (fun hHeld => ?_)
  clear hK K
  refine norm_ (a' := ?_) ?_ ?_
  rotate_left
  ·show Act.put _ (some 79) _ = _
   simp only [Act.put, zla, zlb, zlc, i64_w, i32_w]
   rfl
  refine one_ (i := 10) (N := some 80) #[true, true, true, true, true, true, true, true, true, true, true, false, false, false] rfl rfl (by kernel_rfl) (by decide) (fun K hK => ?_)
  refine appN_step (by rfl) (.tmp 74) (.tmp 79) rfl un3 ([] ++ [s.id, s.task, s.base] ++ [s.sum, s.dnum] ++ [(s.set.length : Int)] ++ s.set.flatMap cellN) [(s.gone.length : Int)] rfl W3 _ (by first | exact ⟨1, rfl⟩ | exact ⟨0, rfl⟩ | exact ⟨2, rfl⟩ | exact ⟨3, rfl⟩) rfl 1 rfl _ rfl (by first | rfl | simp) HBG3.out.nums hb3 (by simp only [List.length_append, List.length_cons, List.length_nil]; omega) ?_
  intro vz3 wz3 h1 h2
  obtain ⟨Av3, nl3, cv3, rfl⟩ : ∃ A n c, vz3 = .slice A n c := (Kd.R_slice h1).elim (fun A h => h.elim (fun c h => ⟨A, _, c, h⟩))
  have HK3 := Aside0.mk h1
  have HT3 := Aside0.mk h2
  have HG3 := Aside0.mk (h2.blk HBG3.out.box (by decide))
  have HY3 := Aside0.mk (h2.blk HX3.out (by decide))
  clear h1 h2
  refine hK.out _ _ ⟨(blk_cell HG3.out 0), (blk_frozen HG3.out 0), (blk_cell HY3.out 8)⟩ (fun hHeld => ?_)
  clear hK K
  refine norm_ (a' := ?_) ?_ ?_
  rotate_left
  ·show Act.put _ (some 80) _ = _
   simp only [Act.put, zla, zlb, zlc, i64_w, i32_w]
   rfl
  refine zq 11 (some 81) ?_
  refine zq 12 (some 82) ?_
  refine last_ (i := 13) (N := none) #[true, true, true, true, true, true, true, true, true, true, true, true, true, true] rfl rfl (by kernel_rfl) (by decide) (fun K hK => ?_)
  refine skip_ (w1 := ?_) (by rfl) rfl ?_ ?_
  rotate_left
  ·go_simp
   rfl
  refine hK.out _ _ ?_
  clear hK K
  refine done_ (by kernel_rfl) ?_
  have HBG4 := Aside0.mk (HBG3.out.setN HT3.out HK3.out)
  have HU4 := Aside0.mk ((HU3.out.trans (HT3.out.mono (by simp))).set HG3.out (by simp) HBG3.out.ge 0 (.slice Av3 nl3 cv3))
  have HX4 := Aside0.mk (((UT.refl [101, 3, 9, 25] w.heap.size wz3).set HG3.out (by simp) HBG3.out.ge 0 (.slice Av3 nl3 cv3)).blk HY3.out (by decide))
  have hb4 : w.heap.size ≤ (wz3.setCell ⟨g, 0, none⟩ (.slice Av3 nl3 cv3)).heap.size := Nat.le_trans hb0 HU4.out.size
  clear HT3 HK3 HG3 HY3
  generalize (wz3.setCell ⟨g, 0, none⟩ (.slice Av3 nl3 cv3)) = W4 at *
  go_wp2
  refine start_ (n := 12) (S := fun w' => w'.cell? ⟨g, 1, none⟩ = some uk3 ∧ w'.frozen? ⟨g, 1, none⟩ = false ∧ w'.cell? ⟨w.heap.size, 8, none⟩ = some (.slice A8 s.gone.length c8)) (ds := [11]) #[false, false, false, false, false, false, false, false, false, false, false, false] (by kernel_rfl) rfl rfl ⟨(blk_cell HBG4.out.box 1), (blk_frozen HBG4.out.box 1), (blk_cell HX4.out 8)⟩ (fun hHeld => ?_)
  refine zq 0 (some 83) ?_
  refine zq 1 (some 84) ?_
  refine zq 2 (some 85) ?_
  refine zq 3 (some 86) ?_
  refine zq 5 (some 88) ?_
  refine zq 6 (some 89) ?_
  refine zu 4 (some 87) hHeld ?_
  refine zu 7 (some 90) hHeld ?_
  refine one_ (i := 8) (N := some 91) #[true, true, true, true, true, true, true, true, true, false, false, false] rfl rfl (by kernel_rfl) (by decide) (fun K hK => ?_)
  refine appK_step flat_string (by rfl) (.tmp 87) (.tmp 90) 33 9 (.string ⟨#[]⟩) 16 rfl Try.underlying33 info9 rfl (by decide) (by decide) uk3 ([] ++ s.set.map (fun x => x.f0)) s.gone _ s.gone.length _ rfl rfl HBG4.out.keys (by first | exact Kd.C_below HI8.out (HW0.out.trans (HU4.out.below hb0)) | exact Kd.C_drew (Kd.C_below HI8.out (HW0.out.trans (HU4.out.below hb0)))) hb4 (by simp only [List.length_append, List.length_nil, List.length_map]; omega) ?_
  intro vz4 wz4 h1 h2'
  have h2 : UT [9] w.heap.size W4 wz4 := ⟨h2'.os, h2'.tape, h2'.output, h2'.size, h2'.same⟩
  clear h2'
  obtain ⟨Av4, nl4, cv4, rfl⟩ : ∃ A n c, vz4 = .slice A n c := (Kd.R_slice h1).elim (fun A h => h.elim (fun c h => ⟨A, _, c, h⟩))
  have HK4 := Aside0.mk h1
  have HT4 := Aside0.mk h2
  have HG4 := Aside0.mk (h2.blk HBG4.out.box (by decide))
  have HY4 := Aside0.mk (h2.blk HX4.out (by decide))
  clear h1 h2
  refine hK.out _ _ ⟨(blk_cell HG4.out 1), (blk_frozen HG4.out 1), (blk_cell HY4.out 8)⟩ (fun hHeld => ?_)
  clear hK K
  refine norm_ (a' := ?_) ?_ ?_
  rotate_left
  ·show Act.put _ (some 91) _ = _
   simp only [Act.put, zla, zlb, zlc, i64_w, i32_w]
   rfl
  refine zq 9 (some 92) ?_
  refine zq 10 (some 93) ?_
  refine last_ (i := 11) (N := none) #[true, true, true, true, true, true, true, true, true, true, true, true] rfl rfl (by kernel_rfl) (by decide) (fun K hK => ?_)
  refine skip_ (w1 := ?_) (by rfl) rfl ?_ ?_
  rotate_left
  ·go_simp
   rfl
  refine hK.out _ _ ?_
  clear hK K
  refine done_ (by kernel_rfl) ?_
  have HBG5 := Aside0.mk (HBG4.out.setK HT4.out HK4.out)
  have HU5 := Aside0.mk ((HU4.out.trans (HT4.out.mono (by simp))).set HG4.out (by simp) HBG4.out.ge 1 (.slice Av4 nl4 cv4))
  have HX5 := Aside0.mk (((UT.refl [101, 3, 9, 25] w.heap.size wz4).set HG4.out (by simp) HBG4.out.ge 1 (.slice Av4 nl4 cv4)).blk HY4.out (by decide))
  have hb5 : w.heap.size ≤ (wz4.setCell ⟨g, 1, none⟩ (.slice Av4 nl4 cv4)).heap.size := Nat.le_trans hb0 HU5.out.size
  clear HT4 HK4 HG4 HY4
  generalize (wz4.setCell ⟨g, 1, none⟩ (.slice Av4 nl4 cv4)) = W5 at *
  go_wp2
  refine start_ (n := 13) (S := fun w' => w'.cell? ⟨g, 0, none⟩ = some (.slice Av3 nl3 cv3) ∧ w'.frozen? ⟨g, 0, none⟩ = false ∧ w'.cell? ⟨w.heap.size, 9, none⟩ = some (.slice A9 s.logs.length c9)) (ds := [12]) #[false, false, false, false, false, false, false, false, false, false, false, false, false] (by kernel_rfl) rfl rfl ⟨(blk_cell HBG5.out.box 0), (blk_frozen HBG5.out.box 0), (blk_cell HX5.out 9)⟩ (fun hHeld => ?_)
  refine zq 0 (some 94) ?_
  refine zq 1 (some 95) ?_
  refine zq 2 (some 96) ?_
  refine zq 3 (some 97) ?_
  refine zq 5 (some 99) ?_
  refine zu 4 (some 98) hHeld ?_
  refine zu 6 (some 100) hHeld ?_
  refine zq 7 (some 101) ?_
  refine one_ (i := 8) (N := some 102) #[true, true, true, true, true, true, true, true, true, false, false, false, false] rfl rfl (by kernel_rfl) (by decide) (fun K hK => ?_)
  refine value_ (w1 := ?_) (v := ?_) (by rfl) rfl ?_ ?_
  rotate_left 2
  ·go_simp
   constructor
   ·rfl
   ·rfl
  refine hK.out _ _ ⟨(blk_cell (blk_alloc HBG5.out.box _) 0), (blk_frozen (blk_alloc HBG5.out.box _) 0), (blk_cell (blk_alloc HX5.out _) 9)⟩ (fun hHeld => ?_)
  clear hK K
  refine norm_ (a' := ?_) ?_ ?_
  rotate_left
  ·show Act.put _ (some 102) _ = _
   simp only [Act.put, zla, zlb, zlc, i64_w, i32_w]
   rfl
  refine one_ (i := 9) (N := some 103) #[true, true, true, true, true, true, true, true, true, true, false, false, false] rfl rfl (by kernel_rfl) (by decide) (fun K hK => ?_)
  refine appN_step (by rfl) (.tmp 98) (.tmp 102) rfl (.slice Av3 nl3 cv3) ([] ++ [s.id, s.task, s.base] ++ [s.sum, s.dnum] ++ [(s.set.length : Int)] ++ s.set.flatMap cellN ++ [(s.gone.length : Int)]) [(s.logs.length : Int)] rfl W5 _ (by first | exact ⟨1, rfl⟩ | exact ⟨0, rfl⟩ | exact ⟨2, rfl⟩ | exact ⟨3, rfl⟩) rfl 1 rfl _ rfl (by first | rfl | simp) HBG5.out.nums hb5 (by simp only [List.length_append, List.length_cons, List.length_nil]; omega) ?_
  intro vz5 wz5 h1 h2
  obtain ⟨Av5, nl5, cv5, rfl⟩ : ∃ A n c, vz5 = .slice A n c := (Kd.R_slice h1).elim (fun A h => h.elim (fun c h => ⟨A, _, c, h⟩))
  have HK5 := Aside0.mk h1
  have HT5 := Aside0.mk h2
  have HG5 := Aside0.mk (h2.blk HBG5.out.box (by decide))
  have HY5 := Aside0.mk (h2.blk HX5.out (by decide))
  clear h1 h2
  refine hK.out _ _ ⟨(blk_cell HG5.out 0), (blk_frozen HG5.out 0), (blk_cell HY5.out 9)⟩ (fun hHeld => ?_)
  clear hK K
  refine norm_ (a' := ?_) ?_ ?_
  rotate_left
  ·show Act.put _ (some 103) _ = _
   simp only [Act.put, zla, zlb, zlc, i64_w, i32_w]
   rfl
  refine zq 10 (some 104) ?_
  refine zq 11 (some 105) ?_
  refine last_ (i := 12) (N := none) #[true, true, true, true, true, true, true, true, true, true, true, true, true] rfl rfl (by kernel_rfl) (by decide) (fun K hK => ?_)
  refine skip_ (w1 := ?_) (by rfl) rfl ?_ ?_
  rotate_left
  ·go_simp
   rfl
  refine hK.out _ _ ?_
  clear hK K
  refine done_ (by kernel_rfl) ?_
  have HBG6 := Aside0.mk (HBG5.out.setN HT5.out HK5.out)
  have HU6 := Aside0.mk ((HU5.out.trans (HT5.out.mono (by simp))).set HG5.out (by simp) HBG5.out.ge 0 (.slice Av5 nl5 cv5))
  have HX6 := Aside0.mk (((UT.refl [101, 3, 9, 25] w.heap.size wz5).set HG5.out (by simp) HBG5.out.ge 0 (.slice Av5 nl5 cv5)).blk HY5.out (by decide))
  have hb6 : w.heap.size ≤ (wz5.setCell ⟨g, 0, none⟩ (.slice Av5 nl5 cv5)).heap.size := Nat.le_trans hb0 HU6.out.size
  clear HT5 HK5 HG5 HY5
  generalize (wz5.setCell ⟨g, 0, none⟩ (.slice Av5 nl5 cv5)) = W6 at *
  go_wp2
  go_loopw [7] (fun iv wr => RsE w W0 g ([] ++ [s.id, s.task, s.base] ++ [s.sum, s.dnum] ++ [(s.set.length : Int)] ++ s.set.flatMap cellN ++ [(s.gone.length : Int)] ++ [(s.logs.length : Int)] ++ s.logs.flatMap logN) ([] ++ s.set.map (fun x => x.f0) ++ s.gone ++ s.logs.flatMap (fun y => y.map (fun x => x.f0))) ([] ++ s.set.flatMap (fun x => x.f1) ++ s.logs.flatMap (fun y => y.map (fun x => x.f1))) s.logs iv wr) (fun iv _ => s.logs.length - (intOf iv).toNat)
  case atStart => exact ⟨0, _, _, _, rfl, Nat.zero_le _, ⟨_, _, _, by first | exact HBG6.out | exact HBG6.out.drew⟩, (by first | exact HU6.out | exact HU6.out.drew), rfl, rfl, rfl⟩
  case round =>
   obtain ⟨i, ns, ks, vs, rfl, hle, hbag, hup, hn, hk, hv⟩ := hrel
   have HBr := Aside0.mk hbag
   have HUr := Aside0.mk hup
   have HNr := Aside0.mk hn
   have HKr := Aside0.mk hk
   have HVr := Aside0.mk hv
   have HXr := Aside0.mk (hup.blk HX0.out (by decide))
   have hbr : w.heap.size ≤ wr.heap.size := Nat.le_trans hb0 hup.size
   have HWr := Aside0.mk (HW0.out.trans (hup.below hb0))
   clear hbag hup hn hk hv
   have m_9 := blk_cell HXr.out 9
   have m_10 := blk_cell HXr.out 10
   simp only [List.getElem?_toArray, List.getElem?_cons_succ, List.getElem?_cons_zero] at m_9 m_10
   have lN := congrArg List.length HNr.out
   have lK := congrArg List.length HKr.out
   have lV := congrArg List.length HVr.out
   simp only [List.length_append, List.length_cons, List.length_nil] at lN lK lV
   by_cases hlt : i < s.logs.length
   ·skip
    have hdrop : s.logs.drop i = s.logs[i] :: s.logs.drop (i + 1) := List.drop_eq_getElem_cons hlt
    obtain ⟨ad, A1, c1, rfl, d0, l1, g1⟩ := (In.ofC HI9.out HWr.out (Nat.le_refl _)).atSlice hlt
    have hC := slice_at HI9.out hlt
    obtain ⟨ad', A1', c1', e0, d0', l1', g1'⟩ := hC
    have e0 := Option.some.inj e0
    subst e0
    have e1 := pw_cell_below HWr.out d0'
    rw [d0] at e1
    have e1 := Option.some.inj e1
    injection e1 with e1 e2 e3
    subst e1 e3
    have e1 := HNr.out
    have e2 := HKr.out
    have e3 := HVr.out
    rw [hdrop] at e1 e2 e3
    simp only [List.flatMap_cons] at e1 e2 e3
    have hy1 := HSM.out.log s.logs[i] (List.getElem_mem hlt)
    have hy2 := flatMap_len' recN 4 s.logs[i] (fun x hx => by have := HSM.out.rec_ s.logs[i] (List.getElem_mem hlt) x hx; simp [recN]; omega)
    have E1 := Aside0.mk e1
    have E2 := Aside0.mk e2
    have E3 := Aside0.mk e3
    have G1 := Aside0.mk g1'
    clear hdrop e1 e2 e3 g1 g1' d0' l1'
    generalize s.logs[i] = y at *
    go_wp2_with fail
    refine (addRecords_calls w w.heap.size _ g ns ks vs 0 0 0 y A1 c1 HBr.out hbr (Nat.le_refl _) G1.out HWr.out (by simp only [List.length_append, List.length_singleton]; have := HSM.out.n; omega) (by rw [List.length_append, List.length_map]; have := HSM.out.k; omega) (by rw [List.length_append, List.length_map]; have := HSM.out.v; omega)).mono ?_
    rintro e W5 ⟨rfl, h1, h2⟩
    have HB5 := Aside0.mk h1
    have HU5 := Aside0.mk (HUr.out.trans h2)
    clear h1 h2
    go_wp2
    go_roundw
    case rel => exact ⟨i + 1, _, _, _, by simp, by omega, HB5.out, HU5.out, by rw [← E1.out]; simp only [logN, List.append_assoc, List.cons_append, List.nil_append], by rw [← E2.out]; simp only [List.append_assoc], by rw [← E3.out]; simp only [List.append_assoc]⟩
    case measure => simp [intOf]; omega
   ·skip
    have hi : i = s.logs.length := by omega
    have e1 := HNr.out
    have e2 := HKr.out
    have e3 := HVr.out
    rw [hi, List.drop_length] at e1 e2 e3
    simp only [List.flatMap_nil, List.append_nil] at e1 e2 e3
    subst e1 e2 e3
    have hir : ¬ (i : Int) < (s.logs.length : Int) := by omega
    clear hi
    have hy2 := flatMap_len' recN 4 s.pend (fun x hx => by have := HSM.out.prec x hx; simp [recN]; omega)
    go_wp2_with fail
    refine (addRecords_calls w w.heap.size _ g _ _ _ 0 0 0 s.pend A10 c10 HBr.out hbr (Nat.le_refl _) HI10.out HWr.out ?sn ?sk ?sv).mono ?_
    case sn => simp only [List.length_append, List.length_cons, List.length_nil]; have := HSM.out.pend; omega
    case sk => rw [List.length_append, List.length_map]; have := HSM.out.pend; omega
    case sv => rw [List.length_append, List.length_map]; have := HSM.out.pend; omega
    rintro e W9 ⟨rfl, h1, h2⟩
    obtain ⟨un9, uk9, uv9, h1⟩ := h1
    have HBG9 := Aside0.mk h1
    have HU9 := Aside0.mk (HUr.out.trans h2)
    have hb9 : w.heap.size ≤ W9.heap.size := Nat.le_trans hb0 HU9.out.size
    clear h1 h2 m_9 m_10
    go_wp2_with fail
    refine (write_calls (RelB w) _ formPatch (Nat.le_refl _) okPatchF ⟨#[83, 105, 116, 105, 119, 110, 60, 99, 107, 91, 98, 118, 93, 62, 60, 99, 107, 62, 91, 112, 91, 108, 107, 118, 91, 97, 104, 93, 93, 93, 91, 108, 107, 118, 91, 97, 104, 93, 93]⟩ (by decide) (by rfl) w.heap.size _ (.slice none 0 0) [] g _ _ _ 0 0 0 un9 uk9 uv9 (R5.nil _ _) ?hsz ?hbag (fun W hW => HW0.out.trans ((HU9.out.below hb0).trans (Below.trans ?hdr hW))) _ _ (by have h := wr_seg s HP.out.1 HX.out HSM.out; rw [if_neg hz'.out] at h; unfold segN segK segV at h; simp only [if_neg hz'.out] at h; simpa [logN, List.append_assoc] using h) (by rw [List.nil_append]; exact HP.out.2)).mono ?_
    case hsz => exact Nat.le_trans hb9 (by first | exact Nat.le_refl _ | simp)
    case hbag => exact Bag.cast (i := 0) (j := 0) (k := 0) (by first | (with_reducible exact HBG9.out) | (with_reducible exact HBG9.out.drew) | (have h := HBG9.out; simpa using h) | (have h := HBG9.out.drew; simpa using h)) rfl rfl rfl
    case hdr => repeat (with_reducible first | exact Below.refl _ _ | apply below_drew | apply pw_below_drewN)
    intro e w9 hp
    obtain ⟨u9, rfl, r9, t9⟩ := wr_done (w0 := w) hp
    rw [List.nil_append] at r9
    have HR9 := Aside0.mk r9
    have HT9 := Aside0.mk (t9.below (by first | exact hb9 | (simp; exact hb9)))
    clear r9 t9 hp
    go_wp2
    go_ret2
    exact ⟨u9, rfl, HR9.out, HW0.out.trans ((HU9.out.below hb0).trans (Below.trans (by repeat (with_reducible first | exact Below.refl _ _ | apply below_drew | apply pw_below_drewN)) HT9.out))⟩
end Go.Proofs.Ythmkioodkldgbaa.DK
