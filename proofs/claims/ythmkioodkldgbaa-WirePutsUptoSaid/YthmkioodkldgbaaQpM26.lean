/- eddyref4.PutRow, PutManifest; conditions: those in each theorem. -/
import Derived.Test.YthmkioodkldgbaaQpM25
namespace Go.Proofs.Ythmkioodkldgbaa.DK
open Go.Proofs.Ythmkioodkldgbaa.PD
open Go.RowKit Go.Proofs.YthmkioodkldgbaaW.PrintWords Go.Proofs.YthmkioodkldgbaaW.PrintLast Go.Proofs.YthmkioodkldgbaaW.PrintMore
set_option linter.unusedVariables false
set_option linter.unusedSimpArgs false
set_option maxRecDepth 100000
theorem out_calls (a b : Int) (w : World) (r : Bool) (hr : decide (a < 0 ∨ b < a) = r) : Calls Try.prog 73 #[.int .i64 a, .int .i64 b] w fun e w' => e = .returned (.bool r) ∧ Drawn0 w w' := by
 subst hr
 exact eddyref4_out.calls a b _ w (rout a b)
structure RmI (w W0 : World) (g : Nat) (N : List Int) (l : List S108) (q : Int) (i : Nat) (ns : List Int) (wr : World) : Prop where
 le : i ≤ l.length
 bag : BagX (RelB w) w.heap.size wr g ns [] [] 0 0 0
 up : UT [101, 3, 9, 25] w.heap.size W0 wr
 n : ns ++ (l.drop i).flatMap (fun x => [x.f0, x.f1]) = N
 eq : rowsC (l.drop i) = q
def RmE (w W0 : World) (g : Nat) (N : List Int) (l : List S108) (q : Int) (iv : Value) (wr : World) : Prop := ∃ (i : Nat) (ns : List Int), iv = .int .i64 i ∧ RmI w W0 g N l q i ns wr
set_option maxHeartbeats 16000000 in
theorem rPutRow_calls (w : World) (n : Int) (x : S28) (A4 : Option Addr) (c4 : Nat) (A5 : Option Addr) (c5 : Nat) (h4 : k25.C w A4 x.f1.f3.length x.f1.f3) (l4 : x.f1.f3.length ≤ c4) (h5 : (Kd.int .i64).C w A5 x.f2.length x.f2) (l5 : x.f2.length ≤ c5) (ho : okS x.f1) :
  Calls Try.prog 35 #[.agg #[.int .i64 n, .string x.f0, .int .i64 x.f1.f0, .int .i64 x.f1.f1, .string x.f1.f2, .slice A4 x.f1.f3.length c4, .slice A5 x.f2.length c5]] w (Put w (rowC n x) (encOut n x)) := by
 have HC := Aside0.mk (fun (W : World) (hb : Below w.heap.size w W) => (rrec x h5.2.1).rounds.elim (fun k hk => eddyref2_CheckRecord.calls k x.f0 x.f1.f0 x.f1.f1 x.f1.f2 A4 c4 x.f1.f3 A5 c5 x.f2 (recC x) W (Kd.C_below h4 hb) l4 (Kd.C_below h5 hb) l5 hk))
 have HI4 := Aside0.mk h4
 have HI5 := Aside0.mk h5
 have HO := Aside0.mk ho
 clear h4 h5 ho
 unfold Put rowC
 by_cases c1 : n < 0 ∨ 1073741824 < n
 ·rw [if_pos c1]
  go_enter Try.func35, Try.ntmps35
  go_wp2_with fail
  refine (out_calls n 1073741824 _ true (by simp; omega)).mono ?_
  rintro e w' ⟨rfl, ⟨⟨nd, rfl⟩⟩⟩
  go_wp2
  go_ret2
  exact ⟨.slice none 0 0, rfl, by first | exact R5.nil _ _ | (rw [if_neg (by decide)]; exact R5.nil _ _), pw_below_drewN (below_alloc (Below.refl _ _) _) _⟩
 rw [if_neg c1]
 generalize hq : recC x = q at HC ⊢
 have HQ := Aside0.mk hq
 clear hq
 by_cases hz : q = 0
 ·subst hz
  have HP := Aside0.mk (recC_ok HO.out HQ.out)
  have HP2 := Aside0.mk (recC_loops HQ.out)
  go_enter Try.func35, Try.ntmps35
  go_wp2_with fail
  refine (out_calls n 1073741824 _ false (by simp; omega)).mono ?_
  rintro e w' ⟨rfl, ⟨⟨nd, rfl⟩⟩⟩
  have hxx := blk_drewN (heap_alloc_new w (.cells #[.int .i64 n, .string x.f0, .int .i64 x.f1.f0, .int .i64 x.f1.f1, .string x.f1.f2, .slice A4 x.f1.f3.length c4, .slice A5 x.f2.length c5] 44)) nd
  have m_0 := blk_cell hxx 0
  have m_1 := blk_cell hxx 1
  have m_2 := blk_cell hxx 2
  have m_3 := blk_cell hxx 3
  have m_4 := blk_cell hxx 4
  have m_5 := blk_cell hxx 5
  have m_6 := blk_cell hxx 6
  simp only [List.getElem?_toArray, List.getElem?_cons_succ, List.getElem?_cons_zero] at m_0 m_1 m_2 m_3 m_4 m_5 m_6
  clear hxx
  go_wp2_with fail
  refine (HC.out _ ?hw).mono ?_
  case hw => repeat (with_reducible first | exact Below.refl _ _ | apply below_drew | apply pw_below_drewN | apply below_alloc)
  rintro e w1 ⟨rfl, hb⟩
  have HB1 := Aside0.mk (show Below w.heap.size w w1 from (pw_below_drewN (below_alloc (Below.refl _ _) _) nd).trans (hb.mono (by show w.heap.size ≤ (w.alloc _).heap.size; simp)))
  have HX1 := Aside0.mk ((hb.block w.heap.size (by show w.heap.size < (w.alloc _).heap.size; simp)).trans (blk_drewN (heap_alloc_new w (.cells #[.int .i64 n, .string x.f0, .int .i64 x.f1.f0, .int .i64 x.f1.f1, .string x.f1.f2, .slice A4 x.f1.f3.length c4, .slice A5 x.f2.length c5] 44)) nd))
  clear hb
  clear m_0 m_1 m_2 m_3 m_4 m_5 m_6
  have HX0 := Aside0.mk (blk_alloc HX1.out (.cells #[.slice none 0 0, .slice none 0 0, .slice none 0 0, .int .i64 0, .int .i64 0, .int .i64 0] 101))
  have HN0 := Aside0.mk (heap_alloc_new w1 (.cells #[.slice none 0 0, .slice none 0 0, .slice none 0 0, .int .i64 0, .int .i64 0, .int .i64 0] 101))
  have hx0 := blk_lt HX1.out
  have HBG0 := Aside0.mk (Bag.new (Rel := RelB w) (w1.alloc (.cells #[.slice none 0 0, .slice none 0 0, .slice none 0 0, .int .i64 0, .int .i64 0, .int .i64 0] 101)) w.heap.size w1.heap.size HN0.out (by have := HB1.out.size; omega))
  have HW0 := Aside0.mk (show Below w.heap.size w (w1.alloc (.cells #[.slice none 0 0, .slice none 0 0, .slice none 0 0, .int .i64 0, .int .i64 0, .int .i64 0] 101)) from HB1.out.trans ((below_alloc (Below.refl _ _) _).mono HB1.out.size))
  have hb0 : w.heap.size ≤ (w1.alloc (.cells #[.slice none 0 0, .slice none 0 0, .slice none 0 0, .int .i64 0, .int .i64 0, .int .i64 0] 101)).heap.size := HW0.out.size
  have HU0 := Aside0.mk (UT.refl [101, 3, 9, 25] w.heap.size (w1.alloc (.cells #[.slice none 0 0, .slice none 0 0, .slice none 0 0, .int .i64 0, .int .i64 0, .int .i64 0] 101)))
  generalize hg : w1.heap.size = g at *
  generalize hW0 : w1.alloc (.cells #[.slice none 0 0, .slice none 0 0, .slice none 0 0, .int .i64 0, .int .i64 0, .int .i64 0] 101) = W0 at *
  go_wp2
  refine start_ (n := 12) (S := fun w' => w'.cell? ⟨g, 0, none⟩ = some (.slice none 0 0) ∧ w'.frozen? ⟨g, 0, none⟩ = false ∧ w'.cell? ⟨w.heap.size, 0, none⟩ = some (.int .i64 n)) (ds := [11]) #[false, false, false, false, false, false, false, false, false, false, false, false] (by kernel_rfl) rfl rfl ⟨(blk_cell HBG0.out.box 0), (blk_frozen HBG0.out.box 0), (blk_cell HX0.out 0)⟩ (fun hHeld => ?_)
  refine zq 0 (some 17) ?_
  refine zq 1 (some 18) ?_
  refine zq 2 (some 19) ?_
  refine zq 3 (some 20) ?_
  refine zq 5 (some 22) ?_
  refine zu 4 (some 21) hHeld ?_
  refine zu 6 (some 23) hHeld ?_
  refine one_ (i := 7) (N := some 24) #[true, true, true, true, true, true, true, true, false, false, false, false] rfl rfl (by kernel_rfl) (by decide) (fun K hK => ?_)
  refine value_ (w1 := ?_) (v := ?_) (by rfl) rfl ?_ ?_
  rotate_left 2
  ·go_simp
   constructor
   ·rfl
   ·rfl
  refine hK.out _ _ ⟨(blk_cell (blk_alloc HBG0.out.box _) 0), (blk_frozen (blk_alloc HBG0.out.box _) 0), (blk_cell (blk_alloc HX0.out _) 0)⟩ (fun hHeld => ?_)
  clear hK K
  refine norm_ (a' := ?_) ?_ ?_
  rotate_left
  ·show Act.put _ (some 24) _ = _
   simp only [Act.put, zla, zlb, zlc, i64_w, i32_w]
   rfl
  refine one_ (i := 8) (N := some 25) #[true, true, true, true, true, true, true, true, true, false, false, false] rfl rfl (by kernel_rfl) (by decide) (fun K hK => ?_)
  refine appN_step (by rfl) (.tmp 21) (.tmp 24) rfl (.slice none 0 0) ([]) [n] rfl W0 _ (by first | exact ⟨1, rfl⟩ | exact ⟨0, rfl⟩ | exact ⟨2, rfl⟩ | exact ⟨3, rfl⟩) rfl 1 rfl _ rfl (by first | rfl | simp) HBG0.out.nums hb0 (by simp) ?_
  intro vz0 wz0 h1 h2
  obtain ⟨Av0, nl0, cv0, rfl⟩ : ∃ A n c, vz0 = .slice A n c := (Kd.R_slice h1).elim (fun A h => h.elim (fun c h => ⟨A, _, c, h⟩))
  have HK0 := Aside0.mk h1
  have HT0 := Aside0.mk h2
  have HG0 := Aside0.mk (h2.blk HBG0.out.box (by decide))
  have HY0 := Aside0.mk (h2.blk HX0.out (by decide))
  clear h1 h2
  refine hK.out _ _ ⟨(blk_cell HG0.out 0), (blk_frozen HG0.out 0), (blk_cell HY0.out 0)⟩ (fun hHeld => ?_)
  clear hK K
  refine norm_ (a' := ?_) ?_ ?_
  rotate_left
  ·show Act.put _ (some 25) _ = _
   simp only [Act.put, zla, zlb, zlc, i64_w, i32_w]
   rfl
  refine zq 9 (some 26) ?_
  refine zq 10 (some 27) ?_
  refine last_ (i := 11) (N := none) #[true, true, true, true, true, true, true, true, true, true, true, true] rfl rfl (by kernel_rfl) (by decide) (fun K hK => ?_)
  refine skip_ (w1 := ?_) (by rfl) rfl ?_ ?_
  rotate_left
  ·go_simp
   rfl
  refine hK.out _ _ ?_
  clear hK K
  refine done_ (by kernel_rfl) ?_
  have HBG1 := Aside0.mk (HBG0.out.setN HT0.out HK0.out)
  have HU1 := Aside0.mk ((HU0.out.trans (HT0.out.mono (by simp))).set HG0.out (by simp) HBG0.out.ge 0 (.slice Av0 nl0 cv0))
  have HX1 := Aside0.mk (((UT.refl [101, 3, 9, 25] w.heap.size wz0).set HG0.out (by simp) HBG0.out.ge 0 (.slice Av0 nl0 cv0)).blk HY0.out (by decide))
  have hb1 : w.heap.size ≤ (wz0.setCell ⟨g, 0, none⟩ (.slice Av0 nl0 cv0)).heap.size := Nat.le_trans hb0 HU1.out.size
  clear HT0 HK0 HG0 HY0
  generalize (wz0.setCell ⟨g, 0, none⟩ (.slice Av0 nl0 cv0)) = W1 at *
  have n1_1 := blk_cell HX1.out 1
  have n1_2 := blk_cell HX1.out 2
  have n1_3 := blk_cell HX1.out 3
  have n1_4 := blk_cell HX1.out 4
  have n1_5 := blk_cell HX1.out 5
  have n1_6 := blk_cell HX1.out 6
  simp only [List.getElem?_toArray, List.getElem?_cons_succ, List.getElem?_cons_zero] at n1_1 n1_2 n1_3 n1_4 n1_5 n1_6
  go_wp2_with fail
  refine (addRecord_calls (RelB w) w.heap.size _ g ([] ++ [n]) [] [] 0 0 0 x A4 c4 A5 c5 ?hx ?hsz (fun W hW => Kd.C_below HI4.out hW) l4 (In.ofC HI5.out (HW0.out.trans ((HU1.out.below hb0).trans ?hdr)) (Nat.le_refl _)) l5 (by have := HP2.out; simp only [List.length_append, List.length_cons, List.length_nil]; omega) (by simp) (by simp)).mono ?_
  case hx => exact ⟨_, _, _, by repeat (with_reducible first | exact HBG1.out | apply Bag.drew | apply Bag.drewN)⟩
  case hsz => exact Nat.le_trans hb1 (by first | exact Nat.le_refl _ | simp)
  case hdr => repeat (with_reducible first | exact Below.refl _ _ | apply below_drew | apply pw_below_drewN)
  rintro e W2 ⟨rfl, h1, h2⟩
  obtain ⟨un2, uk2, uv2, h1⟩ := h1
  have HBG2 := Aside0.mk h1
  have HU2 := Aside0.mk (UT.trans (w := W0) (by repeat (with_reducible first | exact HU1.out | apply UT.drew | apply UT.drewN)) h2)
  have HX2 := Aside0.mk (h2.blk (by repeat (with_reducible first | exact HX1.out | apply blk_drew | apply blk_drewN)) (by decide))
  have hb2 : w.heap.size ≤ W2.heap.size := Nat.le_trans hb0 HU2.out.size
  clear h1 h2
  go_wp2_with fail
  refine (write_calls (RelB w) _ formRow (Nat.le_refl _) okRowF ⟨#[79, 110, 107, 118, 91, 97, 104, 93]⟩ (by decide) (by rfl) w.heap.size _ (.slice none 0 0) [] g _ _ _ 0 0 0 un2 uk2 uv2 (R5.nil _ _) ?hsz ?hbag (fun W hW => HW0.out.trans ((HU2.out.below hb0).trans (Below.trans ?hdr hW))) _ _ (by have h := wr_row n x ⟨by omega, by omega⟩ HP.out.1 HI5.out.2.1; simpa [recN] using h) (by rw [List.nil_append]; have := HP.out.2; have g := grp_len10 (n := n) (by omega); unfold encOut; simp only [List.length_append, List.length_cons]; omega)).mono ?_
  case hsz => exact Nat.le_trans hb2 (by first | exact Nat.le_refl _ | simp)
  case hbag => exact Bag.cast (i := 0) (j := 0) (k := 0) (by first | (with_reducible exact HBG2.out) | (with_reducible exact HBG2.out.drew) | (have h := HBG2.out; simpa using h) | (have h := HBG2.out.drew; simpa using h)) rfl rfl rfl
  case hdr => repeat (with_reducible first | exact Below.refl _ _ | apply below_drew | apply pw_below_drewN)
  intro e w9 hp
  obtain ⟨u9, rfl, r9, t9⟩ := wr_done (w0 := w) hp
  rw [List.nil_append] at r9
  have HR9 := Aside0.mk r9
  have HT9 := Aside0.mk (t9.below (by first | exact hb2 | (simp; exact hb2)))
  clear r9 t9 hp
  go_wp2
  go_ret2
  exact ⟨u9, rfl, HR9.out, HW0.out.trans ((HU2.out.below hb0).trans (Below.trans (by repeat (with_reducible first | exact Below.refl _ _ | apply below_drew | apply pw_below_drewN)) HT9.out))⟩
 ·skip
  go_enter Try.func35, Try.ntmps35
  go_wp2_with fail
  refine (out_calls n 1073741824 _ false (by simp; omega)).mono ?_
  rintro e w' ⟨rfl, ⟨⟨nd, rfl⟩⟩⟩
  have hxx := blk_drewN (heap_alloc_new w (.cells #[.int .i64 n, .string x.f0, .int .i64 x.f1.f0, .int .i64 x.f1.f1, .string x.f1.f2, .slice A4 x.f1.f3.length c4, .slice A5 x.f2.length c5] 44)) nd
  have m_0 := blk_cell hxx 0
  have m_1 := blk_cell hxx 1
  have m_2 := blk_cell hxx 2
  have m_3 := blk_cell hxx 3
  have m_4 := blk_cell hxx 4
  have m_5 := blk_cell hxx 5
  have m_6 := blk_cell hxx 6
  simp only [List.getElem?_toArray, List.getElem?_cons_succ, List.getElem?_cons_zero] at m_0 m_1 m_2 m_3 m_4 m_5 m_6
  clear hxx
  go_wp2_with fail
  refine (HC.out _ ?hw).mono ?_
  case hw => repeat (with_reducible first | exact Below.refl _ _ | apply below_drew | apply pw_below_drewN | apply below_alloc)
  rintro e w1 ⟨rfl, hb⟩
  have HB1 := Aside0.mk (show Below w.heap.size w w1 from (pw_below_drewN (below_alloc (Below.refl _ _) _) nd).trans (hb.mono (by show w.heap.size ≤ (w.alloc _).heap.size; simp)))
  clear hb
  have hqb : (q != 0) = true := by simpa using hz
  go_wp2
  go_ret2
  exact ⟨.slice none 0 0, rfl, by first | exact R5.nil _ _ | (rw [if_neg hz]; exact R5.nil _ _), HB1.out⟩
set_option maxHeartbeats 16000000 in
theorem rPutManifest_calls (w : World) (n m : Int) (l : List S108) (A : Option Addr) (c : Nat) (h1 : k108.C w A l.length l) (l1 : l.length ≤ c) (hm : 0 ≤ m ∧ m ≤ 4294967295) (hx : ∀ x ∈ l, 0 ≤ x.f1 ∧ x.f1 ≤ 4294967295) :
  Calls Try.prog 34 #[.agg #[.int .i64 n, .int .u32 m, .slice A l.length c]] w (Put w (manC n l) (encMan n m l)) := by
 have hln : l.length ≤ 9223372036854775807 := h1.2.1
 have HI := Aside0.mk h1
 have HX := Aside0.mk hx
 clear h1 hx
 unfold Put manC
 have hu108 := Try.underlying108
 have hwm := w64 (show -9223372036854775808 ≤ m by omega) (show m ≤ 9223372036854775807 by omega)
 by_cases c1 : n < 0 ∨ 9999 < n
 ·rw [if_pos (by omega)]
  go_enter Try.func34, Try.ntmps34
  go_wp2_with fail
  refine (out_calls n 9999 _ true (by simp; omega)).mono ?_
  rintro e w' ⟨rfl, ⟨⟨nd, rfl⟩⟩⟩
  have hxx := blk_drewN (heap_alloc_new w (.cells #[.int .i64 n, .int .u32 m, .slice A l.length c] 42)) nd
  have m_0 := blk_cell hxx 0
  have m_1 := blk_cell hxx 1
  have m_2 := blk_cell hxx 2
  simp only [List.getElem?_toArray, List.getElem?_cons_succ, List.getElem?_cons_zero] at m_0 m_1 m_2
  clear hxx
  go_wp2
  go_ret2
  exact ⟨.slice none 0 0, rfl, by first | exact R5.nil _ _ | (rw [if_neg (by decide)]; exact R5.nil _ _), pw_below_drewN (below_alloc (Below.refl _ _) _) _⟩
 by_cases c3 : 12 < l.length
 ·rw [if_pos (by omega)]
  go_enter Try.func34, Try.ntmps34
  go_wp2_with fail
  refine (out_calls n 9999 _ false (by simp; omega)).mono ?_
  rintro e w' ⟨rfl, ⟨⟨nd, rfl⟩⟩⟩
  have hxx := blk_drewN (heap_alloc_new w (.cells #[.int .i64 n, .int .u32 m, .slice A l.length c] 42)) nd
  have m_0 := blk_cell hxx 0
  have m_1 := blk_cell hxx 1
  have m_2 := blk_cell hxx 2
  simp only [List.getElem?_toArray, List.getElem?_cons_succ, List.getElem?_cons_zero] at m_0 m_1 m_2
  clear hxx
  go_wp2
  go_ret2
  exact ⟨.slice none 0 0, rfl, by first | exact R5.nil _ _ | (rw [if_neg (by decide)]; exact R5.nil _ _), pw_below_drewN (below_alloc (Below.refl _ _) _) _⟩
 rw [if_neg (by omega)]
 generalize hq : rowsC l = q
 have HQ := Aside0.mk hq
 clear hq
 have e12 : decide ((12 : Int) < (l.length : Int)) = false := by simp; omega
 go_enter Try.func34, Try.ntmps34
 go_wp2_with fail
 refine (out_calls n 9999 _ false (by simp; omega)).mono ?_
 rintro e w' ⟨rfl, ⟨⟨nd, rfl⟩⟩⟩
 obtain ⟨w1, hw1⟩ : ∃ w1 : World, w1 = (w.alloc (.cells #[.int .i64 n, .int .u32 m, .slice A l.length c] 42)).drewN nd := ⟨_, rfl⟩
 have HB1 := Aside0.mk (show Below w.heap.size w w1 by rw [hw1]; exact pw_below_drewN (below_alloc (Below.refl _ _) _) nd)
 have HX1 := Aside0.mk (show w1.heap[w.heap.size]? = some (.cells #[.int .i64 n, .int .u32 m, .slice A l.length c] 42 (0, 0)) by rw [hw1]; exact blk_drewN (heap_alloc_new w _) nd)
 rw [← hw1]
 clear hw1
 have m_0 := blk_cell HX1.out 0
 have m_1 := blk_cell HX1.out 1
 have m_2 := blk_cell HX1.out 2
 simp only [List.getElem?_toArray, List.getElem?_cons_succ, List.getElem?_cons_zero] at m_0 m_1 m_2
 have HX0 := Aside0.mk (blk_alloc HX1.out (.cells #[.slice none 0 0, .slice none 0 0, .slice none 0 0, .int .i64 0, .int .i64 0, .int .i64 0] 101))
 have HN0 := Aside0.mk (heap_alloc_new w1 (.cells #[.slice none 0 0, .slice none 0 0, .slice none 0 0, .int .i64 0, .int .i64 0, .int .i64 0] 101))
 have hx0 := blk_lt HX1.out
 have HBG0 := Aside0.mk (Bag.new (Rel := RelB w) (w1.alloc (.cells #[.slice none 0 0, .slice none 0 0, .slice none 0 0, .int .i64 0, .int .i64 0, .int .i64 0] 101)) w.heap.size w1.heap.size HN0.out (by have := HB1.out.size; omega))
 have HW0 := Aside0.mk (show Below w.heap.size w (w1.alloc (.cells #[.slice none 0 0, .slice none 0 0, .slice none 0 0, .int .i64 0, .int .i64 0, .int .i64 0] 101)) from HB1.out.trans ((below_alloc (Below.refl _ _) _).mono HB1.out.size))
 have hb0 : w.heap.size ≤ (w1.alloc (.cells #[.slice none 0 0, .slice none 0 0, .slice none 0 0, .int .i64 0, .int .i64 0, .int .i64 0] 101)).heap.size := HW0.out.size
 have HU0 := Aside0.mk (UT.refl [101, 3, 9, 25] w.heap.size (w1.alloc (.cells #[.slice none 0 0, .slice none 0 0, .slice none 0 0, .int .i64 0, .int .i64 0, .int .i64 0] 101)))
 go_wp2
 generalize hg : w1.heap.size = g at *
 generalize hW0 : w1.alloc (.cells #[.slice none 0 0, .slice none 0 0, .slice none 0 0, .int .i64 0, .int .i64 0, .int .i64 0] 101) = W0 at *
 clear m_0 m_1 m_2
 refine start_ (n := 18) (S := fun w' => w'.cell? ⟨g, 0, none⟩ = some (.slice none 0 0) ∧ w'.frozen? ⟨g, 0, none⟩ = false ∧ w'.cell? ⟨w.heap.size, 0, none⟩ = some (.int .i64 n) ∧ w'.cell? ⟨w.heap.size, 1, none⟩ = some (.int .u32 m) ∧ w'.cell? ⟨w.heap.size, 2, none⟩ = some (.slice A l.length c)) (ds := [17]) #[false, false, false, false, false, false, false, false, false, false, false, false, false, false, false, false, false, false] (by kernel_rfl) rfl rfl ⟨(blk_cell HBG0.out.box 0), (blk_frozen HBG0.out.box 0), (blk_cell HX0.out 0), (blk_cell HX0.out 1), (blk_cell HX0.out 2)⟩ (fun hHeld => ?_)
 refine zp 0 (some 17) ?_ rfl rfl (by kernel_rfl) (fun _ _ _ h => h) (by rfl) ?_ ?_ ?_ ?_ ?_
 rotate_left; · (intro w'; go_simp; with_reducible rfl)
 rotate_left 2; · (simp only [Act.put, zla, zlb, zlc, i64_w, i32_w, hwm]; rfl)
 refine zp 1 (some 18) ?_ rfl rfl (by kernel_rfl) (fun _ _ _ h => h) (by rfl) ?_ ?_ ?_ ?_ ?_
 rotate_left; · (intro w'; go_simp; with_reducible rfl)
 rotate_left 2; · (simp only [Act.put, zla, zlb, zlc, i64_w, i32_w, hwm]; rfl)
 refine zp 2 (some 19) ?_ rfl rfl (by kernel_rfl) (fun _ _ _ h => h) (by rfl) ?_ ?_ ?_ ?_ ?_
 rotate_left; · (intro w'; go_simp; with_reducible rfl)
 rotate_left 2; · (simp only [Act.put, zla, zlb, zlc, i64_w, i32_w, hwm]; rfl)
 refine zp 3 (some 20) ?_ rfl rfl (by kernel_rfl) (fun _ _ _ h => h) (by rfl) ?_ ?_ ?_ ?_ ?_
 rotate_left; · (intro w'; go_simp; with_reducible rfl)
 rotate_left 2; · (simp only [Act.put, zla, zlb, zlc, i64_w, i32_w, hwm]; rfl)
 refine zp 5 (some 22) ?_ rfl rfl (by kernel_rfl) (fun _ _ _ h => h) (by rfl) ?_ ?_ ?_ ?_ ?_
 rotate_left; · (intro w'; go_simp; with_reducible rfl)
 rotate_left 2; · (simp only [Act.put, zla, zlb, zlc, i64_w, i32_w, hwm]; rfl)
 refine zp 7 (some 24) ?_ rfl rfl (by kernel_rfl) (fun _ _ _ h => h) (by rfl) ?_ ?_ ?_ ?_ ?_
 rotate_left; · (intro w'; go_simp; with_reducible rfl)
 rotate_left 2; · (simp only [Act.put, zla, zlb, zlc, i64_w, i32_w, hwm]; rfl)
 refine zp 10 (some 27) ?_ rfl rfl (by kernel_rfl) (fun _ _ _ h => h) (by rfl) ?_ ?_ ?_ ?_ ?_
 rotate_left; · (intro w'; go_simp; with_reducible rfl)
 rotate_left 2; · (simp only [Act.put, zla, zlb, zlc, i64_w, i32_w, hwm]; rfl)
 refine zt 4 (some 21) ?_ rfl rfl (by kernel_rfl) (fun _ _ _ h => h) (by rfl) ?_ hHeld ?_ ?_ ?_ ?_
 rotate_left; · (rintro w' ⟨s0, s1, s2, s3, s4⟩; go_simp; with_reducible rfl)
 rotate_left 2; · (simp only [Act.put, zla, zlb, zlc, i64_w, i32_w, hwm]; rfl)
 refine zt 6 (some 23) ?_ rfl rfl (by kernel_rfl) (fun _ _ _ h => h) (by rfl) ?_ hHeld ?_ ?_ ?_ ?_
 rotate_left; · (rintro w' ⟨s0, s1, s2, s3, s4⟩; go_simp; with_reducible rfl)
 rotate_left 2; · (simp only [Act.put, zla, zlb, zlc, i64_w, i32_w, hwm]; rfl)
 refine zt 8 (some 25) ?_ rfl rfl (by kernel_rfl) (fun _ _ _ h => h) (by rfl) ?_ hHeld ?_ ?_ ?_ ?_
 rotate_left; · (rintro w' ⟨s0, s1, s2, s3, s4⟩; go_simp; with_reducible rfl)
 rotate_left 2; · (simp only [Act.put, zla, zlb, zlc, i64_w, i32_w, hwm]; rfl)
 refine zp 9 (some 26) ?_ rfl rfl (by kernel_rfl) (fun _ _ _ h => h) (by rfl) ?_ ?_ ?_ ?_ ?_
 rotate_left; · (intro w'; go_simp; with_reducible rfl)
 rotate_left 2; · (simp only [Act.put, zla, zlb, zlc, i64_w, i32_w, hwm]; rfl)
 refine zt 11 (some 28) ?_ rfl rfl (by kernel_rfl) (fun _ _ _ h => h) (by rfl) ?_ hHeld ?_ ?_ ?_ ?_
 rotate_left; · (rintro w' ⟨s0, s1, s2, s3, s4⟩; go_simp; with_reducible rfl)
 rotate_left 2; · (simp only [Act.put, zla, zlb, zlc, i64_w, i32_w, hwm]; rfl)
 refine zp 12 (some 29) ?_ rfl rfl (by kernel_rfl) (fun _ _ _ h => h) (by rfl) ?_ ?_ ?_ ?_ ?_
 rotate_left; · (intro w'; go_simp; with_reducible rfl)
 rotate_left 2; · (simp only [Act.put, zla, zlb, zlc, i64_w, i32_w, hwm]; rfl)
 refine one_ (i := 13) (N := some 30) #[true, true, true, true, true, true, true, true, true, true, true, true, true, true, false, false, false, false] rfl rfl (by kernel_rfl) (by decide) (fun K hK => ?_)
 refine value_ (w1 := ?_) (v := ?_) (by rfl) rfl ?_ ?_
 rotate_left 2
 ·go_simp
  constructor
  ·rfl
  ·rfl
 refine hK.out _ _ ⟨(blk_cell (blk_alloc HBG0.out.box _) 0), (blk_frozen (blk_alloc HBG0.out.box _) 0), (blk_cell (blk_alloc HX0.out _) 0), (blk_cell (blk_alloc HX0.out _) 1), (blk_cell (blk_alloc HX0.out _) 2)⟩ (fun hHeld => ?_)
 clear hK K
 refine norm_ (a' := ?_) ?_ ?_
 rotate_left
 ·show Act.put _ (some 30) _ = _
  simp only [Act.put, zla, zlb, zlc, i64_w, i32_w, hwm]
  rfl
 refine one_ (i := 14) (N := some 31) #[true, true, true, true, true, true, true, true, true, true, true, true, true, true, true, false, false, false] rfl rfl (by kernel_rfl) (by decide) (fun K hK => ?_)
 refine appN_step (by rfl) (.tmp 21) (.tmp 30) rfl (.slice none 0 0) ([]) [n, m, (l.length : Int)] rfl W0 _ (by first | exact ⟨1, rfl⟩ | exact ⟨0, rfl⟩ | exact ⟨2, rfl⟩ | exact ⟨3, rfl⟩) rfl 3 rfl _ rfl (by first | rfl | simp) HBG0.out.nums hb0 (by simp) ?_
 intro vz0 wz0 h1 h2
 obtain ⟨Av0, nl0, cv0, rfl⟩ : ∃ A n c, vz0 = .slice A n c := (Kd.R_slice h1).elim (fun A h => h.elim (fun c h => ⟨A, _, c, h⟩))
 have HK0 := Aside0.mk h1
 have HT0 := Aside0.mk h2
 have HG0 := Aside0.mk (h2.blk HBG0.out.box (by decide))
 have HY0 := Aside0.mk (h2.blk HX0.out (by decide))
 clear h1 h2
 refine hK.out _ _ ⟨(blk_cell HG0.out 0), (blk_frozen HG0.out 0), (blk_cell HY0.out 0), (blk_cell HY0.out 1), (blk_cell HY0.out 2)⟩ (fun hHeld => ?_)
 clear hK K
 refine norm_ (a' := ?_) ?_ ?_
 rotate_left
 ·show Act.put _ (some 31) _ = _
  simp only [Act.put, zla, zlb, zlc, i64_w, i32_w, hwm]
  rfl
 refine zp 15 (some 32) ?_ rfl rfl (by kernel_rfl) (fun _ _ _ h => h) (by rfl) ?_ ?_ ?_ ?_ ?_
 rotate_left; · (intro w'; go_simp; with_reducible rfl)
 rotate_left 2; · (simp only [Act.put, zla, zlb, zlc, i64_w, i32_w, hwm]; rfl)
 refine zp 16 (some 33) ?_ rfl rfl (by kernel_rfl) (fun _ _ _ h => h) (by rfl) ?_ ?_ ?_ ?_ ?_
 rotate_left; · (intro w'; go_simp; with_reducible rfl)
 rotate_left 2; · (simp only [Act.put, zla, zlb, zlc, i64_w, i32_w, hwm]; rfl)
 refine last_ (i := 17) (N := none) #[true, true, true, true, true, true, true, true, true, true, true, true, true, true, true, true, true, true] rfl rfl (by kernel_rfl) (by decide) (fun K hK => ?_)
 refine skip_ (w1 := ?_) (by rfl) rfl ?_ ?_
 rotate_left
 ·go_simp
  rfl
 refine hK.out _ _ ?_
 clear hK K
 refine done_ (by kernel_rfl) ?_
 have HBG1 := Aside0.mk (HBG0.out.setN HT0.out HK0.out)
 have HU1 := Aside0.mk ((HU0.out.trans (HT0.out.mono (by simp))).set HG0.out (by simp) HBG0.out.ge 0 (.slice Av0 nl0 cv0))
 have HX1 := Aside0.mk (((UT.refl [101, 3, 9, 25] w.heap.size wz0).set HG0.out (by simp) HBG0.out.ge 0 (.slice Av0 nl0 cv0)).blk HY0.out (by decide))
 have hb1 : w.heap.size ≤ (wz0.setCell ⟨g, 0, none⟩ (.slice Av0 nl0 cv0)).heap.size := Nat.le_trans hb0 HU1.out.size
 clear HT0 HK0 HG0 HY0
 generalize (wz0.setCell ⟨g, 0, none⟩ (.slice Av0 nl0 cv0)) = W1 at *
 go_wp2
 go_loopw [5] (fun iv wr => RmE w W0 g (n :: m :: (l.length : Int) :: l.flatMap (fun x => [x.f0, x.f1])) l q iv wr) (fun iv _ => l.length - (intOf iv).toNat)
 case atStart => exact ⟨0, _, rfl, Nat.zero_le _, ⟨_, _, _, by first | exact HBG1.out | exact HBG1.out.drew⟩, (by first | exact HU1.out | exact HU1.out.drew), by simp, by rw [List.drop_zero]; exact HQ.out⟩
 case round =>
  obtain ⟨i, ns, rfl, hle, hbag, hup, hns, heq⟩ := hrel
  have HB := Aside0.mk hbag
  have HUr := Aside0.mk hup
  have HNS := Aside0.mk hns
  have HXr := Aside0.mk (hup.blk HX0.out (by decide))
  have hbr : w.heap.size ≤ wr.heap.size := Nat.le_trans hb0 hup.size
  have HWr := Aside0.mk (HW0.out.trans (hup.below hb0))
  clear hbag hup hns
  have m_2 := blk_cell HXr.out 2
  simp only [List.getElem?_toArray, List.getElem?_cons_succ, List.getElem?_cons_zero] at m_2
  by_cases hlt : i < l.length
  ·skip
   have hdrop : l.drop i = l[i] :: l.drop (i + 1) := List.drop_eq_getElem_cons hlt
   have CA := Aside0.mk (fun (W : World) (hW : Below w.heap.size w W) => (In.ofC HI.out hW (Nat.le_refl _)).at108 hlt)
   obtain ⟨ad, rfl, d0, d1⟩ := CA.out wr HWr.out
   have CE := Aside0.mk (fun (W : World) (hW : Below w.heap.size w W) => (CA.out W hW).elim (fun ad' h => (Option.some.inj h.1) ▸ h.2))
   rw [hdrop, rowsC] at heq
   have e1 := HNS.out
   rw [hdrop, List.flatMap_cons] at e1
   have E1 := Aside0.mk e1
   have hnsl : ns.length ≤ 100 := by have h := congrArg List.length HNS.out; have h2 := flatMap_len' (fun x : S108 => [x.f0, x.f1]) 2 l (fun _ _ => by simp); simp only [List.length_append, List.length_cons] at h; omega
   have hx1 := HX.out l[i] (List.getElem_mem hlt)
   clear hdrop e1 CA
   generalize l[i] = x at *
   have hwx := w64 (show -9223372036854775808 ≤ x.f1 by omega) (show x.f1 ≤ 9223372036854775807 by omega)
   by_cases cx : x.f0 < 0 ∨ 65536 < x.f0
   ·skip
    rw [if_pos cx] at heq
    subst heq
    go_wp2_with fail
    refine (out_calls x.f0 65536 _ true (by simp; omega)).mono ?_
    rintro e w' ⟨rfl, ⟨⟨nd, rfl⟩⟩⟩
    go_wp2
    go_ret2
    exact ⟨.slice none 0 0, rfl, by first | exact R5.nil _ _ | (rw [if_neg (by decide)]; exact R5.nil _ _), pw_below_drewN HWr.out _⟩
   ·skip
    rw [if_neg cx] at heq
    have HEQ := Aside0.mk heq
    clear heq
    go_wp2_with fail
    refine (out_calls x.f0 65536 _ false (by simp; omega)).mono ?_
    rintro e w' ⟨rfl, ⟨⟨nd, rfl⟩⟩⟩
    obtain ⟨un5, uk5, uv5, hB5⟩ := HB.out
    have HBG5 := Aside0.mk (hB5.drewN nd)
    have HX5 := Aside0.mk (blk_drewN HXr.out nd)
    have HU5 := Aside0.mk (HUr.out.drewN nd)
    have hb5 : w.heap.size ≤ (wr.drewN nd).heap.size := hbr
    have HWd := Aside0.mk (pw_below_drewN HWr.out nd)
    clear hB5 d0 d1 m_2
    generalize wr.drewN nd = W5 at *
    go_wp2
    refine start_ (n := 23) (S := fun w' => w'.cell? ⟨g, 0, none⟩ = some un5 ∧ w'.frozen? ⟨g, 0, none⟩ = false ∧ w'.cell? ⟨w.heap.size, 2, none⟩ = some (.slice (some ad) l.length c) ∧ w'.cell? (ad.add (i * 2)) = some (.int .i64 x.f0) ∧ w'.cell? ⟨(ad.add (i * 2)).block, (ad.add (i * 2)).off + 1, none⟩ = some (.int .u32 x.f1)) (ds := [22]) #[false, false, false, false, false, false, false, false, false, false, false, false, false, false, false, false, false, false, false, false, false, false, false] (by kernel_rfl) rfl rfl ⟨(blk_cell HBG5.out.box 0), (blk_frozen HBG5.out.box 0), (blk_cell HX5.out 2), (CE.out _ (HWd.out.trans ((UT.below (T := [101, 3, 9, 25]) (UT.refl _ _ _) hb5)))).1, (CE.out _ (HWd.out.trans ((UT.below (T := [101, 3, 9, 25]) (UT.refl _ _ _) hb5)))).2⟩ (fun hHeld => ?_)
    refine zq 0 (some 48) ?_
    refine zq 1 (some 49) ?_
    refine zq 2 (some 50) ?_
    refine zq 3 (some 51) ?_
    refine zq 5 (some 53) ?_
    refine zq 7 (some 55) ?_
    refine zq 11 (some 59) ?_
    refine zq 13 (some 61) ?_
    refine zu 4 (some 52) hHeld ?_
    refine zu 6 (some 54) hHeld ?_
    refine zq 8 (some 56) ?_
    refine zq 9 (some 57) ?_
    refine zu 10 (some 58) hHeld ?_
    refine zu 12 (some 60) hHeld ?_
    refine zq 14 (some 62) ?_
    refine zq 15 (some 63) ?_
    refine zu 16 (some 64) hHeld ?_
    refine zq 17 (some 65) ?_
    refine one_ (i := 18) (N := some 66) #[true, true, true, true, true, true, true, true, true, true, true, true, true, true, true, true, true, true, true, false, false, false, false] rfl rfl (by kernel_rfl) (by decide) (fun K hK => ?_)
    refine value_ (w1 := ?_) (v := ?_) (by rfl) rfl ?_ ?_
    rotate_left 2
    ·go_simp
     constructor
     ·rfl
     ·rfl
    refine hK.out _ _ ⟨(blk_cell (blk_alloc HBG5.out.box _) 0), (blk_frozen (blk_alloc HBG5.out.box _) 0), (blk_cell (blk_alloc HX5.out _) 2), (CE.out _ (HWd.out.trans ((UT.below (T := [101, 3, 9, 25]) ((UT.refl _ _ _).alloc _) hb5)))).1, (CE.out _ (HWd.out.trans ((UT.below (T := [101, 3, 9, 25]) ((UT.refl _ _ _).alloc _) hb5)))).2⟩ (fun hHeld => ?_)
    clear hK K
    refine norm_ (a' := ?_) ?_ ?_
    rotate_left
    ·show Act.put _ (some 66) _ = _
     simp only [Act.put, zla, zlb, zlc, i64_w, i32_w]
     rfl
    refine one_ (i := 19) (N := some 67) #[true, true, true, true, true, true, true, true, true, true, true, true, true, true, true, true, true, true, true, true, false, false, false] rfl rfl (by kernel_rfl) (by decide) (fun K hK => ?_)
    refine appN_step (by rfl) (.tmp 52) (.tmp 66) rfl un5 (ns) [x.f0, x.f1] rfl W5 _ (by first | exact ⟨1, rfl⟩ | exact ⟨0, rfl⟩ | exact ⟨2, rfl⟩ | exact ⟨3, rfl⟩) rfl 2 rfl _ rfl (by first | rfl | simp) HBG5.out.nums hb5 (by simp only [List.length_cons, List.length_nil]; omega) ?_
    intro vz5 wz5 h1 h2
    obtain ⟨Av5, nl5, cv5, rfl⟩ : ∃ A n c, vz5 = .slice A n c := (Kd.R_slice h1).elim (fun A h => h.elim (fun c h => ⟨A, _, c, h⟩))
    have HK5 := Aside0.mk h1
    have HT5 := Aside0.mk h2
    have HG5 := Aside0.mk (h2.blk HBG5.out.box (by decide))
    have HY5 := Aside0.mk (h2.blk HX5.out (by decide))
    clear h1 h2
    refine hK.out _ _ ⟨(blk_cell HG5.out 0), (blk_frozen HG5.out 0), (blk_cell HY5.out 2), (CE.out _ (HWd.out.trans ((UT.below (T := [101, 3, 9, 25]) (HT5.out.mono (by simp)) hb5)))).1, (CE.out _ (HWd.out.trans ((UT.below (T := [101, 3, 9, 25]) (HT5.out.mono (by simp)) hb5)))).2⟩ (fun hHeld => ?_)
    clear hK K
    refine norm_ (a' := ?_) ?_ ?_
    rotate_left
    ·show Act.put _ (some 67) _ = _
     simp only [Act.put, zla, zlb, zlc, i64_w, i32_w]
     rfl
    refine zq 20 (some 68) ?_
    refine zq 21 (some 69) ?_
    refine last_ (i := 22) (N := none) #[true, true, true, true, true, true, true, true, true, true, true, true, true, true, true, true, true, true, true, true, true, true, true] rfl rfl (by kernel_rfl) (by decide) (fun K hK => ?_)
    refine skip_ (w1 := ?_) (by rfl) rfl ?_ ?_
    rotate_left
    ·go_simp
     rfl
    refine hK.out _ _ ?_
    clear hK K
    refine done_ (by kernel_rfl) ?_
    have HBG6 := Aside0.mk (HBG5.out.setN HT5.out HK5.out)
    have HU6 := Aside0.mk ((HU5.out.trans (HT5.out.mono (by simp))).set HG5.out (by simp) HBG5.out.ge 0 (.slice Av5 nl5 cv5))
    have HX6 := Aside0.mk (((UT.refl [101, 3, 9, 25] w.heap.size wz5).set HG5.out (by simp) HBG5.out.ge 0 (.slice Av5 nl5 cv5)).blk HY5.out (by decide))
    have hb6 : w.heap.size ≤ (wz5.setCell ⟨g, 0, none⟩ (.slice Av5 nl5 cv5)).heap.size := Nat.le_trans hb0 HU6.out.size
    clear HT5 HK5 HG5 HY5
    generalize (wz5.setCell ⟨g, 0, none⟩ (.slice Av5 nl5 cv5)) = W6 at *
    go_wp2
    go_roundw
    case rel => exact ⟨i + 1, _, by simp, by omega, ⟨_, _, _, by first | exact HBG6.out | exact HBG6.out.drew⟩, (by first | exact HU6.out | exact HU6.out.drew), by rw [← E1.out]; simp only [List.append_assoc, List.cons_append, List.nil_append], HEQ.out⟩
    case measure => simp [intOf]; omega
  ·skip
   have hi : i = l.length := by omega
   rw [hi, List.drop_length, rowsC] at heq
   subst heq
   have hir : ¬ (i : Int) < (l.length : Int) := by omega
   have e1 := HNS.out
   rw [hi, List.drop_length, List.flatMap_nil, List.append_nil] at e1
   subst e1
   clear hi
   have HOK := Aside0.mk (fun x hx => (⟨⟨(rowsC_ok HQ.out x hx).1, by have := (rowsC_ok HQ.out x hx).2; omega⟩, HX.out x hx⟩ : okRow x))
   obtain ⟨un9, uk9, uv9, hB9⟩ := HB.out
   have HBG9 := Aside0.mk hB9
   have HU9 := Aside0.mk HUr.out
   have hb9 := hbr
   clear hB9
   have HL := Aside0.mk (lst_len encRow 14 12 l (by omega) (by omega) (fun x hx => by have h := rowsC_ok HQ.out x hx; have g := grp_len10 (n := x.f0) (by omega); unfold encRow word; simp only [List.length_append, List.length_cons, List.length_nil]; omega))
   go_wp2_with fail
   refine (write_calls (RelB w) _ formMan (Nat.le_refl _) okManF ⟨#[77, 105, 119, 91, 114, 122, 119, 93]⟩ (by decide) (by rfl) w.heap.size _ (.slice none 0 0) [] g _ _ _ 0 0 0 un9 uk9 uv9 (R5.nil _ _) ?hsz ?hbag (fun W hW => HW0.out.trans ((HU9.out.below hb0).trans (Below.trans ?hdr hW))) _ _ (wr_man n m l (by omega) hm hln HOK.out) (by rw [List.nil_append]; have := HL.out; have g := grp_len10 (n := n) (by omega); unfold encMan word; simp only [List.length_append, List.length_cons, List.length_nil]; omega)).mono ?_
   case hsz => exact Nat.le_trans hb9 (by first | exact Nat.le_refl _ | simp)
   case hbag => exact Bag.cast (i := 0) (j := 0) (k := 0) (by first | (with_reducible exact HBG9.out) | (with_reducible exact HBG9.out.drew) | (have h := HBG9.out; simpa using h) | (have h := HBG9.out.drew; simpa using h)) rfl rfl rfl
   case hdr => repeat (with_reducible first | exact Below.refl _ _ | apply below_drew | apply pw_below_drewN)
   intro e w9 hp
   obtain ⟨u9, rfl, r9, t9⟩ := wr_done (w0 := w) hp
   rw [List.nil_append] at r9
   have HR9 := Aside0.mk r9
   have HT9 := Aside0.mk (t9.below (by first | exact hb9 | (simp; exact hb9)))
   clear r9 t9 hp
   go_wp2
   go_ret2
   exact ⟨u9, rfl, HR9.out, HW0.out.trans ((HU9.out.below hb0).trans (Below.trans (by repeat (with_reducible first | exact Below.refl _ _ | apply below_drew | apply pw_below_drewN)) HT9.out))⟩
end Go.Proofs.Ythmkioodkldgbaa.DK
/- eddyref4.PutSegment; conditions: those in each theorem. -/
namespace Go.Proofs.Ythmkioodkldgbaa.DK
open Go.Proofs.Ythmkioodkldgbaa.PD
open Go.RowKit Go.Proofs.YthmkioodkldgbaaW.PrintWords Go.Proofs.YthmkioodkldgbaaW.PrintLast Go.Proofs.YthmkioodkldgbaaW.PrintMore
set_option linter.unusedVariables false
set_option linter.unusedSimpArgs false
set_option maxRecDepth 100000
theorem recsL_small : ∀ {l : List S28}, recsL l = 0 → ∀ x ∈ l, x.f2.length ≤ 3
 | [], _, x, hx => by simp at hx
 | y :: l, h, x, hx => by
  rw [recsL] at h
  split at h
  ·rename_i h1
   rcases List.mem_cons.1 hx with rfl | hx
   ·exact recC_loops h1
   ·exact recsL_small h x hx
  ·rename_i h1; exact absurd h h1
theorem recsC_small {l : List S28} (h : recsC l = 0) : l.length ≤ 256 ∧ ∀ x ∈ l, x.f2.length ≤ 3 := by
 unfold recsC at h
 split at h
 ·simp at h
 ·exact ⟨by omega, recsL_small h⟩
theorem logsL_small : ∀ {l : List (List S28)} {p : List S28}, logsL l p = 0 → (∀ y ∈ l, recsC y = 0) ∧ recsC p = 0
 | [], p, h => by rw [logsL] at h; exact ⟨fun y hy => by simp at hy, h⟩
 | y :: l, p, h => by
  rw [logsL] at h
  split at h
  ·rename_i h1
   have ih := logsL_small h
   refine ⟨fun z hz => ?_, ih.2⟩
   rcases List.mem_cons.1 hz with rfl | hz
   ·exact h1
   ·exact ih.1 z hz
  ·rename_i h1; exact absurd h h1
structure LogsSmall (l : List (List S28)) (p : List S28) : Prop where
 logs : l.length ≤ 4
 log : ∀ y ∈ l, y.length ≤ 256
 rec_ : ∀ y ∈ l, ∀ x ∈ y, x.f2.length ≤ 3
 pend : p.length ≤ 256
 prec : ∀ x ∈ p, x.f2.length ≤ 3
 n : (l.flatMap logN).length ≤ 5000
 pn : (p.flatMap recN).length ≤ 1100
 k : (l.flatMap (fun y => y.map (fun x => x.f0))).length ≤ 5000
 v : (l.flatMap (fun y => y.map (fun x => x.f1))).length ≤ 5000
theorem logsC_small {l : List (List S28)} {p : List S28} (h : logsC l p = 0) : LogsSmall l p := by
 unfold logsC at h
 split at h
 ·simp at h
 rename_i h4
 obtain ⟨h1, h2⟩ := logsL_small h
 have hp := recsC_small h2
 have hy := fun y hy => recsC_small (h1 y hy)
 have pn := flatMap_len' recN 4 p (fun x hx => by have := hp.2 x hx; simp [recN]; omega)
 have ln := flatMap_len' logN 1100 l (fun y hy' => by
  have a := hy y hy'
  have b := flatMap_len' recN 4 y (fun x hx => by have := a.2 x hx; simp [recN]; omega)
  unfold logN
  simp only [List.length_cons]
  omega)
 have lk := flatMap_len' (fun y : List S28 => y.map (fun x => x.f0)) 256 l (fun y hy' => by have a := hy y hy'; rw [List.length_map]; omega)
 have lv := flatMap_len' (fun y : List S28 => y.map (fun x => x.f1)) 256 l (fun y hy' => by have a := hy y hy'; rw [List.length_map]; omega)
 exact ⟨by omega, fun y h => (hy y h).1, fun y h => (hy y h).2, hp.1, hp.2, by omega, by omega, by omega, by omega⟩
theorem wr_tail (l : List (List S28)) (p : List S28) (hs : LogsSmall l p) (h : ∀ y ∈ l, ∀ x ∈ y, okRec x) (hp : ∀ x ∈ p, okRec x) :
  wrs formLogs ⟨(l.length : Int) :: (l.flatMap logN ++ ((p.length : Int) :: p.flatMap recN)), l.flatMap (fun y => y.map (fun x => x.f0)) ++ p.map (fun x => x.f0), l.flatMap (fun y => y.map (fun x => x.f1)) ++ p.map (fun x => x.f1)⟩ = some (lst (lst encR) l ++ lst encR p, ⟨[], [], []⟩) := by
 have h1 := wrs_one (wr_logs (r := false) (c := 112) l (by have := hs.logs; omega) (fun y hy => by have := hs.log y hy; omega) h (fun y hy x hx => by have := hs.rec_ y hy x hx; omega) ((p.length : Int) :: p.flatMap recN) (p.map (fun x => x.f0)) (p.map (fun x => x.f1)))
  (wrs_one (by have h2 := wr_recs (r := false) (c := 108) p (by have := hs.pend; omega) hp (fun x hx => by have := hs.prec x hx; omega) [] [] []; simpa using h2) (wrs_nil _))
 simpa [formLogs] using h1
theorem wr_front (a b c : Int) (ha : 0 ≤ a ∧ a ≤ 9223372036854775807) (hb : 0 ≤ b ∧ b ≤ 9223372036854775807) (hc : 0 ≤ c ∧ c ≤ 9223372036854775807) (N : List Int) (K : List ByteArray) (V : List S25) : wrs formFront ⟨a :: b :: c :: N, K, V⟩ = some (83 :: grp a ++ grp b ++ grp c, ⟨N, K, V⟩) := by
 have := wrs_one (wr_mark (c := 83)) (wrs_one (wr_num (c := 105) (N := b :: c :: N) (K := K) (V := V) ha) (wrs_one (wr_num (c := 116) (N := c :: N) (K := K) (V := V) hb) (wrs_one (wr_num (c := 105) (N := N) (K := K) (V := V) hc) (wrs_nil _))))
 simpa [formFront] using this
theorem wr_delta (n : Int) (l : List S121) (gone : List ByteArray) (hn : 0 ≤ n ∧ n ≤ 9223372036854775807) (hl : l.length ≤ 9223372036854775807) (h : ∀ x ∈ l, okCell x) (hx : ∀ x ∈ l, x.f1.length ≤ 9223372036854775807) (hg : gone.length ≤ 9223372036854775807) (hgx : ∀ x ∈ gone, x.size ≤ 140737488355328) (N : List Int) (K : List ByteArray) (V : List S25) :
  wrs formDelta ⟨n :: (l.length : Int) :: (l.flatMap cellN ++ ((gone.length : Int) :: N)), l.map (fun x => x.f0) ++ (gone ++ K), l.flatMap (fun x => x.f1) ++ V⟩ = some (grp n ++ lst encC l ++ lst keyB gone, ⟨N, K, V⟩) := by
 have := wrs_one (wr_num (c := 110) (K := l.map (fun x => x.f0) ++ (gone ++ K)) (V := l.flatMap (fun x => x.f1) ++ V) hn) (wrs_one (wr_cells l hl h hx ((gone.length : Int) :: N) (gone ++ K) V) (wrs_one (wr_keys (r := true) (c := 99) gone hg hgx N K V) (wrs_nil _)))
 simpa [formDelta] using this
/-- The numbers of a segment. -/
def segN (s : Seg) : List Int := s.id :: s.task :: s.base :: (if s.base = 0 then s.snum :: (s.cells.length : Int) :: s.cells.flatMap cellN else s.sum :: s.dnum :: (s.set.length : Int) :: (s.set.flatMap cellN ++ [(s.gone.length : Int)])) ++ ((s.logs.length : Int) :: (s.logs.flatMap logN ++ logN s.pend))
def segK (s : Seg) : List ByteArray := (if s.base = 0 then s.cells.map (fun x => x.f0) else s.set.map (fun x => x.f0) ++ s.gone) ++ (s.logs.flatMap (fun y => y.map (fun x => x.f0)) ++ s.pend.map (fun x => x.f0))
def segV (s : Seg) : List S25 := (if s.base = 0 then s.cells.flatMap (fun x => x.f1) else s.set.flatMap (fun x => x.f1)) ++ (s.logs.flatMap (fun y => y.map (fun x => x.f1)) ++ s.pend.map (fun x => x.f1))
theorem wr_seg (s : Seg) (hk : okSeg s) (hs : s.Short) (hl : LogsSmall s.logs s.pend) : wrs (if s.base = 0 then formFull else formPatch) ⟨segN s, segK s, segV s⟩ = some (encSeg s, ⟨[], [], []⟩) := by
 have b : ∀ {a m : Int}, 0 ≤ a ∧ a ≤ m → m ≤ 9223372036854775807 → 0 ≤ a ∧ a ≤ 9223372036854775807 := fun h hm => ⟨h.1, by omega⟩
 have ht := wr_tail s.logs s.pend hl hk.logs hk.pend
 unfold segN segK segV encSeg encFront encLogs
 by_cases hz : s.base = 0
 ·simp only [if_pos hz]
  have h2 := wrs_app (wr_state s.snum s.cells (b (hk.snum hz) (by decide)) hs.cells (hk.cells hz) hs.cellx _ _ _) ht
  have h1 := wrs_app (wr_front s.id s.task s.base (b hk.id (by decide)) (b hk.task (by decide)) (b hk.base (by decide)) _ _ _) h2
  simpa [formFull, logN, List.append_assoc] using h1
 ·simp only [if_neg hz]
  have h3 := wrs_app (wr_delta s.dnum s.set s.gone (b (hk.dnum hz) (by decide)) hs.set (hk.set hz) hs.setx hs.gone (hk.gone hz) _ _ _) ht
  have h2 := wrs_app (wrs_one (wr_word hk.sum) (wrs_nil _)) h3
  have h1 := wrs_app (wr_front s.id s.task s.base (b hk.id (by decide)) (b hk.task (by decide)) (b hk.base (by decide)) _ _ _) h2
  simpa [formPatch, logN, encDelta, List.append_assoc] using h1
theorem bodyC_small {s : Seg} (h : segC s = 0) : LogsSmall s.logs s.pend ∧ (s.base = 0 → s.cells.length ≤ 64 ∧ ∀ x ∈ s.cells, x.f1.length ≤ 6) ∧ (s.base ≠ 0 → (s.set.length ≤ 64 ∧ ∀ x ∈ s.set, x.f1.length ≤ 6) ∧ s.gone.length ≤ 64) := by
 have st : ∀ {n : Int} {l : List S121}, stateC n l = 0 → l.length ≤ 64 := fun {n l} h => by
  unfold stateC at h
  split at h
  ·simp at h
  split at h
  ·simp at h
  ·omega
 unfold segC at h
 split at h
 ·simp at h
 split at h
 ·simp at h
 split at h
 ·rename_i h1 h2 h3
  refine ⟨logsC_small h, fun hz => ?_, fun hz => ?_⟩
  ·unfold bodyC at h3
   rw [if_pos hz] at h3
   exact ⟨st h3, stateC_vals h3⟩
  ·unfold bodyC at h3
   rw [if_neg hz] at h3
   split at h3
   ·rename_i h5
    refine ⟨⟨st h5, stateC_vals h5⟩, ?_⟩
    unfold goneC at h3
    split at h3
    ·simp at h3
    ·omega
   ·rename_i h5; exact absurd h3 h5
 ·rename_i h1 h2 h3; exact absurd h h3
end Go.Proofs.Ythmkioodkldgbaa.DK
