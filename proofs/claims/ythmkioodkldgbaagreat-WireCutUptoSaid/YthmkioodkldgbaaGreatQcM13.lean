/- wire.PutRow, PutManifest; conditions: those in each theorem. -/
import Derived.Test.YthmkioodkldgbaaGreatQcM12
import Derived.Test.YthmkioodkldgbaaGreatQcM10
import Derived.Test.YthmkioodkldgbaaGreatQcM04
import Derived.Test.YthmkioodkldgbaaGreatQcM05
namespace Go.Proofs.YthmkioodkldgbaaGreat.DK
open Go.Proofs.YthmkioodkldgbaaGreat.PD
open Go.RowKit Go.Proofs.YthmkioodkldgbaaGreatW.PrintWords Go.Proofs.YthmkioodkldgbaaGreatW.PrintLast Go.Proofs.YthmkioodkldgbaaGreatW.PrintMore
set_option linter.unusedVariables false
set_option linter.unusedSimpArgs false
set_option maxRecDepth 100000
def rowC (at_ : Int) (x : S28) : Int := if at_ < 0 ∨ 1073741824 < at_ then 43 else recC x
def rowsC : List S108 → Int
 | [] => 0
 | x :: l => if x.f0 < 0 ∨ 65536 < x.f0 then 43 else rowsC l
def manC (id : Int) (l : List S108) : Int := if id < 0 ∨ 9999 < id ∨ 12 < l.length then 43 else rowsC l
def encMan (id sum : Int) (l : List S108) : List Int := 77 :: grp id ++ word sum ++ lst encRow l
theorem rowsC_ok : ∀ {l : List S108}, rowsC l = 0 → ∀ x ∈ l, 0 ≤ x.f0 ∧ x.f0 ≤ 65536
 | [], _, x, hx => by simp at hx
 | y :: l, h, x, hx => by
  rw [rowsC] at h
  split at h
  ·simp at h
  ·rcases List.mem_cons.1 hx with rfl | hx
   ·omega
   ·exact rowsC_ok h x hx
structure ManI (w : World) (cs : Array Value) (l : List S108) (q : Int) (i : Nat) (wr : World) : Prop where
 le : i ≤ l.length
 box : wr.heap[w.heap.size]? = some (.cells cs 41 (0, 0))
 b : Below w.heap.size w wr
 eq : rowsC (l.drop i) = q
def ManE (w : World) (cs : Array Value) (l : List S108) (q : Int) (iv : Value) (wr : World) : Prop := ∃ i : Nat, iv = .int .i64 i ∧ ManI w cs l q i wr
def encOut (at_ : Int) (x : S28) : List Int := 79 :: grp at_ ++ encR x
set_option maxHeartbeats 4000000 in
theorem PutRow_calls (w : World) (n : Int) (x : S28) (A4 : Option Addr) (c4 : Nat) (A5 : Option Addr) (c5 : Nat) (h4 : k25.C w A4 x.f1.f3.length x.f1.f3) (l4 : x.f1.f3.length ≤ c4) (h5 : (Kd.int .i64).C w A5 x.f2.length x.f2) (l5 : x.f2.length ≤ c5) (ho : okS x.f1) :
  Calls Tryz.prog 24 #[.agg #[.int .i64 n, .string x.f0, .int .i64 x.f1.f0, .int .i64 x.f1.f1, .string x.f1.f2, .slice A4 x.f1.f3.length c4, .slice A5 x.f2.length c5]] w (Put w (rowC n x) (encOut n x)) := by
 have HC := Aside0.mk (fun (W : World) (hb : Below w.heap.size w W) => CheckRecord_calls x W w.heap.size A4 c4 A5 c5 (In.ofC h4 hb (Nat.le_refl _)) (In.ofC h5 hb (Nat.le_refl _)) hb.size l4)
 have HI4 := Aside0.mk h4
 have HI5 := Aside0.mk h5
 have HO := Aside0.mk ho
 clear h4 h5 ho
 unfold Put rowC
 by_cases c1 : n < 0
 ·rw [if_pos (.inl c1)]
  go_enter Tryz.func24, Tryz.ntmps24
  go_wp2
  go_ret2
  exact ⟨.slice none 0 0, rfl, by first | exact R5.nil _ _ | (rw [if_neg (by decide)]; exact R5.nil _ _), (below_alloc (Below.refl _ _) _)⟩
 by_cases c2 : 1073741824 < n
 ·rw [if_pos (.inr c2)]
  go_enter Tryz.func24, Tryz.ntmps24
  go_wp2
  go_ret2
  exact ⟨.slice none 0 0, rfl, by first | exact R5.nil _ _ | (rw [if_neg (by decide)]; exact R5.nil _ _), (below_alloc (Below.refl _ _) _)⟩
 rw [if_neg (by omega)]
 generalize hq : recC x = q at HC ⊢
 have HQ := Aside0.mk hq
 clear hq
 by_cases hz : q = 0
 ·subst hz
  have HP := Aside0.mk (recC_ok HO.out HQ.out)
  go_enter Tryz.func24, Tryz.ntmps24
  go_wp2_with fail
  refine (HC.out _ ?hw).mono ?_
  case hw => repeat (with_reducible first | exact Below.refl _ _ | apply below_drew | apply pw_below_drewN | apply below_alloc)
  rintro e w1 ⟨rfl, hb⟩
  have HB1 := Aside0.mk (show Below w.heap.size w w1 from (below_alloc (Below.refl _ _) _).trans (hb.mono (by simp)))
  have HB := Aside0.mk ((hb.block w.heap.size (by simp)).trans (heap_alloc_new w (.cells #[.int .i64 n, .string x.f0, .int .i64 x.f1.f0, .int .i64 x.f1.f1, .string x.f1.f2, .slice A4 x.f1.f3.length c4, .slice A5 x.f2.length c5] 43)))
  clear hb
  have n0_0 := blk_cell HB.out 0
  have n0_1 := blk_cell HB.out 1
  have n0_2 := blk_cell HB.out 2
  have n0_3 := blk_cell HB.out 3
  have n0_4 := blk_cell HB.out 4
  have n0_5 := blk_cell HB.out 5
  have n0_6 := blk_cell HB.out 6
  simp only [List.getElem?_toArray, List.getElem?_cons_succ, List.getElem?_cons_zero] at n0_0 n0_1 n0_2 n0_3 n0_4 n0_5 n0_6
  have HU0 := Aside0.mk (U5.of_below (b := w.heap.size) HB1.out)
  have hb : w.heap.size ≤ w1.heap.size := HB1.out.size
  go_wp2
  refine start_ (n := 9) (S := fun w' => w'.cell? ⟨w.heap.size, 0, none⟩ = some (.int .i64 n) ∧ w'.cell? ⟨w.heap.size, 1, none⟩ = some (.string x.f0) ∧ w'.cell? ⟨w.heap.size, 2, none⟩ = some (.int .i64 x.f1.f0) ∧ w'.cell? ⟨w.heap.size, 3, none⟩ = some (.int .i64 x.f1.f1) ∧ w'.cell? ⟨w.heap.size, 4, none⟩ = some (.string x.f1.f2) ∧ w'.cell? ⟨w.heap.size, 5, none⟩ = some (.slice A4 x.f1.f3.length c4) ∧ w'.cell? ⟨w.heap.size, 6, none⟩ = some (.slice A5 x.f2.length c5)) (ds := [6]) #[false, false, false, false, false, false, false, false, false] (by kernel_rfl) rfl rfl ⟨n0_0, n0_1, n0_2, n0_3, n0_4, n0_5, n0_6⟩ (fun hHeld => ?_)
  refine zq 1 (some 20) ?_
  refine zq 4 (some 23) ?_
  refine zu 2 (some 21) hHeld ?_
  refine zu 5 (some 24) hHeld ?_
  refine one_ (i := 0) (N := some 19) #[true, true, true, false, true, true, false, false, false] rfl rfl (by kernel_rfl) (by decide) (fun K hK => ?_)
  refine value_ (w1 := ?_) (v := ?_) (by rfl) rfl ?_ ?_
  rotate_left 2
  ·go_simp
   constructor
   ·rfl
   ·rfl
  refine hK.out _ _ ⟨(blk_cell (blk_alloc HB.out _) 0), (blk_cell (blk_alloc HB.out _) 1), (blk_cell (blk_alloc HB.out _) 2), (blk_cell (blk_alloc HB.out _) 3), (blk_cell (blk_alloc HB.out _) 4), (blk_cell (blk_alloc HB.out _) 5), (blk_cell (blk_alloc HB.out _) 6)⟩ (fun hHeld => ?_)
  clear hK K
  refine norm_ (a' := ?_) ?_ ?_
  rotate_left
  ·show Act.put _ (some 19) _ = _
   simp only [Act.put, zla, zlb, zlc, i64_w, i32_w]
   rfl
  refine one_ (i := 3) (N := some 22) #[true, true, true, true, true, true, false, false, false] rfl rfl (by kernel_rfl) (by decide) (fun K hK => ?_)
  refine goes_ Tryz.func54 (by kernel_rfl) rfl #[.slice (some ⟨w1.heap.size, 0, none⟩) 1 1, .int .i64 n] (by rfl) rfl rfl (by simp only [List.map_toArray, List.map_cons, List.map_nil]; rfl) ?_
  refine (putNumber_calls w.heap.size _ _ [79] n (by omega) (by omega) ?hr ?hs (by have h := HP.out.2; have g := grp_len10 (n := n) (by omega); simp only [List.length_append, List.length_cons, List.length_nil]; omega)).mono ?_
  case hr => exact (R5.lit w1 w.heap.size [79] hb (by decide)).drew
  case hs => show w.heap.size ≤ (w1.alloc _).heap.size; simp; omega
  rintro e w3 ⟨u3, rfl, h1, h2⟩
  have HR3 := Aside0.mk h1
  have HU3 := Aside0.mk (U5.trans (b := w.heap.size) (w := w) ((HU0.out.alloc _).drew) h2)
  have HB3 := Aside0.mk (h2.blk (blk_drew (blk_alloc HB.out _)) (by decide))
  clear h1 h2
  refine ⟨_, rfl, ?_⟩
  refine hK.out _ _ ⟨(blk_cell HB3.out 0), (blk_cell HB3.out 1), (blk_cell HB3.out 2), (blk_cell HB3.out 3), (blk_cell HB3.out 4), (blk_cell HB3.out 5), (blk_cell HB3.out 6)⟩ (fun hHeld => ?_)
  clear hK K
  refine norm_ (a' := ?_) ?_ ?_
  rotate_left
  ·show Act.put _ (some 22) _ = _
   simp only [Act.put, zla, zlb, zlc, i64_w, i32_w]
   rfl
  refine last_ (i := 6) (N := some 25) #[true, true, true, true, true, true, true, false, false] rfl rfl (by kernel_rfl) (by decide) (fun K hK => ?_)
  refine goes_ Tryz.func59 (by kernel_rfl) rfl #[u3, .agg #[.string x.f0, .int .i64 x.f1.f0, .int .i64 x.f1.f1, .string x.f1.f2, .slice A4 x.f1.f3.length c4, .slice A5 x.f2.length c5]] (by rfl) rfl rfl (by simp only [List.map_toArray, List.map_cons, List.map_nil]; rfl) ?_
  refine (putRecord_calls w.heap.size _ u3 ([79] ++ grp n) x A4 c4 A5 c5 ?hr ?hs (In.ofC HI4.out (U5.below (b := w.heap.size) ?hu (Nat.le_refl _)) (Nat.le_refl _)) l4 (In.ofC HI5.out (U5.below (b := w.heap.size) ?hu2 (Nat.le_refl _)) (Nat.le_refl _)) l5 HP.out.1 (by have h := HP.out.2; have g := grp_len10 (n := n) (by omega); simp only [List.length_append, List.length_cons, List.length_nil]; omega)).mono ?_
  case hr => exact (by repeat (with_reducible first | exact HR3.out | apply R5.drew | apply R5.drewN | apply R5.alloc))
  case hs => exact (Nat.le_trans (Nat.le_refl _) (U5.size (b := w.heap.size) (by repeat (with_reducible first | exact HU3.out | apply U5.drew | apply U5.drewN | apply U5.alloc))))
  case hu => exact (by repeat (with_reducible first | exact HU3.out | apply U5.drew | apply U5.drewN | apply U5.alloc))
  case hu2 => exact (by repeat (with_reducible first | exact HU3.out | apply U5.drew | apply U5.drewN | apply U5.alloc))
  rintro e w6 ⟨u6, rfl, h1, h2⟩
  have HR6 := Aside0.mk h1
  have HU6 := Aside0.mk (U5.trans (b := w.heap.size) (w := w) (by repeat (with_reducible first | exact HU3.out | apply U5.drew | apply U5.drewN | apply U5.alloc)) h2)
  clear h1 h2
  refine ⟨_, rfl, ?_⟩
  refine hK.out _ _ ?_
  clear hK K
  refine norm_ (a' := ?_) ?_ ?_
  rotate_left
  ·show Act.put _ (some 25) _ = _
   simp only [Act.put, zla, zlb, zlc, i64_w, i32_w]
   rfl
  refine zq 7 (some 2) ?_
  refine zq 8 (some 3) ?_
  refine done_ (by kernel_rfl) ?_
  go_wp2
  go_ret2
  exact ⟨u6, rfl, (by have h := HR6.out; simpa only [encOut, List.append_assoc, List.cons_append, List.nil_append, if_pos] using h), U5.below (b := w.heap.size) (by repeat (with_reducible first | exact HU6.out | apply U5.drew | apply U5.drewN | apply U5.alloc)) (Nat.le_refl _)⟩
 ·skip
  go_enter Tryz.func24, Tryz.ntmps24
  go_wp2_with fail
  refine (HC.out _ ?hw).mono ?_
  case hw => repeat (with_reducible first | exact Below.refl _ _ | apply below_drew | apply pw_below_drewN | apply below_alloc)
  rintro e w1 ⟨rfl, hb⟩
  have HB1 := Aside0.mk (show Below w.heap.size w w1 from (below_alloc (Below.refl _ _) _).trans (hb.mono (by simp)))
  clear hb
  have hqb : (q != 0) = true := by simpa using hz
  go_wp2
  go_ret2
  exact ⟨.slice none 0 0, rfl, by first | exact R5.nil _ _ | (rw [if_neg hz]; exact R5.nil _ _), HB1.out⟩
set_option maxHeartbeats 4000000 in
theorem PutManifest_calls (w : World) (n m : Int) (l : List S108) (A : Option Addr) (c : Nat) (h1 : k108.C w A l.length l) (l1 : l.length ≤ c) (hm : 0 ≤ m ∧ m ≤ 4294967295) (hx : ∀ x ∈ l, 0 ≤ x.f1 ∧ x.f1 ≤ 4294967295) :
  Calls Tryz.prog 23 #[.agg #[.int .i64 n, .int .u32 m, .slice A l.length c]] w (Put w (manC n l) (encMan n m l)) := by
 have HI := Aside0.mk h1
 have HX := Aside0.mk hx
 have HM := Aside0.mk hm
 clear h1 hx hm
 unfold Put manC
 have hu108 := Tryz.underlying111
 by_cases c1 : n < 0
 ·rw [if_pos (.inl c1)]
  go_enter Tryz.func23, Tryz.ntmps23
  go_wp2
  go_ret2
  exact ⟨.slice none 0 0, rfl, by first | exact R5.nil _ _ | (rw [if_neg (by decide)]; exact R5.nil _ _), (below_alloc (Below.refl _ _) _)⟩
 by_cases c2 : 9999 < n
 ·rw [if_pos (.inr (.inl c2))]
  go_enter Tryz.func23, Tryz.ntmps23
  go_wp2
  go_ret2
  exact ⟨.slice none 0 0, rfl, by first | exact R5.nil _ _ | (rw [if_neg (by decide)]; exact R5.nil _ _), (below_alloc (Below.refl _ _) _)⟩
 by_cases c3 : 12 < l.length
 ·rw [if_pos (.inr (.inr c3))]
  go_enter Tryz.func23, Tryz.ntmps23
  go_wp2
  go_ret2
  exact ⟨.slice none 0 0, rfl, by first | exact R5.nil _ _ | (rw [if_neg (by decide)]; exact R5.nil _ _), (below_alloc (Below.refl _ _) _)⟩
 rw [if_neg (by omega)]
 generalize hq : rowsC l = q
 have HQ := Aside0.mk hq
 clear hq
 go_enter Tryz.func23, Tryz.ntmps23
 go_wp2
 go_loopw [24] (fun iv wr => ManE w #[.int .i64 n, .int .u32 m, .slice A l.length c] l q iv wr) (fun iv _ => l.length - (intOf iv).toNat)
 case atStart => exact ⟨0, rfl, Nat.zero_le _, heap_alloc_new w _, below_alloc (Below.refl _ _) _, by rw [List.drop_zero]; exact HQ.out⟩
 case round =>
  obtain ⟨i, rfl, hle, hbox, hbl, heq⟩ := hrel
  have HB1 := Aside0.mk hbl
  have HB := Aside0.mk hbox
  clear hbl hbox
  by_cases hlt : i < l.length
  ·have hdrop : l.drop i = l[i] :: l.drop (i + 1) := List.drop_eq_getElem_cons hlt
   obtain ⟨ad, rfl, d0, d1⟩ := (In.ofC HI.out HB1.out (Nat.le_refl _)).at108 hlt
   rw [hdrop, rowsC] at heq
   clear hdrop
   generalize l[i] = x at *
   by_cases e1 : x.f0 < 0
   ·rw [if_pos (.inl e1)] at heq
    subst heq
    go_wp2
    go_ret2
    exact ⟨.slice none 0 0, rfl, by first | exact R5.nil _ _ | (rw [if_neg (by decide)]; exact R5.nil _ _), HB1.out.trans ((below_alloc (Below.refl _ _) _).mono HB1.out.size)⟩
   by_cases e2 : 65536 < x.f0
   ·rw [if_pos (.inr e2)] at heq
    subst heq
    go_wp2
    go_ret2
    exact ⟨.slice none 0 0, rfl, by first | exact R5.nil _ _ | (rw [if_neg (by decide)]; exact R5.nil _ _), HB1.out.trans ((below_alloc (Below.refl _ _) _).mono HB1.out.size)⟩
   rw [if_neg (by omega)] at heq
   have HEQ := Aside0.mk heq
   clear heq
   go_wp2
   go_roundw
   case rel => exact ⟨i + 1, by simp, hlt, blk_alloc HB.out _, HB1.out.trans ((below_alloc (Below.refl _ _) _).mono HB1.out.size), HEQ.out⟩
   case measure => simp [intOf]; omega
  ·have hi : i = l.length := by omega
   rw [hi, List.drop_length, rowsC] at heq
   subst heq
   have hir : ¬ (i : Int) < (l.length : Int) := by omega
   have HL := Aside0.mk (lst_len encRow 14 12 l (by omega) (by omega) (fun x hx => by have h := rowsC_ok HQ.out x hx; have g := grp_len10 (n := x.f0) (by omega); unfold encRow word; simp only [List.length_append, List.length_cons, List.length_nil]; omega))
   have HK := Aside0.mk (fun x hx => (⟨⟨(rowsC_ok HQ.out x hx).1, by have := (rowsC_ok HQ.out x hx).2; omega⟩, HX.out x hx⟩ : okRow x))
   have g := grp_len10 (n := n) (by omega)
   have HU0 := Aside0.mk (U5.of_below (b := w.heap.size) HB1.out)
   have hb : w.heap.size ≤ wr.heap.size := HB1.out.size
   have n0_0 := blk_cell HB.out 0
   have n0_1 := blk_cell HB.out 1
   have n0_2 := blk_cell HB.out 2
   simp only [List.getElem?_toArray, List.getElem?_cons_succ, List.getElem?_cons_zero] at n0_0 n0_1 n0_2
   have hbl := blk_lt HB.out
   have HR : Aside0 (R5 w.heap.size (wr.alloc (.cells #[.int .u8 77] 5)) (.slice (some ⟨wr.heap.size, 0, none⟩) 1 1) [77]) := ⟨R5.lit wr w.heap.size [77] hb (by decide)⟩
   go_wp2_with fail
   refine (putNumber_calls w.heap.size _ _ [77] n (by omega) (by omega) ?hr ?hs (by have h := HL.out; simp only [List.length_append, List.length_cons, List.length_nil, word]; omega)).mono ?_
   case hr => exact HR.out
   case hs => simp; omega
   rintro e w3 ⟨u3, rfl, h1, h2⟩
   have HR3 := Aside0.mk h1
   have HU3 := Aside0.mk (U5.trans (b := w.heap.size) (w := w) (HU0.out.alloc _) h2)
   have HB3 := Aside0.mk (h2.blk (blk_alloc HB.out _) (by decide))
   clear h1 h2
   have n3_1 := blk_cell HB3.out 1
   have n3_2 := blk_cell HB3.out 2
   simp only [List.getElem?_toArray, List.getElem?_cons_succ, List.getElem?_cons_zero] at n3_1 n3_2
   go_wp2_with fail
   refine (putWord_calls w.heap.size _ u3 ([77] ++ grp n) m HM.out.1 HM.out.2 ?hr ?hs (by have h := HL.out; simp only [List.length_append, List.length_cons, List.length_nil, word]; omega)).mono ?_
   case hr => exact HR3.out
   case hs => exact U5.size (b := w.heap.size) HU3.out
   rintro e w4 ⟨u4, rfl, h1, h2⟩
   have HR4 := Aside0.mk h1
   have HU4 := Aside0.mk (U5.trans (b := w.heap.size) (w := w) HU3.out h2)
   have HB4 := Aside0.mk (h2.blk HB3.out (by decide))
   clear h1 h2 n3_1 n3_2
   have n4_2 := blk_cell HB4.out 2
   simp only [List.getElem?_toArray, List.getElem?_cons_succ, List.getElem?_cons_zero] at n4_2
   go_wp2_with fail
   refine (putRows_calls w.heap.size _ u4 ([77] ++ grp n ++ word m) l A c ?hr ?hs (In.ofC HI.out (U5.below (b := w.heap.size) ?hu (Nat.le_refl _)) (Nat.le_refl _)) HK.out (by have h := HL.out; simp only [List.length_append, List.length_cons, List.length_nil, word]; omega)).mono ?_
   case hr => exact HR4.out
   case hs => exact U5.size (b := w.heap.size) HU4.out
   case hu => exact HU4.out
   rintro e w5 ⟨u5, rfl, h1, h2⟩
   have HR5 := Aside0.mk h1
   have HU5 := Aside0.mk (U5.trans (b := w.heap.size) (w := w) HU4.out h2)
   clear h1 h2 n4_2
   go_wp2
   go_ret2
   exact ⟨u5, rfl, (by have h := HR5.out; simpa only [encMan, List.append_assoc, List.cons_append, List.nil_append, if_pos] using h), HU5.out.below (Nat.le_refl _)⟩
end Go.Proofs.YthmkioodkldgbaaGreat.DK
/- eddyref4.PutRecord, PutState, PutRow; conditions: those in each theorem. -/
namespace Go.Proofs.YthmkioodkldgbaaGreat.DK
open Go.Proofs.YthmkioodkldgbaaGreat.PD
open Go.RowKit Go.Proofs.YthmkioodkldgbaaGreatW.PrintWords Go.Proofs.YthmkioodkldgbaaGreatW.PrintLast Go.Proofs.YthmkioodkldgbaaGreatW.PrintMore
set_option linter.unusedVariables false
set_option linter.unusedSimpArgs false
set_option maxRecDepth 100000
theorem BagX.below {Rel : World → Prop} {b : Nat} {w w1 : World} {g : Nat} {ns : List Int} {ks : List ByteArray} {vs : List S25} {i j k : Int} (h : BagX Rel b w g ns ks vs i j k) (hb : Below w.heap.size w w1) : BagX Rel b w1 g ns ks vs i j k := by
 obtain ⟨a1, a2, a3, hh⟩ := h
 exact ⟨a1, a2, a3, hh.below hb⟩
end Go.Proofs.YthmkioodkldgbaaGreat.DK
/- eddyref4.PutSegment, walked; conditions: those in each theorem. -/
namespace Go.Proofs.YthmkioodkldgbaaGreat.DK
open Go.Proofs.YthmkioodkldgbaaGreat.PD
open Go.RowKit Go.Proofs.YthmkioodkldgbaaGreatW.PrintWords Go.Proofs.YthmkioodkldgbaaGreatW.PrintLast Go.Proofs.YthmkioodkldgbaaGreatW.PrintMore
set_option linter.unusedVariables false
set_option linter.unusedSimpArgs false
set_option maxRecDepth 100000
theorem slice_at {α : Type} {d : Kd α} {e : Nat} {w : World} {A : Option Addr} {xs : List (List α)} (h : Kd.C (Kd.slice e d) w A xs.length xs) {i : Nat} (hi : i < xs.length) : ∃ ad A1 c1, A = some ad ∧ w.cell? (ad.add i) = some (.slice A1 (xs[i]).length c1) ∧ (xs[i]).length ≤ c1 ∧ d.C w A1 (xs[i]).length xs[i] := by
 obtain ⟨ad, rfl, hc⟩ := h.2.2 (by omega)
 obtain ⟨c, hs, ⟨A1, c1, rfl, hl, hr⟩, hcell⟩ := hc i _ (List.getElem?_eq_getElem hi)
 have h0 := hcell 0 _ rfl
 exact ⟨ad, A1, c1, rfl, by simpa [Kd.slice] using h0, hl, hr⟩
end Go.Proofs.YthmkioodkldgbaaGreat.DK
/- What each Go function named in this text computes, as a Lean function, and that the Go code comes to it; conditions: those in each theorem. (Lines written by this session's program.) -/
namespace Go.Proofs.YthmkioodkldgbaaGreat.PD
open Go.RowKit Go.Proofs.YthmkioodkldgbaaGreatW.PrintWords Go.Proofs.YthmkioodkldgbaaGreatW.PrintLast Go.Proofs.YthmkioodkldgbaaGreatW.PrintMore
attribute [local go_sem] max2_int min2_int max_two min_two max_three min_three max_four min_four   -- for this text's walks alone
set_option linter.unusedVariables false
set_option linter.unusedSimpArgs false
/-- A state of type 170 at block g of W; what its slices lead to came in by w0. -/
def IsS170 (w0 W : World) (g : Nat) (f0 : Int) : Prop := W.heap[g]? = some (.cells #[.int .i64 f0] 153 (0, 0)) ∧ w0.heap.size ≤ g
theorem IsS170.grown {w0 W : World} {g : Nat} {f0 : Int} {W1 : World} {row : Option Nat} (h : IsS170 w0 W g f0) (hw : W.grownBy W1 row) (hne : some g ≠ row) : IsS170 w0 W1 g f0 := by
 obtain ⟨hb, hg⟩ := h
 exact ⟨blk_grown hb hw hne, hg⟩
theorem IsS170.kept {w0 W : World} {g : Nat} {f0 : Int} {W1 : World} {S : Nat → Prop} (h : IsS170 w0 W g f0) (hk : Kept W W1 S) (hne : ¬ S g) : IsS170 w0 W1 g f0 := by
 obtain ⟨hb, hg⟩ := h
 exact ⟨blk_kept hb hk hne, hg⟩
theorem IsS170.below {w0 W : World} {g : Nat} {f0 : Int} {W1 : World} (h : IsS170 w0 W g f0) (hw : Below W.heap.size W W1) : IsS170 w0 W1 g f0 := h.grown (grown_of_below hw none) (by simp)
theorem IsS170.alloc {w0 W : World} {g : Nat} {f0 : Int} (h : IsS170 w0 W g f0) (o : Obj) : IsS170 w0 (W.alloc o) g f0 := h.below (below_alloc (Below.refl _ _) o)
theorem IsS170.drewN {w0 W : World} {g : Nat} {f0 : Int} (h : IsS170 w0 W g f0) (m : Nat) : IsS170 w0 (W.drewN m) g f0 := h
theorem IsS170.drew {w0 W : World} {g : Nat} {f0 : Int} (h : IsS170 w0 W g f0) : IsS170 w0 W.drew g f0 := h
theorem IsS170.at_ {w0 W : World} {g : Nat} {f0 : Int} {w' : World} {m : Nat} (hq : W.drewN m = w') (h : IsS170 w0 W g f0) : IsS170 w0 w' g f0 := by subst hq; exact IsS170.drewN h m
theorem IsS170.apart {w0 W : World} {g : Nat} {f0 : Int} {α : Type} {d : Kd α} {e : Nat} {base : Nat} {ok : Nat → Prop} {v : Value} {xs : List α} (h : IsS170 w0 W g f0) (ho : d.R e W base ok v xs) (ht : ∀ q, q ∈ e :: d.E → q ≠ 153) : d.R e W base (fun k => ok k ∧ k ≠ g) v xs := by
 obtain ⟨hb, hg⟩ := h
 exact Kd.R_types ho hb ht
theorem IsS170.own_ne {w0 W : World} {g : Nat} {f0 : Int} {α : Type} {d : Kd α} {e : Nat} {base : Nat} {ok : Nat → Prop} {v : Value} {xs : List α} (h : IsS170 w0 W g f0) (ho : d.R e W base ok v xs) (ht : e ≠ 153) : some g ≠ v.ownBlock := by
 obtain ⟨hb, hg⟩ := h
 exact Kd.R_ne ho hb ht
theorem IsS170.lt {w0 W : World} {g : Nat} {f0 : Int} (h : IsS170 w0 W g f0) : g < W.heap.size := by
 obtain ⟨hb, hg⟩ := h
 exact blk_lt hb
theorem IsS170.ge {w0 W : World} {g : Nat} {f0 : Int} (h : IsS170 w0 W g f0) : w0.heap.size ≤ g := by
 obtain ⟨hb, hg⟩ := h
 exact hg
theorem IsS170.far {w0 W : World} {g : Nat} {f0 : Int} {p : Addr} (h : IsS170 w0 W g f0) (hne : g ≠ p.block) (u : Value) : IsS170 w0 (W.setCell p u) g f0 := by
 obtain ⟨hb, hg⟩ := h
 exact ⟨blk_far hb hne u, hg⟩
theorem cellS170_0 {W : World} {g : Nat} {f0 : Int} (h : W.heap[g]? = some (.cells #[.int .i64 f0] 153 (0, 0))) : W.cell? ⟨g, 0, none⟩ = some (.int .i64 f0) := (blk_cell h 0).trans rfl
theorem IsS170.set_0 {w0 W : World} {g : Nat} {f0 : Int} (h : IsS170 w0 W g f0) (x : Int) : IsS170 w0 (W.setCell ⟨g, 0, none⟩ (.int .i64 x)) g x := by
 obtain ⟨hb, hg⟩ := h
 exact ⟨by simpa using blk_set hb 0 (.int .i64 x), hg⟩
/-! ### eddysize_New: function 62 -/
def eddysize_New.f  : Option (Int) := some 10000
set_option maxHeartbeats 8000000 in
set_option maxRecDepth 100000 in
theorem eddysize_New.calls  (r : Int) (w0 w : World) (hB : Below w0.heap.size w0 w) (h : eddysize_New.f  = some r) :
  Calls Tryz.prog 44 #[] w fun e w' => ∃ g_ : Nat, e = .returned (.pointer (some ⟨g_, 0, none⟩)) ∧ IsS170 w0 w' g_ r ∧ Below w0.heap.size w0 w' ∧ Below w.heap.size w w' := by
 have hu170 := Tryz.underlying153
 have HBW := Aside0.mk (Below.refl w.heap.size w)
 have HW0 := Aside0.mk hB.size
 have HB := Aside0.mk hB
 clear hB
 have H : (some 10000) = some r := h
 clear h
 obtain rfl := Option.some.inj H
 go_enter Tryz.func44, Tryz.ntmps44
 go_wp2_with (first | ((with_reducible refine gate_dst (N := 2) rfl ?_); refine box_event ?hg (N := 2) ?hd (cs := #[.int .i64 10000]) (t := 153) ?hr ?_; (case hd => rfl); (case hg => rfl); (case hr => first | (go_simp; done) | (go_simp; rfl)); intro gb101 hg w1 hbox hb; have n0_ := Aside0.mk (below_step HBW.out hb); have n1_ := Aside0.mk (below_step (by repeat (first | (with_reducible first | exact HB.out | apply below_alloc | apply pw_below_drewN | apply below_drew1) | exact HB.out)) hb); have n2_ := Aside0.mk (hbox); have n3_ := Aside0.mk ((by rw [hg]; exact (below_size (by repeat (first | (with_reducible first | exact HBW.out | apply below_alloc | apply pw_below_drewN | apply below_drew1) | exact HBW.out))) : w.heap.size ≤ gb101)); have n4_ := Aside0.mk ((Nat.le_trans HW0.out (by rw [hg]; exact (below_size (by repeat (first | (with_reducible first | exact HBW.out | apply below_alloc | apply pw_below_drewN | apply below_drew1) | exact HBW.out))) : w.heap.size ≤ gb101) : w0.heap.size ≤ gb101)); clear HBW; clear HB; have HBW := n0_; have HB := n1_; have BK101 := n2_; have GW101 := n3_; have GE101 := n4_; clear n0_ n1_ n2_ n3_ n4_; clear hb hbox hg))
 go_ret
 exact ⟨_, rfl, (show IsS170 w0 _ gb101 10000 from ⟨by (with_reducible repeat (first | refine blk_drewN ?_ _ | refine blk_drew ?_ | refine blk_alloc ?_ _)); exact BK101.out, GE101.out⟩), by repeat (first | (with_reducible first | exact HB.out | apply below_alloc | apply pw_below_drewN | apply below_drew1 | refine below_set ?_ GE101.out) | exact HB.out), by repeat (first | (with_reducible first | exact HBW.out | apply below_alloc | apply pw_below_drewN | apply below_drew1 | refine below_set ?_ GW101.out) | exact HBW.out)⟩

/-! ### eddysize_Count_Add: function 106 -/
def eddysize_Count_Add.f (s0_0 : Int) (a1 : Int) : Option (Bool × Int) := if s0_0 ≥ 0 then (some (decide ((wrap64 (s0_0 - a1)) ≥ 0), wrap64 (s0_0 - a1))) else (some (decide (s0_0 ≥ 0), s0_0))
set_option maxHeartbeats 8000000 in
set_option maxRecDepth 100000 in
theorem eddysize_Count_Add.calls (g : Nat) (s0_0 : Int) (a1 : Int) (r1 : Bool) (r2 : Int) (w0 w : World) (hI : IsS170 w0 w g s0_0) (hB : Below w0.heap.size w0 w) (h : eddysize_Count_Add.f s0_0 a1 = some (r1, r2)) :
  Calls Tryz.prog 85 #[.pointer (some ⟨g, 0, none⟩), .int .i64 a1] w fun e w' => e = .returned (.bool r1) ∧ IsS170 w0 w' g r2 ∧ Below w0.heap.size w0 w' ∧ KeepBut w w' g none := by
 have HI0 := Aside0.mk hI
 have HK := Aside0.mk (KeepBut.refl w g none)
 have HL := Aside0.mk hB.size
 clear hI
 have HW0 := Aside0.mk hB.size
 have HB := Aside0.mk hB
 clear hB
 have H : (if s0_0 ≥ 0 then (some (decide ((wrap64 (s0_0 - a1)) ≥ 0), wrap64 (s0_0 - a1))) else (some (decide (s0_0 ≥ 0), s0_0))) = some (r1, r2) := h
 clear h
 by_cases c3 : s0_0 ≥ 0
 ·rw [if_pos c3] at H
  have c3b0 : decide (0 ≤ s0_0) = true := decide_eq_true c3
  clear c3
  simp only [Option.some.injEq, Prod.mk.injEq] at H
  obtain ⟨rfl, rfl⟩ := H
  obtain ⟨HGz4, hgz4⟩ := HI0.out
  have hcz4_0 := cellS170_0 HGz4
  have hfz4_0 := blk_frozen HGz4 0
  clear HGz4 hgz4
  go_enter Tryz.func85, Tryz.ntmps85
  go_wp2
  go_ret
  exact ⟨by first | rfl | (simp [errW_none, errW_some] <;> rfl) | (simp [*, errW_none, errW_some] <;> rfl), by repeat (first | (with_reducible first | exact HI0.out | apply IsS170.alloc | apply IsS170.drewN | apply IsS170.drew | apply IsS170.set_0) | exact HI0.out), by repeat (first | (with_reducible first | exact HB.out | apply below_alloc | apply pw_below_drewN | apply below_drew1 | refine below_set ?_ (IsS170.ge HI0.out)) | exact HB.out), by repeat (first | (with_reducible first | exact HK.out | apply KeepBut.set_ | apply keep_drewN | apply keep_drew | apply keep_alloc) | exact HK.out)⟩
 ·rw [if_neg c3] at H
  have c3b0 : decide (0 ≤ s0_0) = false := decide_eq_false c3
  clear c3
  simp only [Option.some.injEq, Prod.mk.injEq] at H
  obtain ⟨rfl, rfl⟩ := H
  obtain ⟨HGz5, hgz5⟩ := HI0.out
  have hcz5_0 := cellS170_0 HGz5
  have hfz5_0 := blk_frozen HGz5 0
  clear HGz5 hgz5
  go_enter Tryz.func85, Tryz.ntmps85
  go_wp2
  go_ret
  exact ⟨by first | rfl | (simp [errW_none, errW_some] <;> rfl) | (simp [*, errW_none, errW_some] <;> rfl), by repeat (first | (with_reducible first | exact HI0.out | apply IsS170.alloc | apply IsS170.drewN | apply IsS170.drew | apply IsS170.set_0) | exact HI0.out), by repeat (first | (with_reducible first | exact HB.out | apply below_alloc | apply pw_below_drewN | apply below_drew1 | refine below_set ?_ (IsS170.ge HI0.out)) | exact HB.out), by repeat (first | (with_reducible first | exact HK.out | apply KeepBut.set_ | apply keep_drewN | apply keep_drew | apply keep_alloc) | exact HK.out)⟩

/-! ### eddysize_Count_Ok: function 67 -/
def eddysize_Count_Ok.f (s0_0 : Int) : Option (Bool × Int) := some (decide (s0_0 ≥ 0), s0_0)
set_option maxHeartbeats 8000000 in
set_option maxRecDepth 100000 in
theorem eddysize_Count_Ok.calls (g : Nat) (s0_0 : Int) (r1 : Bool) (r2 : Int) (w0 w : World) (hI : IsS170 w0 w g s0_0) (hB : Below w0.heap.size w0 w) (h : eddysize_Count_Ok.f s0_0 = some (r1, r2)) :
  Calls Tryz.prog 49 #[.pointer (some ⟨g, 0, none⟩)] w fun e w' => e = .returned (.bool r1) ∧ IsS170 w0 w' g r2 ∧ Below w0.heap.size w0 w' ∧ KeepBut w w' g none := by
 have HI0 := Aside0.mk hI
 have HK := Aside0.mk (KeepBut.refl w g none)
 have HL := Aside0.mk hB.size
 clear hI
 have HW0 := Aside0.mk hB.size
 have HB := Aside0.mk hB
 clear hB
 have H : (some (decide (s0_0 ≥ 0), s0_0)) = some (r1, r2) := h
 clear h
 simp only [Option.some.injEq, Prod.mk.injEq] at H
 obtain ⟨rfl, rfl⟩ := H
 obtain ⟨HGz2, hgz2⟩ := HI0.out
 have hcz2_0 := cellS170_0 HGz2
 have hfz2_0 := blk_frozen HGz2 0
 clear HGz2 hgz2
 go_enter Tryz.func49, Tryz.ntmps49
 go_wp2
 go_ret
 exact ⟨by first | rfl | (simp [errW_none, errW_some] <;> rfl) | (simp [*, errW_none, errW_some] <;> rfl), by repeat (first | (with_reducible first | exact HI0.out | apply IsS170.alloc | apply IsS170.drewN | apply IsS170.drew | apply IsS170.set_0) | exact HI0.out), by repeat (first | (with_reducible first | exact HB.out | apply below_alloc | apply pw_below_drewN | apply below_drew1 | refine below_set ?_ (IsS170.ge HI0.out)) | exact HB.out), by repeat (first | (with_reducible first | exact HK.out | apply KeepBut.set_ | apply keep_drewN | apply keep_drew | apply keep_alloc) | exact HK.out)⟩

end Go.Proofs.YthmkioodkldgbaaGreat.PD
/- eddysize.Count.Values: how many parts; conditions: those in each theorem. -/
namespace Go.Proofs.YthmkioodkldgbaaGreat.PD
open Go.RowKit Go.Proofs.YthmkioodkldgbaaGreatW.PrintWords Go.Proofs.YthmkioodkldgbaaGreatW.PrintLast Go.Proofs.YthmkioodkldgbaaGreatW.PrintMore
open Go.Proofs.YthmkioodkldgbaaGreat.DK (size_mem rd25_nat)
set_option linter.unusedVariables false
set_option linter.unusedSimpArgs false
/-- So many more. -/
def cadd (s a : Int) : Int := if s ≥ 0 then wrap64 (s - a) else s
mutual
def cntS : S25 → Int → Int
 | ⟨_, _, _, l⟩, s => cntL l (cadd s l.length)
def cntL : List S25 → Int → Int
 | [], s => s
 | x :: l, s => if s ≥ 0 then cntL l (cntS x s) else s
end
theorem cntS_eq (v : S25) (s : Int) : cntS v s = cntL v.f3 (cadd s v.f3.length) := by
 obtain ⟨k, n, t, l⟩ := v
 rw [cntS]
theorem cntL_nil (s : Int) : cntL [] s = s := by rw [cntL]
theorem cntL_cons (x : S25) (l : List S25) (s : Int) : cntL (x :: l) s = if s ≥ 0 then cntL l (cntS x s) else s := by rw [cntL]
theorem cadd_f (s a : Int) : eddysize_Count_Add.f s a = some (decide (cadd s a ≥ 0), cadd s a) := by
 unfold eddysize_Count_Add.f cadd
 split <;> rfl
def eddysize_Count_Values.f (s0_0 : Int) (l1 : List S25) : Option Int := some (cntL l1 (cadd s0_0 l1.length))
theorem cell_keep {w W : World} {g : Nat} (hk : KeepBut w W g none) {a : Addr} {v : Value} (h : w.cell? a = some v) (hg : a.block ≠ g) : W.cell? a = some v := by
 have hlt := World.block_lt_of_cell? w a h
 have e := hk.2 a.block hlt hg (by simp)
 unfold World.cell? at h ⊢
 rw [e]
 exact h
theorem foot_at {w : World} {g : Nat} {A : Option Addr} {l : List S25} (h : ∀ W', KeepBut w W' g none → k25.C W' A l.length l) {i : Nat} (hi : i < l.length) : ∃ ad A3 c3, A = some ad ∧ l[i].f3.length ≤ c3 ∧
  (∀ W', KeepBut w W' g none → W'.cell? ⟨(ad.add (i * 4)).block, (ad.add (i * 4)).off + 3, none⟩ = some (.slice A3 l[i].f3.length c3)) ∧ (∀ W', KeepBut w W' g none → k25.C W' A3 l[i].f3.length l[i].f3) := by
 have h1 := at_T25 (h w (KeepBut.refl w g none)) (i : Int) (by omega) (by omega)
 rw [rd25_nat l i hi] at h1
 obtain ⟨ad, A3, c3, rfl, d0, d1, d2, d3, l5, g5⟩ := h1
 simp only [Int.toNat_natCast] at d0 d1 d2 d3
 have hne : ad.block ≠ g := Kd.foot_ne h (by omega) (by decide)
 have hc : ∀ W', KeepBut w W' g none → W'.cell? ⟨(ad.add (i * 4)).block, (ad.add (i * 4)).off + 3, none⟩ = some (.slice A3 l[i].f3.length c3) := fun W' hk => cell_keep hk d3 (show (ad.add (i * 4)).block ≠ g by rw [show (ad.add (i * 4)).block = ad.block by unfold Addr.add; split <;> rfl]; exact hne)
 refine ⟨ad, A3, c3, rfl, l5, hc, fun W' hk => ?_⟩
 have h2 := at_T25 (h W' hk) (i : Int) (by omega) (by omega)
 rw [rd25_nat l i hi] at h2
 obtain ⟨ad', A3', c3', e', _, _, _, d3', _, g5'⟩ := h2
 obtain rfl := Option.some.inj e'
 simp only [Int.toNat_natCast] at d3'
 rw [hc W' hk] at d3'
 have e2 := Option.some.inj d3'
 injection e2 with e3 e4 e5
 rw [e3]
 exact g5'
structure ValsI (w0 w wr : World) (g : Nat) (l : List S25) (s : Int) (i : Nat) (q : Int) : Prop where
 le : i ≤ l.length
 hI : IsS170 w0 wr g q
 hB : Below w0.heap.size w0 wr
 hK : KeepBut w wr g none
 eq : cntL (l.drop i) q = s
def ValsE (w0 w : World) (g : Nat) (l : List S25) (s : Int) (iv : Value) (wr : World) : Prop := ∃ (i : Nat) (q : Int), iv = .int .i64 i ∧ ValsI w0 w wr g l s i q
set_option maxHeartbeats 16000000 in
set_option maxRecDepth 100000 in
theorem vals_calls (n : Nat) : ∀ (l1 : List S25) (hn : SizeOf.sizeOf l1 ≤ n) (g : Nat) (s0_0 : Int) (A1 : Option Addr) (c1 : Nat) (w0 w : World) (hI : IsS170 w0 w g s0_0) (hB : Below w0.heap.size w0 w) (hr1 : ∀ W_, KeepBut w W_ g none → Kd.C k25 W_ A1 l1.length l1) (hc1 : l1.length ≤ c1),
  Calls Tryz.prog 86 #[.pointer (some ⟨g, 0, none⟩), .slice A1 l1.length c1] w fun e w' => e = .returned (.tuple #[]) ∧ IsS170 w0 w' g (cntL l1 (cadd s0_0 l1.length)) ∧ Below w0.heap.size w0 w' ∧ KeepBut w w' g none := by
 induction n with
 | zero =>
  intro l hn
  cases l <;> simp at hn
 | succ n ih =>
  intro l hn g s0 A c w0 w hI hB hr hc
  have HIH := Aside0.mk (fun (x : S25) (hx : x ∈ l) => ih x.f3 (by
   have h1 := List.sizeOf_lt_of_mem hx
   obtain ⟨k, m, t, l'⟩ := x
   have h2 : SizeOf.sizeOf (S25.mk k m t l') = 1 + SizeOf.sizeOf k + SizeOf.sizeOf m + SizeOf.sizeOf t + SizeOf.sizeOf l' := by simp
   show SizeOf.sizeOf l' ≤ n
   omega))
  have hl9 : l.length ≤ 9223372036854775807 := (hr w (KeepBut.refl w g none)).2.1
  have HR := Aside0.mk hr
  have HI := Aside0.mk hI
  have HB := Aside0.mk hB
  have HC := Aside0.mk hc
  clear hn ih hI hB hr hc
  go_enter Tryz.func86, Tryz.ntmps86
  go_wp2_with fail
  refine (eddysize_Count_Add.calls g s0 l.length _ _ w0 _ ?hi ?hb (cadd_f s0 l.length)).mono ?_
  case hi => repeat (first | exact HI.out | apply IsS170.alloc | apply IsS170.drewN | apply IsS170.drew)
  case hb => repeat (with_reducible first | exact HB.out | apply below_alloc | apply pw_below_drewN | apply below_drew1)
  rintro e w1 ⟨rfl, hI1, hB1, hK1⟩
  have HK1 := Aside0.mk (show KeepBut w w1 g none from hK1)
  have HI1 := Aside0.mk hI1
  have HB1 := Aside0.mk hB1
  clear hI1 hB1 hK1
  generalize hs : cadd s0 l.length = s at HI1 ⊢
  have HS := Aside0.mk hs
  clear hs
  go_wp2_with fail
  go_loopw [4] (fun iv wr => ValsE w0 w g l (cntL l s) iv wr) (fun iv _ => l.length - (intOf iv).toNat)
  case atStart => exact ⟨0, s, rfl, Nat.zero_le _, HI1.out, HB1.out, HK1.out, by rw [List.drop_zero]⟩
  case round =>
   obtain ⟨i, q, rfl, hle, hI2, hB2, hK2, heq⟩ := hrel
   have HI2 := Aside0.mk hI2
   have HB2 := Aside0.mk hB2
   have HK2 := Aside0.mk hK2
   clear hI2 hB2 hK2
   by_cases hlt : i < l.length
   ·have hx := List.getElem_mem hlt
    have hdrop : l.drop i = l[i] :: l.drop (i + 1) := List.drop_eq_getElem_cons hlt
    rw [hdrop, cntL_cons] at heq
    obtain ⟨ad, A3, c3, rfl, hc3, hcell, hfoot⟩ := foot_at HR.out hlt
    have HCE := Aside0.mk hcell
    have HF := Aside0.mk hfoot
    clear hfoot
    have d3 := hcell wr HK2.out
    have HX := Aside0.mk (fun (W : World) (hk : KeepBut w W g none) (hI : IsS170 w0 W g q) (hB : Below w0.heap.size w0 W) (hf : ∀ W', KeepBut w W' g none → k25.C W' A3 l[i].f3.length l[i].f3) (hc3 : l[i].f3.length ≤ c3) => HIH.out l[i] hx g q A3 c3 w0 W hI hB (fun W' hk' => hf W' (hk.trans hk' (.inl rfl))) hc3)
    go_wp2_with fail
    refine (eddysize_Count_Ok.calls g q _ _ w0 _ ?hi ?hb rfl).mono ?_
    case hi => repeat (first | exact HI2.out | apply IsS170.alloc | apply IsS170.drewN | apply IsS170.drew)
    case hb => repeat (with_reducible first | exact HB2.out | apply below_alloc | apply pw_below_drewN | apply below_drew1)
    rintro e w3 ⟨rfl, hI3, hB3, hK3⟩
    have HI3 := Aside0.mk hI3
    have HB3 := Aside0.mk hB3
    have HK3 := Aside0.mk (show KeepBut w w3 g none from HK2.out.trans hK3 (.inl rfl))
    clear hI3 hB3 hK3
    have d3' := hcell w3 HK3.out
    by_cases hq : 0 ≤ q
    ·rw [if_pos hq] at heq
     have hqb : decide (q ≥ 0) = true := by simpa using hq
     go_wp2_with fail
     refine (HX.out w3 (HK3.out) HI3.out HB3.out HF.out hc3).mono ?_
     rintro e w4 ⟨rfl, hI4, hB4, hK4⟩
     have HI4 := Aside0.mk hI4
     have HB4 := Aside0.mk hB4
     have HK4 := Aside0.mk (show KeepBut w w4 g none from HK3.out.trans hK4 (.inl rfl))
     clear hI4 hB4 hK4
     rw [← cntS_eq] at HI4
     go_wp2
     go_roundw
     case rel => exact ⟨i + 1, _, by simp, hlt, HI4.out, HB4.out, HK4.out, heq⟩
     case measure => simp [intOf]; omega
    ·rw [if_neg hq] at heq
     have hqb : decide (q ≥ 0) = false := by simpa using hq
     subst heq
     go_wp2
     first | go_end0 | ((try simp only [Exit.inBlock, Exit.then]); refine bodyPost_ret (results_none rfl _ _ _) rfl ?_)
     exact ⟨rfl, by rw [HS.out]; exact HI3.out, HB3.out, HK3.out⟩
   ·have hi : i = l.length := by omega
    rw [hi, List.drop_length, cntL_nil] at heq
    subst heq
    go_wp2
    first | go_end0 | ((try simp only [Exit.inBlock, Exit.then]); refine bodyPost_ret (results_none rfl _ _ _) rfl ?_)
    exact ⟨rfl, by rw [HS.out]; exact HI2.out, HB2.out, HK2.out⟩
theorem eddysize_Count_Values.calls (g : Nat) (s0_0 : Int) (A1 : Option Addr) (c1 : Nat) (l1 : List (S25)) (r : Int) (w0 w : World) (hI : IsS170 w0 w g s0_0) (hB : Below w0.heap.size w0 w) (hr1 : ∀ W_, KeepBut w W_ g none → Kd.C k25 W_ A1 l1.length l1) (hc1 : l1.length ≤ c1) (h : eddysize_Count_Values.f s0_0 l1 = some r) :
  Calls Tryz.prog 86 #[.pointer (some ⟨g, 0, none⟩), .slice A1 l1.length c1] w fun e w' => e = .returned (.tuple #[]) ∧ IsS170 w0 w' g r ∧ Below w0.heap.size w0 w' ∧ KeepBut w w' g none := by
 obtain rfl := Option.some.inj h
 exact vals_calls _ l1 (Nat.le_refl _) g s0_0 A1 c1 w0 w hI hB hr1 hc1
end Go.Proofs.YthmkioodkldgbaaGreat.PD
