/- wire.PutRow, PutManifest; conditions: those in each theorem. -/
import Derived.Test.YthmkioodkldgbaaQpM23
namespace Go.Proofs.Ythmkioodkldgbaa.DK
open Go.Proofs.Ythmkioodkldgbaa.PD
open Go.RowKit Go.Proofs.YthmkioodkldgbaaW.PrintWords Go.Proofs.YthmkioodkldgbaaW.PrintLast Go.Proofs.YthmkioodkldgbaaW.PrintMore
set_option linter.unusedVariables false
set_option linter.unusedSimpArgs false
set_option maxRecDepth 100000
def rowC (at_ : Int) (x : S28) : Int := if at_ < 0 ∨ 1073741824 < at_ then 43 else recC x
def rowsC : List S108 → Int
 | [] => 0
 | x :: l => if x.f0 < 0 ∨ 65536 < x.f0 then 43 else rowsC l
def manC (id : Int) (l : List S108) : Int := if id < 0 ∨ 9999 < id ∨ 12 < l.length then 43 else rowsC l
def encMan (id sum : Int) (l : List S108) : List Int := 77 :: grp id ++ word sum ++ lst encRow l
theorem rowsC_ok : ∀ {l : List S108}, rowsC l = 0 → ∀ x ∈ l, 0 ≤ x.f0 ∧ x.f0 ≤ 65536
 | [], _, x, hx => by simp at hx
 | y :: l, h, x, hx => by
  rw [rowsC] at h
  split at h
  ·simp at h
  ·rcases List.mem_cons.1 hx with rfl | hx
   ·omega
   ·exact rowsC_ok h x hx
structure ManI (w : World) (cs : Array Value) (l : List S108) (q : Int) (i : Nat) (wr : World) : Prop where
 le : i ≤ l.length
 box : wr.heap[w.heap.size]? = some (.cells cs 42 (0, 0))
 b : Below w.heap.size w wr
 eq : rowsC (l.drop i) = q
def ManE (w : World) (cs : Array Value) (l : List S108) (q : Int) (iv : Value) (wr : World) : Prop := ∃ i : Nat, iv = .int .i64 i ∧ ManI w cs l q i wr
def encOut (at_ : Int) (x : S28) : List Int := 79 :: grp at_ ++ encR x
set_option maxHeartbeats 4000000 in
theorem PutRow_calls (w : World) (n : Int) (x : S28) (A4 : Option Addr) (c4 : Nat) (A5 : Option Addr) (c5 : Nat) (h4 : k25.C w A4 x.f1.f3.length x.f1.f3) (l4 : x.f1.f3.length ≤ c4) (h5 : (Kd.int .i64).C w A5 x.f2.length x.f2) (l5 : x.f2.length ≤ c5) (ho : okS x.f1) :
  Calls Try.prog 40 #[.agg #[.int .i64 n, .string x.f0, .int .i64 x.f1.f0, .int .i64 x.f1.f1, .string x.f1.f2, .slice A4 x.f1.f3.length c4, .slice A5 x.f2.length c5]] w (Put w (rowC n x) (encOut n x)) := by
 have HC := Aside0.mk (fun (W : World) (hb : Below w.heap.size w W) => (vrec x h5.2.1).rounds.elim (fun k hk => value_CheckRecord.calls k x.f0 x.f1.f0 x.f1.f1 x.f1.f2 A4 c4 x.f1.f3 A5 c5 x.f2 (recC x) W (Kd.C_below h4 hb) l4 (Kd.C_below h5 hb) l5 hk))
 have HI4 := Aside0.mk h4
 have HI5 := Aside0.mk h5
 have HO := Aside0.mk ho
 clear h4 h5 ho
 unfold Put rowC
 by_cases c1 : n < 0
 ·rw [if_pos (.inl c1)]
  go_enter Try.func40, Try.ntmps40
  go_wp2
  go_ret2
  exact ⟨.slice none 0 0, rfl, by first | exact R5.nil _ _ | (rw [if_neg (by decide)]; exact R5.nil _ _), (below_alloc (Below.refl _ _) _)⟩
 by_cases c2 : 1073741824 < n
 ·rw [if_pos (.inr c2)]
  go_enter Try.func40, Try.ntmps40
  go_wp2
  go_ret2
  exact ⟨.slice none 0 0, rfl, by first | exact R5.nil _ _ | (rw [if_neg (by decide)]; exact R5.nil _ _), (below_alloc (Below.refl _ _) _)⟩
 rw [if_neg (by omega)]
 generalize hq : recC x = q at HC ⊢
 have HQ := Aside0.mk hq
 clear hq
 by_cases hz : q = 0
 ·subst hz
  have HP := Aside0.mk (recC_ok HO.out HQ.out)
  go_enter Try.func40, Try.ntmps40
  go_wp2_with fail
  refine (HC.out _ ?hw).mono ?_
  case hw => repeat (with_reducible first | exact Below.refl _ _ | apply below_drew | apply pw_below_drewN | apply below_alloc)
  rintro e w1 ⟨rfl, hb⟩
  have HB1 := Aside0.mk (show Below w.heap.size w w1 from (below_alloc (Below.refl _ _) _).trans (hb.mono (by simp)))
  have HB := Aside0.mk ((hb.block w.heap.size (by simp)).trans (heap_alloc_new w (.cells #[.int .i64 n, .string x.f0, .int .i64 x.f1.f0, .int .i64 x.f1.f1, .string x.f1.f2, .slice A4 x.f1.f3.length c4, .slice A5 x.f2.length c5] 44)))
  clear hb
  have n0_0 := blk_cell HB.out 0
  have n0_1 := blk_cell HB.out 1
  have n0_2 := blk_cell HB.out 2
  have n0_3 := blk_cell HB.out 3
  have n0_4 := blk_cell HB.out 4
  have n0_5 := blk_cell HB.out 5
  have n0_6 := blk_cell HB.out 6
  simp only [List.getElem?_toArray, List.getElem?_cons_succ, List.getElem?_cons_zero] at n0_0 n0_1 n0_2 n0_3 n0_4 n0_5 n0_6
  have HU0 := Aside0.mk (U5.of_below (b := w.heap.size) HB1.out)
  have hb : w.heap.size ≤ w1.heap.size := HB1.out.size
  go_wp2
  refine start_ (n := 9) (S := fun w' => w'.cell? ⟨w.heap.size, 0, none⟩ = some (.int .i64 n) ∧ w'.cell? ⟨w.heap.size, 1, none⟩ = some (.string x.f0) ∧ w'.cell? ⟨w.heap.size, 2, none⟩ = some (.int .i64 x.f1.f0) ∧ w'.cell? ⟨w.heap.size, 3, none⟩ = some (.int .i64 x.f1.f1) ∧ w'.cell? ⟨w.heap.size, 4, none⟩ = some (.string x.f1.f2) ∧ w'.cell? ⟨w.heap.size, 5, none⟩ = some (.slice A4 x.f1.f3.length c4) ∧ w'.cell? ⟨w.heap.size, 6, none⟩ = some (.slice A5 x.f2.length c5)) (ds := [6]) #[false, false, false, false, false, false, false, false, false] (by kernel_rfl) rfl rfl ⟨n0_0, n0_1, n0_2, n0_3, n0_4, n0_5, n0_6⟩ (fun hHeld => ?_)
  refine zq 1 (some 20) ?_
  refine zq 4 (some 23) ?_
  refine zu 2 (some 21) hHeld ?_
  refine zu 5 (some 24) hHeld ?_
  refine one_ (i := 0) (N := some 19) #[true, true, true, false, true, true, false, false, false] rfl rfl (by kernel_rfl) (by decide) (fun K hK => ?_)
  refine value_ (w1 := ?_) (v := ?_) (by rfl) rfl ?_ ?_
  rotate_left 2
  ·go_simp
   constructor
   ·rfl
   ·rfl
  refine hK.out _ _ ⟨(blk_cell (blk_alloc HB.out _) 0), (blk_cell (blk_alloc HB.out _) 1), (blk_cell (blk_alloc HB.out _) 2), (blk_cell (blk_alloc HB.out _) 3), (blk_cell (blk_alloc HB.out _) 4), (blk_cell (blk_alloc HB.out _) 5), (blk_cell (blk_alloc HB.out _) 6)⟩ (fun hHeld => ?_)
  clear hK K
  refine norm_ (a' := ?_) ?_ ?_
  rotate_left
  ·show Act.put _ (some 19) _ = _
   simp only [Act.put, zla, zlb, zlc, i64_w, i32_w]
   rfl
  refine one_ (i := 3) (N := some 22) #[true, true, true, true, true, true, false, false, false] rfl rfl (by kernel_rfl) (by decide) (fun K hK => ?_)
  refine goes_ Try.func80 (by kernel_rfl) rfl #[.slice (some ⟨w1.heap.size, 0, none⟩) 1 1, .int .i64 n] (by rfl) rfl rfl (by simp only [List.map_toArray, List.map_cons, List.map_nil]; rfl) ?_
  refine (putNumber_calls w.heap.size _ _ [79] n (by omega) (by omega) ?hr ?hs (by have h := HP.out.2; have g := grp_len10 (n := n) (by omega); simp only [List.length_append, List.length_cons, List.length_nil]; omega)).mono ?_
  case hr => exact (R5.lit w1 w.heap.size [79] hb (by decide)).drew
  case hs => show w.heap.size ≤ (w1.alloc _).heap.size; simp; omega
  rintro e w3 ⟨u3, rfl, h1, h2⟩
  have HR3 := Aside0.mk h1
  have HU3 := Aside0.mk (U5.trans (b := w.heap.size) (w := w) ((HU0.out.alloc _).drew) h2)
  have HB3 := Aside0.mk (h2.blk (blk_drew (blk_alloc HB.out _)) (by decide))
  clear h1 h2
  refine ⟨_, rfl, ?_⟩
  refine hK.out _ _ ⟨(blk_cell HB3.out 0), (blk_cell HB3.out 1), (blk_cell HB3.out 2), (blk_cell HB3.out 3), (blk_cell HB3.out 4), (blk_cell HB3.out 5), (blk_cell HB3.out 6)⟩ (fun hHeld => ?_)
  clear hK K
  refine norm_ (a' := ?_) ?_ ?_
  rotate_left
  ·show Act.put _ (some 22) _ = _
   simp only [Act.put, zla, zlb, zlc, i64_w, i32_w]
   rfl
  refine last_ (i := 6) (N := some 25) #[true, true, true, true, true, true, true, false, false] rfl rfl (by kernel_rfl) (by decide) (fun K hK => ?_)
  refine goes_ Try.func85 (by kernel_rfl) rfl #[u3, .agg #[.string x.f0, .int .i64 x.f1.f0, .int .i64 x.f1.f1, .string x.f1.f2, .slice A4 x.f1.f3.length c4, .slice A5 x.f2.length c5]] (by rfl) rfl rfl (by simp only [List.map_toArray, List.map_cons, List.map_nil]; rfl) ?_
  refine (putRecord_calls w.heap.size _ u3 ([79] ++ grp n) x A4 c4 A5 c5 ?hr ?hs (In.ofC HI4.out (U5.below (b := w.heap.size) ?hu (Nat.le_refl _)) (Nat.le_refl _)) l4 (In.ofC HI5.out (U5.below (b := w.heap.size) ?hu2 (Nat.le_refl _)) (Nat.le_refl _)) l5 HP.out.1 (by have h := HP.out.2; have g := grp_len10 (n := n) (by omega); simp only [List.length_append, List.length_cons, List.length_nil]; omega)).mono ?_
  case hr => exact (by repeat (with_reducible first | exact HR3.out | apply R5.drew | apply R5.drewN | apply R5.alloc))
  case hs => exact (Nat.le_trans (Nat.le_refl _) (U5.size (b := w.heap.size) (by repeat (with_reducible first | exact HU3.out | apply U5.drew | apply U5.drewN | apply U5.alloc))))
  case hu => exact (by repeat (with_reducible first | exact HU3.out | apply U5.drew | apply U5.drewN | apply U5.alloc))
  case hu2 => exact (by repeat (with_reducible first | exact HU3.out | apply U5.drew | apply U5.drewN | apply U5.alloc))
  rintro e w6 ⟨u6, rfl, h1, h2⟩
  have HR6 := Aside0.mk h1
  have HU6 := Aside0.mk (U5.trans (b := w.heap.size) (w := w) (by repeat (with_reducible first | exact HU3.out | apply U5.drew | apply U5.drewN | apply U5.alloc)) h2)
  clear h1 h2
  refine ⟨_, rfl, ?_⟩
  refine hK.out _ _ ?_
  clear hK K
  refine norm_ (a' := ?_) ?_ ?_
  rotate_left
  ·show Act.put _ (some 25) _ = _
   simp only [Act.put, zla, zlb, zlc, i64_w, i32_w]
   rfl
  refine zq 7 (some 2) ?_
  refine zq 8 (some 3) ?_
  refine done_ (by kernel_rfl) ?_
  go_wp2
  go_ret2
  exact ⟨u6, rfl, (by have h := HR6.out; simpa only [encOut, List.append_assoc, List.cons_append, List.nil_append, if_pos] using h), U5.below (b := w.heap.size) (by repeat (with_reducible first | exact HU6.out | apply U5.drew | apply U5.drewN | apply U5.alloc)) (Nat.le_refl _)⟩
 ·skip
  go_enter Try.func40, Try.ntmps40
  go_wp2_with fail
  refine (HC.out _ ?hw).mono ?_
  case hw => repeat (with_reducible first | exact Below.refl _ _ | apply below_drew | apply pw_below_drewN | apply below_alloc)
  rintro e w1 ⟨rfl, hb⟩
  have HB1 := Aside0.mk (show Below w.heap.size w w1 from (below_alloc (Below.refl _ _) _).trans (hb.mono (by simp)))
  clear hb
  have hqb : (q != 0) = true := by simpa using hz
  go_wp2
  go_ret2
  exact ⟨.slice none 0 0, rfl, by first | exact R5.nil _ _ | (rw [if_neg hz]; exact R5.nil _ _), HB1.out⟩
set_option maxHeartbeats 4000000 in
theorem PutManifest_calls (w : World) (n m : Int) (l : List S108) (A : Option Addr) (c : Nat) (h1 : k108.C w A l.length l) (l1 : l.length ≤ c) (hm : 0 ≤ m ∧ m ≤ 4294967295) (hx : ∀ x ∈ l, 0 ≤ x.f1 ∧ x.f1 ≤ 4294967295) :
  Calls Try.prog 39 #[.agg #[.int .i64 n, .int .u32 m, .slice A l.length c]] w (Put w (manC n l) (encMan n m l)) := by
 have HI := Aside0.mk h1
 have HX := Aside0.mk hx
 have HM := Aside0.mk hm
 clear h1 hx hm
 unfold Put manC
 have hu108 := Try.underlying108
 by_cases c1 : n < 0
 ·rw [if_pos (.inl c1)]
  go_enter Try.func39, Try.ntmps39
  go_wp2
  go_ret2
  exact ⟨.slice none 0 0, rfl, by first | exact R5.nil _ _ | (rw [if_neg (by decide)]; exact R5.nil _ _), (below_alloc (Below.refl _ _) _)⟩
 by_cases c2 : 9999 < n
 ·rw [if_pos (.inr (.inl c2))]
  go_enter Try.func39, Try.ntmps39
  go_wp2
  go_ret2
  exact ⟨.slice none 0 0, rfl, by first | exact R5.nil _ _ | (rw [if_neg (by decide)]; exact R5.nil _ _), (below_alloc (Below.refl _ _) _)⟩
 by_cases c3 : 12 < l.length
 ·rw [if_pos (.inr (.inr c3))]
  go_enter Try.func39, Try.ntmps39
  go_wp2
  go_ret2
  exact ⟨.slice none 0 0, rfl, by first | exact R5.nil _ _ | (rw [if_neg (by decide)]; exact R5.nil _ _), (below_alloc (Below.refl _ _) _)⟩
 rw [if_neg (by omega)]
 generalize hq : rowsC l = q
 have HQ := Aside0.mk hq
 clear hq
 go_enter Try.func39, Try.ntmps39
 go_wp2
 go_loopw [24] (fun iv wr => ManE w #[.int .i64 n, .int .u32 m, .slice A l.length c] l q iv wr) (fun iv _ => l.length - (intOf iv).toNat)
 case atStart => exact ⟨0, rfl, Nat.zero_le _, heap_alloc_new w _, below_alloc (Below.refl _ _) _, by rw [List.drop_zero]; exact HQ.out⟩
 case round =>
  obtain ⟨i, rfl, hle, hbox, hbl, heq⟩ := hrel
  have HB1 := Aside0.mk hbl
  have HB := Aside0.mk hbox
  clear hbl hbox
  by_cases hlt : i < l.length
  ·have hdrop : l.drop i = l[i] :: l.drop (i + 1) := List.drop_eq_getElem_cons hlt
   obtain ⟨ad, rfl, d0, d1⟩ := (In.ofC HI.out HB1.out (Nat.le_refl _)).at108 hlt
   rw [hdrop, rowsC] at heq
   clear hdrop
   generalize l[i] = x at *
   by_cases e1 : x.f0 < 0
   ·rw [if_pos (.inl e1)] at heq
    subst heq
    go_wp2
    go_ret2
    exact ⟨.slice none 0 0, rfl, by first | exact R5.nil _ _ | (rw [if_neg (by decide)]; exact R5.nil _ _), HB1.out.trans ((below_alloc (Below.refl _ _) _).mono HB1.out.size)⟩
   by_cases e2 : 65536 < x.f0
   ·rw [if_pos (.inr e2)] at heq
    subst heq
    go_wp2
    go_ret2
    exact ⟨.slice none 0 0, rfl, by first | exact R5.nil _ _ | (rw [if_neg (by decide)]; exact R5.nil _ _), HB1.out.trans ((below_alloc (Below.refl _ _) _).mono HB1.out.size)⟩
   rw [if_neg (by omega)] at heq
   have HEQ := Aside0.mk heq
   clear heq
   go_wp2
   go_roundw
   case rel => exact ⟨i + 1, by simp, hlt, blk_alloc HB.out _, HB1.out.trans ((below_alloc (Below.refl _ _) _).mono HB1.out.size), HEQ.out⟩
   case measure => simp [intOf]; omega
  ·have hi : i = l.length := by omega
   rw [hi, List.drop_length, rowsC] at heq
   subst heq
   have hir : ¬ (i : Int) < (l.length : Int) := by omega
   have HL := Aside0.mk (lst_len encRow 14 12 l (by omega) (by omega) (fun x hx => by have h := rowsC_ok HQ.out x hx; have g := grp_len10 (n := x.f0) (by omega); unfold encRow word; simp only [List.length_append, List.length_cons, List.length_nil]; omega))
   have HK := Aside0.mk (fun x hx => (⟨⟨(rowsC_ok HQ.out x hx).1, by have := (rowsC_ok HQ.out x hx).2; omega⟩, HX.out x hx⟩ : okRow x))
   have g := grp_len10 (n := n) (by omega)
   have HU0 := Aside0.mk (U5.of_below (b := w.heap.size) HB1.out)
   have hb : w.heap.size ≤ wr.heap.size := HB1.out.size
   have n0_0 := blk_cell HB.out 0
   have n0_1 := blk_cell HB.out 1
   have n0_2 := blk_cell HB.out 2
   simp only [List.getElem?_toArray, List.getElem?_cons_succ, List.getElem?_cons_zero] at n0_0 n0_1 n0_2
   have hbl := blk_lt HB.out
   have HR : Aside0 (R5 w.heap.size (wr.alloc (.cells #[.int .u8 77] 5)) (.slice (some ⟨wr.heap.size, 0, none⟩) 1 1) [77]) := ⟨R5.lit wr w.heap.size [77] hb (by decide)⟩
   go_wp2_with fail
   refine (putNumber_calls w.heap.size _ _ [77] n (by omega) (by omega) ?hr ?hs (by have h := HL.out; simp only [List.length_append, List.length_cons, List.length_nil, word]; omega)).mono ?_
   case hr => exact HR.out
   case hs => simp; omega
   rintro e w3 ⟨u3, rfl, h1, h2⟩
   have HR3 := Aside0.mk h1
   have HU3 := Aside0.mk (U5.trans (b := w.heap.size) (w := w) (HU0.out.alloc _) h2)
   have HB3 := Aside0.mk (h2.blk (blk_alloc HB.out _) (by decide))
   clear h1 h2
   have n3_1 := blk_cell HB3.out 1
   have n3_2 := blk_cell HB3.out 2
   simp only [List.getElem?_toArray, List.getElem?_cons_succ, List.getElem?_cons_zero] at n3_1 n3_2
   go_wp2_with fail
   refine (putWord_calls w.heap.size _ u3 ([77] ++ grp n) m HM.out.1 HM.out.2 ?hr ?hs (by have h := HL.out; simp only [List.length_append, List.length_cons, List.length_nil, word]; omega)).mono ?_
   case hr => exact HR3.out
   case hs => exact U5.size (b := w.heap.size) HU3.out
   rintro e w4 ⟨u4, rfl, h1, h2⟩
   have HR4 := Aside0.mk h1
   have HU4 := Aside0.mk (U5.trans (b := w.heap.size) (w := w) HU3.out h2)
   have HB4 := Aside0.mk (h2.blk HB3.out (by decide))
   clear h1 h2 n3_1 n3_2
   have n4_2 := blk_cell HB4.out 2
   simp only [List.getElem?_toArray, List.getElem?_cons_succ, List.getElem?_cons_zero] at n4_2
   go_wp2_with fail
   refine (putRows_calls w.heap.size _ u4 ([77] ++ grp n ++ word m) l A c ?hr ?hs (In.ofC HI.out (U5.below (b := w.heap.size) ?hu (Nat.le_refl _)) (Nat.le_refl _)) HK.out (by have h := HL.out; simp only [List.length_append, List.length_cons, List.length_nil, word]; omega)).mono ?_
   case hr => exact HR4.out
   case hs => exact U5.size (b := w.heap.size) HU4.out
   case hu => exact HU4.out
   rintro e w5 ⟨u5, rfl, h1, h2⟩
   have HR5 := Aside0.mk h1
   have HU5 := Aside0.mk (U5.trans (b := w.heap.size) (w := w) HU4.out h2)
   clear h1 h2 n4_2
   go_wp2
   go_ret2
   exact ⟨u5, rfl, (by have h := HR5.out; simpa only [encMan, List.append_assoc, List.cons_append, List.nil_append, if_pos] using h), HU5.out.below (Nat.le_refl _)⟩
end Go.Proofs.Ythmkioodkldgbaa.DK
/- What the forms lay down out of the bags of things; conditions: those in each theorem. (Plain Lean.) -/
namespace Go.Proofs.Ythmkioodkldgbaa.DK
open Go.Proofs.Ythmkioodkldgbaa.PD
open Go.RowKit Go.Proofs.YthmkioodkldgbaaW.PrintWords Go.Proofs.YthmkioodkldgbaaW.PrintLast Go.Proofs.YthmkioodkldgbaaW.PrintMore
set_option linter.unusedVariables false
def formRec : List Form := [.key, .val, .list false 97 [.num 104]]
def formCells : Form := .list true 99 [.key, .list false 98 [.val]]
def formState : List Form := [.num 110, formCells]
def formDelta : List Form := [.num 110, formCells, .list true 99 [.key]]
def formLogs : List Form := [.list false 112 [.list false 108 formRec], .list false 108 formRec]
def formFront : List Form := [.mark 83, .num 105, .num 116, .num 105]
def formFull : List Form := formFront ++ (formState ++ formLogs)
def formPatch : List Form := formFront ++ ([.word] ++ (formDelta ++ formLogs))
def formMan : List Form := [.mark 77, .num 105, .word, .list false 114 [.num 122, .word]]
def formRow : List Form := [.mark 79, .num 110] ++ formRec
theorem OkF_app : ∀ (a b : List Form), OkF a → OkF b → OkF (a ++ b)
 | [], b, _, h => h
 | f :: a, b, ha, h => by
  rw [OkF] at ha
  rw [List.cons_append, OkF]
  exact ⟨ha.1, OkF_app a b ha.2 h⟩
theorem okRecF : OkF formRec := by simp [formRec, OkF, Form.Ok]
theorem okStateF : OkF formState := by simp [formState, formCells, OkF, Form.Ok]
theorem okDeltaF : OkF formDelta := by simp [formDelta, formCells, OkF, Form.Ok]
theorem okLogsF : OkF formLogs := by simp [formLogs, formRec, OkF, Form.Ok]
theorem okFrontF : OkF formFront := by simp [formFront, OkF, Form.Ok]
theorem okFullF : OkF formFull := OkF_app _ _ okFrontF (OkF_app _ _ okStateF okLogsF)
theorem okPatchF : OkF formPatch := OkF_app _ _ okFrontF (OkF_app _ _ (by simp [OkF, Form.Ok]) (OkF_app _ _ okDeltaF okLogsF))
theorem okManF : OkF formMan := by simp [formMan, OkF, Form.Ok]
theorem okRowF : OkF formRow := OkF_app _ _ (by simp [OkF, Form.Ok]) okRecF
theorem wrs_nil (st : Left) : wrs [] st = some ([], st) := by rw [wrs]
theorem wrs_one {f : Form} {fs : List Form} {st q q2 : Left} {z z2 : List Int} (h : f.wr st = some (z, q)) (k : wrs fs q = some (z2, q2)) : wrs (f :: fs) st = some (z ++ z2, q2) := by
 rw [wrs, h, Option.bind_some, k, Option.bind_some]
theorem wrs_app : ∀ {a b : List Form} {st q q2 : Left} {z z2 : List Int}, wrs a st = some (z, q) → wrs b q = some (z2, q2) → wrs (a ++ b) st = some (z ++ z2, q2)
 | [], b, st, q, q2, z, z2, h, k => by
  rw [wrs_nil] at h
  injection h with h; injection h with h1 h2
  subst h1 h2
  simpa using k
 | f :: a, b, st, q, q2, z, z2, h, k => by
  obtain ⟨z1, q1, z3, h1, h2, rfl⟩ := wrs_cons h
  have := wrs_one h1 (wrs_app h2 k)
  rw [List.cons_append, this, List.append_assoc]
theorem wr_num {c x : Int} {N : List Int} {K : List ByteArray} {V : List S25} (h : 0 ≤ x ∧ x ≤ 9223372036854775807) : (Form.num c).wr ⟨x :: N, K, V⟩ = some (grp x, ⟨N, K, V⟩) := by
 rw [Form.wr]; dsimp only; rw [if_pos h]
theorem wr_word {x : Int} {N : List Int} {K : List ByteArray} {V : List S25} (h : 0 ≤ x ∧ x ≤ 4294967295) : Form.word.wr ⟨x :: N, K, V⟩ = some (word x, ⟨N, K, V⟩) := by
 rw [Form.wr]; dsimp only; rw [if_pos h]
theorem wr_key {x : ByteArray} {N : List Int} {K : List ByteArray} {V : List S25} (h : x.size ≤ 140737488355328) : Form.key.wr ⟨N, x :: K, V⟩ = some (keyB x, ⟨N, K, V⟩) := by
 rw [Form.wr]; dsimp only; rw [if_pos h]
theorem wr_val {x : S25} {N : List Int} {K : List ByteArray} {V : List S25} (h : okV x) : Form.val.wr ⟨N, K, x :: V⟩ = some (encM x, ⟨N, K, V⟩) := by
 rw [Form.wr]; dsimp only; rw [if_pos h]
theorem wr_mark {c : Int} {st : Left} : (Form.mark c).wr st = some ([c], st) := by rw [Form.wr]
theorem wr_list {r : Bool} {c : Int} {fs : List Form} {m : Nat} {N : List Int} {K : List ByteArray} {V : List S25} {z : List Int} {q : Left} (hm : m ≤ 9223372036854775807) (h : iter (wrs fs) m ⟨N, K, V⟩ = some (z, q)) : (Form.list r c fs).wr ⟨(m : Int) :: N, K, V⟩ = some (grp (m : Int) ++ z, q) := by
 rw [Form.wr]; dsimp only; rw [if_pos (by omega), Int.toNat_natCast, h, Option.bind_some]
/-- A list of things, each laid down by fs. -/
theorem iter_all {α : Type} (fs : List Form) (fn : α → List Int) (fk : α → List ByteArray) (fv : α → List S25) (enc : α → List Int) : ∀ (l : List α) (N : List Int) (K : List ByteArray) (V : List S25),
  (∀ x ∈ l, ∀ N K V, wrs fs ⟨fn x ++ N, fk x ++ K, fv x ++ V⟩ = some (enc x, ⟨N, K, V⟩)) → iter (wrs fs) l.length ⟨l.flatMap fn ++ N, l.flatMap fk ++ K, l.flatMap fv ++ V⟩ = some (l.flatMap enc, ⟨N, K, V⟩)
 | [], N, K, V, _ => by rw [List.length_nil, iter]; rfl
 | x :: l, N, K, V, h => by
  rw [List.length_cons, iter]
  simp only [List.flatMap_cons, List.append_assoc]
  rw [h x (by simp), Option.bind_some, iter_all fs fn fk fv enc l N K V (fun y hy => h y (List.mem_cons_of_mem _ hy)), Option.bind_some]
theorem lst_all {α : Type} {r : Bool} {c : Int} (fs : List Form) (fn : α → List Int) (fk : α → List ByteArray) (fv : α → List S25) (enc : α → List Int) (l : List α) (N : List Int) (K : List ByteArray) (V : List S25) (hl : l.length ≤ 9223372036854775807)
  (h : ∀ x ∈ l, ∀ N K V, wrs fs ⟨fn x ++ N, fk x ++ K, fv x ++ V⟩ = some (enc x, ⟨N, K, V⟩)) : (Form.list r c fs).wr ⟨(l.length : Int) :: (l.flatMap fn ++ N), l.flatMap fk ++ K, l.flatMap fv ++ V⟩ = some (lst enc l, ⟨N, K, V⟩) := wr_list hl (iter_all fs fn fk fv enc l N K V h)
theorem flat_one {α β : Type} (f : α → β) (l : List α) : l.flatMap (fun x => [f x]) = l.map f := by induction l with | nil => rfl | cons x l ih => simp [ih]
theorem flat_nil {α β : Type} (l : List α) : l.flatMap (fun _ => ([] : List β)) = [] := by induction l with | nil => rfl | cons x l ih => simp [ih]
theorem wr_loops {r : Bool} {c d : Int} (l : List Int) (hl : l.length ≤ 9223372036854775807) (h : ∀ n ∈ l, 0 ≤ n ∧ n ≤ 9223372036854775807) (N : List Int) (K : List ByteArray) (V : List S25) : (Form.list r c [.num d]).wr ⟨(l.length : Int) :: (l ++ N), K, V⟩ = some (lst grp l, ⟨N, K, V⟩) := by
 have := lst_all (r := r) (c := c) [.num d] (fun x : Int => [x]) (fun _ => []) (fun _ => []) grp l N K V hl (fun x hx N K V => by have := wrs_one (wr_num (c := d) (N := N) (K := K) (V := V) (h x hx)) (wrs_nil _); simpa using this)
 rw [flat_one, flat_nil, flat_nil] at this
 simpa using this
theorem wr_rec (x : S28) (h : okRec x) (hl : x.f2.length ≤ 9223372036854775807) (N : List Int) (K : List ByteArray) (V : List S25) : wrs formRec ⟨recN x ++ N, [x.f0] ++ K, [x.f1] ++ V⟩ = some (encR x, ⟨N, K, V⟩) := by
 have h3 := wrs_one (wr_loops (r := false) (c := 97) (d := 104) x.f2 hl h.loops N K V) (wrs_nil _)
 have h2 := wrs_one (wr_val (N := (x.f2.length : Int) :: (x.f2 ++ N)) (K := K) (V := V) h.val) h3
 have h1 := wrs_one (wr_key (N := (x.f2.length : Int) :: (x.f2 ++ N)) (K := K) (V := x.f1 :: V) h.key) h2
 unfold formRec recN encR
 simpa using h1
theorem wr_recs {r : Bool} {c : Int} (l : List S28) (hl : l.length ≤ 9223372036854775807) (h : ∀ x ∈ l, okRec x) (hx : ∀ x ∈ l, x.f2.length ≤ 9223372036854775807) (N : List Int) (K : List ByteArray) (V : List S25) : (Form.list r c formRec).wr ⟨(l.length : Int) :: (l.flatMap recN ++ N), l.map (fun x => x.f0) ++ K, l.map (fun x => x.f1) ++ V⟩ = some (lst encR l, ⟨N, K, V⟩) := by
 have := lst_all (r := r) (c := c) formRec recN (fun x : S28 => [x.f0]) (fun x : S28 => [x.f1]) encR l N K V hl (fun x hx' N K V => wr_rec x (h x hx') (hx x hx') N K V)
 rwa [flat_one, flat_one] at this
/-- The numbers of a log. -/
def logN (l : List S28) : List Int := (l.length : Int) :: l.flatMap recN
theorem wr_logs {r : Bool} {c : Int} (l : List (List S28)) (hl : l.length ≤ 9223372036854775807) (hl2 : ∀ y ∈ l, y.length ≤ 9223372036854775807) (h : ∀ y ∈ l, ∀ x ∈ y, okRec x) (hx : ∀ y ∈ l, ∀ x ∈ y, x.f2.length ≤ 9223372036854775807) (N : List Int) (K : List ByteArray) (V : List S25) : (Form.list r c [.list false 108 formRec]).wr ⟨(l.length : Int) :: (l.flatMap logN ++ N), l.flatMap (fun y => y.map (fun x => x.f0)) ++ K, l.flatMap (fun y => y.map (fun x => x.f1)) ++ V⟩ = some (lst (lst encR) l, ⟨N, K, V⟩) :=
 lst_all (r := r) (c := c) [.list false 108 formRec] logN (fun y => y.map (fun x => x.f0)) (fun y => y.map (fun x => x.f1)) (lst encR) l N K V hl (fun y hy N K V => by
  have := wrs_one (wr_recs (r := false) (c := 108) y (hl2 y hy) (h y hy) (hx y hy) N K V) (wrs_nil _)
  simpa [logN] using this)
theorem wr_vals {r : Bool} {c : Int} (l : List S25) (hl : l.length ≤ 9223372036854775807) (h : ∀ x ∈ l, okV x) (N : List Int) (K : List ByteArray) (V : List S25) : (Form.list r c [.val]).wr ⟨(l.length : Int) :: N, K, l ++ V⟩ = some (lst encM l, ⟨N, K, V⟩) := by
 have := lst_all (r := r) (c := c) [.val] (fun _ => []) (fun _ => []) (fun x : S25 => [x]) encM l N K V hl (fun x hx N K V => by have := wrs_one (wr_val (N := N) (K := K) (V := V) (h x hx)) (wrs_nil _); simpa using this)
 rw [flat_one, flat_nil, flat_nil] at this
 simpa using this
theorem wr_cells (l : List S121) (hl : l.length ≤ 9223372036854775807) (h : ∀ x ∈ l, okCell x) (hx : ∀ x ∈ l, x.f1.length ≤ 9223372036854775807) (N : List Int) (K : List ByteArray) (V : List S25) : formCells.wr ⟨(l.length : Int) :: (l.flatMap cellN ++ N), l.map (fun x => x.f0) ++ K, l.flatMap (fun x => x.f1) ++ V⟩ = some (lst encC l, ⟨N, K, V⟩) := by
 have := lst_all (r := true) (c := 99) [.key, .list false 98 [.val]] cellN (fun x : S121 => [x.f0]) (fun x : S121 => x.f1) encC l N K V hl (fun x hx' N K V => by
  have h2 := wrs_one (wr_vals (r := false) (c := 98) x.f1 (hx x hx') (h x hx').vals N K V) (wrs_nil _)
  have h1 := wrs_one (wr_key (N := (x.f1.length : Int) :: N) (K := K) (V := x.f1 ++ V) (h x hx').key) h2
  simpa [cellN, encC] using h1)
 rwa [flat_one] at this
theorem wr_keys {r : Bool} {c : Int} (l : List ByteArray) (hl : l.length ≤ 9223372036854775807) (h : ∀ x ∈ l, x.size ≤ 140737488355328) (N : List Int) (K : List ByteArray) (V : List S25) : (Form.list r c [.key]).wr ⟨(l.length : Int) :: N, l ++ K, V⟩ = some (lst keyB l, ⟨N, K, V⟩) := by
 have := lst_all (r := r) (c := c) [.key] (fun _ => []) (fun x : ByteArray => [x]) (fun _ => []) keyB l N K V hl (fun x hx N K V => by have := wrs_one (wr_key (N := N) (K := K) (V := V) (h x hx)) (wrs_nil _); simpa using this)
 rw [flat_one, flat_nil, flat_nil] at this
 simpa using this
theorem wr_state (n : Int) (l : List S121) (hn : 0 ≤ n ∧ n ≤ 9223372036854775807) (hl : l.length ≤ 9223372036854775807) (h : ∀ x ∈ l, okCell x) (hx : ∀ x ∈ l, x.f1.length ≤ 9223372036854775807) (N : List Int) (K : List ByteArray) (V : List S25) : wrs formState ⟨n :: (l.length : Int) :: (l.flatMap cellN ++ N), l.map (fun x => x.f0) ++ K, l.flatMap (fun x => x.f1) ++ V⟩ = some (encSt n l, ⟨N, K, V⟩) := by
 have := wrs_one (wr_num (c := 110) (K := l.map (fun x => x.f0) ++ K) (V := l.flatMap (fun x => x.f1) ++ V) hn) (wrs_one (wr_cells l hl h hx N K V) (wrs_nil _))
 simpa [formState, encSt] using this
theorem wr_row (n : Int) (x : S28) (hn : 0 ≤ n ∧ n ≤ 9223372036854775807) (h : okRec x) (hl : x.f2.length ≤ 9223372036854775807) : wrs formRow ⟨n :: recN x, [x.f0], [x.f1]⟩ = some (encOut n x, ⟨[], [], []⟩) := by
 have h1 := wrs_app (wrs_one (wr_mark (c := 79)) (wrs_one (wr_num (c := 110) (N := recN x) (K := [x.f0]) (V := [x.f1]) hn) (wrs_nil _))) (by have := wr_rec x h hl [] [] []; simpa using this)
 simpa [formRow, encOut] using h1
theorem wr_rows {r : Bool} {c : Int} (l : List S108) (hl : l.length ≤ 9223372036854775807) (h : ∀ x ∈ l, okRow x) (N : List Int) (K : List ByteArray) (V : List S25) : (Form.list r c [.num 122, .word]).wr ⟨(l.length : Int) :: (l.flatMap (fun x => [x.f0, x.f1]) ++ N), K, V⟩ = some (lst encRow l, ⟨N, K, V⟩) := by
 have := lst_all (r := r) (c := c) [.num 122, .word] (fun x : S108 => [x.f0, x.f1]) (fun _ => []) (fun _ => []) encRow l N K V hl (fun x hx N K V => by
  have := wrs_one (wr_num (c := 122) (N := x.f1 :: N) (K := K) (V := V) (h x hx).size) (wrs_one (wr_word (N := N) (K := K) (V := V) (h x hx).check) (wrs_nil _))
  simpa [encRow] using this)
 rw [flat_nil, flat_nil] at this
 simpa using this
theorem wr_man (n m : Int) (l : List S108) (hn : 0 ≤ n ∧ n ≤ 9223372036854775807) (hm : 0 ≤ m ∧ m ≤ 4294967295) (hl : l.length ≤ 9223372036854775807) (h : ∀ x ∈ l, okRow x) : wrs formMan ⟨n :: m :: (l.length : Int) :: l.flatMap (fun x => [x.f0, x.f1]), [], []⟩ = some (encMan n m l, ⟨[], [], []⟩) := by
 have := wrs_one (wr_mark (c := 77)) (wrs_one (wr_num (c := 105) (K := []) (V := []) hn) (wrs_one (wr_word (K := []) (V := []) hm) (wrs_one (wr_rows (r := false) (c := 114) l hl h [] [] []) (wrs_nil _))))
 simpa [formMan, encMan] using this
end Go.Proofs.Ythmkioodkldgbaa.DK
