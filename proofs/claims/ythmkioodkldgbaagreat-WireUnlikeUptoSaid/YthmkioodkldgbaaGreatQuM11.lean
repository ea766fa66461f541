/- wire.PutRecord, PutState, PutSegment; conditions: those in each theorem. -/
import Derived.Test.YthmkioodkldgbaaGreatQuM10
import Derived.Test.YthmkioodkldgbaaGreatQuM04
import Derived.Test.YthmkioodkldgbaaGreatQuM06
namespace Go.Proofs.YthmkioodkldgbaaGreat.DK
open Go.Proofs.YthmkioodkldgbaaGreat.PD
open Go.RowKit Go.Proofs.YthmkioodkldgbaaGreatW.PrintWords Go.Proofs.YthmkioodkldgbaaGreatW.PrintLast Go.Proofs.YthmkioodkldgbaaGreatW.PrintMore
set_option linter.unusedVariables false
set_option linter.unusedSimpArgs false
set_option maxRecDepth 100000
theorem flatMap_len {α : Type} (f : α → List Int) (B : Nat) : ∀ l : List α, (∀ x ∈ l, (f x).length ≤ B) → (l.flatMap f).length ≤ l.length * B
 | [], _ => by simp
 | x :: l, h => by
  have h1 := h x (by simp)
  have h2 := flatMap_len f B l (fun y hy => h y (List.mem_cons_of_mem _ hy))
  simp only [List.flatMap_cons, List.length_append, List.length_cons, Nat.succ_mul]
  omega
theorem lst_len {α : Type} (f : α → List Int) (B m : Nat) (l : List α) (hm : l.length ≤ m) (hm9 : m ≤ 1000000) (h : ∀ x ∈ l, (f x).length ≤ B) : (lst f l).length ≤ 10 + m * B := by
 have h1 := flatMap_len f B l h
 have h2 := grp_len10 (n := (l.length : Int)) (by omega)
 have h3 := Nat.mul_le_mul_right B hm
 unfold lst
 simp only [List.length_append]
 omega
theorem keyB_len {k : ByteArray} (h : k.size ≤ 12) : (keyB k).length ≤ 22 := by
 have h2 := grp_len10 (n := (k.size : Int)) (by omega)
 unfold keyB
 simp only [List.length_append, bytesOf_length]
 omega
theorem loopsC_ok : ∀ {l : List Int}, loopsC l = 0 → ∀ n ∈ l, 0 ≤ n ∧ n ≤ 9
 | [], _, n, hn => by simp at hn
 | m :: l, h, n, hn => by
  rw [loopsC] at h
  split at h
  ·simp at h
  ·rcases List.mem_cons.1 hn with rfl | hn
   ·omega
   ·exact loopsC_ok h n hn
theorem recC_ok {x : S28} (ho : okS x.f1) (h : recC x = 0) : okRec x ∧ (encR x).length ≤ 1000 := by
 unfold recC at h
 split at h
 ·simp at h
 split at h
 ·rename_i h1 h2; exact absurd h h2
 split at h
 ·simp at h
 rename_i h1 h2 h3
 have hv : okV x.f1 := ⟨ho, by omega⟩
 have hlp := loopsC_ok h
 refine ⟨⟨by omega, hv, fun n hn => ?_⟩, ?_⟩
 ·have := hlp n hn
  omega
 ·have a := keyB_len (k := x.f0) (by omega)
  have b := okV_len hv
  have c := lst_len grp 10 3 x.f2 (by omega) (by omega) (fun n hn => grp_len10 (by have := hlp n hn; omega))
  unfold encR
  simp only [List.length_append]
  omega
theorem valsC_ok : ∀ {l : List S25}, okL l → valsC l = 0 → ∀ v ∈ l, okV v
 | [], _, _, v, hv => by simp at hv
 | x :: l, ho, h, v, hv => by
  rw [valsC] at h
  rw [okL] at ho
  split at h
  ·rename_i hz
   rcases List.mem_cons.1 hv with rfl | hv
   ·exact ⟨ho.1, hz⟩
   ·exact valsC_ok ho.2 h v hv
  ·rename_i hz; exact absurd h hz
theorem cellsL_cons' (q : Option ByteArray) (x : S121) (l : List S121) : ∃ b : Bool, cellsL q (x :: l) = if 12 < x.f0.size then 24 else if b = true then 27 else if 6 < x.f1.length then 27 else if valsC x.f1 = 0 then cellsL (some x.f0) l else valsC x.f1 := ⟨_, cellsL_cons q x l⟩
theorem goneL_cons' (q : Option ByteArray) (x : ByteArray) (l : List ByteArray) : ∃ b : Bool, goneL q (x :: l) = if 12 < x.size then 24 else if b = true then 42 else goneL (some x) l := ⟨_, goneL_cons q x l⟩
theorem cellsL_ok : ∀ {l : List S121} {q : Option ByteArray}, (∀ x ∈ l, okL x.f1) → cellsL q l = 0 → ∀ x ∈ l, okCell x ∧ (encC x).length ≤ 2000
 | [], q, _, _, x, hx => by simp at hx
 | y :: l, q, ho, h, x, hx => by
  obtain ⟨bb, hbb⟩ := cellsL_cons' q y l
  rw [hbb] at h
  split at h
  ·simp at h
  split at h
  ·simp at h
  split at h
  ·simp at h
  split at h
  ·rename_i h1 h2 h3 h4
   rcases List.mem_cons.1 hx with rfl | hx
   ·have hv := valsC_ok (ho x (by simp)) h4
    refine ⟨⟨by omega, hv⟩, ?_⟩
    have a := keyB_len (k := x.f0) (by omega)
    have c := lst_len encM 312 6 x.f1 (by omega) (by omega) (fun v hv' => okV_len (hv v hv'))
    unfold encC
    simp only [List.length_append]
    omega
   ·exact cellsL_ok (fun z hz => ho z (List.mem_cons_of_mem _ hz)) h x hx
  ·rename_i h1 h2 h3 h4; exact absurd h h4
theorem stateC_ok {n : Int} {l : List S121} (ho : ∀ x ∈ l, okL x.f1) (h : stateC n l = 0) : (0 ≤ n ∧ n ≤ 1073741824) ∧ l.length ≤ 64 ∧ (∀ x ∈ l, okCell x) ∧ (lst encC l).length ≤ 200000 ∧ (encSt n l).length ≤ 200000 := by
 unfold stateC at h
 split at h
 ·simp at h
 split at h
 ·simp at h
 rename_i h1 h2
 have hc := cellsL_ok ho h
 have c := lst_len encC 2000 64 l (by omega) (by omega) (fun v hv' => (hc v hv').2)
 have g := grp_len10 (n := n) (by omega)
 refine ⟨by omega, by omega, fun x hx => (hc x hx).1, by omega, ?_⟩
 unfold encSt
 simp only [List.length_append]
 omega
theorem goneL_ok : ∀ {l : List ByteArray} {q : Option ByteArray}, goneL q l = 0 → ∀ x ∈ l, x.size ≤ 12
 | [], q, _, x, hx => by simp at hx
 | y :: l, q, h, x, hx => by
  obtain ⟨bb, hbb⟩ := goneL_cons' q y l
  rw [hbb] at h
  split at h
  ·simp at h
  split at h
  ·simp at h
  rename_i h1 h2
  rcases List.mem_cons.1 hx with rfl | hx
  ·omega
  ·exact goneL_ok h x hx
theorem recsL_ok : ∀ {l : List S28}, (∀ x ∈ l, okS x.f1) → recsL l = 0 → ∀ x ∈ l, okRec x ∧ (encR x).length ≤ 1000
 | [], _, _, x, hx => by simp at hx
 | y :: l, ho, h, x, hx => by
  rw [recsL] at h
  split at h
  ·rename_i h1
   rcases List.mem_cons.1 hx with rfl | hx
   ·exact recC_ok (ho x (by simp)) h1
   ·exact recsL_ok (fun z hz => ho z (List.mem_cons_of_mem _ hz)) h x hx
  ·rename_i h1; exact absurd h h1
theorem recsC_ok {l : List S28} (ho : ∀ x ∈ l, okS x.f1) (h : recsC l = 0) : (∀ x ∈ l, okRec x) ∧ (lst encR l).length ≤ 300000 := by
 unfold recsC at h
 split at h
 ·simp at h
 rename_i h1
 have hr := recsL_ok ho h
 have c := lst_len encR 1000 256 l (by omega) (by omega) (fun v hv' => (hr v hv').2)
 exact ⟨fun x hx => (hr x hx).1, by omega⟩
theorem logsL_ok : ∀ {l : List (List S28)} {p : List S28}, (∀ y ∈ l, ∀ x ∈ y, okS x.f1) → (∀ x ∈ p, okS x.f1) → logsL l p = 0 → (∀ y ∈ l, (∀ x ∈ y, okRec x) ∧ (lst encR y).length ≤ 300000) ∧ (∀ x ∈ p, okRec x) ∧ (lst encR p).length ≤ 300000
 | [], p, _, hp, h => by
  rw [logsL] at h
  exact ⟨fun y hy => by simp at hy, recsC_ok hp h⟩
 | y :: l, p, ho, hp, h => by
  rw [logsL] at h
  split at h
  ·rename_i h1
   have ih := logsL_ok (fun z hz => ho z (List.mem_cons_of_mem _ hz)) hp h
   refine ⟨fun z hz => ?_, ih.2⟩
   rcases List.mem_cons.1 hz with rfl | hz
   ·exact recsC_ok (ho z (by simp)) h1
   ·exact ih.1 z hz
  ·rename_i h1; exact absurd h h1
/-- Its whole numbers are such. -/
structure Seg.Ok (s : Seg) : Prop where
 sum : 0 ≤ s.sum ∧ s.sum ≤ 4294967295
 cells : ∀ x ∈ s.cells, okL x.f1
 set : ∀ x ∈ s.set, okL x.f1
 logs : ∀ y ∈ s.logs, ∀ x ∈ y, okS x.f1
 pend : ∀ x ∈ s.pend, okS x.f1
theorem segC_ok {s : Seg} (ho : s.Ok) (h : segC s = 0) : okSeg s ∧ (encSeg s).length ≤ 140737488355328 := by
 unfold segC at h
 split at h
 ·simp at h
 split at h
 ·simp at h
 split at h
 ·rename_i h1 h2 h3
  unfold logsC at h
  split at h
  ·simp at h
  rename_i h4
  have hl := logsL_ok ho.logs ho.pend h
  have cl := lst_len (lst encR) 300000 4 s.logs (by omega) (by omega) (fun y hy => (hl.1 y hy).2)
  have g1 := grp_len10 (n := s.id) (by omega)
  have g2 := grp_len10 (n := s.task) (by omega)
  have g3 := grp_len10 (n := s.base) (by omega)
  unfold bodyC at h3
  by_cases hz : s.base = 0
  ·rw [if_pos hz] at h3
   have hst := stateC_ok ho.cells h3
   refine ⟨⟨by omega, by omega, by omega, ho.sum, fun _ => hst.1, fun _ => hst.2.2.1, fun h => absurd hz h, fun h => absurd hz h, fun h => absurd hz h, fun l hl' => (hl.1 l hl').1, hl.2.1⟩, ?_⟩
   unfold encSeg encFront encLogs
   rw [if_pos hz]
   simp only [List.length_append, List.length_cons]
   omega
  ·rw [if_neg hz] at h3
   split at h3
   ·rename_i h5
    have hst := stateC_ok ho.set h5
    unfold goneC at h3
    split at h3
    ·simp at h3
    rename_i h6
    have hg := goneL_ok h3
    have cg := lst_len keyB 22 64 s.gone (by omega) (by omega) (fun y hy => keyB_len (hg y hy))
    have g4 := grp_len10 (n := s.dnum) (by omega)
    refine ⟨⟨by omega, by omega, by omega, ho.sum, fun h => absurd h hz, fun h => absurd h hz, fun _ => hst.1, fun _ => hst.2.2.1, fun _ x hx => by have := hg x hx; omega, fun l hl' => (hl.1 l hl').1, hl.2.1⟩, ?_⟩
    unfold encSeg encFront encLogs encDelta word
    rw [if_neg hz]
    simp only [List.length_append, List.length_cons, List.length_nil]
    omega
   ·rename_i h5; exact absurd h3 h5
 ·rename_i h1 h2 h3; exact absurd h h3
/-- What a Put answers: the first fault; the bytes, where there is none. -/
def Put (w : World) (r : Int) (zs : List Int) (e : Ending) (w' : World) : Prop := ∃ u, e = .returned (.tuple #[u, .int .i64 r]) ∧ R5 w.heap.size w' u (if r = 0 then zs else []) ∧ Below w.heap.size w w'
theorem In.ofC {α : Type} {d : Kd α} {w0 w : World} {A : Option Addr} {l : List α} (h : d.C w0 A l.length l) (hb : Below w0.heap.size w0 w) {b : Nat} (hB : w0.heap.size ≤ b) : In d b w A l := ⟨w0, hB, h, hb⟩
set_option maxHeartbeats 4000000 in
theorem PutRecord_calls (w : World) (x : S28) (A4 : Option Addr) (c4 : Nat) (A5 : Option Addr) (c5 : Nat) (h4 : k25.C w A4 x.f1.f3.length x.f1.f3) (l4 : x.f1.f3.length ≤ c4) (h5 : (Kd.int .i64).C w A5 x.f2.length x.f2) (l5 : x.f2.length ≤ c5) (ho : okS x.f1) :
  Calls Tryz.prog 25 #[.agg #[.string x.f0, .int .i64 x.f1.f0, .int .i64 x.f1.f1, .string x.f1.f2, .slice A4 x.f1.f3.length c4, .slice A5 x.f2.length c5]] w (Put w (recC x) (encR x)) := by
 have HC := Aside0.mk (fun (W : World) (hb : Below w.heap.size w W) => CheckRecord_calls x W w.heap.size A4 c4 A5 c5 (In.ofC h4 hb (Nat.le_refl _)) (In.ofC h5 hb (Nat.le_refl _)) hb.size l4)
 have HI4 := Aside0.mk h4
 have HI5 := Aside0.mk h5
 have HO := Aside0.mk ho
 clear h4 h5 ho
 unfold Put
 generalize hq : (recC x) = q at HC ⊢
 have HQ := Aside0.mk hq
 clear hq
 by_cases hz : q = 0
 ·subst hz
  simp only [if_pos]
  have HP := Aside0.mk (recC_ok HO.out HQ.out)
  go_enter Tryz.func25, Tryz.ntmps25
  go_wp2_with fail
  refine (HC.out _ ?hw).mono ?_
  case hw => repeat (with_reducible first | exact Below.refl _ _ | apply below_drew | apply pw_below_drewN | apply below_alloc)
  rintro e w1 ⟨rfl, hb⟩
  have HB1 := Aside0.mk (show Below w.heap.size w w1 from (below_alloc (Below.refl _ _) _).trans (hb.mono (by simp)))
  have HB := Aside0.mk ((hb.block w.heap.size (by simp)).trans (heap_alloc_new w (.cells #[.string x.f0, .int .i64 x.f1.f0, .int .i64 x.f1.f1, .string x.f1.f2, .slice A4 x.f1.f3.length c4, .slice A5 x.f2.length c5] 27)))
  clear hb
  have n0_0 := blk_cell HB.out 0
  have n0_1 := blk_cell HB.out 1
  have n0_2 := blk_cell HB.out 2
  have n0_3 := blk_cell HB.out 3
  have n0_4 := blk_cell HB.out 4
  have n0_5 := blk_cell HB.out 5
  simp only [List.getElem?_toArray, List.getElem?_cons_succ, List.getElem?_cons_zero] at n0_0 n0_1 n0_2 n0_3 n0_4 n0_5
  go_wp2_with fail
  refine (putRecord_calls w.heap.size _ (.slice none 0 0) [] x A4 c4 A5 c5 (R5.nil _ _) HB1.out.size (In.ofC HI4.out HB1.out (Nat.le_refl _)) l4 (In.ofC HI5.out HB1.out (Nat.le_refl _)) l5 HP.out.1 (by rw [List.nil_append]; have := HP.out.2; omega)).mono ?_
  rintro e w2 ⟨u, rfl, h1, h2⟩
  have HR := Aside0.mk h1
  have HE := Aside0.mk h2
  clear h1 h2
  go_wp2
  go_ret2
  exact ⟨u, rfl, HR.out, HB1.out.trans (HE.out.below HB1.out.size)⟩
 ·skip
  go_enter Tryz.func25, Tryz.ntmps25
  go_wp2_with fail
  refine (HC.out _ ?hw).mono ?_
  case hw => repeat (with_reducible first | exact Below.refl _ _ | apply below_drew | apply pw_below_drewN | apply below_alloc)
  rintro e w1 ⟨rfl, hb⟩
  have HB1 := Aside0.mk (show Below w.heap.size w w1 from (below_alloc (Below.refl _ _) _).trans (hb.mono (by simp)))
  clear hb
  have hqb : (q != 0) = true := by simpa using hz
  go_wp2
  go_ret2
  exact ⟨.slice none 0 0, rfl, by first | exact R5.nil _ _ | (rw [if_neg hz]; exact R5.nil _ _), HB1.out⟩
set_option maxHeartbeats 4000000 in
theorem PutState_calls (w : World) (n : Int) (l : List S121) (A : Option Addr) (c : Nat) (h1 : k121.C w A l.length l) (l1 : l.length ≤ c) (hx : ∀ x ∈ l, x.f1.length ≤ 9223372036854775807) (ho : ∀ x ∈ l, okL x.f1) :
  Calls Tryz.prog 20 #[.agg #[.int .i64 n, .slice A l.length c]] w (Put w (stateC n l) (encSt n l)) := by
 have HC := Aside0.mk (fun (W : World) (hb : Below w.heap.size w W) => CheckState_calls n l W w.heap.size A c (In.ofC h1 hb (Nat.le_refl _)) hb.size)
 have HI1 := Aside0.mk h1
 have HX := Aside0.mk hx
 have HO := Aside0.mk ho
 clear h1 hx ho
 unfold Put
 generalize hq : (stateC n l) = q at HC ⊢
 have HQ := Aside0.mk hq
 clear hq
 by_cases hz : q = 0
 ·subst hz
  simp only [if_pos]
  have HP := Aside0.mk (stateC_ok HO.out HQ.out)
  go_enter Tryz.func20, Tryz.ntmps20
  go_wp2_with fail
  refine (HC.out _ ?hw).mono ?_
  case hw => repeat (with_reducible first | exact Below.refl _ _ | apply below_drew | apply pw_below_drewN | apply below_alloc)
  rintro e w1 ⟨rfl, hb⟩
  have HB1 := Aside0.mk (show Below w.heap.size w w1 from (below_alloc (Below.refl _ _) _).trans (hb.mono (by simp)))
  have HB := Aside0.mk ((hb.block w.heap.size (by simp)).trans (heap_alloc_new w (.cells #[.int .i64 n, .slice A l.length c] 30)))
  clear hb
  have n0_0 := blk_cell HB.out 0
  have n0_1 := blk_cell HB.out 1
  simp only [List.getElem?_toArray, List.getElem?_cons_succ, List.getElem?_cons_zero] at n0_0 n0_1
  go_wp2_with fail
  refine (putState_calls w.heap.size _ (.slice none 0 0) [] n l A c (R5.nil _ _) HB1.out.size (In.ofC HI1.out HB1.out (Nat.le_refl _)) l1 HP.out.1.1 (by have := HP.out.1.2; omega) HP.out.2.2.1 (by rw [List.nil_append]; have := HP.out.2.2.2.2; omega)).mono ?_
  rintro e w2 ⟨u, rfl, h1, h2⟩
  have HR := Aside0.mk h1
  have HE := Aside0.mk h2
  clear h1 h2
  go_wp2
  go_ret2
  exact ⟨u, rfl, HR.out, HB1.out.trans (HE.out.below HB1.out.size)⟩
 ·skip
  go_enter Tryz.func20, Tryz.ntmps20
  go_wp2_with fail
  refine (HC.out _ ?hw).mono ?_
  case hw => repeat (with_reducible first | exact Below.refl _ _ | apply below_drew | apply pw_below_drewN | apply below_alloc)
  rintro e w1 ⟨rfl, hb⟩
  have HB1 := Aside0.mk (show Below w.heap.size w w1 from (below_alloc (Below.refl _ _) _).trans (hb.mono (by simp)))
  clear hb
  have hqb : (q != 0) = true := by simpa using hz
  go_wp2
  go_ret2
  exact ⟨.slice none 0 0, rfl, by first | exact R5.nil _ _ | (rw [if_neg hz]; exact R5.nil _ _), HB1.out⟩
set_option maxHeartbeats 4000000 in
theorem PutSegment_calls (w : World) (s : Seg) (A5 A7 A8 A9 A10 : Option Addr) (c5 c7 c8 c9 c10 : Nat) (h5 : k121.C w A5 s.cells.length s.cells) (h7 : k121.C w A7 s.set.length s.set) (h8 : Kd.string.C w A8 s.gone.length s.gone) (h9 : (Kd.slice 27 k28).C w A9 s.logs.length s.logs) (h10 : k28.C w A10 s.pend.length s.pend) (l5 : s.cells.length ≤ c5) (l7 : s.set.length ≤ c7) (l8 : s.gone.length ≤ c8) (l9 : s.logs.length ≤ c9) (l10 : s.pend.length ≤ c10) (hs : s.Short) (ho : s.Ok) :
  Calls Tryz.prog 22 #[.agg #[.int .i64 s.id, .int .i64 s.task, .int .i64 s.base, .int .u32 s.sum, .int .i64 s.snum, .slice A5 s.cells.length c5, .int .i64 s.dnum, .slice A7 s.set.length c7, .slice A8 s.gone.length c8, .slice A9 s.logs.length c9, .slice A10 s.pend.length c10]] w (Put w (segC s) (encSeg s)) := by
 have HC := Aside0.mk (fun (W : World) (hb : Below w.heap.size w W) => fitSegment_calls s W w.heap.size A5 c5 A7 c7 A8 c8 A9 c9 A10 c10 (In.ofC h5 hb (Nat.le_refl _)) (In.ofC h7 hb (Nat.le_refl _)) (In.ofC h8 hb (Nat.le_refl _)) (In.ofC h9 hb (Nat.le_refl _)) (In.ofC h10 hb (Nat.le_refl _)) hb.size)
 have HI5 := Aside0.mk h5
 have HI7 := Aside0.mk h7
 have HI8 := Aside0.mk h8
 have HI9 := Aside0.mk h9
 have HI10 := Aside0.mk h10
 have HX := Aside0.mk hs
 have HO := Aside0.mk ho
 clear h5 h7 h8 h9 h10 hs ho
 unfold Put
 generalize hq : (segC s) = q at HC ⊢
 have HQ := Aside0.mk hq
 clear hq
 by_cases hz : q = 0
 ·subst hz
  simp only [if_pos]
  have HP := Aside0.mk (segC_ok HO.out HQ.out)
  go_enter Tryz.func22, Tryz.ntmps22
  go_wp2_with fail
  refine (HC.out _ ?hw).mono ?_
  case hw => repeat (with_reducible first | exact Below.refl _ _ | apply below_drew | apply pw_below_drewN | apply below_alloc)
  rintro e w1 ⟨rfl, hb⟩
  have HB1 := Aside0.mk (show Below w.heap.size w w1 from (below_alloc (Below.refl _ _) _).trans (hb.mono (by simp)))
  have HB := Aside0.mk ((hb.block w.heap.size (by simp)).trans (heap_alloc_new w (.cells #[.int .i64 s.id, .int .i64 s.task, .int .i64 s.base, .int .u32 s.sum, .int .i64 s.snum, .slice A5 s.cells.length c5, .int .i64 s.dnum, .slice A7 s.set.length c7, .slice A8 s.gone.length c8, .slice A9 s.logs.length c9, .slice A10 s.pend.length c10] 38)))
  clear hb
  have n0_0 := blk_cell HB.out 0
  have n0_1 := blk_cell HB.out 1
  have n0_2 := blk_cell HB.out 2
  have n0_3 := blk_cell HB.out 3
  have n0_4 := blk_cell HB.out 4
  have n0_5 := blk_cell HB.out 5
  have n0_6 := blk_cell HB.out 6
  have n0_7 := blk_cell HB.out 7
  have n0_8 := blk_cell HB.out 8
  have n0_9 := blk_cell HB.out 9
  have n0_10 := blk_cell HB.out 10
  simp only [List.getElem?_toArray, List.getElem?_cons_succ, List.getElem?_cons_zero] at n0_0 n0_1 n0_2 n0_3 n0_4 n0_5 n0_6 n0_7 n0_8 n0_9 n0_10
  go_wp2_with fail
  refine (putSegment_calls _ s A5 A7 A8 A9 A10 c5 c7 c8 c9 c10 (In.ofC HI5.out HB1.out HB1.out.size) (In.ofC HI7.out HB1.out HB1.out.size) (In.ofC HI8.out HB1.out HB1.out.size) (In.ofC HI9.out HB1.out HB1.out.size) (In.ofC HI10.out HB1.out HB1.out.size) l5 l7 l8 l9 l10 HP.out.1 HP.out.2).mono ?_
  rintro e w2 ⟨u, rfl, h1, h2⟩
  have HR := Aside0.mk h1
  have HE := Aside0.mk h2
  clear h1 h2
  go_wp2
  go_ret2
  exact ⟨u, rfl, HR.out.lower HB1.out.size, HB1.out.trans (HE.out.mono HB1.out.size)⟩
 ·skip
  go_enter Tryz.func22, Tryz.ntmps22
  go_wp2_with fail
  refine (HC.out _ ?hw).mono ?_
  case hw => repeat (with_reducible first | exact Below.refl _ _ | apply below_drew | apply pw_below_drewN | apply below_alloc)
  rintro e w1 ⟨rfl, hb⟩
  have HB1 := Aside0.mk (show Below w.heap.size w w1 from (below_alloc (Below.refl _ _) _).trans (hb.mono (by simp)))
  clear hb
  have hqb : (q != 0) = true := by simpa using hz
  go_wp2
  go_ret2
  exact ⟨.slice none 0 0, rfl, by first | exact R5.nil _ _ | (rw [if_neg hz]; exact R5.nil _ _), HB1.out⟩
end Go.Proofs.YthmkioodkldgbaaGreat.DK
/- wire.reader: fail, take; conditions: those in each theorem. -/
namespace Go.Proofs.YthmkioodkldgbaaGreat.DK
open Go.Proofs.YthmkioodkldgbaaGreat.PD
open Go.RowKit Go.Proofs.YthmkioodkldgbaaGreatW.PrintWords Go.Proofs.YthmkioodkldgbaaGreatW.PrintLast Go.Proofs.YthmkioodkldgbaaGreatW.PrintMore
set_option linter.unusedVariables false
set_option linter.unusedSimpArgs false
set_option maxRecDepth 100000
/-- Where a cut begins. -/
def cutA (A : Option Addr) (c m : Nat) : Option Addr := if c = m then A else A.map (·.add (m * 1))
/-- The first error stays. -/
def bump (e x : Int) : Int := if e = 0 then x else e
theorem bump_0 (x : Int) : bump 0 x = x := rfl
theorem bump_ne {e : Int} (h : ¬ e = 0) (x : Int) : bump e x = e := if_neg h
/-- The reader at block g: l is left, e its error. -/
structure Rdr (b : Nat) (w : World) (g : Nat) (l : List Int) (e : Int) (u : Value) : Prop where
 box : w.heap[g]? = some (.cells #[u, .int .i64 e] 172 (0, 0))
 ge : b ≤ g
 inp : ∃ A c, u = .slice A l.length c ∧ l.length ≤ c ∧ In (Kd.int .u8) b w A l
 bad : e ≠ 0 → l = []
 rng : ∀ x ∈ l, 0 ≤ x ∧ x ≤ 255
namespace Rdr
variable {b : Nat} {w w1 : World} {g : Nat} {l : List Int} {e : Int} {u : Value}
theorem le (h : Rdr b w g l e u) : b ≤ w.heap.size := Nat.le_of_lt (Nat.lt_of_le_of_lt h.ge (blk_lt h.box))
theorem ut {T : List Nat} (h : Rdr b w g l e u) (hu : UT T b w w1) (hT : 172 ∉ T) : Rdr b w1 g l e u := by
 obtain ⟨A, c, hu1, hl, hi⟩ := h.inp
 exact ⟨hu.blk h.box hT, h.ge, ⟨A, c, hu1, hl, hi.ext (hu.below h.le)⟩, h.bad, h.rng⟩
theorem below (h : Rdr b w g l e u) (hb : Below w.heap.size w w1) : Rdr b w1 g l e u := h.ut (UT.of_below [] b hb) (by simp)
/-- Its rest cut, to n behind the beginning. -/
theorem setL (h : Rdr b w g l e u) (n : Nat) (hn : n ≤ l.length) {A : Option Addr} {c : Nat} (hu : u = .slice A l.length c) (hc : l.length ≤ c) : Rdr b (w.setCell ⟨g, 0, none⟩ (.slice (cutA A c n) (l.length - n) (c - n))) g (l.drop n) e (.slice (cutA A c n) (l.length - n) (c - n)) := by
 obtain ⟨A', c', hu1, hl, hi⟩ := h.inp
 rw [hu] at hu1
 injection hu1 with e1 _ e3
 subst e1 e3
 obtain ⟨w0, h0, hC, hb⟩ := hi
 have hU := ((UT.refl [172] b w).set h.box (by simp) h.ge 0 (.slice (cutA A c n) (l.length - n) (c - n))).below h.le
 have hd : (l.drop n).length = l.length - n := List.length_drop
 refine ⟨blk_set h.box, h.ge, ⟨cutA A c n, c - n, by rw [hd], by rw [hd]; omega, ⟨w0, h0, Kd.C_drop hC hn hc, hb.trans (hU.mono h0)⟩⟩, fun he => by rw [h.bad he]; simp, fun x hx => h.rng x (List.mem_of_mem_drop hx)⟩
/-- Failed. -/
theorem fail (h : Rdr b w g l 0 u) (x : Int) : Rdr b ((w.setCell ⟨g, 1, none⟩ (.int .i64 x)).setCell ⟨g, 0, none⟩ (.slice none 0 0)) g [] x (.slice none 0 0) := by
 have h1 := blk_set (i := 1) (v := .int .i64 x) h.box
 obtain ⟨A, c, hu1, hl, w0, h0, hC, hb⟩ := h.inp
 have hU := (((UT.refl [172] b w).set h.box (by simp) h.ge 1 (.int .i64 x)).set h1 (by simp) h.ge 0 (.slice none 0 0)).below h.le
 exact ⟨blk_set h1, h.ge, ⟨none, 0, rfl, Nat.le_refl _, ⟨w0, h0, ⟨rfl, Nat.zero_le _, fun hh => absurd hh (Nat.lt_irrefl _)⟩, hb.trans (hU.mono h0)⟩⟩, fun _ => rfl, fun x hx => by cases hx⟩
end Rdr
/-- The reader stands, behind what kept all else. -/
def RdrP (b : Nat) (w : World) (g : Nat) (l : List Int) (e : Int) (w' : World) : Prop := (∃ u, Rdr b w' g l e u) ∧ UT [172] b w w'
theorem RdrP.drewN {b : Nat} {w : World} {g : Nat} {l : List Int} {e : Int} {w' : World} (h : RdrP b w g l e w') (n : Nat) : RdrP b w g l e (w'.drewN n) := ⟨h.1.imp fun _ h => h.below (pw_below_drewN (Below.refl _ _) n), h.2.drewN n⟩
def Failed (b : Nat) (w : World) (g : Nat) (e : Int) (en : Ending) (w' : World) : Prop := en = .returned (.tuple #[]) ∧ RdrP b w g [] e w'
section
variable {b : Nat} {w : World} {g : Nat} {l : List Int} {e : Int} {u : Value}
set_option maxHeartbeats 4000000 in
theorem rfail_calls (h : Rdr b w g l e u) (x : Int) : Calls Tryz.prog 100 #[.pointer (some ⟨g, 0, none⟩), .int .i64 x] w (Failed b w g (bump e x)) := by
 have m1 := blk_cell h.box 1
 have m0 := blk_cell h.box 0
 have q1 := blk_frozen h.box 1
 have q0 := blk_frozen h.box 0
 simp only [List.getElem?_toArray, List.getElem?_cons_succ, List.getElem?_cons_zero] at m1 m0 q1 q0
 have hblk := blk_lt h.box
 have H := Aside0.mk h
 clear h
 unfold Failed
 by_cases he : e = 0
 ·subst he
  rw [bump_0]
  have h1 := blk_set (i := 1) (v := .int .i64 x) H.out.box
  have hU := ((UT.refl [172] b w).set H.out.box (by simp) H.out.ge 1 (.int .i64 x)).set h1 (by simp) H.out.ge 0 (.slice none 0 0)
  have HP := Aside0.mk (show RdrP b w g [] x _ from ⟨⟨_, H.out.fail x⟩, hU⟩)
  clear h1 hU
  go_enter Tryz.func100, Tryz.ntmps100
  go_wp2
  first | go_end0 | ((try simp only [Exit.inBlock, Exit.then]); refine bodyPost_ret (results_none rfl _ _ _) rfl ?_)
  exact ⟨rfl, HP.out⟩
 ·have hl := H.out.bad he
  rw [bump_ne he]
  subst hl
  have HP := Aside0.mk (show RdrP b w g [] e w from ⟨⟨_, H.out⟩, UT.refl _ _ _⟩)
  have HE := Aside0.mk he
  have heb : decide (e = 0) = false := by simpa using he
  go_enter Tryz.func100, Tryz.ntmps100
  go_wp2
  first | go_end0 | ((try simp only [Exit.inBlock, Exit.then]); refine bodyPost_ret (results_none rfl _ _ _) rfl ?_)
  exact ⟨rfl, HP.out⟩
theorem cut_hn (A : Option Addr) (n c m : Nat) (hm : m ≤ n) (hc : n ≤ c) (W : World) : (Instr.slice 49 (.slice A n c) none (some (.int .i64 (m : Int))) (some (.int .i64 (m : Int)))).run Tryz.prog W = .ok (.slice A m m) W := by
 obtain ⟨i0, hi0, _, hsz, _⟩ := info_parts info5
 have hel : Tryz.prog.elem 49 = 5 := by simp [Program.elem, Tryz.underlying49]
 have hu : Tryz.prog.underlying 49 = some (.slice (Tryz.prog.elem 49)) := by rw [hel]; exact Tryz.underlying49
 rw [Go.run_slice_hm W 49 A n c hu .i64 .i64 (m : Int) (m : Int) (by omega) (by omega) (by omega), hel]
 simp [sizeOf, typeInfo, hi0, hsz, sliced, Result.andThen]
 intro _
 cases A with
 | none => rfl
 | some a => cases a; simp [Addr.add]
theorem cut_n (A : Option Addr) (n c m : Nat) (hm : m ≤ n) (W : World) : (Instr.slice 49 (.slice A n c) (some (.int .i64 (m : Int))) none none).run Tryz.prog W = .ok (.slice (cutA A c m) (n - m) (c - m)) W := by
 obtain ⟨i0, hi0, _, hsz, _⟩ := info_parts info5
 have h := cut_from 49 5 .i64 Tryz.underlying49 hi0 1 hsz A n c (m : Int) (by omega) (by omega) W
 simpa [cutA] using h
/-- What take hands out. -/
def Took (b : Nat) (w : World) (g : Nat) (l : List Int) (e : Int) (m : Nat) (en : Ending) (w' : World) : Prop :=
 if m ≤ l.length then ∃ A, en = .returned (.slice A m m) ∧ In (Kd.int .u8) b w' A (l.take m) ∧ RdrP b w g (l.drop m) e w' else en = .returned (.slice none 0 0) ∧ RdrP b w g [] (bump e 40) w'
set_option maxHeartbeats 4000000 in
theorem rtake_calls (h : Rdr b w g l e u) (m : Nat) : Calls Tryz.prog 134 #[.pointer (some ⟨g, 0, none⟩), .int .i64 m] w (Took b w g l e m) := by
 obtain ⟨A, c, rfl, hlc, hi⟩ := h.inp
 have m0 := blk_cell h.box 0
 have q0 := blk_frozen h.box 0
 simp only [List.getElem?_toArray, List.getElem?_cons_succ, List.getElem?_cons_zero] at m0 q0
 have hblk := blk_lt h.box
 have hlen : l.length ≤ 9223372036854775807 := hi.C.2.1
 unfold Took
 by_cases hm : m ≤ l.length
 ·have hmi : ¬ (m : Int) > (l.length : Int) := by omega
  have c1 := cut_hn A l.length c m hm hlc
  have c2 := cut_n A l.length c m hm
  have h1 := h.setL m hm rfl hlc
  have hU := (UT.refl [172] b w).set h.box (by simp) h.ge 0 (.slice (cutA A c m) (l.length - m) (c - m))
  obtain ⟨w0, hw0, hC, hb⟩ := hi
  have hT := In.ofC (d := Kd.int .u8) (Kd.C_take hC hm) (hb.trans ((hU.below h.le).mono hw0)) hw0
  have HP := Aside0.mk (show RdrP b w g (l.drop m) e _ from ⟨⟨_, h1⟩, hU⟩)
  have HT := Aside0.mk hT
  clear h h1 hU hT hC hb
  simp only [if_pos hm]
  go_enter Tryz.func134, Tryz.ntmps134
  go_wp2
  go_ret
  exact ⟨A, rfl, HT.out, HP.out⟩
 ·have hmi : (m : Int) > (l.length : Int) := by omega
  simp only [if_neg hm]
  have H := Aside0.mk h
  clear h hi
  go_enter Tryz.func134, Tryz.ntmps134
  go_wp2_with fail
  refine (rfail_calls H.out 40).mono ?_
  rintro en w1 ⟨rfl, h1⟩
  have HP := Aside0.mk h1
  clear h1
  go_wp2
  go_ret
  exact ⟨rfl, HP.out⟩
end
end Go.Proofs.YthmkioodkldgbaaGreat.DK
/- wire.reader.number; conditions: those in each theorem. -/
namespace Go.Proofs.YthmkioodkldgbaaGreat.DK
open Go.Proofs.YthmkioodkldgbaaGreat.PD
open Go.RowKit Go.Proofs.YthmkioodkldgbaaGreatW.PrintWords Go.Proofs.YthmkioodkldgbaaGreatW.PrintLast Go.Proofs.YthmkioodkldgbaaGreatW.PrintMore
set_option linter.unusedVariables false
set_option linter.unusedSimpArgs false
set_option maxRecDepth 100000
theorem and127 {c : Int} (h0 : 0 ≤ c) (h1 : c ≤ 255) : bits .and .u8 c 127 = c % 128 := by
 obtain ⟨a, rfl⟩ := Int.eq_ofNat_of_zero_le h0
 have h := (bits_nat .u8 8 (by decide) wraps_u8 a 127 (by omega) (by decide)).1
 rw [show (127 : Int) = ((127 : Nat) : Int) from rfl, h, Nat.and_two_pow_sub_one_eq_mod a 7]
 omega
/-- What number hands out. -/
def Numd (b : Nat) (w : World) (g : Nat) (l : List Int) (e most : Int) (en : Ending) (w' : World) : Prop :=
 match pNum most l with
 | .ok n l' => en = .returned (.int .i64 n) ∧ RdrP b w g l' e w'
 | .bad c => en = .returned (.int .i64 0) ∧ RdrP b w g [] (bump e c) w'
theorem Numd.bad_mk {b : Nat} {w : World} {g : Nat} {l : List Int} {e most c : Int} {w' : World} (hp : pNum most l = .bad c) (h : RdrP b w g [] (bump e c) w') : Numd b w g l e most (.returned (.int .i64 0)) w' := by
 unfold Numd; rw [hp]; exact ⟨rfl, h⟩
theorem Numd.ok_mk {b : Nat} {w : World} {g : Nat} {l l' : List Int} {e most n : Int} {w' : World} (hp : pNum most l = .ok n l') (h : RdrP b w g l' e w') : Numd b w g l e most (.returned (.int .i64 n)) w' := by
 unfold Numd; rw [hp]; exact ⟨rfl, h⟩
def NumL (l : List Int) (nv iv : Value) : Prop := ∃ i : Nat, iv = .int .i64 i ∧ nv = .int .i64 (grps i l) ∧ i ≤ 5 ∧ i ≤ l.length ∧ ∀ (j : Nat) (h : j < l.length), j < i → 128 ≤ l[j]
section
variable {b : Nat} {w : World} {g : Nat} {l : List Int} {e : Int} {u : Value}
set_option maxHeartbeats 8000000 in
theorem rnumber_calls (h : Rdr b w g l e u) (most : Int) : Calls Tryz.prog 101 #[.pointer (some ⟨g, 0, none⟩), .int .i64 most] w (Numd b w g l e most) := by
 obtain ⟨A, c, rfl, hlc, hi⟩ := h.inp
 have m0 := blk_cell h.box 0
 have q0 := blk_frozen h.box 0
 simp only [List.getElem?_toArray, List.getElem?_cons_succ, List.getElem?_cons_zero] at m0 q0
 have hblk := blk_lt h.box
 have hlen : l.length ≤ 9223372036854775807 := hi.C.2.1
 have H := Aside0.mk h
 have HI := Aside0.mk hi
 clear h hi
 go_enter Tryz.func101, Tryz.ntmps101
 go_wp2
 go_loopw [5, 6] (fun nv iv wr => wr = w ∧ NumL l nv iv) (fun _ iv _ => 5 - (intOf iv).toNat)
 case atStart => exact ⟨rfl, 0, rfl, by simp [grps], by omega, by omega, fun j _ hj => by omega⟩
 case round =>
  obtain ⟨rfl, i, rfl, rfl, hi5, hil, hhi⟩ := hrel
  have HH := Aside0.mk hhi
  clear hhi
  by_cases hlt : i < l.length
  ·by_cases h5 : i < 5
   ·obtain ⟨ad, rfl, d0⟩ := HI.out.atInt hlt
    have hr := H.out.rng l[i] (List.getElem_mem hlt)
    generalize hc : l[i] = x at *
    by_cases hx : 128 ≤ x
    ·go_wp2
     go_roundw
     case rel =>
      refine ⟨trivial, i + 1, by simp, ?_, by omega, by omega, fun j hj hji => ?_⟩
      ·have hb := grps_bounds i l
       rw [grps_snoc i l hlt, hc, and127 hr.1 hr.2, w64 (x := x % 128) (by omega) (by omega), or_shl i (by omega) _ _ hb.1 hb.2 (by omega) (by omega)]
      ·by_cases hji' : j < i
       ·exact HH.out j hj hji'
       ·obtain rfl : j = i := by omega
        rw [hc]; exact hx
     case measure => simp [intOf]; omega
    ·have hhg : highs 5 l = i := highs_eq 5 i l hi5 hil HH.out (.inr (.inr ⟨hlt, by rw [hc]; omega⟩))
     have n5 : ¬ (i : Int) = 5 := by omega
     have nl : ¬ (i : Int) = (l.length : Int) := by omega
     by_cases hz : 0 < i ∧ x = 0
     ·obtain ⟨hz1, hz2⟩ := hz
      have hp : pNum most l = .bad 41 := by
       unfold pNum
       simp only [hhg]
       rw [if_neg (by omega), if_neg (by omega), if_pos ⟨hz1, by rw [List.getD_eq_getElem?_getD, List.getElem?_eq_getElem hlt, hc]; exact hz2⟩]
      have hpa := Aside0.mk hp
      clear hp
      go_wp2_with fail
      refine (rfail_calls H.out 41).mono ?_
      rintro en w1 ⟨rfl, h1⟩
      have HP := Aside0.mk h1
      clear h1
      go_wp2
      go_ret
      exact Numd.bad_mk hpa.out HP.out
     ·skip
      have hx7 : x % 128 = x := by omega
      have hb := grps_bounds (i + 1) l
      have hs := grps_snoc i l hlt
      rw [hc, hx7] at hs
      have hb1 := grps_bounds i l
      have ho := or_shl i (by omega) (grps i l) x hb1.1 hb1.2 hr.1 (by omega)
      rw [← hs] at ho
      by_cases hi0 : 0 < i
      ·have hi0i : (i : Int) > 0 := by omega
       have hx0 : ¬ x = 0 := fun hx0 => hz ⟨hi0, hx0⟩
       by_cases hmost : grps (i + 1) l ≤ most
       ·have hp : pNum most l = .ok (grps (i + 1) l) (l.drop (i + 1)) := by
         unfold pNum
         simp only [hhg]
         rw [if_neg (by omega), if_neg (by omega), if_neg (by rw [List.getD_eq_getElem?_getD, List.getElem?_eq_getElem hlt, hc]; exact hz), if_pos hmost]
        have h1 := H.out.setL (i + 1) (by omega) rfl hlc
        have hU := (UT.refl [172] b wr).set H.out.box (by simp) H.out.ge 0 (.slice (cutA (some ad) c (i + 1)) (l.length - (i + 1)) (c - (i + 1)))
        have HP := Aside0.mk (show RdrP b wr g (l.drop (i + 1)) e _ from ⟨⟨_, h1⟩, hU⟩)
        have hpa := Aside0.mk hp
        have c2 : ∀ W : World, (Instr.slice 49 (.slice (some ad) l.length c) (some (.int .i64 ((i : Int) + 1))) none none).run Tryz.prog W = .ok (.slice (cutA (some ad) c (i + 1)) (l.length - (i + 1)) (c - (i + 1))) W := fun W => by have h := cut_n (some ad) l.length c (i + 1) (by omega) W; push_cast at h; exact h
        clear hp h1 hU hs hb hb1
        go_wp2
        go_ret
        exact Numd.ok_mk hpa.out HP.out
       ·have hp : pNum most l = .bad 43 := by
         unfold pNum
         simp only [hhg]
         rw [if_neg (by omega), if_neg (by omega), if_neg (by rw [List.getD_eq_getElem?_getD, List.getElem?_eq_getElem hlt, hc]; exact hz), if_neg hmost]
        have hpa := Aside0.mk hp
        clear hp
        go_wp2_with fail
        refine (rfail_calls H.out 43).mono ?_
        rintro en w1 ⟨rfl, h1⟩
        have HP := Aside0.mk h1
        clear h1
        go_wp2
        go_ret
        exact Numd.bad_mk hpa.out HP.out
      ·have hi0i : ¬ (i : Int) > 0 := by omega
       by_cases hmost : grps (i + 1) l ≤ most
       ·have hp : pNum most l = .ok (grps (i + 1) l) (l.drop (i + 1)) := by
         unfold pNum
         simp only [hhg]
         rw [if_neg (by omega), if_neg (by omega), if_neg (by rw [List.getD_eq_getElem?_getD, List.getElem?_eq_getElem hlt, hc]; exact hz), if_pos hmost]
        have h1 := H.out.setL (i + 1) (by omega) rfl hlc
        have hU := (UT.refl [172] b wr).set H.out.box (by simp) H.out.ge 0 (.slice (cutA (some ad) c (i + 1)) (l.length - (i + 1)) (c - (i + 1)))
        have HP := Aside0.mk (show RdrP b wr g (l.drop (i + 1)) e _ from ⟨⟨_, h1⟩, hU⟩)
        have hpa := Aside0.mk hp
        have c2 : ∀ W : World, (Instr.slice 49 (.slice (some ad) l.length c) (some (.int .i64 ((i : Int) + 1))) none none).run Tryz.prog W = .ok (.slice (cutA (some ad) c (i + 1)) (l.length - (i + 1)) (c - (i + 1))) W := fun W => by have h := cut_n (some ad) l.length c (i + 1) (by omega) W; push_cast at h; exact h
        clear hp h1 hU hs hb hb1
        go_wp2
        go_ret
        exact Numd.ok_mk hpa.out HP.out
       ·have hp : pNum most l = .bad 43 := by
         unfold pNum
         simp only [hhg]
         rw [if_neg (by omega), if_neg (by omega), if_neg (by rw [List.getD_eq_getElem?_getD, List.getElem?_eq_getElem hlt, hc]; exact hz), if_neg hmost]
        have hpa := Aside0.mk hp
        clear hp
        go_wp2_with fail
        refine (rfail_calls H.out 43).mono ?_
        rintro en w1 ⟨rfl, h1⟩
        have HP := Aside0.mk h1
        clear h1
        go_wp2
        go_ret
        exact Numd.bad_mk hpa.out HP.out
   ·have hhg : highs 5 l = i := highs_eq 5 i l hi5 hil HH.out (.inl (by omega))
    have e5 : i = 5 := by omega
    subst e5
    have hpa := Aside0.mk (show pNum most l = .bad 41 by unfold pNum; simp only [hhg]; rw [if_pos trivial])
    go_wp2_with fail
    refine (rfail_calls H.out 41).mono ?_
    rintro en w1 ⟨rfl, h1⟩
    have HP := Aside0.mk h1
    clear h1
    go_wp2
    go_ret
    exact Numd.bad_mk hpa.out HP.out
  ·have hhg : highs 5 l = i := highs_eq 5 i l hi5 hil HH.out (.inr (.inl (by omega)))
   have hir : ¬ (i : Int) < (l.length : Int) := by omega
   have ell : (i : Int) = (l.length : Int) := by omega
   by_cases h5 : i = 5
   ·subst h5
    have hpa := Aside0.mk (show pNum most l = .bad 41 by unfold pNum; simp only [hhg]; rw [if_pos trivial])
    go_wp2_with fail
    refine (rfail_calls H.out 41).mono ?_
    rintro en w1 ⟨rfl, h1⟩
    have HP := Aside0.mk h1
    clear h1
    go_wp2
    go_ret
    exact Numd.bad_mk hpa.out HP.out
   ·have n5 : ¬ (i : Int) = 5 := by omega
    have hpa := Aside0.mk (show pNum most l = .bad 40 by unfold pNum; simp only [hhg]; rw [if_neg h5, if_pos (by omega)])
    go_wp2_with fail
    refine (rfail_calls H.out 40).mono ?_
    rintro en w1 ⟨rfl, h1⟩
    have HP := Aside0.mk h1
    clear h1
    go_wp2
    go_ret
    exact Numd.bad_mk hpa.out HP.out
end
end Go.Proofs.YthmkioodkldgbaaGreat.DK
/- wire.reader.mark, key; conditions: those in each theorem. -/
namespace Go.Proofs.YthmkioodkldgbaaGreat.DK
open Go.Proofs.YthmkioodkldgbaaGreat.PD
open Go.RowKit Go.Proofs.YthmkioodkldgbaaGreatW.PrintWords Go.Proofs.YthmkioodkldgbaaGreatW.PrintLast Go.Proofs.YthmkioodkldgbaaGreatW.PrintMore
set_option linter.unusedVariables false
set_option linter.unusedSimpArgs false
set_option maxRecDepth 100000
/-- A mark. -/
def pMark (m : Int) : List Int → Rd Unit
 | [] => .bad 40
 | c :: l => if c = m then .ok () l else .bad 41
def Marked (b : Nat) (w : World) (g : Nat) (l : List Int) (e m : Int) (en : Ending) (w' : World) : Prop :=
 en = .returned (.tuple #[]) ∧ match pMark m l with
 | .ok _ l' => RdrP b w g l' e w'
 | .bad c => RdrP b w g [] (bump e c) w'
theorem RdrP.trans {b : Nat} {w w1 w2 : World} {g : Nat} {l l' : List Int} {e e' : Int} (h : RdrP b w g l e w1) (k : RdrP b w1 g l' e' w2) : RdrP b w g l' e' w2 := ⟨k.1, h.2.trans k.2⟩
section
variable {b : Nat} {w : World} {g : Nat} {l : List Int} {e : Int} {u : Value}
set_option maxHeartbeats 4000000 in
theorem rmark_calls (h : Rdr b w g l e u) (m : Int) : Calls Tryz.prog 104 #[.pointer (some ⟨g, 0, none⟩), .int .u8 m] w (Marked b w g l e m) := by
 have H := Aside0.mk h
 clear h
 go_enter Tryz.func104, Tryz.ntmps104
 go_wp2_with fail
 refine (rtake_calls H.out 1).mono ?_
 intro en w1 h1
 unfold Took at h1
 cases l with
 | nil =>
  rw [if_neg (by simp)] at h1
  obtain ⟨rfl, h2⟩ := h1
  have HP := Aside0.mk h2
  clear h2
  go_wp2
  first | go_end0 | ((try simp only [Exit.inBlock, Exit.then]); refine bodyPost_ret (results_none rfl _ _ _) rfl ?_)
  exact ⟨rfl, HP.out⟩
 | cons x l =>
  rw [if_pos (by simp)] at h1
  obtain ⟨A, rfl, hi, h2⟩ := h1
  have HP := Aside0.mk h2
  obtain ⟨ad, rfl, d0⟩ := In.atInt (l := [x]) (by simpa using hi) (i := 0) (by simp)
  replace d0 : w1.cell? ad = some (.int .u8 x) := by simpa [Addr.add] using d0
  clear h2 hi
  by_cases hx : x = m
  ·have hxb : (x == m) = true := by simpa using hx
   go_wp2
   first | go_end0 | ((try simp only [Exit.inBlock, Exit.then]); refine bodyPost_ret (results_none rfl _ _ _) rfl ?_)
   exact ⟨rfl, by rw [pMark, if_pos hx]; exact HP.out⟩
  ·have hxb : (x == m) = false := by simpa using hx
   obtain ⟨⟨u1, hr1⟩, hu1⟩ := HP.out
   have HR := Aside0.mk hr1
   clear hr1 hu1
   go_wp2_with fail
   refine (rfail_calls HR.out 41).mono ?_
   rintro en w2 ⟨rfl, h3⟩
   have HQ := Aside0.mk (HP.out.trans h3)
   clear h3
   go_wp2
   first | go_end0 | ((try simp only [Exit.inBlock, Exit.then]); refine bodyPost_ret (results_none rfl _ _ _) rfl ?_)
   exact ⟨rfl, by rw [pMark, if_neg hx]; exact HQ.out⟩
/-- A key. -/
def pKey (l : List Int) : Rd ByteArray := (pNum 12 l).bind fun n l' => (pTake n.toNat l').bind fun xs l'' => .ok (strOfNums xs) l''
def Keyed (b : Nat) (w : World) (g : Nat) (l : List Int) (e : Int) (en : Ending) (w' : World) : Prop :=
 ∃ s, en = .returned (.string s) ∧ match pKey l with
 | .ok k l' => s = k ∧ RdrP b w g l' e w'
 | .bad c => RdrP b w g [] (bump e c) w'
theorem Keyed.ok_mk {w' : World} {k : ByteArray} {l' : List Int} (hp : pKey l = .ok k l') (h : RdrP b w g l' e w') : Keyed b w g l e (.returned (.string k)) w' := ⟨k, rfl, by rw [hp]; exact ⟨rfl, h⟩⟩
theorem Keyed.bad_mk {w' : World} {s : ByteArray} {c : Int} (hp : pKey l = .bad c) (h : RdrP b w g [] (bump e c) w') : Keyed b w g l e (.returned (.string s)) w' := ⟨s, rfl, by rw [hp]; exact h⟩
theorem pNum_pos {most : Int} {l l' : List Int} {n : Int} (h : pNum most l = .ok n l') : 0 ≤ n ∧ n ≤ most := by
 unfold pNum at h
 simp only at h
 split at h
 ·cases h
 split at h
 ·cases h
 split at h
 ·cases h
 split at h
 ·injection h with h1 h2
  subst h1
  exact ⟨(grps_bounds _ _).1, by assumption⟩
 ·cases h
theorem In.conv {w1 : World} {A : Option Addr} {xs : List Int} (h : In (Kd.int .u8) b w1 A xs) : (convert 49 9 (.slice A xs.length xs.length)).run Tryz.prog w1 = .ok (.string (strOfNums xs)) w1 :=
 string_of_reads Tryz.underlying49 Tryz.underlying5 Tryz.underlying9 (Kd.reads_of_C (d := (0 : Int)) h.C)
set_option maxHeartbeats 4000000 in
theorem rkey_calls (h : Rdr b w g l e u) : Calls Tryz.prog 113 #[.pointer (some ⟨g, 0, none⟩)] w (Keyed b w g l e) := by
 have H := Aside0.mk h
 clear h
 go_enter Tryz.func113, Tryz.ntmps113
 go_wp2_with fail
 refine (rnumber_calls H.out 12).mono ?_
 intro en w1 h1
 unfold Numd at h1
 cases hp : pNum 12 l with
 | bad c =>
  rw [hp] at h1
  obtain ⟨rfl, hq⟩ := h1
  have HK := Aside0.mk (show pKey l = .bad c by rw [pKey, hp]; rfl)
  have HP := Aside0.mk hq
  obtain ⟨⟨u1, hr1⟩, hu1⟩ := hq
  have HR := Aside0.mk hr1
  clear hr1 hu1 hp
  go_wp2_with fail
  refine (rtake_calls HR.out 0).mono ?_
  intro en w2 h2
  unfold Took at h2
  rw [if_pos (by simp)] at h2
  obtain ⟨A, rfl, hi, h3⟩ := h2
  have HQ := Aside0.mk (HP.out.trans h3)
  have hcv := hi.conv
  simp only [List.take_nil, List.length_nil] at hcv
  clear hi h3
  go_wp2
  go_ret
  exact Keyed.bad_mk HK.out HQ.out
 | ok n l' =>
  rw [hp] at h1
  obtain ⟨rfl, hq⟩ := h1
  obtain ⟨m, rfl⟩ := Int.eq_ofNat_of_zero_le (pNum_pos hp).1
  have HP := Aside0.mk hq
  obtain ⟨⟨u1, hr1⟩, hu1⟩ := hq
  have HR := Aside0.mk hr1
  clear hr1 hu1
  by_cases hm : m ≤ l'.length
  ·have HK := Aside0.mk (show pKey l = .ok (strOfNums (l'.take m)) (l'.drop m) by rw [pKey, hp]; simp [pTake, Nat.not_lt.2 hm])
   clear hp
   go_wp2_with fail
   refine (rtake_calls HR.out m).mono ?_
   intro en w2 h2
   unfold Took at h2
   rw [if_pos hm] at h2
   obtain ⟨A, rfl, hi, h3⟩ := h2
   have HQ := Aside0.mk (HP.out.trans h3)
   have hcv := hi.conv
   rw [List.length_take, Nat.min_eq_left hm] at hcv
   clear hi h3
   go_wp2
   go_ret
   exact Keyed.ok_mk HK.out HQ.out
  ·have HK := Aside0.mk (show pKey l = .bad 40 by rw [pKey, hp]; simp [pTake, Nat.not_le.1 hm])
   clear hp
   go_wp2_with fail
   refine (rtake_calls HR.out m).mono ?_
   intro en w2 h2
   unfold Took at h2
   rw [if_neg hm] at h2
   obtain ⟨rfl, h3⟩ := h2
   have HQ := Aside0.mk (HP.out.trans h3)
   have hcv := string_of_reads (P := Tryz.prog) (w := w2) (A := none) (n := 0) (c := 0) (xs := []) Tryz.underlying49 Tryz.underlying5 Tryz.underlying9 ⟨rfl, Nat.zero_le _, fun hh => absurd hh (Nat.lt_irrefl _)⟩
   clear h3
   go_wp2
   go_ret
   exact Keyed.bad_mk HK.out HQ.out
end
end Go.Proofs.YthmkioodkldgbaaGreat.DK
