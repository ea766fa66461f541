/- wire.PutRecord, PutState, PutSegment; conditions: those in each theorem. -/
import Derived.Test.YthmkioodkldgbaaQpM18
import Derived.Test.YthmkioodkldgbaaQpM22
namespace Go.Proofs.Ythmkioodkldgbaa.DK
open Go.Proofs.Ythmkioodkldgbaa.PD
open Go.RowKit Go.Proofs.YthmkioodkldgbaaW.PrintWords Go.Proofs.YthmkioodkldgbaaW.PrintLast Go.Proofs.YthmkioodkldgbaaW.PrintMore
set_option linter.unusedVariables false
set_option linter.unusedSimpArgs false
set_option maxRecDepth 100000
theorem flatMap_len {α : Type} (f : α → List Int) (B : Nat) : ∀ l : List α, (∀ x ∈ l, (f x).length ≤ B) → (l.flatMap f).length ≤ l.length * B
 | [], _ => by simp
 | x :: l, h => by
  have h1 := h x (by simp)
  have h2 := flatMap_len f B l (fun y hy => h y (List.mem_cons_of_mem _ hy))
  simp only [List.flatMap_cons, List.length_append, List.length_cons, Nat.succ_mul]
  omega
theorem lst_len {α : Type} (f : α → List Int) (B m : Nat) (l : List α) (hm : l.length ≤ m) (hm9 : m ≤ 1000000) (h : ∀ x ∈ l, (f x).length ≤ B) : (lst f l).length ≤ 10 + m * B := by
 have h1 := flatMap_len f B l h
 have h2 := grp_len10 (n := (l.length : Int)) (by omega)
 have h3 := Nat.mul_le_mul_right B hm
 unfold lst
 simp only [List.length_append]
 omega
theorem keyB_len {k : ByteArray} (h : k.size ≤ 12) : (keyB k).length ≤ 22 := by
 have h2 := grp_len10 (n := (k.size : Int)) (by omega)
 unfold keyB
 simp only [List.length_append, bytesOf_length]
 omega
theorem loopsC_ok : ∀ {l : List Int}, loopsC l = 0 → ∀ n ∈ l, 0 ≤ n ∧ n ≤ 9
 | [], _, n, hn => by simp at hn
 | m :: l, h, n, hn => by
  rw [loopsC] at h
  split at h
  ·simp at h
  ·rcases List.mem_cons.1 hn with rfl | hn
   ·omega
   ·exact loopsC_ok h n hn
theorem recC_ok {x : S28} (ho : okS x.f1) (h : recC x = 0) : okRec x ∧ (encR x).length ≤ 1000 := by
 unfold recC at h
 split at h
 ·simp at h
 split at h
 ·rename_i h1 h2; exact absurd h h2
 split at h
 ·simp at h
 rename_i h1 h2 h3
 have hv : okV x.f1 := ⟨ho, by omega⟩
 have hlp := loopsC_ok h
 refine ⟨⟨by omega, hv, fun n hn => ?_⟩, ?_⟩
 ·have := hlp n hn
  omega
 ·have a := keyB_len (k := x.f0) (by omega)
  have b := okV_len hv
  have c := lst_len grp 10 3 x.f2 (by omega) (by omega) (fun n hn => grp_len10 (by have := hlp n hn; omega))
  unfold encR
  simp only [List.length_append]
  omega
theorem valsC_ok : ∀ {l : List S25}, okL l → valsC l = 0 → ∀ v ∈ l, okV v
 | [], _, _, v, hv => by simp at hv
 | x :: l, ho, h, v, hv => by
  rw [valsC] at h
  rw [okL] at ho
  split at h
  ·rename_i hz
   rcases List.mem_cons.1 hv with rfl | hv
   ·exact ⟨ho.1, hz⟩
   ·exact valsC_ok ho.2 h v hv
  ·rename_i hz; exact absurd h hz
theorem cellsL_cons' (q : Option ByteArray) (x : S121) (l : List S121) : ∃ b : Bool, cellsL q (x :: l) = if 12 < x.f0.size then 24 else if b = true then 27 else if 6 < x.f1.length then 27 else if valsC x.f1 = 0 then cellsL (some x.f0) l else valsC x.f1 := ⟨_, cellsL_cons q x l⟩
theorem goneL_cons' (q : Option ByteArray) (x : ByteArray) (l : List ByteArray) : ∃ b : Bool, goneL q (x :: l) = if 12 < x.size then 24 else if b = true then 42 else goneL (some x) l := ⟨_, goneL_cons q x l⟩
theorem cellsL_ok : ∀ {l : List S121} {q : Option ByteArray}, (∀ x ∈ l, okL x.f1) → cellsL q l = 0 → ∀ x ∈ l, okCell x ∧ (encC x).length ≤ 2000
 | [], q, _, _, x, hx => by simp at hx
 | y :: l, q, ho, h, x, hx => by
  obtain ⟨bb, hbb⟩ := cellsL_cons' q y l
  rw [hbb] at h
  split at h
  ·simp at h
  split at h
  ·simp at h
  split at h
  ·simp at h
  split at h
  ·rename_i h1 h2 h3 h4
   rcases List.mem_cons.1 hx with rfl | hx
   ·have hv := valsC_ok (ho x (by simp)) h4
    refine ⟨⟨by omega, hv⟩, ?_⟩
    have a := keyB_len (k := x.f0) (by omega)
    have c := lst_len encM 312 6 x.f1 (by omega) (by omega) (fun v hv' => okV_len (hv v hv'))
    unfold encC
    simp only [List.length_append]
    omega
   ·exact cellsL_ok (fun z hz => ho z (List.mem_cons_of_mem _ hz)) h x hx
  ·rename_i h1 h2 h3 h4; exact absurd h h4
theorem stateC_ok {n : Int} {l : List S121} (ho : ∀ x ∈ l, okL x.f1) (h : stateC n l = 0) : (0 ≤ n ∧ n ≤ 1073741824) ∧ l.length ≤ 64 ∧ (∀ x ∈ l, okCell x) ∧ (lst encC l).length ≤ 200000 ∧ (encSt n l).length ≤ 200000 := by
 unfold stateC at h
 split at h
 ·simp at h
 split at h
 ·simp at h
 rename_i h1 h2
 have hc := cellsL_ok ho h
 have c := lst_len encC 2000 64 l (by omega) (by omega) (fun v hv' => (hc v hv').2)
 have g := grp_len10 (n := n) (by omega)
 refine ⟨by omega, by omega, fun x hx => (hc x hx).1, by omega, ?_⟩
 unfold encSt
 simp only [List.length_append]
 omega
theorem goneL_ok : ∀ {l : List ByteArray} {q : Option ByteArray}, goneL q l = 0 → ∀ x ∈ l, x.size ≤ 12
 | [], q, _, x, hx => by simp at hx
 | y :: l, q, h, x, hx => by
  obtain ⟨bb, hbb⟩ := goneL_cons' q y l
  rw [hbb] at h
  split at h
  ·simp at h
  split at h
  ·simp at h
  rename_i h1 h2
  rcases List.mem_cons.1 hx with rfl | hx
  ·omega
  ·exact goneL_ok h x hx
theorem recsL_ok : ∀ {l : List S28}, (∀ x ∈ l, okS x.f1) → recsL l = 0 → ∀ x ∈ l, okRec x ∧ (encR x).length ≤ 1000
 | [], _, _, x, hx => by simp at hx
 | y :: l, ho, h, x, hx => by
  rw [recsL] at h
  split at h
  ·rename_i h1
   rcases List.mem_cons.1 hx with rfl | hx
   ·exact recC_ok (ho x (by simp)) h1
   ·exact recsL_ok (fun z hz => ho z (List.mem_cons_of_mem _ hz)) h x hx
  ·rename_i h1; exact absurd h h1
theorem recsC_ok {l : List S28} (ho : ∀ x ∈ l, okS x.f1) (h : recsC l = 0) : (∀ x ∈ l, okRec x) ∧ (lst encR l).length ≤ 300000 := by
 unfold recsC at h
 split at h
 ·simp at h
 rename_i h1
 have hr := recsL_ok ho h
 have c := lst_len encR 1000 256 l (by omega) (by omega) (fun v hv' => (hr v hv').2)
 exact ⟨fun x hx => (hr x hx).1, by omega⟩
theorem logsL_ok : ∀ {l : List (List S28)} {p : List S28}, (∀ y ∈ l, ∀ x ∈ y, okS x.f1) → (∀ x ∈ p, okS x.f1) → logsL l p = 0 → (∀ y ∈ l, (∀ x ∈ y, okRec x) ∧ (lst encR y).length ≤ 300000) ∧ (∀ x ∈ p, okRec x) ∧ (lst encR p).length ≤ 300000
 | [], p, _, hp, h => by
  rw [logsL] at h
  exact ⟨fun y hy => by simp at hy, recsC_ok hp h⟩
 | y :: l, p, ho, hp, h => by
  rw [logsL] at h
  split at h
  ·rename_i h1
   have ih := logsL_ok (fun z hz => ho z (List.mem_cons_of_mem _ hz)) hp h
   refine ⟨fun z hz => ?_, ih.2⟩
   rcases List.mem_cons.1 hz with rfl | hz
   ·exact recsC_ok (ho z (by simp)) h1
   ·exact ih.1 z hz
  ·rename_i h1; exact absurd h h1
/-- Its whole numbers are such. -/
structure Seg.Ok (s : Seg) : Prop where
 sum : 0 ≤ s.sum ∧ s.sum ≤ 4294967295
 cells : ∀ x ∈ s.cells, okL x.f1
 set : ∀ x ∈ s.set, okL x.f1
 logs : ∀ y ∈ s.logs, ∀ x ∈ y, okS x.f1
 pend : ∀ x ∈ s.pend, okS x.f1
theorem segC_ok {s : Seg} (ho : s.Ok) (h : segC s = 0) : okSeg s ∧ (encSeg s).length ≤ 140737488355328 := by
 unfold segC at h
 split at h
 ·simp at h
 split at h
 ·simp at h
 split at h
 ·rename_i h1 h2 h3
  unfold logsC at h
  split at h
  ·simp at h
  rename_i h4
  have hl := logsL_ok ho.logs ho.pend h
  have cl := lst_len (lst encR) 300000 4 s.logs (by omega) (by omega) (fun y hy => (hl.1 y hy).2)
  have g1 := grp_len10 (n := s.id) (by omega)
  have g2 := grp_len10 (n := s.task) (by omega)
  have g3 := grp_len10 (n := s.base) (by omega)
  unfold bodyC at h3
  by_cases hz : s.base = 0
  ·rw [if_pos hz] at h3
   have hst := stateC_ok ho.cells h3
   refine ⟨⟨by omega, by omega, by omega, ho.sum, fun _ => hst.1, fun _ => hst.2.2.1, fun h => absurd hz h, fun h => absurd hz h, fun h => absurd hz h, fun l hl' => (hl.1 l hl').1, hl.2.1⟩, ?_⟩
   unfold encSeg encFront encLogs
   rw [if_pos hz]
   simp only [List.length_append, List.length_cons]
   omega
  ·rw [if_neg hz] at h3
   split at h3
   ·rename_i h5
    have hst := stateC_ok ho.set h5
    unfold goneC at h3
    split at h3
    ·simp at h3
    rename_i h6
    have hg := goneL_ok h3
    have cg := lst_len keyB 22 64 s.gone (by omega) (by omega) (fun y hy => keyB_len (hg y hy))
    have g4 := grp_len10 (n := s.dnum) (by omega)
    refine ⟨⟨by omega, by omega, by omega, ho.sum, fun h => absurd h hz, fun h => absurd h hz, fun _ => hst.1, fun _ => hst.2.2.1, fun _ x hx => by have := hg x hx; omega, fun l hl' => (hl.1 l hl').1, hl.2.1⟩, ?_⟩
    unfold encSeg encFront encLogs encDelta word
    rw [if_neg hz]
    simp only [List.length_append, List.length_cons, List.length_nil]
    omega
   ·rename_i h5; exact absurd h3 h5
 ·rename_i h1 h2 h3; exact absurd h h3
/-- What a Put answers: the first fault; the bytes, where there is none. -/
def Put (w : World) (r : Int) (zs : List Int) (e : Ending) (w' : World) : Prop := ∃ u, e = .returned (.tuple #[u, .int .i64 r]) ∧ R5 w.heap.size w' u (if r = 0 then zs else []) ∧ Below w.heap.size w w'
theorem In.ofC {α : Type} {d : Kd α} {w0 w : World} {A : Option Addr} {l : List α} (h : d.C w0 A l.length l) (hb : Below w0.heap.size w0 w) {b : Nat} (hB : w0.heap.size ≤ b) : In d b w A l := ⟨w0, hB, h, hb⟩
set_option maxHeartbeats 4000000 in
theorem PutRecord_calls (w : World) (x : S28) (A4 : Option Addr) (c4 : Nat) (A5 : Option Addr) (c5 : Nat) (h4 : k25.C w A4 x.f1.f3.length x.f1.f3) (l4 : x.f1.f3.length ≤ c4) (h5 : (Kd.int .i64).C w A5 x.f2.length x.f2) (l5 : x.f2.length ≤ c5) (ho : okS x.f1) :
  Calls Try.prog 41 #[.agg #[.string x.f0, .int .i64 x.f1.f0, .int .i64 x.f1.f1, .string x.f1.f2, .slice A4 x.f1.f3.length c4, .slice A5 x.f2.length c5]] w (Put w (recC x) (encR x)) := by
 have HC := Aside0.mk (fun (W : World) (hb : Below w.heap.size w W) => (vrec x h5.2.1).rounds.elim (fun k hk => value_CheckRecord.calls k x.f0 x.f1.f0 x.f1.f1 x.f1.f2 A4 c4 x.f1.f3 A5 c5 x.f2 (recC x) W (Kd.C_below h4 hb) l4 (Kd.C_below h5 hb) l5 hk))
 have HI4 := Aside0.mk h4
 have HI5 := Aside0.mk h5
 have HO := Aside0.mk ho
 clear h4 h5 ho
 unfold Put
 generalize hq : (recC x) = q at HC ⊢
 have HQ := Aside0.mk hq
 clear hq
 by_cases hz : q = 0
 ·subst hz
  simp only [if_pos]
  have HP := Aside0.mk (recC_ok HO.out HQ.out)
  go_enter Try.func41, Try.ntmps41
  go_wp2_with fail
  refine (HC.out _ ?hw).mono ?_
  case hw => repeat (with_reducible first | exact Below.refl _ _ | apply below_drew | apply pw_below_drewN | apply below_alloc)
  rintro e w1 ⟨rfl, hb⟩
  have HB1 := Aside0.mk (show Below w.heap.size w w1 from (below_alloc (Below.refl _ _) _).trans (hb.mono (by simp)))
  have HB := Aside0.mk ((hb.block w.heap.size (by simp)).trans (heap_alloc_new w (.cells #[.string x.f0, .int .i64 x.f1.f0, .int .i64 x.f1.f1, .string x.f1.f2, .slice A4 x.f1.f3.length c4, .slice A5 x.f2.length c5] 28)))
  clear hb
  have n0_0 := blk_cell HB.out 0
  have n0_1 := blk_cell HB.out 1
  have n0_2 := blk_cell HB.out 2
  have n0_3 := blk_cell HB.out 3
  have n0_4 := blk_cell HB.out 4
  have n0_5 := blk_cell HB.out 5
  simp only [List.getElem?_toArray, List.getElem?_cons_succ, List.getElem?_cons_zero] at n0_0 n0_1 n0_2 n0_3 n0_4 n0_5
  go_wp2_with fail
  refine (putRecord_calls w.heap.size _ (.slice none 0 0) [] x A4 c4 A5 c5 (R5.nil _ _) HB1.out.size (In.ofC HI4.out HB1.out (Nat.le_refl _)) l4 (In.ofC HI5.out HB1.out (Nat.le_refl _)) l5 HP.out.1 (by rw [List.nil_append]; have := HP.out.2; omega)).mono ?_
  rintro e w2 ⟨u, rfl, h1, h2⟩
  have HR := Aside0.mk h1
  have HE := Aside0.mk h2
  clear h1 h2
  go_wp2
  go_ret2
  exact ⟨u, rfl, HR.out, HB1.out.trans (HE.out.below HB1.out.size)⟩
 ·skip
  go_enter Try.func41, Try.ntmps41
  go_wp2_with fail
  refine (HC.out _ ?hw).mono ?_
  case hw => repeat (with_reducible first | exact Below.refl _ _ | apply below_drew | apply pw_below_drewN | apply below_alloc)
  rintro e w1 ⟨rfl, hb⟩
  have HB1 := Aside0.mk (show Below w.heap.size w w1 from (below_alloc (Below.refl _ _) _).trans (hb.mono (by simp)))
  clear hb
  have hqb : (q != 0) = true := by simpa using hz
  go_wp2
  go_ret2
  exact ⟨.slice none 0 0, rfl, by first | exact R5.nil _ _ | (rw [if_neg hz]; exact R5.nil _ _), HB1.out⟩
set_option maxHeartbeats 4000000 in
theorem PutState_calls (w : World) (n : Int) (l : List S121) (A : Option Addr) (c : Nat) (h1 : k121.C w A l.length l) (l1 : l.length ≤ c) (hx : ∀ x ∈ l, x.f1.length ≤ 9223372036854775807) (ho : ∀ x ∈ l, okL x.f1) :
  Calls Try.prog 37 #[.agg #[.int .i64 n, .slice A l.length c]] w (Put w (stateC n l) (encSt n l)) := by
 have HC := Aside0.mk (fun (W : World) (hb : Below w.heap.size w W) => (vstate n l h1.2.1 hx).rounds.elim (fun k hk => value_CheckState.calls k n A c l (stateC n l) W (Kd.C_below h1 hb) l1 hk))
 have HI1 := Aside0.mk h1
 have HX := Aside0.mk hx
 have HO := Aside0.mk ho
 clear h1 hx ho
 unfold Put
 generalize hq : (stateC n l) = q at HC ⊢
 have HQ := Aside0.mk hq
 clear hq
 by_cases hz : q = 0
 ·subst hz
  simp only [if_pos]
  have HP := Aside0.mk (stateC_ok HO.out HQ.out)
  go_enter Try.func37, Try.ntmps37
  go_wp2_with fail
  refine (HC.out _ ?hw).mono ?_
  case hw => repeat (with_reducible first | exact Below.refl _ _ | apply below_drew | apply pw_below_drewN | apply below_alloc)
  rintro e w1 ⟨rfl, hb⟩
  have HB1 := Aside0.mk (show Below w.heap.size w w1 from (below_alloc (Below.refl _ _) _).trans (hb.mono (by simp)))
  have HB := Aside0.mk ((hb.block w.heap.size (by simp)).trans (heap_alloc_new w (.cells #[.int .i64 n, .slice A l.length c] 31)))
  clear hb
  have n0_0 := blk_cell HB.out 0
  have n0_1 := blk_cell HB.out 1
  simp only [List.getElem?_toArray, List.getElem?_cons_succ, List.getElem?_cons_zero] at n0_0 n0_1
  go_wp2_with fail
  refine (putState_calls w.heap.size _ (.slice none 0 0) [] n l A c (R5.nil _ _) HB1.out.size (In.ofC HI1.out HB1.out (Nat.le_refl _)) l1 HP.out.1.1 (by have := HP.out.1.2; omega) HP.out.2.2.1 (by rw [List.nil_append]; have := HP.out.2.2.2.2; omega)).mono ?_
  rintro e w2 ⟨u, rfl, h1, h2⟩
  have HR := Aside0.mk h1
  have HE := Aside0.mk h2
  clear h1 h2
  go_wp2
  go_ret2
  exact ⟨u, rfl, HR.out, HB1.out.trans (HE.out.below HB1.out.size)⟩
 ·skip
  go_enter Try.func37, Try.ntmps37
  go_wp2_with fail
  refine (HC.out _ ?hw).mono ?_
  case hw => repeat (with_reducible first | exact Below.refl _ _ | apply below_drew | apply pw_below_drewN | apply below_alloc)
  rintro e w1 ⟨rfl, hb⟩
  have HB1 := Aside0.mk (show Below w.heap.size w w1 from (below_alloc (Below.refl _ _) _).trans (hb.mono (by simp)))
  clear hb
  have hqb : (q != 0) = true := by simpa using hz
  go_wp2
  go_ret2
  exact ⟨.slice none 0 0, rfl, by first | exact R5.nil _ _ | (rw [if_neg hz]; exact R5.nil _ _), HB1.out⟩
set_option maxHeartbeats 4000000 in
theorem PutSegment_calls (w : World) (s : Seg) (A5 A7 A8 A9 A10 : Option Addr) (c5 c7 c8 c9 c10 : Nat) (h5 : k121.C w A5 s.cells.length s.cells) (h7 : k121.C w A7 s.set.length s.set) (h8 : Kd.string.C w A8 s.gone.length s.gone) (h9 : (Kd.slice 28 k28).C w A9 s.logs.length s.logs) (h10 : k28.C w A10 s.pend.length s.pend) (l5 : s.cells.length ≤ c5) (l7 : s.set.length ≤ c7) (l8 : s.gone.length ≤ c8) (l9 : s.logs.length ≤ c9) (l10 : s.pend.length ≤ c10) (hs : s.Short) (ho : s.Ok) :
  Calls Try.prog 38 #[.agg #[.int .i64 s.id, .int .i64 s.task, .int .i64 s.base, .int .u32 s.sum, .int .i64 s.snum, .slice A5 s.cells.length c5, .int .i64 s.dnum, .slice A7 s.set.length c7, .slice A8 s.gone.length c8, .slice A9 s.logs.length c9, .slice A10 s.pend.length c10]] w (Put w (segC s) (encSeg s)) := by
 have HC := Aside0.mk (fun (W : World) (hb : Below w.heap.size w W) => (vseg s hs).rounds.elim (fun k hk => wire_fitSegment.calls k s.id s.task s.base s.sum s.snum A5 c5 s.cells s.dnum A7 c7 s.set A8 c8 s.gone A9 c9 s.logs A10 c10 s.pend (segC s) W (Kd.C_below h5 hb) l5 (Kd.C_below h7 hb) l7 (Kd.C_below h8 hb) l8 (Kd.C_below h9 hb) l9 (Kd.C_below h10 hb) l10 hk))
 have HI5 := Aside0.mk h5
 have HI7 := Aside0.mk h7
 have HI8 := Aside0.mk h8
 have HI9 := Aside0.mk h9
 have HI10 := Aside0.mk h10
 have HX := Aside0.mk hs
 have HO := Aside0.mk ho
 clear h5 h7 h8 h9 h10 hs ho
 unfold Put
 generalize hq : (segC s) = q at HC ⊢
 have HQ := Aside0.mk hq
 clear hq
 by_cases hz : q = 0
 ·subst hz
  simp only [if_pos]
  have HP := Aside0.mk (segC_ok HO.out HQ.out)
  go_enter Try.func38, Try.ntmps38
  go_wp2_with fail
  refine (HC.out _ ?hw).mono ?_
  case hw => repeat (with_reducible first | exact Below.refl _ _ | apply below_drew | apply pw_below_drewN | apply below_alloc)
  rintro e w1 ⟨rfl, hb⟩
  have HB1 := Aside0.mk (show Below w.heap.size w w1 from (below_alloc (Below.refl _ _) _).trans (hb.mono (by simp)))
  have HB := Aside0.mk ((hb.block w.heap.size (by simp)).trans (heap_alloc_new w (.cells #[.int .i64 s.id, .int .i64 s.task, .int .i64 s.base, .int .u32 s.sum, .int .i64 s.snum, .slice A5 s.cells.length c5, .int .i64 s.dnum, .slice A7 s.set.length c7, .slice A8 s.gone.length c8, .slice A9 s.logs.length c9, .slice A10 s.pend.length c10] 39)))
  clear hb
  have n0_0 := blk_cell HB.out 0
  have n0_1 := blk_cell HB.out 1
  have n0_2 := blk_cell HB.out 2
  have n0_3 := blk_cell HB.out 3
  have n0_4 := blk_cell HB.out 4
  have n0_5 := blk_cell HB.out 5
  have n0_6 := blk_cell HB.out 6
  have n0_7 := blk_cell HB.out 7
  have n0_8 := blk_cell HB.out 8
  have n0_9 := blk_cell HB.out 9
  have n0_10 := blk_cell HB.out 10
  simp only [List.getElem?_toArray, List.getElem?_cons_succ, List.getElem?_cons_zero] at n0_0 n0_1 n0_2 n0_3 n0_4 n0_5 n0_6 n0_7 n0_8 n0_9 n0_10
  go_wp2_with fail
  refine (putSegment_calls _ s A5 A7 A8 A9 A10 c5 c7 c8 c9 c10 (In.ofC HI5.out HB1.out HB1.out.size) (In.ofC HI7.out HB1.out HB1.out.size) (In.ofC HI8.out HB1.out HB1.out.size) (In.ofC HI9.out HB1.out HB1.out.size) (In.ofC HI10.out HB1.out HB1.out.size) l5 l7 l8 l9 l10 HP.out.1 HP.out.2).mono ?_
  rintro e w2 ⟨u, rfl, h1, h2⟩
  have HR := Aside0.mk h1
  have HE := Aside0.mk h2
  clear h1 h2
  go_wp2
  go_ret2
  exact ⟨u, rfl, HR.out.lower HB1.out.size, HB1.out.trans (HE.out.mono HB1.out.size)⟩
 ·skip
  go_enter Try.func38, Try.ntmps38
  go_wp2_with fail
  refine (HC.out _ ?hw).mono ?_
  case hw => repeat (with_reducible first | exact Below.refl _ _ | apply below_drew | apply pw_below_drewN | apply below_alloc)
  rintro e w1 ⟨rfl, hb⟩
  have HB1 := Aside0.mk (show Below w.heap.size w w1 from (below_alloc (Below.refl _ _) _).trans (hb.mono (by simp)))
  clear hb
  have hqb : (q != 0) = true := by simpa using hz
  go_wp2
  go_ret2
  exact ⟨.slice none 0 0, rfl, by first | exact R5.nil _ _ | (rw [if_neg hz]; exact R5.nil _ _), HB1.out⟩
end Go.Proofs.Ythmkioodkldgbaa.DK
/- eddyref4.Bag.addRecords, addCells; conditions: those in each theorem. -/
namespace Go.Proofs.Ythmkioodkldgbaa.DK
open Go.Proofs.Ythmkioodkldgbaa.PD
open Go.RowKit Go.Proofs.YthmkioodkldgbaaW.PrintWords Go.Proofs.YthmkioodkldgbaaW.PrintLast Go.Proofs.YthmkioodkldgbaaW.PrintMore
set_option linter.unusedVariables false
set_option linter.unusedSimpArgs false
set_option maxRecDepth 100000
/-- The worlds in which what came in reads on. -/
abbrev RelB (w0 : World) : World → Prop := fun W => Below w0.heap.size w0 W
def recN (x : S28) : List Int := [(x.f2.length : Int)] ++ x.f2
def cellN (x : S121) : List Int := [(x.f1.length : Int)]
theorem rel_reads {w0 W : World} {A : Option Addr} {l : List S25} (h : k25.C w0 A l.length l) (hb : Below w0.heap.size w0 W) (b : Nat) : ReadsRow ((kRel (RelB w0)).M W b (fun _ => False)) (kRel (RelB w0)).sz W A l.length l :=
 ⟨h.1, h.2.1, fun hn => by
  obtain ⟨ad, e, hc⟩ := h.2.2 hn
  refine ⟨ad, e, fun j p hj => ?_⟩
  obtain ⟨c, hs, hr, hcell⟩ := hc j p hj
  obtain ⟨A3, c3, rfl, l3, g3⟩ := k25_open hr
  exact ⟨_, hs, ⟨A3, c3, rfl, l3, fun W' hW' => Kd.C_below g3 hW'⟩, fun i u hu => pw_cell_below hb (hcell i u hu)⟩⟩
structure AddI (w0 : World) (b : Nat) (w : World) (g : Nat) (i j k : Int) (N : List Int) (K : List ByteArray) (V : List S25) (m q : Nat) (ns tn : List Int) (ks tk : List ByteArray) (vs tv : List S25) (wr : World) : Prop where
 le : q ≤ m
 bag : BagX (RelB w0) b wr g ns ks vs i j k
 up : UT [101, 3, 9, 25] b w wr
 n : ns ++ tn = N
 k : ks ++ tk = K
 v : vs ++ tv = V
def addRecordsE (w0 : World) (b : Nat) (w : World) (g : Nat) (i j k : Int) (N : List Int) (K : List ByteArray) (V : List S25) (l : List S28) (qv : Value) (wr : World) : Prop := ∃ (q : Nat) (ns : List Int) (ks : List ByteArray) (vs : List S25), qv = .int .i64 q ∧ AddI w0 b w g i j k N K V l.length q ns ((l.drop q).flatMap recN) ks ((l.drop q).map (fun x => x.f0)) vs ((l.drop q).map (fun x => x.f1)) wr
set_option maxHeartbeats 16000000 in
theorem addRecords_calls (w0 : World) (b : Nat) (w : World) (g : Nat) (ns : List Int) (ks : List ByteArray) (vs : List S25) (i j k : Int) (l : List S28) (A : Option Addr) (c : Nat) (hbag : BagX (RelB w0) b w g ns ks vs i j k) (hb : b ≤ w.heap.size) (h0 : w0.heap.size ≤ b) (hl : k28.C w0 A l.length l) (hw : Below w0.heap.size w0 w) (hn : (ns ++ [(l.length : Int)] ++ l.flatMap recN).length ≤ 1099511627776) (hk : (ks ++ l.map (fun x => x.f0)).length ≤ 1099511627776) (hv : (vs ++ l.map (fun x => x.f1)).length ≤ 1099511627776) :
  Calls Try.prog 72 #[.pointer (some ⟨g, 0, none⟩), .slice A l.length c] w fun e w' => e = .returned (.tuple #[]) ∧ BagX (RelB w0) b w' g (ns ++ [(l.length : Int)] ++ l.flatMap recN) (ks ++ l.map (fun x => x.f0)) (vs ++ l.map (fun x => x.f1)) i j k ∧ UT [101, 3, 9, 25] b w w' := by
 obtain ⟨un, uk, uv, hbag⟩ := hbag
 have hln : l.length ≤ 9223372036854775807 := hl.2.1
 have m0 := blk_cell hbag.box 0
 have q0 := blk_frozen hbag.box 0
 simp only [List.getElem?_toArray, List.getElem?_cons_succ, List.getElem?_cons_zero] at m0 q0
 have hgl := blk_lt hbag.box
 have HBG := Aside0.mk hbag
 have HL := Aside0.mk hl
 have HW := Aside0.mk hw
 have HN := Aside0.mk hn
 have HK := Aside0.mk hk
 have HV := Aside0.mk hv
 have hnl : (ns.length + 1) * 8 ≤ 140737488355328 := by have h := hn; simp only [List.length_append, List.length_singleton] at h; omega
 clear hbag hl hw hn hk hv
 go_enter Try.func72, Try.ntmps72
 go_wp2_with (at_builtin; refine appK1 (flat_int .i64) rfl (.tmp 9) (.tmp 12) 26 3 (.int .i64 0) 8 rfl Try.underlying26 info3 rfl (by decide) (by decide) un ns (l.length : Int) [.int .i64 l.length] rfl w _ (by first | exact ⟨1, rfl⟩ | exact ⟨0, rfl⟩ | exact ⟨2, rfl⟩ | exact ⟨3, rfl⟩) rfl _ (by first | (go_simp; done) | (go_simp; rfl)) (by simp) (fun _ _ _ => rfl) HBG.out.nums hb hnl ?_; intro v1 w1 h1 h2; (obtain ⟨Av, cv, he, -, -⟩ := Kd.R_reads h1); simp only [List.length_append, List.length_singleton] at he; subst he; (have HK1 := Aside0.mk h1); (have HT1 := Aside0.mk h2); (have hgb := h2.blk HBG.out.box (by decide)); (have y0 := blk_cell hgb 0); (have y1 := blk_frozen hgb 0); (simp only [List.getElem?_toArray, List.getElem?_cons_succ, List.getElem?_cons_zero] at y0 y1); (have HGB := Aside0.mk hgb); clear h1 h2 hgb)
 have HBG1 := Aside0.mk (HBG.out.setN HT1.out HK1.out)
 have HU1 := Aside0.mk (((UT.refl [101, 3, 9, 25] b w).trans (HT1.out.mono (by simp))).set HGB.out (by simp) HBG.out.ge 0 (.slice Av (ns.length + 1) cv))
 clear m0 q0 y0 y1
 generalize (w1.setCell ⟨g, 0, none⟩ (.slice Av (ns.length + 1) cv)) = W1 at *
 go_loopw [4] (fun qv wr => addRecordsE w0 b w g i j k (ns ++ [(l.length : Int)] ++ l.flatMap recN) (ks ++ l.map (fun x => x.f0)) (vs ++ l.map (fun x => x.f1)) l qv wr) (fun qv _ => l.length - (intOf qv).toNat)
 case atStart => exact ⟨0, _, _, _, rfl, Nat.zero_le _, ⟨_, _, _, HBG1.out⟩, HU1.out, rfl, rfl, rfl⟩
 case round =>
  obtain ⟨q, ns1, ks1, vs1, rfl, hle, hbag, hup, hn1, hk1, hv1⟩ := hrel
  have HB := Aside0.mk hbag
  have HU := Aside0.mk hup
  have HN1 := Aside0.mk hn1
  have HK1 := Aside0.mk hk1
  have HV1 := Aside0.mk hv1
  have HBL := Aside0.mk (hup.below hb)
  have hbr : b ≤ wr.heap.size := Nat.le_trans hb hup.size
  clear hbag hup hn1 hk1 hv1
  by_cases hlt : q < l.length
  ·have hC := In.ofC HL.out (HW.out.trans (HBL.out.mono h0)) h0
   have hdrop : l.drop q = l[q] :: l.drop (q + 1) := List.drop_eq_getElem_cons hlt
   obtain ⟨w0', hw0', hat⟩ : ∃ w0' : World, w0' = w0 ∧ True := ⟨w0, rfl, trivial⟩
   have hat0 := at_T28 HL.out (q : Int) (by omega) (by omega)
   rw [show rd_T28 l (q : Int) = l[q] from getD_nat l _ q hlt] at hat0
   simp only [Int.toNat_natCast] at hat0
   obtain ⟨ad, A4, c4, A5, c5, rfl, d0, d1, d2, d3, d4, d5, l4, g4, l5, g5⟩ := hat0
   have hbw := HW.out.trans (HBL.out.mono h0)
   replace d0 := pw_cell_below hbw d0
   replace d1 := pw_cell_below hbw d1
   replace d2 := pw_cell_below hbw d2
   replace d3 := pw_cell_below hbw d3
   replace d4 := pw_cell_below hbw d4
   replace d5 := pw_cell_below hbw d5
   have e1 := HN1.out
   have e2 := HK1.out
   have e3 := HV1.out
   rw [hdrop] at e1 e2 e3
   simp only [List.flatMap_cons, List.map_cons] at e1 e2 e3
   have hn2 : ns1.length + 1 + l[q].f2.length ≤ 1099511627776 := by have h := HN.out; rw [← e1] at h; simp only [recN, List.length_append, List.length_singleton] at h; omega
   have hk2 : ks1.length + 1 ≤ 1099511627776 := by have h := HK.out; rw [← e2] at h; simp only [List.length_append, List.length_cons] at h; omega
   have hv2 : vs1.length + 1 ≤ 1099511627776 := by have h := HV.out; rw [← e3] at h; simp only [List.length_append, List.length_cons] at h; omega
   have E1 := Aside0.mk e1
   have E2 := Aside0.mk e2
   have E3 := Aside0.mk e3
   have HX := Aside0.mk (fun (W : World) (hd : Below wr.heap.size wr W) => addRecord_calls (RelB w0) b W g ns1 ks1 vs1 i j k l[q] A4 c4 A5 c5 (by obtain ⟨a1, a2, a3, hh⟩ := HB.out; exact ⟨a1, a2, a3, hh.below hd⟩) (Nat.le_trans hbr hd.size) (fun W' hW' => Kd.C_below g4 hW') l4 (In.ofC g5 (hbw.trans (hd.mono (Nat.le_trans h0 hbr))) h0) l5 hn2 hk2 hv2)
   clear hC hdrop g4 g5 e1 e2 e3 hbw hn2 hk2 hv2 hw0' hat
   generalize l[q] = x at *
   go_wp2_with fail
   refine (HX.out _ ?hw).mono ?_
   case hw => repeat (with_reducible first | exact Below.refl _ _ | apply below_drew | apply pw_below_drewN | apply below_alloc)
   rintro e w5 ⟨rfl, h1, h2⟩
   have HB5 := Aside0.mk h1
   have HU5 := Aside0.mk (HU.out.trans h2)
   clear h1 h2
   go_wp2
   go_roundw
   case rel => exact ⟨q + 1, _, _, _, by simp, by omega, HB5.out, HU5.out, by rw [← E1.out]; simp only [recN, List.append_assoc], by rw [← E2.out]; simp only [List.append_assoc, List.cons_append, List.nil_append], by rw [← E3.out]; simp only [List.append_assoc, List.cons_append, List.nil_append]⟩
   case measure => simp [intOf]; omega
  ·have hi : q = l.length := by omega
   have hir : ¬ (q : Int) < (l.length : Int) := by omega
   have e1 := HN1.out
   have e2 := HK1.out
   have e3 := HV1.out
   rw [hi, List.drop_length] at e1 e2 e3
   simp only [List.flatMap_nil, List.map_nil, List.append_nil] at e1 e2 e3
   have E1 := Aside0.mk e1
   have E2 := Aside0.mk e2
   have E3 := Aside0.mk e3
   clear e1 e2 e3 hi
   go_wp2
   first | go_end0 | ((try simp only [Exit.inBlock, Exit.then]); refine bodyPost_ret (results_none rfl _ _ _) rfl ?_)
   exact ⟨rfl, by have h := HB.out; rw [E1.out, E2.out, E3.out] at h; simpa only [List.append_assoc, List.cons_append, List.nil_append] using h, HU.out⟩
def addCellsE (w0 : World) (b : Nat) (w : World) (g : Nat) (i j k : Int) (N : List Int) (K : List ByteArray) (V : List S25) (l : List S121) (qv : Value) (wr : World) : Prop := ∃ (q : Nat) (ns : List Int) (ks : List ByteArray) (vs : List S25), qv = .int .i64 q ∧ AddI w0 b w g i j k N K V l.length q ns ((l.drop q).flatMap cellN) ks ((l.drop q).map (fun x => x.f0)) vs ((l.drop q).flatMap (fun x => x.f1)) wr
set_option maxHeartbeats 16000000 in
theorem addCells_calls (w0 : World) (b : Nat) (w : World) (g : Nat) (ns : List Int) (ks : List ByteArray) (vs : List S25) (i j k : Int) (l : List S121) (A : Option Addr) (c : Nat) (hbag : BagX (RelB w0) b w g ns ks vs i j k) (hb : b ≤ w.heap.size) (h0 : w0.heap.size ≤ b) (hl : k121.C w0 A l.length l) (hw : Below w0.heap.size w0 w) (hn : (ns ++ [(l.length : Int)] ++ l.flatMap cellN).length ≤ 1099511627776) (hk : (ks ++ l.map (fun x => x.f0)).length ≤ 1099511627776) (hv : (vs ++ l.flatMap (fun x => x.f1)).length ≤ 1099511627776) :
  Calls Try.prog 69 #[.pointer (some ⟨g, 0, none⟩), .slice A l.length c] w fun e w' => e = .returned (.tuple #[]) ∧ BagX (RelB w0) b w' g (ns ++ [(l.length : Int)] ++ l.flatMap cellN) (ks ++ l.map (fun x => x.f0)) (vs ++ l.flatMap (fun x => x.f1)) i j k ∧ UT [101, 3, 9, 25] b w w' := by
 obtain ⟨un, uk, uv, hbag⟩ := hbag
 have hln : l.length ≤ 9223372036854775807 := hl.2.1
 have m0 := blk_cell hbag.box 0
 have q0 := blk_frozen hbag.box 0
 simp only [List.getElem?_toArray, List.getElem?_cons_succ, List.getElem?_cons_zero] at m0 q0
 have hgl := blk_lt hbag.box
 have HBG := Aside0.mk hbag
 have HL := Aside0.mk hl
 have HW := Aside0.mk hw
 have HN := Aside0.mk hn
 have HK := Aside0.mk hk
 have HV := Aside0.mk hv
 have hnl : (ns.length + 1) * 8 ≤ 140737488355328 := by have h := hn; simp only [List.length_append, List.length_singleton] at h; omega
 clear hbag hl hw hn hk hv
 go_enter Try.func69, Try.ntmps69
 go_wp2_with (at_builtin; refine appK1 (flat_int .i64) rfl (.tmp 9) (.tmp 12) 26 3 (.int .i64 0) 8 rfl Try.underlying26 info3 rfl (by decide) (by decide) un ns (l.length : Int) [.int .i64 l.length] rfl w _ (by first | exact ⟨1, rfl⟩ | exact ⟨0, rfl⟩ | exact ⟨2, rfl⟩ | exact ⟨3, rfl⟩) rfl _ (by first | (go_simp; done) | (go_simp; rfl)) (by simp) (fun _ _ _ => rfl) HBG.out.nums hb hnl ?_; intro v1 w1 h1 h2; (obtain ⟨Av, cv, he, -, -⟩ := Kd.R_reads h1); simp only [List.length_append, List.length_singleton] at he; subst he; (have HK1 := Aside0.mk h1); (have HT1 := Aside0.mk h2); (have hgb := h2.blk HBG.out.box (by decide)); (have y0 := blk_cell hgb 0); (have y1 := blk_frozen hgb 0); (simp only [List.getElem?_toArray, List.getElem?_cons_succ, List.getElem?_cons_zero] at y0 y1); (have HGB := Aside0.mk hgb); clear h1 h2 hgb)
 have HBG1 := Aside0.mk (HBG.out.setN HT1.out HK1.out)
 have HU1 := Aside0.mk (((UT.refl [101, 3, 9, 25] b w).trans (HT1.out.mono (by simp))).set HGB.out (by simp) HBG.out.ge 0 (.slice Av (ns.length + 1) cv))
 clear m0 q0 y0 y1
 generalize (w1.setCell ⟨g, 0, none⟩ (.slice Av (ns.length + 1) cv)) = W1 at *
 go_loopw [4] (fun qv wr => addCellsE w0 b w g i j k (ns ++ [(l.length : Int)] ++ l.flatMap cellN) (ks ++ l.map (fun x => x.f0)) (vs ++ l.flatMap (fun x => x.f1)) l qv wr) (fun qv _ => l.length - (intOf qv).toNat)
 case atStart => exact ⟨0, _, _, _, rfl, Nat.zero_le _, ⟨_, _, _, HBG1.out⟩, HU1.out, rfl, rfl, rfl⟩
 case round =>
  obtain ⟨q, ns1, ks1, vs1, rfl, hle, hbag, hup, hn1, hk1, hv1⟩ := hrel
  have HB := Aside0.mk hbag
  have HU := Aside0.mk hup
  have HN1 := Aside0.mk hn1
  have HK1 := Aside0.mk hk1
  have HV1 := Aside0.mk hv1
  have HBL := Aside0.mk (hup.below hb)
  have hbr : b ≤ wr.heap.size := Nat.le_trans hb hup.size
  clear hbag hup hn1 hk1 hv1
  by_cases hlt : q < l.length
  ·have hdrop : l.drop q = l[q] :: l.drop (q + 1) := List.drop_eq_getElem_cons hlt
   have hat0 := at_T121 HL.out (q : Int) (by omega) (by omega)
   rw [show rd_T121 l (q : Int) = l[q] from getD_nat l _ q hlt] at hat0
   simp only [Int.toNat_natCast] at hat0
   obtain ⟨ad, A1, c1, rfl, d0, d1, l1, g1⟩ := hat0
   have e1 := HN1.out
   have e2 := HK1.out
   have e3 := HV1.out
   rw [hdrop] at e1 e2 e3
   simp only [List.flatMap_cons, List.map_cons] at e1 e2 e3
   have hn2 : ns1.length + 1 ≤ 1099511627776 := by have h := HN.out; rw [← e1] at h; simp only [cellN, List.length_append, List.length_singleton] at h; omega
   have hk2 : ks1.length + 1 ≤ 1099511627776 := by have h := HK.out; rw [← e2] at h; simp only [List.length_append, List.length_cons] at h; omega
   have hv2 : vs1.length + l[q].f1.length ≤ 1099511627776 := by have h := HV.out; rw [← e3] at h; simp only [List.length_append] at h; omega
   have E1 := Aside0.mk e1
   have E2 := Aside0.mk e2
   have E3 := Aside0.mk e3
   have G1 := Aside0.mk g1
   have HWR := Aside0.mk (HW.out.trans (HBL.out.mono h0))
   have CE := Aside0.mk (fun (W : World) (hd : UT [101, 3, 9, 25] b wr W) => (show W.cell? (ad.add (q * 2)) = some (.string l[q].f0) ∧ W.cell? ⟨(ad.add (q * 2)).block, (ad.add (q * 2)).off + 1, none⟩ = some (.slice A1 l[q].f1.length c1) from ⟨pw_cell_below (HWR.out.trans ((hd.below hbr).mono h0)) d0, pw_cell_below (HWR.out.trans ((hd.below hbr).mono h0)) d1⟩))
   clear hdrop g1 e1 e2 e3 d0 d1
   generalize l[q] = x at *
   obtain ⟨un1, uk1, uv1, hB0⟩ := HB.out
   have HBG0 := Aside0.mk hB0
   have HV0 := Aside0.mk (UT.refl [101, 3, 9, 25] b wr)
   have hb0 := hbr
   clear hB0
   go_wp2
   refine start_ (n := 15) (S := fun w' => w'.cell? ⟨g, 1, none⟩ = some uk1 ∧ w'.frozen? ⟨g, 1, none⟩ = false ∧ w'.cell? (ad.add (q * 2)) = some (.string x.f0) ∧ w'.cell? ⟨(ad.add (q * 2)).block, (ad.add (q * 2)).off + 1, none⟩ = some (.slice A1 x.f1.length c1)) (ds := [14]) #[false, false, false, false, false, false, false, false, false, false, false, false, false, false, false] (by kernel_rfl) rfl rfl ⟨(blk_cell HBG0.out.box 1), (blk_frozen HBG0.out.box 1), (CE.out _ HV0.out).1, (CE.out _ HV0.out).2⟩ (fun hHeld => ?_)
   refine zq 0 (some 22) ?_
   refine zq 1 (some 23) ?_
   refine zq 2 (some 24) ?_
   refine zq 3 (some 25) ?_
   refine zq 5 (some 27) ?_
   refine zq 6 (some 28) ?_
   refine zq 7 (some 29) ?_
   refine zq 8 (some 30) ?_
   refine zu 4 (some 26) hHeld ?_
   refine zu 9 (some 31) hHeld ?_
   refine one_ (i := 10) (N := some 32) #[true, true, true, true, true, true, true, true, true, true, true, false, false, false, false] rfl rfl (by kernel_rfl) (by decide) (fun K hK => ?_)
   refine value_ (w1 := ?_) (v := ?_) (by rfl) rfl ?_ ?_
   rotate_left 2
   ·go_simp
    constructor
    ·rfl
    ·rfl
   refine hK.out _ _ ⟨(blk_cell (blk_alloc HBG0.out.box _) 1), (blk_frozen (blk_alloc HBG0.out.box _) 1), (CE.out _ (HV0.out.alloc _)).1, (CE.out _ (HV0.out.alloc _)).2⟩ (fun hHeld => ?_)
   clear hK K
   refine norm_ (a' := ?_) ?_ ?_
   rotate_left
   ·show Act.put _ (some 32) _ = _
    simp only [Act.put, zla, zlb, zlc, i64_w, i32_w]
    rfl
   refine one_ (i := 11) (N := some 33) #[true, true, true, true, true, true, true, true, true, true, true, true, false, false, false] rfl rfl (by kernel_rfl) (by decide) (fun K hK => ?_)
   refine appK1_step flat_string (by rfl) (.tmp 26) (.tmp 32) 33 9 (.string ⟨#[]⟩) 16 rfl Try.underlying33 info9 rfl (by decide) (by decide) uk1 ks1 x.f0 [.string x.f0] rfl wr _ (by first | exact ⟨1, rfl⟩ | exact ⟨0, rfl⟩ | exact ⟨2, rfl⟩ | exact ⟨3, rfl⟩) rfl _ rfl (by first | rfl | simp) (fun _ _ _ => rfl) HBG0.out.keys hb0 (by first | omega | (simp only [List.length_append, List.length_singleton, List.length_cons, List.length_nil]; omega)) ?_
   intro v0 wz0 h1 h2
   obtain ⟨Av0, cv0, he, -, -⟩ := Kd.R_reads h1
   simp only [List.length_append, List.length_singleton, List.length_cons, List.length_nil, Nat.zero_add] at he
   subst he
   have HK0 := Aside0.mk h1
   have HT0 := Aside0.mk h2
   have HG0 := Aside0.mk (h2.blk HBG0.out.box (by decide))
   have HVa0 := Aside0.mk (HV0.out.trans (h2.mono (by simp)))
   clear h1 h2
   refine hK.out _ _ ⟨(blk_cell HG0.out 1), (blk_frozen HG0.out 1), (CE.out _ HVa0.out).1, (CE.out _ HVa0.out).2⟩ (fun hHeld => ?_)
   clear hK K
   refine norm_ (a' := ?_) ?_ ?_
   rotate_left
   ·show Act.put _ (some 33) _ = _
    simp only [Act.put, zla, zlb, zlc, i64_w, i32_w]
    rfl
   refine zq 12 (some 34) ?_
   refine zq 13 (some 35) ?_
   refine last_ (i := 14) (N := none) #[true, true, true, true, true, true, true, true, true, true, true, true, true, true, true] rfl rfl (by kernel_rfl) (by decide) (fun K hK => ?_)
   refine skip_ (w1 := ?_) (by rfl) rfl ?_ ?_
   rotate_left
   ·go_simp
    rfl
   refine hK.out _ _ ?_
   clear hK K
   refine done_ (by kernel_rfl) ?_
   have HBG1 := Aside0.mk (HBG0.out.setK HT0.out HK0.out)
   have HV1 := Aside0.mk (HVa0.out.set HG0.out (by simp) HBG0.out.ge 1 (.slice Av0 (ks1.length + 1) cv0))
   have hb1 : b ≤ (wz0.setCell ⟨g, 1, none⟩ (.slice Av0 (ks1.length + 1) cv0)).heap.size := Nat.le_trans hbr HV1.out.size
   generalize (wz0.setCell ⟨g, 1, none⟩ (.slice Av0 (ks1.length + 1) cv0)) = W1 at *
   go_wp2
   refine start_ (n := 16) (S := fun w' => w'.cell? ⟨g, 0, none⟩ = some un1 ∧ w'.frozen? ⟨g, 0, none⟩ = false ∧ w'.cell? (ad.add (q * 2)) = some (.string x.f0) ∧ w'.cell? ⟨(ad.add (q * 2)).block, (ad.add (q * 2)).off + 1, none⟩ = some (.slice A1 x.f1.length c1)) (ds := [15]) #[false, false, false, false, false, false, false, false, false, false, false, false, false, false, false, false] (by kernel_rfl) rfl rfl ⟨(blk_cell HBG1.out.box 0), (blk_frozen HBG1.out.box 0), (CE.out _ HV1.out).1, (CE.out _ HV1.out).2⟩ (fun hHeld => ?_)
   refine zq 0 (some 36) ?_
   refine zq 1 (some 37) ?_
   refine zq 2 (some 38) ?_
   refine zq 3 (some 39) ?_
   refine zq 5 (some 41) ?_
   refine zq 6 (some 42) ?_
   refine zq 7 (some 43) ?_
   refine zq 8 (some 44) ?_
   refine zu 4 (some 40) hHeld ?_
   refine zu 9 (some 45) hHeld ?_
   refine zq 10 (some 46) ?_
   refine one_ (i := 11) (N := some 47) #[true, true, true, true, true, true, true, true, true, true, true, true, false, false, false, false] rfl rfl (by kernel_rfl) (by decide) (fun K hK => ?_)
   refine value_ (w1 := ?_) (v := ?_) (by rfl) rfl ?_ ?_
   rotate_left 2
   ·go_simp
    constructor
    ·rfl
    ·rfl
   refine hK.out _ _ ⟨(blk_cell (blk_alloc HBG1.out.box _) 0), (blk_frozen (blk_alloc HBG1.out.box _) 0), (CE.out _ (HV1.out.alloc _)).1, (CE.out _ (HV1.out.alloc _)).2⟩ (fun hHeld => ?_)
   clear hK K
   refine norm_ (a' := ?_) ?_ ?_
   rotate_left
   ·show Act.put _ (some 47) _ = _
    simp only [Act.put, zla, zlb, zlc, i64_w, i32_w]
    rfl
   refine one_ (i := 12) (N := some 48) #[true, true, true, true, true, true, true, true, true, true, true, true, true, false, false, false] rfl rfl (by kernel_rfl) (by decide) (fun K hK => ?_)
   refine appK1_step (flat_int .i64) (by rfl) (.tmp 40) (.tmp 47) 26 3 (.int .i64 0) 8 rfl Try.underlying26 info3 rfl (by decide) (by decide) un1 ns1 (x.f1.length : Int) [.int .i64 x.f1.length] rfl W1 _ (by first | exact ⟨1, rfl⟩ | exact ⟨0, rfl⟩ | exact ⟨2, rfl⟩ | exact ⟨3, rfl⟩) rfl _ rfl (by first | rfl | simp) (fun _ _ _ => rfl) HBG1.out.nums hb1 (by first | omega | (simp only [List.length_append, List.length_singleton, List.length_cons, List.length_nil]; omega)) ?_
   intro v1 wz1 h1 h2
   obtain ⟨Av1, cv1, he, -, -⟩ := Kd.R_reads h1
   simp only [List.length_append, List.length_singleton, List.length_cons, List.length_nil, Nat.zero_add] at he
   subst he
   have HK1 := Aside0.mk h1
   have HT1 := Aside0.mk h2
   have HG1 := Aside0.mk (h2.blk HBG1.out.box (by decide))
   have HVa1 := Aside0.mk (HV1.out.trans (h2.mono (by simp)))
   clear h1 h2
   refine hK.out _ _ ⟨(blk_cell HG1.out 0), (blk_frozen HG1.out 0), (CE.out _ HVa1.out).1, (CE.out _ HVa1.out).2⟩ (fun hHeld => ?_)
   clear hK K
   refine norm_ (a' := ?_) ?_ ?_
   rotate_left
   ·show Act.put _ (some 48) _ = _
    simp only [Act.put, zla, zlb, zlc, i64_w, i32_w]
    rfl
   refine zq 13 (some 49) ?_
   refine zq 14 (some 50) ?_
   refine last_ (i := 15) (N := none) #[true, true, true, true, true, true, true, true, true, true, true, true, true, true, true, true] rfl rfl (by kernel_rfl) (by decide) (fun K hK => ?_)
   refine skip_ (w1 := ?_) (by rfl) rfl ?_ ?_
   rotate_left
   ·go_simp
    rfl
   refine hK.out _ _ ?_
   clear hK K
   refine done_ (by kernel_rfl) ?_
   have HBG2 := Aside0.mk (HBG1.out.setN HT1.out HK1.out)
   have HV2 := Aside0.mk (HVa1.out.set HG1.out (by simp) HBG1.out.ge 0 (.slice Av1 (ns1.length + 1) cv1))
   have hb2 : b ≤ (wz1.setCell ⟨g, 0, none⟩ (.slice Av1 (ns1.length + 1) cv1)).heap.size := Nat.le_trans hbr HV2.out.size
   generalize (wz1.setCell ⟨g, 0, none⟩ (.slice Av1 (ns1.length + 1) cv1)) = W2 at *
   go_wp2
   refine start_ (n := 14) (S := fun w' => w'.cell? ⟨g, 2, none⟩ = some uv1 ∧ w'.frozen? ⟨g, 2, none⟩ = false ∧ w'.cell? (ad.add (q * 2)) = some (.string x.f0) ∧ w'.cell? ⟨(ad.add (q * 2)).block, (ad.add (q * 2)).off + 1, none⟩ = some (.slice A1 x.f1.length c1)) (ds := [13]) #[false, false, false, false, false, false, false, false, false, false, false, false, false, false] (by kernel_rfl) rfl rfl ⟨(blk_cell HBG2.out.box 2), (blk_frozen HBG2.out.box 2), (CE.out _ HV2.out).1, (CE.out _ HV2.out).2⟩ (fun hHeld => ?_)
   refine zq 0 (some 51) ?_
   refine zq 1 (some 52) ?_
   refine zq 2 (some 53) ?_
   refine zq 3 (some 54) ?_
   refine zq 5 (some 56) ?_
   refine zq 6 (some 57) ?_
   refine zq 7 (some 58) ?_
   refine zq 8 (some 59) ?_
   refine zu 4 (some 55) hHeld ?_
   refine zu 9 (some 60) hHeld ?_
   refine one_ (i := 10) (N := some 61) #[true, true, true, true, true, true, true, true, true, true, true, false, false, false] rfl rfl (by kernel_rfl) (by decide) (fun K hK => ?_)
   refine appK_step (flat_rel (RelB w0)) (by rfl) (.tmp 55) (.tmp 60) 23 25 (.agg #[.int .i64 0, .int .i64 0, .string ⟨#[]⟩, .slice none 0 0]) 56 rfl Try.underlying23 info25 rfl (show 0 < 4 by decide) (by decide) uv1 vs1 x.f1 A1 x.f1.length c1 rfl rfl HBG2.out.vals (rel_reads G1.out (HWR.out.trans ((HV2.out.below hbr).mono h0)) b) hb2 (by first | omega | (simp only [List.length_append, List.length_singleton, List.length_cons, List.length_nil]; omega)) ?_
   intro v2 wz2 h1 h2'
   have h2 : UT [25] b W2 wz2 := ⟨h2'.os, h2'.tape, h2'.output, h2'.size, h2'.same⟩
   clear h2'
   obtain ⟨Av2, cv2, he, -, -⟩ := Kd.R_reads h1
   simp only [List.length_append, List.length_singleton, List.length_cons, List.length_nil, Nat.zero_add] at he
   subst he
   have HK2 := Aside0.mk h1
   have HT2 := Aside0.mk h2
   have HG2 := Aside0.mk (h2.blk HBG2.out.box (by decide))
   have HVa2 := Aside0.mk (HV2.out.trans (h2.mono (by simp)))
   clear h1 h2
   refine hK.out _ _ ⟨(blk_cell HG2.out 2), (blk_frozen HG2.out 2), (CE.out _ HVa2.out).1, (CE.out _ HVa2.out).2⟩ (fun hHeld => ?_)
   clear hK K
   refine norm_ (a' := ?_) ?_ ?_
   rotate_left
   ·show Act.put _ (some 61) _ = _
    simp only [Act.put, zla, zlb, zlc, i64_w, i32_w]
    rfl
   refine zq 11 (some 62) ?_
   refine zq 12 (some 63) ?_
   refine last_ (i := 13) (N := none) #[true, true, true, true, true, true, true, true, true, true, true, true, true, true] rfl rfl (by kernel_rfl) (by decide) (fun K hK => ?_)
   refine skip_ (w1 := ?_) (by rfl) rfl ?_ ?_
   rotate_left
   ·go_simp
    rfl
   refine hK.out _ _ ?_
   clear hK K
   refine done_ (by kernel_rfl) ?_
   have HBG3 := Aside0.mk (HBG2.out.setV HT2.out HK2.out)
   have HV3 := Aside0.mk (HVa2.out.set HG2.out (by simp) HBG2.out.ge 2 (.slice Av2 (vs1.length + x.f1.length) cv2))
   have hb3 : b ≤ (wz2.setCell ⟨g, 2, none⟩ (.slice Av2 (vs1.length + x.f1.length) cv2)).heap.size := Nat.le_trans hbr HV3.out.size
   generalize (wz2.setCell ⟨g, 2, none⟩ (.slice Av2 (vs1.length + x.f1.length) cv2)) = W3 at *
   go_wp2
   go_roundw
   case rel => exact ⟨q + 1, _, _, _, by simp, by omega, ⟨_, _, _, by first | exact HBG3.out | exact HBG3.out.drew⟩, HU.out.trans (by first | exact HV3.out | exact HV3.out.drew), by rw [← E1.out]; simp only [cellN, List.append_assoc], by rw [← E2.out]; simp only [List.append_assoc, List.cons_append, List.nil_append], by rw [← E3.out]; simp only [List.append_assoc]⟩
   case measure => simp [intOf]; omega
  ·have hi : q = l.length := by omega
   have hir : ¬ (q : Int) < (l.length : Int) := by omega
   have e1 := HN1.out
   have e2 := HK1.out
   have e3 := HV1.out
   rw [hi, List.drop_length] at e1 e2 e3
   simp only [List.flatMap_nil, List.map_nil, List.append_nil] at e1 e2 e3
   have E1 := Aside0.mk e1
   have E2 := Aside0.mk e2
   have E3 := Aside0.mk e3
   clear e1 e2 e3 hi
   go_wp2
   first | go_end0 | ((try simp only [Exit.inBlock, Exit.then]); refine bodyPost_ret (results_none rfl _ _ _) rfl ?_)
   exact ⟨rfl, by have h := HB.out; rw [E1.out, E2.out, E3.out] at h; simpa only [List.append_assoc, List.cons_append, List.nil_append] using h, HU.out⟩
end Go.Proofs.Ythmkioodkldgbaa.DK
