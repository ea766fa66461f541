/- wire.fitSegment: the first fault; conditions: those in each theorem. -/
import Derived.Test.YthmkioodkldgbaaGreatQcM11
namespace Go.Proofs.YthmkioodkldgbaaGreat.DK
open Go.Proofs.YthmkioodkldgbaaGreat.PD
open Go.RowKit Go.Proofs.YthmkioodkldgbaaGreatW.PrintWords Go.Proofs.YthmkioodkldgbaaGreatW.PrintLast Go.Proofs.YthmkioodkldgbaaGreatW.PrintMore
set_option linter.unusedVariables false
set_option linter.unusedSimpArgs false
set_option maxRecDepth 100000
set_option maxHeartbeats 16000000 in
theorem fitSegment_calls (s : Seg) (w : World) (b : Nat) (A5 : Option Addr) (c5 : Nat) (A7 : Option Addr) (c7 : Nat) (A8 : Option Addr) (c8 : Nat) (A9 : Option Addr) (c9 : Nat) (A10 : Option Addr) (c10 : Nat) (h5 : In k121 b w A5 s.cells) (h7 : In k121 b w A7 s.set) (h8 : In Kd.string b w A8 s.gone) (h9 : In (Kd.slice 27 k28) b w A9 s.logs) (h10 : In k28 b w A10 s.pend) (hb : b ≤ w.heap.size) :
  Calls Tryz.prog 52 #[.agg #[.int .i64 s.id, .int .i64 s.task, .int .i64 s.base, .int .u32 s.sum, .int .i64 s.snum, .slice A5 s.cells.length c5, .int .i64 s.dnum, .slice A7 s.set.length c7, .slice A8 s.gone.length c8, .slice A9 s.logs.length c9, .slice A10 s.pend.length c10]] w (Fault w (segC s)) := by
 generalize hr : segC s = r
 have HQ := Aside0.mk hr
 clear hr
 obtain ⟨i, ta, ba, su, sn, ce, dn, se, go, lo, pe⟩ := s
 dsimp only at *
 have H5 := Aside0.mk h5
 have H7 := Aside0.mk h7
 have H8 := Aside0.mk h8
 have H9 := Aside0.mk h9
 have H10 := Aside0.mk h10
 have hm : lo.length ≤ 9223372036854775807 := h9.max
 clear h5 h7 h8 h9 h10
 have hu39 := Tryz.underlying38
 have hu31 := Tryz.underlying30
 have hu35 := Tryz.underlying34
 unfold segC at HQ
 dsimp only at HQ
 by_cases c_ : i < 0
 ·obtain rfl := (if_pos (by omega)).symm.trans HQ.out
  go_enter Tryz.func52, Tryz.ntmps52
  go_wp2
  go_ret
  exact ⟨rfl, below_alloc (Below.refl _ _) _⟩
 by_cases c_ : 9999 < i
 ·obtain rfl := (if_pos (by omega)).symm.trans HQ.out
  go_enter Tryz.func52, Tryz.ntmps52
  go_wp2
  go_ret
  exact ⟨rfl, below_alloc (Below.refl _ _) _⟩
 by_cases c_ : ta < 0
 ·obtain rfl := (if_pos (by omega)).symm.trans HQ.out
  go_enter Tryz.func52, Tryz.ntmps52
  go_wp2
  go_ret
  exact ⟨rfl, below_alloc (Below.refl _ _) _⟩
 by_cases c_ : 12 ≤ ta
 ·obtain rfl := (if_pos (by omega)).symm.trans HQ.out
  go_enter Tryz.func52, Tryz.ntmps52
  go_wp2
  go_ret
  exact ⟨rfl, below_alloc (Below.refl _ _) _⟩
 by_cases c_ : ba < 0
 ·obtain rfl := (if_pos (by omega)).symm.trans HQ.out
  go_enter Tryz.func52, Tryz.ntmps52
  go_wp2
  go_ret
  exact ⟨rfl, below_alloc (Below.refl _ _) _⟩
 by_cases c_ : 9999 < ba
 ·obtain rfl := (if_pos (by omega)).symm.trans HQ.out
  go_enter Tryz.func52, Tryz.ntmps52
  go_wp2
  go_ret
  exact ⟨rfl, below_alloc (Below.refl _ _) _⟩
 replace HQ := Aside0.mk ((if_neg (by omega)).symm.trans HQ.out)
 go_enter Tryz.func52, Tryz.ntmps52
 go_upto_region 3 with fail
 go_cut [3] from 37 to 59 (fun v w' => (∃ b3 : Bool, v = .bool b3 ∧ (b3 = true ↔ noDelta ⟨i, ta, ba, su, sn, ce, dn, se, go, lo, pe⟩)) ∧ w' = w.alloc (.cells #[.int .i64 i, .int .i64 ta, .int .i64 ba, .int .u32 su, .int .i64 sn, .slice A5 ce.length c5, .int .i64 dn, .slice A7 se.length c7, .slice A8 go.length c8, .slice A9 lo.length c9, .slice A10 pe.length c10] 38))
 case first =>
  have hd : noDelta ⟨i, ta, ba, su, sn, ce, dn, se, go, lo, pe⟩ ↔ ((su == 0) = true ∧ (dn == 0) = true ∧ ((se.length : Int) == 0) = true ∧ ((go.length : Int) == 0) = true) := by unfold noDelta; simp
  have HD := Aside0.mk hd
  clear hd
  cases d1 : su == 0 with
  | false =>
   go_wp2_with fail
   go_meet
   case rel => exact ⟨⟨false, rfl, by rw [HD.out]; simp [d1]⟩, rfl⟩
  | true =>
   cases d2 : dn == 0 with
   | false =>
    go_wp2_with fail
    go_meet
    case rel => exact ⟨⟨false, rfl, by rw [HD.out]; simp [d2]⟩, rfl⟩
   | true =>
    cases d3 : (se.length : Int) == 0 with
    | false =>
     go_wp2_with fail
     go_meet
     case rel => exact ⟨⟨false, rfl, by rw [HD.out]; simp [d3]⟩, rfl⟩
    | true =>
     cases d4 : (go.length : Int) == 0 with
     | false =>
      go_wp2_with fail
      go_meet
      case rel => exact ⟨⟨false, rfl, by rw [HD.out]; simp [d4]⟩, rfl⟩
     | true =>
      go_wp2_with fail
      go_meet
      case rel => exact ⟨⟨true, rfl, by rw [HD.out]; simp [d1, d2, d3, d4]⟩, rfl⟩
 case rest =>
  obtain ⟨⟨b3, rfl, hb3⟩, rfl⟩ := hcut
  have HD := Aside0.mk hb3
  clear hb3
  go_upto_region 4 with fail
  go_cut [4] from 60 to 70 (fun v w' => (∃ b4 : Bool, v = .bool b4 ∧ (b4 = true ↔ noState ⟨i, ta, ba, su, sn, ce, dn, se, go, lo, pe⟩)) ∧ w' = w.alloc (.cells #[.int .i64 i, .int .i64 ta, .int .i64 ba, .int .u32 su, .int .i64 sn, .slice A5 ce.length c5, .int .i64 dn, .slice A7 se.length c7, .slice A8 go.length c8, .slice A9 lo.length c9, .slice A10 pe.length c10] 38))
  case first =>
   have hd : noState ⟨i, ta, ba, su, sn, ce, dn, se, go, lo, pe⟩ ↔ ((sn == 0) = true ∧ ((ce.length : Int) == 0) = true) := by unfold noState; simp
   have HS := Aside0.mk hd
   clear hd
   cases d1 : sn == 0 with
   | false =>
    go_wp2_with fail
    go_meet
    case rel => exact ⟨⟨false, rfl, by rw [HS.out]; simp [d1]⟩, rfl⟩
   | true =>
    cases d2 : (ce.length : Int) == 0 with
    | false =>
     go_wp2_with fail
     go_meet
     case rel => exact ⟨⟨false, rfl, by rw [HS.out]; simp [d2]⟩, rfl⟩
    | true =>
     go_wp2_with fail
     go_meet
     case rel => exact ⟨⟨true, rfl, by rw [HS.out]; simp [d1, d2]⟩, rfl⟩
  case rest =>
   obtain ⟨⟨b4, rfl, hb4⟩, rfl⟩ := hcut
   have HS := Aside0.mk hb4
   clear hb4
   have H0 := Aside0.mk (heap_alloc_new w (.cells #[.int .i64 i, .int .i64 ta, .int .i64 ba, .int .u32 su, .int .i64 sn, .slice A5 ce.length c5, .int .i64 dn, .slice A7 se.length c7, .slice A8 go.length c8, .slice A9 lo.length c9, .slice A10 pe.length c10] 38))
   have HB := Aside0.mk (below_alloc (Below.refl w.heap.size w) (.cells #[.int .i64 i, .int .i64 ta, .int .i64 ba, .int .u32 su, .int .i64 sn, .slice A5 ce.length c5, .int .i64 dn, .slice A7 se.length c7, .slice A8 go.length c8, .slice A9 lo.length c9, .slice A10 pe.length c10] 38))
   generalize w.alloc (.cells #[.int .i64 i, .int .i64 ta, .int .i64 ba, .int .u32 su, .int .i64 sn, .slice A5 ce.length c5, .int .i64 dn, .slice A7 se.length c7, .slice A8 go.length c8, .slice A9 lo.length c9, .slice A10 pe.length c10] 38) = w1 at *
   have hbr : b ≤ w1.heap.size := Nat.le_trans hb HB.out.size
   have x0 := blk_cell H0.out 0
   have x1 := blk_cell H0.out 1
   have x2 := blk_cell H0.out 2
   have x3 := blk_cell H0.out 3
   have x4 := blk_cell H0.out 4
   have x5 := blk_cell H0.out 5
   have x6 := blk_cell H0.out 6
   have x7 := blk_cell H0.out 7
   have x8 := blk_cell H0.out 8
   have x9 := blk_cell H0.out 9
   have x10 := blk_cell H0.out 10
   have fx0 := blk_frozen H0.out 0
   have fx1 := blk_frozen H0.out 1
   have fx2 := blk_frozen H0.out 2
   have fx3 := blk_frozen H0.out 3
   have fx4 := blk_frozen H0.out 4
   have fx5 := blk_frozen H0.out 5
   have fx6 := blk_frozen H0.out 6
   have fx7 := blk_frozen H0.out 7
   have fx8 := blk_frozen H0.out 8
   have fx9 := blk_frozen H0.out 9
   have fx10 := blk_frozen H0.out 10
   simp only [List.getElem?_toArray, List.getElem?_cons_succ, List.getElem?_cons_zero] at x0 x1 x2 x3 x4 x5 x6 x7 x8 x9 x10
   go_upto_block 0 with fail
   go_cut [5] from 71 to 95 (fun v w' => v = .int .i64 (bodyC ⟨i, ta, ba, su, sn, ce, dn, se, go, lo, pe⟩) ∧ Below w1.heap.size w1 w' ∧ (if bodyC ⟨i, ta, ba, su, sn, ce, dn, se, go, lo, pe⟩ = 0 then logsC lo pe else bodyC ⟨i, ta, ba, su, sn, ce, dn, se, go, lo, pe⟩) = r)
   case first =>
    cases hz : ba == 0 with
    | true =>
     have hz1 : ¬ (0 : Int) < ba := by have := eq_of_beq hz; omega
     have HZ := Aside0.mk (eq_of_beq hz)
     cases b3 with
     | false =>
      obtain rfl := (if_pos (.inl ⟨HZ.out, fun h => by have := HD.out.2 h; cases this⟩)).symm.trans HQ.out
      go_wp2
      go_ret
      exact ⟨rfl, HB.out⟩
     | true =>
      replace HQ := Aside0.mk ((if_neg (fun h => h.elim (fun h => h.2 (HD.out.1 (by trivial))) (fun h => hz1 h.1))).symm.trans HQ.out)
      have hbo : bodyC ⟨i, ta, ba, su, sn, ce, dn, se, go, lo, pe⟩ = stateC sn ce := by unfold bodyC; exact if_pos HZ.out
      rw [hbo] at HQ
      have HBO := Aside0.mk hbo
      clear hbo
      go_wp2_with fail
      refine (CheckState_calls sn ce _ b A5 c5 (H5.out.ext (HB.out.mono hb)) hbr).mono ?_
      rintro e w5 ⟨rfl, h2⟩
      have HBL := Aside0.mk h2
      clear h2
      go_wp2
      go_meet
      case rel => exact ⟨by rw [HBO.out], HBL.out, by rw [HBO.out]; exact HQ.out⟩
    | false =>
     have hz1 : (0 : Int) < ba := by have := beq_eq_false_iff_ne.1 hz; omega
     have HZ := Aside0.mk (beq_eq_false_iff_ne.1 hz)
     cases b4 with
     | false =>
      obtain rfl := (if_pos (.inr ⟨hz1, fun h => by have := HS.out.2 h; cases this⟩)).symm.trans HQ.out
      go_wp2
      go_ret
      exact ⟨rfl, HB.out⟩
     | true =>
      replace HQ := Aside0.mk ((if_neg (fun h => h.elim (fun h => HZ.out h.1) (fun h => h.2 (HS.out.1 (by trivial))))).symm.trans HQ.out)
      have hbo : bodyC ⟨i, ta, ba, su, sn, ce, dn, se, go, lo, pe⟩ = if stateC dn se = 0 then goneC go else stateC dn se := by unfold bodyC; exact if_neg HZ.out
      rw [hbo] at HQ
      have HBO := Aside0.mk hbo
      clear hbo
      have HC := Aside0.mk (fitDelta_calls dn se go _ b A7 c7 A8 c8 (H7.out.ext (HB.out.mono hb)) (H8.out.ext (HB.out.mono hb)) hbr)
      generalize (if stateC dn se = 0 then goneC go else stateC dn se) = q at HQ HBO HC
      go_wp2_with fail
      refine HC.out.mono ?_
      rintro e w5 ⟨rfl, h2⟩
      have HBL := Aside0.mk h2
      clear h2
      go_wp2
      go_meet
      case rel => exact ⟨by rw [HBO.out], HBL.out, by rw [HBO.out]; exact HQ.out⟩
   case rest =>
    obtain ⟨rfl, h2, h3⟩ := hcut
    replace HQ := Aside0.mk h3
    have HT := Aside0.mk ((h2.block w.heap.size (blk_lt H0.out)).trans H0.out)
    replace HB := Aside0.mk (HB.out.trans (h2.mono HB.out.size))
    clear h2 h3 x0 x1 x2 x3 x4 x5 x6 x7 x8 x9 x10 fx0 fx1 fx2 fx3 fx4 fx5 fx6 fx7 fx8 fx9 fx10
    generalize bodyC ⟨i, ta, ba, su, sn, ce, dn, se, go, lo, pe⟩ = q at *
    by_cases hq : q = 0
    case neg =>
     obtain rfl := (if_neg hq).symm.trans HQ.out
     have hq' : (q != 0) = true := bne_iff_ne.2 hq
     go_wp2
     go_ret
     exact ⟨rfl, HB.out⟩
    subst hq
    replace HQ := Aside0.mk ((if_pos rfl).symm.trans HQ.out)
    have x0 := blk_cell HT.out 0
    have x1 := blk_cell HT.out 1
    have x2 := blk_cell HT.out 2
    have x3 := blk_cell HT.out 3
    have x4 := blk_cell HT.out 4
    have x5 := blk_cell HT.out 5
    have x6 := blk_cell HT.out 6
    have x7 := blk_cell HT.out 7
    have x8 := blk_cell HT.out 8
    have x9 := blk_cell HT.out 9
    have x10 := blk_cell HT.out 10
    have fx0 := blk_frozen HT.out 0
    have fx1 := blk_frozen HT.out 1
    have fx2 := blk_frozen HT.out 2
    have fx3 := blk_frozen HT.out 3
    have fx4 := blk_frozen HT.out 4
    have fx5 := blk_frozen HT.out 5
    have fx6 := blk_frozen HT.out 6
    have fx7 := blk_frozen HT.out 7
    have fx8 := blk_frozen HT.out 8
    have fx9 := blk_frozen HT.out 9
    have fx10 := blk_frozen HT.out 10
    simp only [List.getElem?_toArray, List.getElem?_cons_succ, List.getElem?_cons_zero] at x0 x1 x2 x3 x4 x5 x6 x7 x8 x9 x10
    by_cases c4 : 4 < lo.length
    ·obtain rfl : 43 = r := by have h := HQ.out; unfold logsC at h; rwa [if_pos c4] at h
     go_wp2
     go_ret
     exact ⟨rfl, HB.out⟩
    replace HQ : Aside0 (logsL lo pe = r) := Aside0.mk (by have h := HQ.out; unfold logsC at h; rwa [if_neg c4] at h)
    go_wp2
    go_loopw [106] (fun iv wr => FltE (OneBox w (.cells #[.int .i64 i, .int .i64 ta, .int .i64 ba, .int .u32 su, .int .i64 sn, .slice A5 ce.length c5, .int .i64 dn, .slice A7 se.length c7, .slice A8 go.length c8, .slice A9 lo.length c9, .slice A10 pe.length c10] 38 (0, 0))) w lo.length (fun i => logsL (lo.drop i) pe) r iv wr) (fun iv _ => lo.length - (intOf iv).toNat)
    case atStart => exact FltI.start (by rw [List.drop_zero]; exact HQ.out) HB.out HT.out
    case round =>
     clear x0 x1 x2 x3 x4 x5 x6 x7 x8 x9 x10 fx0 fx1 fx2 fx3 fx4 fx5 fx6 fx7 fx8 fx9 fx10
     obtain ⟨j, rfl, HI⟩ := hrel
     have HX := Aside0.mk HI
     have hle := HI.le
     have heq := HI.eq
     clear HI
     have hbq : b ≤ wr.heap.size := Nat.le_trans hb HX.out.b.size
     by_cases hlt : j < lo.length
     ·obtain ⟨ad, P1, p1, rfl, d0, l1, g1⟩ := (H9.out.ext (HX.out.b.mono hb)).atSlice hlt
      rw [drop_cons hlt, logsL] at heq
      have HC := Aside0.mk (fitRecords_calls lo[j] wr b P1 p1 g1 hbq)
      clear g1
      generalize lo[j] = y at *
      generalize recsC y = q at *
      go_wp2_with fail
      refine HC.out.mono ?_
      rintro e w5 ⟨rfl, h2⟩
      have HBL := Aside0.mk h2
      clear h2
      by_cases hq : q = 0
      case neg =>
       rw [if_neg hq] at heq
       subst heq
       have hq' : (q != 0) = true := bne_iff_ne.2 hq
       go_wp2
       go_ret
       exact ⟨rfl, HX.out.b.trans (HBL.out.mono HX.out.b.size)⟩
      subst hq
      rw [if_pos rfl] at heq
      have HEQ := Aside0.mk heq
      clear heq
      go_wp2
      go_roundw
      case rel => exact ⟨j + 1, by simp, hlt, HEQ.out, HX.out.b.trans (HBL.out.mono HX.out.b.size), HX.out.k.next HBL.out⟩
      case measure => simp [intOf]; omega
     ·rw [List.drop_of_length_le (by omega), logsL] at heq
      subst heq
      have hir : ¬ (j : Int) < (lo.length : Int) := by omega
      have y10 := blk_cell HX.out.k 10
      have fy10 := blk_frozen HX.out.k 10
      simp only [List.getElem?_toArray, List.getElem?_cons_succ, List.getElem?_cons_zero] at y10
      go_wp2_with fail
      refine (fitRecords_calls pe wr b A10 c10 (H10.out.ext (HX.out.b.mono hb)) hbq).mono ?_
      rintro e w5 ⟨rfl, h2⟩
      have HBL := Aside0.mk h2
      clear h2
      go_wp2
      go_ret
      exact ⟨rfl, HX.out.b.trans (HBL.out.mono HX.out.b.size)⟩
end Go.Proofs.YthmkioodkldgbaaGreat.DK
/- wire.PutRecord, PutState, PutSegment; conditions: those in each theorem. -/
namespace Go.Proofs.YthmkioodkldgbaaGreat.DK
open Go.Proofs.YthmkioodkldgbaaGreat.PD
open Go.RowKit Go.Proofs.YthmkioodkldgbaaGreatW.PrintWords Go.Proofs.YthmkioodkldgbaaGreatW.PrintLast Go.Proofs.YthmkioodkldgbaaGreatW.PrintMore
set_option linter.unusedVariables false
set_option linter.unusedSimpArgs false
set_option maxRecDepth 100000
theorem flatMap_len {α : Type} (f : α → List Int) (B : Nat) : ∀ l : List α, (∀ x ∈ l, (f x).length ≤ B) → (l.flatMap f).length ≤ l.length * B
 | [], _ => by simp
 | x :: l, h => by
  have h1 := h x (by simp)
  have h2 := flatMap_len f B l (fun y hy => h y (List.mem_cons_of_mem _ hy))
  simp only [List.flatMap_cons, List.length_append, List.length_cons, Nat.succ_mul]
  omega
theorem lst_len {α : Type} (f : α → List Int) (B m : Nat) (l : List α) (hm : l.length ≤ m) (hm9 : m ≤ 1000000) (h : ∀ x ∈ l, (f x).length ≤ B) : (lst f l).length ≤ 10 + m * B := by
 have h1 := flatMap_len f B l h
 have h2 := grp_len10 (n := (l.length : Int)) (by omega)
 have h3 := Nat.mul_le_mul_right B hm
 unfold lst
 simp only [List.length_append]
 omega
theorem keyB_len {k : ByteArray} (h : k.size ≤ 12) : (keyB k).length ≤ 22 := by
 have h2 := grp_len10 (n := (k.size : Int)) (by omega)
 unfold keyB
 simp only [List.length_append, bytesOf_length]
 omega
theorem loopsC_ok : ∀ {l : List Int}, loopsC l = 0 → ∀ n ∈ l, 0 ≤ n ∧ n ≤ 9
 | [], _, n, hn => by simp at hn
 | m :: l, h, n, hn => by
  rw [loopsC] at h
  split at h
  ·simp at h
  ·rcases List.mem_cons.1 hn with rfl | hn
   ·omega
   ·exact loopsC_ok h n hn
theorem recC_ok {x : S28} (ho : okS x.f1) (h : recC x = 0) : okRec x ∧ (encR x).length ≤ 1000 := by
 unfold recC at h
 split at h
 ·simp at h
 split at h
 ·rename_i h1 h2; exact absurd h h2
 split at h
 ·simp at h
 rename_i h1 h2 h3
 have hv : okV x.f1 := ⟨ho, by omega⟩
 have hlp := loopsC_ok h
 refine ⟨⟨by omega, hv, fun n hn => ?_⟩, ?_⟩
 ·have := hlp n hn
  omega
 ·have a := keyB_len (k := x.f0) (by omega)
  have b := okV_len hv
  have c := lst_len grp 10 3 x.f2 (by omega) (by omega) (fun n hn => grp_len10 (by have := hlp n hn; omega))
  unfold encR
  simp only [List.length_append]
  omega
theorem valsC_ok : ∀ {l : List S25}, okL l → valsC l = 0 → ∀ v ∈ l, okV v
 | [], _, _, v, hv => by simp at hv
 | x :: l, ho, h, v, hv => by
  rw [valsC] at h
  rw [okL] at ho
  split at h
  ·rename_i hz
   rcases List.mem_cons.1 hv with rfl | hv
   ·exact ⟨ho.1, hz⟩
   ·exact valsC_ok ho.2 h v hv
  ·rename_i hz; exact absurd h hz
theorem cellsL_cons' (q : Option ByteArray) (x : S121) (l : List S121) : ∃ b : Bool, cellsL q (x :: l) = if 12 < x.f0.size then 24 else if b = true then 27 else if 6 < x.f1.length then 27 else if valsC x.f1 = 0 then cellsL (some x.f0) l else valsC x.f1 := ⟨_, cellsL_cons q x l⟩
theorem goneL_cons' (q : Option ByteArray) (x : ByteArray) (l : List ByteArray) : ∃ b : Bool, goneL q (x :: l) = if 12 < x.size then 24 else if b = true then 42 else goneL (some x) l := ⟨_, goneL_cons q x l⟩
theorem cellsL_ok : ∀ {l : List S121} {q : Option ByteArray}, (∀ x ∈ l, okL x.f1) → cellsL q l = 0 → ∀ x ∈ l, okCell x ∧ (encC x).length ≤ 2000
 | [], q, _, _, x, hx => by simp at hx
 | y :: l, q, ho, h, x, hx => by
  obtain ⟨bb, hbb⟩ := cellsL_cons' q y l
  rw [hbb] at h
  split at h
  ·simp at h
  split at h
  ·simp at h
  split at h
  ·simp at h
  split at h
  ·rename_i h1 h2 h3 h4
   rcases List.mem_cons.1 hx with rfl | hx
   ·have hv := valsC_ok (ho x (by simp)) h4
    refine ⟨⟨by omega, hv⟩, ?_⟩
    have a := keyB_len (k := x.f0) (by omega)
    have c := lst_len encM 312 6 x.f1 (by omega) (by omega) (fun v hv' => okV_len (hv v hv'))
    unfold encC
    simp only [List.length_append]
    omega
   ·exact cellsL_ok (fun z hz => ho z (List.mem_cons_of_mem _ hz)) h x hx
  ·rename_i h1 h2 h3 h4; exact absurd h h4
theorem stateC_ok {n : Int} {l : List S121} (ho : ∀ x ∈ l, okL x.f1) (h : stateC n l = 0) : (0 ≤ n ∧ n ≤ 1073741824) ∧ l.length ≤ 64 ∧ (∀ x ∈ l, okCell x) ∧ (lst encC l).length ≤ 200000 ∧ (encSt n l).length ≤ 200000 := by
 unfold stateC at h
 split at h
 ·simp at h
 split at h
 ·simp at h
 rename_i h1 h2
 have hc := cellsL_ok ho h
 have c := lst_len encC 2000 64 l (by omega) (by omega) (fun v hv' => (hc v hv').2)
 have g := grp_len10 (n := n) (by omega)
 refine ⟨by omega, by omega, fun x hx => (hc x hx).1, by omega, ?_⟩
 unfold encSt
 simp only [List.length_append]
 omega
theorem goneL_ok : ∀ {l : List ByteArray} {q : Option ByteArray}, goneL q l = 0 → ∀ x ∈ l, x.size ≤ 12
 | [], q, _, x, hx => by simp at hx
 | y :: l, q, h, x, hx => by
  obtain ⟨bb, hbb⟩ := goneL_cons' q y l
  rw [hbb] at h
  split at h
  ·simp at h
  split at h
  ·simp at h
  rename_i h1 h2
  rcases List.mem_cons.1 hx with rfl | hx
  ·omega
  ·exact goneL_ok h x hx
theorem recsL_ok : ∀ {l : List S28}, (∀ x ∈ l, okS x.f1) → recsL l = 0 → ∀ x ∈ l, okRec x ∧ (encR x).length ≤ 1000
 | [], _, _, x, hx => by simp at hx
 | y :: l, ho, h, x, hx => by
  rw [recsL] at h
  split at h
  ·rename_i h1
   rcases List.mem_cons.1 hx with rfl | hx
   ·exact recC_ok (ho x (by simp)) h1
   ·exact recsL_ok (fun z hz => ho z (List.mem_cons_of_mem _ hz)) h x hx
  ·rename_i h1; exact absurd h h1
theorem recsC_ok {l : List S28} (ho : ∀ x ∈ l, okS x.f1) (h : recsC l = 0) : (∀ x ∈ l, okRec x) ∧ (lst encR l).length ≤ 300000 := by
 unfold recsC at h
 split at h
 ·simp at h
 rename_i h1
 have hr := recsL_ok ho h
 have c := lst_len encR 1000 256 l (by omega) (by omega) (fun v hv' => (hr v hv').2)
 exact ⟨fun x hx => (hr x hx).1, by omega⟩
theorem logsL_ok : ∀ {l : List (List S28)} {p : List S28}, (∀ y ∈ l, ∀ x ∈ y, okS x.f1) → (∀ x ∈ p, okS x.f1) → logsL l p = 0 → (∀ y ∈ l, (∀ x ∈ y, okRec x) ∧ (lst encR y).length ≤ 300000) ∧ (∀ x ∈ p, okRec x) ∧ (lst encR p).length ≤ 300000
 | [], p, _, hp, h => by
  rw [logsL] at h
  exact ⟨fun y hy => by simp at hy, recsC_ok hp h⟩
 | y :: l, p, ho, hp, h => by
  rw [logsL] at h
  split at h
  ·rename_i h1
   have ih := logsL_ok (fun z hz => ho z (List.mem_cons_of_mem _ hz)) hp h
   refine ⟨fun z hz => ?_, ih.2⟩
   rcases List.mem_cons.1 hz with rfl | hz
   ·exact recsC_ok (ho z (by simp)) h1
   ·exact ih.1 z hz
  ·rename_i h1; exact absurd h h1
/-- Its whole numbers are such. -/
structure Seg.Ok (s : Seg) : Prop where
 sum : 0 ≤ s.sum ∧ s.sum ≤ 4294967295
 cells : ∀ x ∈ s.cells, okL x.f1
 set : ∀ x ∈ s.set, okL x.f1
 logs : ∀ y ∈ s.logs, ∀ x ∈ y, okS x.f1
 pend : ∀ x ∈ s.pend, okS x.f1
theorem segC_ok {s : Seg} (ho : s.Ok) (h : segC s = 0) : okSeg s ∧ (encSeg s).length ≤ 140737488355328 := by
 unfold segC at h
 split at h
 ·simp at h
 split at h
 ·simp at h
 split at h
 ·rename_i h1 h2 h3
  unfold logsC at h
  split at h
  ·simp at h
  rename_i h4
  have hl := logsL_ok ho.logs ho.pend h
  have cl := lst_len (lst encR) 300000 4 s.logs (by omega) (by omega) (fun y hy => (hl.1 y hy).2)
  have g1 := grp_len10 (n := s.id) (by omega)
  have g2 := grp_len10 (n := s.task) (by omega)
  have g3 := grp_len10 (n := s.base) (by omega)
  unfold bodyC at h3
  by_cases hz : s.base = 0
  ·rw [if_pos hz] at h3
   have hst := stateC_ok ho.cells h3
   refine ⟨⟨by omega, by omega, by omega, ho.sum, fun _ => hst.1, fun _ => hst.2.2.1, fun h => absurd hz h, fun h => absurd hz h, fun h => absurd hz h, fun l hl' => (hl.1 l hl').1, hl.2.1⟩, ?_⟩
   unfold encSeg encFront encLogs
   rw [if_pos hz]
   simp only [List.length_append, List.length_cons]
   omega
  ·rw [if_neg hz] at h3
   split at h3
   ·rename_i h5
    have hst := stateC_ok ho.set h5
    unfold goneC at h3
    split at h3
    ·simp at h3
    rename_i h6
    have hg := goneL_ok h3
    have cg := lst_len keyB 22 64 s.gone (by omega) (by omega) (fun y hy => keyB_len (hg y hy))
    have g4 := grp_len10 (n := s.dnum) (by omega)
    refine ⟨⟨by omega, by omega, by omega, ho.sum, fun h => absurd h hz, fun h => absurd h hz, fun _ => hst.1, fun _ => hst.2.2.1, fun _ x hx => by have := hg x hx; omega, fun l hl' => (hl.1 l hl').1, hl.2.1⟩, ?_⟩
    unfold encSeg encFront encLogs encDelta word
    rw [if_neg hz]
    simp only [List.length_append, List.length_cons, List.length_nil]
    omega
   ·rename_i h5; exact absurd h3 h5
 ·rename_i h1 h2 h3; exact absurd h h3
/-- What a Put answers: the first fault; the bytes, where there is none. -/
def Put (w : World) (r : Int) (zs : List Int) (e : Ending) (w' : World) : Prop := ∃ u, e = .returned (.tuple #[u, .int .i64 r]) ∧ R5 w.heap.size w' u (if r = 0 then zs else []) ∧ Below w.heap.size w w'
theorem In.ofC {α : Type} {d : Kd α} {w0 w : World} {A : Option Addr} {l : List α} (h : d.C w0 A l.length l) (hb : Below w0.heap.size w0 w) {b : Nat} (hB : w0.heap.size ≤ b) : In d b w A l := ⟨w0, hB, h, hb⟩
set_option maxHeartbeats 4000000 in
theorem PutRecord_calls (w : World) (x : S28) (A4 : Option Addr) (c4 : Nat) (A5 : Option Addr) (c5 : Nat) (h4 : k25.C w A4 x.f1.f3.length x.f1.f3) (l4 : x.f1.f3.length ≤ c4) (h5 : (Kd.int .i64).C w A5 x.f2.length x.f2) (l5 : x.f2.length ≤ c5) (ho : okS x.f1) :
  Calls Tryz.prog 25 #[.agg #[.string x.f0, .int .i64 x.f1.f0, .int .i64 x.f1.f1, .string x.f1.f2, .slice A4 x.f1.f3.length c4, .slice A5 x.f2.length c5]] w (Put w (recC x) (encR x)) := by
 have HC := Aside0.mk (fun (W : World) (hb : Below w.heap.size w W) => CheckRecord_calls x W w.heap.size A4 c4 A5 c5 (In.ofC h4 hb (Nat.le_refl _)) (In.ofC h5 hb (Nat.le_refl _)) hb.size l4)
 have HI4 := Aside0.mk h4
 have HI5 := Aside0.mk h5
 have HO := Aside0.mk ho
 clear h4 h5 ho
 unfold Put
 generalize hq : (recC x) = q at HC ⊢
 have HQ := Aside0.mk hq
 clear hq
 by_cases hz : q = 0
 ·subst hz
  simp only [if_pos]
  have HP := Aside0.mk (recC_ok HO.out HQ.out)
  go_enter Tryz.func25, Tryz.ntmps25
  go_wp2_with fail
  refine (HC.out _ ?hw).mono ?_
  case hw => repeat (with_reducible first | exact Below.refl _ _ | apply below_drew | apply pw_below_drewN | apply below_alloc)
  rintro e w1 ⟨rfl, hb⟩
  have HB1 := Aside0.mk (show Below w.heap.size w w1 from (below_alloc (Below.refl _ _) _).trans (hb.mono (by simp)))
  have HB := Aside0.mk ((hb.block w.heap.size (by simp)).trans (heap_alloc_new w (.cells #[.string x.f0, .int .i64 x.f1.f0, .int .i64 x.f1.f1, .string x.f1.f2, .slice A4 x.f1.f3.length c4, .slice A5 x.f2.length c5] 27)))
  clear hb
  have n0_0 := blk_cell HB.out 0
  have n0_1 := blk_cell HB.out 1
  have n0_2 := blk_cell HB.out 2
  have n0_3 := blk_cell HB.out 3
  have n0_4 := blk_cell HB.out 4
  have n0_5 := blk_cell HB.out 5
  simp only [List.getElem?_toArray, List.getElem?_cons_succ, List.getElem?_cons_zero] at n0_0 n0_1 n0_2 n0_3 n0_4 n0_5
  go_wp2_with fail
  refine (putRecord_calls w.heap.size _ (.slice none 0 0) [] x A4 c4 A5 c5 (R5.nil _ _) HB1.out.size (In.ofC HI4.out HB1.out (Nat.le_refl _)) l4 (In.ofC HI5.out HB1.out (Nat.le_refl _)) l5 HP.out.1 (by rw [List.nil_append]; have := HP.out.2; omega)).mono ?_
  rintro e w2 ⟨u, rfl, h1, h2⟩
  have HR := Aside0.mk h1
  have HE := Aside0.mk h2
  clear h1 h2
  go_wp2
  go_ret2
  exact ⟨u, rfl, HR.out, HB1.out.trans (HE.out.below HB1.out.size)⟩
 ·skip
  go_enter Tryz.func25, Tryz.ntmps25
  go_wp2_with fail
  refine (HC.out _ ?hw).mono ?_
  case hw => repeat (with_reducible first | exact Below.refl _ _ | apply below_drew | apply pw_below_drewN | apply below_alloc)
  rintro e w1 ⟨rfl, hb⟩
  have HB1 := Aside0.mk (show Below w.heap.size w w1 from (below_alloc (Below.refl _ _) _).trans (hb.mono (by simp)))
  clear hb
  have hqb : (q != 0) = true := by simpa using hz
  go_wp2
  go_ret2
  exact ⟨.slice none 0 0, rfl, by first | exact R5.nil _ _ | (rw [if_neg hz]; exact R5.nil _ _), HB1.out⟩
set_option maxHeartbeats 4000000 in
theorem PutState_calls (w : World) (n : Int) (l : List S121) (A : Option Addr) (c : Nat) (h1 : k121.C w A l.length l) (l1 : l.length ≤ c) (hx : ∀ x ∈ l, x.f1.length ≤ 9223372036854775807) (ho : ∀ x ∈ l, okL x.f1) :
  Calls Tryz.prog 20 #[.agg #[.int .i64 n, .slice A l.length c]] w (Put w (stateC n l) (encSt n l)) := by
 have HC := Aside0.mk (fun (W : World) (hb : Below w.heap.size w W) => CheckState_calls n l W w.heap.size A c (In.ofC h1 hb (Nat.le_refl _)) hb.size)
 have HI1 := Aside0.mk h1
 have HX := Aside0.mk hx
 have HO := Aside0.mk ho
 clear h1 hx ho
 unfold Put
 generalize hq : (stateC n l) = q at HC ⊢
 have HQ := Aside0.mk hq
 clear hq
 by_cases hz : q = 0
 ·subst hz
  simp only [if_pos]
  have HP := Aside0.mk (stateC_ok HO.out HQ.out)
  go_enter Tryz.func20, Tryz.ntmps20
  go_wp2_with fail
  refine (HC.out _ ?hw).mono ?_
  case hw => repeat (with_reducible first | exact Below.refl _ _ | apply below_drew | apply pw_below_drewN | apply below_alloc)
  rintro e w1 ⟨rfl, hb⟩
  have HB1 := Aside0.mk (show Below w.heap.size w w1 from (below_alloc (Below.refl _ _) _).trans (hb.mono (by simp)))
  have HB := Aside0.mk ((hb.block w.heap.size (by simp)).trans (heap_alloc_new w (.cells #[.int .i64 n, .slice A l.length c] 30)))
  clear hb
  have n0_0 := blk_cell HB.out 0
  have n0_1 := blk_cell HB.out 1
  simp only [List.getElem?_toArray, List.getElem?_cons_succ, List.getElem?_cons_zero] at n0_0 n0_1
  go_wp2_with fail
  refine (putState_calls w.heap.size _ (.slice none 0 0) [] n l A c (R5.nil _ _) HB1.out.size (In.ofC HI1.out HB1.out (Nat.le_refl _)) l1 HP.out.1.1 (by have := HP.out.1.2; omega) HP.out.2.2.1 (by rw [List.nil_append]; have := HP.out.2.2.2.2; omega)).mono ?_
  rintro e w2 ⟨u, rfl, h1, h2⟩
  have HR := Aside0.mk h1
  have HE := Aside0.mk h2
  clear h1 h2
  go_wp2
  go_ret2
  exact ⟨u, rfl, HR.out, HB1.out.trans (HE.out.below HB1.out.size)⟩
 ·skip
  go_enter Tryz.func20, Tryz.ntmps20
  go_wp2_with fail
  refine (HC.out _ ?hw).mono ?_
  case hw => repeat (with_reducible first | exact Below.refl _ _ | apply below_drew | apply pw_below_drewN | apply below_alloc)
  rintro e w1 ⟨rfl, hb⟩
  have HB1 := Aside0.mk (show Below w.heap.size w w1 from (below_alloc (Below.refl _ _) _).trans (hb.mono (by simp)))
  clear hb
  have hqb : (q != 0) = true := by simpa using hz
  go_wp2
  go_ret2
  exact ⟨.slice none 0 0, rfl, by first | exact R5.nil _ _ | (rw [if_neg hz]; exact R5.nil _ _), HB1.out⟩
set_option maxHeartbeats 4000000 in
theorem PutSegment_calls (w : World) (s : Seg) (A5 A7 A8 A9 A10 : Option Addr) (c5 c7 c8 c9 c10 : Nat) (h5 : k121.C w A5 s.cells.length s.cells) (h7 : k121.C w A7 s.set.length s.set) (h8 : Kd.string.C w A8 s.gone.length s.gone) (h9 : (Kd.slice 27 k28).C w A9 s.logs.length s.logs) (h10 : k28.C w A10 s.pend.length s.pend) (l5 : s.cells.length ≤ c5) (l7 : s.set.length ≤ c7) (l8 : s.gone.length ≤ c8) (l9 : s.logs.length ≤ c9) (l10 : s.pend.length ≤ c10) (hs : s.Short) (ho : s.Ok) :
  Calls Tryz.prog 22 #[.agg #[.int .i64 s.id, .int .i64 s.task, .int .i64 s.base, .int .u32 s.sum, .int .i64 s.snum, .slice A5 s.cells.length c5, .int .i64 s.dnum, .slice A7 s.set.length c7, .slice A8 s.gone.length c8, .slice A9 s.logs.length c9, .slice A10 s.pend.length c10]] w (Put w (segC s) (encSeg s)) := by
 have HC := Aside0.mk (fun (W : World) (hb : Below w.heap.size w W) => fitSegment_calls s W w.heap.size A5 c5 A7 c7 A8 c8 A9 c9 A10 c10 (In.ofC h5 hb (Nat.le_refl _)) (In.ofC h7 hb (Nat.le_refl _)) (In.ofC h8 hb (Nat.le_refl _)) (In.ofC h9 hb (Nat.le_refl _)) (In.ofC h10 hb (Nat.le_refl _)) hb.size)
 have HI5 := Aside0.mk h5
 have HI7 := Aside0.mk h7
 have HI8 := Aside0.mk h8
 have HI9 := Aside0.mk h9
 have HI10 := Aside0.mk h10
 have HX := Aside0.mk hs
 have HO := Aside0.mk ho
 clear h5 h7 h8 h9 h10 hs ho
 unfold Put
 generalize hq : (segC s) = q at HC ⊢
 have HQ := Aside0.mk hq
 clear hq
 by_cases hz : q = 0
 ·subst hz
  simp only [if_pos]
  have HP := Aside0.mk (segC_ok HO.out HQ.out)
  go_enter Tryz.func22, Tryz.ntmps22
  go_wp2_with fail
  refine (HC.out _ ?hw).mono ?_
  case hw => repeat (with_reducible first | exact Below.refl _ _ | apply below_drew | apply pw_below_drewN | apply below_alloc)
  rintro e w1 ⟨rfl, hb⟩
  have HB1 := Aside0.mk (show Below w.heap.size w w1 from (below_alloc (Below.refl _ _) _).trans (hb.mono (by simp)))
  have HB := Aside0.mk ((hb.block w.heap.size (by simp)).trans (heap_alloc_new w (.cells #[.int .i64 s.id, .int .i64 s.task, .int .i64 s.base, .int .u32 s.sum, .int .i64 s.snum, .slice A5 s.cells.length c5, .int .i64 s.dnum, .slice A7 s.set.length c7, .slice A8 s.gone.length c8, .slice A9 s.logs.length c9, .slice A10 s.pend.length c10] 38)))
  clear hb
  have n0_0 := blk_cell HB.out 0
  have n0_1 := blk_cell HB.out 1
  have n0_2 := blk_cell HB.out 2
  have n0_3 := blk_cell HB.out 3
  have n0_4 := blk_cell HB.out 4
  have n0_5 := blk_cell HB.out 5
  have n0_6 := blk_cell HB.out 6
  have n0_7 := blk_cell HB.out 7
  have n0_8 := blk_cell HB.out 8
  have n0_9 := blk_cell HB.out 9
  have n0_10 := blk_cell HB.out 10
  simp only [List.getElem?_toArray, List.getElem?_cons_succ, List.getElem?_cons_zero] at n0_0 n0_1 n0_2 n0_3 n0_4 n0_5 n0_6 n0_7 n0_8 n0_9 n0_10
  go_wp2_with fail
  refine (putSegment_calls _ s A5 A7 A8 A9 A10 c5 c7 c8 c9 c10 (In.ofC HI5.out HB1.out HB1.out.size) (In.ofC HI7.out HB1.out HB1.out.size) (In.ofC HI8.out HB1.out HB1.out.size) (In.ofC HI9.out HB1.out HB1.out.size) (In.ofC HI10.out HB1.out HB1.out.size) l5 l7 l8 l9 l10 HP.out.1 HP.out.2).mono ?_
  rintro e w2 ⟨u, rfl, h1, h2⟩
  have HR := Aside0.mk h1
  have HE := Aside0.mk h2
  clear h1 h2
  go_wp2
  go_ret2
  exact ⟨u, rfl, HR.out.lower HB1.out.size, HB1.out.trans (HE.out.mono HB1.out.size)⟩
 ·skip
  go_enter Tryz.func22, Tryz.ntmps22
  go_wp2_with fail
  refine (HC.out _ ?hw).mono ?_
  case hw => repeat (with_reducible first | exact Below.refl _ _ | apply below_drew | apply pw_below_drewN | apply below_alloc)
  rintro e w1 ⟨rfl, hb⟩
  have HB1 := Aside0.mk (show Below w.heap.size w w1 from (below_alloc (Below.refl _ _) _).trans (hb.mono (by simp)))
  clear hb
  have hqb : (q != 0) = true := by simpa using hz
  go_wp2
  go_ret2
  exact ⟨.slice none 0 0, rfl, by first | exact R5.nil _ _ | (rw [if_neg hz]; exact R5.nil _ _), HB1.out⟩
end Go.Proofs.YthmkioodkldgbaaGreat.DK
