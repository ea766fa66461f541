/- value.CheckState: the first fault; conditions: those in each theorem. -/
import Derived.Test.YthmkioodkldgbaaGreatQuM09
import Derived.Deep.CutBlock
import Derived.Deep.CutRange
namespace Go.Proofs.YthmkioodkldgbaaGreat.DK
open Go.Proofs.YthmkioodkldgbaaGreat.PD
open Go.RowKit Go.Proofs.YthmkioodkldgbaaGreatW.PrintWords Go.Proofs.YthmkioodkldgbaaGreatW.PrintLast Go.Proofs.YthmkioodkldgbaaGreatW.PrintMore
set_option linter.unusedVariables false
set_option linter.unusedSimpArgs false
set_option maxRecDepth 100000
/-- The key ahead of the i-th. -/
def prev (l : List S121) : Nat → Option ByteArray
 | 0 => none
 | j + 1 => (l[j]?).map (·.f0)
def OneBox (w : World) (o : Obj) (wr : World) : Prop := wr.heap[w.heap.size]? = some o
theorem OneBox.next {w wr w' : World} {o : Obj} (h : OneBox w o wr) (hb : Below wr.heap.size wr w') : OneBox w o w' := (hb.block _ (blk_lt h)).trans h
set_option maxHeartbeats 8000000 in
theorem CheckState_calls (n : Int) (l : List S121) (w : World) (b : Nat) (A : Option Addr) (c : Nat) (h : In k121 b w A l) (hb : b ≤ w.heap.size) :
  Calls Tryz.prog 50 #[.agg #[.int .i64 n, .slice A l.length c]] w (Fault w (stateC n l)) := by
 have HA := Aside0.mk h
 have hm : l.length ≤ 9223372036854775807 := h.max
 clear h
 have hu31 := Tryz.underlying30
 have hu121 := Tryz.underlying129
 have hu25 := Tryz.underlying24
 unfold stateC
 by_cases c0 : n < 0
 ·rw [if_pos (.inl c0)]
  go_enter Tryz.func50, Tryz.ntmps50
  go_wp2
  go_ret
  exact ⟨rfl, below_alloc (Below.refl _ _) _⟩
 by_cases c1 : 1073741824 < n
 ·rw [if_pos (.inr c1)]
  go_enter Tryz.func50, Tryz.ntmps50
  go_wp2
  go_ret
  exact ⟨rfl, below_alloc (Below.refl _ _) _⟩
 rw [if_neg (by omega)]
 by_cases c2 : 64 < l.length
 ·rw [if_pos c2]
  go_enter Tryz.func50, Tryz.ntmps50
  go_wp2
  go_ret
  exact ⟨rfl, below_alloc (Below.refl _ _) _⟩
 rw [if_neg c2]
 generalize hp : cellsL none l = p
 have HP := Aside0.mk hp
 clear hp
 go_enter Tryz.func50, Tryz.ntmps50
 go_wp2
 go_loopw [23] (fun iv wr => FltE (OneBox w (.cells #[.int .i64 n, .slice A l.length c] 30 (0, 0))) w l.length (fun i => cellsL (prev l i) (l.drop i)) p iv wr) (fun iv _ => l.length - (intOf iv).toNat)
 case atStart => exact FltI.start (by rw [List.drop_zero]; exact HP.out) (below_alloc (Below.refl _ _) _) (heap_alloc_new w _)
 case round =>
  obtain ⟨i, rfl, HI⟩ := hrel
  have HX := Aside0.mk HI
  have hle := HI.le
  have heq := HI.eq
  clear HI
  by_cases hlt : i < l.length
  ·have hbr : b ≤ wr.heap.size := Nat.le_trans hb HX.out.b.size
   have hIN := HA.out.ext (HX.out.b.mono hb)
   have HIN := Aside0.mk hIN
   obtain ⟨ad, A1, c1, rfl, d0, d1, l1, g1⟩ := hIN.at121 hlt
   have G1 := Aside0.mk g1
   have hx : (l[i]).f1.length ≤ 9223372036854775807 := g1.max
   rw [drop_cons hlt, cellsL_cons] at heq
   have HEQ := Aside0.mk heq
   have HPV := Aside0.mk (rfl : prev l (i + 1) = prev l (i + 1))
   clear g1 hIN heq
   have HPR : Aside0 (prev l (i + 1) = some (l[i]).f0) := Aside0.mk (by rw [prev, List.getElem?_eq_getElem hlt]; rfl)
   generalize l[i] = x at *
   obtain ⟨k, v⟩ := x
   dsimp only at *
   by_cases k1 : 12 < k.size
   ·obtain rfl := (if_pos k1).symm.trans HEQ.out
    go_wp2
    go_ret
    exact ⟨rfl, HX.out.b.trans ((below_alloc (Below.refl _ _) _).mono HX.out.b.size)⟩
   replace HEQ := Aside0.mk ((if_neg k1).symm.trans HEQ.out)
   go_wp2
   have HW := Aside0.mk (heap_alloc_new wr (.cells #[.string k, .slice A1 v.length c1] 129))
   have HO := Aside0.mk (blk_alloc HX.out.k (.cells #[.string k, .slice A1 v.length c1] 129))
   obtain ⟨wo, rfl⟩ : ∃ x, x = wr := ⟨wr, rfl⟩
   have m0 := blk_cell HW.out 0
   have m1 := blk_cell HO.out 1
   simp only [List.getElem?_toArray, List.getElem?_cons_succ, List.getElem?_cons_zero] at m0 m1
   have HK2 := Aside0.mk HX.out.k
   by_cases hi : 0 < i
   case neg =>
    have hz : ¬ (0 : Int) < (i : Int) := by omega
    have HPJ : Aside0 (prev l i = none) := Aside0.mk (by cases i with | zero => rfl | succ j => omega)
    rw [HPJ.out] at HEQ
    replace HEQ : Aside0 ((if false = true then (27 : Int) else if 6 < v.length then 27 else if valsC v = 0 then cellsL (some k) (List.drop (i + 1) l) else valsC v) = p) := HEQ
    refine start_ (n := 14) (S := fun w' => w'.cell? ⟨wo.heap.size, 0, none⟩ = some (.string k) ∧ w'.cell? ⟨w.heap.size, 1, none⟩ = some (.slice (some ad) l.length c)) (ds := []) #[false, false, false, false, false, false, false, false, false, false, false, false, false, false] (by kernel_rfl) rfl rfl ⟨m0, m1⟩ (fun hHeld => ?_)
    refine zq 0 (some 32) ?_
    refine zq 1 (some 33) ?_
    refine zq 2 (some 34) ?_
    refine pure_ (i := 3) (N := some 35) (v := undef) (a' := ?_) #[true, true, true, true, false, false, false, false, false, false, false, false, false, false] rfl rfl (by kernel_rfl) (fun _ _ _ h => h) (Or.inr ⟨by rfl, rfl⟩) ?_ ?_
    rotate_left
    ·simp only [Act.put, zla, zlb, zlc, i64_w, i32_w]
     rfl
    refine pure_ (i := 4) (N := some 36) (v := undef) (a' := ?_) #[true, true, true, true, true, false, false, false, false, false, false, false, false, false] rfl rfl (by kernel_rfl) (fun _ _ _ h => h) (Or.inr ⟨by rfl, rfl⟩) ?_ ?_
    rotate_left
    ·simp only [Act.put, zla, zlb, zlc, i64_w, i32_w]
     rfl
    refine pure_ (i := 5) (N := some 37) (v := undef) (a' := ?_) #[true, true, true, true, true, true, false, false, false, false, false, false, false, false] rfl rfl (by kernel_rfl) (fun _ _ _ h => h) (Or.inr ⟨by rfl, rfl⟩) ?_ ?_
    rotate_left
    ·simp only [Act.put, zla, zlb, zlc, i64_w, i32_w]
     rfl
    refine pure_ (i := 6) (N := some 38) (v := undef) (a' := ?_) #[true, true, true, true, true, true, true, false, false, false, false, false, false, false] rfl rfl (by kernel_rfl) (fun _ _ _ h => h) (Or.inr ⟨by rfl, rfl⟩) ?_ ?_
    rotate_left
    ·simp only [Act.put, zla, zlb, zlc, i64_w, i32_w]
     rfl
    refine pure_ (i := 7) (N := some 39) (v := undef) (a' := ?_) #[true, true, true, true, true, true, true, true, false, false, false, false, false, false] rfl rfl (by kernel_rfl) (fun _ _ _ h => h) (Or.inr ⟨by rfl, rfl⟩) ?_ ?_
    rotate_left
    ·simp only [Act.put, zla, zlb, zlc, i64_w, i32_w]
     rfl
    refine pure_ (i := 8) (N := some 40) (v := undef) (a' := ?_) #[true, true, true, true, true, true, true, true, true, false, false, false, false, false] rfl rfl (by kernel_rfl) (fun _ _ _ h => h) (Or.inr ⟨by rfl, rfl⟩) ?_ ?_
    rotate_left
    ·simp only [Act.put, zla, zlb, zlc, i64_w, i32_w]
     rfl
    refine pure_ (i := 9) (N := some 41) (v := undef) (a' := ?_) #[true, true, true, true, true, true, true, true, true, true, false, false, false, false] rfl rfl (by kernel_rfl) (fun _ _ _ h => h) (Or.inr ⟨by rfl, rfl⟩) ?_ ?_
    rotate_left
    ·simp only [Act.put, zla, zlb, zlc, i64_w, i32_w]
     rfl
    refine pure_ (i := 10) (N := some 42) (v := undef) (a' := ?_) #[true, true, true, true, true, true, true, true, true, true, true, false, false, false] rfl rfl (by kernel_rfl) (fun _ _ _ h => h) (Or.inr ⟨by rfl, rfl⟩) ?_ ?_
    rotate_left
    ·simp only [Act.put, zla, zlb, zlc, i64_w, i32_w]
     rfl
    refine pure_ (i := 11) (N := some 43) (v := undef) (a' := ?_) #[true, true, true, true, true, true, true, true, true, true, true, true, false, false] rfl rfl (by kernel_rfl) (fun _ _ _ h => h) (Or.inr ⟨by rfl, rfl⟩) ?_ ?_
    rotate_left
    ·simp only [Act.put, zla, zlb, zlc, i64_w, i32_w]
     rfl
    refine pure_ (i := 12) (N := some 44) (v := undef) (a' := ?_) #[true, true, true, true, true, true, true, true, true, true, true, true, true, false] rfl rfl (by kernel_rfl) (fun _ _ _ h => h) (Or.inr ⟨by rfl, rfl⟩) ?_ ?_
    rotate_left
    ·simp only [Act.put, zla, zlb, zlc, i64_w, i32_w]
     rfl
    refine zq 13 (some 45) ?_
    refine done_ (by kernel_rfl) ?_
    replace HEQ := Aside0.mk ((if_neg (by simp)).symm.trans HEQ.out)
    have n0 := blk_cell (blk_drew HW.out) 1
    simp only [List.getElem?_toArray, List.getElem?_cons_succ, List.getElem?_cons_zero] at n0
    by_cases k3 : 6 < v.length
    ·obtain rfl := (if_pos k3).symm.trans HEQ.out
     go_wp2
     go_ret
     exact ⟨rfl, HX.out.b.trans ((below_drew (below_alloc (Below.refl _ _) _)).mono HX.out.b.size)⟩
    replace HEQ := Aside0.mk ((if_neg k3).symm.trans HEQ.out)
    generalize hp : valsC v = p2 at *
    have HP2 := Aside0.mk hp
    clear hp
    go_wp2
    go_loopw [53] (fun jv wq => FltE (fun _ => True) wo v.length (fun j => valsC (v.drop j)) p2 jv wq) (fun jv _ => v.length - (intOf jv).toNat)
    case atStart => exact FltI.start (by rw [List.drop_zero]; exact HP2.out) (below_drew (below_alloc (Below.refl _ _) _)) trivial
    case round =>
     obtain ⟨j, rfl, HJ⟩ := hrel
     have HY := Aside0.mk HJ
     have hje := HJ.le
     have hep := HJ.eq
     clear HJ
     by_cases hjt : j < v.length
     ·have hbq : b ≤ wr.heap.size := Nat.le_trans hbr HY.out.b.size
      obtain ⟨af, A3, c3, rfl, p0, p1, p2', p3, l3, g3⟩ := (G1.out.ext (HY.out.b.mono hbr)).at25 hjt
      have HC := Aside0.mk (fun (W : World) (hw : Below wr.heap.size wr W) => value_Check.calls (v[j]).f0 (v[j]).f1 (v[j]).f2 A3 c3 (v[j]).f3 (chk v[j] 0 0).2 W (g3.ext (hw.mono hbq)).C l3 (by obtain ⟨_, _, _, _⟩ := v[j]; rfl))
      rw [drop_cons hjt, valsC] at hep
      clear g3 l3
      generalize v[j] = x at *
      generalize (chk x 0 0).2 = q at *
      go_wp2_with fail
      refine (HC.out _ ?hw).mono ?_
      case hw => repeat (with_reducible first | exact Below.refl _ _ | apply below_drew | apply pw_below_drewN | apply below_alloc)
      rintro e w5 ⟨rfl, h2⟩
      have HBL := Aside0.mk (HY.out.b.trans (((below_alloc (Below.refl wr.heap.size wr) _).trans (h2.mono (by simp))).mono HY.out.b.size))
      clear h2
      by_cases hq : q = 0
      case neg =>
       rw [if_neg hq] at hep
       subst hep
       obtain rfl := (if_neg hq).symm.trans HEQ.out
       have hq' : (q != 0) = true := bne_iff_ne.2 hq
       go_wp2
       go_ret
       exact ⟨rfl, HX.out.b.trans (HBL.out.mono HX.out.b.size)⟩
      subst hq
      rw [if_pos rfl] at hep
      have HEP := Aside0.mk hep
      clear hep
      go_wp2
      go_roundw
      case rel => exact ⟨j + 1, by simp, hjt, HEP.out, HBL.out, trivial⟩
      case measure => simp [intOf]; omega
     ·rw [List.drop_of_length_le (by omega), valsC] at hep
      subst hep
      have hjr : ¬ (j : Int) < (v.length : Int) := by omega
      go_wp2
      go_roundw
      case rel => exact ⟨i + 1, by simp, hlt, (by rw [HPR.out]; exact (if_pos rfl).symm.trans HEQ.out), HX.out.b.trans (HY.out.b.mono HX.out.b.size), HX.out.k.next HY.out.b⟩
      case measure => simp [intOf]; omega
   have hz : (0 : Int) < (i : Int) := by omega
   obtain ⟨j, hij⟩ : ∃ j, i = j + 1 := ⟨i - 1, by omega⟩
   have hj : j < l.length := by omega
   obtain ⟨ad', A1', c1', e, d0', _, _, _⟩ := HIN.out.at121 hj
   injection e with e
   subst e
   have HPJ : Aside0 (prev l i = some (l[j]).f0) := Aside0.mk (by rw [hij, prev, List.getElem?_eq_getElem hj]; rfl)
   rw [HPJ.out] at HEQ
   generalize (l[j]).f0 = y at *
   have m2 := cell_old (below_alloc (Below.refl wo.heap.size wo) (.cells #[.string k, .slice A1 v.length c1] 129)) d0'
   have hw1 : wrap64 ((i : Int) - 1) = j := by unfold wrap64; omega
   have HIJ := Aside0.mk hij
   clear hij
   cases hl : less y k with
   | false =>
    obtain rfl := (if_pos (by simp [hl])).symm.trans HEQ.out
    have hl' : Op.bytesLess y.toList k.toList = false := hl
    refine start_ (n := 14) (S := fun w' => w'.cell? ⟨wo.heap.size, 0, none⟩ = some (.string k) ∧ w'.cell? ⟨w.heap.size, 1, none⟩ = some (.slice (some ad) l.length c) ∧ w'.cell? (ad.add (j * 2)) = some (.string y)) (ds := []) #[false, false, false, false, false, false, false, false, false, false, false, false, false, false] (by kernel_rfl) rfl rfl ⟨m0, m1, m2⟩ (fun hHeld => ?_)
    refine zp 0 (some 32) ?_ rfl rfl (by kernel_rfl) (fun _ _ _ h => h) (by rfl) ?_ ?_ ?_ ?_ ?_
    rotate_left; · (intro w'; go_simp; with_reducible rfl)
    rotate_left 2; · (simp only [Act.put, zla, zlb, zlc, i64_w, i32_w, hw1]; rfl)
    refine zp 1 (some 33) ?_ rfl rfl (by kernel_rfl) (fun _ _ _ h => h) (by rfl) ?_ ?_ ?_ ?_ ?_
    rotate_left; · (intro w'; go_simp; with_reducible rfl)
    rotate_left 2; · (simp only [Act.put, zla, zlb, zlc, i64_w, i32_w, hw1]; rfl)
    refine zp 2 (some 34) ?_ rfl rfl (by kernel_rfl) (fun _ _ _ h => h) (by rfl) ?_ ?_ ?_ ?_ ?_
    rotate_left; · (intro w'; go_simp; with_reducible rfl)
    rotate_left 2; · (simp only [Act.put, zla, zlb, zlc, i64_w, i32_w, hw1]; rfl)
    refine zp 3 (some 35) ?_ rfl rfl (by kernel_rfl) (fun _ _ _ h => h) (by rfl) ?_ ?_ ?_ ?_ ?_
    rotate_left; · (intro w'; go_simp; with_reducible rfl)
    rotate_left 2; · (simp only [Act.put, zla, zlb, zlc, i64_w, i32_w, hw1]; rfl)
    refine zp 5 (some 37) ?_ rfl rfl (by kernel_rfl) (fun _ _ _ h => h) (by rfl) ?_ ?_ ?_ ?_ ?_
    rotate_left; · (intro w'; go_simp; with_reducible rfl)
    rotate_left 2; · (simp only [Act.put, zla, zlb, zlc, i64_w, i32_w, hw1]; rfl)
    refine zp 7 (some 39) ?_ rfl rfl (by kernel_rfl) (fun _ _ _ h => h) (by rfl) ?_ ?_ ?_ ?_ ?_
    rotate_left; · (intro w'; go_simp; with_reducible rfl)
    rotate_left 2; · (simp only [Act.put, zla, zlb, zlc, i64_w, i32_w, hw1]; rfl)
    refine zp 8 (some 40) ?_ rfl rfl (by kernel_rfl) (fun _ _ _ h => h) (by rfl) ?_ ?_ ?_ ?_ ?_
    rotate_left; · (intro w'; go_simp; with_reducible rfl)
    rotate_left 2; · (simp only [Act.put, zla, zlb, zlc, i64_w, i32_w, hw1]; rfl)
    refine zt 4 (some 36) ?_ rfl rfl (by kernel_rfl) (fun _ _ _ h => h) (by rfl) ?_ hHeld ?_ ?_ ?_ ?_
    rotate_left; · (rintro w' ⟨s0, s1, s2⟩; go_simp; with_reducible rfl)
    rotate_left 2; · (simp only [Act.put, zla, zlb, zlc, i64_w, i32_w, hw1]; rfl)
    refine zt 6 (some 38) ?_ rfl rfl (by kernel_rfl) (fun _ _ _ h => h) (by rfl) ?_ hHeld ?_ ?_ ?_ ?_
    rotate_left; · (rintro w' ⟨s0, s1, s2⟩; go_simp; with_reducible rfl)
    rotate_left 2; · (simp only [Act.put, zla, zlb, zlc, i64_w, i32_w, hw1]; rfl)
    refine zp 9 (some 41) ?_ rfl rfl (by kernel_rfl) (fun _ _ _ h => h) (by rfl) ?_ ?_ ?_ ?_ ?_
    rotate_left; · (intro w'; go_simp; with_reducible rfl)
    rotate_left 2; · (simp only [Act.put, zla, zlb, zlc, i64_w, i32_w, hw1]; rfl)
    refine zp 10 (some 42) ?_ rfl rfl (by kernel_rfl) (fun _ _ _ h => h) (by rfl) ?_ ?_ ?_ ?_ ?_
    rotate_left; · (intro w'; go_simp; with_reducible rfl)
    rotate_left 2; · (simp only [Act.put, zla, zlb, zlc, i64_w, i32_w, hw1]; rfl)
    refine zt 11 (some 43) ?_ rfl rfl (by kernel_rfl) (fun _ _ _ h => h) (by rfl) ?_ hHeld ?_ ?_ ?_ ?_
    rotate_left; · (rintro w' ⟨s0, s1, s2⟩; go_simp; with_reducible rfl)
    rotate_left 2; · (simp only [Act.put, zla, zlb, zlc, i64_w, i32_w, hw1]; rfl)
    refine zp 12 (some 44) ?_ rfl rfl (by kernel_rfl) (fun _ _ _ h => h) (by rfl) ?_ ?_ ?_ ?_ ?_
    rotate_left; · (intro w'; go_simp; with_reducible rfl)
    rotate_left 2; · (simp only [Act.put, zla, zlb, zlc, i64_w, i32_w, hw1]; rfl)
    refine zp 13 (some 45) ?_ rfl rfl (by kernel_rfl) (fun _ _ _ h => h) (by rfl) ?_ ?_ ?_ ?_ ?_
    rotate_left; · (intro w'; go_simp; with_reducible rfl)
    rotate_left 2; · (simp only [Act.put, zla, zlb, zlc, i64_w, i32_w, hw1]; rfl)
    refine done_ (by kernel_rfl) ?_
    go_wp2
    go_ret
    exact ⟨rfl, HX.out.b.trans ((below_drew (below_alloc (Below.refl _ _) _)).mono HX.out.b.size)⟩
   | true =>
    have hl' : Op.bytesLess y.toList k.toList = true := hl
    replace HEQ : Aside0 ((if (!less y k) = true then (27 : Int) else if 6 < v.length then 27 else if valsC v = 0 then cellsL (some k) (List.drop (i + 1) l) else valsC v) = p) := HEQ
    rw [hl] at HEQ
    refine start_ (n := 14) (S := fun w' => w'.cell? ⟨wo.heap.size, 0, none⟩ = some (.string k) ∧ w'.cell? ⟨w.heap.size, 1, none⟩ = some (.slice (some ad) l.length c) ∧ w'.cell? (ad.add (j * 2)) = some (.string y)) (ds := []) #[false, false, false, false, false, false, false, false, false, false, false, false, false, false] (by kernel_rfl) rfl rfl ⟨m0, m1, m2⟩ (fun hHeld => ?_)
    refine zp 0 (some 32) ?_ rfl rfl (by kernel_rfl) (fun _ _ _ h => h) (by rfl) ?_ ?_ ?_ ?_ ?_
    rotate_left; · (intro w'; go_simp; with_reducible rfl)
    rotate_left 2; · (simp only [Act.put, zla, zlb, zlc, i64_w, i32_w, hw1]; rfl)
    refine zp 1 (some 33) ?_ rfl rfl (by kernel_rfl) (fun _ _ _ h => h) (by rfl) ?_ ?_ ?_ ?_ ?_
    rotate_left; · (intro w'; go_simp; with_reducible rfl)
    rotate_left 2; · (simp only [Act.put, zla, zlb, zlc, i64_w, i32_w, hw1]; rfl)
    refine zp 2 (some 34) ?_ rfl rfl (by kernel_rfl) (fun _ _ _ h => h) (by rfl) ?_ ?_ ?_ ?_ ?_
    rotate_left; · (intro w'; go_simp; with_reducible rfl)
    rotate_left 2; · (simp only [Act.put, zla, zlb, zlc, i64_w, i32_w, hw1]; rfl)
    refine zp 3 (some 35) ?_ rfl rfl (by kernel_rfl) (fun _ _ _ h => h) (by rfl) ?_ ?_ ?_ ?_ ?_
    rotate_left; · (intro w'; go_simp; with_reducible rfl)
    rotate_left 2; · (simp only [Act.put, zla, zlb, zlc, i64_w, i32_w, hw1]; rfl)
    refine zp 5 (some 37) ?_ rfl rfl (by kernel_rfl) (fun _ _ _ h => h) (by rfl) ?_ ?_ ?_ ?_ ?_
    rotate_left; · (intro w'; go_simp; with_reducible rfl)
    rotate_left 2; · (simp only [Act.put, zla, zlb, zlc, i64_w, i32_w, hw1]; rfl)
    refine zp 7 (some 39) ?_ rfl rfl (by kernel_rfl) (fun _ _ _ h => h) (by rfl) ?_ ?_ ?_ ?_ ?_
    rotate_left; · (intro w'; go_simp; with_reducible rfl)
    rotate_left 2; · (simp only [Act.put, zla, zlb, zlc, i64_w, i32_w, hw1]; rfl)
    refine zp 8 (some 40) ?_ rfl rfl (by kernel_rfl) (fun _ _ _ h => h) (by rfl) ?_ ?_ ?_ ?_ ?_
    rotate_left; · (intro w'; go_simp; with_reducible rfl)
    rotate_left 2; · (simp only [Act.put, zla, zlb, zlc, i64_w, i32_w, hw1]; rfl)
    refine zt 4 (some 36) ?_ rfl rfl (by kernel_rfl) (fun _ _ _ h => h) (by rfl) ?_ hHeld ?_ ?_ ?_ ?_
    rotate_left; · (rintro w' ⟨s0, s1, s2⟩; go_simp; with_reducible rfl)
    rotate_left 2; · (simp only [Act.put, zla, zlb, zlc, i64_w, i32_w, hw1]; rfl)
    refine zt 6 (some 38) ?_ rfl rfl (by kernel_rfl) (fun _ _ _ h => h) (by rfl) ?_ hHeld ?_ ?_ ?_ ?_
    rotate_left; · (rintro w' ⟨s0, s1, s2⟩; go_simp; with_reducible rfl)
    rotate_left 2; · (simp only [Act.put, zla, zlb, zlc, i64_w, i32_w, hw1]; rfl)
    refine zp 9 (some 41) ?_ rfl rfl (by kernel_rfl) (fun _ _ _ h => h) (by rfl) ?_ ?_ ?_ ?_ ?_
    rotate_left; · (intro w'; go_simp; with_reducible rfl)
    rotate_left 2; · (simp only [Act.put, zla, zlb, zlc, i64_w, i32_w, hw1]; rfl)
    refine zp 10 (some 42) ?_ rfl rfl (by kernel_rfl) (fun _ _ _ h => h) (by rfl) ?_ ?_ ?_ ?_ ?_
    rotate_left; · (intro w'; go_simp; with_reducible rfl)
    rotate_left 2; · (simp only [Act.put, zla, zlb, zlc, i64_w, i32_w, hw1]; rfl)
    refine zt 11 (some 43) ?_ rfl rfl (by kernel_rfl) (fun _ _ _ h => h) (by rfl) ?_ hHeld ?_ ?_ ?_ ?_
    rotate_left; · (rintro w' ⟨s0, s1, s2⟩; go_simp; with_reducible rfl)
    rotate_left 2; · (simp only [Act.put, zla, zlb, zlc, i64_w, i32_w, hw1]; rfl)
    refine zp 12 (some 44) ?_ rfl rfl (by kernel_rfl) (fun _ _ _ h => h) (by rfl) ?_ ?_ ?_ ?_ ?_
    rotate_left; · (intro w'; go_simp; with_reducible rfl)
    rotate_left 2; · (simp only [Act.put, zla, zlb, zlc, i64_w, i32_w, hw1]; rfl)
    refine zp 13 (some 45) ?_ rfl rfl (by kernel_rfl) (fun _ _ _ h => h) (by rfl) ?_ ?_ ?_ ?_ ?_
    rotate_left; · (intro w'; go_simp; with_reducible rfl)
    rotate_left 2; · (simp only [Act.put, zla, zlb, zlc, i64_w, i32_w, hw1]; rfl)
    refine done_ (by kernel_rfl) ?_
    replace HEQ := Aside0.mk ((if_neg (by simp)).symm.trans HEQ.out)
    have n0 := blk_cell (blk_drew HW.out) 1
    simp only [List.getElem?_toArray, List.getElem?_cons_succ, List.getElem?_cons_zero] at n0
    by_cases k3 : 6 < v.length
    ·obtain rfl := (if_pos k3).symm.trans HEQ.out
     go_wp2
     go_ret
     exact ⟨rfl, HX.out.b.trans ((below_drew (below_alloc (Below.refl _ _) _)).mono HX.out.b.size)⟩
    replace HEQ := Aside0.mk ((if_neg k3).symm.trans HEQ.out)
    generalize hp : valsC v = p2 at *
    have HP2 := Aside0.mk hp
    clear hp
    go_wp2
    go_loopw [53] (fun jv wq => FltE (fun _ => True) wo v.length (fun j => valsC (v.drop j)) p2 jv wq) (fun jv _ => v.length - (intOf jv).toNat)
    case atStart => exact FltI.start (by rw [List.drop_zero]; exact HP2.out) (below_drew (below_alloc (Below.refl _ _) _)) trivial
    case round =>
     obtain ⟨j, rfl, HJ⟩ := hrel
     have HY := Aside0.mk HJ
     have hje := HJ.le
     have hep := HJ.eq
     clear HJ
     by_cases hjt : j < v.length
     ·have hbq : b ≤ wr.heap.size := Nat.le_trans hbr HY.out.b.size
      obtain ⟨af, A3, c3, rfl, p0, p1, p2', p3, l3, g3⟩ := (G1.out.ext (HY.out.b.mono hbr)).at25 hjt
      have HC := Aside0.mk (fun (W : World) (hw : Below wr.heap.size wr W) => value_Check.calls (v[j]).f0 (v[j]).f1 (v[j]).f2 A3 c3 (v[j]).f3 (chk v[j] 0 0).2 W (g3.ext (hw.mono hbq)).C l3 (by obtain ⟨_, _, _, _⟩ := v[j]; rfl))
      rw [drop_cons hjt, valsC] at hep
      clear g3 l3
      generalize v[j] = x at *
      generalize (chk x 0 0).2 = q at *
      go_wp2_with fail
      refine (HC.out _ ?hw).mono ?_
      case hw => repeat (with_reducible first | exact Below.refl _ _ | apply below_drew | apply pw_below_drewN | apply below_alloc)
      rintro e w5 ⟨rfl, h2⟩
      have HBL := Aside0.mk (HY.out.b.trans (((below_alloc (Below.refl wr.heap.size wr) _).trans (h2.mono (by simp))).mono HY.out.b.size))
      clear h2
      by_cases hq : q = 0
      case neg =>
       rw [if_neg hq] at hep
       subst hep
       obtain rfl := (if_neg hq).symm.trans HEQ.out
       have hq' : (q != 0) = true := bne_iff_ne.2 hq
       go_wp2
       go_ret
       exact ⟨rfl, HX.out.b.trans (HBL.out.mono HX.out.b.size)⟩
      subst hq
      rw [if_pos rfl] at hep
      have HEP := Aside0.mk hep
      clear hep
      go_wp2
      go_roundw
      case rel => exact ⟨j + 1, by simp, hjt, HEP.out, HBL.out, trivial⟩
      case measure => simp [intOf]; omega
     ·rw [List.drop_of_length_le (by omega), valsC] at hep
      subst hep
      have hjr : ¬ (j : Int) < (v.length : Int) := by omega
      go_wp2
      go_roundw
      case rel => exact ⟨i + 1, by simp, hlt, (by rw [HPR.out]; exact (if_pos rfl).symm.trans HEQ.out), HX.out.b.trans (HY.out.b.mono HX.out.b.size), HX.out.k.next HY.out.b⟩
      case measure => simp [intOf]; omega
  ·rw [List.drop_of_length_le (by omega), cellsL_nil] at heq
   subst heq
   have hir : ¬ (i : Int) < (l.length : Int) := by omega
   go_wp2
   go_ret
   exact ⟨rfl, HX.out.b⟩
end Go.Proofs.YthmkioodkldgbaaGreat.DK
/- wire.fitDelta, fitSegment: the first fault; conditions: those in each theorem. -/
namespace Go.Proofs.YthmkioodkldgbaaGreat.DK
open Go.Proofs.YthmkioodkldgbaaGreat.PD
open Go.RowKit Go.Proofs.YthmkioodkldgbaaGreatW.PrintWords Go.Proofs.YthmkioodkldgbaaGreatW.PrintLast Go.Proofs.YthmkioodkldgbaaGreatW.PrintMore
set_option linter.unusedVariables false
set_option linter.unusedSimpArgs false
set_option maxRecDepth 100000
def prevK (l : List ByteArray) : Nat → Option ByteArray
 | 0 => none
 | j + 1 => l[j]?
set_option maxHeartbeats 8000000 in
theorem fitDelta_calls (n : Int) (se : List S121) (l : List ByteArray) (w : World) (b : Nat) (A7 : Option Addr) (c7 : Nat) (A : Option Addr) (c : Nat) (h7 : In k121 b w A7 se) (h : In Kd.string b w A l) (hb : b ≤ w.heap.size) :
  Calls Tryz.prog 92 #[.agg #[.int .i64 n, .slice A7 se.length c7, .slice A l.length c]] w (Fault w (if stateC n se = 0 then goneC l else stateC n se)) := by
 have HV := Aside0.mk (fun (W : World) (hw : Below w.heap.size w W) => CheckState_calls n se W b A7 c7 (h7.ext (hw.mono hb)) (Nat.le_trans hb hw.size))
 have HA := Aside0.mk h
 have hm : l.length ≤ 9223372036854775807 := h.max
 clear h7 h
 have hu35 := Tryz.underlying34
 have hu31 := Tryz.underlying30
 generalize hr : (if stateC n se = 0 then goneC l else stateC n se) = r
 have HQ := Aside0.mk hr
 clear hr
 generalize stateC n se = q at *
 have H0 := Aside0.mk (heap_alloc_new w (.cells #[.int .i64 n, .slice A7 se.length c7, .slice A l.length c] 34))
 go_enter Tryz.func92, Tryz.ntmps92
 go_wp2_with fail
 refine (HV.out _ (below_alloc (Below.refl _ _) _)).mono ?_
 rintro e w5 ⟨rfl, h2⟩
 have HT := Aside0.mk ((h2.block w.heap.size (by simp)).trans H0.out)
 have HBL := Aside0.mk ((below_alloc (Below.refl w.heap.size w) _).trans (h2.mono (by simp)))
 clear h2 H0 HV
 by_cases hq : q = 0
 case neg =>
  obtain rfl := (if_neg hq).symm.trans HQ.out
  have hq' : (q != 0) = true := bne_iff_ne.2 hq
  go_wp2
  go_ret
  exact ⟨rfl, HBL.out⟩
 subst hq
 have HP := Aside0.mk ((if_pos rfl).symm.trans HQ.out)
 clear HQ
 have x0 := blk_cell HT.out 0
 have x1 := blk_cell HT.out 1
 have x2 := blk_cell HT.out 2
 have fx0 := blk_frozen HT.out 0
 have fx1 := blk_frozen HT.out 1
 have fx2 := blk_frozen HT.out 2
 simp only [List.getElem?_toArray, List.getElem?_cons_succ, List.getElem?_cons_zero] at x0 x1 x2
 by_cases c3 : 64 < l.length
 ·obtain rfl : 43 = r := by have h := HP.out; unfold goneC at h; rwa [if_pos c3] at h
  go_wp2
  go_ret
  exact ⟨rfl, HBL.out⟩
 replace HP : Aside0 (goneL none l = r) := Aside0.mk (by have h := HP.out; unfold goneC at h; rwa [if_neg c3] at h)
 go_wp2
 go_loopw [22] (fun iv wr => FltE (OneBox w (.cells #[.int .i64 n, .slice A7 se.length c7, .slice A l.length c] 34 (0, 0))) w l.length (fun i => goneL (prevK l i) (l.drop i)) r iv wr) (fun iv _ => l.length - (intOf iv).toNat)
 case atStart => exact FltI.start (by rw [List.drop_zero]; exact HP.out) HBL.out HT.out
 case round =>
  clear x0 x1 x2 fx0 fx1 fx2
  obtain ⟨i, rfl, HI⟩ := hrel
  have HX := Aside0.mk HI
  have hle := HI.le
  have heq := HI.eq
  clear HI
  by_cases hlt : i < l.length
  ·have hIN := HA.out.ext (HX.out.b.mono hb)
   have HIN := Aside0.mk hIN
   obtain ⟨ad, rfl, d0⟩ := hIN.atString hlt
   rw [drop_cons hlt, goneL_cons] at heq
   have HEQ := Aside0.mk heq
   clear hIN heq
   have HPR : Aside0 (prevK l (i + 1) = some l[i]) := Aside0.mk (by rw [prevK, List.getElem?_eq_getElem hlt])
   generalize l[i] = k at *
   by_cases k1 : 12 < k.size
   ·obtain rfl := (if_pos k1).symm.trans HEQ.out
    go_wp2
    go_ret
    exact ⟨rfl, HX.out.b⟩
   replace HEQ := Aside0.mk ((if_neg k1).symm.trans HEQ.out)
   by_cases hi : 0 < i
   case neg =>
    have hz : ¬ (0 : Int) < (i : Int) := by omega
    have HPJ : Aside0 (prevK l i = none) := Aside0.mk (by cases i with | zero => rfl | succ j => omega)
    rw [HPJ.out] at HEQ
    go_wp2
    go_roundw
    case rel => exact ⟨i + 1, by simp, hlt, (by rw [HPR.out]; exact (if_neg (by simp)).symm.trans HEQ.out), HX.out.b, HX.out.k⟩
    case measure => simp [intOf]; omega
   have hz : (0 : Int) < (i : Int) := by omega
   obtain ⟨j, hij⟩ : ∃ j, i = j + 1 := ⟨i - 1, by omega⟩
   have hj : j < l.length := by omega
   obtain ⟨ad', e, d0'⟩ := HIN.out.atString hj
   injection e with e
   subst e
   have HPJ : Aside0 (prevK l i = some l[j]) := Aside0.mk (by rw [hij, prevK, List.getElem?_eq_getElem hj])
   rw [HPJ.out] at HEQ
   generalize l[j] = y at *
   have d1 : wr.cell? (ad.add (i - 1)) = some (.string y) := by rw [show i - 1 = j from by omega]; exact d0'
   have hw1 : wrap64 ((i : Int) - 1) = j := by unfold wrap64; omega
   have HIJ := Aside0.mk hij
   clear hij
   have n2 := blk_cell HX.out.k 2
   have fn2 := blk_frozen HX.out.k 2
   simp only [List.getElem?_toArray, List.getElem?_cons_succ, List.getElem?_cons_zero] at n2
   cases hl : less y k with
   | false =>
    obtain rfl := (if_pos (by simp [hl])).symm.trans HEQ.out
    have hl' : Op.bytesLess y.toList k.toList = false := hl
    go_wp2
    go_ret
    exact ⟨rfl, HX.out.b⟩
   | true =>
    have hl' : Op.bytesLess y.toList k.toList = true := hl
    go_wp2
    go_roundw
    case rel => exact ⟨i + 1, by simp, hlt, (by rw [HPR.out]; exact (if_neg (by simp [hl])).symm.trans HEQ.out), HX.out.b, HX.out.k⟩
    case measure => simp [intOf]; omega
  ·rw [List.drop_of_length_le (by omega), goneL_nil] at heq
   subst heq
   have hir : ¬ (i : Int) < (l.length : Int) := by omega
   go_wp2
   go_ret
   exact ⟨rfl, HX.out.b⟩
end Go.Proofs.YthmkioodkldgbaaGreat.DK
/- wire.fitSegment: the first fault; conditions: those in each theorem. -/
namespace Go.Proofs.YthmkioodkldgbaaGreat.DK
open Go.Proofs.YthmkioodkldgbaaGreat.PD
open Go.RowKit Go.Proofs.YthmkioodkldgbaaGreatW.PrintWords Go.Proofs.YthmkioodkldgbaaGreatW.PrintLast Go.Proofs.YthmkioodkldgbaaGreatW.PrintMore
set_option linter.unusedVariables false
set_option linter.unusedSimpArgs false
set_option maxRecDepth 100000
set_option maxHeartbeats 16000000 in
theorem fitSegment_calls (s : Seg) (w : World) (b : Nat) (A5 : Option Addr) (c5 : Nat) (A7 : Option Addr) (c7 : Nat) (A8 : Option Addr) (c8 : Nat) (A9 : Option Addr) (c9 : Nat) (A10 : Option Addr) (c10 : Nat) (h5 : In k121 b w A5 s.cells) (h7 : In k121 b w A7 s.set) (h8 : In Kd.string b w A8 s.gone) (h9 : In (Kd.slice 27 k28) b w A9 s.logs) (h10 : In k28 b w A10 s.pend) (hb : b ≤ w.heap.size) :
  Calls Tryz.prog 52 #[.agg #[.int .i64 s.id, .int .i64 s.task, .int .i64 s.base, .int .u32 s.sum, .int .i64 s.snum, .slice A5 s.cells.length c5, .int .i64 s.dnum, .slice A7 s.set.length c7, .slice A8 s.gone.length c8, .slice A9 s.logs.length c9, .slice A10 s.pend.length c10]] w (Fault w (segC s)) := by
 generalize hr : segC s = r
 have HQ := Aside0.mk hr
 clear hr
 obtain ⟨i, ta, ba, su, sn, ce, dn, se, go, lo, pe⟩ := s
 dsimp only at *
 have H5 := Aside0.mk h5
 have H7 := Aside0.mk h7
 have H8 := Aside0.mk h8
 have H9 := Aside0.mk h9
 have H10 := Aside0.mk h10
 have hm : lo.length ≤ 9223372036854775807 := h9.max
 clear h5 h7 h8 h9 h10
 have hu39 := Tryz.underlying38
 have hu31 := Tryz.underlying30
 have hu35 := Tryz.underlying34
 unfold segC at HQ
 dsimp only at HQ
 by_cases c_ : i < 0
 ·obtain rfl := (if_pos (by omega)).symm.trans HQ.out
  go_enter Tryz.func52, Tryz.ntmps52
  go_wp2
  go_ret
  exact ⟨rfl, below_alloc (Below.refl _ _) _⟩
 by_cases c_ : 9999 < i
 ·obtain rfl := (if_pos (by omega)).symm.trans HQ.out
  go_enter Tryz.func52, Tryz.ntmps52
  go_wp2
  go_ret
  exact ⟨rfl, below_alloc (Below.refl _ _) _⟩
 by_cases c_ : ta < 0
 ·obtain rfl := (if_pos (by omega)).symm.trans HQ.out
  go_enter Tryz.func52, Tryz.ntmps52
  go_wp2
  go_ret
  exact ⟨rfl, below_alloc (Below.refl _ _) _⟩
 by_cases c_ : 12 ≤ ta
 ·obtain rfl := (if_pos (by omega)).symm.trans HQ.out
  go_enter Tryz.func52, Tryz.ntmps52
  go_wp2
  go_ret
  exact ⟨rfl, below_alloc (Below.refl _ _) _⟩
 by_cases c_ : ba < 0
 ·obtain rfl := (if_pos (by omega)).symm.trans HQ.out
  go_enter Tryz.func52, Tryz.ntmps52
  go_wp2
  go_ret
  exact ⟨rfl, below_alloc (Below.refl _ _) _⟩
 by_cases c_ : 9999 < ba
 ·obtain rfl := (if_pos (by omega)).symm.trans HQ.out
  go_enter Tryz.func52, Tryz.ntmps52
  go_wp2
  go_ret
  exact ⟨rfl, below_alloc (Below.refl _ _) _⟩
 replace HQ := Aside0.mk ((if_neg (by omega)).symm.trans HQ.out)
 go_enter Tryz.func52, Tryz.ntmps52
 go_upto_region 3 with fail
 go_cut [3] from 37 to 59 (fun v w' => (∃ b3 : Bool, v = .bool b3 ∧ (b3 = true ↔ noDelta ⟨i, ta, ba, su, sn, ce, dn, se, go, lo, pe⟩)) ∧ w' = w.alloc (.cells #[.int .i64 i, .int .i64 ta, .int .i64 ba, .int .u32 su, .int .i64 sn, .slice A5 ce.length c5, .int .i64 dn, .slice A7 se.length c7, .slice A8 go.length c8, .slice A9 lo.length c9, .slice A10 pe.length c10] 38))
 case first =>
  have hd : noDelta ⟨i, ta, ba, su, sn, ce, dn, se, go, lo, pe⟩ ↔ ((su == 0) = true ∧ (dn == 0) = true ∧ ((se.length : Int) == 0) = true ∧ ((go.length : Int) == 0) = true) := by unfold noDelta; simp
  have HD := Aside0.mk hd
  clear hd
  cases d1 : su == 0 with
  | false =>
   go_wp2_with fail
   go_meet
   case rel => exact ⟨⟨false, rfl, by rw [HD.out]; simp [d1]⟩, rfl⟩
  | true =>
   cases d2 : dn == 0 with
   | false =>
    go_wp2_with fail
    go_meet
    case rel => exact ⟨⟨false, rfl, by rw [HD.out]; simp [d2]⟩, rfl⟩
   | true =>
    cases d3 : (se.length : Int) == 0 with
    | false =>
     go_wp2_with fail
     go_meet
     case rel => exact ⟨⟨false, rfl, by rw [HD.out]; simp [d3]⟩, rfl⟩
    | true =>
     cases d4 : (go.length : Int) == 0 with
     | false =>
      go_wp2_with fail
      go_meet
      case rel => exact ⟨⟨false, rfl, by rw [HD.out]; simp [d4]⟩, rfl⟩
     | true =>
      go_wp2_with fail
      go_meet
      case rel => exact ⟨⟨true, rfl, by rw [HD.out]; simp [d1, d2, d3, d4]⟩, rfl⟩
 case rest =>
  obtain ⟨⟨b3, rfl, hb3⟩, rfl⟩ := hcut
  have HD := Aside0.mk hb3
  clear hb3
  go_upto_region 4 with fail
  go_cut [4] from 60 to 70 (fun v w' => (∃ b4 : Bool, v = .bool b4 ∧ (b4 = true ↔ noState ⟨i, ta, ba, su, sn, ce, dn, se, go, lo, pe⟩)) ∧ w' = w.alloc (.cells #[.int .i64 i, .int .i64 ta, .int .i64 ba, .int .u32 su, .int .i64 sn, .slice A5 ce.length c5, .int .i64 dn, .slice A7 se.length c7, .slice A8 go.length c8, .slice A9 lo.length c9, .slice A10 pe.length c10] 38))
  case first =>
   have hd : noState ⟨i, ta, ba, su, sn, ce, dn, se, go, lo, pe⟩ ↔ ((sn == 0) = true ∧ ((ce.length : Int) == 0) = true) := by unfold noState; simp
   have HS := Aside0.mk hd
   clear hd
   cases d1 : sn == 0 with
   | false =>
    go_wp2_with fail
    go_meet
    case rel => exact ⟨⟨false, rfl, by rw [HS.out]; simp [d1]⟩, rfl⟩
   | true =>
    cases d2 : (ce.length : Int) == 0 with
    | false =>
     go_wp2_with fail
     go_meet
     case rel => exact ⟨⟨false, rfl, by rw [HS.out]; simp [d2]⟩, rfl⟩
    | true =>
     go_wp2_with fail
     go_meet
     case rel => exact ⟨⟨true, rfl, by rw [HS.out]; simp [d1, d2]⟩, rfl⟩
  case rest =>
   obtain ⟨⟨b4, rfl, hb4⟩, rfl⟩ := hcut
   have HS := Aside0.mk hb4
   clear hb4
   have H0 := Aside0.mk (heap_alloc_new w (.cells #[.int .i64 i, .int .i64 ta, .int .i64 ba, .int .u32 su, .int .i64 sn, .slice A5 ce.length c5, .int .i64 dn, .slice A7 se.length c7, .slice A8 go.length c8, .slice A9 lo.length c9, .slice A10 pe.length c10] 38))
   have HB := Aside0.mk (below_alloc (Below.refl w.heap.size w) (.cells #[.int .i64 i, .int .i64 ta, .int .i64 ba, .int .u32 su, .int .i64 sn, .slice A5 ce.length c5, .int .i64 dn, .slice A7 se.length c7, .slice A8 go.length c8, .slice A9 lo.length c9, .slice A10 pe.length c10] 38))
   generalize w.alloc (.cells #[.int .i64 i, .int .i64 ta, .int .i64 ba, .int .u32 su, .int .i64 sn, .slice A5 ce.length c5, .int .i64 dn, .slice A7 se.length c7, .slice A8 go.length c8, .slice A9 lo.length c9, .slice A10 pe.length c10] 38) = w1 at *
   have hbr : b ≤ w1.heap.size := Nat.le_trans hb HB.out.size
   have x0 := blk_cell H0.out 0
   have x1 := blk_cell H0.out 1
   have x2 := blk_cell H0.out 2
   have x3 := blk_cell H0.out 3
   have x4 := blk_cell H0.out 4
   have x5 := blk_cell H0.out 5
   have x6 := blk_cell H0.out 6
   have x7 := blk_cell H0.out 7
   have x8 := blk_cell H0.out 8
   have x9 := blk_cell H0.out 9
   have x10 := blk_cell H0.out 10
   have fx0 := blk_frozen H0.out 0
   have fx1 := blk_frozen H0.out 1
   have fx2 := blk_frozen H0.out 2
   have fx3 := blk_frozen H0.out 3
   have fx4 := blk_frozen H0.out 4
   have fx5 := blk_frozen H0.out 5
   have fx6 := blk_frozen H0.out 6
   have fx7 := blk_frozen H0.out 7
   have fx8 := blk_frozen H0.out 8
   have fx9 := blk_frozen H0.out 9
   have fx10 := blk_frozen H0.out 10
   simp only [List.getElem?_toArray, List.getElem?_cons_succ, List.getElem?_cons_zero] at x0 x1 x2 x3 x4 x5 x6 x7 x8 x9 x10
   go_upto_block 0 with fail
   go_cut [5] from 71 to 95 (fun v w' => v = .int .i64 (bodyC ⟨i, ta, ba, su, sn, ce, dn, se, go, lo, pe⟩) ∧ Below w1.heap.size w1 w' ∧ (if bodyC ⟨i, ta, ba, su, sn, ce, dn, se, go, lo, pe⟩ = 0 then logsC lo pe else bodyC ⟨i, ta, ba, su, sn, ce, dn, se, go, lo, pe⟩) = r)
   case first =>
    cases hz : ba == 0 with
    | true =>
     have hz1 : ¬ (0 : Int) < ba := by have := eq_of_beq hz; omega
     have HZ := Aside0.mk (eq_of_beq hz)
     cases b3 with
     | false =>
      obtain rfl := (if_pos (.inl ⟨HZ.out, fun h => by have := HD.out.2 h; cases this⟩)).symm.trans HQ.out
      go_wp2
      go_ret
      exact ⟨rfl, HB.out⟩
     | true =>
      replace HQ := Aside0.mk ((if_neg (fun h => h.elim (fun h => h.2 (HD.out.1 (by trivial))) (fun h => hz1 h.1))).symm.trans HQ.out)
      have hbo : bodyC ⟨i, ta, ba, su, sn, ce, dn, se, go, lo, pe⟩ = stateC sn ce := by unfold bodyC; exact if_pos HZ.out
      rw [hbo] at HQ
      have HBO := Aside0.mk hbo
      clear hbo
      go_wp2_with fail
      refine (CheckState_calls sn ce _ b A5 c5 (H5.out.ext (HB.out.mono hb)) hbr).mono ?_
      rintro e w5 ⟨rfl, h2⟩
      have HBL := Aside0.mk h2
      clear h2
      go_wp2
      go_meet
      case rel => exact ⟨by rw [HBO.out], HBL.out, by rw [HBO.out]; exact HQ.out⟩
    | false =>
     have hz1 : (0 : Int) < ba := by have := beq_eq_false_iff_ne.1 hz; omega
     have HZ := Aside0.mk (beq_eq_false_iff_ne.1 hz)
     cases b4 with
     | false =>
      obtain rfl := (if_pos (.inr ⟨hz1, fun h => by have := HS.out.2 h; cases this⟩)).symm.trans HQ.out
      go_wp2
      go_ret
      exact ⟨rfl, HB.out⟩
     | true =>
      replace HQ := Aside0.mk ((if_neg (fun h => h.elim (fun h => HZ.out h.1) (fun h => h.2 (HS.out.1 (by trivial))))).symm.trans HQ.out)
      have hbo : bodyC ⟨i, ta, ba, su, sn, ce, dn, se, go, lo, pe⟩ = if stateC dn se = 0 then goneC go else stateC dn se := by unfold bodyC; exact if_neg HZ.out
      rw [hbo] at HQ
      have HBO := Aside0.mk hbo
      clear hbo
      have HC := Aside0.mk (fitDelta_calls dn se go _ b A7 c7 A8 c8 (H7.out.ext (HB.out.mono hb)) (H8.out.ext (HB.out.mono hb)) hbr)
      generalize (if stateC dn se = 0 then goneC go else stateC dn se) = q at HQ HBO HC
      go_wp2_with fail
      refine HC.out.mono ?_
      rintro e w5 ⟨rfl, h2⟩
      have HBL := Aside0.mk h2
      clear h2
      go_wp2
      go_meet
      case rel => exact ⟨by rw [HBO.out], HBL.out, by rw [HBO.out]; exact HQ.out⟩
   case rest =>
    obtain ⟨rfl, h2, h3⟩ := hcut
    replace HQ := Aside0.mk h3
    have HT := Aside0.mk ((h2.block w.heap.size (blk_lt H0.out)).trans H0.out)
    replace HB := Aside0.mk (HB.out.trans (h2.mono HB.out.size))
    clear h2 h3 x0 x1 x2 x3 x4 x5 x6 x7 x8 x9 x10 fx0 fx1 fx2 fx3 fx4 fx5 fx6 fx7 fx8 fx9 fx10
    generalize bodyC ⟨i, ta, ba, su, sn, ce, dn, se, go, lo, pe⟩ = q at *
    by_cases hq : q = 0
    case neg =>
     obtain rfl := (if_neg hq).symm.trans HQ.out
     have hq' : (q != 0) = true := bne_iff_ne.2 hq
     go_wp2
     go_ret
     exact ⟨rfl, HB.out⟩
    subst hq
    replace HQ := Aside0.mk ((if_pos rfl).symm.trans HQ.out)
    have x0 := blk_cell HT.out 0
    have x1 := blk_cell HT.out 1
    have x2 := blk_cell HT.out 2
    have x3 := blk_cell HT.out 3
    have x4 := blk_cell HT.out 4
    have x5 := blk_cell HT.out 5
    have x6 := blk_cell HT.out 6
    have x7 := blk_cell HT.out 7
    have x8 := blk_cell HT.out 8
    have x9 := blk_cell HT.out 9
    have x10 := blk_cell HT.out 10
    have fx0 := blk_frozen HT.out 0
    have fx1 := blk_frozen HT.out 1
    have fx2 := blk_frozen HT.out 2
    have fx3 := blk_frozen HT.out 3
    have fx4 := blk_frozen HT.out 4
    have fx5 := blk_frozen HT.out 5
    have fx6 := blk_frozen HT.out 6
    have fx7 := blk_frozen HT.out 7
    have fx8 := blk_frozen HT.out 8
    have fx9 := blk_frozen HT.out 9
    have fx10 := blk_frozen HT.out 10
    simp only [List.getElem?_toArray, List.getElem?_cons_succ, List.getElem?_cons_zero] at x0 x1 x2 x3 x4 x5 x6 x7 x8 x9 x10
    by_cases c4 : 4 < lo.length
    ·obtain rfl : 43 = r := by have h := HQ.out; unfold logsC at h; rwa [if_pos c4] at h
     go_wp2
     go_ret
     exact ⟨rfl, HB.out⟩
    replace HQ : Aside0 (logsL lo pe = r) := Aside0.mk (by have h := HQ.out; unfold logsC at h; rwa [if_neg c4] at h)
    go_wp2
    go_loopw [106] (fun iv wr => FltE (OneBox w (.cells #[.int .i64 i, .int .i64 ta, .int .i64 ba, .int .u32 su, .int .i64 sn, .slice A5 ce.length c5, .int .i64 dn, .slice A7 se.length c7, .slice A8 go.length c8, .slice A9 lo.length c9, .slice A10 pe.length c10] 38 (0, 0))) w lo.length (fun i => logsL (lo.drop i) pe) r iv wr) (fun iv _ => lo.length - (intOf iv).toNat)
    case atStart => exact FltI.start (by rw [List.drop_zero]; exact HQ.out) HB.out HT.out
    case round =>
     clear x0 x1 x2 x3 x4 x5 x6 x7 x8 x9 x10 fx0 fx1 fx2 fx3 fx4 fx5 fx6 fx7 fx8 fx9 fx10
     obtain ⟨j, rfl, HI⟩ := hrel
     have HX := Aside0.mk HI
     have hle := HI.le
     have heq := HI.eq
     clear HI
     have hbq : b ≤ wr.heap.size := Nat.le_trans hb HX.out.b.size
     by_cases hlt : j < lo.length
     ·obtain ⟨ad, P1, p1, rfl, d0, l1, g1⟩ := (H9.out.ext (HX.out.b.mono hb)).atSlice hlt
      rw [drop_cons hlt, logsL] at heq
      have HC := Aside0.mk (fitRecords_calls lo[j] wr b P1 p1 g1 hbq)
      clear g1
      generalize lo[j] = y at *
      generalize recsC y = q at *
      go_wp2_with fail
      refine HC.out.mono ?_
      rintro e w5 ⟨rfl, h2⟩
      have HBL := Aside0.mk h2
      clear h2
      by_cases hq : q = 0
      case neg =>
       rw [if_neg hq] at heq
       subst heq
       have hq' : (q != 0) = true := bne_iff_ne.2 hq
       go_wp2
       go_ret
       exact ⟨rfl, HX.out.b.trans (HBL.out.mono HX.out.b.size)⟩
      subst hq
      rw [if_pos rfl] at heq
      have HEQ := Aside0.mk heq
      clear heq
      go_wp2
      go_roundw
      case rel => exact ⟨j + 1, by simp, hlt, HEQ.out, HX.out.b.trans (HBL.out.mono HX.out.b.size), HX.out.k.next HBL.out⟩
      case measure => simp [intOf]; omega
     ·rw [List.drop_of_length_le (by omega), logsL] at heq
      subst heq
      have hir : ¬ (j : Int) < (lo.length : Int) := by omega
      have y10 := blk_cell HX.out.k 10
      have fy10 := blk_frozen HX.out.k 10
      simp only [List.getElem?_toArray, List.getElem?_cons_succ, List.getElem?_cons_zero] at y10
      go_wp2_with fail
      refine (fitRecords_calls pe wr b A10 c10 (H10.out.ext (HX.out.b.mono hb)) hbq).mono ?_
      rintro e w5 ⟨rfl, h2⟩
      have HBL := Aside0.mk h2
      clear h2
      go_wp2
      go_ret
      exact ⟨rfl, HX.out.b.trans (HBL.out.mono HX.out.b.size)⟩
end Go.Proofs.YthmkioodkldgbaaGreat.DK
