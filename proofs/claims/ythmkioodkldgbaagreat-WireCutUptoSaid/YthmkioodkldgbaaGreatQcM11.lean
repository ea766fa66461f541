/- value.CheckState: the first fault; conditions: those in each theorem. -/
import Derived.Test.YthmkioodkldgbaaGreatQcM10
import Derived.Deep.CutBlock
import Derived.Deep.CutRange
namespace Go.Proofs.YthmkioodkldgbaaGreat.DK
open Go.Proofs.YthmkioodkldgbaaGreat.PD
open Go.RowKit Go.Proofs.YthmkioodkldgbaaGreatW.PrintWords Go.Proofs.YthmkioodkldgbaaGreatW.PrintLast Go.Proofs.YthmkioodkldgbaaGreatW.PrintMore
set_option linter.unusedVariables false
set_option linter.unusedSimpArgs false
set_option maxRecDepth 100000
/-- The key ahead of the i-th. -/
def prev (l : List S121) : Nat → Option ByteArray
 | 0 => none
 | j + 1 => (l[j]?).map (·.f0)
def OneBox (w : World) (o : Obj) (wr : World) : Prop := wr.heap[w.heap.size]? = some o
theorem OneBox.next {w wr w' : World} {o : Obj} (h : OneBox w o wr) (hb : Below wr.heap.size wr w') : OneBox w o w' := (hb.block _ (blk_lt h)).trans h
set_option maxHeartbeats 8000000 in
theorem CheckState_calls (n : Int) (l : List S121) (w : World) (b : Nat) (A : Option Addr) (c : Nat) (h : In k121 b w A l) (hb : b ≤ w.heap.size) :
  Calls Tryz.prog 50 #[.agg #[.int .i64 n, .slice A l.length c]] w (Fault w (stateC n l)) := by
 have HA := Aside0.mk h
 have hm : l.length ≤ 9223372036854775807 := h.max
 clear h
 have hu31 := Tryz.underlying30
 have hu121 := Tryz.underlying129
 have hu25 := Tryz.underlying24
 unfold stateC
 by_cases c0 : n < 0
 ·rw [if_pos (.inl c0)]
  go_enter Tryz.func50, Tryz.ntmps50
  go_wp2
  go_ret
  exact ⟨rfl, below_alloc (Below.refl _ _) _⟩
 by_cases c1 : 1073741824 < n
 ·rw [if_pos (.inr c1)]
  go_enter Tryz.func50, Tryz.ntmps50
  go_wp2
  go_ret
  exact ⟨rfl, below_alloc (Below.refl _ _) _⟩
 rw [if_neg (by omega)]
 by_cases c2 : 64 < l.length
 ·rw [if_pos c2]
  go_enter Tryz.func50, Tryz.ntmps50
  go_wp2
  go_ret
  exact ⟨rfl, below_alloc (Below.refl _ _) _⟩
 rw [if_neg c2]
 generalize hp : cellsL none l = p
 have HP := Aside0.mk hp
 clear hp
 go_enter Tryz.func50, Tryz.ntmps50
 go_wp2
 go_loopw [23] (fun iv wr => FltE (OneBox w (.cells #[.int .i64 n, .slice A l.length c] 30 (0, 0))) w l.length (fun i => cellsL (prev l i) (l.drop i)) p iv wr) (fun iv _ => l.length - (intOf iv).toNat)
 case atStart => exact FltI.start (by rw [List.drop_zero]; exact HP.out) (below_alloc (Below.refl _ _) _) (heap_alloc_new w _)
 case round =>
  obtain ⟨i, rfl, HI⟩ := hrel
  have HX := Aside0.mk HI
  have hle := HI.le
  have heq := HI.eq
  clear HI
  by_cases hlt : i < l.length
  ·have hbr : b ≤ wr.heap.size := Nat.le_trans hb HX.out.b.size
   have hIN := HA.out.ext (HX.out.b.mono hb)
   have HIN := Aside0.mk hIN
   obtain ⟨ad, A1, c1, rfl, d0, d1, l1, g1⟩ := hIN.at121 hlt
   have G1 := Aside0.mk g1
   have hx : (l[i]).f1.length ≤ 9223372036854775807 := g1.max
   rw [drop_cons hlt, cellsL_cons] at heq
   have HEQ := Aside0.mk heq
   have HPV := Aside0.mk (rfl : prev l (i + 1) = prev l (i + 1))
   clear g1 hIN heq
   have HPR : Aside0 (prev l (i + 1) = some (l[i]).f0) := Aside0.mk (by rw [prev, List.getElem?_eq_getElem hlt]; rfl)
   generalize l[i] = x at *
   obtain ⟨k, v⟩ := x
   dsimp only at *
   by_cases k1 : 12 < k.size
   ·obtain rfl := (if_pos k1).symm.trans HEQ.out
    go_wp2
    go_ret
    exact ⟨rfl, HX.out.b.trans ((below_alloc (Below.refl _ _) _).mono HX.out.b.size)⟩
   replace HEQ := Aside0.mk ((if_neg k1).symm.trans HEQ.out)
   go_wp2
   have HW := Aside0.mk (heap_alloc_new wr (.cells #[.string k, .slice A1 v.length c1] 129))
   have HO := Aside0.mk (blk_alloc HX.out.k (.cells #[.string k, .slice A1 v.length c1] 129))
   obtain ⟨wo, rfl⟩ : ∃ x, x = wr := ⟨wr, rfl⟩
   have m0 := blk_cell HW.out 0
   have m1 := blk_cell HO.out 1
   simp only [List.getElem?_toArray, List.getElem?_cons_succ, List.getElem?_cons_zero] at m0 m1
   have HK2 := Aside0.mk HX.out.k
   by_cases hi : 0 < i
   case neg =>
    have hz : ¬ (0 : Int) < (i : Int) := by omega
    have HPJ : Aside0 (prev l i = none) := Aside0.mk (by cases i with | zero => rfl | succ j => omega)
    rw [HPJ.out] at HEQ
    replace HEQ : Aside0 ((if false = true then (27 : Int) else if 6 < v.length then 27 else if valsC v = 0 then cellsL (some k) (List.drop (i + 1) l) else valsC v) = p) := HEQ
    refine start_ (n := 14) (S := fun w' => w'.cell? ⟨wo.heap.size, 0, none⟩ = some (.string k) ∧ w'.cell? ⟨w.heap.size, 1, none⟩ = some (.slice (some ad) l.length c)) (ds := []) #[false, false, false, false, false, false, false, false, false, false, false, false, false, false] (by kernel_rfl) rfl rfl ⟨m0, m1⟩ (fun hHeld => ?_)
    refine zq 0 (some 32) ?_
    refine zq 1 (some 33) ?_
    refine zq 2 (some 34) ?_
    refine pure_ (i := 3) (N := some 35) (v := undef) (a' := ?_) #[true, true, true, true, false, false, false, false, false, false, false, false, false, false] rfl rfl (by kernel_rfl) (fun _ _ _ h => h) (Or.inr ⟨by rfl, rfl⟩) ?_ ?_
    rotate_left
    ·simp only [Act.put, zla, zlb, zlc, i64_w, i32_w]
     rfl
    refine pure_ (i := 4) (N := some 36) (v := undef) (a' := ?_) #[true, true, true, true, true, false, false, false, false, false, false, false, false, false] rfl rfl (by kernel_rfl) (fun _ _ _ h => h) (Or.inr ⟨by rfl, rfl⟩) ?_ ?_
    rotate_left
    ·simp only [Act.put, zla, zlb, zlc, i64_w, i32_w]
     rfl
    refine pure_ (i := 5) (N := some 37) (v := undef) (a' := ?_) #[true, true, true, true, true, true, false, false, false, false, false, false, false, false] rfl rfl (by kernel_rfl) (fun _ _ _ h => h) (Or.inr ⟨by rfl, rfl⟩) ?_ ?_
    rotate_left
    ·simp only [Act.put, zla, zlb, zlc, i64_w, i32_w]
     rfl
    refine pure_ (i := 6) (N := some 38) (v := undef) (a' := ?_) #[true, true, true, true, true, true, true, false, false, false, false, false, false, false] rfl rfl (by kernel_rfl) (fun _ _ _ h => h) (Or.inr ⟨by rfl, rfl⟩) ?_ ?_
    rotate_left
    ·simp only [Act.put, zla, zlb, zlc, i64_w, i32_w]
     rfl
    refine pure_ (i := 7) (N := some 39) (v := undef) (a' := ?_) #[true, true, true, true, true, true, true, true, false, false, false, false, false, false] rfl rfl (by kernel_rfl) (fun _ _ _ h => h) (Or.inr ⟨by rfl, rfl⟩) ?_ ?_
    rotate_left
    ·simp only [Act.put, zla, zlb, zlc, i64_w, i32_w]
     rfl
    refine pure_ (i := 8) (N := some 40) (v := undef) (a' := ?_) #[true, true, true, true, true, true, true, true, true, false, false, false, false, false] rfl rfl (by kernel_rfl) (fun _ _ _ h => h) (Or.inr ⟨by rfl, rfl⟩) ?_ ?_
    rotate_left
    ·simp only [Act.put, zla, zlb, zlc, i64_w, i32_w]
     rfl
    refine pure_ (i := 9) (N := some 41) (v := undef) (a' := ?_) #[true, true, true, true, true, true, true, true, true, true, false, false, false, false] rfl rfl (by kernel_rfl) (fun _ _ _ h => h) (Or.inr ⟨by rfl, rfl⟩) ?_ ?_
    rotate_left
    ·simp only [Act.put, zla, zlb, zlc, i64_w, i32_w]
     rfl
    refine pure_ (i := 10) (N := some 42) (v := undef) (a' := ?_) #[true, true, true, true, true, true, true, true, true, true, true, false, false, false] rfl rfl (by kernel_rfl) (fun _ _ _ h => h) (Or.inr ⟨by rfl, rfl⟩) ?_ ?_
    rotate_left
    ·simp only [Act.put, zla, zlb, zlc, i64_w, i32_w]
     rfl
    refine pure_ (i := 11) (N := some 43) (v := undef) (a' := ?_) #[true, true, true, true, true, true, true, true, true, true, true, true, false, false] rfl rfl (by kernel_rfl) (fun _ _ _ h => h) (Or.inr ⟨by rfl, rfl⟩) ?_ ?_
    rotate_left
    ·simp only [Act.put, zla, zlb, zlc, i64_w, i32_w]
     rfl
    refine pure_ (i := 12) (N := some 44) (v := undef) (a' := ?_) #[true, true, true, true, true, true, true, true, true, true, true, true, true, false] rfl rfl (by kernel_rfl) (fun _ _ _ h => h) (Or.inr ⟨by rfl, rfl⟩) ?_ ?_
    rotate_left
    ·simp only [Act.put, zla, zlb, zlc, i64_w, i32_w]
     rfl
    refine zq 13 (some 45) ?_
    refine done_ (by kernel_rfl) ?_
    replace HEQ := Aside0.mk ((if_neg (by simp)).symm.trans HEQ.out)
    have n0 := blk_cell (blk_drew HW.out) 1
    simp only [List.getElem?_toArray, List.getElem?_cons_succ, List.getElem?_cons_zero] at n0
    by_cases k3 : 6 < v.length
    ·obtain rfl := (if_pos k3).symm.trans HEQ.out
     go_wp2
     go_ret
     exact ⟨rfl, HX.out.b.trans ((below_drew (below_alloc (Below.refl _ _) _)).mono HX.out.b.size)⟩
    replace HEQ := Aside0.mk ((if_neg k3).symm.trans HEQ.out)
    generalize hp : valsC v = p2 at *
    have HP2 := Aside0.mk hp
    clear hp
    go_wp2
    go_loopw [53] (fun jv wq => FltE (fun _ => True) wo v.length (fun j => valsC (v.drop j)) p2 jv wq) (fun jv _ => v.length - (intOf jv).toNat)
    case atStart => exact FltI.start (by rw [List.drop_zero]; exact HP2.out) (below_drew (below_alloc (Below.refl _ _) _)) trivial
    case round =>
     obtain ⟨j, rfl, HJ⟩ := hrel
     have HY := Aside0.mk HJ
     have hje := HJ.le
     have hep := HJ.eq
     clear HJ
     by_cases hjt : j < v.length
     ·have hbq : b ≤ wr.heap.size := Nat.le_trans hbr HY.out.b.size
      obtain ⟨af, A3, c3, rfl, p0, p1, p2', p3, l3, g3⟩ := (G1.out.ext (HY.out.b.mono hbr)).at25 hjt
      have HC := Aside0.mk (fun (W : World) (hw : Below wr.heap.size wr W) => value_Check.calls (v[j]).f0 (v[j]).f1 (v[j]).f2 A3 c3 (v[j]).f3 (chk v[j] 0 0).2 W (g3.ext (hw.mono hbq)).C l3 (by obtain ⟨_, _, _, _⟩ := v[j]; rfl))
      rw [drop_cons hjt, valsC] at hep
      clear g3 l3
      generalize v[j] = x at *
      generalize (chk x 0 0).2 = q at *
      go_wp2_with fail
      refine (HC.out _ ?hw).mono ?_
      case hw => repeat (with_reducible first | exact Below.refl _ _ | apply below_drew | apply pw_below_drewN | apply below_alloc)
      rintro e w5 ⟨rfl, h2⟩
      have HBL := Aside0.mk (HY.out.b.trans (((below_alloc (Below.refl wr.heap.size wr) _).trans (h2.mono (by simp))).mono HY.out.b.size))
      clear h2
      by_cases hq : q = 0
      case neg =>
       rw [if_neg hq] at hep
       subst hep
       obtain rfl := (if_neg hq).symm.trans HEQ.out
       have hq' : (q != 0) = true := bne_iff_ne.2 hq
       go_wp2
       go_ret
       exact ⟨rfl, HX.out.b.trans (HBL.out.mono HX.out.b.size)⟩
      subst hq
      rw [if_pos rfl] at hep
      have HEP := Aside0.mk hep
      clear hep
      go_wp2
      go_roundw
      case rel => exact ⟨j + 1, by simp, hjt, HEP.out, HBL.out, trivial⟩
      case measure => simp [intOf]; omega
     ·rw [List.drop_of_length_le (by omega), valsC] at hep
      subst hep
      have hjr : ¬ (j : Int) < (v.length : Int) := by omega
      go_wp2
      go_roundw
      case rel => exact ⟨i + 1, by simp, hlt, (by rw [HPR.out]; exact (if_pos rfl).symm.trans HEQ.out), HX.out.b.trans (HY.out.b.mono HX.out.b.size), HX.out.k.next HY.out.b⟩
      case measure => simp [intOf]; omega
   have hz : (0 : Int) < (i : Int) := by omega
   obtain ⟨j, hij⟩ : ∃ j, i = j + 1 := ⟨i - 1, by omega⟩
   have hj : j < l.length := by omega
   obtain ⟨ad', A1', c1', e, d0', _, _, _⟩ := HIN.out.at121 hj
   injection e with e
   subst e
   have HPJ : Aside0 (prev l i = some (l[j]).f0) := Aside0.mk (by rw [hij, prev, List.getElem?_eq_getElem hj]; rfl)
   rw [HPJ.out] at HEQ
   generalize (l[j]).f0 = y at *
   have m2 := cell_old (below_alloc (Below.refl wo.heap.size wo) (.cells #[.string k, .slice A1 v.length c1] 129)) d0'
   have hw1 : wrap64 ((i : Int) - 1) = j := by unfold wrap64; omega
   have HIJ := Aside0.mk hij
   clear hij
   cases hl : less y k with
   | false =>
    obtain rfl := (if_pos (by simp [hl])).symm.trans HEQ.out
    have hl' : Op.bytesLess y.toList k.toList = false := hl
    refine start_ (n := 14) (S := fun w' => w'.cell? ⟨wo.heap.size, 0, none⟩ = some (.string k) ∧ w'.cell? ⟨w.heap.size, 1, none⟩ = some (.slice (some ad) l.length c) ∧ w'.cell? (ad.add (j * 2)) = some (.string y)) (ds := []) #[false, false, false, false, false, false, false, false, false, false, false, false, false, false] (by kernel_rfl) rfl rfl ⟨m0, m1, m2⟩ (fun hHeld => ?_)
    refine zp 0 (some 32) ?_ rfl rfl (by kernel_rfl) (fun _ _ _ h => h) (by rfl) ?_ ?_ ?_ ?_ ?_
    rotate_left; · (intro w'; go_simp; with_reducible rfl)
    rotate_left 2; · (simp only [Act.put, zla, zlb, zlc, i64_w, i32_w, hw1]; rfl)
    refine zp 1 (some 33) ?_ rfl rfl (by kernel_rfl) (fun _ _ _ h => h) (by rfl) ?_ ?_ ?_ ?_ ?_
    rotate_left; · (intro w'; go_simp; with_reducible rfl)
    rotate_left 2; · (simp only [Act.put, zla, zlb, zlc, i64_w, i32_w, hw1]; rfl)
    refine zp 2 (some 34) ?_ rfl rfl (by kernel_rfl) (fun _ _ _ h => h) (by rfl) ?_ ?_ ?_ ?_ ?_
    rotate_left; · (intro w'; go_simp; with_reducible rfl)
    rotate_left 2; · (simp only [Act.put, zla, zlb, zlc, i64_w, i32_w, hw1]; rfl)
    refine zp 3 (some 35) ?_ rfl rfl (by kernel_rfl) (fun _ _ _ h => h) (by rfl) ?_ ?_ ?_ ?_ ?_
    rotate_left; · (intro w'; go_simp; with_reducible rfl)
    rotate_left 2; · (simp only [Act.put, zla, zlb, zlc, i64_w, i32_w, hw1]; rfl)
    refine zp 5 (some 37) ?_ rfl rfl (by kernel_rfl) (fun _ _ _ h => h) (by rfl) ?_ ?_ ?_ ?_ ?_
    rotate_left; · (intro w'; go_simp; with_reducible rfl)
    rotate_left 2; · (simp only [Act.put, zla, zlb, zlc, i64_w, i32_w, hw1]; rfl)
    refine zp 7 (some 39) ?_ rfl rfl (by kernel_rfl) (fun _ _ _ h => h) (by rfl) ?_ ?_ ?_ ?_ ?_
    rotate_left; · (intro w'; go_simp; with_reducible rfl)
    rotate_left 2; · (simp only [Act.put, zla, zlb, zlc, i64_w, i32_w, hw1]; rfl)
    refine zp 8 (some 40) ?_ rfl rfl (by kernel_rfl) (fun _ _ _ h => h) (by rfl) ?_ ?_ ?_ ?_ ?_
    rotate_left; · (intro w'; go_simp; with_reducible rfl)
    rotate_left 2; · (simp only [Act.put, zla, zlb, zlc, i64_w, i32_w, hw1]; rfl)
    refine zt 4 (some 36) ?_ rfl rfl (by kernel_rfl) (fun _ _ _ h => h) (by rfl) ?_ hHeld ?_ ?_ ?_ ?_
    rotate_left; · (rintro w' ⟨s0, s1, s2⟩; go_simp; with_reducible rfl)
    rotate_left 2; · (simp only [Act.put, zla, zlb, zlc, i64_w, i32_w, hw1]; rfl)
    refine zt 6 (some 38) ?_ rfl rfl (by kernel_rfl) (fun _ _ _ h => h) (by rfl) ?_ hHeld ?_ ?_ ?_ ?_
    rotate_left; · (rintro w' ⟨s0, s1, s2⟩; go_simp; with_reducible rfl)
    rotate_left 2; · (simp only [Act.put, zla, zlb, zlc, i64_w, i32_w, hw1]; rfl)
    refine zp 9 (some 41) ?_ rfl rfl (by kernel_rfl) (fun _ _ _ h => h) (by rfl) ?_ ?_ ?_ ?_ ?_
    rotate_left; · (intro w'; go_simp; with_reducible rfl)
    rotate_left 2; · (simp only [Act.put, zla, zlb, zlc, i64_w, i32_w, hw1]; rfl)
    refine zp 10 (some 42) ?_ rfl rfl (by kernel_rfl) (fun _ _ _ h => h) (by rfl) ?_ ?_ ?_ ?_ ?_
    rotate_left; · (intro w'; go_simp; with_reducible rfl)
    rotate_left 2; · (simp only [Act.put, zla, zlb, zlc, i64_w, i32_w, hw1]; rfl)
    refine zt 11 (some 43) ?_ rfl rfl (by kernel_rfl) (fun _ _ _ h => h) (by rfl) ?_ hHeld ?_ ?_ ?_ ?_
    rotate_left; · (rintro w' ⟨s0, s1, s2⟩; go_simp; with_reducible rfl)
    rotate_left 2; · (simp only [Act.put, zla, zlb, zlc, i64_w, i32_w, hw1]; rfl)
    refine zp 12 (some 44) ?_ rfl rfl (by kernel_rfl) (fun _ _ _ h => h) (by rfl) ?_ ?_ ?_ ?_ ?_
    rotate_left; · (intro w'; go_simp; with_reducible rfl)
    rotate_left 2; · (simp only [Act.put, zla, zlb, zlc, i64_w, i32_w, hw1]; rfl)
    refine zp 13 (some 45) ?_ rfl rfl (by kernel_rfl) (fun _ _ _ h => h) (by rfl) ?_ ?_ ?_ ?_ ?_
    rotate_left; · (intro w'; go_simp; with_reducible rfl)
    rotate_left 2; · (simp only [Act.put, zla, zlb, zlc, i64_w, i32_w, hw1]; rfl)
    refine done_ (by kernel_rfl) ?_
    go_wp2
    go_ret
    exact ⟨rfl, HX.out.b.trans ((below_drew (below_alloc (Below.refl _ _) _)).mono HX.out.b.size)⟩
   | true =>
    have hl' : Op.bytesLess y.toList k.toList = true := hl
    replace HEQ : Aside0 ((if (!less y k) = true then (27 : Int) else if 6 < v.length then 27 else if valsC v = 0 then cellsL (some k) (List.drop (i + 1) l) else valsC v) = p) := HEQ
    rw [hl] at HEQ
    refine start_ (n := 14) (S := fun w' => w'.cell? ⟨wo.heap.size, 0, none⟩ = some (.string k) ∧ w'.cell? ⟨w.heap.size, 1, none⟩ = some (.slice (some ad) l.length c) ∧ w'.cell? (ad.add (j * 2)) = some (.string y)) (ds := []) #[false, false, false, false, false, false, false, false, false, false, false, false, false, false] (by kernel_rfl) rfl rfl ⟨m0, m1, m2⟩ (fun hHeld => ?_)
    refine zp 0 (some 32) ?_ rfl rfl (by kernel_rfl) (fun _ _ _ h => h) (by rfl) ?_ ?_ ?_ ?_ ?_
    rotate_left; · (intro w'; go_simp; with_reducible rfl)
    rotate_left 2; · (simp only [Act.put, zla, zlb, zlc, i64_w, i32_w, hw1]; rfl)
    refine zp 1 (some 33) ?_ rfl rfl (by kernel_rfl) (fun _ _ _ h => h) (by rfl) ?_ ?_ ?_ ?_ ?_
    rotate_left; · (intro w'; go_simp; with_reducible rfl)
    rotate_left 2; · (simp only [Act.put, zla, zlb, zlc, i64_w, i32_w, hw1]; rfl)
    refine zp 2 (some 34) ?_ rfl rfl (by kernel_rfl) (fun _ _ _ h => h) (by rfl) ?_ ?_ ?_ ?_ ?_
    rotate_left; · (intro w'; go_simp; with_reducible rfl)
    rotate_left 2; · (simp only [Act.put, zla, zlb, zlc, i64_w, i32_w, hw1]; rfl)
    refine zp 3 (some 35) ?_ rfl rfl (by kernel_rfl) (fun _ _ _ h => h) (by rfl) ?_ ?_ ?_ ?_ ?_
    rotate_left; · (intro w'; go_simp; with_reducible rfl)
    rotate_left 2; · (simp only [Act.put, zla, zlb, zlc, i64_w, i32_w, hw1]; rfl)
    refine zp 5 (some 37) ?_ rfl rfl (by kernel_rfl) (fun _ _ _ h => h) (by rfl) ?_ ?_ ?_ ?_ ?_
    rotate_left; · (intro w'; go_simp; with_reducible rfl)
    rotate_left 2; · (simp only [Act.put, zla, zlb, zlc, i64_w, i32_w, hw1]; rfl)
    refine zp 7 (some 39) ?_ rfl rfl (by kernel_rfl) (fun _ _ _ h => h) (by rfl) ?_ ?_ ?_ ?_ ?_
    rotate_left; · (intro w'; go_simp; with_reducible rfl)
    rotate_left 2; · (simp only [Act.put, zla, zlb, zlc, i64_w, i32_w, hw1]; rfl)
    refine zp 8 (some 40) ?_ rfl rfl (by kernel_rfl) (fun _ _ _ h => h) (by rfl) ?_ ?_ ?_ ?_ ?_
    rotate_left; · (intro w'; go_simp; with_reducible rfl)
    rotate_left 2; · (simp only [Act.put, zla, zlb, zlc, i64_w, i32_w, hw1]; rfl)
    refine zt 4 (some 36) ?_ rfl rfl (by kernel_rfl) (fun _ _ _ h => h) (by rfl) ?_ hHeld ?_ ?_ ?_ ?_
    rotate_left; · (rintro w' ⟨s0, s1, s2⟩; go_simp; with_reducible rfl)
    rotate_left 2; · (simp only [Act.put, zla, zlb, zlc, i64_w, i32_w, hw1]; rfl)
    refine zt 6 (some 38) ?_ rfl rfl (by kernel_rfl) (fun _ _ _ h => h) (by rfl) ?_ hHeld ?_ ?_ ?_ ?_
    rotate_left; · (rintro w' ⟨s0, s1, s2⟩; go_simp; with_reducible rfl)
    rotate_left 2; · (simp only [Act.put, zla, zlb, zlc, i64_w, i32_w, hw1]; rfl)
    refine zp 9 (some 41) ?_ rfl rfl (by kernel_rfl) (fun _ _ _ h => h) (by rfl) ?_ ?_ ?_ ?_ ?_
    rotate_left; · (intro w'; go_simp; with_reducible rfl)
    rotate_left 2; · (simp only [Act.put, zla, zlb, zlc, i64_w, i32_w, hw1]; rfl)
    refine zp 10 (some 42) ?_ rfl rfl (by kernel_rfl) (fun _ _ _ h => h) (by rfl) ?_ ?_ ?_ ?_ ?_
    rotate_left; · (intro w'; go_simp; with_reducible rfl)
    rotate_left 2; · (simp only [Act.put, zla, zlb, zlc, i64_w, i32_w, hw1]; rfl)
    refine zt 11 (some 43) ?_ rfl rfl (by kernel_rfl) (fun _ _ _ h => h) (by rfl) ?_ hHeld ?_ ?_ ?_ ?_
    rotate_left; · (rintro w' ⟨s0, s1, s2⟩; go_simp; with_reducible rfl)
    rotate_left 2; · (simp only [Act.put, zla, zlb, zlc, i64_w, i32_w, hw1]; rfl)
    refine zp 12 (some 44) ?_ rfl rfl (by kernel_rfl) (fun _ _ _ h => h) (by rfl) ?_ ?_ ?_ ?_ ?_
    rotate_left; · (intro w'; go_simp; with_reducible rfl)
    rotate_left 2; · (simp only [Act.put, zla, zlb, zlc, i64_w, i32_w, hw1]; rfl)
    refine zp 13 (some 45) ?_ rfl rfl (by kernel_rfl) (fun _ _ _ h => h) (by rfl) ?_ ?_ ?_ ?_ ?_
    rotate_left; · (intro w'; go_simp; with_reducible rfl)
    rotate_left 2; · (simp only [Act.put, zla, zlb, zlc, i64_w, i32_w, hw1]; rfl)
    refine done_ (by kernel_rfl) ?_
    replace HEQ := Aside0.mk ((if_neg (by simp)).symm.trans HEQ.out)
    have n0 := blk_cell (blk_drew HW.out) 1
    simp only [List.getElem?_toArray, List.getElem?_cons_succ, List.getElem?_cons_zero] at n0
    by_cases k3 : 6 < v.length
    ·obtain rfl := (if_pos k3).symm.trans HEQ.out
     go_wp2
     go_ret
     exact ⟨rfl, HX.out.b.trans ((below_drew (below_alloc (Below.refl _ _) _)).mono HX.out.b.size)⟩
    replace HEQ := Aside0.mk ((if_neg k3).symm.trans HEQ.out)
    generalize hp : valsC v = p2 at *
    have HP2 := Aside0.mk hp
    clear hp
    go_wp2
    go_loopw [53] (fun jv wq => FltE (fun _ => True) wo v.length (fun j => valsC (v.drop j)) p2 jv wq) (fun jv _ => v.length - (intOf jv).toNat)
    case atStart => exact FltI.start (by rw [List.drop_zero]; exact HP2.out) (below_drew (below_alloc (Below.refl _ _) _)) trivial
    case round =>
     obtain ⟨j, rfl, HJ⟩ := hrel
     have HY := Aside0.mk HJ
     have hje := HJ.le
     have hep := HJ.eq
     clear HJ
     by_cases hjt : j < v.length
     ·have hbq : b ≤ wr.heap.size := Nat.le_trans hbr HY.out.b.size
      obtain ⟨af, A3, c3, rfl, p0, p1, p2', p3, l3, g3⟩ := (G1.out.ext (HY.out.b.mono hbr)).at25 hjt
      have HC := Aside0.mk (fun (W : World) (hw : Below wr.heap.size wr W) => value_Check.calls (v[j]).f0 (v[j]).f1 (v[j]).f2 A3 c3 (v[j]).f3 (chk v[j] 0 0).2 W (g3.ext (hw.mono hbq)).C l3 (by obtain ⟨_, _, _, _⟩ := v[j]; rfl))
      rw [drop_cons hjt, valsC] at hep
      clear g3 l3
      generalize v[j] = x at *
      generalize (chk x 0 0).2 = q at *
      go_wp2_with fail
      refine (HC.out _ ?hw).mono ?_
      case hw => repeat (with_reducible first | exact Below.refl _ _ | apply below_drew | apply pw_below_drewN | apply below_alloc)
      rintro e w5 ⟨rfl, h2⟩
      have HBL := Aside0.mk (HY.out.b.trans (((below_alloc (Below.refl wr.heap.size wr) _).trans (h2.mono (by simp))).mono HY.out.b.size))
      clear h2
      by_cases hq : q = 0
      case neg =>
       rw [if_neg hq] at hep
       subst hep
       obtain rfl := (if_neg hq).symm.trans HEQ.out
       have hq' : (q != 0) = true := bne_iff_ne.2 hq
       go_wp2
       go_ret
       exact ⟨rfl, HX.out.b.trans (HBL.out.mono HX.out.b.size)⟩
      subst hq
      rw [if_pos rfl] at hep
      have HEP := Aside0.mk hep
      clear hep
      go_wp2
      go_roundw
      case rel => exact ⟨j + 1, by simp, hjt, HEP.out, HBL.out, trivial⟩
      case measure => simp [intOf]; omega
     ·rw [List.drop_of_length_le (by omega), valsC] at hep
      subst hep
      have hjr : ¬ (j : Int) < (v.length : Int) := by omega
      go_wp2
      go_roundw
      case rel => exact ⟨i + 1, by simp, hlt, (by rw [HPR.out]; exact (if_pos rfl).symm.trans HEQ.out), HX.out.b.trans (HY.out.b.mono HX.out.b.size), HX.out.k.next HY.out.b⟩
      case measure => simp [intOf]; omega
  ·rw [List.drop_of_length_le (by omega), cellsL_nil] at heq
   subst heq
   have hir : ¬ (i : Int) < (l.length : Int) := by omega
   go_wp2
   go_ret
   exact ⟨rfl, HX.out.b⟩
end Go.Proofs.YthmkioodkldgbaaGreat.DK
/- wire.fitDelta, fitSegment: the first fault; conditions: those in each theorem. -/
namespace Go.Proofs.YthmkioodkldgbaaGreat.DK
open Go.Proofs.YthmkioodkldgbaaGreat.PD
open Go.RowKit Go.Proofs.YthmkioodkldgbaaGreatW.PrintWords Go.Proofs.YthmkioodkldgbaaGreatW.PrintLast Go.Proofs.YthmkioodkldgbaaGreatW.PrintMore
set_option linter.unusedVariables false
set_option linter.unusedSimpArgs false
set_option maxRecDepth 100000
def prevK (l : List ByteArray) : Nat → Option ByteArray
 | 0 => none
 | j + 1 => l[j]?
set_option maxHeartbeats 8000000 in
theorem fitDelta_calls (n : Int) (se : List S121) (l : List ByteArray) (w : World) (b : Nat) (A7 : Option Addr) (c7 : Nat) (A : Option Addr) (c : Nat) (h7 : In k121 b w A7 se) (h : In Kd.string b w A l) (hb : b ≤ w.heap.size) :
  Calls Tryz.prog 92 #[.agg #[.int .i64 n, .slice A7 se.length c7, .slice A l.length c]] w (Fault w (if stateC n se = 0 then goneC l else stateC n se)) := by
 have HV := Aside0.mk (fun (W : World) (hw : Below w.heap.size w W) => CheckState_calls n se W b A7 c7 (h7.ext (hw.mono hb)) (Nat.le_trans hb hw.size))
 have HA := Aside0.mk h
 have hm : l.length ≤ 9223372036854775807 := h.max
 clear h7 h
 have hu35 := Tryz.underlying34
 have hu31 := Tryz.underlying30
 generalize hr : (if stateC n se = 0 then goneC l else stateC n se) = r
 have HQ := Aside0.mk hr
 clear hr
 generalize stateC n se = q at *
 have H0 := Aside0.mk (heap_alloc_new w (.cells #[.int .i64 n, .slice A7 se.length c7, .slice A l.length c] 34))
 go_enter Tryz.func92, Tryz.ntmps92
 go_wp2_with fail
 refine (HV.out _ (below_alloc (Below.refl _ _) _)).mono ?_
 rintro e w5 ⟨rfl, h2⟩
 have HT := Aside0.mk ((h2.block w.heap.size (by simp)).trans H0.out)
 have HBL := Aside0.mk ((below_alloc (Below.refl w.heap.size w) _).trans (h2.mono (by simp)))
 clear h2 H0 HV
 by_cases hq : q = 0
 case neg =>
  obtain rfl := (if_neg hq).symm.trans HQ.out
  have hq' : (q != 0) = true := bne_iff_ne.2 hq
  go_wp2
  go_ret
  exact ⟨rfl, HBL.out⟩
 subst hq
 have HP := Aside0.mk ((if_pos rfl).symm.trans HQ.out)
 clear HQ
 have x0 := blk_cell HT.out 0
 have x1 := blk_cell HT.out 1
 have x2 := blk_cell HT.out 2
 have fx0 := blk_frozen HT.out 0
 have fx1 := blk_frozen HT.out 1
 have fx2 := blk_frozen HT.out 2
 simp only [List.getElem?_toArray, List.getElem?_cons_succ, List.getElem?_cons_zero] at x0 x1 x2
 by_cases c3 : 64 < l.length
 ·obtain rfl : 43 = r := by have h := HP.out; unfold goneC at h; rwa [if_pos c3] at h
  go_wp2
  go_ret
  exact ⟨rfl, HBL.out⟩
 replace HP : Aside0 (goneL none l = r) := Aside0.mk (by have h := HP.out; unfold goneC at h; rwa [if_neg c3] at h)
 go_wp2
 go_loopw [22] (fun iv wr => FltE (OneBox w (.cells #[.int .i64 n, .slice A7 se.length c7, .slice A l.length c] 34 (0, 0))) w l.length (fun i => goneL (prevK l i) (l.drop i)) r iv wr) (fun iv _ => l.length - (intOf iv).toNat)
 case atStart => exact FltI.start (by rw [List.drop_zero]; exact HP.out) HBL.out HT.out
 case round =>
  clear x0 x1 x2 fx0 fx1 fx2
  obtain ⟨i, rfl, HI⟩ := hrel
  have HX := Aside0.mk HI
  have hle := HI.le
  have heq := HI.eq
  clear HI
  by_cases hlt : i < l.length
  ·have hIN := HA.out.ext (HX.out.b.mono hb)
   have HIN := Aside0.mk hIN
   obtain ⟨ad, rfl, d0⟩ := hIN.atString hlt
   rw [drop_cons hlt, goneL_cons] at heq
   have HEQ := Aside0.mk heq
   clear hIN heq
   have HPR : Aside0 (prevK l (i + 1) = some l[i]) := Aside0.mk (by rw [prevK, List.getElem?_eq_getElem hlt])
   generalize l[i] = k at *
   by_cases k1 : 12 < k.size
   ·obtain rfl := (if_pos k1).symm.trans HEQ.out
    go_wp2
    go_ret
    exact ⟨rfl, HX.out.b⟩
   replace HEQ := Aside0.mk ((if_neg k1).symm.trans HEQ.out)
   by_cases hi : 0 < i
   case neg =>
    have hz : ¬ (0 : Int) < (i : Int) := by omega
    have HPJ : Aside0 (prevK l i = none) := Aside0.mk (by cases i with | zero => rfl | succ j => omega)
    rw [HPJ.out] at HEQ
    go_wp2
    go_roundw
    case rel => exact ⟨i + 1, by simp, hlt, (by rw [HPR.out]; exact (if_neg (by simp)).symm.trans HEQ.out), HX.out.b, HX.out.k⟩
    case measure => simp [intOf]; omega
   have hz : (0 : Int) < (i : Int) := by omega
   obtain ⟨j, hij⟩ : ∃ j, i = j + 1 := ⟨i - 1, by omega⟩
   have hj : j < l.length := by omega
   obtain ⟨ad', e, d0'⟩ := HIN.out.atString hj
   injection e with e
   subst e
   have HPJ : Aside0 (prevK l i = some l[j]) := Aside0.mk (by rw [hij, prevK, List.getElem?_eq_getElem hj])
   rw [HPJ.out] at HEQ
   generalize l[j] = y at *
   have d1 : wr.cell? (ad.add (i - 1)) = some (.string y) := by rw [show i - 1 = j from by omega]; exact d0'
   have hw1 : wrap64 ((i : Int) - 1) = j := by unfold wrap64; omega
   have HIJ := Aside0.mk hij
   clear hij
   have n2 := blk_cell HX.out.k 2
   have fn2 := blk_frozen HX.out.k 2
   simp only [List.getElem?_toArray, List.getElem?_cons_succ, List.getElem?_cons_zero] at n2
   cases hl : less y k with
   | false =>
    obtain rfl := (if_pos (by simp [hl])).symm.trans HEQ.out
    have hl' : Op.bytesLess y.toList k.toList = false := hl
    go_wp2
    go_ret
    exact ⟨rfl, HX.out.b⟩
   | true =>
    have hl' : Op.bytesLess y.toList k.toList = true := hl
    go_wp2
    go_roundw
    case rel => exact ⟨i + 1, by simp, hlt, (by rw [HPR.out]; exact (if_neg (by simp [hl])).symm.trans HEQ.out), HX.out.b, HX.out.k⟩
    case measure => simp [intOf]; omega
  ·rw [List.drop_of_length_le (by omega), goneL_nil] at heq
   subst heq
   have hir : ¬ (i : Int) < (l.length : Int) := by omega
   go_wp2
   go_ret
   exact ⟨rfl, HX.out.b⟩
end Go.Proofs.YthmkioodkldgbaaGreat.DK
