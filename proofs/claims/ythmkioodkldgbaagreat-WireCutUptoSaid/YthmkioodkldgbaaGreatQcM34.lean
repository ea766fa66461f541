/- eddylaw4.sameRecords, sameTexts, same, sameCells: they answer whether what they are handed is the same; conditions: those in each theorem. -/
import Derived.Test.YthmkioodkldgbaaGreatQcM10
import Derived.Test.YthmkioodkldgbaaGreatQcM33
import Derived.Test.YthmkioodkldgbaaGreatQcM32
namespace Go.Proofs.YthmkioodkldgbaaGreat.DK
open Go.Proofs.YthmkioodkldgbaaGreat.PD
open Go.RowKit Go.Proofs.YthmkioodkldgbaaGreatW.PrintWords Go.Proofs.YthmkioodkldgbaaGreatW.PrintLast Go.Proofs.YthmkioodkldgbaaGreatW.PrintMore
set_option linter.unusedVariables false
set_option linter.unusedSimpArgs false
set_option maxRecDepth 100000
set_option maxHeartbeats 8000000 in
theorem sameRecords_calls (l l' : List S28) (w : World) (b : Nat) (A : Option Addr) (c : Nat) (B : Option Addr) (d : Nat) (h1 : In k28 b w A l) (h2 : In k28 b w B l') (hb : b ≤ w.heap.size) :
  Calls Tryz.prog 70 #[.slice A l.length c, .slice B l'.length d] w (Tells (l = l') w) := by
 have HA := Aside0.mk h1
 have HB := Aside0.mk h2
 have hm : l.length ≤ 9223372036854775807 := h1.max
 have hm' : l'.length ≤ 9223372036854775807 := h2.max
 clear h1 h2
 generalize hq : l'.length = q at *
 have HQ := Aside0.mk hq
 clear hq
 by_cases c3 : q = l.length
 case neg =>
  have hne : ¬ (l.length : Int) = (q : Int) := by omega
  go_enter Tryz.func70, Tryz.ntmps70
  go_wp2
  go_ret
  exact Tells.no (fun h => c3 (HQ.out.symm.trans (congrArg List.length h.symm))) (Below.refl _ _)
 subst c3
 go_enter Tryz.func70, Tryz.ntmps70
 go_wp2
 go_loopw [5] (fun iv wr => SameE (fun _ => True) w l l' iv wr) (fun iv _ => l.length - (intOf iv).toNat)
 case atStart => exact SameI.start (Below.refl _ _) trivial
 case round =>
  obtain ⟨i, rfl, HI⟩ := hrel
  have HX := Aside0.mk HI
  clear HI
  have hle := HX.out.le
  by_cases hlt : i < l.length
  ·have hlt' : i < l'.length := by rw [HQ.out]; exact hlt
   have hbr : b ≤ wr.heap.size := Nat.le_trans hb HX.out.b.size
   have hA := HA.out.ext (HX.out.b.mono hb)
   have hB := HB.out.ext (HX.out.b.mono hb)
   have HN := Aside0.mk (fun (h : l[i] = l'[i]) (W : World) (hw : Below wr.heap.size wr W) => HX.out.next hlt hlt' h hw trivial)
   have HS := Aside0.mk (HX.out.stop hlt hlt')
   obtain ⟨ad, A4, c4, A5, c5, rfl, d0, d1, d2, d3, d4, d5, l4, l5, g4, g5⟩ := hA.at28 hlt
   obtain ⟨ae, B4, e4, B5, e5, rfl, n0, n1, n2, n3, n4, n5, m4, m5, f4, f5⟩ := hB.at28 hlt'
   have HC := Aside0.mk (fun (W : World) (hw : Below wr.heap.size wr W) => (sameRecord_calls l[i] l'[i] W b A4 c4 A5 c5 B4 e4 B5 e5 (g4.ext (hw.mono hbr)) (g5.ext (hw.mono hbr)) (f4.ext (hw.mono hbr)) (f5.ext (hw.mono hbr)) (Nat.le_trans hbr hw.size) l4 l5 m4 m5).mono fun e w' => Tells.at hw)
   clear hA hB g4 g5 f4 f5 l4 l5 m4 m5
   generalize l[i] = x at *
   generalize l'[i] = y at *
   go_wp2
   refine start_ (n := 10) (S := fun w' => w'.cell? (ad.add (i * 6)) = some (.string x.f0) ∧ w'.cell? ⟨(ad.add (i * 6)).block, (ad.add (i * 6)).off + 1, none⟩ = some (.int .i64 x.f1.f0) ∧ w'.cell? ⟨(ad.add (i * 6)).block, (ad.add (i * 6)).off + 2, none⟩ = some (.int .i64 x.f1.f1) ∧ w'.cell? ⟨(ad.add (i * 6)).block, (ad.add (i * 6)).off + 3, none⟩ = some (.string x.f1.f2) ∧ w'.cell? ⟨(ad.add (i * 6)).block, (ad.add (i * 6)).off + 4, none⟩ = some (.slice A4 x.f1.f3.length c4) ∧ w'.cell? ⟨(ad.add (i * 6)).block, (ad.add (i * 6)).off + 5, none⟩ = some (.slice A5 x.f2.length c5) ∧ w'.cell? (ae.add (i * 6)) = some (.string y.f0) ∧ w'.cell? ⟨(ae.add (i * 6)).block, (ae.add (i * 6)).off + 1, none⟩ = some (.int .i64 y.f1.f0) ∧ w'.cell? ⟨(ae.add (i * 6)).block, (ae.add (i * 6)).off + 2, none⟩ = some (.int .i64 y.f1.f1) ∧ w'.cell? ⟨(ae.add (i * 6)).block, (ae.add (i * 6)).off + 3, none⟩ = some (.string y.f1.f2) ∧ w'.cell? ⟨(ae.add (i * 6)).block, (ae.add (i * 6)).off + 4, none⟩ = some (.slice B4 y.f1.f3.length e4) ∧ w'.cell? ⟨(ae.add (i * 6)).block, (ae.add (i * 6)).off + 5, none⟩ = some (.slice B5 y.f2.length e5)) (ds := [8]) #[false, false, false, false, false, false, false, false, false, false] (by kernel_rfl) rfl rfl ⟨d0, d1, d2, d3, d4, d5, n0, n1, n2, n3, n4, n5⟩ (fun hHeld => ?_)
   refine zq 0 (some 17) ?_
   refine zq 1 (some 18) ?_
   refine zq 2 (some 19) ?_
   refine zq 4 (some 21) ?_
   refine zq 5 (some 22) ?_
   refine zq 6 (some 23) ?_
   refine zu 3 (some 20) hHeld ?_
   refine zu 7 (some 24) hHeld ?_
   refine last_ (i := 8) (N := some 25) #[true, true, true, true, true, true, true, true, true, false] rfl rfl (by kernel_rfl) (by decide) (fun K hK => ?_)
   refine goes_ Tryz.func18 (by kernel_rfl) rfl #[.agg #[.string x.f0, .int .i64 x.f1.f0, .int .i64 x.f1.f1, .string x.f1.f2, .slice A4 x.f1.f3.length c4, .slice A5 x.f2.length c5], .agg #[.string y.f0, .int .i64 y.f1.f0, .int .i64 y.f1.f1, .string y.f1.f2, .slice B4 y.f1.f3.length e4, .slice B5 y.f2.length e5]] (by rfl) rfl rfl (by simp only [List.map_toArray, List.map_cons, List.map_nil]; rfl) ?_
   refine (HC.out _ ?hw).mono ?_
   case hw => repeat (with_reducible first | exact Below.refl _ _ | apply below_drew | apply pw_below_drewN | apply below_alloc)
   rintro e w5 ⟨r, rfl, h1, h2⟩
   have HR := Aside0.mk h1
   have HBL := Aside0.mk h2
   clear h1 h2
   refine ⟨_, rfl, ?_⟩
   refine hK.out _ _ ?_
   clear hK K
   refine norm_ (a' := ?_) ?_ ?_
   rotate_left
   ·show Act.put _ (some 25) _ = _
    simp only [Act.put, zla, zlb, zlc, i64_w, i32_w]
    rfl
   refine zq 9 (some 26) ?_
   refine done_ (by kernel_rfl) ?_
   cases r
   ·go_wp2
    go_ret
    exact Tells.no (fun h => HS.out (fun e => by have := HR.out.2 e; cases this) h) (HX.out.b.trans (HBL.out.mono HX.out.b.size))
   ·go_wp2
    go_roundw
    case rel => exact ⟨i + 1, by simp, HN.out (HR.out.1 (by first | rfl | trivial)) _ HBL.out⟩
    case measure => simp [intOf]; omega
  ·have hir : ¬ (i : Int) < (l.length : Int) := by omega
   go_wp2
   go_ret
   exact Tells.yes (HX.out.done hlt HQ.out) HX.out.b
set_option maxHeartbeats 8000000 in
theorem sameTexts_calls (l l' : List ByteArray) (w : World) (b : Nat) (A : Option Addr) (c : Nat) (B : Option Addr) (d : Nat) (h1 : In Kd.string b w A l) (h2 : In Kd.string b w B l') (hb : b ≤ w.heap.size) :
  Calls Tryz.prog 71 #[.slice A l.length c, .slice B l'.length d] w (Tells (l = l') w) := by
 have HA := Aside0.mk h1
 have HB := Aside0.mk h2
 have hm : l.length ≤ 9223372036854775807 := h1.max
 have hm' : l'.length ≤ 9223372036854775807 := h2.max
 clear h1 h2
 generalize hq : l'.length = q at *
 have HQ := Aside0.mk hq
 clear hq
 by_cases c3 : q = l.length
 case neg =>
  have hne : ¬ (l.length : Int) = (q : Int) := by omega
  go_enter Tryz.func71, Tryz.ntmps71
  go_wp2
  go_ret
  exact Tells.no (fun h => c3 (HQ.out.symm.trans (congrArg List.length h.symm))) (Below.refl _ _)
 subst c3
 go_enter Tryz.func71, Tryz.ntmps71
 go_wp2
 go_loopw [5] (fun iv wr => SameE (fun _ => True) w l l' iv wr) (fun iv _ => l.length - (intOf iv).toNat)
 case atStart => exact SameI.start (Below.refl _ _) trivial
 case round =>
  obtain ⟨i, rfl, HI⟩ := hrel
  have HX := Aside0.mk HI
  clear HI
  have hle := HX.out.le
  by_cases hlt : i < l.length
  ·have hlt' : i < l'.length := by rw [HQ.out]; exact hlt
   have hbr : b ≤ wr.heap.size := Nat.le_trans hb HX.out.b.size
   have hA := HA.out.ext (HX.out.b.mono hb)
   have hB := HB.out.ext (HX.out.b.mono hb)
   have HN := Aside0.mk (fun (h : l[i] = l'[i]) (W : World) (hw : Below wr.heap.size wr W) => HX.out.next hlt hlt' h hw trivial)
   have HS := Aside0.mk (HX.out.stop hlt hlt')
   obtain ⟨ad, rfl, d0⟩ := hA.atString hlt
   obtain ⟨ae, rfl, n0⟩ := hB.atString hlt'
   clear hA hB
   generalize l[i] = x at *
   generalize l'[i] = y at *
   go_wp2
   by_cases hxy : x = y
   ·subst hxy
    refine start_ (n := 9) (S := fun w' => w'.cell? (ad.add i) = some (.string x) ∧ w'.cell? (ae.add i) = some (.string x)) (ds := []) #[false, false, false, false, false, false, false, false, false] (by kernel_rfl) rfl rfl ⟨d0, n0⟩ (fun hHeld => ?_)
    refine zq 0 (some 17) ?_
    refine zq 1 (some 18) ?_
    refine zq 2 (some 19) ?_
    refine zq 4 (some 21) ?_
    refine zq 5 (some 22) ?_
    refine zq 6 (some 23) ?_
    refine zu 3 (some 20) hHeld ?_
    refine zu 7 (some 24) hHeld ?_
    refine zq 8 (some 25) ?_
    refine done_ (by kernel_rfl) ?_
    go_wp2
    go_roundw
    case rel => exact ⟨i + 1, by simp, HN.out rfl _ (below_drew (Below.refl _ _))⟩
    case measure => simp [intOf]; omega
   ·have ht : (x.toList == y.toList) = false := beq_eq_false_iff_ne.2 fun h => hxy (text_inj h)
    refine start_ (n := 9) (S := fun w' => w'.cell? (ad.add i) = some (.string x) ∧ w'.cell? (ae.add i) = some (.string y)) (ds := []) #[false, false, false, false, false, false, false, false, false] (by kernel_rfl) rfl rfl ⟨d0, n0⟩ (fun hHeld => ?_)
    refine zq 0 (some 17) ?_
    refine zq 1 (some 18) ?_
    refine zq 2 (some 19) ?_
    refine zq 4 (some 21) ?_
    refine zq 5 (some 22) ?_
    refine zq 6 (some 23) ?_
    refine zu 3 (some 20) hHeld ?_
    refine zu 7 (some 24) hHeld ?_
    refine zq 8 (some 25) ?_
    refine done_ (by kernel_rfl) ?_
    go_wp2
    go_ret
    exact Tells.no (HS.out hxy) (below_drew HX.out.b)
  ·have hir : ¬ (i : Int) < (l.length : Int) := by omega
   go_wp2
   go_ret
   exact Tells.yes (HX.out.done hlt HQ.out) HX.out.b
set_option maxHeartbeats 8000000 in
theorem sameBytes_calls (l l' : List Int) (w : World) (b : Nat) (A : Option Addr) (c : Nat) (B : Option Addr) (d : Nat) (h1 : In (Kd.int .u8) b w A l) (h2 : In (Kd.int .u8) b w B l') (hb : b ≤ w.heap.size) :
  Calls Tryz.prog 13 #[.slice A l.length c, .slice B l'.length d] w (Tells (l = l') w) := by
 have HA := Aside0.mk h1
 have HB := Aside0.mk h2
 have hm : l.length ≤ 9223372036854775807 := h1.max
 have hm' : l'.length ≤ 9223372036854775807 := h2.max
 clear h1 h2
 generalize hq : l'.length = q at *
 have HQ := Aside0.mk hq
 clear hq
 by_cases c3 : q = l.length
 case neg =>
  have hne : ¬ (l.length : Int) = (q : Int) := by omega
  go_enter Tryz.func13, Tryz.ntmps13
  go_wp2
  go_ret
  exact Tells.no (fun h => c3 (HQ.out.symm.trans (congrArg List.length h.symm))) (Below.refl _ _)
 subst c3
 go_enter Tryz.func13, Tryz.ntmps13
 go_wp2
 go_loopw [5] (fun iv wr => SameE (fun _ => True) w l l' iv wr) (fun iv _ => l.length - (intOf iv).toNat)
 case atStart => exact SameI.start (Below.refl _ _) trivial
 case round =>
  obtain ⟨i, rfl, HI⟩ := hrel
  have HX := Aside0.mk HI
  clear HI
  have hle := HX.out.le
  by_cases hlt : i < l.length
  ·have hlt' : i < l'.length := by rw [HQ.out]; exact hlt
   have hbr : b ≤ wr.heap.size := Nat.le_trans hb HX.out.b.size
   have hA := HA.out.ext (HX.out.b.mono hb)
   have hB := HB.out.ext (HX.out.b.mono hb)
   have HN := Aside0.mk (fun (h : l[i] = l'[i]) (W : World) (hw : Below wr.heap.size wr W) => HX.out.next hlt hlt' h hw trivial)
   have HS := Aside0.mk (HX.out.stop hlt hlt')
   obtain ⟨ad, rfl, d0⟩ := hA.atInt hlt
   obtain ⟨ae, rfl, n0⟩ := hB.atInt hlt'
   clear hA hB
   generalize l[i] = x at *
   generalize l'[i] = y at *
   go_wp2
   by_cases hxy : x = y
   ·subst hxy
    refine start_ (n := 9) (S := fun w' => w'.cell? (ad.add i) = some (.int .u8 x) ∧ w'.cell? (ae.add i) = some (.int .u8 x)) (ds := []) #[false, false, false, false, false, false, false, false, false] (by kernel_rfl) rfl rfl ⟨d0, n0⟩ (fun hHeld => ?_)
    refine zq 0 (some 17) ?_
    refine zq 1 (some 18) ?_
    refine zq 2 (some 19) ?_
    refine zq 4 (some 21) ?_
    refine zq 5 (some 22) ?_
    refine zq 6 (some 23) ?_
    refine zu 3 (some 20) hHeld ?_
    refine zu 7 (some 24) hHeld ?_
    refine zq 8 (some 25) ?_
    refine done_ (by kernel_rfl) ?_
    go_wp2
    go_roundw
    case rel => exact ⟨i + 1, by simp, HN.out rfl _ (below_drew (Below.refl _ _))⟩
    case measure => simp [intOf]; omega
   ·have ht : (x != y) = true := bne_iff_ne.2 hxy
    refine start_ (n := 9) (S := fun w' => w'.cell? (ad.add i) = some (.int .u8 x) ∧ w'.cell? (ae.add i) = some (.int .u8 y)) (ds := []) #[false, false, false, false, false, false, false, false, false] (by kernel_rfl) rfl rfl ⟨d0, n0⟩ (fun hHeld => ?_)
    refine zq 0 (some 17) ?_
    refine zq 1 (some 18) ?_
    refine zq 2 (some 19) ?_
    refine zq 4 (some 21) ?_
    refine zq 5 (some 22) ?_
    refine zq 6 (some 23) ?_
    refine zu 3 (some 20) hHeld ?_
    refine zu 7 (some 24) hHeld ?_
    refine zq 8 (some 25) ?_
    refine done_ (by kernel_rfl) ?_
    go_wp2
    go_ret
    exact Tells.no (HS.out hxy) (below_drew HX.out.b)
  ·have hir : ¬ (i : Int) < (l.length : Int) := by omega
   go_wp2
   go_ret
   exact Tells.yes (HX.out.done hlt HQ.out) HX.out.b
set_option maxHeartbeats 8000000 in
theorem sameCells_calls (l l' : List S121) (w : World) (b : Nat) (A : Option Addr) (c : Nat) (B : Option Addr) (d : Nat) (h1 : In k121 b w A l) (h2 : In k121 b w B l') (hb : b ≤ w.heap.size) :
  Calls Tryz.prog 31 #[.slice A l.length c, .slice B l'.length d] w (Tells (l = l') w) := by
 have HA := Aside0.mk h1
 have HB := Aside0.mk h2
 have hm : l.length ≤ 9223372036854775807 := h1.max
 have hm' : l'.length ≤ 9223372036854775807 := h2.max
 clear h1 h2
 generalize hq : l'.length = q at *
 have HQ := Aside0.mk hq
 clear hq
 by_cases c3 : q = l.length
 case neg =>
  have hne : ¬ (l.length : Int) = (q : Int) := by omega
  go_enter Tryz.func31, Tryz.ntmps31
  go_wp2
  go_ret
  exact Tells.no (fun h => c3 (HQ.out.symm.trans (congrArg List.length h.symm))) (Below.refl _ _)
 subst c3
 go_enter Tryz.func31, Tryz.ntmps31
 go_wp2
 go_loopw [5] (fun iv wr => SameE (fun _ => True) w l l' iv wr) (fun iv _ => l.length - (intOf iv).toNat)
 case atStart => exact SameI.start (Below.refl _ _) trivial
 case round =>
  obtain ⟨i, rfl, HI⟩ := hrel
  have HX := Aside0.mk HI
  clear HI
  have hle := HX.out.le
  by_cases hlt : i < l.length
  ·have hlt' : i < l'.length := by rw [HQ.out]; exact hlt
   have hbr : b ≤ wr.heap.size := Nat.le_trans hb HX.out.b.size
   have hA := HA.out.ext (HX.out.b.mono hb)
   have hB := HB.out.ext (HX.out.b.mono hb)
   have HN := Aside0.mk (fun (h : l[i] = l'[i]) (W : World) (hw : Below wr.heap.size wr W) => HX.out.next hlt hlt' h hw trivial)
   have HS := Aside0.mk (HX.out.stop hlt hlt')
   obtain ⟨ad, A1, c1, rfl, d0, d1, l1, g1⟩ := hA.at121 hlt
   obtain ⟨ae, B1, e1, rfl, n0, n1, m1, f1⟩ := hB.at121 hlt'
   have G1 := Aside0.mk g1
   have F1 := Aside0.mk f1
   have hx : (l[i]).f1.length ≤ 9223372036854775807 := g1.max
   have hy : (l'[i]).f1.length ≤ 9223372036854775807 := f1.max
   clear hA hB g1 f1
   generalize l[i] = x at *
   generalize l'[i] = y at *
   obtain ⟨k, v⟩ := x
   obtain ⟨k', v'⟩ := y
   dsimp only at *
   go_wp2
   by_cases hk : k = k'
   case neg =>
    have ht : (k.toList == k'.toList) = false := beq_eq_false_iff_ne.2 fun h => hk (text_inj h)
    refine start_ (n := 26) (S := fun w' => w'.cell? (ad.add (i * 2)) = some (.string k) ∧ w'.cell? ⟨(ad.add (i * 2)).block, (ad.add (i * 2)).off + 1, none⟩ = some (.slice A1 v.length c1) ∧ w'.cell? (ae.add (i * 2)) = some (.string k') ∧ w'.cell? ⟨(ae.add (i * 2)).block, (ae.add (i * 2)).off + 1, none⟩ = some (.slice B1 v'.length e1)) (ds := []) #[false, false, false, false, false, false, false, false, false, false, false, false, false, false, false, false, false, false, false, false, false, false, false, false, false, false] (by kernel_rfl) rfl rfl ⟨d0, d1, n0, n1⟩ (fun hHeld => ?_)
    refine zq 0 (some 18) ?_
    refine zq 1 (some 19) ?_
    refine zq 2 (some 20) ?_
    refine zq 3 (some 21) ?_
    refine zq 5 (some 23) ?_
    refine zq 6 (some 24) ?_
    refine zq 7 (some 25) ?_
    refine zq 8 (some 26) ?_
    refine zu 4 (some 22) hHeld ?_
    refine zu 9 (some 27) hHeld ?_
    refine zq 10 (some 28) ?_
    refine zq 11 (some 29) ?_
    refine pure_ (i := 12) (N := some 30) (v := undef) (a' := ?_) #[true, true, true, true, true, true, true, true, true, true, true, true, true, false, false, false, false, false, false, false, false, false, false, false, false, false] rfl rfl (by kernel_rfl) (fun _ _ _ h => h) (Or.inr ⟨by rfl, rfl⟩) ?_ ?_
    rotate_left
    ·simp only [Act.put, zla, zlb, zlc, i64_w, i32_w]
     rfl
    refine pure_ (i := 13) (N := some 31) (v := undef) (a' := ?_) #[true, true, true, true, true, true, true, true, true, true, true, true, true, true, false, false, false, false, false, false, false, false, false, false, false, false] rfl rfl (by kernel_rfl) (fun _ _ _ h => h) (Or.inr ⟨by rfl, rfl⟩) ?_ ?_
    rotate_left
    ·simp only [Act.put, zla, zlb, zlc, i64_w, i32_w]
     rfl
    refine pure_ (i := 14) (N := some 32) (v := undef) (a' := ?_) #[true, true, true, true, true, true, true, true, true, true, true, true, true, true, true, false, false, false, false, false, false, false, false, false, false, false] rfl rfl (by kernel_rfl) (fun _ _ _ h => h) (Or.inr ⟨by rfl, rfl⟩) ?_ ?_
    rotate_left
    ·simp only [Act.put, zla, zlb, zlc, i64_w, i32_w]
     rfl
    refine pure_ (i := 15) (N := some 33) (v := undef) (a' := ?_) #[true, true, true, true, true, true, true, true, true, true, true, true, true, true, true, true, false, false, false, false, false, false, false, false, false, false] rfl rfl (by kernel_rfl) (fun _ _ _ h => h) (Or.inr ⟨by rfl, rfl⟩) ?_ ?_
    rotate_left
    ·simp only [Act.put, zla, zlb, zlc, i64_w, i32_w]
     rfl
    refine pure_ (i := 16) (N := some 34) (v := undef) (a' := ?_) #[true, true, true, true, true, true, true, true, true, true, true, true, true, true, true, true, true, false, false, false, false, false, false, false, false, false] rfl rfl (by kernel_rfl) (fun _ _ _ h => h) (Or.inr ⟨by rfl, rfl⟩) ?_ ?_
    rotate_left
    ·simp only [Act.put, zla, zlb, zlc, i64_w, i32_w]
     rfl
    refine pure_ (i := 17) (N := some 35) (v := undef) (a' := ?_) #[true, true, true, true, true, true, true, true, true, true, true, true, true, true, true, true, true, true, false, false, false, false, false, false, false, false] rfl rfl (by kernel_rfl) (fun _ _ _ h => h) (Or.inr ⟨by rfl, rfl⟩) ?_ ?_
    rotate_left
    ·simp only [Act.put, zla, zlb, zlc, i64_w, i32_w]
     rfl
    refine pure_ (i := 18) (N := some 36) (v := undef) (a' := ?_) #[true, true, true, true, true, true, true, true, true, true, true, true, true, true, true, true, true, true, true, false, false, false, false, false, false, false] rfl rfl (by kernel_rfl) (fun _ _ _ h => h) (Or.inr ⟨by rfl, rfl⟩) ?_ ?_
    rotate_left
    ·simp only [Act.put, zla, zlb, zlc, i64_w, i32_w]
     rfl
    refine pure_ (i := 19) (N := some 37) (v := undef) (a' := ?_) #[true, true, true, true, true, true, true, true, true, true, true, true, true, true, true, true, true, true, true, true, false, false, false, false, false, false] rfl rfl (by kernel_rfl) (fun _ _ _ h => h) (Or.inr ⟨by rfl, rfl⟩) ?_ ?_
    rotate_left
    ·simp only [Act.put, zla, zlb, zlc, i64_w, i32_w]
     rfl
    refine pure_ (i := 20) (N := some 38) (v := undef) (a' := ?_) #[true, true, true, true, true, true, true, true, true, true, true, true, true, true, true, true, true, true, true, true, true, false, false, false, false, false] rfl rfl (by kernel_rfl) (fun _ _ _ h => h) (Or.inr ⟨by rfl, rfl⟩) ?_ ?_
    rotate_left
    ·simp only [Act.put, zla, zlb, zlc, i64_w, i32_w]
     rfl
    refine pure_ (i := 21) (N := some 39) (v := undef) (a' := ?_) #[true, true, true, true, true, true, true, true, true, true, true, true, true, true, true, true, true, true, true, true, true, true, false, false, false, false] rfl rfl (by kernel_rfl) (fun _ _ _ h => h) (Or.inr ⟨by rfl, rfl⟩) ?_ ?_
    rotate_left
    ·simp only [Act.put, zla, zlb, zlc, i64_w, i32_w]
     rfl
    refine pure_ (i := 22) (N := some 40) (v := undef) (a' := ?_) #[true, true, true, true, true, true, true, true, true, true, true, true, true, true, true, true, true, true, true, true, true, true, true, false, false, false] rfl rfl (by kernel_rfl) (fun _ _ _ h => h) (Or.inr ⟨by rfl, rfl⟩) ?_ ?_
    rotate_left
    ·simp only [Act.put, zla, zlb, zlc, i64_w, i32_w]
     rfl
    refine pure_ (i := 23) (N := some 41) (v := undef) (a' := ?_) #[true, true, true, true, true, true, true, true, true, true, true, true, true, true, true, true, true, true, true, true, true, true, true, true, false, false] rfl rfl (by kernel_rfl) (fun _ _ _ h => h) (Or.inr ⟨by rfl, rfl⟩) ?_ ?_
    rotate_left
    ·simp only [Act.put, zla, zlb, zlc, i64_w, i32_w]
     rfl
    refine pure_ (i := 24) (N := some 42) (v := undef) (a' := ?_) #[true, true, true, true, true, true, true, true, true, true, true, true, true, true, true, true, true, true, true, true, true, true, true, true, true, false] rfl rfl (by kernel_rfl) (fun _ _ _ h => h) (Or.inr ⟨by rfl, rfl⟩) ?_ ?_
    rotate_left
    ·simp only [Act.put, zla, zlb, zlc, i64_w, i32_w]
     rfl
    refine zq 25 (some 43) ?_
    refine done_ (by kernel_rfl) ?_
    go_wp2
    go_ret
    exact Tells.no (HS.out fun h => hk (congrArg S121.f0 h)) (below_drew HX.out.b)
   subst hk
   generalize hp : v'.length = p at *
   have HP := Aside0.mk hp
   clear hp
   by_cases hv : p = v.length
   case neg =>
    have hne : ¬ (v.length : Int) = (p : Int) := by omega
    refine start_ (n := 26) (S := fun w' => w'.cell? (ad.add (i * 2)) = some (.string k) ∧ w'.cell? ⟨(ad.add (i * 2)).block, (ad.add (i * 2)).off + 1, none⟩ = some (.slice A1 v.length c1) ∧ w'.cell? (ae.add (i * 2)) = some (.string k) ∧ w'.cell? ⟨(ae.add (i * 2)).block, (ae.add (i * 2)).off + 1, none⟩ = some (.slice B1 p e1)) (ds := []) #[false, false, false, false, false, false, false, false, false, false, false, false, false, false, false, false, false, false, false, false, false, false, false, false, false, false] (by kernel_rfl) rfl rfl ⟨d0, d1, n0, n1⟩ (fun hHeld => ?_)
    refine zq 0 (some 18) ?_
    refine zq 1 (some 19) ?_
    refine zq 2 (some 20) ?_
    refine zq 3 (some 21) ?_
    refine zq 5 (some 23) ?_
    refine zq 6 (some 24) ?_
    refine zq 7 (some 25) ?_
    refine zq 8 (some 26) ?_
    refine zu 4 (some 22) hHeld ?_
    refine zu 9 (some 27) hHeld ?_
    refine zq 10 (some 28) ?_
    refine zq 11 (some 29) ?_
    refine zq 12 (some 30) ?_
    refine zq 13 (some 31) ?_
    refine zq 14 (some 32) ?_
    refine zq 15 (some 33) ?_
    refine zq 18 (some 36) ?_
    refine zq 19 (some 37) ?_
    refine zq 20 (some 38) ?_
    refine zq 21 (some 39) ?_
    refine zu 16 (some 34) hHeld ?_
    refine zq 17 (some 35) ?_
    refine zu 22 (some 40) hHeld ?_
    refine zq 23 (some 41) ?_
    refine zq 24 (some 42) ?_
    refine zq 25 (some 43) ?_
    refine done_ (by kernel_rfl) ?_
    go_wp2
    go_ret
    exact Tells.no (HS.out fun h => hv (HP.out.symm.trans (congrArg (fun x : S121 => x.f1.length) h.symm))) (below_drew HX.out.b)
   subst hv
   obtain ⟨wo, rfl⟩ : ∃ x, x = wr := ⟨wr, rfl⟩
   refine start_ (n := 26) (S := fun w' => w'.cell? (ad.add (i * 2)) = some (.string k) ∧ w'.cell? ⟨(ad.add (i * 2)).block, (ad.add (i * 2)).off + 1, none⟩ = some (.slice A1 v.length c1) ∧ w'.cell? (ae.add (i * 2)) = some (.string k) ∧ w'.cell? ⟨(ae.add (i * 2)).block, (ae.add (i * 2)).off + 1, none⟩ = some (.slice B1 v.length e1)) (ds := []) #[false, false, false, false, false, false, false, false, false, false, false, false, false, false, false, false, false, false, false, false, false, false, false, false, false, false] (by kernel_rfl) rfl rfl ⟨d0, d1, n0, n1⟩ (fun hHeld => ?_)
   refine zq 0 (some 18) ?_
   refine zq 1 (some 19) ?_
   refine zq 2 (some 20) ?_
   refine zq 3 (some 21) ?_
   refine zq 5 (some 23) ?_
   refine zq 6 (some 24) ?_
   refine zq 7 (some 25) ?_
   refine zq 8 (some 26) ?_
   refine zu 4 (some 22) hHeld ?_
   refine zu 9 (some 27) hHeld ?_
   refine zq 10 (some 28) ?_
   refine zq 11 (some 29) ?_
   refine zq 12 (some 30) ?_
   refine zq 13 (some 31) ?_
   refine zq 14 (some 32) ?_
   refine zq 15 (some 33) ?_
   refine zq 18 (some 36) ?_
   refine zq 19 (some 37) ?_
   refine zq 20 (some 38) ?_
   refine zq 21 (some 39) ?_
   refine zu 16 (some 34) hHeld ?_
   refine zq 17 (some 35) ?_
   refine zu 22 (some 40) hHeld ?_
   refine zq 23 (some 41) ?_
   refine zq 24 (some 42) ?_
   refine zq 25 (some 43) ?_
   refine done_ (by kernel_rfl) ?_
   go_wp2
   go_loopw [6] (fun jv wq => SameE (fun _ => True) wo v v' jv wq) (fun jv _ => v.length - (intOf jv).toNat)
   case atStart => exact SameI.start (below_drew (Below.refl _ _)) trivial
   case round =>
    obtain ⟨j, rfl, HJ⟩ := hrel
    have HY := Aside0.mk HJ
    clear HJ
    have hje := HY.out.le
    have c0 := (HY.out.b.cell (World.block_lt_of_cell? _ _ d0)).trans d0
    have c1' := (HY.out.b.cell (World.block_lt_of_cell? _ _ d1)).trans d1
    have c2 := (HY.out.b.cell (World.block_lt_of_cell? _ _ n0)).trans n0
    have c3 := (HY.out.b.cell (World.block_lt_of_cell? _ _ n1)).trans n1
    by_cases hjt : j < v.length
    ·skip
     have hjt' : j < v'.length := by rw [HP.out]; exact hjt
     have hbq : b ≤ wr.heap.size := Nat.le_trans hbr HY.out.b.size
     obtain ⟨af, A3, c3', rfl, p0, p1, p2, p3, l3, g3⟩ := (G1.out.ext (HY.out.b.mono hbr)).at25 hjt
     obtain ⟨ag, B3, e3', rfl, q0, q1, q2, q3, m3, f3⟩ := (F1.out.ext (HY.out.b.mono hbr)).at25 hjt'
     have HC := Aside0.mk (fun (W : World) (hw : Below wr.heap.size wr W) => (sameValue_calls _ v[j] v'[j] (Nat.le_refl _) W b A3 c3' B3 e3' (g3.ext (hw.mono hbq)) (f3.ext (hw.mono hbq)) (Nat.le_trans hbq hw.size) l3 m3).mono fun e w' => Tells.at hw)
     have HM := Aside0.mk (fun (h : v[j] = v'[j]) (W : World) (hw : Below wr.heap.size wr W) => HY.out.next hjt hjt' h hw trivial)
     have HT := Aside0.mk (HY.out.stop hjt hjt')
     clear g3 f3 l3 m3
     generalize v[j] = x at *
     generalize v'[j] = y at *
     go_wp2
     refine start_ (n := 18) (S := fun w' => w'.cell? ⟨(ad.add (i * 2)).block, (ad.add (i * 2)).off + 1, none⟩ = some (.slice (some af) v.length c1) ∧ w'.cell? ⟨(ae.add (i * 2)).block, (ae.add (i * 2)).off + 1, none⟩ = some (.slice (some ag) v.length e1) ∧ w'.cell? (af.add (j * 4)) = some (.int .i64 x.f0) ∧ w'.cell? ⟨(af.add (j * 4)).block, (af.add (j * 4)).off + 1, none⟩ = some (.int .i64 x.f1) ∧ w'.cell? ⟨(af.add (j * 4)).block, (af.add (j * 4)).off + 2, none⟩ = some (.string x.f2) ∧ w'.cell? ⟨(af.add (j * 4)).block, (af.add (j * 4)).off + 3, none⟩ = some (.slice A3 x.f3.length c3') ∧ w'.cell? (ag.add (j * 4)) = some (.int .i64 y.f0) ∧ w'.cell? ⟨(ag.add (j * 4)).block, (ag.add (j * 4)).off + 1, none⟩ = some (.int .i64 y.f1) ∧ w'.cell? ⟨(ag.add (j * 4)).block, (ag.add (j * 4)).off + 2, none⟩ = some (.string y.f2) ∧ w'.cell? ⟨(ag.add (j * 4)).block, (ag.add (j * 4)).off + 3, none⟩ = some (.slice B3 y.f3.length e3')) (ds := [16]) #[false, false, false, false, false, false, false, false, false, false, false, false, false, false, false, false, false, false] (by kernel_rfl) rfl rfl ⟨c1', c3, p0, p1, p2, p3, q0, q1, q2, q3⟩ (fun hHeld => ?_)
     refine zq 0 (some 54) ?_
     refine zq 1 (some 55) ?_
     refine zq 2 (some 56) ?_
     refine zq 3 (some 57) ?_
     refine zq 5 (some 59) ?_
     refine zq 8 (some 62) ?_
     refine zq 9 (some 63) ?_
     refine zq 10 (some 64) ?_
     refine zq 11 (some 65) ?_
     refine zq 13 (some 67) ?_
     refine zu 4 (some 58) hHeld ?_
     refine zq 6 (some 60) ?_
     refine zu 7 (some 61) hHeld ?_
     refine zu 12 (some 66) hHeld ?_
     refine zq 14 (some 68) ?_
     refine zu 15 (some 69) hHeld ?_
     refine last_ (i := 16) (N := some 70) #[true, true, true, true, true, true, true, true, true, true, true, true, true, true, true, true, true, false] rfl rfl (by kernel_rfl) (by decide) (fun K hK => ?_)
     refine goes_ Tryz.func43 (by kernel_rfl) rfl #[.agg #[.int .i64 x.f0, .int .i64 x.f1, .string x.f2, .slice A3 x.f3.length c3'], .agg #[.int .i64 y.f0, .int .i64 y.f1, .string y.f2, .slice B3 y.f3.length e3']] (by rfl) rfl rfl (by simp only [List.map_toArray, List.map_cons, List.map_nil]; rfl) ?_
     refine (HC.out _ ?hw).mono ?_
     case hw => repeat (with_reducible first | exact Below.refl _ _ | apply below_drew | apply pw_below_drewN | apply below_alloc)
     rintro e w5 ⟨r, rfl, h1, h2⟩
     have HR := Aside0.mk h1
     have HBL := Aside0.mk h2
     clear h1 h2
     refine ⟨_, rfl, ?_⟩
     refine hK.out _ _ ?_
     clear hK K
     refine norm_ (a' := ?_) ?_ ?_
     rotate_left
     ·show Act.put _ (some 70) _ = _
      simp only [Act.put, zla, zlb, zlc, i64_w, i32_w]
      rfl
     refine zq 17 (some 71) ?_
     refine done_ (by kernel_rfl) ?_
     cases r
     ·go_wp2
      go_ret
      exact Tells.no (HS.out fun h => HT.out (fun e => by have := HR.out.2 e; cases this) (congrArg S121.f1 h)) (HX.out.b.trans ((HY.out.b.trans (HBL.out.mono HY.out.b.size)).mono HX.out.b.size))
     ·go_wp2
      go_roundw
      case rel => exact ⟨j + 1, by simp, HM.out (HR.out.1 (by first | rfl | trivial)) _ HBL.out⟩
      case measure => simp [intOf]; omega
    ·have hjr : ¬ (j : Int) < (v.length : Int) := by omega
     go_wp2
     go_roundw
     case rel => exact ⟨i + 1, by simp, HN.out (by rw [HY.out.done hjt HP.out]) _ HY.out.b⟩
     case measure => simp [intOf]; omega
  ·have hir : ¬ (i : Int) < (l.length : Int) := by omega
   go_wp2
   go_ret
   exact Tells.yes (HX.out.done hlt HQ.out) HX.out.b
end Go.Proofs.YthmkioodkldgbaaGreat.DK
/- eddylaw4.WirePuts; conditions: those in each theorem. -/
namespace Go.Proofs.YthmkioodkldgbaaGreat.DK
open Go.Proofs.YthmkioodkldgbaaGreat.PD
open Go.RowKit Go.Proofs.YthmkioodkldgbaaGreatW.PrintWords Go.Proofs.YthmkioodkldgbaaGreatW.PrintLast Go.Proofs.YthmkioodkldgbaaGreatW.PrintMore
set_option linter.unusedVariables false
set_option linter.unusedSimpArgs false
set_option maxRecDepth 100000
theorem same_calls {w0 w : World} {b b' : Nat} {v u : Value} {l : List Int} (h : R5 b w v l) (h' : R5 b' w u l) (hb : Below w0.heap.size w0 w) : Calls Tryz.prog 13 #[v, u] w fun e w' => e = .returned (.bool true) ∧ Below w0.heap.size w0 w' := by
 obtain ⟨A0, c0, rfl, l0, r0⟩ := own_reads_of_le (enc := Value.int .u8) (d := (0 : Int)) (show World.ownsRow _ _ _ _ _ _ (encs (Value.int .u8) l) from h)
 obtain ⟨A1, c1, rfl, l1, r1⟩ := own_reads_of_le (enc := Value.int .u8) (d := (0 : Int)) (show World.ownsRow _ _ _ _ _ _ (encs (Value.int .u8) l) from h')
 have e0 := Kd.C_of_reads (h1 := fun _ => rfl) r0
 have e1 := Kd.C_of_reads (h1 := fun _ => rfl) r1
 refine (sameBytes_calls l l w w.heap.size A0 c0 A1 c1 (In.ofC e0 (Below.refl _ _) (Nat.le_refl _)) (In.ofC e1 (Below.refl _ _) (Nat.le_refl _)) (Nat.le_refl _)).mono ?_
 rintro e w' ⟨r, rfl, hr, hd⟩
 obtain rfl : r = true := hr.2 rfl
 exact ⟨rfl, hb.trans (hd.mono hb.size)⟩
def TrueB (w : World) (e : Ending) (w' : World) : Prop := e = .returned (.bool true) ∧ Below w.heap.size w w'
end Go.Proofs.YthmkioodkldgbaaGreat.DK
/- The chapter's example, plainly: its bytes, and what they say; conditions: none. -/
namespace Go.Proofs.YthmkioodkldgbaaGreat.DK
open Go.Proofs.YthmkioodkldgbaaGreat.PD
open Go.RowKit Go.Proofs.YthmkioodkldgbaaGreatW.PrintWords
set_option linter.unusedVariables false
set_option maxRecDepth 100000
def five : S28 := ⟨⟨#[97]⟩, ⟨1, 5, ⟨#[]⟩, []⟩, [0, 2]⟩
def want : List Int := [1, 97, 1, 10, 2, 0, 2]
theorem five_chk : (chk five.f1 0 0).2 = 0 := by rw [chk_eq]; simp [five, other, chkL_nil, ByteArray.size]
theorem five_recC : recC five = 0 := by
 unfold recC
 rw [five_chk]
 simp [five, loopsC, ByteArray.size]
theorem five_enc : encR five = want := by
 unfold encR
 rw [encM_eq]
 simp [five, keyB, bytesOf, lst, grp, grpN, zz, want, ByteArray.size]
theorem want_get : pGet 1 want = (0, { zT 1 with r := five }) := by
 simp [pGet, orZ, pWhole, pRec, Rd.and, pKey, pTake, pNum, highs, grps, want, Rd.bind, Rd.map, pVal, pDeep, pOne, pInt, unz, pList, pMany, five, zT]
 rfl
end Go.Proofs.YthmkioodkldgbaaGreat.DK
