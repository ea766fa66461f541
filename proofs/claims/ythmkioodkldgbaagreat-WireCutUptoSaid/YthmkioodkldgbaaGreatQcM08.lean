/- What each Go function named in this text computes, as a Lean function, and that the Go code comes to it; conditions: those in each theorem. (Lines written by this session's program.) -/
import Derived.Test.YthmkioodkldgbaaGreatQcM04
import Derived.Test.YthmkioodkldgbaaGreatQcM07
import Derived.Test.YthmkioodkldgbaaGreatQcM06
namespace Go.Proofs.YthmkioodkldgbaaGreat.PD
open Go.RowKit Go.Proofs.YthmkioodkldgbaaGreatW.PrintWords Go.Proofs.YthmkioodkldgbaaGreatW.PrintLast Go.Proofs.YthmkioodkldgbaaGreatW.PrintMore
attribute [local go_sem] max2_int min2_int max_two min_two max_three min_three max_four min_four   -- for this text's walks alone
set_option linter.unusedVariables false
set_option linter.unusedSimpArgs false
/-! ### eddyref2_CheckState: function 68 -/
/-- A state of type 101 at block g of W; what its slices lead to came in by w0. -/
def IsS101 (w0 W : World) (g : Nat) (f0 : List Int) (f1 : List ByteArray) (f2 : List (S25)) (f3 : Int) (f4 : Int) (f5 : Int) : Prop := ∃ A0 c0, ∃ A1 c1, ∃ A2 c2, W.heap[g]? = some (.cells #[.slice A0 f0.length c0, .slice A1 f1.length c1, .slice A2 f2.length c2, .int .i64 f3, .int .i64 f4, .int .i64 f5] 145 (0, 0)) ∧ w0.heap.size ≤ g ∧ Kd.C (Kd.int .i64) w0 A0 f0.length f0 ∧ Kd.C Kd.string w0 A1 f1.length f1 ∧ Kd.C k25 w0 A2 f2.length f2
theorem IsS101.grown {w0 W : World} {g : Nat} {f0 : List Int} {f1 : List ByteArray} {f2 : List (S25)} {f3 : Int} {f4 : Int} {f5 : Int} {W1 : World} {row : Option Nat} (h : IsS101 w0 W g f0 f1 f2 f3 f4 f5) (hw : W.grownBy W1 row) (hne : some g ≠ row) : IsS101 w0 W1 g f0 f1 f2 f3 f4 f5 := by
 obtain ⟨A0, c0, A1, c1, A2, c2, hb, hg, hr0, hr1, hr2⟩ := h
 exact ⟨A0, c0, A1, c1, A2, c2, blk_grown hb hw hne, hg, hr0, hr1, hr2⟩
theorem IsS101.kept {w0 W : World} {g : Nat} {f0 : List Int} {f1 : List ByteArray} {f2 : List (S25)} {f3 : Int} {f4 : Int} {f5 : Int} {W1 : World} {S : Nat → Prop} (h : IsS101 w0 W g f0 f1 f2 f3 f4 f5) (hk : Kept W W1 S) (hne : ¬ S g) : IsS101 w0 W1 g f0 f1 f2 f3 f4 f5 := by
 obtain ⟨A0, c0, A1, c1, A2, c2, hb, hg, hr0, hr1, hr2⟩ := h
 exact ⟨A0, c0, A1, c1, A2, c2, blk_kept hb hk hne, hg, hr0, hr1, hr2⟩
theorem IsS101.below {w0 W : World} {g : Nat} {f0 : List Int} {f1 : List ByteArray} {f2 : List (S25)} {f3 : Int} {f4 : Int} {f5 : Int} {W1 : World} (h : IsS101 w0 W g f0 f1 f2 f3 f4 f5) (hw : Below W.heap.size W W1) : IsS101 w0 W1 g f0 f1 f2 f3 f4 f5 := h.grown (grown_of_below hw none) (by simp)
theorem IsS101.alloc {w0 W : World} {g : Nat} {f0 : List Int} {f1 : List ByteArray} {f2 : List (S25)} {f3 : Int} {f4 : Int} {f5 : Int} (h : IsS101 w0 W g f0 f1 f2 f3 f4 f5) (o : Obj) : IsS101 w0 (W.alloc o) g f0 f1 f2 f3 f4 f5 := h.below (below_alloc (Below.refl _ _) o)
theorem IsS101.drewN {w0 W : World} {g : Nat} {f0 : List Int} {f1 : List ByteArray} {f2 : List (S25)} {f3 : Int} {f4 : Int} {f5 : Int} (h : IsS101 w0 W g f0 f1 f2 f3 f4 f5) (m : Nat) : IsS101 w0 (W.drewN m) g f0 f1 f2 f3 f4 f5 := h
theorem IsS101.drew {w0 W : World} {g : Nat} {f0 : List Int} {f1 : List ByteArray} {f2 : List (S25)} {f3 : Int} {f4 : Int} {f5 : Int} (h : IsS101 w0 W g f0 f1 f2 f3 f4 f5) : IsS101 w0 W.drew g f0 f1 f2 f3 f4 f5 := h
theorem IsS101.at_ {w0 W : World} {g : Nat} {f0 : List Int} {f1 : List ByteArray} {f2 : List (S25)} {f3 : Int} {f4 : Int} {f5 : Int} {w' : World} {m : Nat} (hq : W.drewN m = w') (h : IsS101 w0 W g f0 f1 f2 f3 f4 f5) : IsS101 w0 w' g f0 f1 f2 f3 f4 f5 := by subst hq; exact IsS101.drewN h m
theorem IsS101.apart {w0 W : World} {g : Nat} {f0 : List Int} {f1 : List ByteArray} {f2 : List (S25)} {f3 : Int} {f4 : Int} {f5 : Int} {α : Type} {d : Kd α} {e : Nat} {base : Nat} {ok : Nat → Prop} {v : Value} {xs : List α} (h : IsS101 w0 W g f0 f1 f2 f3 f4 f5) (ho : d.R e W base ok v xs) (ht : ∀ q, q ∈ e :: d.E → q ≠ 145) : d.R e W base (fun k => ok k ∧ k ≠ g) v xs := by
 obtain ⟨A0, c0, A1, c1, A2, c2, hb, hg, hr0, hr1, hr2⟩ := h
 exact Kd.R_types ho hb ht
theorem IsS101.own_ne {w0 W : World} {g : Nat} {f0 : List Int} {f1 : List ByteArray} {f2 : List (S25)} {f3 : Int} {f4 : Int} {f5 : Int} {α : Type} {d : Kd α} {e : Nat} {base : Nat} {ok : Nat → Prop} {v : Value} {xs : List α} (h : IsS101 w0 W g f0 f1 f2 f3 f4 f5) (ho : d.R e W base ok v xs) (ht : e ≠ 145) : some g ≠ v.ownBlock := by
 obtain ⟨A0, c0, A1, c1, A2, c2, hb, hg, hr0, hr1, hr2⟩ := h
 exact Kd.R_ne ho hb ht
theorem IsS101.lt {w0 W : World} {g : Nat} {f0 : List Int} {f1 : List ByteArray} {f2 : List (S25)} {f3 : Int} {f4 : Int} {f5 : Int} (h : IsS101 w0 W g f0 f1 f2 f3 f4 f5) : g < W.heap.size := by
 obtain ⟨A0, c0, A1, c1, A2, c2, hb, hg, hr0, hr1, hr2⟩ := h
 exact blk_lt hb
theorem IsS101.ge {w0 W : World} {g : Nat} {f0 : List Int} {f1 : List ByteArray} {f2 : List (S25)} {f3 : Int} {f4 : Int} {f5 : Int} (h : IsS101 w0 W g f0 f1 f2 f3 f4 f5) : w0.heap.size ≤ g := by
 obtain ⟨A0, c0, A1, c1, A2, c2, hb, hg, hr0, hr1, hr2⟩ := h
 exact hg
theorem IsS101.far {w0 W : World} {g : Nat} {f0 : List Int} {f1 : List ByteArray} {f2 : List (S25)} {f3 : Int} {f4 : Int} {f5 : Int} {p : Addr} (h : IsS101 w0 W g f0 f1 f2 f3 f4 f5) (hne : g ≠ p.block) (u : Value) : IsS101 w0 (W.setCell p u) g f0 f1 f2 f3 f4 f5 := by
 obtain ⟨A0, c0, A1, c1, A2, c2, hb, hg, hr0, hr1, hr2⟩ := h
 exact ⟨A0, c0, A1, c1, A2, c2, blk_far hb hne u, hg, hr0, hr1, hr2⟩
end Go.Proofs.YthmkioodkldgbaaGreat.PD
/- wire.putCell, putRecord, putState, putRecords and their lists; conditions: those in each theorem. -/
namespace Go.Proofs.YthmkioodkldgbaaGreat.DK
open Go.Proofs.YthmkioodkldgbaaGreat.PD
open Go.RowKit Go.Proofs.YthmkioodkldgbaaGreatW.PrintWords Go.Proofs.YthmkioodkldgbaaGreatW.PrintLast Go.Proofs.YthmkioodkldgbaaGreatW.PrintMore
set_option linter.unusedVariables false
set_option linter.unusedSimpArgs false
set_option maxRecDepth 100000
theorem In.ext5 {α : Type} {d : Kd α} {b : Nat} {w w1 : World} {A : Option Addr} {l : List α} (h : In d b w A l) (hb : b ≤ w.heap.size) (hu : U5 b w w1) : In d b w1 A l := h.ext (hu.below hb)
set_option maxHeartbeats 4000000 in
theorem putCell_calls (b : Nat) (w : World) (u : Value) (xs : List Int) (x : S121) (A1 : Option Addr) (c1 : Nat) (HO : R5 b w u xs) (hb : b ≤ w.heap.size) (hB : In k25 b w A1 x.f1) (hc : x.f1.length ≤ c1) (hk : okCell x) (hl : (xs ++ encC x).length ≤ 140737488355328) :
  Calls Tryz.prog 91 #[u, .agg #[.string x.f0, .slice A1 x.f1.length c1]] w (Ext b w (xs ++ encC x)) := by
 have hl1 : (xs ++ keyB x.f0).length ≤ 140737488355328 := by unfold encC at hl; simp only [List.length_append] at hl ⊢; omega
 have hl2 : (xs ++ keyB x.f0 ++ lst encM x.f1).length ≤ 140737488355328 := by unfold encC at hl; simpa only [List.append_assoc] using hl
 have HR := Aside0.mk HO
 have HI := Aside0.mk hB
 have HK := Aside0.mk hk
 clear hB HO hk hl
 unfold Ext
 obtain ⟨k, l⟩ := x
 dsimp only at *
 go_enter Tryz.func91, Tryz.ntmps91
 go_wp2
 have hbx : (w.alloc (.cells #[.string k, .slice A1 l.length c1] 129)).heap[w.heap.size]? = some (.cells #[.string k, .slice A1 l.length c1] 129 (0, 0)) := heap_alloc_new w _
 have m0 := blk_cell hbx 0
 have m1 := blk_cell hbx 1
 simp only [List.getElem?_toArray, List.getElem?_cons_succ, List.getElem?_cons_zero] at m0 m1
 have HB := Aside0.mk hbx
 clear hbx
 refine start_ (n := 8) (S := fun w' => w'.cell? ⟨w.heap.size, 0, none⟩ = some (.string k) ∧ w'.cell? ⟨w.heap.size, 1, none⟩ = some (.slice A1 l.length c1)) (ds := [6]) #[false, false, false, false, false, false, false, false] (by kernel_rfl) rfl rfl ⟨m0, m1⟩ (fun hHeld => ?_)
 refine zq 0 (some 5) ?_
 refine zq 1 (some 6) ?_
 refine zq 4 (some 9) ?_
 refine zu 2 (some 7) hHeld ?_
 refine zu 5 (some 10) hHeld ?_
 refine one_ (i := 3) (N := some 8) #[true, true, true, true, true, true, false, false] rfl rfl (by kernel_rfl) (by decide) (fun K hK => ?_)
 refine goes_ Tryz.func95 (by kernel_rfl) rfl #[u, .string k] (by rfl) rfl rfl (by simp only [List.map_toArray, List.map_cons, List.map_nil]; rfl) ?_
 refine (putKey_calls b _ u xs k HK.out.key ?hr ?hs hl1).mono ?_
 case hr => exact (by repeat (with_reducible first | exact HR.out | apply R5.drew | apply R5.drewN | apply R5.alloc))
 case hs => exact (Nat.le_trans hb (U5.size (b := b) (by repeat (with_reducible first | exact U5.refl _ _ | apply U5.drew | apply U5.drewN | apply U5.alloc))))
 rintro e w1 ⟨u1, rfl, h1, h2⟩
 have HR1 := Aside0.mk h1
 have HU1 := Aside0.mk (U5.trans (b := b) (w := w) (by repeat (with_reducible first | exact U5.refl _ _ | apply U5.drew | apply U5.drewN | apply U5.alloc)) h2)
 have HB1 := Aside0.mk (h2.blk (by repeat (with_reducible first | exact HB.out | apply blk_drew | apply blk_drewN | apply blk_alloc)) (by decide))
 clear h1 h2
 refine ⟨_, rfl, ?_⟩
 refine hK.out _ _ ⟨(blk_cell HB1.out 0), (blk_cell HB1.out 1)⟩ (fun hHeld => ?_)
 clear hK K
 refine norm_ (a' := ?_) ?_ ?_
 rotate_left
 ·show Act.put _ (some 8) _ = _
  simp only [Act.put, zla, zlb, zlc, i64_w, i32_w]
  rfl
 refine last_ (i := 6) (N := some 11) #[true, true, true, true, true, true, true, false] rfl rfl (by kernel_rfl) (by decide) (fun K hK => ?_)
 refine goes_ Tryz.func129 (by kernel_rfl) rfl #[u1, .slice A1 l.length c1, .func (.func 99) #[] #[]] (by rfl) rfl rfl (by simp only [List.map_toArray, List.map_cons, List.map_nil]; rfl) ?_
 refine (putVals_calls b _ u1 _ l A1 c1 ?hr ?hs ?hi0 HK.out.vals hl2).mono ?_
 case hr => exact (by repeat (with_reducible first | exact HR1.out | apply R5.drew | apply R5.drewN | apply R5.alloc))
 case hs => exact (Nat.le_trans hb (U5.size (b := b) (by repeat (with_reducible first | exact HU1.out | apply U5.drew | apply U5.drewN | apply U5.alloc))))
 case hi0 => exact (HI.out.ext5 hb (by repeat (with_reducible first | exact HU1.out | apply U5.drew | apply U5.drewN | apply U5.alloc)))
 rintro e w2 ⟨u2, rfl, h1, h2⟩
 have HR2 := Aside0.mk h1
 have HU2 := Aside0.mk (U5.trans (b := b) (w := w) (by repeat (with_reducible first | exact HU1.out | apply U5.drew | apply U5.drewN | apply U5.alloc)) h2)
 have HB2 := Aside0.mk (h2.blk (by repeat (with_reducible first | exact HB1.out | apply blk_drew | apply blk_drewN | apply blk_alloc)) (by decide))
 clear h1 h2
 refine ⟨_, rfl, ?_⟩
 refine hK.out _ _ ?_
 clear hK K
 refine norm_ (a' := ?_) ?_ ?_
 rotate_left
 ·show Act.put _ (some 11) _ = _
  simp only [Act.put, zla, zlb, zlc, i64_w, i32_w]
  rfl
 refine zq 7 (some 4) ?_
 refine done_ (by kernel_rfl) ?_
 go_wp2
 go_ret
 exact ⟨u2, rfl, (by have h := HR2.out; simpa only [encC, lst, List.append_assoc] using h), (by repeat (with_reducible first | exact HU2.out | apply U5.drew | apply U5.drewN | apply U5.alloc))⟩
set_option maxHeartbeats 4000000 in
theorem putCells_calls (b : Nat) (w : World) (u : Value) (xs : List Int) (l : List S121) (A : Option Addr) (c : Nat) (HO : R5 b w u xs) (hb : b ≤ w.heap.size) (hB : In k121 b w A l) (hk : ∀ x ∈ l, okCell x) (hl : (xs ++ lst encC l).length ≤ 140737488355328) :
  Calls Tryz.prog 90 #[u, .slice A l.length c, .func (.func 91) #[] #[]] w (Ext b w (xs ++ lst encC l)) := by
 have HR := Aside0.mk HO
 have HC := Aside0.mk hB
 have hlen : l.length ≤ 9223372036854775807 := hB.max
 have HK := Aside0.mk hk
 have HL := Aside0.mk hl
 have hl1 : (xs ++ grp (l.length : Int)).length ≤ 140737488355328 := by unfold lst at hl; simp only [List.length_append] at hl ⊢; omega
 clear hB HO hk hl
 unfold Ext
 go_enter Tryz.func90, Tryz.ntmps90
 go_wp2_with fail
 refine (putNumber_calls b w u xs l.length (by omega) (by omega) HR.out hb hl1).mono ?_
 rintro e w1 ⟨u1, rfl, h1, h2⟩
 have HR1 := Aside0.mk h1
 have HU1 := Aside0.mk h2
 have hb1 : b ≤ w1.heap.size := Nat.le_trans hb h2.size
 clear h1 h2
 go_wp2
 go_loopw [0, 15] (fun u iv wr => LstE b w1 encC l (xs ++ lst encC l) u iv wr) (fun _ iv _ => l.length - (intOf iv).toNat)
 case atStart => exact ⟨0, _, rfl, Nat.zero_le _, HR1.out, U5.refl _ _, by unfold lst; simp⟩
 case round =>
  obtain ⟨i, ys, rfl, hle, hrow, hup, heq⟩ := hrel
  have HRW := Aside0.mk hrow
  have HUP := Aside0.mk (HU1.out.trans hup)
  have HUP1 := Aside0.mk hup
  have hbr : b ≤ wr.heap.size := Nat.le_trans hb1 hup.size
  clear hrow hup
  by_cases hlt : i < l.length
  ·have hdrop : l.drop i = l[i] :: l.drop (i + 1) := List.drop_eq_getElem_cons hlt
   have hC := HC.out.ext (HUP.out.below hb)
   obtain ⟨ad, A1, c1, rfl, d0, d1, l1, g1⟩ := hC.at121 hlt
   have G1 := Aside0.mk g1
   have L1 := Aside0.mk l1
   clear g1 l1
   have HKX := Aside0.mk (HK.out l[i] (List.getElem_mem hlt))
   rw [hdrop, List.flatMap_cons, ← List.append_assoc] at heq
   have hll : (ys ++ encC l[i]).length ≤ 140737488355328 := by
    have h := HL.out
    rw [← heq] at h
    simp only [List.length_append] at h ⊢
    omega
   have HEQ := Aside0.mk heq
   have HX := Aside0.mk (fun (W : World) (hw : Below wr.heap.size wr W) => putCell_calls b W u0 ys l[i] A1 c1 (HRW.out.below hw) (Nat.le_trans hbr hw.size) (G1.out.below hw) L1.out HKX.out hll)
   clear hC heq hdrop hll
   clear HC
   generalize l[i] = x at *
   go_wp2_with fail
   refine (HX.out _ ?hw).mono ?_
   case hw => repeat (with_reducible first | exact Below.refl _ _ | apply below_drew | apply pw_below_drewN | apply below_alloc)
   rintro e w5 ⟨u5, rfl, h1, h2⟩
   have HR5 := Aside0.mk h1
   have HU5 := Aside0.mk ((HUP1.out.alloc _).trans h2)
   clear h1 h2
   go_wp2
   go_roundw
   case rel => exact ⟨i + 1, _, by simp, hlt, HR5.out, HU5.out, HEQ.out⟩
   case measure => simp [intOf]; omega
  ·have hi : i = l.length := by omega
   rw [hi, List.drop_length, List.flatMap_nil, List.append_nil] at heq
   have hir : ¬ (i : Int) < (l.length : Int) := by omega
   have HEQ := Aside0.mk heq
   clear heq hi
   go_wp2
   go_ret
   exact ⟨_, rfl, by have h := HRW.out; rwa [HEQ.out] at h, HUP.out⟩
set_option maxHeartbeats 4000000 in
theorem putRecord_calls (b : Nat) (w : World) (u : Value) (xs : List Int) (x : S28) (A4 : Option Addr) (c4 : Nat) (A5 : Option Addr) (c5 : Nat) (HO : R5 b w u xs) (hb : b ≤ w.heap.size) (hB : In k25 b w A4 x.f1.f3) (hc : x.f1.f3.length ≤ c4) (hB5 : In (Kd.int .i64) b w A5 x.f2) (hc5 : x.f2.length ≤ c5) (hk : okRec x) (hl : (xs ++ encR x).length ≤ 140737488355328) :
  Calls Tryz.prog 59 #[u, .agg #[.string x.f0, .int .i64 x.f1.f0, .int .i64 x.f1.f1, .string x.f1.f2, .slice A4 x.f1.f3.length c4, .slice A5 x.f2.length c5]] w (Ext b w (xs ++ encR x)) := by
 have hl1 : (xs ++ keyB x.f0).length ≤ 140737488355328 := by unfold encR at hl; simp only [List.length_append] at hl ⊢; omega
 have hl2 : (xs ++ keyB x.f0 ++ encM x.f1).length ≤ 140737488355328 := by unfold encR at hl; simp only [List.length_append] at hl ⊢; omega
 have hl3 : (xs ++ keyB x.f0 ++ encM x.f1 ++ lst grp x.f2).length ≤ 140737488355328 := by unfold encR at hl; simpa only [List.append_assoc] using hl
 have HR := Aside0.mk HO
 have HI := Aside0.mk hB
 have HI5 := Aside0.mk hB5
 have HK := Aside0.mk hk
 clear hB hB5 HO hk hl
 unfold Ext
 obtain ⟨k, v, l⟩ := x
 dsimp only at *
 go_enter Tryz.func59, Tryz.ntmps59
 go_wp2
 have hbx : (w.alloc (.cells #[.string k, .int .i64 v.f0, .int .i64 v.f1, .string v.f2, .slice A4 v.f3.length c4, .slice A5 l.length c5] 27)).heap[w.heap.size]? = some (.cells #[.string k, .int .i64 v.f0, .int .i64 v.f1, .string v.f2, .slice A4 v.f3.length c4, .slice A5 l.length c5] 27 (0, 0)) := heap_alloc_new w _
 have m0 := blk_cell hbx 0
 have m1 := blk_cell hbx 1
 have m2 := blk_cell hbx 2
 have m3 := blk_cell hbx 3
 have m4 := blk_cell hbx 4
 have m5 := blk_cell hbx 5
 simp only [List.getElem?_toArray, List.getElem?_cons_succ, List.getElem?_cons_zero] at m0 m1 m2 m3 m4 m5
 have HB := Aside0.mk hbx
 clear hbx
 refine start_ (n := 11) (S := fun w' => w'.cell? ⟨w.heap.size, 0, none⟩ = some (.string k) ∧ w'.cell? ⟨w.heap.size, 1, none⟩ = some (.int .i64 v.f0) ∧ w'.cell? ⟨w.heap.size, 2, none⟩ = some (.int .i64 v.f1) ∧ w'.cell? ⟨w.heap.size, 3, none⟩ = some (.string v.f2) ∧ w'.cell? ⟨w.heap.size, 4, none⟩ = some (.slice A4 v.f3.length c4) ∧ w'.cell? ⟨w.heap.size, 5, none⟩ = some (.slice A5 l.length c5)) (ds := [9]) #[false, false, false, false, false, false, false, false, false, false, false] (by kernel_rfl) rfl rfl ⟨m0, m1, m2, m3, m4, m5⟩ (fun hHeld => ?_)
 refine zq 0 (some 5) ?_
 refine zq 1 (some 6) ?_
 refine zq 4 (some 9) ?_
 refine zq 7 (some 12) ?_
 refine zu 2 (some 7) hHeld ?_
 refine zu 5 (some 10) hHeld ?_
 refine zu 8 (some 13) hHeld ?_
 refine one_ (i := 3) (N := some 8) #[true, true, true, true, true, true, false, true, true, false, false] rfl rfl (by kernel_rfl) (by decide) (fun K hK => ?_)
 refine goes_ Tryz.func95 (by kernel_rfl) rfl #[u, .string k] (by rfl) rfl rfl (by simp only [List.map_toArray, List.map_cons, List.map_nil]; rfl) ?_
 refine (putKey_calls b _ u xs k HK.out.key ?hr ?hs hl1).mono ?_
 case hr => exact (by repeat (with_reducible first | exact HR.out | apply R5.drew | apply R5.drewN | apply R5.alloc))
 case hs => exact (Nat.le_trans hb (U5.size (b := b) (by repeat (with_reducible first | exact U5.refl _ _ | apply U5.drew | apply U5.drewN | apply U5.alloc))))
 rintro e w1 ⟨u1, rfl, h1, h2⟩
 have HR1 := Aside0.mk h1
 have HU1 := Aside0.mk (U5.trans (b := b) (w := w) (by repeat (with_reducible first | exact U5.refl _ _ | apply U5.drew | apply U5.drewN | apply U5.alloc)) h2)
 have HB1 := Aside0.mk (h2.blk (by repeat (with_reducible first | exact HB.out | apply blk_drew | apply blk_drewN | apply blk_alloc)) (by decide))
 clear h1 h2
 refine ⟨_, rfl, ?_⟩
 refine hK.out _ _ ⟨(blk_cell HB1.out 0), (blk_cell HB1.out 1), (blk_cell HB1.out 2), (blk_cell HB1.out 3), (blk_cell HB1.out 4), (blk_cell HB1.out 5)⟩ (fun hHeld => ?_)
 clear hK K
 refine norm_ (a' := ?_) ?_ ?_
 rotate_left
 ·show Act.put _ (some 8) _ = _
  simp only [Act.put, zla, zlb, zlc, i64_w, i32_w]
  rfl
 refine one_ (i := 6) (N := some 11) #[true, true, true, true, true, true, true, true, true, false, false] rfl rfl (by kernel_rfl) (by decide) (fun K hK => ?_)
 refine goes_ Tryz.func99 (by kernel_rfl) rfl #[u1, .agg #[.int .i64 v.f0, .int .i64 v.f1, .string v.f2, .slice A4 v.f3.length c4]] (by rfl) rfl rfl (by simp only [List.map_toArray, List.map_cons, List.map_nil]; rfl) ?_
 refine (putValue_calls b _ u1 _ v A4 c4 ?hr ?hs (In.C (b := b) ?hi0) hc HK.out.val hl2).mono ?_
 case hr => exact (by repeat (with_reducible first | exact HR1.out | apply R5.drew | apply R5.drewN | apply R5.alloc))
 case hs => exact (Nat.le_trans hb (U5.size (b := b) (by repeat (with_reducible first | exact HU1.out | apply U5.drew | apply U5.drewN | apply U5.alloc))))
 case hi0 => exact (HI.out.ext5 hb (by repeat (with_reducible first | exact HU1.out | apply U5.drew | apply U5.drewN | apply U5.alloc)))
 rintro e w2 ⟨u2, rfl, h1, h2⟩
 have HR2 := Aside0.mk h1
 have HU2 := Aside0.mk (U5.trans (b := b) (w := w) (by repeat (with_reducible first | exact HU1.out | apply U5.drew | apply U5.drewN | apply U5.alloc)) h2)
 have HB2 := Aside0.mk (h2.blk (by repeat (with_reducible first | exact HB1.out | apply blk_drew | apply blk_drewN | apply blk_alloc)) (by decide))
 clear h1 h2
 refine ⟨_, rfl, ?_⟩
 refine hK.out _ _ ⟨(blk_cell HB2.out 0), (blk_cell HB2.out 1), (blk_cell HB2.out 2), (blk_cell HB2.out 3), (blk_cell HB2.out 4), (blk_cell HB2.out 5)⟩ (fun hHeld => ?_)
 clear hK K
 refine norm_ (a' := ?_) ?_ ?_
 rotate_left
 ·show Act.put _ (some 11) _ = _
  simp only [Act.put, zla, zlb, zlc, i64_w, i32_w]
  rfl
 refine last_ (i := 9) (N := some 14) #[true, true, true, true, true, true, true, true, true, true, false] rfl rfl (by kernel_rfl) (by decide) (fun K hK => ?_)
 refine goes_ Tryz.func98 (by kernel_rfl) rfl #[u2, .slice A5 l.length c5, .func (.func 54) #[] #[]] (by rfl) rfl rfl (by simp only [List.map_toArray, List.map_cons, List.map_nil]; rfl) ?_
 refine (putLoops_calls b _ u2 _ l A5 c5 ?hr ?hs ?hi0 HK.out.loops hl3).mono ?_
 case hr => exact (by repeat (with_reducible first | exact HR2.out | apply R5.drew | apply R5.drewN | apply R5.alloc))
 case hs => exact (Nat.le_trans hb (U5.size (b := b) (by repeat (with_reducible first | exact HU2.out | apply U5.drew | apply U5.drewN | apply U5.alloc))))
 case hi0 => exact (HI5.out.ext5 hb (by repeat (with_reducible first | exact HU2.out | apply U5.drew | apply U5.drewN | apply U5.alloc)))
 rintro e w3 ⟨u3, rfl, h1, h2⟩
 have HR3 := Aside0.mk h1
 have HU3 := Aside0.mk (U5.trans (b := b) (w := w) (by repeat (with_reducible first | exact HU2.out | apply U5.drew | apply U5.drewN | apply U5.alloc)) h2)
 have HB3 := Aside0.mk (h2.blk (by repeat (with_reducible first | exact HB2.out | apply blk_drew | apply blk_drewN | apply blk_alloc)) (by decide))
 clear h1 h2
 refine ⟨_, rfl, ?_⟩
 refine hK.out _ _ ?_
 clear hK K
 refine norm_ (a' := ?_) ?_ ?_
 rotate_left
 ·show Act.put _ (some 14) _ = _
  simp only [Act.put, zla, zlb, zlc, i64_w, i32_w]
  rfl
 refine zq 10 (some 4) ?_
 refine done_ (by kernel_rfl) ?_
 go_wp2
 go_ret
 exact ⟨u3, rfl, (by have h := HR3.out; simpa only [encR, lst, List.append_assoc] using h), (by repeat (with_reducible first | exact HU3.out | apply U5.drew | apply U5.drewN | apply U5.alloc))⟩
set_option maxHeartbeats 4000000 in
theorem putRecs_calls (b : Nat) (w : World) (u : Value) (xs : List Int) (l : List S28) (A : Option Addr) (c : Nat) (HO : R5 b w u xs) (hb : b ≤ w.heap.size) (hB : In k28 b w A l) (hk : ∀ x ∈ l, okRec x) (hl : (xs ++ lst encR l).length ≤ 140737488355328) :
  Calls Tryz.prog 130 #[u, .slice A l.length c, .func (.func 59) #[] #[]] w (Ext b w (xs ++ lst encR l)) := by
 have HR := Aside0.mk HO
 have HC := Aside0.mk hB
 have hlen : l.length ≤ 9223372036854775807 := hB.max
 have HK := Aside0.mk hk
 have HL := Aside0.mk hl
 have hl1 : (xs ++ grp (l.length : Int)).length ≤ 140737488355328 := by unfold lst at hl; simp only [List.length_append] at hl ⊢; omega
 clear hB HO hk hl
 unfold Ext
 go_enter Tryz.func130, Tryz.ntmps130
 go_wp2_with fail
 refine (putNumber_calls b w u xs l.length (by omega) (by omega) HR.out hb hl1).mono ?_
 rintro e w1 ⟨u1, rfl, h1, h2⟩
 have HR1 := Aside0.mk h1
 have HU1 := Aside0.mk h2
 have hb1 : b ≤ w1.heap.size := Nat.le_trans hb h2.size
 clear h1 h2
 go_wp2
 go_loopw [0, 15] (fun u iv wr => LstE b w1 encR l (xs ++ lst encR l) u iv wr) (fun _ iv _ => l.length - (intOf iv).toNat)
 case atStart => exact ⟨0, _, rfl, Nat.zero_le _, HR1.out, U5.refl _ _, by unfold lst; simp⟩
 case round =>
  obtain ⟨i, ys, rfl, hle, hrow, hup, heq⟩ := hrel
  have HRW := Aside0.mk hrow
  have HUP := Aside0.mk (HU1.out.trans hup)
  have HUP1 := Aside0.mk hup
  have hbr : b ≤ wr.heap.size := Nat.le_trans hb1 hup.size
  clear hrow hup
  by_cases hlt : i < l.length
  ·have hdrop : l.drop i = l[i] :: l.drop (i + 1) := List.drop_eq_getElem_cons hlt
   have hC := HC.out.ext (HUP.out.below hb)
   obtain ⟨ad, A4, c4, A5, c5, rfl, d0, d1, d2, d3, d4, d5, l4, l5, g4, g5⟩ := hC.at28 hlt
   have G4 := Aside0.mk g4
   have L4 := Aside0.mk l4
   have G5 := Aside0.mk g5
   have L5 := Aside0.mk l5
   clear g4 l4 g5 l5
   have HKX := Aside0.mk (HK.out l[i] (List.getElem_mem hlt))
   rw [hdrop, List.flatMap_cons, ← List.append_assoc] at heq
   have hll : (ys ++ encR l[i]).length ≤ 140737488355328 := by
    have h := HL.out
    rw [← heq] at h
    simp only [List.length_append] at h ⊢
    omega
   have HEQ := Aside0.mk heq
   have HX := Aside0.mk (fun (W : World) (hw : Below wr.heap.size wr W) => putRecord_calls b W u0 ys l[i] A4 c4 A5 c5 (HRW.out.below hw) (Nat.le_trans hbr hw.size) (G4.out.below hw) L4.out (G5.out.below hw) L5.out HKX.out hll)
   clear hC heq hdrop hll
   clear HC
   generalize l[i] = x at *
   go_wp2_with fail
   refine (HX.out _ ?hw).mono ?_
   case hw => repeat (with_reducible first | exact Below.refl _ _ | apply below_drew | apply pw_below_drewN | apply below_alloc)
   rintro e w5 ⟨u5, rfl, h1, h2⟩
   have HR5 := Aside0.mk h1
   have HU5 := Aside0.mk ((HUP1.out.alloc _).trans h2)
   clear h1 h2
   go_wp2
   go_roundw
   case rel => exact ⟨i + 1, _, by simp, hlt, HR5.out, HU5.out, HEQ.out⟩
   case measure => simp [intOf]; omega
  ·have hi : i = l.length := by omega
   rw [hi, List.drop_length, List.flatMap_nil, List.append_nil] at heq
   have hir : ¬ (i : Int) < (l.length : Int) := by omega
   have HEQ := Aside0.mk heq
   clear heq hi
   go_wp2
   go_ret
   exact ⟨_, rfl, by have h := HRW.out; rwa [HEQ.out] at h, HUP.out⟩
set_option maxHeartbeats 4000000 in
theorem putRecords_calls (b : Nat) (w : World) (u : Value) (xs : List Int) (l : List S28) (A : Option Addr) (c : Nat) (HO : R5 b w u xs) (hb : b ≤ w.heap.size) (hB : In k28 b w A l) (hk : ∀ x ∈ l, okRec x) (hl : (xs ++ lst encR l).length ≤ 140737488355328) :
  Calls Tryz.prog 96 #[u, .slice A l.length c] w (Ext b w (xs ++ lst encR l)) := by
 have HX := Aside0.mk (putRecs_calls b w u xs l A c HO hb hB hk hl)
 clear HO hB hk hl
 unfold Ext at HX ⊢
 go_enter Tryz.func96, Tryz.ntmps96
 go_wp2_with fail
 refine HX.out.mono ?_
 rintro e w1 ⟨u1, rfl, h1, h2⟩
 have HR := Aside0.mk h1
 have HU := Aside0.mk h2
 clear h1 h2
 go_wp2
 go_ret
 exact ⟨u1, rfl, HR.out, HU.out⟩
set_option maxHeartbeats 4000000 in
theorem putLogs_calls (b : Nat) (w : World) (u : Value) (xs : List Int) (l : List (List S28)) (A : Option Addr) (c : Nat) (HO : R5 b w u xs) (hb : b ≤ w.heap.size) (hB : In (Kd.slice 27 k28) b w A l) (hk : ∀ x ∈ l, ∀ y ∈ x, okRec y) (hl : (xs ++ lst (lst encR) l).length ≤ 140737488355328) :
  Calls Tryz.prog 97 #[u, .slice A l.length c, .func (.func 96) #[] #[]] w (Ext b w (xs ++ lst (lst encR) l)) := by
 have HR := Aside0.mk HO
 have HC := Aside0.mk hB
 have hlen : l.length ≤ 9223372036854775807 := hB.max
 have HK := Aside0.mk hk
 have HL := Aside0.mk hl
 have hl1 : (xs ++ grp (l.length : Int)).length ≤ 140737488355328 := by unfold lst at hl; simp only [List.length_append] at hl ⊢; omega
 clear hB HO hk hl
 unfold Ext
 go_enter Tryz.func97, Tryz.ntmps97
 go_wp2_with fail
 refine (putNumber_calls b w u xs l.length (by omega) (by omega) HR.out hb hl1).mono ?_
 rintro e w1 ⟨u1, rfl, h1, h2⟩
 have HR1 := Aside0.mk h1
 have HU1 := Aside0.mk h2
 have hb1 : b ≤ w1.heap.size := Nat.le_trans hb h2.size
 clear h1 h2
 go_wp2
 go_loopw [0, 15] (fun u iv wr => LstE b w1 (lst encR) l (xs ++ lst (lst encR) l) u iv wr) (fun _ iv _ => l.length - (intOf iv).toNat)
 case atStart => exact ⟨0, _, rfl, Nat.zero_le _, HR1.out, U5.refl _ _, by unfold lst; simp⟩
 case round =>
  obtain ⟨i, ys, rfl, hle, hrow, hup, heq⟩ := hrel
  have HRW := Aside0.mk hrow
  have HUP := Aside0.mk (HU1.out.trans hup)
  have HUP1 := Aside0.mk hup
  have hbr : b ≤ wr.heap.size := Nat.le_trans hb1 hup.size
  clear hrow hup
  by_cases hlt : i < l.length
  ·have hdrop : l.drop i = l[i] :: l.drop (i + 1) := List.drop_eq_getElem_cons hlt
   have hC := HC.out.ext (HUP.out.below hb)
   obtain ⟨ad, A1, c1, rfl, d0, l1, g1⟩ := hC.atSlice hlt
   have G1 := Aside0.mk g1
   have L1 := Aside0.mk l1
   clear g1 l1
   have HKX := Aside0.mk (HK.out l[i] (List.getElem_mem hlt))
   rw [hdrop, List.flatMap_cons, ← List.append_assoc] at heq
   have hll : (ys ++ (lst encR) l[i]).length ≤ 140737488355328 := by
    have h := HL.out
    rw [← heq] at h
    simp only [List.length_append] at h ⊢
    omega
   have HEQ := Aside0.mk heq
   have HX := Aside0.mk (fun (W : World) (hw : Below wr.heap.size wr W) => putRecords_calls b W u0 ys l[i] A1 c1 (HRW.out.below hw) (Nat.le_trans hbr hw.size) (G1.out.below hw) HKX.out hll)
   clear hC heq hdrop hll
   clear HC
   generalize l[i] = x at *
   go_wp2_with fail
   refine (HX.out _ ?hw).mono ?_
   case hw => repeat (with_reducible first | exact Below.refl _ _ | apply below_drew | apply pw_below_drewN | apply below_alloc)
   rintro e w5 ⟨u5, rfl, h1, h2⟩
   have HR5 := Aside0.mk h1
   have HU5 := Aside0.mk (HUP1.out.trans h2)
   clear h1 h2
   go_wp2
   go_roundw
   case rel => exact ⟨i + 1, _, by simp, hlt, HR5.out, HU5.out, HEQ.out⟩
   case measure => simp [intOf]; omega
  ·have hi : i = l.length := by omega
   rw [hi, List.drop_length, List.flatMap_nil, List.append_nil] at heq
   have hir : ¬ (i : Int) < (l.length : Int) := by omega
   have HEQ := Aside0.mk heq
   clear heq hi
   go_wp2
   go_ret
   exact ⟨_, rfl, by have h := HRW.out; rwa [HEQ.out] at h, HUP.out⟩
set_option maxHeartbeats 4000000 in
theorem putState_calls (b : Nat) (w : World) (u : Value) (xs : List Int) (n : Int) (l : List S121) (A1 : Option Addr) (c1 : Nat) (HO : R5 b w u xs) (hb : b ≤ w.heap.size) (hB : In k121 b w A1 l) (hc : l.length ≤ c1) (h0 : 0 ≤ n) (h9 : n ≤ 9223372036854775807) (hk : ∀ x ∈ l, okCell x) (hl : (xs ++ encSt n l).length ≤ 140737488355328) :
  Calls Tryz.prog 51 #[u, .agg #[.int .i64 n, .slice A1 l.length c1]] w (Ext b w (xs ++ encSt n l)) := by
 have hl1 : (xs ++ grp n).length ≤ 140737488355328 := by unfold encSt at hl; simp only [List.length_append] at hl ⊢; omega
 have hl2 : (xs ++ grp n ++ lst encC l).length ≤ 140737488355328 := by unfold encSt at hl; simpa only [List.append_assoc] using hl
 have HR := Aside0.mk HO
 have HI := Aside0.mk hB
 have HK := Aside0.mk hk
 clear hB HO hk hl
 unfold Ext
 go_enter Tryz.func51, Tryz.ntmps51
 go_wp2
 have hbx : (w.alloc (.cells #[.int .i64 n, .slice A1 l.length c1] 30)).heap[w.heap.size]? = some (.cells #[.int .i64 n, .slice A1 l.length c1] 30 (0, 0)) := heap_alloc_new w _
 have m0 := blk_cell hbx 0
 have m1 := blk_cell hbx 1
 simp only [List.getElem?_toArray, List.getElem?_cons_succ, List.getElem?_cons_zero] at m0 m1
 have HB := Aside0.mk hbx
 clear hbx
 refine start_ (n := 8) (S := fun w' => w'.cell? ⟨w.heap.size, 0, none⟩ = some (.int .i64 n) ∧ w'.cell? ⟨w.heap.size, 1, none⟩ = some (.slice A1 l.length c1)) (ds := [6]) #[false, false, false, false, false, false, false, false] (by kernel_rfl) rfl rfl ⟨m0, m1⟩ (fun hHeld => ?_)
 refine zq 0 (some 5) ?_
 refine zq 1 (some 6) ?_
 refine zq 4 (some 9) ?_
 refine zu 2 (some 7) hHeld ?_
 refine zu 5 (some 10) hHeld ?_
 refine one_ (i := 3) (N := some 8) #[true, true, true, true, true, true, false, false] rfl rfl (by kernel_rfl) (by decide) (fun K hK => ?_)
 refine goes_ Tryz.func54 (by kernel_rfl) rfl #[u, .int .i64 n] (by rfl) rfl rfl (by simp only [List.map_toArray, List.map_cons, List.map_nil]; rfl) ?_
 refine (putNumber_calls b _ u xs n h0 h9 ?hr ?hs hl1).mono ?_
 case hr => exact (by repeat (with_reducible first | exact HR.out | apply R5.drew | apply R5.drewN | apply R5.alloc))
 case hs => exact (Nat.le_trans hb (U5.size (b := b) (by repeat (with_reducible first | exact U5.refl _ _ | apply U5.drew | apply U5.drewN | apply U5.alloc))))
 rintro e w1 ⟨u1, rfl, h1, h2⟩
 have HR1 := Aside0.mk h1
 have HU1 := Aside0.mk (U5.trans (b := b) (w := w) (by repeat (with_reducible first | exact U5.refl _ _ | apply U5.drew | apply U5.drewN | apply U5.alloc)) h2)
 have HB1 := Aside0.mk (h2.blk (by repeat (with_reducible first | exact HB.out | apply blk_drew | apply blk_drewN | apply blk_alloc)) (by decide))
 clear h1 h2
 refine ⟨_, rfl, ?_⟩
 refine hK.out _ _ ⟨(blk_cell HB1.out 0), (blk_cell HB1.out 1)⟩ (fun hHeld => ?_)
 clear hK K
 refine norm_ (a' := ?_) ?_ ?_
 rotate_left
 ·show Act.put _ (some 8) _ = _
  simp only [Act.put, zla, zlb, zlc, i64_w, i32_w]
  rfl
 refine last_ (i := 6) (N := some 11) #[true, true, true, true, true, true, true, false] rfl rfl (by kernel_rfl) (by decide) (fun K hK => ?_)
 refine goes_ Tryz.func90 (by kernel_rfl) rfl #[u1, .slice A1 l.length c1, .func (.func 91) #[] #[]] (by rfl) rfl rfl (by simp only [List.map_toArray, List.map_cons, List.map_nil]; rfl) ?_
 refine (putCells_calls b _ u1 _ l A1 c1 ?hr ?hs ?hi0 HK.out hl2).mono ?_
 case hr => exact (by repeat (with_reducible first | exact HR1.out | apply R5.drew | apply R5.drewN | apply R5.alloc))
 case hs => exact (Nat.le_trans hb (U5.size (b := b) (by repeat (with_reducible first | exact HU1.out | apply U5.drew | apply U5.drewN | apply U5.alloc))))
 case hi0 => exact (HI.out.ext5 hb (by repeat (with_reducible first | exact HU1.out | apply U5.drew | apply U5.drewN | apply U5.alloc)))
 rintro e w2 ⟨u2, rfl, h1, h2⟩
 have HR2 := Aside0.mk h1
 have HU2 := Aside0.mk (U5.trans (b := b) (w := w) (by repeat (with_reducible first | exact HU1.out | apply U5.drew | apply U5.drewN | apply U5.alloc)) h2)
 have HB2 := Aside0.mk (h2.blk (by repeat (with_reducible first | exact HB1.out | apply blk_drew | apply blk_drewN | apply blk_alloc)) (by decide))
 clear h1 h2
 refine ⟨_, rfl, ?_⟩
 refine hK.out _ _ ?_
 clear hK K
 refine norm_ (a' := ?_) ?_ ?_
 rotate_left
 ·show Act.put _ (some 11) _ = _
  simp only [Act.put, zla, zlb, zlc, i64_w, i32_w]
  rfl
 refine zq 7 (some 4) ?_
 refine done_ (by kernel_rfl) ?_
 go_wp2
 go_ret
 exact ⟨u2, rfl, (by have h := HR2.out; simpa only [encSt, lst, List.append_assoc] using h), (by repeat (with_reducible first | exact HU2.out | apply U5.drew | apply U5.drewN | apply U5.alloc))⟩
end Go.Proofs.YthmkioodkldgbaaGreat.DK
