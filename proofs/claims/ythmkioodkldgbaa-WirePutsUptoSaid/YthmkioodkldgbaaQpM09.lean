/- What each Go function named in this text computes, as a Lean function, and that the Go code comes to it; conditions: those in each theorem. (Lines written by this session's program.) -/
import Derived.Test.YthmkioodkldgbaaQpM04
import Derived.Test.YthmkioodkldgbaaQpM05
namespace Go.Proofs.Ythmkioodkldgbaa.PD
open Go.RowKit Go.Proofs.YthmkioodkldgbaaW.PrintWords Go.Proofs.YthmkioodkldgbaaW.PrintLast Go.Proofs.YthmkioodkldgbaaW.PrintMore
attribute [local go_sem] max2_int min2_int max_two min_two max_three min_three max_four min_four   -- for this text's walks alone
set_option linter.unusedVariables false
set_option linter.unusedSimpArgs false
/-! ### eddylaw4_same: function 13 -/
def eddylaw4_same.l0 : Nat → List Int → List Int → Int → Option (Bool)
 | 0, _, _, _ => none
 | k + 1, x0, x1, x5 => if x5 < (x0.length : Int) then (if 0 ≤ x5 then (if x5 < (x1.length : Int) then (if (rd x0 x5) = (rd x1 x5) then (eddylaw4_same.l0 k x0 x1 (wrap64 (x5 + 1))) else (some false)) else (none)) else (none)) else (some true)
def eddylaw4_same.f (k : Nat) (l0 : List Int) (l1 : List Int) : Option (Bool) := if (l0.length : Int) = (l1.length : Int) then (eddylaw4_same.l0 k l0 l1 0) else (some false)
set_option maxHeartbeats 8000000 in
set_option maxRecDepth 100000 in
theorem eddylaw4_same.calls (k : Nat) (A0 : Option Addr) (c0 : Nat) (l0 : List Int) (A1 : Option Addr) (c1 : Nat) (l1 : List Int) (r : Bool) (w : World) (hr0 : Kd.C (Kd.int .u8) w A0 l0.length l0) (hc0 : l0.length ≤ c0) (hr1 : Kd.C (Kd.int .u8) w A1 l1.length l1) (hc1 : l1.length ≤ c1) (h : eddylaw4_same.f k l0 l1 = some r) :
  Calls Try.prog 13 #[.slice A0 l0.length c0, .slice A1 l1.length c1] w fun e w' => e = .returned (.bool r) ∧ Drawn0 w w' := by
 have HR0 := Aside0.mk hr0
 have HC0 := Aside0.mk hc0
 clear hr0 hc0
 have HR1 := Aside0.mk hr1
 have HC1 := Aside0.mk hc1
 clear hr1 hc1
 have H : (if (l0.length : Int) = (l1.length : Int) then (eddylaw4_same.l0 k l0 l1 0) else (some false)) = some r := h
 clear h
 by_cases c3 : (l0.length : Int) = (l1.length : Int)
 ·rw [if_pos c3] at H
  have c3b0 : ((l0.length : Int) == (l1.length : Int)) = true := beq_iff_eq.mpr c3
  have c3b1 : ((l0.length : Int) != (l1.length : Int)) = false := bne_eq_false_iff_eq.mpr c3
  have c3b2 : (l0.length == l1.length) = true := by first | simpa using c3 | (simp at c3 ⊢; omega)
  clear c3
  have H' := Aside0.mk H
  clear H
  go_enter Try.func13, Try.ntmps13
  go_wp2
  repeat (go_quiet (fail); try go_wp2)
  go_loopg [5] k (fun kq v5 w' => ∃ (x5_1 : Int), v5 = .int .i64 x5_1 ∧ Aside0 (eddylaw4_same.l0 kq l0 l1 x5_1 = some r) ∧ Aside0 (kq ≤ k) ∧ Drawn0 w w')
  case atStart => exact ⟨(0), (by first | rfl | (simp; done) | (simp [*]; done)), H', ⟨Nat.le_refl _⟩, by repeat (first | exact Drawn0.refl _ | apply Drawn0.step)⟩
  case round =>
   clear H'
   try clear c1
   try clear p2
   try clear c3
   try clear c3b0
   try clear c3b1
   try clear c3b2
   obtain ⟨x5_1, rfl, HA, HK1, ⟨m1, rfl⟩⟩ := hrel
   cases gk with
   | zero => exact absurd HA.out (by simp [eddylaw4_same.l0])
   | succ k1 =>
    have H := HA.out
    clear HA
    simp only [eddylaw4_same.l0] at H
    by_cases c4 : x5_1 < (l0.length : Int)
    ·rw [if_pos c4] at H
     have c4b0 : decide (x5_1 < (l0.length : Int)) = true := decide_eq_true c4
     clear c4
     by_cases c5 : 0 ≤ x5_1
     ·rw [if_pos c5] at H
      have c5b0 : decide (0 ≤ x5_1) = true := decide_eq_true c5
      clear c5
      by_cases c6 : x5_1 < (l1.length : Int)
      ·rw [if_pos c6] at H
       have c6b0 : decide (x5_1 < (l1.length : Int)) = true := decide_eq_true c6
       clear c6
       by_cases c7 : (rd l0 x5_1) = (rd l1 x5_1)
       ·rw [if_pos c7] at H
        have c7b0 : ((rd l0 x5_1) == (rd l1 x5_1)) = true := beq_iff_eq.mpr c7
        have c7b1 : ((rd l0 x5_1) != (rd l1 x5_1)) = false := bne_eq_false_iff_eq.mpr c7
        clear c7
        have H' := Aside0.mk H
        clear H
        have p405 : 0 ≤ (x5_1 : Int) := of_decide_eq_true (by first | (with_reducible assumption) | assumption)
        have q405 : x5_1 < (l0.length : Int) := of_decide_eq_true (by first | (with_reducible assumption) | assumption)
        obtain ⟨ad405, e405, hx405_0⟩ := Kd.at_int HR0.out x5_1 p405 q405
        cases e405
        replace p405 := eq_true p405
        replace q405 := eq_true q405
        have p406 : 0 ≤ (x5_1 : Int) := of_decide_eq_true (by first | (with_reducible assumption) | assumption)
        have q406 : x5_1 < (l1.length : Int) := of_decide_eq_true (by first | (with_reducible assumption) | assumption)
        obtain ⟨ad406, e406, hx406_0⟩ := Kd.at_int HR1.out x5_1 p406 q406
        cases e406
        replace p406 := eq_true p406
        replace q406 := eq_true q406
        go_wp2
        repeat (go_quiet (fail); try go_wp2)
        go_roundg k1
        case measure => have := HK1.out; omega
        case rel => exact ⟨(wrap64 (x5_1 + 1)), (by first | rfl | (simp; done) | (simp [*]; done)), H', ⟨by have := HK1.out; omega⟩, by repeat (first | exact Drawn0.refl _ | apply Drawn0.step)⟩
       ·rw [if_neg c7] at H
        have c7b0 : ((rd l0 x5_1) == (rd l1 x5_1)) = false := beq_eq_false_iff_ne.mpr c7
        have c7b1 : ((rd l0 x5_1) != (rd l1 x5_1)) = true := bne_iff_ne.mpr c7
        obtain rfl := Option.some.inj H
        have p405 : 0 ≤ (x5_1 : Int) := of_decide_eq_true (by first | (with_reducible assumption) | assumption)
        have q405 : x5_1 < (l0.length : Int) := of_decide_eq_true (by first | (with_reducible assumption) | assumption)
        obtain ⟨ad405, e405, hx405_0⟩ := Kd.at_int HR0.out x5_1 p405 q405
        cases e405
        replace p405 := eq_true p405
        replace q405 := eq_true q405
        have p406 : 0 ≤ (x5_1 : Int) := of_decide_eq_true (by first | (with_reducible assumption) | assumption)
        have q406 : x5_1 < (l1.length : Int) := of_decide_eq_true (by first | (with_reducible assumption) | assumption)
        obtain ⟨ad406, e406, hx406_0⟩ := Kd.at_int HR1.out x5_1 p406 q406
        cases e406
        replace p406 := eq_true p406
        replace q406 := eq_true q406
        go_wp2
        repeat (go_quiet (fail); try go_wp2)
        go_ret
        exact ⟨by first | rfl | (simp; done) | (simp [*]; done), by repeat (first | exact Drawn0.refl _ | apply Drawn0.step)⟩
      ·rw [if_neg c6] at H
       exact absurd H (by simp)
     ·rw [if_neg c5] at H
      exact absurd H (by simp)
    ·rw [if_neg c4] at H
     have c4b0 : decide (x5_1 < (l0.length : Int)) = false := decide_eq_false c4
     clear c4
     obtain rfl := Option.some.inj H
     go_wp2
     repeat (go_quiet (fail); try go_wp2)
     go_ret
     exact ⟨by first | rfl | (simp; done) | (simp [*]; done), by repeat (first | exact Drawn0.refl _ | apply Drawn0.step)⟩
 ·rw [if_neg c3] at H
  have c3b0 : ((l0.length : Int) == (l1.length : Int)) = false := beq_eq_false_iff_ne.mpr c3
  have c3b1 : ((l0.length : Int) != (l1.length : Int)) = true := bne_iff_ne.mpr c3
  have c3b2 : (l0.length == l1.length) = false := by first | simpa using c3 | (simp at c3 ⊢; omega)
  obtain rfl := Option.some.inj H
  go_enter Try.func13, Try.ntmps13
  go_wp2
  repeat (go_quiet (fail); try go_wp2)
  go_ret
  exact ⟨by first | rfl | (simp; done) | (simp [*]; done), by repeat (first | exact Drawn0.refl _ | apply Drawn0.step)⟩

/-- A state of type 103 at block g of W; what its slices lead to came in by w0. -/
def IsS103 (w0 W : World) (g : Nat) (f0 : List Int) (f1 : Int) (f2 : Int) (f3 : List Int) (f4 : List ByteArray) (f5 : List (S25)) (f6 : Int) (f7 : Int) (f8 : Int) : Prop := ∃ A0 c0, ∃ A3 c3, ∃ A4 c4, ∃ A5 c5, W.heap[g]? = some (.cells #[.slice A0 f0.length c0, .int .i64 f1, .int .i64 f2, .slice A3 f3.length c3, .slice A4 f4.length c4, .slice A5 f5.length c5, .int .i64 f6, .int .i64 f7, .int .i64 f8] 103 (0, 0)) ∧ w0.heap.size ≤ g ∧ Kd.C (Kd.int .u8) w0 A0 f0.length f0 ∧ Kd.C (Kd.int .i64) w0 A3 f3.length f3 ∧ Kd.C Kd.string w0 A4 f4.length f4 ∧ Kd.C k25 w0 A5 f5.length f5
theorem IsS103.grown {w0 W : World} {g : Nat} {f0 : List Int} {f1 : Int} {f2 : Int} {f3 : List Int} {f4 : List ByteArray} {f5 : List (S25)} {f6 : Int} {f7 : Int} {f8 : Int} {W1 : World} {row : Option Nat} (h : IsS103 w0 W g f0 f1 f2 f3 f4 f5 f6 f7 f8) (hw : W.grownBy W1 row) (hne : some g ≠ row) : IsS103 w0 W1 g f0 f1 f2 f3 f4 f5 f6 f7 f8 := by
 obtain ⟨A0, c0, A3, c3, A4, c4, A5, c5, hb, hg, hr0, hr3, hr4, hr5⟩ := h
 exact ⟨A0, c0, A3, c3, A4, c4, A5, c5, blk_grown hb hw hne, hg, hr0, hr3, hr4, hr5⟩
theorem IsS103.kept {w0 W : World} {g : Nat} {f0 : List Int} {f1 : Int} {f2 : Int} {f3 : List Int} {f4 : List ByteArray} {f5 : List (S25)} {f6 : Int} {f7 : Int} {f8 : Int} {W1 : World} {S : Nat → Prop} (h : IsS103 w0 W g f0 f1 f2 f3 f4 f5 f6 f7 f8) (hk : Kept W W1 S) (hne : ¬ S g) : IsS103 w0 W1 g f0 f1 f2 f3 f4 f5 f6 f7 f8 := by
 obtain ⟨A0, c0, A3, c3, A4, c4, A5, c5, hb, hg, hr0, hr3, hr4, hr5⟩ := h
 exact ⟨A0, c0, A3, c3, A4, c4, A5, c5, blk_kept hb hk hne, hg, hr0, hr3, hr4, hr5⟩
theorem IsS103.below {w0 W : World} {g : Nat} {f0 : List Int} {f1 : Int} {f2 : Int} {f3 : List Int} {f4 : List ByteArray} {f5 : List (S25)} {f6 : Int} {f7 : Int} {f8 : Int} {W1 : World} (h : IsS103 w0 W g f0 f1 f2 f3 f4 f5 f6 f7 f8) (hw : Below W.heap.size W W1) : IsS103 w0 W1 g f0 f1 f2 f3 f4 f5 f6 f7 f8 := h.grown (grown_of_below hw none) (by simp)
theorem IsS103.alloc {w0 W : World} {g : Nat} {f0 : List Int} {f1 : Int} {f2 : Int} {f3 : List Int} {f4 : List ByteArray} {f5 : List (S25)} {f6 : Int} {f7 : Int} {f8 : Int} (h : IsS103 w0 W g f0 f1 f2 f3 f4 f5 f6 f7 f8) (o : Obj) : IsS103 w0 (W.alloc o) g f0 f1 f2 f3 f4 f5 f6 f7 f8 := h.below (below_alloc (Below.refl _ _) o)
theorem IsS103.drewN {w0 W : World} {g : Nat} {f0 : List Int} {f1 : Int} {f2 : Int} {f3 : List Int} {f4 : List ByteArray} {f5 : List (S25)} {f6 : Int} {f7 : Int} {f8 : Int} (h : IsS103 w0 W g f0 f1 f2 f3 f4 f5 f6 f7 f8) (m : Nat) : IsS103 w0 (W.drewN m) g f0 f1 f2 f3 f4 f5 f6 f7 f8 := h
theorem IsS103.drew {w0 W : World} {g : Nat} {f0 : List Int} {f1 : Int} {f2 : Int} {f3 : List Int} {f4 : List ByteArray} {f5 : List (S25)} {f6 : Int} {f7 : Int} {f8 : Int} (h : IsS103 w0 W g f0 f1 f2 f3 f4 f5 f6 f7 f8) : IsS103 w0 W.drew g f0 f1 f2 f3 f4 f5 f6 f7 f8 := h
theorem IsS103.at_ {w0 W : World} {g : Nat} {f0 : List Int} {f1 : Int} {f2 : Int} {f3 : List Int} {f4 : List ByteArray} {f5 : List (S25)} {f6 : Int} {f7 : Int} {f8 : Int} {w' : World} {m : Nat} (hq : W.drewN m = w') (h : IsS103 w0 W g f0 f1 f2 f3 f4 f5 f6 f7 f8) : IsS103 w0 w' g f0 f1 f2 f3 f4 f5 f6 f7 f8 := by subst hq; exact IsS103.drewN h m
theorem IsS103.apart {w0 W : World} {g : Nat} {f0 : List Int} {f1 : Int} {f2 : Int} {f3 : List Int} {f4 : List ByteArray} {f5 : List (S25)} {f6 : Int} {f7 : Int} {f8 : Int} {α : Type} {d : Kd α} {e : Nat} {base : Nat} {ok : Nat → Prop} {v : Value} {xs : List α} (h : IsS103 w0 W g f0 f1 f2 f3 f4 f5 f6 f7 f8) (ho : d.R e W base ok v xs) (ht : ∀ q, q ∈ e :: d.E → q ≠ 103) : d.R e W base (fun k => ok k ∧ k ≠ g) v xs := by
 obtain ⟨A0, c0, A3, c3, A4, c4, A5, c5, hb, hg, hr0, hr3, hr4, hr5⟩ := h
 exact Kd.R_types ho hb ht
theorem IsS103.own_ne {w0 W : World} {g : Nat} {f0 : List Int} {f1 : Int} {f2 : Int} {f3 : List Int} {f4 : List ByteArray} {f5 : List (S25)} {f6 : Int} {f7 : Int} {f8 : Int} {α : Type} {d : Kd α} {e : Nat} {base : Nat} {ok : Nat → Prop} {v : Value} {xs : List α} (h : IsS103 w0 W g f0 f1 f2 f3 f4 f5 f6 f7 f8) (ho : d.R e W base ok v xs) (ht : e ≠ 103) : some g ≠ v.ownBlock := by
 obtain ⟨A0, c0, A3, c3, A4, c4, A5, c5, hb, hg, hr0, hr3, hr4, hr5⟩ := h
 exact Kd.R_ne ho hb ht
theorem IsS103.lt {w0 W : World} {g : Nat} {f0 : List Int} {f1 : Int} {f2 : Int} {f3 : List Int} {f4 : List ByteArray} {f5 : List (S25)} {f6 : Int} {f7 : Int} {f8 : Int} (h : IsS103 w0 W g f0 f1 f2 f3 f4 f5 f6 f7 f8) : g < W.heap.size := by
 obtain ⟨A0, c0, A3, c3, A4, c4, A5, c5, hb, hg, hr0, hr3, hr4, hr5⟩ := h
 exact blk_lt hb
theorem IsS103.ge {w0 W : World} {g : Nat} {f0 : List Int} {f1 : Int} {f2 : Int} {f3 : List Int} {f4 : List ByteArray} {f5 : List (S25)} {f6 : Int} {f7 : Int} {f8 : Int} (h : IsS103 w0 W g f0 f1 f2 f3 f4 f5 f6 f7 f8) : w0.heap.size ≤ g := by
 obtain ⟨A0, c0, A3, c3, A4, c4, A5, c5, hb, hg, hr0, hr3, hr4, hr5⟩ := h
 exact hg
theorem IsS103.far {w0 W : World} {g : Nat} {f0 : List Int} {f1 : Int} {f2 : Int} {f3 : List Int} {f4 : List ByteArray} {f5 : List (S25)} {f6 : Int} {f7 : Int} {f8 : Int} {p : Addr} (h : IsS103 w0 W g f0 f1 f2 f3 f4 f5 f6 f7 f8) (hne : g ≠ p.block) (u : Value) : IsS103 w0 (W.setCell p u) g f0 f1 f2 f3 f4 f5 f6 f7 f8 := by
 obtain ⟨A0, c0, A3, c3, A4, c4, A5, c5, hb, hg, hr0, hr3, hr4, hr5⟩ := h
 exact ⟨A0, c0, A3, c3, A4, c4, A5, c5, blk_far hb hne u, hg, hr0, hr3, hr4, hr5⟩
theorem IsS103.new (w0 W : World) (A0 : Option Addr) (c0 : Nat) (A3 : Option Addr) (c3 : Nat) (A4 : Option Addr) (c4 : Nat) (A5 : Option Addr) (c5 : Nat) (f0 : List Int) (f1 : Int) (f2 : Int) (f3 : List Int) (f4 : List ByteArray) (f5 : List (S25)) (f6 : Int) (f7 : Int) (f8 : Int) (hB : Below w0.heap.size w0 W) (hr0 : Kd.C (Kd.int .u8) w0 A0 f0.length f0) (hr3 : Kd.C (Kd.int .i64) w0 A3 f3.length f3) (hr4 : Kd.C Kd.string w0 A4 f4.length f4) (hr5 : Kd.C k25 w0 A5 f5.length f5) : IsS103 w0 (W.alloc (.cells #[.slice A0 f0.length c0, .int .i64 f1, .int .i64 f2, .slice A3 f3.length c3, .slice A4 f4.length c4, .slice A5 f5.length c5, .int .i64 f6, .int .i64 f7, .int .i64 f8] 103)) W.heap.size f0 f1 f2 f3 f4 f5 f6 f7 f8 := ⟨A0, c0, A3, c3, A4, c4, A5, c5, by simpa using heap_alloc_new W _, hB.size, hr0, hr3, hr4, hr5⟩

end Go.Proofs.Ythmkioodkldgbaa.PD
/- eddysize.Count.Values: how many parts; conditions: those in each theorem. -/
namespace Go.Proofs.Ythmkioodkldgbaa.PD
open Go.RowKit Go.Proofs.YthmkioodkldgbaaW.PrintWords Go.Proofs.YthmkioodkldgbaaW.PrintLast Go.Proofs.YthmkioodkldgbaaW.PrintMore
open Go.Proofs.Ythmkioodkldgbaa.DK (size_mem rd25_nat)
set_option linter.unusedVariables false
set_option linter.unusedSimpArgs false
/-- So many more. -/
def cadd (s a : Int) : Int := if s ≥ 0 then wrap64 (s - a) else s
mutual
def cntS : S25 → Int → Int
 | ⟨_, _, _, l⟩, s => cntL l (cadd s l.length)
def cntL : List S25 → Int → Int
 | [], s => s
 | x :: l, s => if s ≥ 0 then cntL l (cntS x s) else s
end
theorem cntS_eq (v : S25) (s : Int) : cntS v s = cntL v.f3 (cadd s v.f3.length) := by
 obtain ⟨k, n, t, l⟩ := v
 rw [cntS]
theorem cntL_nil (s : Int) : cntL [] s = s := by rw [cntL]
theorem cntL_cons (x : S25) (l : List S25) (s : Int) : cntL (x :: l) s = if s ≥ 0 then cntL l (cntS x s) else s := by rw [cntL]
theorem cadd_f (s a : Int) : eddysize_Count_Add.f s a = some (decide (cadd s a ≥ 0), cadd s a) := by
 unfold eddysize_Count_Add.f cadd
 split <;> rfl
def eddysize_Count_Values.f (s0_0 : Int) (l1 : List S25) : Option Int := some (cntL l1 (cadd s0_0 l1.length))
theorem cell_keep {w W : World} {g : Nat} (hk : KeepBut w W g none) {a : Addr} {v : Value} (h : w.cell? a = some v) (hg : a.block ≠ g) : W.cell? a = some v := by
 have hlt := World.block_lt_of_cell? w a h
 have e := hk.2 a.block hlt hg (by simp)
 unfold World.cell? at h ⊢
 rw [e]
 exact h
theorem foot_at {w : World} {g : Nat} {A : Option Addr} {l : List S25} (h : ∀ W', KeepBut w W' g none → k25.C W' A l.length l) {i : Nat} (hi : i < l.length) : ∃ ad A3 c3, A = some ad ∧ l[i].f3.length ≤ c3 ∧
  (∀ W', KeepBut w W' g none → W'.cell? ⟨(ad.add (i * 4)).block, (ad.add (i * 4)).off + 3, none⟩ = some (.slice A3 l[i].f3.length c3)) ∧ (∀ W', KeepBut w W' g none → k25.C W' A3 l[i].f3.length l[i].f3) := by
 have h1 := at_T25 (h w (KeepBut.refl w g none)) (i : Int) (by omega) (by omega)
 rw [rd25_nat l i hi] at h1
 obtain ⟨ad, A3, c3, rfl, d0, d1, d2, d3, l5, g5⟩ := h1
 simp only [Int.toNat_natCast] at d0 d1 d2 d3
 have hne : ad.block ≠ g := Kd.foot_ne h (by omega) (by decide)
 have hc : ∀ W', KeepBut w W' g none → W'.cell? ⟨(ad.add (i * 4)).block, (ad.add (i * 4)).off + 3, none⟩ = some (.slice A3 l[i].f3.length c3) := fun W' hk => cell_keep hk d3 (show (ad.add (i * 4)).block ≠ g by rw [show (ad.add (i * 4)).block = ad.block by unfold Addr.add; split <;> rfl]; exact hne)
 refine ⟨ad, A3, c3, rfl, l5, hc, fun W' hk => ?_⟩
 have h2 := at_T25 (h W' hk) (i : Int) (by omega) (by omega)
 rw [rd25_nat l i hi] at h2
 obtain ⟨ad', A3', c3', e', _, _, _, d3', _, g5'⟩ := h2
 obtain rfl := Option.some.inj e'
 simp only [Int.toNat_natCast] at d3'
 rw [hc W' hk] at d3'
 have e2 := Option.some.inj d3'
 injection e2 with e3 e4 e5
 rw [e3]
 exact g5'
structure ValsI (w0 w wr : World) (g : Nat) (l : List S25) (s : Int) (i : Nat) (q : Int) : Prop where
 le : i ≤ l.length
 hI : IsS170 w0 wr g q
 hB : Below w0.heap.size w0 wr
 hK : KeepBut w wr g none
 eq : cntL (l.drop i) q = s
def ValsE (w0 w : World) (g : Nat) (l : List S25) (s : Int) (iv : Value) (wr : World) : Prop := ∃ (i : Nat) (q : Int), iv = .int .i64 i ∧ ValsI w0 w wr g l s i q
set_option maxHeartbeats 16000000 in
set_option maxRecDepth 100000 in
theorem vals_calls (n : Nat) : ∀ (l1 : List S25) (hn : SizeOf.sizeOf l1 ≤ n) (g : Nat) (s0_0 : Int) (A1 : Option Addr) (c1 : Nat) (w0 w : World) (hI : IsS170 w0 w g s0_0) (hB : Below w0.heap.size w0 w) (hr1 : ∀ W_, KeepBut w W_ g none → Kd.C k25 W_ A1 l1.length l1) (hc1 : l1.length ≤ c1),
  Calls Try.prog 107 #[.pointer (some ⟨g, 0, none⟩), .slice A1 l1.length c1] w fun e w' => e = .returned (.tuple #[]) ∧ IsS170 w0 w' g (cntL l1 (cadd s0_0 l1.length)) ∧ Below w0.heap.size w0 w' ∧ KeepBut w w' g none := by
 induction n with
 | zero =>
  intro l hn
  cases l <;> simp at hn
 | succ n ih =>
  intro l hn g s0 A c w0 w hI hB hr hc
  have HIH := Aside0.mk (fun (x : S25) (hx : x ∈ l) => ih x.f3 (by
   have h1 := List.sizeOf_lt_of_mem hx
   obtain ⟨k, m, t, l'⟩ := x
   have h2 : SizeOf.sizeOf (S25.mk k m t l') = 1 + SizeOf.sizeOf k + SizeOf.sizeOf m + SizeOf.sizeOf t + SizeOf.sizeOf l' := by simp
   show SizeOf.sizeOf l' ≤ n
   omega))
  have hl9 : l.length ≤ 9223372036854775807 := (hr w (KeepBut.refl w g none)).2.1
  have HR := Aside0.mk hr
  have HI := Aside0.mk hI
  have HB := Aside0.mk hB
  have HC := Aside0.mk hc
  clear hn ih hI hB hr hc
  go_enter Try.func107, Try.ntmps107
  go_wp2_with fail
  refine (eddysize_Count_Add.calls g s0 l.length _ _ w0 _ ?hi ?hb (cadd_f s0 l.length)).mono ?_
  case hi => repeat (first | exact HI.out | apply IsS170.alloc | apply IsS170.drewN | apply IsS170.drew)
  case hb => repeat (with_reducible first | exact HB.out | apply below_alloc | apply pw_below_drewN | apply below_drew1)
  rintro e w1 ⟨rfl, hI1, hB1, hK1⟩
  have HK1 := Aside0.mk (show KeepBut w w1 g none from hK1)
  have HI1 := Aside0.mk hI1
  have HB1 := Aside0.mk hB1
  clear hI1 hB1 hK1
  generalize hs : cadd s0 l.length = s at HI1 ⊢
  have HS := Aside0.mk hs
  clear hs
  go_wp2_with fail
  go_loopw [4] (fun iv wr => ValsE w0 w g l (cntL l s) iv wr) (fun iv _ => l.length - (intOf iv).toNat)
  case atStart => exact ⟨0, s, rfl, Nat.zero_le _, HI1.out, HB1.out, HK1.out, by rw [List.drop_zero]⟩
  case round =>
   obtain ⟨i, q, rfl, hle, hI2, hB2, hK2, heq⟩ := hrel
   have HI2 := Aside0.mk hI2
   have HB2 := Aside0.mk hB2
   have HK2 := Aside0.mk hK2
   clear hI2 hB2 hK2
   by_cases hlt : i < l.length
   ·have hx := List.getElem_mem hlt
    have hdrop : l.drop i = l[i] :: l.drop (i + 1) := List.drop_eq_getElem_cons hlt
    rw [hdrop, cntL_cons] at heq
    obtain ⟨ad, A3, c3, rfl, hc3, hcell, hfoot⟩ := foot_at HR.out hlt
    have HCE := Aside0.mk hcell
    have HF := Aside0.mk hfoot
    clear hfoot
    have d3 := hcell wr HK2.out
    have HX := Aside0.mk (fun (W : World) (hk : KeepBut w W g none) (hI : IsS170 w0 W g q) (hB : Below w0.heap.size w0 W) (hf : ∀ W', KeepBut w W' g none → k25.C W' A3 l[i].f3.length l[i].f3) (hc3 : l[i].f3.length ≤ c3) => HIH.out l[i] hx g q A3 c3 w0 W hI hB (fun W' hk' => hf W' (hk.trans hk' (.inl rfl))) hc3)
    go_wp2_with fail
    refine (eddysize_Count_Ok.calls g q _ _ w0 _ ?hi ?hb rfl).mono ?_
    case hi => repeat (first | exact HI2.out | apply IsS170.alloc | apply IsS170.drewN | apply IsS170.drew)
    case hb => repeat (with_reducible first | exact HB2.out | apply below_alloc | apply pw_below_drewN | apply below_drew1)
    rintro e w3 ⟨rfl, hI3, hB3, hK3⟩
    have HI3 := Aside0.mk hI3
    have HB3 := Aside0.mk hB3
    have HK3 := Aside0.mk (show KeepBut w w3 g none from HK2.out.trans hK3 (.inl rfl))
    clear hI3 hB3 hK3
    have d3' := hcell w3 HK3.out
    by_cases hq : 0 ≤ q
    ·rw [if_pos hq] at heq
     have hqb : decide (q ≥ 0) = true := by simpa using hq
     go_wp2_with fail
     refine (HX.out w3 (HK3.out) HI3.out HB3.out HF.out hc3).mono ?_
     rintro e w4 ⟨rfl, hI4, hB4, hK4⟩
     have HI4 := Aside0.mk hI4
     have HB4 := Aside0.mk hB4
     have HK4 := Aside0.mk (show KeepBut w w4 g none from HK3.out.trans hK4 (.inl rfl))
     clear hI4 hB4 hK4
     rw [← cntS_eq] at HI4
     go_wp2
     go_roundw
     case rel => exact ⟨i + 1, _, by simp, hlt, HI4.out, HB4.out, HK4.out, heq⟩
     case measure => simp [intOf]; omega
    ·rw [if_neg hq] at heq
     have hqb : decide (q ≥ 0) = false := by simpa using hq
     subst heq
     go_wp2
     first | go_end0 | ((try simp only [Exit.inBlock, Exit.then]); refine bodyPost_ret (results_none rfl _ _ _) rfl ?_)
     exact ⟨rfl, by rw [HS.out]; exact HI3.out, HB3.out, HK3.out⟩
   ·have hi : i = l.length := by omega
    rw [hi, List.drop_length, cntL_nil] at heq
    subst heq
    go_wp2
    first | go_end0 | ((try simp only [Exit.inBlock, Exit.then]); refine bodyPost_ret (results_none rfl _ _ _) rfl ?_)
    exact ⟨rfl, by rw [HS.out]; exact HI2.out, HB2.out, HK2.out⟩
theorem eddysize_Count_Values.calls (g : Nat) (s0_0 : Int) (A1 : Option Addr) (c1 : Nat) (l1 : List (S25)) (r : Int) (w0 w : World) (hI : IsS170 w0 w g s0_0) (hB : Below w0.heap.size w0 w) (hr1 : ∀ W_, KeepBut w W_ g none → Kd.C k25 W_ A1 l1.length l1) (hc1 : l1.length ≤ c1) (h : eddysize_Count_Values.f s0_0 l1 = some r) :
  Calls Try.prog 107 #[.pointer (some ⟨g, 0, none⟩), .slice A1 l1.length c1] w fun e w' => e = .returned (.tuple #[]) ∧ IsS170 w0 w' g r ∧ Below w0.heap.size w0 w' ∧ KeepBut w w' g none := by
 obtain rfl := Option.some.inj h
 exact vals_calls _ l1 (Nat.le_refl _) g s0_0 A1 c1 w0 w hI hB hr1 hc1
end Go.Proofs.Ythmkioodkldgbaa.PD
/- What each Go function named in this text computes, as a Lean function, and that the Go code comes to it; conditions: those in each theorem. (Lines written by this session's program.) -/
namespace Go.Proofs.Ythmkioodkldgbaa.PD
open Go.RowKit Go.Proofs.YthmkioodkldgbaaW.PrintWords Go.Proofs.YthmkioodkldgbaaW.PrintLast Go.Proofs.YthmkioodkldgbaaW.PrintMore
attribute [local go_sem] max2_int min2_int max_two min_two max_three min_three max_four min_four   -- for this text's walks alone
set_option linter.unusedVariables false
set_option linter.unusedSimpArgs false
/-! ### eddysize_Count_Record: function 63 -/
def eddysize_Count_Record.f (s0_0 : Int) (a1_0 : ByteArray) (a1_1 : Int) (a1_2 : Int) (a1_3 : ByteArray) (l1_4 : List (S25)) (l1_5 : List Int) : Option (Int) := (eddysize_Count_Add.f s0_0 (wrap64 (1 + (l1_5.length : Int)))).bind fun bt103 => ((eddysize_Count_Values.f bt103.2 l1_4).bind fun t105 => (some t105))
set_option maxHeartbeats 8000000 in
set_option maxRecDepth 100000 in
theorem eddysize_Count_Record.calls (g : Nat) (s0_0 : Int) (a1_0 : ByteArray) (a1_1 : Int) (a1_2 : Int) (a1_3 : ByteArray) (A1_4 : Option Addr) (c1_4 : Nat) (l1_4 : List (S25)) (A1_5 : Option Addr) (c1_5 : Nat) (l1_5 : List Int) (r : Int) (w0 w : World) (hI : IsS170 w0 w g s0_0) (hB : Below w0.heap.size w0 w) (hr1_4 : ∀ W_, KeepBut w W_ g none → Kd.C k25 W_ A1_4 l1_4.length l1_4) (hc1_4 : l1_4.length ≤ c1_4) (hr1_5 : Kd.C (Kd.int .i64) w A1_5 l1_5.length l1_5) (hc1_5 : l1_5.length ≤ c1_5) (hf1_5 : ∀ ad, A1_5 = some ad → 0 < l1_5.length → ad.block ≠ g) (h : eddysize_Count_Record.f s0_0 a1_0 a1_1 a1_2 a1_3 l1_4 l1_5 = some r) :
  Calls Try.prog 63 #[.pointer (some ⟨g, 0, none⟩), .agg #[.string a1_0, .int .i64 a1_1, .int .i64 a1_2, .string a1_3, .slice A1_4 l1_4.length c1_4, .slice A1_5 l1_5.length c1_5]] w fun e w' => e = .returned (.tuple #[]) ∧ IsS170 w0 w' g r ∧ Below w0.heap.size w0 w' ∧ KeepBut w w' g none := by
 have hu28 := Try.underlying28
 have HR1_4 := Aside0.mk hr1_4
 have HC1_4 := Aside0.mk hc1_4
 clear hr1_4 hc1_4
 have HR1_5 := Aside0.mk hr1_5
 have HC1_5 := Aside0.mk hc1_5
 clear hr1_5 hc1_5
 have HI0 := Aside0.mk hI
 have HK := Aside0.mk (KeepBut.refl w g none)
 have HL := Aside0.mk hB.size
 clear hI
 have HW0 := Aside0.mk hB.size
 have HB := Aside0.mk hB
 clear hB
 have H : ((eddysize_Count_Add.f s0_0 (wrap64 (1 + (l1_5.length : Int)))).bind fun bt103 => ((eddysize_Count_Values.f bt103.2 l1_4).bind fun t105 => (some t105))) = some r := h
 clear h
 replace H := Option.bind_eq_some_iff.mp H
 obtain ⟨⟨t103, t104⟩, A30, H⟩ := H
 replace H : ((eddysize_Count_Values.f t104 l1_4).bind fun t105 => (some t105)) = some r := H
 have A3 := Aside0.mk A30
 clear A30
 replace H := Option.bind_eq_some_iff.mp H
 obtain ⟨t105, A40, H⟩ := H
 replace H : (some t105) = some r := H
 have A4 := Aside0.mk A40
 clear A40
 obtain rfl := Option.some.inj H
 go_enter Try.func63, Try.ntmps63
 go_wp2_with (first | ((with_reducible refine gate_dst (N := 3) rfl ?_); refine box_event ?hg (N := 3) ?hd (cs := #[.string a1_0, .int .i64 a1_1, .int .i64 a1_2, .string a1_3, .slice A1_4 l1_4.length c1_4, .slice A1_5 l1_5.length c1_5]) (t := 28) ?hr ?_; (case hd => rfl); (case hg => rfl); (case hr => first | (go_simp; done) | (go_simp; rfl)); intro gb102 hg w5 hbox hb; have n0_ := Aside0.mk (IsS170.below (by repeat (first | (with_reducible first | exact HI0.out | apply IsS170.alloc | apply IsS170.drewN | apply IsS170.drew | apply IsS170.set_0) | exact HI0.out)) hb); have n1_ := Aside0.mk (KeepBut.trans (by repeat (first | (with_reducible first | exact HK.out | apply KeepBut.set_ | apply keep_drewN | apply keep_drew | apply keep_alloc) | exact HK.out)) (KeepBut.of_below hb g none) (.inl rfl)); have n2_ := Aside0.mk (below_step (by repeat (first | (with_reducible first | exact HB.out | apply below_alloc | apply pw_below_drewN | apply below_drew1 | refine below_set ?_ (IsS170.ge HI0.out)) | exact HB.out)) hb); have n3_ := Aside0.mk (hbox); have n4_ := Aside0.mk ((by rw [hg]; exact (keep_size (w := w) (g := g) (row := none) (by repeat (first | (with_reducible first | exact HK.out | apply KeepBut.set_ | apply keep_drewN | apply keep_drew | apply keep_alloc) | exact HK.out))) : w.heap.size ≤ gb102)); have n5_ := Aside0.mk ((Nat.le_trans HW0.out (by rw [hg]; exact (keep_size (w := w) (g := g) (row := none) (by repeat (first | (with_reducible first | exact HK.out | apply KeepBut.set_ | apply keep_drewN | apply keep_drew | apply keep_alloc) | exact HK.out))) : w.heap.size ≤ gb102) : w0.heap.size ≤ gb102)); have n6_ := Aside0.mk ((by rw [hg]; exact Nat.ne_of_lt (IsS170.lt (show IsS170 w0 _ g s0_0 from by repeat (first | (with_reducible first | exact HI0.out | apply IsS170.alloc | apply IsS170.drewN | apply IsS170.drew | apply IsS170.set_0) | exact HI0.out))) : g ≠ gb102)); have n7_ := Aside0.mk ((by rw [hg]; exact Nat.ne_of_gt (IsS170.lt (show IsS170 w0 _ g s0_0 from by repeat (first | (with_reducible first | exact HI0.out | apply IsS170.alloc | apply IsS170.drewN | apply IsS170.drew | apply IsS170.set_0) | exact HI0.out))) : gb102 ≠ g)); clear HI0; clear HK; clear HB; have HI0 := n0_; have HK := n1_; have HB := n2_; have BK102 := n3_; have GW102 := n4_; have GE102 := n5_; have NB0_102 := n6_; have NB102_0 := n7_; clear n0_ n1_ n2_ n3_ n4_ n5_ n6_ n7_; clear hb hbox hg; have hnb6 := NB102_0.out; have hnc6 := NB0_102.out; have hcz7_0 : w5.cell? ⟨gb102, 0, none⟩ = some (.string a1_0) := (blk_cell BK102.out 0).trans rfl; have hcz7_1 : w5.cell? ⟨gb102, 1, none⟩ = some (.int .i64 a1_1) := (blk_cell BK102.out 1).trans rfl; have hcz7_2 : w5.cell? ⟨gb102, 2, none⟩ = some (.int .i64 a1_2) := (blk_cell BK102.out 2).trans rfl; have hcz7_3 : w5.cell? ⟨gb102, 3, none⟩ = some (.string a1_3) := (blk_cell BK102.out 3).trans rfl; have hcz7_4 : w5.cell? ⟨gb102, 4, none⟩ = some (.slice A1_4 l1_4.length c1_4) := (blk_cell BK102.out 4).trans rfl; have hcz7_5 : w5.cell? ⟨gb102, 5, none⟩ = some (.slice A1_5 l1_5.length c1_5) := (blk_cell BK102.out 5).trans rfl; have hfz7_0 := blk_frozen BK102.out 0; have hfz7_1 := blk_frozen BK102.out 1; have hfz7_2 := blk_frozen BK102.out 2; have hfz7_3 := blk_frozen BK102.out 3; have hfz7_4 := blk_frozen BK102.out 4; have hfz7_5 := blk_frozen BK102.out 5) | ((with_reducible refine gate_callee (f := 106) rfl ?_); refine goesL_ (some 9) rfl rfl Try.func106 (by kernel_rfl) rfl #[.pointer (some ⟨g, 0, none⟩), .int .i64 (wrap64 (1 + (l1_5.length : Int)))] rfl (by (try simp only [List.map_toArray, List.map_cons, List.map_nil]); first | done | rfl | (simp only [List.length_drop, List.length_take]; rfl)) ?_; (with_reducible refine (eddysize_Count_Add.calls g s0_0 (wrap64 (1 + (l1_5.length : Int))) t103 t104 w0 _ ?side1 ?side2 A3.out).mono ?_); (case side1 => repeat (first | (with_reducible first | exact HI0.out | apply IsS170.alloc | apply IsS170.drewN | apply IsS170.drew | apply IsS170.set_0 | refine IsS170.far ?_ NB0_102.out _) | exact HI0.out)); (case side2 => repeat (first | (with_reducible first | exact HB.out | apply below_alloc | apply pw_below_drewN | apply below_drew1 | refine below_set ?_ (IsS170.ge HI0.out) | refine below_set ?_ GE102.out) | exact HB.out)); rintro e w8 ⟨rfl, hi, hb, hk⟩; refine ⟨_, rfl, ?_⟩; have n0_ := Aside0.mk (KeepBut.blk hk (g' := gb102) (o := .cells #[.string a1_0, .int .i64 a1_1, .int .i64 a1_2, .string a1_3, .slice A1_4 l1_4.length c1_4, .slice A1_5 l1_5.length c1_5] 28 (0, 0)) (by (with_reducible repeat (first | refine blk_drewN ?_ _ | refine blk_drew ?_ | refine blk_alloc ?_ _)); exact BK102.out) NB102_0.out (by simp)); have n1_ := Aside0.mk (KeepBut.trans (by repeat (first | (with_reducible first | exact HK.out | apply KeepBut.set_ | apply keep_drewN | apply keep_drew | apply keep_alloc | refine keep_far ?_ GW102.out _) | exact HK.out)) hk (.inl rfl)); have n2_ := Aside0.mk (hb); have n3_ := Aside0.mk (hi); clear BK102; clear HK; clear HB; clear HI0; have BK102 := n0_; have HK := n1_; have HB := n2_; have HI0 := n3_; clear n0_ n1_ n2_ n3_; (try clear hb); (try clear hb2); (try clear hk); (try clear hi); have hcz9_0 : w8.cell? ⟨gb102, 0, none⟩ = some (.string a1_0) := (blk_cell BK102.out 0).trans rfl; have hcz9_1 : w8.cell? ⟨gb102, 1, none⟩ = some (.int .i64 a1_1) := (blk_cell BK102.out 1).trans rfl; have hcz9_2 : w8.cell? ⟨gb102, 2, none⟩ = some (.int .i64 a1_2) := (blk_cell BK102.out 2).trans rfl; have hcz9_3 : w8.cell? ⟨gb102, 3, none⟩ = some (.string a1_3) := (blk_cell BK102.out 3).trans rfl; have hcz9_4 : w8.cell? ⟨gb102, 4, none⟩ = some (.slice A1_4 l1_4.length c1_4) := (blk_cell BK102.out 4).trans rfl; have hcz9_5 : w8.cell? ⟨gb102, 5, none⟩ = some (.slice A1_5 l1_5.length c1_5) := (blk_cell BK102.out 5).trans rfl; have hfz9_0 := blk_frozen BK102.out 0; have hfz9_1 := blk_frozen BK102.out 1; have hfz9_2 := blk_frozen BK102.out 2; have hfz9_3 := blk_frozen BK102.out 3; have hfz9_4 := blk_frozen BK102.out 4; have hfz9_5 := blk_frozen BK102.out 5) | ((with_reducible refine gate_callee (f := 107) rfl ?_); refine goesL_ (some 14) rfl rfl Try.func107 (by kernel_rfl) rfl #[.pointer (some ⟨g, 0, none⟩), .slice A1_4 l1_4.length c1_4] rfl (by (try simp only [List.map_toArray, List.map_cons, List.map_nil]); first | done | rfl | (simp only [List.length_drop, List.length_take]; rfl)) ?_; (with_reducible refine (eddysize_Count_Values.calls g t104 _ _ l1_4 t105 w0 _ ?side1 ?side2 ?side3 ?side4 A4.out).mono ?_); (case side1 => repeat (first | (with_reducible first | exact HI0.out | apply IsS170.alloc | apply IsS170.drewN | apply IsS170.drew | apply IsS170.set_0 | refine IsS170.far ?_ NB0_102.out _) | exact HI0.out)); (case side2 => repeat (first | (with_reducible first | exact HB.out | apply below_alloc | apply pw_below_drewN | apply below_drew1 | refine below_set ?_ (IsS170.ge HI0.out) | refine below_set ?_ GE102.out) | exact HB.out)); (case side3 => exact Kd.C_foot_step HR1_4.out (by repeat (first | (with_reducible first | exact HK.out | apply KeepBut.set_ | apply keep_drewN | apply keep_drew | apply keep_alloc | refine keep_far ?_ GW102.out _) | exact HK.out))); (case side4 => exact HC1_4.out); rintro e w10 ⟨rfl, hi, hb, hk⟩; refine ⟨_, rfl, ?_⟩; have n0_ := Aside0.mk (KeepBut.blk hk (g' := gb102) (o := .cells #[.string a1_0, .int .i64 a1_1, .int .i64 a1_2, .string a1_3, .slice A1_4 l1_4.length c1_4, .slice A1_5 l1_5.length c1_5] 28 (0, 0)) (by (with_reducible repeat (first | refine blk_drewN ?_ _ | refine blk_drew ?_ | refine blk_alloc ?_ _)); exact BK102.out) NB102_0.out (by simp)); have n1_ := Aside0.mk (KeepBut.trans (by repeat (first | (with_reducible first | exact HK.out | apply KeepBut.set_ | apply keep_drewN | apply keep_drew | apply keep_alloc | refine keep_far ?_ GW102.out _) | exact HK.out)) hk (.inl rfl)); have n2_ := Aside0.mk (hb); have n3_ := Aside0.mk (hi); clear BK102; clear HK; clear HB; clear HI0; have BK102 := n0_; have HK := n1_; have HB := n2_; have HI0 := n3_; clear n0_ n1_ n2_ n3_; (try clear hb); (try clear hb2); (try clear hk); (try clear hi)))
 first | go_end0 | ((try simp only [Exit.inBlock, Exit.then]); refine bodyPost_ret (results_none rfl _ _ _) rfl ?_)
 exact ⟨by first | rfl | (simp [errW_none, errW_some] <;> rfl) | (simp [*, errW_none, errW_some] <;> rfl), by repeat (first | (with_reducible first | exact HI0.out | apply IsS170.alloc | apply IsS170.drewN | apply IsS170.drew | apply IsS170.set_0 | refine IsS170.far ?_ NB0_102.out _) | exact HI0.out), by repeat (first | (with_reducible first | exact HB.out | apply below_alloc | apply pw_below_drewN | apply below_drew1 | refine below_set ?_ (IsS170.ge HI0.out) | refine below_set ?_ GE102.out) | exact HB.out), by repeat (first | (with_reducible first | exact HK.out | apply KeepBut.set_ | apply keep_drewN | apply keep_drew | apply keep_alloc | refine keep_far ?_ GW102.out _) | exact HK.out)⟩

end Go.Proofs.Ythmkioodkldgbaa.PD
/- eddyref2.flat: the reference's walk through a value's parts; conditions: those in each theorem. -/
namespace Go.Proofs.Ythmkioodkldgbaa.DK
open Go.Proofs.Ythmkioodkldgbaa.PD
open Go.RowKit Go.Proofs.YthmkioodkldgbaaW.PrintWords Go.Proofs.YthmkioodkldgbaaW.PrintLast Go.Proofs.YthmkioodkldgbaaW.PrintMore
set_option linter.unusedVariables false
set_option linter.unusedSimpArgs false
mutual
/-- The parts laid behind those that are there, and the first fault. -/
def flatM : S25 → Int → List S204 → List S204 × Int
 | ⟨k, n, t, l⟩, d, xs =>
  if 12 ≤ xs.length then (xs, 22)
  else if k < 0 ∨ 3 < k then (xs, 20)
  else if other k n t l then (xs, 20)
  else if k = 3 ∧ 3 ≤ d then (xs, 23)
  else if 24 < t.size then (xs, 21)
  else if 6 < l.length then (xs, 22)
  else flatL l (d + 1) (xs ++ [⟨k, n, t, l.length⟩])
def flatL : List S25 → Int → List S204 → List S204 × Int
 | [], _, xs => (xs, 0)
 | x :: l, d, xs => if (flatM x d xs).2 ≠ 0 then flatM x d xs else flatL l d (flatM x d xs).1
end
theorem flatM_eq (v : S25) (d : Int) (xs : List S204) : flatM v d xs = if 12 ≤ xs.length then (xs, 22)
  else if v.f0 < 0 ∨ 3 < v.f0 then (xs, 20)
  else if other v.f0 v.f1 v.f2 v.f3 then (xs, 20)
  else if v.f0 = 3 ∧ 3 ≤ d then (xs, 23)
  else if 24 < v.f2.size then (xs, 21)
  else if 6 < v.f3.length then (xs, 22)
  else flatL v.f3 (d + 1) (xs ++ [⟨v.f0, v.f1, v.f2, v.f3.length⟩]) := by
 obtain ⟨k, n, t, l⟩ := v
 rw [flatM]
theorem flatL_nil (d : Int) (xs : List S204) : flatL [] d xs = (xs, 0) := by rw [flatL]
theorem flatL_cons (x : S25) (l : List S25) (d : Int) (xs : List S204) : flatL (x :: l) d xs = if (flatM x d xs).2 ≠ 0 then flatM x d xs else flatL l d (flatM x d xs).1 := by rw [flatL]
mutual
theorem flatM_le : ∀ (v : S25) (d : Int) (xs : List S204), xs.length ≤ (flatM v d xs).1.length ∧ (xs.length ≤ 12 → (flatM v d xs).1.length ≤ 12)
 | ⟨k, n, t, l⟩, d, xs => by
  rw [flatM_eq]
  dsimp only
  split
  ·exact ⟨Nat.le_refl _, fun h => h⟩
  split
  ·exact ⟨Nat.le_refl _, fun h => h⟩
  split
  ·exact ⟨Nat.le_refl _, fun h => h⟩
  split
  ·exact ⟨Nat.le_refl _, fun h => h⟩
  split
  ·exact ⟨Nat.le_refl _, fun h => h⟩
  split
  ·exact ⟨Nat.le_refl _, fun h => h⟩
  ·have h := flatL_le l (d + 1) (xs ++ [⟨k, n, t, l.length⟩])
   simp only [List.length_append, List.length_singleton] at h
   exact ⟨by omega, fun _ => h.2 (by omega)⟩
theorem flatL_le : ∀ (l : List S25) (d : Int) (xs : List S204), xs.length ≤ (flatL l d xs).1.length ∧ (xs.length ≤ 12 → (flatL l d xs).1.length ≤ 12)
 | [], d, xs => by rw [flatL_nil]; exact ⟨Nat.le_refl _, fun h => h⟩
 | x :: l, d, xs => by
  have h1 := flatM_le x d xs
  rw [flatL_cons]
  split
  ·exact h1
  ·have h2 := flatL_le l d (flatM x d xs).1
   exact ⟨by omega, fun h => h2.2 (h1.2 h)⟩
end
mutual
/-- The two walks find the same. -/
theorem flat_chk : ∀ (v : S25) (d : Int) (xs : List S204), xs.length ≤ 12 → (flatM v d xs).2 = (chk v d xs.length).2 ∧ ((chk v d xs.length).2 = 0 → ((flatM v d xs).1.length : Int) = (chk v d xs.length).1)
 | ⟨k, n, t, l⟩, d, xs => by
  intro h12
  rw [flatM_eq, chk_eq]
  dsimp only
  by_cases c1 : 12 ≤ xs.length
  ·rw [if_pos c1, if_pos (show (12 : Int) < xs.length + 1 by omega)]
   exact ⟨rfl, fun h => by simp at h⟩
  rw [if_neg c1, if_neg (show ¬ (12 : Int) < xs.length + 1 by omega)]
  split
  ·exact ⟨rfl, fun h => by simp at h⟩
  split
  ·exact ⟨rfl, fun h => by simp at h⟩
  split
  ·exact ⟨rfl, fun h => by simp at h⟩
  split
  ·exact ⟨rfl, fun h => by simp at h⟩
  split
  ·exact ⟨rfl, fun h => by simp at h⟩
  ·have h := flat_chkL l (d + 1) (xs ++ [⟨k, n, t, l.length⟩]) (by simp; omega)
   simp only [List.length_append, List.length_singleton, Int.natCast_add, Int.cast_ofNat_Int] at h
   exact h
theorem flat_chkL : ∀ (l : List S25) (d : Int) (xs : List S204), xs.length ≤ 12 → (flatL l d xs).2 = (chkL l d xs.length).2 ∧ ((chkL l d xs.length).2 = 0 → ((flatL l d xs).1.length : Int) = (chkL l d xs.length).1)
 | [], d, xs => by intro h; rw [flatL_nil, chkL_nil]; exact ⟨rfl, fun _ => rfl⟩
 | x :: l, d, xs => by
  intro h
  have h1 := flat_chk x d xs h
  rw [flatL_cons, chkL_cons, h1.1]
  by_cases hz : (chk x d xs.length).2 = 0
  ·rw [if_neg (fun h => h hz), if_neg (fun h => h hz), ← h1.2 hz]
   exact flat_chkL l d (flatM x d xs).1 ((flatM_le x d xs).2 h)
  ·rw [if_pos hz, if_pos hz]
   exact ⟨h1.1, fun h => absurd h hz⟩
end
def FlatPost (b0 : Nat) (w : World) (u : Value) (r : List S204 × Int) (e : Ending) (w' : World) : Prop := ∃ u', e = .returned (.tuple #[u', .int .i64 r.2]) ∧ k204.R 204 w' b0 (fun _ => True) u' r.1 ∧ Upd (fun k => u.ownBlock = some k) w w' ∧ (u'.ownBlock = u.ownBlock ∨ ∃ b, u'.ownBlock = some b ∧ w.heap.size ≤ b)
theorem r204_same {b0 : Nat} {w w' : World} {u : Value} {xs : List S204} (h : k204.R 204 w b0 (fun _ => True) u xs) (hs : ∀ k, u.ownBlock = some k → w'.heap[k]? = w.heap[k]?) : k204.R 204 w' b0 (fun _ => True) u xs :=
 Kd.R_mono (Kd.R_move (Kd.R_tight rfl h) (fun k hk => hs k hk.symm)) (fun _ _ => trivial)
theorem r204_below {b0 : Nat} {w w' : World} {u : Value} {xs : List S204} (h : k204.R 204 w b0 (fun _ => True) u xs) (hb : Below w.heap.size w w') : k204.R 204 w' b0 (fun _ => True) u xs :=
 r204_same h (fun k hk => hb.block k (Kd.R_lt h k hk))
theorem r204_ne {b0 : Nat} {w : World} {u : Value} {xs : List S204} (h : k204.R 204 w b0 (fun _ => True) u xs) {b t : Nat} {cs : Array Value} (hb : w.heap[b]? = some (.cells cs t (0, 0))) (ht : t ≠ 204) : u.ownBlock ≠ some b := by
 intro e
 obtain ⟨cells, hc⟩ := Kd.R_typed h b e
 rw [hb] at hc
 injection hc with hc
 injection hc with h1 h2
 exact ht h2
end Go.Proofs.Ythmkioodkldgbaa.DK
