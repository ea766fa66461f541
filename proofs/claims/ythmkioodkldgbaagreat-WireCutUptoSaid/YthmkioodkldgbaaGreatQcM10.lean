/- The checks of records, states and segments, in plain words; conditions: those in each theorem. -/
import Derived.Test.YthmkioodkldgbaaGreatQcM09
import Derived.Test.YthmkioodkldgbaaGreatQcM07
import Derived.Test.YthmkioodkldgbaaGreatQcM04
import Derived.Test.YthmkioodkldgbaaGreatQcM08
import Derived.Lib.Strings
namespace Go.Proofs.YthmkioodkldgbaaGreat.DK
open Go.Proofs.YthmkioodkldgbaaGreat.PD
open Go.RowKit Go.Proofs.YthmkioodkldgbaaGreatW.PrintWords Go.Proofs.YthmkioodkldgbaaGreatW.PrintLast Go.Proofs.YthmkioodkldgbaaGreatW.PrintMore
set_option linter.unusedVariables false
set_option linter.unusedSimpArgs false
theorem w64p {i : Nat} (h : 0 < i) (hn : i ≤ 9223372036854775807) : wrap64 ((i : Int) - 1) = ((i - 1 : Nat) : Int) := by unfold wrap64; omega
theorem drop_cons {α : Type} {l : List α} {i : Nat} (h : i < l.length) : l.drop i = l[i] :: l.drop (i + 1) := List.drop_eq_getElem_cons h
def loopsC : List Int → Int
 | [] => 0
 | n :: l => if n < 0 ∨ 9 < n then 25 else loopsC l
/-- The first fault of a record. -/
def recC (x : S28) : Int := if 12 < x.f0.size then 24 else if (chk x.f1 0 0).2 ≠ 0 then (chk x.f1 0 0).2 else if 3 < x.f2.length then 25 else loopsC x.f2
/-- The first fault of some records. -/
def recsL : List S28 → Int
 | [] => 0
 | x :: l => if recC x = 0 then recsL l else recC x
def recsC (l : List S28) : Int := if 256 < l.length then 43 else recsL l
/-- The first fault of some values; of cells behind the cell q. -/
def valsC : List S25 → Int
 | [] => 0
 | v :: l => if (chk v 0 0).2 = 0 then valsC l else (chk v 0 0).2
def less (a b : ByteArray) : Bool := Op.bytesLess a.toList b.toList
def cellsL : Option ByteArray → List S121 → Int
 | _, [] => 0
 | q, x :: l => if 12 < x.f0.size then 24 else if (match q with | none => false | some q => !less q x.f0) = true then 27 else if 6 < x.f1.length then 27 else if valsC x.f1 = 0 then cellsL (some x.f0) l else valsC x.f1
theorem cellsL_nil (q : Option ByteArray) : cellsL q [] = 0 := by rw [cellsL.eq_def]
theorem cellsL_cons (q : Option ByteArray) (x : S121) (l : List S121) : cellsL q (x :: l) = if 12 < x.f0.size then 24 else if (match q with | none => false | some q => !less q x.f0) = true then 27 else if 6 < x.f1.length then 27 else if valsC x.f1 = 0 then cellsL (some x.f0) l else valsC x.f1 := by rw [cellsL.eq_def]
def stateC (n : Int) (l : List S121) : Int := if n < 0 ∨ 1073741824 < n then 26 else if 64 < l.length then 27 else cellsL none l
/-- Of keys that are gone. -/
def goneL : Option ByteArray → List ByteArray → Int
 | _, [] => 0
 | q, x :: l => if 12 < x.size then 24 else if (match q with | none => false | some q => !less q x) = true then 42 else goneL (some x) l
theorem goneL_nil (q : Option ByteArray) : goneL q [] = 0 := by rw [goneL.eq_def]
theorem goneL_cons (q : Option ByteArray) (x : ByteArray) (l : List ByteArray) : goneL q (x :: l) = if 12 < x.size then 24 else if (match q with | none => false | some q => !less q x) = true then 42 else goneL (some x) l := by rw [goneL.eq_def]
def goneC (l : List ByteArray) : Int := if 64 < l.length then 43 else goneL none l
/-- The first fault of some logs, then of what waits. -/
def logsL : List (List S28) → List S28 → Int
 | [], p => recsC p
 | x :: l, p => if recsC x = 0 then logsL l p else recsC x
def logsC (l : List (List S28)) (p : List S28) : Int := if 4 < l.length then 43 else logsL l p
def noDelta (s : Seg) : Prop := s.sum = 0 ∧ s.dnum = 0 ∧ s.set.length = 0 ∧ s.gone.length = 0
def noState (s : Seg) : Prop := s.snum = 0 ∧ s.cells.length = 0
instance (s : Seg) : Decidable (noDelta s) := by unfold noDelta; infer_instance
instance (s : Seg) : Decidable (noState s) := by unfold noState; infer_instance
def bodyC (s : Seg) : Int := if s.base = 0 then stateC s.snum s.cells else if stateC s.dnum s.set = 0 then goneC s.gone else stateC s.dnum s.set
def segC (s : Seg) : Int :=
 if s.id < 0 ∨ 9999 < s.id ∨ s.task < 0 ∨ 12 ≤ s.task ∨ s.base < 0 ∨ 9999 < s.base then 43
 else if (s.base = 0 ∧ ¬ noDelta s) ∨ (0 < s.base ∧ ¬ noState s) then 41
 else if bodyC s = 0 then logsC s.logs s.pend else bodyC s
/-- Its lists are no longer than a memory is. -/
structure Seg.Short (s : Seg) : Prop where
 cells : s.cells.length ≤ 9223372036854775807
 cellx : ∀ x ∈ s.cells, x.f1.length ≤ 9223372036854775807
 set : s.set.length ≤ 9223372036854775807
 setx : ∀ x ∈ s.set, x.f1.length ≤ 9223372036854775807
 gone : s.gone.length ≤ 9223372036854775807
 logs : s.logs.length ≤ 9223372036854775807
 log : ∀ l ∈ s.logs, l.length ≤ 9223372036854775807
 recx : ∀ l ∈ s.logs, ∀ x ∈ l, x.f2.length ≤ 9223372036854775807
 pend : s.pend.length ≤ 9223372036854775807
 pendx : ∀ x ∈ s.pend, x.f2.length ≤ 9223372036854775807
end Go.Proofs.YthmkioodkldgbaaGreat.DK
/- eddyref4.Bag.write; conditions: those in each theorem. -/
namespace Go.Proofs.YthmkioodkldgbaaGreat.DK
open Go.Proofs.YthmkioodkldgbaaGreat.PD
open Go.RowKit Go.Proofs.YthmkioodkldgbaaGreatW.PrintWords Go.Proofs.YthmkioodkldgbaaGreatW.PrintLast Go.Proofs.YthmkioodkldgbaaGreatW.PrintMore
set_option linter.unusedVariables false
set_option linter.unusedSimpArgs false
set_option maxRecDepth 100000
theorem R5.ut {T : List Nat} {b : Nat} {w w1 : World} {v : Value} {xs : List Int} (h : R5 b w v xs) (hu : UT T b w w1) (he : 5 ∉ T) : R5 b w1 v xs :=
 own_move h (fun k hk => by obtain ⟨cs, hc⟩ := own_typed h k hk; exact (hu.blk hc he).trans hc.symm)
/-- What the writing of a form leaves. -/
def WrP (Rel : World → Prop) (b : Nat) (w : World) (g : Nat) (ns : List Int) (ks : List ByteArray) (vs : List S25) (un uk uv : Value) (zs : List Int) (q : Left) (e : Ending) (w' : World) : Prop :=
 ∃ (u' : Value) (i' j' k' : Nat), e = .returned u' ∧ R5 b w' u' zs ∧ Bag Rel b w' g ns ks vs i' j' k' un uk uv ∧ UT [145, 5] b w w' ∧ q = ⟨ns.drop i', ks.drop j', vs.drop k'⟩
theorem WrP.mk {Rel : World → Prop} {b : Nat} {w w' : World} {g : Nat} {ns : List Int} {ks : List ByteArray} {vs : List S25} {un uk uv : Value} {zs : List Int} {q : Left} {e : Ending} (u' : Value) (i' j' k' : Nat) (h1 : e = .returned u') (h2 : R5 b w' u' zs) (h3 : Bag Rel b w' g ns ks vs i' j' k' un uk uv) (h4 : UT [145, 5] b w w') (h5 : q = ⟨ns.drop i', ks.drop j', vs.drop k'⟩) : WrP Rel b w g ns ks vs un uk uv zs q e w' := ⟨u', i', j', k', h1, h2, h3, h4, h5⟩
end Go.Proofs.YthmkioodkldgbaaGreat.DK
/- eddyref4.Bag.addRecord; conditions: those in each theorem. -/
namespace Go.Proofs.YthmkioodkldgbaaGreat.DK
open Go.Proofs.YthmkioodkldgbaaGreat.PD
open Go.RowKit Go.Proofs.YthmkioodkldgbaaGreatW.PrintWords Go.Proofs.YthmkioodkldgbaaGreatW.PrintLast Go.Proofs.YthmkioodkldgbaaGreatW.PrintMore
set_option linter.unusedVariables false
set_option linter.unusedSimpArgs false
set_option maxRecDepth 100000
/-- A bag, whatever its rows are called. -/
def BagX (Rel : World → Prop) (b : Nat) (w : World) (g : Nat) (ns : List Int) (ks : List ByteArray) (vs : List S25) (i j k : Int) : Prop := ∃ un uk uv, Bag Rel b w g ns ks vs i j k un uk uv
end Go.Proofs.YthmkioodkldgbaaGreat.DK
/- eddylaw4.sameValue, sameRecord, sameRecords, sameTexts, sameCells: they answer whether what they are handed is the same; conditions: those in each theorem. -/
namespace Go.Proofs.YthmkioodkldgbaaGreat.DK
open Go.Proofs.YthmkioodkldgbaaGreat.PD
open Go.RowKit Go.Proofs.YthmkioodkldgbaaGreatW.PrintWords Go.Proofs.YthmkioodkldgbaaGreatW.PrintLast Go.Proofs.YthmkioodkldgbaaGreatW.PrintMore
set_option linter.unusedVariables false
set_option linter.unusedSimpArgs false
set_option maxRecDepth 100000
/-- It tells whether P. -/
def Tells (P : Prop) (w : World) (e : Ending) (w' : World) : Prop := ∃ r : Bool, e = .returned (.bool r) ∧ (r = true ↔ P) ∧ Below w.heap.size w w'
theorem Tells.yes {P : Prop} {w w' : World} (h : P) (hb : Below w.heap.size w w') : Tells P w (.returned (.bool true)) w' := ⟨true, rfl, ⟨fun _ => h, fun _ => rfl⟩, hb⟩
theorem Tells.no {P : Prop} {w w' : World} (h : ¬ P) (hb : Below w.heap.size w w') : Tells P w (.returned (.bool false)) w' := ⟨false, rfl, ⟨fun e => by simp at e, fun p => absurd p h⟩, hb⟩
theorem Tells.congr {P Q : Prop} {w w' : World} {e : Ending} (h : Tells P w e w') (k : P ↔ Q) : Tells Q w e w' := by obtain ⟨r, h1, h2, h3⟩ := h; exact ⟨r, h1, h2.trans k, h3⟩
theorem Tells.at {P : Prop} {w w1 w' : World} {e : Ending} (hb : Below w.heap.size w w1) (h : Tells P w1 e w') : Tells P w e w' := by obtain ⟨r, h1, h2, h3⟩ := h; exact ⟨r, h1, h2, hb.trans (h3.mono hb.size)⟩
theorem text_inj {a b : ByteArray} (h : a.toList = b.toList) : a = b := by
 rw [ByteArray.toList_eq, ByteArray.toList_eq] at h
 obtain ⟨a⟩ := a
 obtain ⟨b⟩ := b
 congr 1
 exact Array.toList_inj.1 h
/-- Two boxes. -/
def Two (w : World) (T : Nat) (cs ds : Array Value) (wr : World) : Prop := wr.heap[w.heap.size]? = some (.cells cs T (0, 0)) ∧ wr.heap[w.heap.size + 1]? = some (.cells ds T (0, 0))
theorem Two.start (w : World) (T : Nat) (cs ds : Array Value) : Two w T cs ds ((w.alloc (.cells cs T)).alloc (.cells ds T)) := ⟨by rw [heap_alloc_lt _ _ _ (by simp)]; exact heap_alloc_new w _, new2 w _ _⟩
theorem Two.next {w wr w' : World} {T : Nat} {cs ds : Array Value} (h : Two w T cs ds wr) (hb : Below wr.heap.size wr w') : Two w T cs ds w' := ⟨(hb.block _ (blk_lt h.1)).trans h.1, (hb.block _ (blk_lt h.2)).trans h.2⟩
/-- They are the same if what stands from i on is. -/
structure SameI {α : Type} (K : World → Prop) (w : World) (l m : List α) (i : Nat) (wr : World) : Prop where
 le : i ≤ l.length
 eq : l = m ↔ l.drop i = m.drop i
 b : Below w.heap.size w wr
 k : K wr
def SameE {α : Type} (K : World → Prop) (w : World) (l m : List α) (iv : Value) (wr : World) : Prop := ∃ i : Nat, iv = .int .i64 i ∧ SameI K w l m i wr
section
variable {α : Type} {K : World → Prop} {w wr w' : World} {l m : List α} {i : Nat}
theorem SameI.start (hb : Below w.heap.size w wr) (hk : K wr) : SameE K w l m (.int .i64 0) wr := ⟨0, rfl, Nat.zero_le _, by simp, hb, hk⟩
theorem SameI.done (h : SameI K w l m i wr) (hi : ¬ i < l.length) (hl : m.length = l.length) : l = m := h.eq.2 (by rw [List.drop_of_length_le (by omega), List.drop_of_length_le (by omega)])
theorem SameI.stop (h : SameI K w l m i wr) (h1 : i < l.length) (h2 : i < m.length) (hn : l[i] ≠ m[i]) : l ≠ m := fun e => hn (by subst e; rfl)
theorem SameI.next (h : SameI K w l m i wr) (h1 : i < l.length) (h2 : i < m.length) (he : l[i] = m[i]) (hb : Below wr.heap.size wr w') (hk : K w') : SameI K w l m (i + 1) w' :=
 ⟨h1, h.eq.trans (by rw [List.drop_eq_getElem_cons h1, he, List.drop_eq_getElem_cons h2]; simp only [List.cons.injEq, true_and]), h.b.trans (hb.mono h.b.size), hk⟩
end
set_option maxHeartbeats 8000000 in
theorem sameValue_calls (n : Nat) : ∀ (v u : S25) (hn : SizeOf.sizeOf v ≤ n) (w : World) (b : Nat) (A : Option Addr) (c : Nat) (B : Option Addr) (d : Nat) (hA : In k25 b w A v.f3) (hB : In k25 b w B u.f3) (hb : b ≤ w.heap.size) (hc : v.f3.length ≤ c) (hd : u.f3.length ≤ d),
  Calls Tryz.prog 43 #[.agg #[.int .i64 v.f0, .int .i64 v.f1, .string v.f2, .slice A v.f3.length c], .agg #[.int .i64 u.f0, .int .i64 u.f1, .string u.f2, .slice B u.f3.length d]] w (Tells (v = u) w) := by
 induction n with
 | zero => intro v u hn; obtain ⟨k, m, t, l⟩ := v; simp at hn
 | succ n ih =>
  intro v u hn w b A c B d hA hB hb hc hd
  have hsz := fun x (hx : x ∈ v.f3) => Nat.le_of_lt_succ (Nat.lt_of_lt_of_le (size_mem hx) hn)
  obtain ⟨k, m, t, l⟩ := v
  obtain ⟨k', m', t', l'⟩ := u
  dsimp only at hA hB hc hd hsz ⊢
  have HA := Aside0.mk hA
  have HB := Aside0.mk hB
  have HZ := Aside0.mk hsz
  have hm : l.length ≤ 9223372036854775807 := hA.max
  clear hA hB hsz hn
  have hu25 := Tryz.underlying24
  by_cases c0 : k = k'
  case neg =>
   go_enter Tryz.func43, Tryz.ntmps43
   go_wp2
   go_ret
   exact Tells.no (fun h => c0 (congrArg S25.f0 h)) (below_alloc (below_alloc (Below.refl _ _) _) _)
  subst c0
  by_cases c1 : m = m'
  case neg =>
   go_enter Tryz.func43, Tryz.ntmps43
   go_wp2
   go_ret
   exact Tells.no (fun h => c1 (congrArg S25.f1 h)) (below_alloc (below_alloc (Below.refl _ _) _) _)
  subst c1
  by_cases c2 : t = t'
  case neg =>
   have ht : ¬ t.toList = t'.toList := fun h => c2 (text_inj h)
   go_enter Tryz.func43, Tryz.ntmps43
   go_wp2
   go_ret
   exact Tells.no (fun h => c2 (congrArg S25.f2 h)) (below_alloc (below_alloc (Below.refl _ _) _) _)
  subst c2
  by_cases c3 : l'.length = l.length
  case neg =>
   have hne : ¬ (l.length : Int) = (l'.length : Int) := by omega
   go_enter Tryz.func43, Tryz.ntmps43
   go_wp2
   go_ret
   exact Tells.no (fun h => c3 (congrArg (fun v : S25 => v.f3.length) h).symm) (below_alloc (below_alloc (Below.refl _ _) _) _)
  rw [c3] at hd ⊢
  have H3 := Aside0.mk c3
  clear c3
  go_enter Tryz.func43, Tryz.ntmps43
  go_wp2
  go_loopw [5] (fun iv wr => SameE (Two w 24 #[.int .i64 k, .int .i64 m, .string t, .slice A l.length c] #[.int .i64 k, .int .i64 m, .string t, .slice B l.length d]) w l l' iv wr) (fun iv _ => l.length - (intOf iv).toNat)
  case atStart => exact SameI.start (below_alloc (below_alloc (Below.refl _ _) _) _) (Two.start _ _ _ _)
  case round =>
   obtain ⟨i, rfl, HI⟩ := hrel
   have HX := Aside0.mk HI
   clear HI
   have x0 := blk_cell HX.out.k.1 0
   have x1 := blk_cell HX.out.k.1 1
   have x2 := blk_cell HX.out.k.1 2
   have x3 := blk_cell HX.out.k.1 3
   have fx0 := blk_frozen HX.out.k.1 0
   have fx1 := blk_frozen HX.out.k.1 1
   have fx2 := blk_frozen HX.out.k.1 2
   have fx3 := blk_frozen HX.out.k.1 3
   simp only [List.getElem?_toArray, List.getElem?_cons_succ, List.getElem?_cons_zero] at x0 x1 x2 x3
   have y0 := blk_cell HX.out.k.2 0
   have y1 := blk_cell HX.out.k.2 1
   have y2 := blk_cell HX.out.k.2 2
   have y3 := blk_cell HX.out.k.2 3
   have fy0 := blk_frozen HX.out.k.2 0
   have fy1 := blk_frozen HX.out.k.2 1
   have fy2 := blk_frozen HX.out.k.2 2
   have fy3 := blk_frozen HX.out.k.2 3
   simp only [List.getElem?_toArray, List.getElem?_cons_succ, List.getElem?_cons_zero] at y0 y1 y2 y3
   have hle := HX.out.le
   by_cases hlt : i < l.length
   ·have hlt' : i < l'.length := by rw [H3.out]; exact hlt
    have hA := HA.out.ext (HX.out.b.mono hb)
    have hB := HB.out.ext (HX.out.b.mono hb)
    obtain ⟨ad, A3, c4, rfl, d0, d1, d2, d3, l3, g3⟩ := hA.at25 hlt
    obtain ⟨ae, A4, c5, rfl, e0, e1, e2, e3, l4, g4⟩ := hB.at25 hlt'
    have hbr : b ≤ wr.heap.size := Nat.le_trans hb HX.out.b.size
    have HC := Aside0.mk (fun (W : World) (hw : Below wr.heap.size wr W) => (ih l[i] l'[i] (HZ.out _ (List.getElem_mem hlt)) W b A3 c4 A4 c5 (g3.ext (hw.mono hbr)) (g4.ext (hw.mono hbr)) (Nat.le_trans hbr hw.size) l3 l4).mono fun e w' => Tells.at hw)
    have HN := Aside0.mk (fun (h : l[i] = l'[i]) (W : World) (hw : Below wr.heap.size wr W) => HX.out.next hlt hlt' h hw (HX.out.k.next hw))
    have HS := Aside0.mk (HX.out.stop hlt hlt')
    clear hA hB g3 g4
    generalize l[i] = x at *
    generalize l'[i] = y at *
    go_wp2
    refine start_ (n := 12) (S := fun w' => w'.cell? ⟨w.heap.size, 3, none⟩ = some (.slice (some ad) l.length c) ∧ w'.cell? ⟨w.heap.size + 1, 3, none⟩ = some (.slice (some ae) l.length d) ∧ w'.cell? (ad.add (i * 4)) = some (.int .i64 x.f0) ∧ w'.cell? ⟨(ad.add (i * 4)).block, (ad.add (i * 4)).off + 1, none⟩ = some (.int .i64 x.f1) ∧ w'.cell? ⟨(ad.add (i * 4)).block, (ad.add (i * 4)).off + 2, none⟩ = some (.string x.f2) ∧ w'.cell? ⟨(ad.add (i * 4)).block, (ad.add (i * 4)).off + 3, none⟩ = some (.slice A3 x.f3.length c4) ∧ w'.cell? (ae.add (i * 4)) = some (.int .i64 y.f0) ∧ w'.cell? ⟨(ae.add (i * 4)).block, (ae.add (i * 4)).off + 1, none⟩ = some (.int .i64 y.f1) ∧ w'.cell? ⟨(ae.add (i * 4)).block, (ae.add (i * 4)).off + 2, none⟩ = some (.string y.f2) ∧ w'.cell? ⟨(ae.add (i * 4)).block, (ae.add (i * 4)).off + 3, none⟩ = some (.slice A4 y.f3.length c5)) (ds := [10]) #[false, false, false, false, false, false, false, false, false, false, false, false] (by kernel_rfl) rfl rfl ⟨x3, y3, d0, d1, d2, d3, e0, e1, e2, e3⟩ (fun hHeld => ?_)
    refine zq 0 (some 41) ?_
    refine zq 2 (some 43) ?_
    refine zq 5 (some 46) ?_
    refine zq 7 (some 48) ?_
    refine zu 1 (some 42) hHeld ?_
    refine zq 3 (some 44) ?_
    refine zu 4 (some 45) hHeld ?_
    refine zu 6 (some 47) hHeld ?_
    refine zq 8 (some 49) ?_
    refine zu 9 (some 50) hHeld ?_
    refine last_ (i := 10) (N := some 51) #[true, true, true, true, true, true, true, true, true, true, true, false] rfl rfl (by kernel_rfl) (by decide) (fun K hK => ?_)
    refine goes_ Tryz.func43 (by kernel_rfl) rfl #[.agg #[.int .i64 x.f0, .int .i64 x.f1, .string x.f2, .slice A3 x.f3.length c4], .agg #[.int .i64 y.f0, .int .i64 y.f1, .string y.f2, .slice A4 y.f3.length c5]] (by rfl) rfl rfl (by simp only [List.map_toArray, List.map_cons, List.map_nil]; rfl) ?_
    refine (HC.out _ ?hw).mono ?_
    case hw => repeat (with_reducible first | exact Below.refl _ _ | apply below_drew | apply pw_below_drewN | apply below_alloc)
    rintro e w5 ⟨r, rfl, h1, h2⟩
    have HR := Aside0.mk h1
    have HBL := Aside0.mk h2
    clear h1 h2
    refine ⟨_, rfl, ?_⟩
    refine hK.out _ _ ?_
    clear hK K
    refine norm_ (a' := ?_) ?_ ?_
    rotate_left
    ·show Act.put _ (some 51) _ = _
     simp only [Act.put, zla, zlb, zlc, i64_w, i32_w]
     rfl
    refine zq 11 (some 52) ?_
    refine done_ (by kernel_rfl) ?_
    cases r
    ·go_wp2
     go_ret
     exact Tells.no (fun h => HS.out (fun e => by have := HR.out.2 e; cases this) (congrArg S25.f3 h)) (HX.out.b.trans (HBL.out.mono HX.out.b.size))
    ·go_wp2
     go_roundw
     case rel => exact ⟨i + 1, by simp, HN.out (HR.out.1 rfl) _ HBL.out⟩
     case measure => simp [intOf]; omega
   ·have hir : ¬ (i : Int) < (l.length : Int) := by omega
    go_wp2
    go_ret
    exact Tells.yes (by rw [HX.out.done hlt H3.out]) HX.out.b
theorem S28.same {k : ByteArray} {v v' : S25} {l l' : List Int} : (⟨k, v, l⟩ : S28) = ⟨k, v', l'⟩ ↔ v = v' ∧ l = l' := by simp
set_option maxHeartbeats 8000000 in
theorem sameRecord_calls (x y : S28) (w : World) (b : Nat) (A4 : Option Addr) (c4 : Nat) (A5 : Option Addr) (c5 : Nat) (B4 : Option Addr) (e4 : Nat) (B5 : Option Addr) (e5 : Nat) (h1 : In k25 b w A4 x.f1.f3) (h2 : In (Kd.int .i64) b w A5 x.f2) (h3 : In k25 b w B4 y.f1.f3) (h4 : In (Kd.int .i64) b w B5 y.f2) (hb : b ≤ w.heap.size) (l1 : x.f1.f3.length ≤ c4) (l2 : x.f2.length ≤ c5) (l3 : y.f1.f3.length ≤ e4) (l4 : y.f2.length ≤ e5) :
  Calls Tryz.prog 18 #[.agg #[.string x.f0, .int .i64 x.f1.f0, .int .i64 x.f1.f1, .string x.f1.f2, .slice A4 x.f1.f3.length c4, .slice A5 x.f2.length c5], .agg #[.string y.f0, .int .i64 y.f1.f0, .int .i64 y.f1.f1, .string y.f1.f2, .slice B4 y.f1.f3.length e4, .slice B5 y.f2.length e5]] w (Tells (x = y) w) := by
 obtain ⟨k, v, l⟩ := x
 obtain ⟨k', v', l'⟩ := y
 dsimp only at *
 have HV := Aside0.mk (fun (W : World) (hw : Below w.heap.size w W) => sameValue_calls _ v v' (Nat.le_refl _) W b A4 c4 B4 e4 (h1.ext (hw.mono hb)) (h3.ext (hw.mono hb)) (Nat.le_trans hb hw.size) l1 l3)
 have HA := Aside0.mk h2
 have HB := Aside0.mk h4
 have hm : l.length ≤ 9223372036854775807 := h2.max
 have hm' : l'.length ≤ 9223372036854775807 := h4.max
 clear h1 h2 h3 h4
 have hu28 := Tryz.underlying27
 have hu25 := Tryz.underlying24
 by_cases c0 : k = k'
 case neg =>
  have ht : ¬ k.toList = k'.toList := fun h => c0 (text_inj h)
  go_enter Tryz.func18, Tryz.ntmps18
  go_wp2
  go_ret
  exact Tells.no (fun h => c0 (congrArg S28.f0 h)) (below_alloc (below_alloc (Below.refl _ _) _) _)
 subst c0
 generalize hq : l'.length = q at *
 have HQ := Aside0.mk hq
 have H0 := Aside0.mk (Two.start w 27 #[.string k, .int .i64 v.f0, .int .i64 v.f1, .string v.f2, .slice A4 v.f3.length c4, .slice A5 l.length c5] #[.string k, .int .i64 v'.f0, .int .i64 v'.f1, .string v'.f2, .slice B4 v'.f3.length e4, .slice B5 q e5])
 clear hq
 go_enter Tryz.func18, Tryz.ntmps18
 go_wp2_with fail
 refine (HV.out _ (below_alloc (below_alloc (Below.refl _ _) _) _)).mono ?_
 rintro e w5 ⟨r, rfl, h1, h2⟩
 have HR := Aside0.mk h1
 have HT := Aside0.mk (H0.out.next h2)
 have HBL := Aside0.mk ((below_alloc (below_alloc (Below.refl w.heap.size w) _) _).trans (h2.mono (by simp; omega)))
 clear h1 h2 H0 HV
 cases r with
 | false =>
  go_wp2
  go_ret
  exact Tells.no (fun h => by have := HR.out.2 (S28.same.1 h).1; cases this) HBL.out
 | true =>
  have x0 := blk_cell HT.out.1 0
  have x1 := blk_cell HT.out.1 1
  have x2 := blk_cell HT.out.1 2
  have x3 := blk_cell HT.out.1 3
  have x4 := blk_cell HT.out.1 4
  have x5 := blk_cell HT.out.1 5
  have fx0 := blk_frozen HT.out.1 0
  have fx1 := blk_frozen HT.out.1 1
  have fx2 := blk_frozen HT.out.1 2
  have fx3 := blk_frozen HT.out.1 3
  have fx4 := blk_frozen HT.out.1 4
  have fx5 := blk_frozen HT.out.1 5
  simp only [List.getElem?_toArray, List.getElem?_cons_succ, List.getElem?_cons_zero] at x0 x1 x2 x3 x4 x5
  have y0 := blk_cell HT.out.2 0
  have y1 := blk_cell HT.out.2 1
  have y2 := blk_cell HT.out.2 2
  have y3 := blk_cell HT.out.2 3
  have y4 := blk_cell HT.out.2 4
  have y5 := blk_cell HT.out.2 5
  have fy0 := blk_frozen HT.out.2 0
  have fy1 := blk_frozen HT.out.2 1
  have fy2 := blk_frozen HT.out.2 2
  have fy3 := blk_frozen HT.out.2 3
  have fy4 := blk_frozen HT.out.2 4
  have fy5 := blk_frozen HT.out.2 5
  simp only [List.getElem?_toArray, List.getElem?_cons_succ, List.getElem?_cons_zero] at y0 y1 y2 y3 y4 y5
  by_cases c3 : q = l.length
  case neg =>
   have hne : ¬ (l.length : Int) = (q : Int) := by omega
   go_wp2
   go_ret
   exact Tells.no (fun h => c3 (HQ.out.symm.trans (congrArg List.length (S28.same.1 h).2.symm))) HBL.out
  subst c3
  go_wp2
  go_loopw [5] (fun iv wr => SameE (Two w 27 #[.string k, .int .i64 v.f0, .int .i64 v.f1, .string v.f2, .slice A4 v.f3.length c4, .slice A5 l.length c5] #[.string k, .int .i64 v'.f0, .int .i64 v'.f1, .string v'.f2, .slice B4 v'.f3.length e4, .slice B5 l.length e5]) w l l' iv wr) (fun iv _ => l.length - (intOf iv).toNat)
  case atStart => exact SameI.start HBL.out HT.out
  case round =>
   clear x0 x1 x2 x3 x4 x5 y0 y1 y2 y3 y4 y5 fx0 fx1 fx2 fx3 fx4 fx5 fy0 fy1 fy2 fy3 fy4 fy5
   obtain ⟨i, rfl, HI⟩ := hrel
   have HX := Aside0.mk HI
   clear HI
   have x0 := blk_cell HX.out.k.1 0
   have x1 := blk_cell HX.out.k.1 1
   have x2 := blk_cell HX.out.k.1 2
   have x3 := blk_cell HX.out.k.1 3
   have x4 := blk_cell HX.out.k.1 4
   have x5 := blk_cell HX.out.k.1 5
   have fx0 := blk_frozen HX.out.k.1 0
   have fx1 := blk_frozen HX.out.k.1 1
   have fx2 := blk_frozen HX.out.k.1 2
   have fx3 := blk_frozen HX.out.k.1 3
   have fx4 := blk_frozen HX.out.k.1 4
   have fx5 := blk_frozen HX.out.k.1 5
   simp only [List.getElem?_toArray, List.getElem?_cons_succ, List.getElem?_cons_zero] at x0 x1 x2 x3 x4 x5
   have y0 := blk_cell HX.out.k.2 0
   have y1 := blk_cell HX.out.k.2 1
   have y2 := blk_cell HX.out.k.2 2
   have y3 := blk_cell HX.out.k.2 3
   have y4 := blk_cell HX.out.k.2 4
   have y5 := blk_cell HX.out.k.2 5
   have fy0 := blk_frozen HX.out.k.2 0
   have fy1 := blk_frozen HX.out.k.2 1
   have fy2 := blk_frozen HX.out.k.2 2
   have fy3 := blk_frozen HX.out.k.2 3
   have fy4 := blk_frozen HX.out.k.2 4
   have fy5 := blk_frozen HX.out.k.2 5
   simp only [List.getElem?_toArray, List.getElem?_cons_succ, List.getElem?_cons_zero] at y0 y1 y2 y3 y4 y5
   have hle := HX.out.le
   by_cases hlt : i < l.length
   ·have hlt' : i < l'.length := by rw [HQ.out]; exact hlt
    obtain ⟨ad, rfl, d0⟩ := (HA.out.ext (HX.out.b.mono hb)).atInt hlt
    obtain ⟨ae, rfl, e0⟩ := (HB.out.ext (HX.out.b.mono hb)).atInt hlt'
    have HN := Aside0.mk (fun (h : l[i] = l'[i]) (W : World) (hw : Below wr.heap.size wr W) => HX.out.next hlt hlt' h hw (HX.out.k.next hw))
    have HS := Aside0.mk (HX.out.stop hlt hlt')
    generalize l[i] = x at *
    generalize l'[i] = y at *
    go_wp2
    by_cases hxy : x = y
    ·subst hxy
     refine start_ (n := 11) (S := fun w' => w'.cell? ⟨w.heap.size, 5, none⟩ = some (.slice (some ad) l.length c5) ∧ w'.cell? ⟨w.heap.size + 1, 5, none⟩ = some (.slice (some ae) l.length e5) ∧ w'.cell? (ad.add i) = some (.int .i64 x) ∧ w'.cell? (ae.add i) = some (.int .i64 x)) (ds := []) #[false, false, false, false, false, false, false, false, false, false, false] (by kernel_rfl) rfl rfl ⟨x5, y5, d0, e0⟩ (fun hHeld => ?_)
     refine zq 0 (some 35) ?_
     refine zq 2 (some 37) ?_
     refine zq 5 (some 40) ?_
     refine zq 7 (some 42) ?_
     refine zu 1 (some 36) hHeld ?_
     refine zq 3 (some 38) ?_
     refine zu 4 (some 39) hHeld ?_
     refine zu 6 (some 41) hHeld ?_
     refine zq 8 (some 43) ?_
     refine zu 9 (some 44) hHeld ?_
     refine zq 10 (some 45) ?_
     refine done_ (by kernel_rfl) ?_
     go_wp2
     go_roundw
     case rel => exact ⟨i + 1, by simp, HN.out rfl _ (below_drew (Below.refl _ _))⟩
     case measure => simp [intOf]; omega
    ·skip
     refine start_ (n := 11) (S := fun w' => w'.cell? ⟨w.heap.size, 5, none⟩ = some (.slice (some ad) l.length c5) ∧ w'.cell? ⟨w.heap.size + 1, 5, none⟩ = some (.slice (some ae) l.length e5) ∧ w'.cell? (ad.add i) = some (.int .i64 x) ∧ w'.cell? (ae.add i) = some (.int .i64 y)) (ds := []) #[false, false, false, false, false, false, false, false, false, false, false] (by kernel_rfl) rfl rfl ⟨x5, y5, d0, e0⟩ (fun hHeld => ?_)
     refine zq 0 (some 35) ?_
     refine zq 2 (some 37) ?_
     refine zq 5 (some 40) ?_
     refine zq 7 (some 42) ?_
     refine zu 1 (some 36) hHeld ?_
     refine zq 3 (some 38) ?_
     refine zu 4 (some 39) hHeld ?_
     refine zu 6 (some 41) hHeld ?_
     refine zq 8 (some 43) ?_
     refine zu 9 (some 44) hHeld ?_
     refine zq 10 (some 45) ?_
     refine done_ (by kernel_rfl) ?_
     go_wp2
     go_ret
     exact Tells.no (fun h => HS.out hxy (S28.same.1 h).2) (below_drew HX.out.b)
   ·have hir : ¬ (i : Int) < (l.length : Int) := by omega
    go_wp2
    go_ret
    exact Tells.yes (by first | exact S28.same.2 ⟨HR.out.1 (by trivial), HX.out.done hlt HQ.out⟩ | exact ⟨HR.out.1 (by trivial), HX.out.done hlt HQ.out⟩) HX.out.b
end Go.Proofs.YthmkioodkldgbaaGreat.DK
/- value.CheckRecord, wire.fitRecords: the first fault; conditions: those in each theorem. -/
namespace Go.Proofs.YthmkioodkldgbaaGreat.DK
open Go.Proofs.YthmkioodkldgbaaGreat.PD
open Go.RowKit Go.Proofs.YthmkioodkldgbaaGreatW.PrintWords Go.Proofs.YthmkioodkldgbaaGreatW.PrintLast Go.Proofs.YthmkioodkldgbaaGreatW.PrintMore
set_option linter.unusedVariables false
set_option linter.unusedSimpArgs false
set_option maxRecDepth 100000
/-- The answer is r, nothing that was there has turned. -/
def Fault (w : World) (r : Int) (e : Ending) (w' : World) : Prop := e = .returned (.int .i64 r) ∧ Below w.heap.size w w'
theorem Fault.at {r : Int} {w w1 w' : World} {e : Ending} (hb : Below w.heap.size w w1) (h : Fault w1 r e w') : Fault w r e w' := ⟨h.1, hb.trans (h.2.mono hb.size)⟩
/-- What stands from i on has the fault q; K: what stays. -/
structure FltI (K : World → Prop) (w : World) (n : Nat) (F : Nat → Int) (q : Int) (i : Nat) (wr : World) : Prop where
 le : i ≤ n
 eq : F i = q
 b : Below w.heap.size w wr
 k : K wr
def FltE (K : World → Prop) (w : World) (n : Nat) (F : Nat → Int) (q : Int) (iv : Value) (wr : World) : Prop := ∃ i : Nat, iv = .int .i64 i ∧ FltI K w n F q i wr
theorem FltI.start {K : World → Prop} {w wr : World} {n : Nat} {F : Nat → Int} {q : Int} (h : F 0 = q) (hb : Below w.heap.size w wr) (hk : K wr) : FltE K w n F q (.int .i64 0) wr := ⟨0, rfl, Nat.zero_le _, h, hb, hk⟩
set_option maxHeartbeats 8000000 in
theorem CheckRecord_calls (x : S28) (w : World) (b : Nat) (A4 : Option Addr) (c4 : Nat) (A5 : Option Addr) (c5 : Nat) (h4 : In k25 b w A4 x.f1.f3) (h5 : In (Kd.int .i64) b w A5 x.f2) (hb : b ≤ w.heap.size) (l4 : x.f1.f3.length ≤ c4) :
  Calls Tryz.prog 58 #[.agg #[.string x.f0, .int .i64 x.f1.f0, .int .i64 x.f1.f1, .string x.f1.f2, .slice A4 x.f1.f3.length c4, .slice A5 x.f2.length c5]] w (Fault w (recC x)) := by
 obtain ⟨k, v, l⟩ := x
 dsimp only at *
 have HV := Aside0.mk (fun (W : World) (hw : Below w.heap.size w W) => value_Check.calls v.f0 v.f1 v.f2 A4 c4 v.f3 (chk v 0 0).2 W (h4.ext (hw.mono hb)).C l4 (by obtain ⟨_, _, _, _⟩ := v; rfl))
 have HA := Aside0.mk h5
 have hm : l.length ≤ 9223372036854775807 := h5.max
 clear h4 h5
 have hu28 := Tryz.underlying27
 have hu25 := Tryz.underlying24
 generalize hr : recC ⟨k, v, l⟩ = r
 unfold recC at hr
 dsimp only at hr
 have HQ := Aside0.mk hr
 clear hr
 by_cases c0 : 12 < k.size
 ·obtain rfl := (if_pos c0).symm.trans HQ.out
  go_enter Tryz.func58, Tryz.ntmps58
  go_wp2
  go_ret
  exact ⟨rfl, below_alloc (Below.refl _ _) _⟩
 replace HQ := Aside0.mk ((if_neg c0).symm.trans HQ.out)
 generalize (chk v 0 0).2 = q at *
 have H0 := Aside0.mk (heap_alloc_new w (.cells #[.string k, .int .i64 v.f0, .int .i64 v.f1, .string v.f2, .slice A4 v.f3.length c4, .slice A5 l.length c5] 27))
 go_enter Tryz.func58, Tryz.ntmps58
 go_wp2_with fail
 refine (HV.out _ (below_alloc (Below.refl _ _) _)).mono ?_
 rintro e w5 ⟨rfl, h2⟩
 have HT := Aside0.mk ((h2.block w.heap.size (by simp)).trans H0.out)
 have HBL := Aside0.mk ((below_alloc (Below.refl w.heap.size w) _).trans (h2.mono (by simp)))
 clear h2 H0 HV
 by_cases hq : q = 0
 case neg =>
  obtain rfl := (if_pos hq).symm.trans HQ.out
  have hq' : (q != 0) = true := bne_iff_ne.2 hq
  go_wp2
  go_ret
  exact ⟨rfl, HBL.out⟩
 subst hq
 replace HQ := Aside0.mk ((if_neg (by simp)).symm.trans HQ.out)
 have x0 := blk_cell HT.out 0
 have x1 := blk_cell HT.out 1
 have x2 := blk_cell HT.out 2
 have x3 := blk_cell HT.out 3
 have x4 := blk_cell HT.out 4
 have x5 := blk_cell HT.out 5
 have fx0 := blk_frozen HT.out 0
 have fx1 := blk_frozen HT.out 1
 have fx2 := blk_frozen HT.out 2
 have fx3 := blk_frozen HT.out 3
 have fx4 := blk_frozen HT.out 4
 have fx5 := blk_frozen HT.out 5
 simp only [List.getElem?_toArray, List.getElem?_cons_succ, List.getElem?_cons_zero] at x0 x1 x2 x3 x4 x5
 by_cases c3 : 3 < l.length
 ·obtain rfl := (if_pos c3).symm.trans HQ.out
  go_wp2
  go_ret
  exact ⟨rfl, HBL.out⟩
 have HP := Aside0.mk ((if_neg c3).symm.trans HQ.out)
 clear HQ
 go_wp2
 go_loopw [23] (fun iv wr => FltE (fun _ => True) w l.length (fun i => loopsC (l.drop i)) r iv wr) (fun iv _ => l.length - (intOf iv).toNat)
 case atStart => exact FltI.start (by rw [List.drop_zero]; exact HP.out) HBL.out trivial
 case round =>
  obtain ⟨i, rfl, HI⟩ := hrel
  have HX := Aside0.mk HI
  have hle := HI.le
  have heq := HI.eq
  clear HI
  by_cases hlt : i < l.length
  ·obtain ⟨ad, rfl, d0⟩ := (HA.out.ext (HX.out.b.mono hb)).atInt hlt
   rw [drop_cons hlt, loopsC] at heq
   generalize l[i] = n at *
   by_cases e1 : n < 0
   ·rw [if_pos (.inl e1)] at heq
    subst heq
    go_wp2
    go_ret
    exact ⟨rfl, HX.out.b⟩
   by_cases e2 : 9 < n
   ·rw [if_pos (.inr e2)] at heq
    subst heq
    go_wp2
    go_ret
    exact ⟨rfl, HX.out.b⟩
   rw [if_neg (by omega)] at heq
   have HEQ := Aside0.mk heq
   clear heq
   go_wp2
   go_roundw
   case rel => exact ⟨i + 1, by simp, hlt, HEQ.out, HX.out.b, trivial⟩
   case measure => simp [intOf]; omega
  ·skip
   rw [List.drop_of_length_le (by omega), loopsC] at heq
   subst heq
   have hir : ¬ (i : Int) < (l.length : Int) := by omega
   go_wp2
   go_ret
   exact ⟨rfl, HX.out.b⟩
set_option maxHeartbeats 8000000 in
theorem fitRecords_calls (l : List S28) (w : World) (b : Nat) (A : Option Addr) (c : Nat) (h : In k28 b w A l) (hb : b ≤ w.heap.size) :
  Calls Tryz.prog 93 #[.slice A l.length c] w (Fault w (recsC l)) := by
 have HA := Aside0.mk h
 have hm : l.length ≤ 9223372036854775807 := h.max
 clear h
 have hu28 := Tryz.underlying27
 unfold recsC
 by_cases c0 : 256 < l.length
 ·rw [if_pos c0]
  go_enter Tryz.func93, Tryz.ntmps93
  go_wp2
  go_ret
  exact ⟨rfl, Below.refl _ _⟩
 rw [if_neg c0]
 generalize hp : recsL l = p
 have HP := Aside0.mk hp
 clear hp
 go_enter Tryz.func93, Tryz.ntmps93
 go_wp2
 go_loopw [11] (fun iv wr => FltE (fun _ => True) w l.length (fun i => recsL (l.drop i)) p iv wr) (fun iv _ => l.length - (intOf iv).toNat)
 case atStart => exact FltI.start (by rw [List.drop_zero]; exact HP.out) (Below.refl _ _) trivial
 case round =>
  obtain ⟨i, rfl, HI⟩ := hrel
  have HX := Aside0.mk HI
  have hle := HI.le
  have heq := HI.eq
  clear HI
  by_cases hlt : i < l.length
  ·have hbr : b ≤ wr.heap.size := Nat.le_trans hb HX.out.b.size
   obtain ⟨ad, A4, c4, A5, c5, rfl, d0, d1, d2, d3, d4, d5, l4, l5, g4, g5⟩ := (HA.out.ext (HX.out.b.mono hb)).at28 hlt
   have HC := Aside0.mk (fun (W : World) (hw : Below wr.heap.size wr W) => (CheckRecord_calls l[i] W b A4 c4 A5 c5 (g4.ext (hw.mono hbr)) (g5.ext (hw.mono hbr)) (Nat.le_trans hbr hw.size) l4).mono fun e w' => Fault.at hw)
   rw [drop_cons hlt, recsL] at heq
   clear g4 g5 l4 l5
   generalize l[i] = x at *
   generalize recC x = q at *
   go_wp2_with fail
   refine (HC.out _ ?hw).mono ?_
   case hw => repeat (with_reducible first | exact Below.refl _ _ | apply below_drew | apply pw_below_drewN | apply below_alloc)
   rintro e w5 ⟨rfl, h2⟩
   have HBL := Aside0.mk h2
   clear h2
   by_cases hq : q = 0
   case neg =>
    rw [if_neg hq] at heq
    subst heq
    have hq' : (q != 0) = true := bne_iff_ne.2 hq
    go_wp2
    go_ret
    exact ⟨rfl, HX.out.b.trans (HBL.out.mono HX.out.b.size)⟩
   subst hq
   rw [if_pos rfl] at heq
   have HEQ := Aside0.mk heq
   clear heq
   go_wp2
   go_roundw
   case rel => exact ⟨i + 1, by simp, hlt, HEQ.out, HX.out.b.trans (HBL.out.mono HX.out.b.size), trivial⟩
   case measure => simp [intOf]; omega
  ·skip
   rw [List.drop_of_length_le (by omega), recsL] at heq
   subst heq
   have hir : ¬ (i : Int) < (l.length : Int) := by omega
   go_wp2
   go_ret
   exact ⟨rfl, HX.out.b⟩
end Go.Proofs.YthmkioodkldgbaaGreat.DK
