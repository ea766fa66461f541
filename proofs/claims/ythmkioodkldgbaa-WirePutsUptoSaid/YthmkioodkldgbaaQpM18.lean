/- The checks of records, states and segments, of the program and of the reference, in plain words; conditions: those in each theorem. (Plain Lean over the printed functions.) -/
import Derived.Test.YthmkioodkldgbaaQpM14
import Derived.Test.YthmkioodkldgbaaQpM08
import Derived.Test.YthmkioodkldgbaaQpM17
namespace Go.Proofs.Ythmkioodkldgbaa.DK
open Go.Proofs.Ythmkioodkldgbaa.PD
open Go.RowKit Go.Proofs.YthmkioodkldgbaaW.PrintWords Go.Proofs.YthmkioodkldgbaaW.PrintLast Go.Proofs.YthmkioodkldgbaaW.PrintMore
set_option linter.unusedVariables false
set_option linter.unusedSimpArgs false
theorem w64s {i n : Nat} (h : i < n) (hn : n ≤ 9223372036854775807) : wrap64 ((i : Int) + 1) = ((i + 1 : Nat) : Int) := by unfold wrap64; omega
theorem w64p {i : Nat} (h : 0 < i) (hn : i ≤ 9223372036854775807) : wrap64 ((i : Int) - 1) = ((i - 1 : Nat) : Int) := by unfold wrap64; omega
theorem rdI (l : List Int) (i : Nat) (h : i < l.length) : rd l (i : Int) = l[i] := getD_nat l _ i h
theorem rdS (l : List ByteArray) (i : Nat) (h : i < l.length) : rdOf ByteArray.empty l (i : Int) = l[i] := getD_nat l _ i h
theorem rd25 (l : List S25) (i : Nat) (h : i < l.length) : rd_T25 l (i : Int) = l[i] := getD_nat l _ i h
theorem rd121 (l : List S121) (i : Nat) (h : i < l.length) : rd_T121 l (i : Int) = l[i] := getD_nat l _ i h
theorem rd28 (l : List S28) (i : Nat) (h : i < l.length) : rd_T28 l (i : Int) = l[i] := getD_nat l _ i h
theorem drop_cons {α : Type} {l : List α} {i : Nat} (h : i < l.length) : l.drop i = l[i] :: l.drop (i + 1) := List.drop_eq_getElem_cons h
theorem vchk (v : S25) : value_Check.f v.f0 v.f1 v.f2 v.f3 = some (chk v 0 0).2 := by obtain ⟨a, b, c, d⟩ := v; rfl
theorem rchk (v : S25) : eddyref2_Check.f v.f0 v.f1 v.f2 v.f3 = some (chk v 0 0).2 := by obtain ⟨a, b, c, d⟩ := v; rfl
theorem ev_if {g : Nat → Option Int} {p q : Prop} [Decidable p] [Decidable q] {a b : Int} (h : Ev g (if p then a else b)) (e : p ↔ q) : Ev g (if q then a else b) := by
 by_cases hq : q
 ·rw [if_pos hq]; rwa [if_pos (e.2 hq)] at h
 ·rw [if_neg hq]; rwa [if_neg (fun hp => hq (e.1 hp))] at h
def loopsC : List Int → Int
 | [] => 0
 | n :: l => if n < 0 ∨ 9 < n then 25 else loopsC l
theorem vloops (l : List Int) (hl : l.length ≤ 9223372036854775807) : ∀ (d i : Nat), i + d = l.length → Ev (fun k => value_CheckRecord.l0 k l l.length i) (loopsC (l.drop i))
 | 0, i, h => by
  rw [List.drop_of_length_le (by omega)]
  exact Ev.step (f := fun _ => some 0) (fun k => by rw [value_CheckRecord.l0, if_neg (by omega)]) (Ev.now 0)
 | d + 1, i, h => by
  have hi : i < l.length := by omega
  have ih := vloops l hl d (i + 1) (by omega)
  rw [drop_cons hi, loopsC]
  by_cases hc : l[i] < 0 ∨ 9 < l[i]
  ·rw [if_pos hc]
   refine Ev.step (f := fun _ => some 25) (fun k => ?_) (Ev.now 25)
   rw [value_CheckRecord.l0, if_pos (by omega), if_pos (by omega), if_pos (by omega), rdI l i hi]
   by_cases h0 : l[i] < 0
   ·rw [if_pos h0]
   ·rw [if_neg h0, if_pos (by omega)]
  ·rw [if_neg hc]
   refine Ev.step (f := fun k => value_CheckRecord.l0 k l l.length ((i + 1 : Nat) : Int)) (fun k => ?_) ih
   rw [value_CheckRecord.l0, if_pos (by omega), if_pos (by omega), if_pos (by omega), rdI l i hi, if_neg (by omega), if_neg (by omega), w64s hi hl]
theorem rloops (a : ByteArray) (b c : Int) (t : ByteArray) (v : List S25) (l : List Int) (hl : l.length ≤ 9223372036854775807) : ∀ (d i : Nat), i + d = l.length → Ev (fun k => eddyref2_CheckRecord.l0 k i a b c t v l) (loopsC (l.drop i))
 | 0, i, h => by
  rw [List.drop_of_length_le (by omega)]
  exact Ev.step (f := fun _ => some 0) (fun k => by rw [eddyref2_CheckRecord.l0, if_neg (by omega)]) (Ev.now 0)
 | d + 1, i, h => by
  have hi : i < l.length := by omega
  have ih := rloops a b c t v l hl d (i + 1) (by omega)
  rw [drop_cons hi, loopsC]
  by_cases hc : l[i] < 0 ∨ 9 < l[i]
  ·rw [if_pos hc]
   refine Ev.step (f := fun _ => some 25) (fun k => ?_) (Ev.now 25)
   rw [eddyref2_CheckRecord.l0, if_pos (by omega), if_pos (by omega), rdI l i hi]
   by_cases h0 : l[i] < 0
   ·rw [if_pos h0]
   ·rw [if_neg h0, if_pos (by omega)]
  ·rw [if_neg hc]
   refine Ev.step (f := fun k => eddyref2_CheckRecord.l0 k ((i + 1 : Nat) : Int) a b c t v l) (fun k => ?_) ih
   rw [eddyref2_CheckRecord.l0, if_pos (by omega), if_pos (by omega), rdI l i hi, if_neg (by omega), if_neg (by omega), w64s hi hl]
/-- The first fault of a record. -/
def recC (x : S28) : Int := if 12 < x.f0.size then 24 else if (chk x.f1 0 0).2 ≠ 0 then (chk x.f1 0 0).2 else if 3 < x.f2.length then 25 else loopsC x.f2
theorem vrec (x : S28) (hl : x.f2.length ≤ 9223372036854775807) : Ev (fun k => value_CheckRecord.f k x.f0 x.f1.f0 x.f1.f1 x.f1.f2 x.f1.f3 x.f2) (recC x) := by
 unfold recC
 by_cases h1 : 12 < x.f0.size
 ·rw [if_pos h1]
  exact Ev.congr (f := fun _ => some 24) (fun k => by rw [value_CheckRecord.f, if_pos (by omega)]) (Ev.now 24)
 rw [if_neg h1]
 refine Ev.congr (f := fun k => (value_Check.f x.f1.f0 x.f1.f1 x.f1.f2 x.f1.f3).bind fun t => (if t = 0 then (if (x.f2.length : Int) > 3 then (some 25) else (value_CheckRecord.l0 k x.f2 (x.f2.length : Int) 0)) else (some t))) (fun k => by rw [value_CheckRecord.f, if_neg (by omega)]) ?_
 refine Ev.bind (g := fun _ => value_Check.f x.f1.f0 x.f1.f1 x.f1.f2 x.f1.f3) (a := (chk x.f1 0 0).2) ⟨0, fun k _ => vchk x.f1⟩ ?_
 by_cases h2 : (chk x.f1 0 0).2 = 0
 ·rw [if_neg (by omega)]
  by_cases h3 : 3 < x.f2.length
  ·rw [if_pos h3]
   exact Ev.congr (f := fun _ => some 25) (fun k => by rw [if_pos h2, if_pos (by omega)]) (Ev.now 25)
  ·rw [if_neg h3]
   exact Ev.congr (fun k => by rw [if_pos h2, if_neg (by omega)]; rfl) (vloops x.f2 hl x.f2.length 0 (by omega))
 ·rw [if_pos h2]
  exact Ev.congr (f := fun _ => some (chk x.f1 0 0).2) (fun k => by rw [if_neg h2]) (Ev.now _)
theorem rrec (x : S28) (hl : x.f2.length ≤ 9223372036854775807) : Ev (fun k => eddyref2_CheckRecord.f k x.f0 x.f1.f0 x.f1.f1 x.f1.f2 x.f1.f3 x.f2) (recC x) := by
 unfold recC
 by_cases h1 : 12 < x.f0.size
 ·rw [if_pos h1]
  exact Ev.congr (f := fun _ => some 24) (fun k => by rw [eddyref2_CheckRecord.f, if_pos (by omega)]) (Ev.now 24)
 rw [if_neg h1]
 refine Ev.congr (f := fun k => (eddyref2_Check.f x.f1.f0 x.f1.f1 x.f1.f2 x.f1.f3).bind fun t => (if t = 0 then (if (x.f2.length : Int) > 3 then (some 25) else (eddyref2_CheckRecord.l0 k 0 x.f0 x.f1.f0 x.f1.f1 x.f1.f2 x.f1.f3 x.f2)) else (some t))) (fun k => by rw [eddyref2_CheckRecord.f, if_neg (by omega)]) ?_
 refine Ev.bind (g := fun _ => eddyref2_Check.f x.f1.f0 x.f1.f1 x.f1.f2 x.f1.f3) (a := (chk x.f1 0 0).2) ⟨0, fun k _ => rchk x.f1⟩ ?_
 by_cases h2 : (chk x.f1 0 0).2 = 0
 ·rw [if_neg (by omega)]
  by_cases h3 : 3 < x.f2.length
  ·rw [if_pos h3]
   exact Ev.congr (f := fun _ => some 25) (fun k => by rw [if_pos h2, if_pos (by omega)]) (Ev.now 25)
  ·rw [if_neg h3]
   exact Ev.congr (fun k => by rw [if_pos h2, if_neg (by omega)]; rfl) (rloops _ _ _ _ _ x.f2 hl x.f2.length 0 (by omega))
 ·rw [if_pos h2]
  exact Ev.congr (f := fun _ => some (chk x.f1 0 0).2) (fun k => by rw [if_neg h2]) (Ev.now _)
/-- The first fault of some records. -/
def recsL : List S28 → Int
 | [] => 0
 | x :: l => if recC x = 0 then recsL l else recC x
def recsC (l : List S28) : Int := if 256 < l.length then 43 else recsL l
theorem vrecsL (l : List S28) (hl : l.length ≤ 9223372036854775807) (hx : ∀ x ∈ l, x.f2.length ≤ 9223372036854775807) : ∀ (d i : Nat), i + d = l.length → Ev (fun k => wire_fitRecords.l0 k l l.length i) (recsL (l.drop i))
 | 0, i, h => by
  rw [List.drop_of_length_le (by omega)]
  exact Ev.step (f := fun _ => some 0) (fun k => by rw [wire_fitRecords.l0, if_neg (by omega)]) (Ev.now 0)
 | d + 1, i, h => by
  have hi : i < l.length := by omega
  have ih := vrecsL l hl hx d (i + 1) (by omega)
  rw [drop_cons hi, recsL]
  refine Ev.step (f := fun k => (value_CheckRecord.f k l[i].f0 l[i].f1.f0 l[i].f1.f1 l[i].f1.f2 l[i].f1.f3 l[i].f2).bind fun t => (if t = 0 then (wire_fitRecords.l0 k l l.length ((i + 1 : Nat) : Int)) else (some t))) (fun k => ?_) (Ev.bind (vrec l[i] (hx _ (List.getElem_mem hi))) ?_)
  ·rw [wire_fitRecords.l0, if_pos (by omega), if_pos (by omega), if_pos (by omega), rd28 l i hi, w64s hi hl]
  ·by_cases h0 : recC l[i] = 0
   ·rw [if_pos h0]
    exact Ev.congr (fun k => by rw [if_pos h0]) ih
   ·rw [if_neg h0]
    exact Ev.congr (f := fun _ => some (recC l[i])) (fun k => by rw [if_neg h0]) (Ev.now _)
theorem rrecsL (l : List S28) (hl : l.length ≤ 9223372036854775807) (hx : ∀ x ∈ l, x.f2.length ≤ 9223372036854775807) : ∀ (d i : Nat), i + d = l.length → Ev (fun k => eddyref4_fitRecords.l0 k l i) (recsL (l.drop i))
 | 0, i, h => by
  rw [List.drop_of_length_le (by omega)]
  exact Ev.step (f := fun _ => some 0) (fun k => by rw [eddyref4_fitRecords.l0, if_neg (by omega)]) (Ev.now 0)
 | d + 1, i, h => by
  have hi : i < l.length := by omega
  have ih := rrecsL l hl hx d (i + 1) (by omega)
  rw [drop_cons hi, recsL]
  refine Ev.step (f := fun k => (eddyref2_CheckRecord.f k l[i].f0 l[i].f1.f0 l[i].f1.f1 l[i].f1.f2 l[i].f1.f3 l[i].f2).bind fun t => (if t = 0 then (eddyref4_fitRecords.l0 k l ((i + 1 : Nat) : Int)) else (some t))) (fun k => ?_) (Ev.bind (rrec l[i] (hx _ (List.getElem_mem hi))) ?_)
  ·rw [eddyref4_fitRecords.l0, if_pos (by omega), if_pos (by omega), rd28 l i hi, w64s hi hl]
  ·by_cases h0 : recC l[i] = 0
   ·rw [if_pos h0]
    exact Ev.congr (fun k => by rw [if_pos h0]) ih
   ·rw [if_neg h0]
    exact Ev.congr (f := fun _ => some (recC l[i])) (fun k => by rw [if_neg h0]) (Ev.now _)
theorem vrecs (l : List S28) (hl : l.length ≤ 9223372036854775807) (hx : ∀ x ∈ l, x.f2.length ≤ 9223372036854775807) : Ev (fun k => wire_fitRecords.f k l) (recsC l) := by
 unfold recsC
 by_cases h : 256 < l.length
 ·rw [if_pos h]
  exact Ev.congr (f := fun _ => some 43) (fun k => by rw [wire_fitRecords.f, if_pos (by omega)]) (Ev.now _)
 ·rw [if_neg h]
  exact Ev.congr (fun k => by rw [wire_fitRecords.f, if_neg (by omega)]; rfl) (vrecsL l hl hx l.length 0 (by omega))
theorem rrecs (l : List S28) (hl : l.length ≤ 9223372036854775807) (hx : ∀ x ∈ l, x.f2.length ≤ 9223372036854775807) : Ev (fun k => eddyref4_fitRecords.f k l) (recsC l) := by
 unfold recsC
 by_cases h : 256 < l.length
 ·rw [if_pos h]
  exact Ev.congr (f := fun _ => some 43) (fun k => by rw [eddyref4_fitRecords.f, if_pos (by omega)]) (Ev.now _)
 ·rw [if_neg h]
  exact Ev.congr (fun k => by rw [eddyref4_fitRecords.f, if_neg (by omega)]; rfl) (rrecsL l hl hx l.length 0 (by omega))
/-- The first fault of some values; of cells behind the cell q. -/
def valsC : List S25 → Int
 | [] => 0
 | v :: l => if (chk v 0 0).2 = 0 then valsC l else (chk v 0 0).2
def less (a b : ByteArray) : Bool := Op.bytesLess a.toList b.toList
def cellsL : Option ByteArray → List S121 → Int
 | _, [] => 0
 | q, x :: l => if 12 < x.f0.size then 24 else if (match q with | none => false | some q => !less q x.f0) = true then 27 else if 6 < x.f1.length then 27 else if valsC x.f1 = 0 then cellsL (some x.f0) l else valsC x.f1
theorem cellsL_nil (q : Option ByteArray) : cellsL q [] = 0 := by rw [cellsL.eq_def]
theorem cellsL_cons (q : Option ByteArray) (x : S121) (l : List S121) : cellsL q (x :: l) = if 12 < x.f0.size then 24 else if (match q with | none => false | some q => !less q x.f0) = true then 27 else if 6 < x.f1.length then 27 else if valsC x.f1 = 0 then cellsL (some x.f0) l else valsC x.f1 := by rw [cellsL.eq_def]
def stateC (n : Int) (l : List S121) : Int := if n < 0 ∨ 1073741824 < n then 26 else if 64 < l.length then 27 else cellsL none l
/-- The key ahead of the one at i. -/
def ahead (l : List S121) (i : Nat) : Option ByteArray := if h : 0 < i ∧ i - 1 < l.length then some (l[i - 1]'h.2).f0 else none
theorem vcells (n : Int) (l : List S121) (hl : l.length ≤ 9223372036854775807) (hx : ∀ x ∈ l, x.f1.length ≤ 9223372036854775807) : ∀ (d i : Nat), i + d = l.length → Ev (fun k => value_CheckState.l0 k l l.length i n l) (cellsL (ahead l i) (l.drop i))
 | 0, i, h => by
  rw [List.drop_of_length_le (by omega), cellsL_nil]
  exact Ev.step (f := fun _ => some 0) (fun k => by rw [value_CheckState.l0, if_neg (by omega)]) (Ev.now 0)
 | d + 1, i, h => by
  have hi : i < l.length := by omega
  have ih := vcells n l hl hx d (i + 1) (by omega)
  have ha : ahead l (i + 1) = some l[i].f0 := by unfold ahead; rw [dif_pos ⟨by omega, by omega⟩]; rfl
  rw [ha] at ih
  have vals : ∀ (d j : Nat), j + d = l[i].f1.length → Ev (fun k => value_CheckState.l1 k l l.length i l[i].f1 l[i].f1.length j n l) (if valsC (l[i].f1.drop j) = 0 then cellsL (some l[i].f0) (l.drop (i + 1)) else valsC (l[i].f1.drop j)) := by
   have hlv := hx l[i] (List.getElem_mem hi)
   intro d
   induction d with
   | zero =>
    intro j hj
    rw [List.drop_of_length_le (by omega), valsC, if_pos rfl]
    exact Ev.step (f := fun k => value_CheckState.l0 k l l.length ((i + 1 : Nat) : Int) n l) (fun k => by rw [value_CheckState.l1, if_neg (by omega), w64s hi hl]) ih
   | succ d ihd =>
    intro j hj
    have hjl : j < l[i].f1.length := by omega
    rw [drop_cons hjl, valsC]
    refine Ev.step (f := fun k => (value_Check.f (l[i].f1[j]).f0 (l[i].f1[j]).f1 (l[i].f1[j]).f2 (l[i].f1[j]).f3).bind fun t => (if t = 0 then (value_CheckState.l1 k l l.length i l[i].f1 l[i].f1.length ((j + 1 : Nat) : Int) n l) else (some t))) (fun k => by rw [value_CheckState.l1, if_pos (by omega), if_pos (by omega), if_pos (by omega), rd25 _ j hjl, w64s hjl hlv]) ?_
    refine Ev.bind (g := fun _ => value_Check.f (l[i].f1[j]).f0 (l[i].f1[j]).f1 (l[i].f1[j]).f2 (l[i].f1[j]).f3) ⟨0, fun k _ => vchk _⟩ ?_
    by_cases h0 : (chk (l[i].f1[j]) 0 0).2 = 0
    ·rw [if_pos h0]
     exact Ev.congr (fun k => by rw [if_pos h0]) (ihd (j + 1) (by omega))
    ·rw [if_neg h0, if_neg h0]
     exact Ev.congr (f := fun _ => some (chk (l[i].f1[j]) 0 0).2) (fun k => by rw [if_neg h0]) (Ev.now _)
  have j2 : ∀ b : Bool, Ev (fun k => value_CheckState.j2 k l l.length i b n l l[i].f0 l[i].f1) (if b = true then 27 else if 6 < l[i].f1.length then 27 else if valsC l[i].f1 = 0 then cellsL (some l[i].f0) (l.drop (i + 1)) else valsC l[i].f1) := by
   intro b
   by_cases hb : b = true
   ·rw [if_pos hb]
    exact Ev.step (f := fun _ => some 27) (fun k => by rw [value_CheckState.j2, if_pos hb]) (Ev.now _)
   ·rw [if_neg hb]
    by_cases h6 : 6 < l[i].f1.length
    ·rw [if_pos h6]
     exact Ev.step (f := fun _ => some 27) (fun k => by rw [value_CheckState.j2, if_neg hb, if_pos (by omega)]) (Ev.now _)
    ·rw [if_neg h6]
     exact Ev.step (fun k => by rw [value_CheckState.j2, if_neg hb, if_neg (by omega)]; rfl) (vals l[i].f1.length 0 (by omega))
  rw [drop_cons hi, cellsL_cons]
  by_cases h1 : 12 < l[i].f0.size
  ·rw [if_pos h1]
   exact Ev.step (f := fun _ => some 24) (fun k => by rw [value_CheckState.l0, if_pos (by omega), if_pos (by omega), if_pos (by omega), rd121 l i hi, if_pos (by omega)]) (Ev.now _)
  rw [if_neg h1]
  by_cases h2 : 0 < i
  ·have hp : i - 1 < l.length := by omega
   have hq : ahead l i = some (l[i - 1]).f0 := by unfold ahead; rw [dif_pos ⟨h2, hp⟩]
   rw [hq]
   exact Ev.step (fun k => by rw [value_CheckState.l0, if_pos (by omega), if_pos (by omega), if_pos (by omega), rd121 l i hi, if_neg (by omega), if_pos (by omega), w64p h2 (by omega), if_pos (by omega), if_pos (by omega), rd121 l (i - 1) hp]; rfl) (j2 (!less (l[i - 1]).f0 l[i].f0))
  ·have hq : ahead l i = none := by unfold ahead; rw [dif_neg (fun h => h2 h.1)]
   rw [hq]
   exact Ev.step (fun k => by rw [value_CheckState.l0, if_pos (by omega), if_pos (by omega), if_pos (by omega), rd121 l i hi, if_neg (by omega), if_neg (by omega)]) (j2 false)
theorem vstate (n : Int) (l : List S121) (hl : l.length ≤ 9223372036854775807) (hx : ∀ x ∈ l, x.f1.length ≤ 9223372036854775807) : Ev (fun k => value_CheckState.f k n l) (stateC n l) := by
 have h0 : Ev (fun k => value_CheckState.l0 k l l.length ((0 : Nat) : Int) n l) (cellsL none l) := vcells n l hl hx l.length 0 (by omega)
 have hj : ∀ b : Bool, Ev (fun k => value_CheckState.j0 k b n l) (if b = true then 26 else if 64 < l.length then 27 else cellsL none l) := by
  intro b
  by_cases hb : b = true
  ·rw [if_pos hb]
   exact Ev.step (f := fun _ => some 26) (fun k => by rw [value_CheckState.j0, if_pos hb]) (Ev.now _)
  ·rw [if_neg hb]
   by_cases h6 : 64 < l.length
   ·rw [if_pos h6]
    exact Ev.step (f := fun _ => some 27) (fun k => by rw [value_CheckState.j0, if_neg hb, if_pos (by omega)]) (Ev.now _)
   ·rw [if_neg h6]
    exact Ev.step (fun k => by rw [value_CheckState.j0, if_neg hb, if_neg (by omega)]; rfl) h0
 unfold stateC
 by_cases h1 : n < 0
 ·rw [if_pos (.inl h1)]
  exact Ev.congr (fun k => by rw [value_CheckState.f, if_pos h1]) (hj true)
 ·by_cases h2 : 1073741824 < n
  ·rw [if_pos (.inr h2)]
   exact Ev.congr (fun k => by rw [value_CheckState.f, if_neg h1, show decide (n > 1073741824) = true from decide_eq_true h2]) (hj true)
  ·rw [if_neg (by omega)]
   exact Ev.congr (fun k => by rw [value_CheckState.f, if_neg h1, show decide (n > 1073741824) = false from decide_eq_false h2]) (hj false)
theorem rcells (n : Int) (l : List S121) (hl : l.length ≤ 9223372036854775807) (hx : ∀ x ∈ l, x.f1.length ≤ 9223372036854775807) : ∀ (d i : Nat), i + d = l.length → Ev (fun k => eddyref2_CheckState.l0 k i n l) (cellsL (ahead l i) (l.drop i))
 | 0, i, h => by
  rw [List.drop_of_length_le (by omega), cellsL_nil]
  exact Ev.step (f := fun _ => some 0) (fun k => by rw [eddyref2_CheckState.l0, if_neg (by omega)]) (Ev.now 0)
 | d + 1, i, h => by
  have hi : i < l.length := by omega
  have ih := rcells n l hl hx d (i + 1) (by omega)
  have ha : ahead l (i + 1) = some l[i].f0 := by unfold ahead; rw [dif_pos ⟨by omega, by omega⟩]; rfl
  rw [ha] at ih
  have vals : ∀ (d j : Nat), j + d = l[i].f1.length → Ev (fun k => eddyref2_CheckState.l1 k i j n l l[i].f0 l[i].f1) (if valsC (l[i].f1.drop j) = 0 then cellsL (some l[i].f0) (l.drop (i + 1)) else valsC (l[i].f1.drop j)) := by
   have hlv := hx l[i] (List.getElem_mem hi)
   intro d
   induction d with
   | zero =>
    intro j hj
    rw [List.drop_of_length_le (by omega), valsC, if_pos rfl]
    exact Ev.step (f := fun k => eddyref2_CheckState.l0 k ((i + 1 : Nat) : Int) n l) (fun k => by rw [eddyref2_CheckState.l1, if_neg (by omega), w64s hi hl]) ih
   | succ d ihd =>
    intro j hj
    have hjl : j < l[i].f1.length := by omega
    rw [drop_cons hjl, valsC]
    refine Ev.step (f := fun k => (eddyref2_Check.f (l[i].f1[j]).f0 (l[i].f1[j]).f1 (l[i].f1[j]).f2 (l[i].f1[j]).f3).bind fun t => (if t = 0 then (eddyref2_CheckState.l1 k i ((j + 1 : Nat) : Int) n l l[i].f0 l[i].f1) else (some t))) (fun k => by rw [eddyref2_CheckState.l1, if_pos (by omega), if_pos (by omega), rd25 _ j hjl, w64s hjl hlv]) ?_
    refine Ev.bind (g := fun _ => eddyref2_Check.f (l[i].f1[j]).f0 (l[i].f1[j]).f1 (l[i].f1[j]).f2 (l[i].f1[j]).f3) ⟨0, fun k _ => rchk _⟩ ?_
    by_cases h0 : (chk (l[i].f1[j]) 0 0).2 = 0
    ·rw [if_pos h0]
     exact Ev.congr (fun k => by rw [if_pos h0]) (ihd (j + 1) (by omega))
    ·rw [if_neg h0, if_neg h0]
     exact Ev.congr (f := fun _ => some (chk (l[i].f1[j]) 0 0).2) (fun k => by rw [if_neg h0]) (Ev.now _)
  have j2 : ∀ b : Bool, Ev (fun k => eddyref2_CheckState.j2 k i b n l l[i].f0 l[i].f1) (if b = true then 27 else if 6 < l[i].f1.length then 27 else if valsC l[i].f1 = 0 then cellsL (some l[i].f0) (l.drop (i + 1)) else valsC l[i].f1) := by
   intro b
   by_cases hb : b = true
   ·rw [if_pos hb]
    exact Ev.step (f := fun _ => some 27) (fun k => by rw [eddyref2_CheckState.j2, if_pos hb]) (Ev.now _)
   ·rw [if_neg hb]
    by_cases h6 : 6 < l[i].f1.length
    ·rw [if_pos h6]
     exact Ev.step (f := fun _ => some 27) (fun k => by rw [eddyref2_CheckState.j2, if_neg hb, if_pos (by omega)]) (Ev.now _)
    ·rw [if_neg h6]
     exact Ev.step (fun k => by rw [eddyref2_CheckState.j2, if_neg hb, if_neg (by omega)]; rfl) (vals l[i].f1.length 0 (by omega))
  rw [drop_cons hi, cellsL_cons]
  by_cases h1 : 12 < l[i].f0.size
  ·rw [if_pos h1]
   exact Ev.step (f := fun _ => some 24) (fun k => by rw [eddyref2_CheckState.l0, if_pos (by omega), if_pos (by omega), rd121 l i hi, if_pos (by omega)]) (Ev.now _)
  rw [if_neg h1]
  by_cases h2 : 0 < i
  ·have hp : i - 1 < l.length := by omega
   have hq : ahead l i = some (l[i - 1]).f0 := by unfold ahead; rw [dif_pos ⟨h2, hp⟩]
   rw [hq]
   exact Ev.step (fun k => by rw [eddyref2_CheckState.l0, if_pos (by omega), if_pos (by omega), rd121 l i hi, if_neg (by omega), if_pos (by omega), w64p h2 (by omega), if_pos (by omega), if_pos (by omega), rd121 l (i - 1) hp]; rfl) (j2 (!less (l[i - 1]).f0 l[i].f0))
  ·have hq : ahead l i = none := by unfold ahead; rw [dif_neg (fun h => h2 h.1)]
   rw [hq]
   exact Ev.step (fun k => by rw [eddyref2_CheckState.l0, if_pos (by omega), if_pos (by omega), rd121 l i hi, if_neg (by omega), if_neg (by omega)]) (j2 false)
theorem rstate (n : Int) (l : List S121) (hl : l.length ≤ 9223372036854775807) (hx : ∀ x ∈ l, x.f1.length ≤ 9223372036854775807) : Ev (fun k => eddyref2_CheckState.f k n l) (stateC n l) := by
 have h0 : Ev (fun k => eddyref2_CheckState.l0 k ((0 : Nat) : Int) n l) (cellsL none l) := rcells n l hl hx l.length 0 (by omega)
 have hj : ∀ b : Bool, Ev (fun k => eddyref2_CheckState.j0 k b n l) (if b = true then 26 else if 64 < l.length then 27 else cellsL none l) := by
  intro b
  by_cases hb : b = true
  ·rw [if_pos hb]
   exact Ev.step (f := fun _ => some 26) (fun k => by rw [eddyref2_CheckState.j0, if_pos hb]) (Ev.now _)
  ·rw [if_neg hb]
   by_cases h6 : 64 < l.length
   ·rw [if_pos h6]
    exact Ev.step (f := fun _ => some 27) (fun k => by rw [eddyref2_CheckState.j0, if_neg hb, if_pos (by omega)]) (Ev.now _)
   ·rw [if_neg h6]
    exact Ev.step (fun k => by rw [eddyref2_CheckState.j0, if_neg hb, if_neg (by omega)]; rfl) h0
 unfold stateC
 by_cases h1 : n < 0
 ·rw [if_pos (.inl h1)]
  exact Ev.congr (fun k => by rw [eddyref2_CheckState.f, if_pos h1]) (hj true)
 ·by_cases h2 : 1073741824 < n
  ·rw [if_pos (.inr h2)]
   exact Ev.congr (fun k => by rw [eddyref2_CheckState.f, if_neg h1, show decide (n > 1073741824) = true from decide_eq_true h2]) (hj true)
  ·rw [if_neg (by omega)]
   exact Ev.congr (fun k => by rw [eddyref2_CheckState.f, if_neg h1, show decide (n > 1073741824) = false from decide_eq_false h2]) (hj false)
/-- Of keys that are gone. -/
def goneL : Option ByteArray → List ByteArray → Int
 | _, [] => 0
 | q, x :: l => if 12 < x.size then 24 else if (match q with | none => false | some q => !less q x) = true then 42 else goneL (some x) l
theorem goneL_nil (q : Option ByteArray) : goneL q [] = 0 := by rw [goneL.eq_def]
theorem goneL_cons (q : Option ByteArray) (x : ByteArray) (l : List ByteArray) : goneL q (x :: l) = if 12 < x.size then 24 else if (match q with | none => false | some q => !less q x) = true then 42 else goneL (some x) l := by rw [goneL.eq_def]
def goneC (l : List ByteArray) : Int := if 64 < l.length then 43 else goneL none l
def aheadK (l : List ByteArray) (i : Nat) : Option ByteArray := if h : 0 < i ∧ i - 1 < l.length then some (l[i - 1]'h.2) else none
theorem vgone (n : Int) (c : List S121) (l : List ByteArray) (hl : l.length ≤ 9223372036854775807) : ∀ (d i : Nat), i + d = l.length → Ev (fun k => wire_fitDelta.l0 k l l.length i n c l) (goneL (aheadK l i) (l.drop i))
 | 0, i, h => by
  rw [List.drop_of_length_le (by omega), goneL_nil]
  exact Ev.step (f := fun _ => some 0) (fun k => by rw [wire_fitDelta.l0, if_neg (by omega)]) (Ev.now 0)
 | d + 1, i, h => by
  have hi : i < l.length := by omega
  have ih := vgone n c l hl d (i + 1) (by omega)
  have ha : aheadK l (i + 1) = some l[i] := by unfold aheadK; rw [dif_pos ⟨by omega, by omega⟩]; rfl
  rw [ha] at ih
  rw [drop_cons hi, goneL_cons]
  by_cases h1 : 12 < l[i].size
  ·rw [if_pos h1]
   exact Ev.step (f := fun _ => some 24) (fun k => by rw [wire_fitDelta.l0, if_pos (by omega), if_pos (by omega), if_pos (by omega), rdS l i hi, if_pos (by omega)]) (Ev.now _)
  rw [if_neg h1]
  by_cases h2 : 0 < i
  ·have hp : i - 1 < l.length := by omega
   have hq : aheadK l i = some l[i - 1] := by unfold aheadK; rw [dif_pos ⟨h2, hp⟩]
   rw [hq]
   by_cases h3 : less l[i - 1] l[i] = true
   ·simp only [h3, Bool.not_true, Bool.false_eq_true, if_false]
    exact Ev.step (fun k => by rw [wire_fitDelta.l0, if_pos (by omega), if_pos (by omega), if_pos (by omega), rdS l i hi, if_neg (by omega), if_pos (by omega), w64p h2 (by omega), if_pos (by omega), if_pos (by omega), rdS l (i - 1) hp, if_pos (show Op.bytesLess l[i - 1].toList l[i].toList = true from h3), w64s hi hl]) ih
   ·rw [if_pos (by simpa using h3)]
    exact Ev.step (f := fun _ => some 42) (fun k => by rw [wire_fitDelta.l0, if_pos (by omega), if_pos (by omega), if_pos (by omega), rdS l i hi, if_neg (by omega), if_pos (by omega), w64p h2 (by omega), if_pos (by omega), if_pos (by omega), rdS l (i - 1) hp, if_neg (show ¬ Op.bytesLess l[i - 1].toList l[i].toList = true from h3)]) (Ev.now _)
  ·have hq : aheadK l i = none := by unfold aheadK; rw [dif_neg (fun h => h2 h.1)]
   rw [hq]
   simp only [Bool.false_eq_true, if_false]
   exact Ev.step (fun k => by rw [wire_fitDelta.l0, if_pos (by omega), if_pos (by omega), if_pos (by omega), rdS l i hi, if_neg (by omega), if_neg (by omega), w64s hi hl]) ih
theorem rgone  (l : List ByteArray) (hl : l.length ≤ 9223372036854775807) : ∀ (d i : Nat), i + d = l.length → Ev (fun k => eddyref4_fitGone.l0 k l i ) (goneL (aheadK l i) (l.drop i))
 | 0, i, h => by
  rw [List.drop_of_length_le (by omega), goneL_nil]
  exact Ev.step (f := fun _ => some 0) (fun k => by rw [eddyref4_fitGone.l0, if_neg (by omega)]) (Ev.now 0)
 | d + 1, i, h => by
  have hi : i < l.length := by omega
  have ih := rgone l hl d (i + 1) (by omega)
  have ha : aheadK l (i + 1) = some l[i] := by unfold aheadK; rw [dif_pos ⟨by omega, by omega⟩]; rfl
  rw [ha] at ih
  rw [drop_cons hi, goneL_cons]
  by_cases h1 : 12 < l[i].size
  ·rw [if_pos h1]
   exact Ev.step (f := fun _ => some 24) (fun k => by rw [eddyref4_fitGone.l0, if_pos (by omega), if_pos (by omega), rdS l i hi, if_pos (by omega)]) (Ev.now _)
  rw [if_neg h1]
  by_cases h2 : 0 < i
  ·have hp : i - 1 < l.length := by omega
   have hq : aheadK l i = some l[i - 1] := by unfold aheadK; rw [dif_pos ⟨h2, hp⟩]
   rw [hq]
   by_cases h3 : less l[i - 1] l[i] = true
   ·simp only [h3, Bool.not_true, Bool.false_eq_true, if_false]
    exact Ev.step (fun k => by rw [eddyref4_fitGone.l0, if_pos (by omega), if_pos (by omega), rdS l i hi, if_neg (by omega), if_pos (by omega), w64p h2 (by omega), if_pos (by omega), if_pos (by omega), rdS l (i - 1) hp, if_pos (show Op.bytesLess l[i - 1].toList l[i].toList = true from h3), w64s hi hl]) ih
   ·rw [if_pos (by simpa using h3)]
    exact Ev.step (f := fun _ => some 42) (fun k => by rw [eddyref4_fitGone.l0, if_pos (by omega), if_pos (by omega), rdS l i hi, if_neg (by omega), if_pos (by omega), w64p h2 (by omega), if_pos (by omega), if_pos (by omega), rdS l (i - 1) hp, if_neg (show ¬ Op.bytesLess l[i - 1].toList l[i].toList = true from h3)]) (Ev.now _)
  ·have hq : aheadK l i = none := by unfold aheadK; rw [dif_neg (fun h => h2 h.1)]
   rw [hq]
   simp only [Bool.false_eq_true, if_false]
   exact Ev.step (fun k => by rw [eddyref4_fitGone.l0, if_pos (by omega), if_pos (by omega), rdS l i hi, if_neg (by omega), if_neg (by omega), w64s hi hl]) ih
theorem vdelta (n : Int) (c : List S121) (l : List ByteArray) (hc : c.length ≤ 9223372036854775807) (hx : ∀ x ∈ c, x.f1.length ≤ 9223372036854775807) (hl : l.length ≤ 9223372036854775807) : Ev (fun k => wire_fitDelta.f k n c l) (if stateC n c = 0 then goneC l else stateC n c) := by
 refine Ev.congr (f := fun k => (value_CheckState.f k n c).bind fun t => (if t = 0 then (if (l.length : Int) > 64 then (some 43) else (wire_fitDelta.l0 k l (l.length : Int) 0 n c l)) else (some t))) (fun k => by rw [wire_fitDelta.f]) (Ev.bind (vstate n c hc hx) ?_)
 by_cases h0 : stateC n c = 0
 ·rw [if_pos h0]
  unfold goneC
  by_cases h6 : 64 < l.length
  ·rw [if_pos h6]
   exact Ev.congr (f := fun _ => some 43) (fun k => by rw [if_pos h0, if_pos (by omega)]) (Ev.now _)
  ·rw [if_neg h6]
   exact Ev.congr (fun k => by rw [if_pos h0, if_neg (by omega)]; rfl) (vgone n c l hl l.length 0 (by omega))
 ·rw [if_neg h0]
  exact Ev.congr (f := fun _ => some (stateC n c)) (fun k => by rw [if_neg h0]) (Ev.now _)
theorem rgoneC (l : List ByteArray) (hl : l.length ≤ 9223372036854775807) : Ev (fun k => eddyref4_fitGone.f k l) (goneC l) := by
 unfold goneC
 by_cases h6 : 64 < l.length
 ·rw [if_pos h6]
  exact Ev.congr (f := fun _ => some 43) (fun k => by rw [eddyref4_fitGone.f, if_pos (by omega)]) (Ev.now _)
 ·rw [if_neg h6]
  exact Ev.congr (fun k => by rw [eddyref4_fitGone.f, if_neg (by omega)]; rfl) (rgone l hl l.length 0 (by omega))
/-- The first fault of some logs, then of what waits. -/
def logsL : List (List S28) → List S28 → Int
 | [], p => recsC p
 | x :: l, p => if recsC x = 0 then logsL l p else recsC x
def logsC (l : List (List S28)) (p : List S28) : Int := if 4 < l.length then 43 else logsL l p
def noDelta (s : Seg) : Prop := s.sum = 0 ∧ s.dnum = 0 ∧ s.set.length = 0 ∧ s.gone.length = 0
def noState (s : Seg) : Prop := s.snum = 0 ∧ s.cells.length = 0
instance (s : Seg) : Decidable (noDelta s) := by unfold noDelta; infer_instance
instance (s : Seg) : Decidable (noState s) := by unfold noState; infer_instance
def bodyC (s : Seg) : Int := if s.base = 0 then stateC s.snum s.cells else if stateC s.dnum s.set = 0 then goneC s.gone else stateC s.dnum s.set
def segC (s : Seg) : Int :=
 if s.id < 0 ∨ 9999 < s.id ∨ s.task < 0 ∨ 12 ≤ s.task ∨ s.base < 0 ∨ 9999 < s.base then 43
 else if (s.base = 0 ∧ ¬ noDelta s) ∨ (0 < s.base ∧ ¬ noState s) then 41
 else if bodyC s = 0 then logsC s.logs s.pend else bodyC s
/-- Its lists are no longer than a memory is. -/
structure Seg.Short (s : Seg) : Prop where
 cells : s.cells.length ≤ 9223372036854775807
 cellx : ∀ x ∈ s.cells, x.f1.length ≤ 9223372036854775807
 set : s.set.length ≤ 9223372036854775807
 setx : ∀ x ∈ s.set, x.f1.length ≤ 9223372036854775807
 gone : s.gone.length ≤ 9223372036854775807
 logs : s.logs.length ≤ 9223372036854775807
 log : ∀ l ∈ s.logs, l.length ≤ 9223372036854775807
 recx : ∀ l ∈ s.logs, ∀ x ∈ l, x.f2.length ≤ 9223372036854775807
 pend : s.pend.length ≤ 9223372036854775807
 pendx : ∀ x ∈ s.pend, x.f2.length ≤ 9223372036854775807
theorem rdL7 (l : List (List S28)) (i : Nat) (h : i < l.length) : rd_L7 l (i : Int) = l[i] := getD_nat l _ i h
def vl0 (s : Seg) (k : Nat) (i : Int) : Option Int := wire_fitSegment.l0 k s.logs s.logs.length i s.id s.task s.base s.sum s.snum s.cells s.dnum s.set s.gone s.logs s.pend
def rl0 (s : Seg) (k : Nat) (i : Int) : Option Int := eddyref4_fitSegment.l0 k i s.id s.task s.base s.sum s.snum s.cells s.dnum s.set s.gone s.logs s.pend
theorem vlogs (s : Seg) (hs : s.Short) : ∀ (d i : Nat), i + d = s.logs.length → Ev (fun k => vl0 s k i) (logsL (s.logs.drop i) s.pend)
 | 0, i, h => by
  rw [List.drop_of_length_le (by omega), logsL]
  exact Ev.step (f := fun k => (wire_fitRecords.f k s.pend).bind fun t => some t) (fun k => by rw [vl0, wire_fitSegment.l0, if_neg (by omega)]) (Ev.bind (vrecs s.pend hs.pend hs.pendx) (Ev.now _))
 | d + 1, i, h => by
  have hi : i < s.logs.length := by omega
  have ih := vlogs s hs d (i + 1) (by omega)
  rw [drop_cons hi, logsL]
  refine Ev.step (f := fun k => (wire_fitRecords.f k s.logs[i]).bind fun t => (if t = 0 then (vl0 s k ((i + 1 : Nat) : Int)) else (some t))) (fun k => ?_) (Ev.bind (vrecs s.logs[i] (hs.log _ (List.getElem_mem hi)) (hs.recx _ (List.getElem_mem hi))) ?_)
  ·rw [vl0, wire_fitSegment.l0, if_pos (by omega), if_pos (by omega), if_pos (by omega), rdL7 _ i hi, w64s hi hs.logs]; rfl
  ·by_cases h0 : recsC s.logs[i] = 0
   ·rw [if_pos h0]
    exact Ev.congr (fun k => by rw [if_pos h0]) ih
   ·rw [if_neg h0]
    exact Ev.congr (f := fun _ => some (recsC s.logs[i])) (fun k => by rw [if_neg h0]) (Ev.now _)
theorem rlogs (s : Seg) (hs : s.Short) : ∀ (d i : Nat), i + d = s.logs.length → Ev (fun k => rl0 s k i) (logsL (s.logs.drop i) s.pend)
 | 0, i, h => by
  rw [List.drop_of_length_le (by omega), logsL]
  exact Ev.step (f := fun k => (eddyref4_fitRecords.f k s.pend).bind fun t => some t) (fun k => by rw [rl0, eddyref4_fitSegment.l0, if_neg (by omega)]) (Ev.bind (rrecs s.pend hs.pend hs.pendx) (Ev.now _))
 | d + 1, i, h => by
  have hi : i < s.logs.length := by omega
  have ih := rlogs s hs d (i + 1) (by omega)
  rw [drop_cons hi, logsL]
  refine Ev.step (f := fun k => (eddyref4_fitRecords.f k s.logs[i]).bind fun t => (if t = 0 then (rl0 s k ((i + 1 : Nat) : Int)) else (some t))) (fun k => ?_) (Ev.bind (rrecs s.logs[i] (hs.log _ (List.getElem_mem hi)) (hs.recx _ (List.getElem_mem hi))) ?_)
  ·rw [rl0, eddyref4_fitSegment.l0, if_pos (by omega), if_pos (by omega), rdL7 _ i hi, w64s hi hs.logs]; rfl
  ·by_cases h0 : recsC s.logs[i] = 0
   ·rw [if_pos h0]
    exact Ev.congr (fun k => by rw [if_pos h0]) ih
   ·rw [if_neg h0]
    exact Ev.congr (f := fun _ => some (recsC s.logs[i])) (fun k => by rw [if_neg h0]) (Ev.now _)
theorem vseg (s : Seg) (hs : s.Short) : Ev (fun k => wire_fitSegment.f k s.id s.task s.base s.sum s.snum s.cells s.dnum s.set s.gone s.logs s.pend) (segC s) := by
 have j5 : ∀ e : Int, Ev (fun k => wire_fitSegment.j5 k e s.id s.task s.base s.sum s.snum s.cells s.dnum s.set s.gone s.logs s.pend) (if e = 0 then logsC s.logs s.pend else e) := by
  intro e
  by_cases h0 : e = 0
  ·rw [if_pos h0]
   unfold logsC
   by_cases h4 : 4 < s.logs.length
   ·rw [if_pos h4]
    exact Ev.step (f := fun _ => some 43) (fun k => by rw [wire_fitSegment.j5, if_pos h0, if_pos (by omega)]) (Ev.now _)
   ·rw [if_neg h4]
    exact Ev.step (f := fun k => vl0 s k ((0 : Nat) : Int)) (fun k => by rw [wire_fitSegment.j5, if_pos h0, if_neg (by omega)]; rfl) (vlogs s hs s.logs.length 0 (by omega))
  ·rw [if_neg h0]
   exact Ev.step (f := fun _ => some e) (fun k => by rw [wire_fitSegment.j5, if_neg h0]) (Ev.now _)
 have j4 : ∀ b : Bool, Ev (fun k => wire_fitSegment.j4 k b s.id s.task s.base s.sum s.snum s.cells s.dnum s.set s.gone s.logs s.pend) (if b = true then 41 else if bodyC s = 0 then logsC s.logs s.pend else bodyC s) := by
  intro b
  by_cases hb : b = true
  ·rw [if_pos hb]
   exact Ev.step (f := fun _ => some 41) (fun k => by rw [wire_fitSegment.j4, if_pos hb]) (Ev.now _)
  rw [if_neg hb]
  unfold bodyC
  by_cases hz : s.base = 0
  ·simp only [if_pos hz]
   exact Ev.step (fun k => by rw [wire_fitSegment.j4, if_neg hb, if_pos hz]) (Ev.bind (vstate s.snum s.cells hs.cells hs.cellx) (j5 _))
  ·simp only [if_neg hz]
   exact Ev.step (fun k => by rw [wire_fitSegment.j4, if_neg hb, if_neg hz]) (Ev.bind (vdelta s.dnum s.set s.gone hs.set hs.setx hs.gone) (j5 _))
 have j3 : ∀ a b : Bool, Ev (fun k => wire_fitSegment.j3 k a b s.id s.task s.base s.sum s.snum s.cells s.dnum s.set s.gone s.logs s.pend) (if b = true ∨ (0 < s.base ∧ a = false) then 41 else if bodyC s = 0 then logsC s.logs s.pend else bodyC s) := by
  intro a b
  by_cases hb : b = true
  ·rw [if_pos (.inl hb)]
   exact Ev.step (fun k => by rw [wire_fitSegment.j3, if_pos hb]) (by have h := j4 b; rwa [if_pos hb] at h)
  ·by_cases hp : 0 < s.base
   ·exact Ev.step (fun k => by rw [wire_fitSegment.j3, if_neg hb, if_pos (by omega)]) (ev_if (j4 (!a)) (by simp [hb, hp]))
   ·have h := j4 false
    rw [if_neg (by simp)] at h
    rw [if_neg (by simp [hb, hp])]
    exact Ev.step (fun k => by rw [wire_fitSegment.j3, if_neg hb, if_neg (by omega)]) h
 have j2 : ∀ a b : Bool, Ev (fun k => wire_fitSegment.j2 k a b s.id s.task s.base s.sum s.snum s.cells s.dnum s.set s.gone s.logs s.pend) (if (s.base = 0 ∧ a = false) ∨ (0 < s.base ∧ b = false) then 41 else if bodyC s = 0 then logsC s.logs s.pend else bodyC s) := by
  intro a b
  by_cases hz : s.base = 0
  ·exact Ev.step (fun k => by rw [wire_fitSegment.j2, if_pos hz]) (ev_if (j3 b (!a)) (by simp [hz]))
  ·exact Ev.step (fun k => by rw [wire_fitSegment.j2, if_neg hz]) (ev_if (j3 b false) (by simp [hz]))
 have j1 : ∀ a : Bool, Ev (fun k => wire_fitSegment.j1 k a s.id s.task s.base s.sum s.snum s.cells s.dnum s.set s.gone s.logs s.pend) (if (s.base = 0 ∧ a = false) ∨ (0 < s.base ∧ ¬ noState s) then 41 else if bodyC s = 0 then logsC s.logs s.pend else bodyC s) := by
  intro a
  unfold noState
  by_cases h4 : s.snum = 0
  ·exact Ev.step (fun k => by rw [wire_fitSegment.j1, if_pos h4]) (ev_if (j2 a ((s.cells.length : Int) == 0)) (by simp [h4]))
  ·exact Ev.step (fun k => by rw [wire_fitSegment.j1, if_neg h4]) (ev_if (j2 a false) (by simp [h4]))
 have j0 : ∀ b : Bool, Ev (fun k => wire_fitSegment.j0 k b s.id s.task s.base s.sum s.snum s.cells s.dnum s.set s.gone s.logs s.pend) (if b = true then 43 else if (s.base = 0 ∧ ¬ noDelta s) ∨ (0 < s.base ∧ ¬ noState s) then 41 else if bodyC s = 0 then logsC s.logs s.pend else bodyC s) := by
  intro b
  by_cases hb : b = true
  ·rw [if_pos hb]
   exact Ev.step (f := fun _ => some 43) (fun k => by rw [wire_fitSegment.j0, if_pos hb]) (Ev.now _)
  rw [if_neg hb]
  unfold noDelta
  by_cases h3 : s.sum = 0
  ·by_cases h6 : s.dnum = 0
   ·by_cases h7 : s.set.length = 0
    ·exact Ev.step (fun k => by rw [wire_fitSegment.j0, if_neg hb, if_pos h3, if_pos h6, if_pos (by omega)]) (ev_if (j1 ((s.gone.length : Int) == 0)) (by simp [h3, h6, h7]))
    ·exact Ev.step (fun k => by rw [wire_fitSegment.j0, if_neg hb, if_pos h3, if_pos h6, if_neg (by omega)]) (ev_if (j1 false) (by simp [h7]))
   ·exact Ev.step (fun k => by rw [wire_fitSegment.j0, if_neg hb, if_pos h3, if_neg h6]) (ev_if (j1 false) (by simp [h6]))
  ·exact Ev.step (fun k => by rw [wire_fitSegment.j0, if_neg hb, if_neg h3]) (ev_if (j1 false) (by simp [h3]))
 unfold segC
 have jt := j0 true
 rw [if_pos rfl] at jt
 by_cases c1 : s.id < 0
 ·rw [if_pos (by omega)]
  exact Ev.congr (fun k => by rw [wire_fitSegment.f, if_pos c1]) jt
 by_cases c2 : 9999 < s.id
 ·rw [if_pos (by omega)]
  exact Ev.congr (fun k => by rw [wire_fitSegment.f, if_neg c1, if_pos (by omega)]) jt
 by_cases c3 : s.task < 0
 ·rw [if_pos (by omega)]
  exact Ev.congr (fun k => by rw [wire_fitSegment.f, if_neg c1, if_neg (by omega), if_pos c3]) jt
 by_cases c4 : 12 ≤ s.task
 ·rw [if_pos (by omega)]
  exact Ev.congr (fun k => by rw [wire_fitSegment.f, if_neg c1, if_neg (by omega), if_neg c3, if_pos (by omega)]) jt
 by_cases c5 : s.base < 0
 ·rw [if_pos (by omega)]
  exact Ev.congr (fun k => by rw [wire_fitSegment.f, if_neg c1, if_neg (by omega), if_neg c3, if_neg (by omega), if_pos c5]) jt
 have h := j0 (decide (s.base > 9999))
 have e : (decide (s.base > 9999) = true) = (s.id < 0 ∨ 9999 < s.id ∨ s.task < 0 ∨ 12 ≤ s.task ∨ s.base < 0 ∨ 9999 < s.base) := by
  simp only [decide_eq_true_eq, eq_iff_iff]; omega
 simp only [e] at h
 exact Ev.congr (fun k => by rw [wire_fitSegment.f, if_neg c1, if_neg (by omega), if_neg c3, if_neg (by omega), if_neg c5]) h
theorem rout (a b : Int) : eddyref4_out.f a b = some (decide (a < 0 ∨ b < a)) := by
 unfold eddyref4_out.f
 by_cases h : a < 0
 ·rw [if_pos h]; simp [h]
 ·rw [if_neg h]; simp [h]
theorem rseg (s : Seg) (hs : s.Short) : Ev (fun k => eddyref4_fitSegment.f k s.id s.task s.base s.sum s.snum s.cells s.dnum s.set s.gone s.logs s.pend) (segC s) := by
 have j4 : ∀ e : Int, Ev (fun k => eddyref4_fitSegment.j4 k e s.id s.task s.base s.sum s.snum s.cells s.dnum s.set s.gone s.logs s.pend) (if e = 0 then logsC s.logs s.pend else e) := by
  intro e
  by_cases h0 : e = 0
  ·rw [if_pos h0]
   unfold logsC
   by_cases h4 : 4 < s.logs.length
   ·rw [if_pos h4]
    exact Ev.step (f := fun _ => some 43) (fun k => by rw [eddyref4_fitSegment.j4, if_pos h0, if_pos (by omega)]) (Ev.now _)
   ·rw [if_neg h4]
    exact Ev.step (f := fun k => rl0 s k ((0 : Nat) : Int)) (fun k => by rw [eddyref4_fitSegment.j4, if_pos h0, if_neg (by omega)]; rfl) (rlogs s hs s.logs.length 0 (by omega))
  ·rw [if_neg h0]
   exact Ev.step (f := fun _ => some e) (fun k => by rw [eddyref4_fitSegment.j4, if_neg h0]) (Ev.now _)
 by_cases hb0 : s.base < 0
 ·have jt : Ev (fun k => eddyref4_fitSegment.j0 k true s.id s.task s.base s.sum s.snum s.cells s.dnum s.set s.gone s.logs s.pend) 43 := Ev.step (f := fun _ => some 43) (fun k => by rw [eddyref4_fitSegment.j0, if_pos rfl]) (Ev.now _)
  unfold segC
  rw [if_pos (by omega)]
  refine Ev.congr (fun k => by rw [eddyref4_fitSegment.f, rout, rout, rout]) ?_
  refine Ev.congr (f := fun k => eddyref4_fitSegment.j0 k true s.id s.task s.base s.sum s.snum s.cells s.dnum s.set s.gone s.logs s.pend) (fun k => ?_) jt
  simp only [Option.bind_some]
  split
  ·rfl
  split
  ·rfl
  rw [show decide (s.base < 0 ∨ 9999 < s.base) = true from decide_eq_true (.inl hb0)]
 have j3 : ∀ b : Bool, Ev (fun k => eddyref4_fitSegment.j3 k b s.id s.task s.base s.sum s.snum s.cells s.dnum s.set s.gone s.logs s.pend s.dnum s.set s.gone) (if b = true then 41 else if bodyC s = 0 then logsC s.logs s.pend else bodyC s) := by
  intro b
  by_cases hb : b = true
  ·rw [if_pos hb]
   exact Ev.step (f := fun _ => some 41) (fun k => by rw [eddyref4_fitSegment.j3, if_pos hb]) (Ev.now _)
  rw [if_neg hb]
  unfold bodyC
  refine Ev.step (fun k => by rw [eddyref4_fitSegment.j3, if_neg hb]) (Ev.bind (rstate s.snum s.cells hs.cells hs.cellx) ?_)
  by_cases hz : s.base = 0
  ·simp only [if_pos hz]
   exact Ev.congr (fun k => by rw [if_neg (by omega)]) (j4 _)
  ·simp only [if_neg hz]
   refine Ev.congr (fun k => by rw [if_pos (by omega)]) (Ev.bind (rstate s.dnum s.set hs.set hs.setx) ?_)
   by_cases h0 : stateC s.dnum s.set = 0
   ·simp only [if_pos h0]
    exact Ev.bind (rgoneC s.gone hs.gone) (j4 _)
   ·simp only [if_neg h0]
    have h := j4 (stateC s.dnum s.set)
    simp only [if_neg h0] at h ⊢
    exact h
 have j2 : ∀ a b : Bool, Ev (fun k => eddyref4_fitSegment.j2 k a b s.id s.task s.base s.sum s.snum s.cells s.dnum s.set s.gone s.logs s.pend s.dnum s.set s.gone) (if (s.base = 0 ∧ ¬ (a = true ∧ s.sum = 0)) ∨ (0 < s.base ∧ b = false) then 41 else if bodyC s = 0 then logsC s.logs s.pend else bodyC s) := by
  intro a b
  by_cases hz : s.base = 0
  ·by_cases ha : a = true
   ·by_cases hm : s.sum = 0
    ·exact Ev.step (fun k => by rw [eddyref4_fitSegment.j2, if_pos hz, if_pos ha, if_pos hm, if_neg (by omega)]) (ev_if (j3 false) (by simp [hz, ha, hm]))
    ·exact Ev.step (fun k => by rw [eddyref4_fitSegment.j2, if_pos hz, if_pos ha, if_neg hm]) (ev_if (j3 true) (by simp [hz, ha, hm]))
   ·exact Ev.step (fun k => by rw [eddyref4_fitSegment.j2, if_pos hz, if_neg ha]) (ev_if (j3 true) (by simp [hz, ha]))
  ·exact Ev.step (fun k => by rw [eddyref4_fitSegment.j2, if_neg hz, if_pos (by omega)]) (ev_if (j3 (!b)) (by have : 0 < s.base := (by omega); simp [hz, this]))
 have j1 : ∀ a : Bool, Ev (fun k => eddyref4_fitSegment.j1 k a s.id s.task s.base s.sum s.snum s.cells s.dnum s.set s.gone s.logs s.pend s.dnum s.set s.gone) (if (s.base = 0 ∧ ¬ (a = true ∧ s.sum = 0)) ∨ (0 < s.base ∧ ¬ noState s) then 41 else if bodyC s = 0 then logsC s.logs s.pend else bodyC s) := by
  intro a
  unfold noState
  by_cases h4 : s.snum = 0
  ·exact Ev.step (fun k => by rw [eddyref4_fitSegment.j1, if_pos h4]) (ev_if (j2 a ((s.cells.length : Int) == 0)) (by simp [h4]))
  ·exact Ev.step (fun k => by rw [eddyref4_fitSegment.j1, if_neg h4]) (ev_if (j2 a false) (by simp [h4]))
 have j0 : ∀ b : Bool, Ev (fun k => eddyref4_fitSegment.j0 k b s.id s.task s.base s.sum s.snum s.cells s.dnum s.set s.gone s.logs s.pend) (if b = true then 43 else if (s.base = 0 ∧ ¬ noDelta s) ∨ (0 < s.base ∧ ¬ noState s) then 41 else if bodyC s = 0 then logsC s.logs s.pend else bodyC s) := by
  intro b
  by_cases hb : b = true
  ·rw [if_pos hb]
   exact Ev.step (f := fun _ => some 43) (fun k => by rw [eddyref4_fitSegment.j0, if_pos hb]) (Ev.now _)
  rw [if_neg hb]
  unfold noDelta
  by_cases h6 : s.dnum = 0
  ·by_cases h7 : s.set.length = 0
   ·exact Ev.step (fun k => by rw [eddyref4_fitSegment.j0, if_neg hb, if_pos h6, if_pos (by omega)]) (ev_if (j1 ((s.gone.length : Int) == 0)) (by
     by_cases h8 : s.gone.length = 0 <;> simp [h6, h7, h8]))
   ·exact Ev.step (fun k => by rw [eddyref4_fitSegment.j0, if_neg hb, if_pos h6, if_neg (by omega)]) (ev_if (j1 false) (by simp [h7]))
  ·exact Ev.step (fun k => by rw [eddyref4_fitSegment.j0, if_neg hb, if_neg h6]) (ev_if (j1 false) (by simp [h6]))
 unfold segC
 refine Ev.congr (fun k => by rw [eddyref4_fitSegment.f, rout, rout, rout]) ?_
 refine Ev.congr (f := fun k => eddyref4_fitSegment.j0 k (decide (s.id < 0 ∨ 9999 < s.id ∨ s.task < 0 ∨ 12 ≤ s.task ∨ s.base < 0 ∨ 9999 < s.base)) s.id s.task s.base s.sum s.snum s.cells s.dnum s.set s.gone s.logs s.pend) (fun k => ?_) (ev_if (j0 _) (by simp))
 simp only [Option.bind_some, decide_eq_true_eq]
 split
 ·rename_i h
  rw [show decide (s.id < 0 ∨ 9999 < s.id ∨ s.task < 0 ∨ 12 ≤ s.task ∨ s.base < 0 ∨ 9999 < s.base) = true from decide_eq_true (by omega)]
 split
 ·rename_i h h'
  rw [show decide (s.id < 0 ∨ 9999 < s.id ∨ s.task < 0 ∨ 12 ≤ s.task ∨ s.base < 0 ∨ 9999 < s.base) = true from decide_eq_true (by omega)]
 ·rename_i h h'
  congr 1
  rw [decide_eq_decide]
  omega
end Go.Proofs.Ythmkioodkldgbaa.DK
