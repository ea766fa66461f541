/- eddylaw4.put, putRef; conditions: those in each theorem. -/
import Derived.Test.YthmkioodkldgbaaGreatQcM14
import Derived.Test.YthmkioodkldgbaaGreatQcM04
import Derived.Test.YthmkioodkldgbaaGreatQcM06
import Derived.Test.YthmkioodkldgbaaGreatQcM12
namespace Go.Proofs.YthmkioodkldgbaaGreat.DK
open Go.Proofs.YthmkioodkldgbaaGreat.PD
open Go.RowKit Go.Proofs.YthmkioodkldgbaaGreatW.PrintWords Go.Proofs.YthmkioodkldgbaaGreatW.PrintLast Go.Proofs.YthmkioodkldgbaaGreatW.PrintMore
set_option linter.unusedVariables false
set_option linter.unusedSimpArgs false
set_option maxRecDepth 100000
/-- One of the five things. -/
structure Thg where
 kind : Int
 r : S28
 sn : Int
 sc : List S121
 g : Seg
 mi : Int
 ms : Int
 mr : List S108
 oa : Int
 ox : S28
/-- Its numbers are such. -/
structure Thg.Ok (t : Thg) : Prop where
 r : okS t.r.f1
 sc : ∀ x ∈ t.sc, okL x.f1
 g : t.g.Ok
 ms : 0 ≤ t.ms ∧ t.ms ≤ 4294967295
 mr : ∀ x ∈ t.mr, 0 ≤ x.f1 ∧ x.f1 ≤ 4294967295
 ox : okS t.ox.f1
/-- Its lists are read in w0. -/
structure ThIn (w0 : World) (t : Thg) (a1 a2 a3 a4 a5 a6 a7 a8 a9 a10 a11 : Option Addr) (c1 c2 c3 c4 c5 c6 c7 c8 c9 c10 c11 : Nat) : Prop where
 i1 : k25.C w0 a1 t.r.f1.f3.length t.r.f1.f3
 i2 : (Kd.int .i64).C w0 a2 t.r.f2.length t.r.f2
 i3 : k121.C w0 a3 t.sc.length t.sc
 i4 : k121.C w0 a4 t.g.cells.length t.g.cells
 i5 : k121.C w0 a5 t.g.set.length t.g.set
 i6 : Kd.string.C w0 a6 t.g.gone.length t.g.gone
 i7 : (Kd.slice 27 k28).C w0 a7 t.g.logs.length t.g.logs
 i8 : k28.C w0 a8 t.g.pend.length t.g.pend
 i9 : k108.C w0 a9 t.mr.length t.mr
 i10 : k25.C w0 a10 t.ox.f1.f3.length t.ox.f1.f3
 i11 : (Kd.int .i64).C w0 a11 t.ox.f2.length t.ox.f2
 l1 : t.r.f1.f3.length ≤ c1
 l2 : t.r.f2.length ≤ c2
 l3 : t.sc.length ≤ c3
 l4 : t.g.cells.length ≤ c4
 l5 : t.g.set.length ≤ c5
 l6 : t.g.gone.length ≤ c6
 l7 : t.g.logs.length ≤ c7
 l8 : t.g.pend.length ≤ c8
 l9 : t.mr.length ≤ c9
 l10 : t.ox.f1.f3.length ≤ c10
 l11 : t.ox.f2.length ≤ c11
theorem cells_short {w : World} {A : Option Addr} {l : List S121} (h : k121.C w A l.length l) : ∀ x ∈ l, x.f1.length ≤ 9223372036854775807 := fun x hx => by
 obtain ⟨i, hi, rfl⟩ := List.mem_iff_getElem.1 hx
 obtain ⟨_, _, _, _, _, _, _, g1⟩ := at_T121 h (i : Int) (by omega) (by omega)
 rw [show rd_T121 l (i : Int) = l[i] from getD_nat l _ i hi] at g1
 exact g1.2.1
theorem recs_short {w : World} {A : Option Addr} {l : List S28} (h : k28.C w A l.length l) : ∀ x ∈ l, x.f2.length ≤ 9223372036854775807 := fun x hx => by
 obtain ⟨i, hi, rfl⟩ := List.mem_iff_getElem.1 hx
 obtain ⟨_, _, _, _, _, _, _, _, _, _, _, _, _, _, _, g5⟩ := at_T28 h (i : Int) (by omega) (by omega)
 rw [show rd_T28 l (i : Int) = l[i] from getD_nat l _ i hi] at g5
 exact g5.2.1
theorem ThIn.short {w0 : World} {t : Thg} {a1 a2 a3 a4 a5 a6 a7 a8 a9 a10 a11 : Option Addr} {c1 c2 c3 c4 c5 c6 c7 c8 c9 c10 c11 : Nat} (h : ThIn w0 t a1 a2 a3 a4 a5 a6 a7 a8 a9 a10 a11 c1 c2 c3 c4 c5 c6 c7 c8 c9 c10 c11) : t.g.Short :=
 ⟨h.i4.2.1, cells_short h.i4, h.i5.2.1, cells_short h.i5, h.i6.2.1, h.i7.2.1, fun l hl => by
   obtain ⟨i, hi, rfl⟩ := List.mem_iff_getElem.1 hl
   obtain ⟨_, _, _, _, _, _, g1⟩ := slice_at h.i7 hi
   exact g1.2.1, fun l hl => by
   obtain ⟨i, hi, rfl⟩ := List.mem_iff_getElem.1 hl
   obtain ⟨_, _, _, _, _, _, g1⟩ := slice_at h.i7 hi
   exact recs_short g1, h.i8.2.1, recs_short h.i8⟩
theorem ThIn.below {w0 w1 : World} {t : Thg} {a1 a2 a3 a4 a5 a6 a7 a8 a9 a10 a11 : Option Addr} {c1 c2 c3 c4 c5 c6 c7 c8 c9 c10 c11 : Nat} (h : ThIn w0 t a1 a2 a3 a4 a5 a6 a7 a8 a9 a10 a11 c1 c2 c3 c4 c5 c6 c7 c8 c9 c10 c11) (hb : Below w0.heap.size w0 w1) : ThIn w1 t a1 a2 a3 a4 a5 a6 a7 a8 a9 a10 a11 c1 c2 c3 c4 c5 c6 c7 c8 c9 c10 c11 :=
 ⟨Kd.C_below h.i1 hb, Kd.C_below h.i2 hb, Kd.C_below h.i3 hb, Kd.C_below h.i4 hb, Kd.C_below h.i5 hb, Kd.C_below h.i6 hb, Kd.C_below h.i7 hb, Kd.C_below h.i8 hb, Kd.C_below h.i9 hb, Kd.C_below h.i10 hb, Kd.C_below h.i11 hb, h.l1, h.l2, h.l3, h.l4, h.l5, h.l6, h.l7, h.l8, h.l9, h.l10, h.l11⟩
/-- Why a thing has no bytes; its bytes. -/
def putC (t : Thg) : Int := if t.kind = 2 then stateC t.sn t.sc else if t.kind = 3 then segC t.g else if t.kind = 4 then manC t.mi t.mr else if t.kind = 5 then rowC t.oa t.ox else recC t.r
def putB (t : Thg) : List Int := if t.kind = 2 then encSt t.sn t.sc else if t.kind = 3 then encSeg t.g else if t.kind = 4 then encMan t.mi t.ms t.mr else if t.kind = 5 then encOut t.oa t.ox else encR t.r
theorem Put.at {w w1 : World} {r : Int} {zs : List Int} {e : Ending} {w' : World} (hb : Below w.heap.size w w1) (h : Put w1 r zs e w') : Put w r zs e w' := by
 obtain ⟨u, h1, h2, h3⟩ := h
 exact ⟨u, h1, h2.lower hb.size, hb.trans (h3.mono hb.size)⟩
set_option maxHeartbeats 8000000 in
theorem put_calls (w : World) (t : Thg) (a1 a2 a3 a4 a5 a6 a7 a8 a9 a10 a11 : Option Addr) (c1 c2 c3 c4 c5 c6 c7 c8 c9 c10 c11 : Nat) (hi : ThIn w t a1 a2 a3 a4 a5 a6 a7 a8 a9 a10 a11 c1 c2 c3 c4 c5 c6 c7 c8 c9 c10 c11) (ho : t.Ok) :
  Calls Tryz.prog 10 #[.agg #[.int .i64 t.kind, .string t.r.f0, .int .i64 t.r.f1.f0, .int .i64 t.r.f1.f1, .string t.r.f1.f2, .slice a1 t.r.f1.f3.length c1, .slice a2 t.r.f2.length c2, .int .i64 t.sn, .slice a3 t.sc.length c3, .int .i64 t.g.id, .int .i64 t.g.task, .int .i64 t.g.base, .int .u32 t.g.sum, .int .i64 t.g.snum, .slice a4 t.g.cells.length c4, .int .i64 t.g.dnum, .slice a5 t.g.set.length c5, .slice a6 t.g.gone.length c6, .slice a7 t.g.logs.length c7, .slice a8 t.g.pend.length c8, .int .i64 t.mi, .int .u32 t.ms, .slice a9 t.mr.length c9, .int .i64 t.oa, .string t.ox.f0, .int .i64 t.ox.f1.f0, .int .i64 t.ox.f1.f1, .string t.ox.f1.f2, .slice a10 t.ox.f1.f3.length c10, .slice a11 t.ox.f2.length c11]] w (Put w (putC t) (putB t)) := by
 have HI := Aside0.mk hi
 have HO := Aside0.mk ho
 have HJ := Aside0.mk (fun (W : World) (hb : Below w.heap.size w W) => hi.below hb)
 clear hi ho
 unfold putC putB
 by_cases hk : t.kind = 2
 ·skip
  rw [if_pos hk, if_pos hk]
  obtain ⟨kd, r, sn, sc, gg, mi, ms, mr, oa, ox⟩ := t
  dsimp only at *
  subst hk
  go_enter Tryz.func10, Tryz.ntmps10
  go_wp2_with fail
  refine (PutState_calls _ sn sc a3 c3 (HJ.out _ ?hd).i3 HI.out.l3 (cells_short HI.out.i3) HO.out.sc).mono ?_
  case hd => repeat (with_reducible first | exact Below.refl _ _ | apply below_drew | apply pw_below_drewN | apply below_alloc)
  intro e w1 hp
  obtain ⟨u, rfl, h1, h2⟩ := hp.at (w := w) (by repeat (with_reducible first | exact Below.refl _ _ | apply below_drew | apply pw_below_drewN | apply below_alloc))
  have HR := Aside0.mk h1
  have HB := Aside0.mk h2
  clear h1 h2 hp
  go_wp2_with fail
  refine (eddylaw4_num.calls _ _ _ rfl).mono ?_
  rintro e w2 ⟨rfl, ⟨⟨nd, rfl⟩⟩⟩
  go_wp2
  go_ret2
  exact ⟨u, rfl, HR.out.drewN nd, pw_below_drewN HB.out nd⟩
 rw [if_neg hk, if_neg hk]
 have h2 := hk
 clear hk
 by_cases hk : t.kind = 3
 ·skip
  rw [if_pos hk, if_pos hk]
  obtain ⟨kd, r, sn, sc, gg, mi, ms, mr, oa, ox⟩ := t
  dsimp only at *
  subst hk
  go_enter Tryz.func10, Tryz.ntmps10
  go_wp2_with fail
  refine (PutSegment_calls _ gg a4 a5 a6 a7 a8 c4 c5 c6 c7 c8 (HJ.out _ ?hd).i4 (HJ.out _ ?hd).i5 (HJ.out _ ?hd).i6 (HJ.out _ ?hd).i7 (HJ.out _ ?hd).i8 HI.out.l4 HI.out.l5 HI.out.l6 HI.out.l7 HI.out.l8 HI.out.short HO.out.g).mono ?_
  case hd => repeat (with_reducible first | exact Below.refl _ _ | apply below_drew | apply pw_below_drewN | apply below_alloc)
  intro e w1 hp
  obtain ⟨u, rfl, h1, h2⟩ := hp.at (w := w) (by repeat (with_reducible first | exact Below.refl _ _ | apply below_drew | apply pw_below_drewN | apply below_alloc))
  have HR := Aside0.mk h1
  have HB := Aside0.mk h2
  clear h1 h2 hp
  go_wp2_with fail
  refine (eddylaw4_num.calls _ _ _ rfl).mono ?_
  rintro e w2 ⟨rfl, ⟨⟨nd, rfl⟩⟩⟩
  go_wp2
  go_ret2
  exact ⟨u, rfl, HR.out.drewN nd, pw_below_drewN HB.out nd⟩
 rw [if_neg hk, if_neg hk]
 have h3 := hk
 clear hk
 by_cases hk : t.kind = 4
 ·skip
  rw [if_pos hk, if_pos hk]
  obtain ⟨kd, r, sn, sc, gg, mi, ms, mr, oa, ox⟩ := t
  dsimp only at *
  subst hk
  go_enter Tryz.func10, Tryz.ntmps10
  go_wp2_with fail
  refine (PutManifest_calls _ mi ms mr a9 c9 (HJ.out _ ?hd).i9 HI.out.l9 HO.out.ms HO.out.mr).mono ?_
  case hd => repeat (with_reducible first | exact Below.refl _ _ | apply below_drew | apply pw_below_drewN | apply below_alloc)
  intro e w1 hp
  obtain ⟨u, rfl, h1, h2⟩ := hp.at (w := w) (by repeat (with_reducible first | exact Below.refl _ _ | apply below_drew | apply pw_below_drewN | apply below_alloc))
  have HR := Aside0.mk h1
  have HB := Aside0.mk h2
  clear h1 h2 hp
  go_wp2_with fail
  refine (eddylaw4_num.calls _ _ _ rfl).mono ?_
  rintro e w2 ⟨rfl, ⟨⟨nd, rfl⟩⟩⟩
  go_wp2
  go_ret2
  exact ⟨u, rfl, HR.out.drewN nd, pw_below_drewN HB.out nd⟩
 rw [if_neg hk, if_neg hk]
 have h4 := hk
 clear hk
 by_cases hk : t.kind = 5
 ·skip
  rw [if_pos hk, if_pos hk]
  obtain ⟨kd, r, sn, sc, gg, mi, ms, mr, oa, ox⟩ := t
  dsimp only at *
  subst hk
  go_enter Tryz.func10, Tryz.ntmps10
  go_wp2_with fail
  refine (PutRow_calls _ oa ox a10 c10 a11 c11 (HJ.out _ ?hd).i10 HI.out.l10 (HJ.out _ ?hd).i11 HI.out.l11 HO.out.ox).mono ?_
  case hd => repeat (with_reducible first | exact Below.refl _ _ | apply below_drew | apply pw_below_drewN | apply below_alloc)
  intro e w1 hp
  obtain ⟨u, rfl, h1, h2⟩ := hp.at (w := w) (by repeat (with_reducible first | exact Below.refl _ _ | apply below_drew | apply pw_below_drewN | apply below_alloc))
  have HR := Aside0.mk h1
  have HB := Aside0.mk h2
  clear h1 h2 hp
  go_wp2_with fail
  refine (eddylaw4_num.calls _ _ _ rfl).mono ?_
  rintro e w2 ⟨rfl, ⟨⟨nd, rfl⟩⟩⟩
  go_wp2
  go_ret2
  exact ⟨u, rfl, HR.out.drewN nd, pw_below_drewN HB.out nd⟩
 rw [if_neg hk, if_neg hk]
 have h5 := hk
 clear hk
 have e2 : (t.kind == 2) = false := by simpa using h2
 have e3 : (t.kind == 3) = false := by simpa using h3
 have e4 : (t.kind == 4) = false := by simpa using h4
 have e5 : (t.kind == 5) = false := by simpa using h5
 clear h2 h3 h4 h5
 go_enter Tryz.func10, Tryz.ntmps10
 go_wp2_with fail
 refine (PutRecord_calls _ t.r a1 c1 a2 c2 (HJ.out _ ?hd).i1 HI.out.l1 (HJ.out _ ?hd).i2 HI.out.l2 HO.out.r).mono ?_
 case hd => repeat (with_reducible first | exact Below.refl _ _ | apply below_drew | apply pw_below_drewN | apply below_alloc)
 intro e w1 hp
 obtain ⟨u, rfl, h1, h2⟩ := hp.at (w := w) (by repeat (with_reducible first | exact Below.refl _ _ | apply below_drew | apply pw_below_drewN | apply below_alloc))
 have HR := Aside0.mk h1
 have HB := Aside0.mk h2
 clear h1 h2 hp
 go_wp2_with fail
 refine (eddylaw4_num.calls _ _ _ rfl).mono ?_
 rintro e w2 ⟨rfl, ⟨⟨nd, rfl⟩⟩⟩
 go_wp2
 go_ret2
 exact ⟨u, rfl, HR.out.drewN nd, pw_below_drewN HB.out nd⟩
end Go.Proofs.YthmkioodkldgbaaGreat.DK
/- What is written are bytes; conditions: the things' numbers are such. -/
namespace Go.Proofs.YthmkioodkldgbaaGreat.DK
open Go.Proofs.YthmkioodkldgbaaGreat.PD
open Go.RowKit Go.Proofs.YthmkioodkldgbaaGreatW.PrintWords
def Byt (l : List Int) : Prop := ∀ x ∈ l, 0 ≤ x ∧ x ≤ 255
namespace Byt
theorem nil : Byt [] := fun x h => by cases h
theorem cons {c : Int} {l : List Int} (hc : 0 ≤ c ∧ c ≤ 255) (h : Byt l) : Byt (c :: l) := fun x hx => by
 rcases List.mem_cons.1 hx with rfl | hx
 ·exact hc
 ·exact h x hx
theorem app {l m : List Int} (h : Byt l) (k : Byt m) : Byt (l ++ m) := fun x hx => (List.mem_append.1 hx).elim (h x) (k x)
theorem grpN : ∀ n : Nat, Byt (DK.grpN n) := fun n => by
 induction n using Nat.strongRecOn with
 | _ n ih =>
  rw [DK.grpN]
  split
  ·exact cons (by omega) (ih _ (by omega))
  ·exact cons (by omega) nil
theorem grp (n : Int) : Byt (DK.grp n) := grpN _
theorem bytes (s : ByteArray) : Byt (bytesOf s) := fun x hx => by
 unfold bytesOf at hx
 obtain ⟨b, _, rfl⟩ := List.mem_map.1 hx
 have := b.toNat_lt
 omega
theorem word {n : Int} (h : 0 ≤ n ∧ n ≤ 4294967295) : Byt (DK.word n) := cons (by omega) (cons (by omega) (cons (by omega) (cons (by omega) nil)))
theorem key (k : ByteArray) : Byt (keyB k) := (grp _).app (bytes _)
theorem flat {α : Type} {f : α → List Int} : ∀ {l : List α}, (∀ x ∈ l, Byt (f x)) → Byt (l.flatMap f)
 | [], _ => nil
 | a :: l, h => by rw [List.flatMap_cons]; exact (h a (by simp)).app (flat fun x hx => h x (by simp [hx]))
theorem lst {α : Type} {f : α → List Int} {l : List α} (h : ∀ x ∈ l, Byt (f x)) : Byt (DK.lst f l) := (grp _).app (flat h)
mutual
theorem encM : ∀ v : S25, Byt (DK.encM v)
 | ⟨a, b, c, d⟩ => by
  rw [encM_eq]
  split
  ·exact cons (by omega) (grp _)
  split
  ·exact cons (by omega) (cons (by omega) (bytes _))
  split
  ·exact cons (by omega) (cons (by omega) (encL d))
  ·exact cons (by omega) nil
theorem encL : ∀ l : List S25, Byt (DK.encL l)
 | [] => by rw [encL_nil]; exact nil
 | x :: l => by rw [encL_cons]; exact (encM x).app (encL l)
end
theorem encC (x : S121) : Byt (DK.encC x) := (key _).app (lst fun v _ => encM v)
theorem encR (x : S28) : Byt (DK.encR x) := ((key _).app (encM _)).app (lst fun n _ => grp n)
theorem encSt (n : Int) (l : List S121) : Byt (DK.encSt n l) := (grp _).app (lst fun x _ => encC x)
theorem encSeg {s : Seg} (h : s.Ok) : Byt (DK.encSeg s) := by
 unfold DK.encSeg encFront encDelta encLogs
 refine Byt.app (Byt.app (Byt.app (Byt.app (cons (by omega) (grp _)) (grp _)) (grp _)) ?_) ((lst fun x _ => lst fun y _ => encR y).app (lst fun y _ => encR y))
 split
 ·exact encSt _ _
 ·exact (((word h.sum).app (grp _)).app (lst fun x _ => encC x)).app (lst fun x _ => key x)
theorem putB {t : Thg} (h : t.Ok) : Byt (DK.putB t) := by
 unfold DK.putB
 split
 ·exact encSt _ _
 split
 ·exact encSeg h.g
 split
 ·exact ((cons (by omega) (grp _)).app (word h.ms)).app (lst fun x hx => (grp _).app (word (h.mr x hx)))
 split
 ·exact (cons (by omega) (grp _)).app (encR _)
 ·exact encR _
end Byt
end Go.Proofs.YthmkioodkldgbaaGreat.DK
/- Plain Lean: reading a number, a key, a word off bytes; either the rest or why not; conditions: none. -/
namespace Go.Proofs.YthmkioodkldgbaaGreat.DK
open Go.RowKit Go.Proofs.YthmkioodkldgbaaGreatW.PrintWords
/-- What a reading gives: a value and what is left, or why not. -/
inductive Rd (α : Type) where
 | ok (v : α) (rest : List Int)
 | bad (e : Int)
namespace Rd
def bind {α β : Type} (r : Rd α) (f : α → List Int → Rd β) : Rd β := match r with | ok v l => f v l | bad e => bad e
def map {α β : Type} (f : α → β) (r : Rd α) : Rd β := match r with | ok v l => ok (f v) l | bad e => bad e
@[simp] theorem bind_ok {α β : Type} (v : α) (l : List Int) (f : α → List Int → Rd β) : (ok v l).bind f = f v l := rfl
@[simp] theorem bind_bad {α β : Type} (e : Int) (f : α → List Int → Rd β) : (bad e : Rd α).bind f = bad e := rfl
end Rd
/-- How many of the first k letters are not below 128, in a row. -/
def highs : Nat → List Int → Nat
 | 0, _ => 0
 | _, [] => 0
 | k + 1, c :: l => if 128 ≤ c then highs k l + 1 else 0
/-- The number that the first k groups make. -/
def grps : Nat → List Int → Int
 | 0, _ => 0
 | _, [] => 0
 | k + 1, c :: l => c % 128 + 128 * grps k l
/-- A number, at most `most`. -/
def pNum (most : Int) (l : List Int) : Rd Int :=
 let i := highs 5 l
 if i = 5 then .bad 41 else if i = l.length then .bad 40 else if 0 < i ∧ l.getD i 0 = 0 then .bad 41 else if grps (i + 1) l ≤ most then .ok (grps (i + 1) l) (l.drop (i + 1)) else .bad 43
/-- The first n letters. -/
def pTake (n : Nat) (l : List Int) : Rd (List Int) := if l.length < n then .bad 40 else .ok (l.take n) (l.drop n)
/-- A list of as many as its number says. -/
def pMany {α : Type} (p : List α → List Int → Rd α) : Nat → List α → List Int → Rd (List α)
 | 0, acc, l => .ok acc l
 | n + 1, acc, l => (p acc l).bind fun v l' => pMany p n (acc ++ [v]) l'
def pList {α : Type} (most : Int) (p : List α → List Int → Rd α) (l : List Int) : Rd (List α) := (pNum most l).bind fun n l' => pMany p n.toNat [] l'
theorem highs_le : ∀ (k : Nat) (l : List Int), highs k l ≤ k ∧ highs k l ≤ l.length
 | 0, _ => by simp [highs]
 | _ + 1, [] => by simp [highs]
 | k + 1, c :: l => by
  have h := highs_le k l
  rw [highs]
  split <;> simp <;> omega
theorem grps_bounds : ∀ (k : Nat) (l : List Int), 0 ≤ grps k l ∧ grps k l < 128 ^ k
 | 0, _ => by simp [grps]
 | k + 1, [] => by
  rw [grps]
  ·exact ⟨Int.le_refl _, by exact Int.pow_pos (by decide)⟩
  ·simp
 | k + 1, c :: l => by
  have h := grps_bounds k l
  rw [grps]
  have h1 : 0 ≤ c % 128 := Int.emod_nonneg _ (by decide)
  have h2 : c % 128 < 128 := Int.emod_lt_of_pos _ (by decide)
  rw [Int.pow_succ]
  omega
theorem grps_snoc : ∀ (i : Nat) (l : List Int) (h : i < l.length), grps (i + 1) l = grps i l + (l[i] % 128) * 128 ^ i
 | 0, c :: l, h => by simp [grps]
 | i + 1, c :: l, h => by
  have hl : i < l.length := by simp at h; omega
  have ih := grps_snoc i l hl
  rw [grps, grps, ih, List.getElem_cons_succ, Int.mul_add, Int.pow_succ]
  have e : 128 * (l[i] % 128 * 128 ^ i) = l[i] % 128 * (128 ^ i * 128) := by rw [Int.mul_comm 128, Int.mul_assoc]
  rw [e]
  omega
theorem highs_eq : ∀ (k i : Nat) (l : List Int), i ≤ k → i ≤ l.length → (∀ (j : Nat) (h : j < l.length), j < i → 128 ≤ l[j]) → (i = k ∨ i = l.length ∨ ∃ h : i < l.length, l[i] < 128) → highs k l = i
 | 0, i, l, h0, _, _, _ => by
  obtain rfl : i = 0 := by omega
  rfl
 | k + 1, i, [], _, h1, _, _ => by
  obtain rfl : i = 0 := by simpa using h1
  rfl
 | k + 1, i, c :: l, h0, h1, hj, he => by
  rw [highs]
  cases i with
  | zero =>
   rcases he with he | he | ⟨_, he⟩
   ·omega
   ·simp at he
   ·simp only [List.getElem_cons_zero] at he
    rw [if_neg (by omega)]
  | succ i =>
   have hc := hj 0 (by simp) (by omega)
   simp only [List.getElem_cons_zero] at hc
   rw [if_pos hc, highs_eq k i l (by omega) (by simpa using h1) (fun j hl hji => by have := hj (j + 1) (by simpa using hl) (by omega); simpa using this) (by
    rcases he with he | he | ⟨hl, he⟩
    ·exact .inl (by omega)
    ·exact .inr (.inl (by simpa using he))
    ·exact .inr (.inr ⟨by simpa using hl, by simpa using he⟩))]
theorem or_shl (i : Nat) (hi : i ≤ 4) (n x : Int) (h0 : 0 ≤ n) (h1 : n < 128 ^ i) (h2 : 0 ≤ x) (h3 : x < 128) : bits .or .i64 n (wrap64 (x * 2 ^ (7 * i))) = n + x * 128 ^ i := by
 have e128 : (128 : Int) ^ i = 2 ^ (7 * i) := by rw [Int.pow_mul]; rfl
 have hp : (2 : Int) ^ (7 * i) ≤ 2 ^ 28 := by
  have : (2 : Nat) ^ (7 * i) ≤ 2 ^ 28 := Nat.pow_le_pow_right (by decide) (by omega)
  exact_mod_cast this
 rw [e128] at h1 ⊢
 have hx0 : 0 ≤ x * 2 ^ (7 * i) := Int.mul_nonneg h2 (Int.le_of_lt (Int.pow_pos (by decide)))
 have hx1 : x * 2 ^ (7 * i) ≤ 127 * 2 ^ 28 := Int.le_trans (Int.mul_le_mul_of_nonneg_right (by omega : x ≤ 127) (Int.le_of_lt (Int.pow_pos (by decide)))) (Int.mul_le_mul_of_nonneg_left hp (by decide))
 have hw : wrap64 (x * 2 ^ (7 * i)) = x * 2 ^ (7 * i) := by unfold wrap64; omega
 rw [hw]
 obtain ⟨a, rfl⟩ := Int.eq_ofNat_of_zero_le h0
 obtain ⟨c, rfl⟩ := Int.eq_ofNat_of_zero_le h2
 have hc : ((c * 2 ^ (7 * i) : Nat) : Int) = (c : Int) * 2 ^ (7 * i) := by push_cast; rfl
 have ha : a < 2 ^ (7 * i) := by exact_mod_cast h1
 have hn := (bits_nat .i64 63 (by decide) (fun n h0 h1 => IntWalk.i64_in _ (by omega)) a (c * 2 ^ (7 * i)) (by omega) (by omega)).2
 rw [hc] at hn
 rw [hn]
 have h := Nat.two_pow_add_eq_or_of_lt ha c
 rw [Nat.or_comm, Nat.mul_comm c, ← h, ← hc]
 push_cast
 rw [Int.mul_comm]
 omega
end Go.Proofs.YthmkioodkldgbaaGreat.DK
/- wire.reader: fail, take; conditions: those in each theorem. -/
namespace Go.Proofs.YthmkioodkldgbaaGreat.DK
open Go.Proofs.YthmkioodkldgbaaGreat.PD
open Go.RowKit Go.Proofs.YthmkioodkldgbaaGreatW.PrintWords Go.Proofs.YthmkioodkldgbaaGreatW.PrintLast Go.Proofs.YthmkioodkldgbaaGreatW.PrintMore
set_option linter.unusedVariables false
set_option linter.unusedSimpArgs false
set_option maxRecDepth 100000
/-- Where a cut begins. -/
def cutA (A : Option Addr) (c m : Nat) : Option Addr := if c = m then A else A.map (·.add (m * 1))
/-- The first error stays. -/
def bump (e x : Int) : Int := if e = 0 then x else e
theorem bump_0 (x : Int) : bump 0 x = x := rfl
theorem bump_ne {e : Int} (h : ¬ e = 0) (x : Int) : bump e x = e := if_neg h
/-- The reader at block g: l is left, e its error. -/
structure Rdr (b : Nat) (w : World) (g : Nat) (l : List Int) (e : Int) (u : Value) : Prop where
 box : w.heap[g]? = some (.cells #[u, .int .i64 e] 172 (0, 0))
 ge : b ≤ g
 inp : ∃ A c, u = .slice A l.length c ∧ l.length ≤ c ∧ In (Kd.int .u8) b w A l
 bad : e ≠ 0 → l = []
 rng : ∀ x ∈ l, 0 ≤ x ∧ x ≤ 255
namespace Rdr
variable {b : Nat} {w w1 : World} {g : Nat} {l : List Int} {e : Int} {u : Value}
theorem le (h : Rdr b w g l e u) : b ≤ w.heap.size := Nat.le_of_lt (Nat.lt_of_le_of_lt h.ge (blk_lt h.box))
theorem ut {T : List Nat} (h : Rdr b w g l e u) (hu : UT T b w w1) (hT : 172 ∉ T) : Rdr b w1 g l e u := by
 obtain ⟨A, c, hu1, hl, hi⟩ := h.inp
 exact ⟨hu.blk h.box hT, h.ge, ⟨A, c, hu1, hl, hi.ext (hu.below h.le)⟩, h.bad, h.rng⟩
theorem below (h : Rdr b w g l e u) (hb : Below w.heap.size w w1) : Rdr b w1 g l e u := h.ut (UT.of_below [] b hb) (by simp)
/-- Its rest cut, to n behind the beginning. -/
theorem setL (h : Rdr b w g l e u) (n : Nat) (hn : n ≤ l.length) {A : Option Addr} {c : Nat} (hu : u = .slice A l.length c) (hc : l.length ≤ c) : Rdr b (w.setCell ⟨g, 0, none⟩ (.slice (cutA A c n) (l.length - n) (c - n))) g (l.drop n) e (.slice (cutA A c n) (l.length - n) (c - n)) := by
 obtain ⟨A', c', hu1, hl, hi⟩ := h.inp
 rw [hu] at hu1
 injection hu1 with e1 _ e3
 subst e1 e3
 obtain ⟨w0, h0, hC, hb⟩ := hi
 have hU := ((UT.refl [172] b w).set h.box (by simp) h.ge 0 (.slice (cutA A c n) (l.length - n) (c - n))).below h.le
 have hd : (l.drop n).length = l.length - n := List.length_drop
 refine ⟨blk_set h.box, h.ge, ⟨cutA A c n, c - n, by rw [hd], by rw [hd]; omega, ⟨w0, h0, Kd.C_drop hC hn hc, hb.trans (hU.mono h0)⟩⟩, fun he => by rw [h.bad he]; simp, fun x hx => h.rng x (List.mem_of_mem_drop hx)⟩
/-- Failed. -/
theorem fail (h : Rdr b w g l 0 u) (x : Int) : Rdr b ((w.setCell ⟨g, 1, none⟩ (.int .i64 x)).setCell ⟨g, 0, none⟩ (.slice none 0 0)) g [] x (.slice none 0 0) := by
 have h1 := blk_set (i := 1) (v := .int .i64 x) h.box
 obtain ⟨A, c, hu1, hl, w0, h0, hC, hb⟩ := h.inp
 have hU := (((UT.refl [172] b w).set h.box (by simp) h.ge 1 (.int .i64 x)).set h1 (by simp) h.ge 0 (.slice none 0 0)).below h.le
 exact ⟨blk_set h1, h.ge, ⟨none, 0, rfl, Nat.le_refl _, ⟨w0, h0, ⟨rfl, Nat.zero_le _, fun hh => absurd hh (Nat.lt_irrefl _)⟩, hb.trans (hU.mono h0)⟩⟩, fun _ => rfl, fun x hx => by cases hx⟩
end Rdr
/-- The reader stands, behind what kept all else. -/
def RdrP (b : Nat) (w : World) (g : Nat) (l : List Int) (e : Int) (w' : World) : Prop := (∃ u, Rdr b w' g l e u) ∧ UT [172] b w w'
theorem RdrP.drewN {b : Nat} {w : World} {g : Nat} {l : List Int} {e : Int} {w' : World} (h : RdrP b w g l e w') (n : Nat) : RdrP b w g l e (w'.drewN n) := ⟨h.1.imp fun _ h => h.below (pw_below_drewN (Below.refl _ _) n), h.2.drewN n⟩
def Failed (b : Nat) (w : World) (g : Nat) (e : Int) (en : Ending) (w' : World) : Prop := en = .returned (.tuple #[]) ∧ RdrP b w g [] e w'
section
variable {b : Nat} {w : World} {g : Nat} {l : List Int} {e : Int} {u : Value}
set_option maxHeartbeats 4000000 in
theorem rfail_calls (h : Rdr b w g l e u) (x : Int) : Calls Tryz.prog 100 #[.pointer (some ⟨g, 0, none⟩), .int .i64 x] w (Failed b w g (bump e x)) := by
 have m1 := blk_cell h.box 1
 have m0 := blk_cell h.box 0
 have q1 := blk_frozen h.box 1
 have q0 := blk_frozen h.box 0
 simp only [List.getElem?_toArray, List.getElem?_cons_succ, List.getElem?_cons_zero] at m1 m0 q1 q0
 have hblk := blk_lt h.box
 have H := Aside0.mk h
 clear h
 unfold Failed
 by_cases he : e = 0
 ·subst he
  rw [bump_0]
  have h1 := blk_set (i := 1) (v := .int .i64 x) H.out.box
  have hU := ((UT.refl [172] b w).set H.out.box (by simp) H.out.ge 1 (.int .i64 x)).set h1 (by simp) H.out.ge 0 (.slice none 0 0)
  have HP := Aside0.mk (show RdrP b w g [] x _ from ⟨⟨_, H.out.fail x⟩, hU⟩)
  clear h1 hU
  go_enter Tryz.func100, Tryz.ntmps100
  go_wp2
  first | go_end0 | ((try simp only [Exit.inBlock, Exit.then]); refine bodyPost_ret (results_none rfl _ _ _) rfl ?_)
  exact ⟨rfl, HP.out⟩
 ·have hl := H.out.bad he
  rw [bump_ne he]
  subst hl
  have HP := Aside0.mk (show RdrP b w g [] e w from ⟨⟨_, H.out⟩, UT.refl _ _ _⟩)
  have HE := Aside0.mk he
  have heb : decide (e = 0) = false := by simpa using he
  go_enter Tryz.func100, Tryz.ntmps100
  go_wp2
  first | go_end0 | ((try simp only [Exit.inBlock, Exit.then]); refine bodyPost_ret (results_none rfl _ _ _) rfl ?_)
  exact ⟨rfl, HP.out⟩
theorem cut_hn (A : Option Addr) (n c m : Nat) (hm : m ≤ n) (hc : n ≤ c) (W : World) : (Instr.slice 49 (.slice A n c) none (some (.int .i64 (m : Int))) (some (.int .i64 (m : Int)))).run Tryz.prog W = .ok (.slice A m m) W := by
 obtain ⟨i0, hi0, _, hsz, _⟩ := info_parts info5
 have hel : Tryz.prog.elem 49 = 5 := by simp [Program.elem, Tryz.underlying49]
 have hu : Tryz.prog.underlying 49 = some (.slice (Tryz.prog.elem 49)) := by rw [hel]; exact Tryz.underlying49
 rw [Go.run_slice_hm W 49 A n c hu .i64 .i64 (m : Int) (m : Int) (by omega) (by omega) (by omega), hel]
 simp [sizeOf, typeInfo, hi0, hsz, sliced, Result.andThen]
 intro _
 cases A with
 | none => rfl
 | some a => cases a; simp [Addr.add]
theorem cut_n (A : Option Addr) (n c m : Nat) (hm : m ≤ n) (W : World) : (Instr.slice 49 (.slice A n c) (some (.int .i64 (m : Int))) none none).run Tryz.prog W = .ok (.slice (cutA A c m) (n - m) (c - m)) W := by
 obtain ⟨i0, hi0, _, hsz, _⟩ := info_parts info5
 have h := cut_from 49 5 .i64 Tryz.underlying49 hi0 1 hsz A n c (m : Int) (by omega) (by omega) W
 simpa [cutA] using h
/-- What take hands out. -/
def Took (b : Nat) (w : World) (g : Nat) (l : List Int) (e : Int) (m : Nat) (en : Ending) (w' : World) : Prop :=
 if m ≤ l.length then ∃ A, en = .returned (.slice A m m) ∧ In (Kd.int .u8) b w' A (l.take m) ∧ RdrP b w g (l.drop m) e w' else en = .returned (.slice none 0 0) ∧ RdrP b w g [] (bump e 40) w'
set_option maxHeartbeats 4000000 in
theorem rtake_calls (h : Rdr b w g l e u) (m : Nat) : Calls Tryz.prog 134 #[.pointer (some ⟨g, 0, none⟩), .int .i64 m] w (Took b w g l e m) := by
 obtain ⟨A, c, rfl, hlc, hi⟩ := h.inp
 have m0 := blk_cell h.box 0
 have q0 := blk_frozen h.box 0
 simp only [List.getElem?_toArray, List.getElem?_cons_succ, List.getElem?_cons_zero] at m0 q0
 have hblk := blk_lt h.box
 have hlen : l.length ≤ 9223372036854775807 := hi.C.2.1
 unfold Took
 by_cases hm : m ≤ l.length
 ·have hmi : ¬ (m : Int) > (l.length : Int) := by omega
  have c1 := cut_hn A l.length c m hm hlc
  have c2 := cut_n A l.length c m hm
  have h1 := h.setL m hm rfl hlc
  have hU := (UT.refl [172] b w).set h.box (by simp) h.ge 0 (.slice (cutA A c m) (l.length - m) (c - m))
  obtain ⟨w0, hw0, hC, hb⟩ := hi
  have hT := In.ofC (d := Kd.int .u8) (Kd.C_take hC hm) (hb.trans ((hU.below h.le).mono hw0)) hw0
  have HP := Aside0.mk (show RdrP b w g (l.drop m) e _ from ⟨⟨_, h1⟩, hU⟩)
  have HT := Aside0.mk hT
  clear h h1 hU hT hC hb
  simp only [if_pos hm]
  go_enter Tryz.func134, Tryz.ntmps134
  go_wp2
  go_ret
  exact ⟨A, rfl, HT.out, HP.out⟩
 ·have hmi : (m : Int) > (l.length : Int) := by omega
  simp only [if_neg hm]
  have H := Aside0.mk h
  clear h hi
  go_enter Tryz.func134, Tryz.ntmps134
  go_wp2_with fail
  refine (rfail_calls H.out 40).mono ?_
  rintro en w1 ⟨rfl, h1⟩
  have HP := Aside0.mk h1
  clear h1
  go_wp2
  go_ret
  exact ⟨rfl, HP.out⟩
end
end Go.Proofs.YthmkioodkldgbaaGreat.DK
/- wire.reader.number; conditions: those in each theorem. -/
namespace Go.Proofs.YthmkioodkldgbaaGreat.DK
open Go.Proofs.YthmkioodkldgbaaGreat.PD
open Go.RowKit Go.Proofs.YthmkioodkldgbaaGreatW.PrintWords Go.Proofs.YthmkioodkldgbaaGreatW.PrintLast Go.Proofs.YthmkioodkldgbaaGreatW.PrintMore
set_option linter.unusedVariables false
set_option linter.unusedSimpArgs false
set_option maxRecDepth 100000
theorem and127 {c : Int} (h0 : 0 ≤ c) (h1 : c ≤ 255) : bits .and .u8 c 127 = c % 128 := by
 obtain ⟨a, rfl⟩ := Int.eq_ofNat_of_zero_le h0
 have h := (bits_nat .u8 8 (by decide) wraps_u8 a 127 (by omega) (by decide)).1
 rw [show (127 : Int) = ((127 : Nat) : Int) from rfl, h, Nat.and_two_pow_sub_one_eq_mod a 7]
 omega
/-- What number hands out. -/
def Numd (b : Nat) (w : World) (g : Nat) (l : List Int) (e most : Int) (en : Ending) (w' : World) : Prop :=
 match pNum most l with
 | .ok n l' => en = .returned (.int .i64 n) ∧ RdrP b w g l' e w'
 | .bad c => en = .returned (.int .i64 0) ∧ RdrP b w g [] (bump e c) w'
theorem Numd.bad_mk {b : Nat} {w : World} {g : Nat} {l : List Int} {e most c : Int} {w' : World} (hp : pNum most l = .bad c) (h : RdrP b w g [] (bump e c) w') : Numd b w g l e most (.returned (.int .i64 0)) w' := by
 unfold Numd; rw [hp]; exact ⟨rfl, h⟩
theorem Numd.ok_mk {b : Nat} {w : World} {g : Nat} {l l' : List Int} {e most n : Int} {w' : World} (hp : pNum most l = .ok n l') (h : RdrP b w g l' e w') : Numd b w g l e most (.returned (.int .i64 n)) w' := by
 unfold Numd; rw [hp]; exact ⟨rfl, h⟩
def NumL (l : List Int) (nv iv : Value) : Prop := ∃ i : Nat, iv = .int .i64 i ∧ nv = .int .i64 (grps i l) ∧ i ≤ 5 ∧ i ≤ l.length ∧ ∀ (j : Nat) (h : j < l.length), j < i → 128 ≤ l[j]
section
variable {b : Nat} {w : World} {g : Nat} {l : List Int} {e : Int} {u : Value}
set_option maxHeartbeats 8000000 in
theorem rnumber_calls (h : Rdr b w g l e u) (most : Int) : Calls Tryz.prog 101 #[.pointer (some ⟨g, 0, none⟩), .int .i64 most] w (Numd b w g l e most) := by
 obtain ⟨A, c, rfl, hlc, hi⟩ := h.inp
 have m0 := blk_cell h.box 0
 have q0 := blk_frozen h.box 0
 simp only [List.getElem?_toArray, List.getElem?_cons_succ, List.getElem?_cons_zero] at m0 q0
 have hblk := blk_lt h.box
 have hlen : l.length ≤ 9223372036854775807 := hi.C.2.1
 have H := Aside0.mk h
 have HI := Aside0.mk hi
 clear h hi
 go_enter Tryz.func101, Tryz.ntmps101
 go_wp2
 go_loopw [5, 6] (fun nv iv wr => wr = w ∧ NumL l nv iv) (fun _ iv _ => 5 - (intOf iv).toNat)
 case atStart => exact ⟨rfl, 0, rfl, by simp [grps], by omega, by omega, fun j _ hj => by omega⟩
 case round =>
  obtain ⟨rfl, i, rfl, rfl, hi5, hil, hhi⟩ := hrel
  have HH := Aside0.mk hhi
  clear hhi
  by_cases hlt : i < l.length
  ·by_cases h5 : i < 5
   ·obtain ⟨ad, rfl, d0⟩ := HI.out.atInt hlt
    have hr := H.out.rng l[i] (List.getElem_mem hlt)
    generalize hc : l[i] = x at *
    by_cases hx : 128 ≤ x
    ·go_wp2
     go_roundw
     case rel =>
      refine ⟨trivial, i + 1, by simp, ?_, by omega, by omega, fun j hj hji => ?_⟩
      ·have hb := grps_bounds i l
       rw [grps_snoc i l hlt, hc, and127 hr.1 hr.2, w64 (x := x % 128) (by omega) (by omega), or_shl i (by omega) _ _ hb.1 hb.2 (by omega) (by omega)]
      ·by_cases hji' : j < i
       ·exact HH.out j hj hji'
       ·obtain rfl : j = i := by omega
        rw [hc]; exact hx
     case measure => simp [intOf]; omega
    ·have hhg : highs 5 l = i := highs_eq 5 i l hi5 hil HH.out (.inr (.inr ⟨hlt, by rw [hc]; omega⟩))
     have n5 : ¬ (i : Int) = 5 := by omega
     have nl : ¬ (i : Int) = (l.length : Int) := by omega
     by_cases hz : 0 < i ∧ x = 0
     ·obtain ⟨hz1, hz2⟩ := hz
      have hp : pNum most l = .bad 41 := by
       unfold pNum
       simp only [hhg]
       rw [if_neg (by omega), if_neg (by omega), if_pos ⟨hz1, by rw [List.getD_eq_getElem?_getD, List.getElem?_eq_getElem hlt, hc]; exact hz2⟩]
      have hpa := Aside0.mk hp
      clear hp
      go_wp2_with fail
      refine (rfail_calls H.out 41).mono ?_
      rintro en w1 ⟨rfl, h1⟩
      have HP := Aside0.mk h1
      clear h1
      go_wp2
      go_ret
      exact Numd.bad_mk hpa.out HP.out
     ·skip
      have hx7 : x % 128 = x := by omega
      have hb := grps_bounds (i + 1) l
      have hs := grps_snoc i l hlt
      rw [hc, hx7] at hs
      have hb1 := grps_bounds i l
      have ho := or_shl i (by omega) (grps i l) x hb1.1 hb1.2 hr.1 (by omega)
      rw [← hs] at ho
      by_cases hi0 : 0 < i
      ·have hi0i : (i : Int) > 0 := by omega
       have hx0 : ¬ x = 0 := fun hx0 => hz ⟨hi0, hx0⟩
       by_cases hmost : grps (i + 1) l ≤ most
       ·have hp : pNum most l = .ok (grps (i + 1) l) (l.drop (i + 1)) := by
         unfold pNum
         simp only [hhg]
         rw [if_neg (by omega), if_neg (by omega), if_neg (by rw [List.getD_eq_getElem?_getD, List.getElem?_eq_getElem hlt, hc]; exact hz), if_pos hmost]
        have h1 := H.out.setL (i + 1) (by omega) rfl hlc
        have hU := (UT.refl [172] b wr).set H.out.box (by simp) H.out.ge 0 (.slice (cutA (some ad) c (i + 1)) (l.length - (i + 1)) (c - (i + 1)))
        have HP := Aside0.mk (show RdrP b wr g (l.drop (i + 1)) e _ from ⟨⟨_, h1⟩, hU⟩)
        have hpa := Aside0.mk hp
        have c2 : ∀ W : World, (Instr.slice 49 (.slice (some ad) l.length c) (some (.int .i64 ((i : Int) + 1))) none none).run Tryz.prog W = .ok (.slice (cutA (some ad) c (i + 1)) (l.length - (i + 1)) (c - (i + 1))) W := fun W => by have h := cut_n (some ad) l.length c (i + 1) (by omega) W; push_cast at h; exact h
        clear hp h1 hU hs hb hb1
        go_wp2
        go_ret
        exact Numd.ok_mk hpa.out HP.out
       ·have hp : pNum most l = .bad 43 := by
         unfold pNum
         simp only [hhg]
         rw [if_neg (by omega), if_neg (by omega), if_neg (by rw [List.getD_eq_getElem?_getD, List.getElem?_eq_getElem hlt, hc]; exact hz), if_neg hmost]
        have hpa := Aside0.mk hp
        clear hp
        go_wp2_with fail
        refine (rfail_calls H.out 43).mono ?_
        rintro en w1 ⟨rfl, h1⟩
        have HP := Aside0.mk h1
        clear h1
        go_wp2
        go_ret
        exact Numd.bad_mk hpa.out HP.out
      ·have hi0i : ¬ (i : Int) > 0 := by omega
       by_cases hmost : grps (i + 1) l ≤ most
       ·have hp : pNum most l = .ok (grps (i + 1) l) (l.drop (i + 1)) := by
         unfold pNum
         simp only [hhg]
         rw [if_neg (by omega), if_neg (by omega), if_neg (by rw [List.getD_eq_getElem?_getD, List.getElem?_eq_getElem hlt, hc]; exact hz), if_pos hmost]
        have h1 := H.out.setL (i + 1) (by omega) rfl hlc
        have hU := (UT.refl [172] b wr).set H.out.box (by simp) H.out.ge 0 (.slice (cutA (some ad) c (i + 1)) (l.length - (i + 1)) (c - (i + 1)))
        have HP := Aside0.mk (show RdrP b wr g (l.drop (i + 1)) e _ from ⟨⟨_, h1⟩, hU⟩)
        have hpa := Aside0.mk hp
        have c2 : ∀ W : World, (Instr.slice 49 (.slice (some ad) l.length c) (some (.int .i64 ((i : Int) + 1))) none none).run Tryz.prog W = .ok (.slice (cutA (some ad) c (i + 1)) (l.length - (i + 1)) (c - (i + 1))) W := fun W => by have h := cut_n (some ad) l.length c (i + 1) (by omega) W; push_cast at h; exact h
        clear hp h1 hU hs hb hb1
        go_wp2
        go_ret
        exact Numd.ok_mk hpa.out HP.out
       ·have hp : pNum most l = .bad 43 := by
         unfold pNum
         simp only [hhg]
         rw [if_neg (by omega), if_neg (by omega), if_neg (by rw [List.getD_eq_getElem?_getD, List.getElem?_eq_getElem hlt, hc]; exact hz), if_neg hmost]
        have hpa := Aside0.mk hp
        clear hp
        go_wp2_with fail
        refine (rfail_calls H.out 43).mono ?_
        rintro en w1 ⟨rfl, h1⟩
        have HP := Aside0.mk h1
        clear h1
        go_wp2
        go_ret
        exact Numd.bad_mk hpa.out HP.out
   ·have hhg : highs 5 l = i := highs_eq 5 i l hi5 hil HH.out (.inl (by omega))
    have e5 : i = 5 := by omega
    subst e5
    have hpa := Aside0.mk (show pNum most l = .bad 41 by unfold pNum; simp only [hhg]; rw [if_pos trivial])
    go_wp2_with fail
    refine (rfail_calls H.out 41).mono ?_
    rintro en w1 ⟨rfl, h1⟩
    have HP := Aside0.mk h1
    clear h1
    go_wp2
    go_ret
    exact Numd.bad_mk hpa.out HP.out
  ·have hhg : highs 5 l = i := highs_eq 5 i l hi5 hil HH.out (.inr (.inl (by omega)))
   have hir : ¬ (i : Int) < (l.length : Int) := by omega
   have ell : (i : Int) = (l.length : Int) := by omega
   by_cases h5 : i = 5
   ·subst h5
    have hpa := Aside0.mk (show pNum most l = .bad 41 by unfold pNum; simp only [hhg]; rw [if_pos trivial])
    go_wp2_with fail
    refine (rfail_calls H.out 41).mono ?_
    rintro en w1 ⟨rfl, h1⟩
    have HP := Aside0.mk h1
    clear h1
    go_wp2
    go_ret
    exact Numd.bad_mk hpa.out HP.out
   ·have n5 : ¬ (i : Int) = 5 := by omega
    have hpa := Aside0.mk (show pNum most l = .bad 40 by unfold pNum; simp only [hhg]; rw [if_neg h5, if_pos (by omega)])
    go_wp2_with fail
    refine (rfail_calls H.out 40).mono ?_
    rintro en w1 ⟨rfl, h1⟩
    have HP := Aside0.mk h1
    clear h1
    go_wp2
    go_ret
    exact Numd.bad_mk hpa.out HP.out
end
end Go.Proofs.YthmkioodkldgbaaGreat.DK
