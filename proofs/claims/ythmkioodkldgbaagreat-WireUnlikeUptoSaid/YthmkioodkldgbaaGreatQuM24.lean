/- eddylaw4.put, putRef; conditions: those in each theorem. -/
import Derived.Test.YthmkioodkldgbaaGreatQuM23
import Derived.Test.YthmkioodkldgbaaGreatQuM20
namespace Go.Proofs.YthmkioodkldgbaaGreat.DK
open Go.Proofs.YthmkioodkldgbaaGreat.PD
open Go.RowKit Go.Proofs.YthmkioodkldgbaaGreatW.PrintWords Go.Proofs.YthmkioodkldgbaaGreatW.PrintLast Go.Proofs.YthmkioodkldgbaaGreatW.PrintMore
set_option linter.unusedVariables false
set_option linter.unusedSimpArgs false
set_option maxRecDepth 100000
/-- One of the five things. -/
structure Thg where
 kind : Int
 r : S28
 sn : Int
 sc : List S121
 g : Seg
 mi : Int
 ms : Int
 mr : List S108
 oa : Int
 ox : S28
/-- Its numbers are such. -/
structure Thg.Ok (t : Thg) : Prop where
 r : okS t.r.f1
 sc : ∀ x ∈ t.sc, okL x.f1
 g : t.g.Ok
 ms : 0 ≤ t.ms ∧ t.ms ≤ 4294967295
 mr : ∀ x ∈ t.mr, 0 ≤ x.f1 ∧ x.f1 ≤ 4294967295
 ox : okS t.ox.f1
/-- Its lists are read in w0. -/
structure ThIn (w0 : World) (t : Thg) (a1 a2 a3 a4 a5 a6 a7 a8 a9 a10 a11 : Option Addr) (c1 c2 c3 c4 c5 c6 c7 c8 c9 c10 c11 : Nat) : Prop where
 i1 : k25.C w0 a1 t.r.f1.f3.length t.r.f1.f3
 i2 : (Kd.int .i64).C w0 a2 t.r.f2.length t.r.f2
 i3 : k121.C w0 a3 t.sc.length t.sc
 i4 : k121.C w0 a4 t.g.cells.length t.g.cells
 i5 : k121.C w0 a5 t.g.set.length t.g.set
 i6 : Kd.string.C w0 a6 t.g.gone.length t.g.gone
 i7 : (Kd.slice 27 k28).C w0 a7 t.g.logs.length t.g.logs
 i8 : k28.C w0 a8 t.g.pend.length t.g.pend
 i9 : k108.C w0 a9 t.mr.length t.mr
 i10 : k25.C w0 a10 t.ox.f1.f3.length t.ox.f1.f3
 i11 : (Kd.int .i64).C w0 a11 t.ox.f2.length t.ox.f2
 l1 : t.r.f1.f3.length ≤ c1
 l2 : t.r.f2.length ≤ c2
 l3 : t.sc.length ≤ c3
 l4 : t.g.cells.length ≤ c4
 l5 : t.g.set.length ≤ c5
 l6 : t.g.gone.length ≤ c6
 l7 : t.g.logs.length ≤ c7
 l8 : t.g.pend.length ≤ c8
 l9 : t.mr.length ≤ c9
 l10 : t.ox.f1.f3.length ≤ c10
 l11 : t.ox.f2.length ≤ c11
theorem cells_short {w : World} {A : Option Addr} {l : List S121} (h : k121.C w A l.length l) : ∀ x ∈ l, x.f1.length ≤ 9223372036854775807 := fun x hx => by
 obtain ⟨i, hi, rfl⟩ := List.mem_iff_getElem.1 hx
 obtain ⟨_, _, _, _, _, _, _, g1⟩ := at_T121 h (i : Int) (by omega) (by omega)
 rw [show rd_T121 l (i : Int) = l[i] from getD_nat l _ i hi] at g1
 exact g1.2.1
theorem recs_short {w : World} {A : Option Addr} {l : List S28} (h : k28.C w A l.length l) : ∀ x ∈ l, x.f2.length ≤ 9223372036854775807 := fun x hx => by
 obtain ⟨i, hi, rfl⟩ := List.mem_iff_getElem.1 hx
 obtain ⟨_, _, _, _, _, _, _, _, _, _, _, _, _, _, _, g5⟩ := at_T28 h (i : Int) (by omega) (by omega)
 rw [show rd_T28 l (i : Int) = l[i] from getD_nat l _ i hi] at g5
 exact g5.2.1
theorem ThIn.short {w0 : World} {t : Thg} {a1 a2 a3 a4 a5 a6 a7 a8 a9 a10 a11 : Option Addr} {c1 c2 c3 c4 c5 c6 c7 c8 c9 c10 c11 : Nat} (h : ThIn w0 t a1 a2 a3 a4 a5 a6 a7 a8 a9 a10 a11 c1 c2 c3 c4 c5 c6 c7 c8 c9 c10 c11) : t.g.Short :=
 ⟨h.i4.2.1, cells_short h.i4, h.i5.2.1, cells_short h.i5, h.i6.2.1, h.i7.2.1, fun l hl => by
   obtain ⟨i, hi, rfl⟩ := List.mem_iff_getElem.1 hl
   obtain ⟨_, _, _, _, _, _, g1⟩ := slice_at h.i7 hi
   exact g1.2.1, fun l hl => by
   obtain ⟨i, hi, rfl⟩ := List.mem_iff_getElem.1 hl
   obtain ⟨_, _, _, _, _, _, g1⟩ := slice_at h.i7 hi
   exact recs_short g1, h.i8.2.1, recs_short h.i8⟩
theorem ThIn.below {w0 w1 : World} {t : Thg} {a1 a2 a3 a4 a5 a6 a7 a8 a9 a10 a11 : Option Addr} {c1 c2 c3 c4 c5 c6 c7 c8 c9 c10 c11 : Nat} (h : ThIn w0 t a1 a2 a3 a4 a5 a6 a7 a8 a9 a10 a11 c1 c2 c3 c4 c5 c6 c7 c8 c9 c10 c11) (hb : Below w0.heap.size w0 w1) : ThIn w1 t a1 a2 a3 a4 a5 a6 a7 a8 a9 a10 a11 c1 c2 c3 c4 c5 c6 c7 c8 c9 c10 c11 :=
 ⟨Kd.C_below h.i1 hb, Kd.C_below h.i2 hb, Kd.C_below h.i3 hb, Kd.C_below h.i4 hb, Kd.C_below h.i5 hb, Kd.C_below h.i6 hb, Kd.C_below h.i7 hb, Kd.C_below h.i8 hb, Kd.C_below h.i9 hb, Kd.C_below h.i10 hb, Kd.C_below h.i11 hb, h.l1, h.l2, h.l3, h.l4, h.l5, h.l6, h.l7, h.l8, h.l9, h.l10, h.l11⟩
/-- Why a thing has no bytes; its bytes. -/
def putC (t : Thg) : Int := if t.kind = 2 then stateC t.sn t.sc else if t.kind = 3 then segC t.g else if t.kind = 4 then manC t.mi t.mr else if t.kind = 5 then rowC t.oa t.ox else recC t.r
def putB (t : Thg) : List Int := if t.kind = 2 then encSt t.sn t.sc else if t.kind = 3 then encSeg t.g else if t.kind = 4 then encMan t.mi t.ms t.mr else if t.kind = 5 then encOut t.oa t.ox else encR t.r
theorem Put.at {w w1 : World} {r : Int} {zs : List Int} {e : Ending} {w' : World} (hb : Below w.heap.size w w1) (h : Put w1 r zs e w') : Put w r zs e w' := by
 obtain ⟨u, h1, h2, h3⟩ := h
 exact ⟨u, h1, h2.lower hb.size, hb.trans (h3.mono hb.size)⟩
set_option maxHeartbeats 8000000 in
theorem put_calls (w : World) (t : Thg) (a1 a2 a3 a4 a5 a6 a7 a8 a9 a10 a11 : Option Addr) (c1 c2 c3 c4 c5 c6 c7 c8 c9 c10 c11 : Nat) (hi : ThIn w t a1 a2 a3 a4 a5 a6 a7 a8 a9 a10 a11 c1 c2 c3 c4 c5 c6 c7 c8 c9 c10 c11) (ho : t.Ok) :
  Calls Tryz.prog 10 #[.agg #[.int .i64 t.kind, .string t.r.f0, .int .i64 t.r.f1.f0, .int .i64 t.r.f1.f1, .string t.r.f1.f2, .slice a1 t.r.f1.f3.length c1, .slice a2 t.r.f2.length c2, .int .i64 t.sn, .slice a3 t.sc.length c3, .int .i64 t.g.id, .int .i64 t.g.task, .int .i64 t.g.base, .int .u32 t.g.sum, .int .i64 t.g.snum, .slice a4 t.g.cells.length c4, .int .i64 t.g.dnum, .slice a5 t.g.set.length c5, .slice a6 t.g.gone.length c6, .slice a7 t.g.logs.length c7, .slice a8 t.g.pend.length c8, .int .i64 t.mi, .int .u32 t.ms, .slice a9 t.mr.length c9, .int .i64 t.oa, .string t.ox.f0, .int .i64 t.ox.f1.f0, .int .i64 t.ox.f1.f1, .string t.ox.f1.f2, .slice a10 t.ox.f1.f3.length c10, .slice a11 t.ox.f2.length c11]] w (Put w (putC t) (putB t)) := by
 have HI := Aside0.mk hi
 have HO := Aside0.mk ho
 have HJ := Aside0.mk (fun (W : World) (hb : Below w.heap.size w W) => hi.below hb)
 clear hi ho
 unfold putC putB
 by_cases hk : t.kind = 2
 ·skip
  rw [if_pos hk, if_pos hk]
  obtain ⟨kd, r, sn, sc, gg, mi, ms, mr, oa, ox⟩ := t
  dsimp only at *
  subst hk
  go_enter Tryz.func10, Tryz.ntmps10
  go_wp2_with fail
  refine (PutState_calls _ sn sc a3 c3 (HJ.out _ ?hd).i3 HI.out.l3 (cells_short HI.out.i3) HO.out.sc).mono ?_
  case hd => repeat (with_reducible first | exact Below.refl _ _ | apply below_drew | apply pw_below_drewN | apply below_alloc)
  intro e w1 hp
  obtain ⟨u, rfl, h1, h2⟩ := hp.at (w := w) (by repeat (with_reducible first | exact Below.refl _ _ | apply below_drew | apply pw_below_drewN | apply below_alloc))
  have HR := Aside0.mk h1
  have HB := Aside0.mk h2
  clear h1 h2 hp
  go_wp2_with fail
  refine (eddylaw4_num.calls _ _ _ rfl).mono ?_
  rintro e w2 ⟨rfl, ⟨⟨nd, rfl⟩⟩⟩
  go_wp2
  go_ret2
  exact ⟨u, rfl, HR.out.drewN nd, pw_below_drewN HB.out nd⟩
 rw [if_neg hk, if_neg hk]
 have h2 := hk
 clear hk
 by_cases hk : t.kind = 3
 ·skip
  rw [if_pos hk, if_pos hk]
  obtain ⟨kd, r, sn, sc, gg, mi, ms, mr, oa, ox⟩ := t
  dsimp only at *
  subst hk
  go_enter Tryz.func10, Tryz.ntmps10
  go_wp2_with fail
  refine (PutSegment_calls _ gg a4 a5 a6 a7 a8 c4 c5 c6 c7 c8 (HJ.out _ ?hd).i4 (HJ.out _ ?hd).i5 (HJ.out _ ?hd).i6 (HJ.out _ ?hd).i7 (HJ.out _ ?hd).i8 HI.out.l4 HI.out.l5 HI.out.l6 HI.out.l7 HI.out.l8 HI.out.short HO.out.g).mono ?_
  case hd => repeat (with_reducible first | exact Below.refl _ _ | apply below_drew | apply pw_below_drewN | apply below_alloc)
  intro e w1 hp
  obtain ⟨u, rfl, h1, h2⟩ := hp.at (w := w) (by repeat (with_reducible first | exact Below.refl _ _ | apply below_drew | apply pw_below_drewN | apply below_alloc))
  have HR := Aside0.mk h1
  have HB := Aside0.mk h2
  clear h1 h2 hp
  go_wp2_with fail
  refine (eddylaw4_num.calls _ _ _ rfl).mono ?_
  rintro e w2 ⟨rfl, ⟨⟨nd, rfl⟩⟩⟩
  go_wp2
  go_ret2
  exact ⟨u, rfl, HR.out.drewN nd, pw_below_drewN HB.out nd⟩
 rw [if_neg hk, if_neg hk]
 have h3 := hk
 clear hk
 by_cases hk : t.kind = 4
 ·skip
  rw [if_pos hk, if_pos hk]
  obtain ⟨kd, r, sn, sc, gg, mi, ms, mr, oa, ox⟩ := t
  dsimp only at *
  subst hk
  go_enter Tryz.func10, Tryz.ntmps10
  go_wp2_with fail
  refine (PutManifest_calls _ mi ms mr a9 c9 (HJ.out _ ?hd).i9 HI.out.l9 HO.out.ms HO.out.mr).mono ?_
  case hd => repeat (with_reducible first | exact Below.refl _ _ | apply below_drew | apply pw_below_drewN | apply below_alloc)
  intro e w1 hp
  obtain ⟨u, rfl, h1, h2⟩ := hp.at (w := w) (by repeat (with_reducible first | exact Below.refl _ _ | apply below_drew | apply pw_below_drewN | apply below_alloc))
  have HR := Aside0.mk h1
  have HB := Aside0.mk h2
  clear h1 h2 hp
  go_wp2_with fail
  refine (eddylaw4_num.calls _ _ _ rfl).mono ?_
  rintro e w2 ⟨rfl, ⟨⟨nd, rfl⟩⟩⟩
  go_wp2
  go_ret2
  exact ⟨u, rfl, HR.out.drewN nd, pw_below_drewN HB.out nd⟩
 rw [if_neg hk, if_neg hk]
 have h4 := hk
 clear hk
 by_cases hk : t.kind = 5
 ·skip
  rw [if_pos hk, if_pos hk]
  obtain ⟨kd, r, sn, sc, gg, mi, ms, mr, oa, ox⟩ := t
  dsimp only at *
  subst hk
  go_enter Tryz.func10, Tryz.ntmps10
  go_wp2_with fail
  refine (PutRow_calls _ oa ox a10 c10 a11 c11 (HJ.out _ ?hd).i10 HI.out.l10 (HJ.out _ ?hd).i11 HI.out.l11 HO.out.ox).mono ?_
  case hd => repeat (with_reducible first | exact Below.refl _ _ | apply below_drew | apply pw_below_drewN | apply below_alloc)
  intro e w1 hp
  obtain ⟨u, rfl, h1, h2⟩ := hp.at (w := w) (by repeat (with_reducible first | exact Below.refl _ _ | apply below_drew | apply pw_below_drewN | apply below_alloc))
  have HR := Aside0.mk h1
  have HB := Aside0.mk h2
  clear h1 h2 hp
  go_wp2_with fail
  refine (eddylaw4_num.calls _ _ _ rfl).mono ?_
  rintro e w2 ⟨rfl, ⟨⟨nd, rfl⟩⟩⟩
  go_wp2
  go_ret2
  exact ⟨u, rfl, HR.out.drewN nd, pw_below_drewN HB.out nd⟩
 rw [if_neg hk, if_neg hk]
 have h5 := hk
 clear hk
 have e2 : (t.kind == 2) = false := by simpa using h2
 have e3 : (t.kind == 3) = false := by simpa using h3
 have e4 : (t.kind == 4) = false := by simpa using h4
 have e5 : (t.kind == 5) = false := by simpa using h5
 clear h2 h3 h4 h5
 go_enter Tryz.func10, Tryz.ntmps10
 go_wp2_with fail
 refine (PutRecord_calls _ t.r a1 c1 a2 c2 (HJ.out _ ?hd).i1 HI.out.l1 (HJ.out _ ?hd).i2 HI.out.l2 HO.out.r).mono ?_
 case hd => repeat (with_reducible first | exact Below.refl _ _ | apply below_drew | apply pw_below_drewN | apply below_alloc)
 intro e w1 hp
 obtain ⟨u, rfl, h1, h2⟩ := hp.at (w := w) (by repeat (with_reducible first | exact Below.refl _ _ | apply below_drew | apply pw_below_drewN | apply below_alloc))
 have HR := Aside0.mk h1
 have HB := Aside0.mk h2
 clear h1 h2 hp
 go_wp2_with fail
 refine (eddylaw4_num.calls _ _ _ rfl).mono ?_
 rintro e w2 ⟨rfl, ⟨⟨nd, rfl⟩⟩⟩
 go_wp2
 go_ret2
 exact ⟨u, rfl, HR.out.drewN nd, pw_below_drewN HB.out nd⟩
end Go.Proofs.YthmkioodkldgbaaGreat.DK
/- Whole structs loaded and stored; the thing that bytes say; conditions: those in each theorem. -/
namespace Go.Proofs.YthmkioodkldgbaaGreat.DK
open Go.Proofs.YthmkioodkldgbaaGreat.PD
open Go.RowKit Go.Proofs.YthmkioodkldgbaaGreatW.PrintWords Go.Proofs.YthmkioodkldgbaaGreatW.PrintLast Go.Proofs.YthmkioodkldgbaaGreatW.PrintMore
set_option linter.unusedVariables false
set_option linter.unusedSimpArgs false
set_option maxRecDepth 100000
/-- An empty thing of a kind. -/
def zT (k : Int) : Thg := ⟨k, ⟨⟨#[]⟩, ⟨0, 0, ⟨#[]⟩, []⟩, []⟩, 0, [], ⟨0, 0, 0, 0, 0, [], 0, [], [], [], []⟩, 0, 0, [], 0, ⟨⟨#[]⟩, ⟨0, 0, ⟨#[]⟩, []⟩, []⟩⟩
/-- The thing, or the error and nothing. -/
def orZ {α : Type} (r : Rd α) (k : Int) (f : α → Thg) : Int × Thg := match r with | .ok x _ => (0, f x) | .bad c => (c, zT k)
/-- The thing of a kind that bytes say. -/
def pGet (k : Int) (l : List Int) : Int × Thg :=
 if k = 2 then orZ (pWhole pState l) k fun x => { zT k with sn := x.1, sc := x.2 }
 else if k = 3 then orZ (pWhole pSeg l) k fun x => { zT k with g := x }
 else if k = 4 then orZ (pWhole pMan l) k fun x => { zT k with mi := x.1, ms := x.2.1, mr := x.2.2 }
 else if k = 5 then orZ (pWhole pOut l) k fun x => { zT k with oa := x.1, ox := x.2 }
 else orZ (pWhole pRec l) k fun x => { zT k with r := x }
theorem size46 : (Tryz.prog.info? 45).map (·.size) = some 30 := by kernel_rfl
end Go.Proofs.YthmkioodkldgbaaGreat.DK
/- eddylaw4.get, where the kind is 2; conditions: those in each theorem. -/
namespace Go.Proofs.YthmkioodkldgbaaGreat.DK
open Go.Proofs.YthmkioodkldgbaaGreat.PD
open Go.RowKit Go.Proofs.YthmkioodkldgbaaGreatW.PrintWords Go.Proofs.YthmkioodkldgbaaGreatW.PrintLast Go.Proofs.YthmkioodkldgbaaGreatW.PrintMore
set_option linter.unusedVariables false
set_option linter.unusedSimpArgs false
set_option maxRecDepth 100000
/-- What get hands out. -/
def GetP (w : World) (q : Int × Thg) (en : Ending) (w' : World) : Prop := ∃ (t : Thg) (a1 a2 a3 a4 a5 a6 a7 a8 a9 a10 a11 : Option Addr) (c1 c2 c3 c4 c5 c6 c7 c8 c9 c10 c11 : Nat) (e : Int), en = .returned (.tuple #[.agg #[.int .i64 t.kind, .string t.r.f0, .int .i64 t.r.f1.f0, .int .i64 t.r.f1.f1, .string t.r.f1.f2, .slice a1 t.r.f1.f3.length c1, .slice a2 t.r.f2.length c2, .int .i64 t.sn, .slice a3 t.sc.length c3, .int .i64 t.g.id, .int .i64 t.g.task, .int .i64 t.g.base, .int .u32 t.g.sum, .int .i64 t.g.snum, .slice a4 t.g.cells.length c4, .int .i64 t.g.dnum, .slice a5 t.g.set.length c5, .slice a6 t.g.gone.length c6, .slice a7 t.g.logs.length c7, .slice a8 t.g.pend.length c8, .int .i64 t.mi, .int .u32 t.ms, .slice a9 t.mr.length c9, .int .i64 t.oa, .string t.ox.f0, .int .i64 t.ox.f1.f0, .int .i64 t.ox.f1.f1, .string t.ox.f1.f2, .slice a10 t.ox.f1.f3.length c10, .slice a11 t.ox.f2.length c11], .int .i64 e]) ∧ ThIn w' t a1 a2 a3 a4 a5 a6 a7 a8 a9 a10 a11 c1 c2 c3 c4 c5 c6 c7 c8 c9 c10 c11 ∧ Below w.heap.size w w' ∧ q = (e, t)
theorem GetP.mk {w : World} {q : Int × Thg} {w' : World} (t : Thg) {a1 a2 a3 a4 a5 a6 a7 a8 a9 a10 a11 : Option Addr} {c1 c2 c3 c4 c5 c6 c7 c8 c9 c10 c11 : Nat} {e : Int} (h : ThIn w' t a1 a2 a3 a4 a5 a6 a7 a8 a9 a10 a11 c1 c2 c3 c4 c5 c6 c7 c8 c9 c10 c11) (hb : Below w.heap.size w w') (hq : q = (e, t)) : GetP w q (.returned (.tuple #[.agg #[.int .i64 t.kind, .string t.r.f0, .int .i64 t.r.f1.f0, .int .i64 t.r.f1.f1, .string t.r.f1.f2, .slice a1 t.r.f1.f3.length c1, .slice a2 t.r.f2.length c2, .int .i64 t.sn, .slice a3 t.sc.length c3, .int .i64 t.g.id, .int .i64 t.g.task, .int .i64 t.g.base, .int .u32 t.g.sum, .int .i64 t.g.snum, .slice a4 t.g.cells.length c4, .int .i64 t.g.dnum, .slice a5 t.g.set.length c5, .slice a6 t.g.gone.length c6, .slice a7 t.g.logs.length c7, .slice a8 t.g.pend.length c8, .int .i64 t.mi, .int .u32 t.ms, .slice a9 t.mr.length c9, .int .i64 t.oa, .string t.ox.f0, .int .i64 t.ox.f1.f0, .int .i64 t.ox.f1.f1, .string t.ox.f1.f2, .slice a10 t.ox.f1.f3.length c10, .slice a11 t.ox.f2.length c11], .int .i64 e])) w' := ⟨t, a1, a2, a3, a4, a5, a6, a7, a8, a9, a10, a11, c1, c2, c3, c4, c5, c6, c7, c8, c9, c10, c11, e, rfl, h, hb, hq⟩
section
variable {w : World} {b0 : Nat} {A : Option Addr} {c : Nat} {l : List Int} {k : Int}
set_option maxHeartbeats 40000000 in
theorem get2_calls (h2 : k = 2) (hi : In (Kd.int .u8) b0 w A l) (hc : l.length ≤ c) (hr : ∀ x ∈ l, 0 ≤ x ∧ x ≤ 255) : Calls Tryz.prog 11 #[.int .i64 k, .slice A l.length c] w (GetP w (pGet k l)) := by
 have HI := Aside0.mk (In.mk hi.C (Nat.le_refl _))
 have HC := Aside0.mk hc
 have HRG := Aside0.mk hr
 clear hi hc hr
 have h2b : (k == 2) = true := by simpa using h2
 have H2 := Aside0.mk h2
 clear h2
 go_enter Tryz.func11, Tryz.ntmps11
 have hN0 : ((w.alloc (.cells #[.int .i64 0, .string ⟨#[]⟩, .int .i64 0, .int .i64 0, .string ⟨#[]⟩, .slice none 0 0, .slice none 0 0, .int .i64 0, .slice none 0 0, .int .i64 0, .int .i64 0, .int .i64 0, .int .u32 0, .int .i64 0, .slice none 0 0, .int .i64 0, .slice none 0 0, .slice none 0 0, .slice none 0 0, .slice none 0 0, .int .i64 0, .int .u32 0, .slice none 0 0, .int .i64 0, .string ⟨#[]⟩, .int .i64 0, .int .i64 0, .string ⟨#[]⟩, .slice none 0 0, .slice none 0 0] 45)).alloc (.cells #[.int .i64 0, .string ⟨#[]⟩, .int .i64 0, .int .i64 0, .string ⟨#[]⟩, .slice none 0 0, .slice none 0 0, .int .i64 0, .slice none 0 0, .int .i64 0, .int .i64 0, .int .i64 0, .int .u32 0, .int .i64 0, .slice none 0 0, .int .i64 0, .slice none 0 0, .slice none 0 0, .slice none 0 0, .slice none 0 0, .int .i64 0, .int .u32 0, .slice none 0 0, .int .i64 0, .string ⟨#[]⟩, .int .i64 0, .int .i64 0, .string ⟨#[]⟩, .slice none 0 0, .slice none 0 0] 45)).heap[w.heap.size + 1]? = some (.cells #[.int .i64 0, .string ⟨#[]⟩, .int .i64 0, .int .i64 0, .string ⟨#[]⟩, .slice none 0 0, .slice none 0 0, .int .i64 0, .slice none 0 0, .int .i64 0, .int .i64 0, .int .i64 0, .int .u32 0, .int .i64 0, .slice none 0 0, .int .i64 0, .slice none 0 0, .slice none 0 0, .slice none 0 0, .slice none 0 0, .int .i64 0, .int .u32 0, .slice none 0 0, .int .i64 0, .string ⟨#[]⟩, .int .i64 0, .int .i64 0, .string ⟨#[]⟩, .slice none 0 0, .slice none 0 0] 45 (0, 0)) := new_at _ _ _ (by rw [size_alloc])
 have HN0 := Aside0.mk hN0
 clear hN0
 go_wp2_with (refine wpList_store_row ?z2_1 45 (.tmp 6) (.tmp 9) ?z2_2 ?z2_3 (w.heap.size + 1) ?z2_4 45 (#[.int .i64 0, .string ⟨#[]⟩, .int .i64 0, .int .i64 0, .string ⟨#[]⟩, .slice none 0 0, .slice none 0 0, .int .i64 0, .slice none 0 0, .int .i64 0, .int .i64 0, .int .i64 0, .int .u32 0, .int .i64 0, .slice none 0 0, .int .i64 0, .slice none 0 0, .slice none 0 0, .slice none 0 0, .slice none 0 0, .int .i64 0, .int .u32 0, .slice none 0 0, .int .i64 0, .string ⟨#[]⟩, .int .i64 0, .int .i64 0, .string ⟨#[]⟩, .slice none 0 0, .slice none 0 0]) [.int .i64 k, .string ⟨#[]⟩, .int .i64 0, .int .i64 0, .string ⟨#[]⟩, .slice none 0 0, .slice none 0 0, .int .i64 0, .slice none 0 0, .int .i64 0, .int .i64 0, .int .i64 0, .int .u32 0, .int .i64 0, .slice none 0 0, .int .i64 0, .slice none 0 0, .slice none 0 0, .slice none 0 0, .slice none 0 0, .int .i64 0, .int .u32 0, .slice none 0 0, .int .i64 0, .string ⟨#[]⟩, .int .i64 0, .int .i64 0, .string ⟨#[]⟩, .slice none 0 0, .slice none 0 0] ?z2_5 ?z2_6 ?z2_7 ?z2_8 ?z2_9 ?z2_0; (case z2_2 => rfl); (case z2_1 => rfl); (case z2_3 => rfl); (case z2_4 => rfl); (case z2_5 => rfl); (case z2_6 => exact HN0.out); (case z2_7 => rfl); (case z2_8 => exact size46); (case z2_9 => simp [Value.oneCell']))
 obtain ⟨hY0, hW2, hW3⟩ := filln HN0.out [.int .i64 k, .string ⟨#[]⟩, .int .i64 0, .int .i64 0, .string ⟨#[]⟩, .slice none 0 0, .slice none 0 0, .int .i64 0, .slice none 0 0, .int .i64 0, .int .i64 0, .int .i64 0, .int .u32 0, .int .i64 0, .slice none 0 0, .int .i64 0, .slice none 0 0, .slice none 0 0, .slice none 0 0, .slice none 0 0, .int .i64 0, .int .u32 0, .slice none 0 0, .int .i64 0, .string ⟨#[]⟩, .int .i64 0, .int .i64 0, .string ⟨#[]⟩, .slice none 0 0, .slice none 0 0] rfl
 have hB0 : Below w.heap.size w (sets ((w.alloc (.cells #[.int .i64 0, .string ⟨#[]⟩, .int .i64 0, .int .i64 0, .string ⟨#[]⟩, .slice none 0 0, .slice none 0 0, .int .i64 0, .slice none 0 0, .int .i64 0, .int .i64 0, .int .i64 0, .int .u32 0, .int .i64 0, .slice none 0 0, .int .i64 0, .slice none 0 0, .slice none 0 0, .slice none 0 0, .slice none 0 0, .int .i64 0, .int .u32 0, .slice none 0 0, .int .i64 0, .string ⟨#[]⟩, .int .i64 0, .int .i64 0, .string ⟨#[]⟩, .slice none 0 0, .slice none 0 0] 45)).alloc (.cells #[.int .i64 0, .string ⟨#[]⟩, .int .i64 0, .int .i64 0, .string ⟨#[]⟩, .slice none 0 0, .slice none 0 0, .int .i64 0, .slice none 0 0, .int .i64 0, .int .i64 0, .int .i64 0, .int .u32 0, .int .i64 0, .slice none 0 0, .int .i64 0, .slice none 0 0, .slice none 0 0, .slice none 0 0, .slice none 0 0, .int .i64 0, .int .u32 0, .slice none 0 0, .int .i64 0, .string ⟨#[]⟩, .int .i64 0, .int .i64 0, .string ⟨#[]⟩, .slice none 0 0, .slice none 0 0] 45)) (w.heap.size + 1) 0 [.int .i64 k, .string ⟨#[]⟩, .int .i64 0, .int .i64 0, .string ⟨#[]⟩, .slice none 0 0, .slice none 0 0, .int .i64 0, .slice none 0 0, .int .i64 0, .int .i64 0, .int .i64 0, .int .u32 0, .int .i64 0, .slice none 0 0, .int .i64 0, .slice none 0 0, .slice none 0 0, .slice none 0 0, .slice none 0 0, .int .i64 0, .int .u32 0, .slice none 0 0, .int .i64 0, .string ⟨#[]⟩, .int .i64 0, .int .i64 0, .string ⟨#[]⟩, .slice none 0 0, .slice none 0 0]) := (below_alloc (below_alloc (Below.refl _ _) _) _).trans ((hW3.below (Nat.le_of_lt (blk_lt HN0.out))).less (Nat.le_succ _))
 have hX0 := (hW2 w.heap.size (by omega)).trans (blk_alloc (heap_alloc_new w (.cells #[.int .i64 0, .string ⟨#[]⟩, .int .i64 0, .int .i64 0, .string ⟨#[]⟩, .slice none 0 0, .slice none 0 0, .int .i64 0, .slice none 0 0, .int .i64 0, .int .i64 0, .int .i64 0, .int .u32 0, .int .i64 0, .slice none 0 0, .int .i64 0, .slice none 0 0, .slice none 0 0, .slice none 0 0, .slice none 0 0, .int .i64 0, .int .u32 0, .slice none 0 0, .int .i64 0, .string ⟨#[]⟩, .int .i64 0, .int .i64 0, .string ⟨#[]⟩, .slice none 0 0, .slice none 0 0] 45)) (.cells #[.int .i64 0, .string ⟨#[]⟩, .int .i64 0, .int .i64 0, .string ⟨#[]⟩, .slice none 0 0, .slice none 0 0, .int .i64 0, .slice none 0 0, .int .i64 0, .int .i64 0, .int .i64 0, .int .u32 0, .int .i64 0, .slice none 0 0, .int .i64 0, .slice none 0 0, .slice none 0 0, .slice none 0 0, .slice none 0 0, .int .i64 0, .int .u32 0, .slice none 0 0, .int .i64 0, .string ⟨#[]⟩, .int .i64 0, .int .i64 0, .string ⟨#[]⟩, .slice none 0 0, .slice none 0 0] 45))
 clear hW2 hW3 HN0
 generalize (sets ((w.alloc (.cells #[.int .i64 0, .string ⟨#[]⟩, .int .i64 0, .int .i64 0, .string ⟨#[]⟩, .slice none 0 0, .slice none 0 0, .int .i64 0, .slice none 0 0, .int .i64 0, .int .i64 0, .int .i64 0, .int .u32 0, .int .i64 0, .slice none 0 0, .int .i64 0, .slice none 0 0, .slice none 0 0, .slice none 0 0, .slice none 0 0, .int .i64 0, .int .u32 0, .slice none 0 0, .int .i64 0, .string ⟨#[]⟩, .int .i64 0, .int .i64 0, .string ⟨#[]⟩, .slice none 0 0, .slice none 0 0] 45)).alloc (.cells #[.int .i64 0, .string ⟨#[]⟩, .int .i64 0, .int .i64 0, .string ⟨#[]⟩, .slice none 0 0, .slice none 0 0, .int .i64 0, .slice none 0 0, .int .i64 0, .int .i64 0, .int .i64 0, .int .u32 0, .int .i64 0, .slice none 0 0, .int .i64 0, .slice none 0 0, .slice none 0 0, .slice none 0 0, .slice none 0 0, .int .i64 0, .int .u32 0, .slice none 0 0, .int .i64 0, .string ⟨#[]⟩, .int .i64 0, .int .i64 0, .string ⟨#[]⟩, .slice none 0 0, .slice none 0 0] 45)) (w.heap.size + 1) 0 [.int .i64 k, .string ⟨#[]⟩, .int .i64 0, .int .i64 0, .string ⟨#[]⟩, .slice none 0 0, .slice none 0 0, .int .i64 0, .slice none 0 0, .int .i64 0, .int .i64 0, .int .i64 0, .int .u32 0, .int .i64 0, .slice none 0 0, .int .i64 0, .slice none 0 0, .slice none 0 0, .slice none 0 0, .slice none 0 0, .int .i64 0, .int .u32 0, .slice none 0 0, .int .i64 0, .string ⟨#[]⟩, .int .i64 0, .int .i64 0, .string ⟨#[]⟩, .slice none 0 0, .slice none 0 0]) = W0 at *
 refine (GetSt_calls (HI.out.ext hB0) HC.out HRG.out).mono ?_
 rintro en w1 ⟨x, v1, e, rfl, h1, hb, hq⟩
 have hsz1 := hb.size
 have hw0 := hB0.size
 have hy0 := blk_lt hY0
 obtain ⟨sa1, sn1, sc1, rfl⟩ : ∃ A n c, v1 = .slice A n c := (Kd.R_slice h1).elim (fun A h => h.elim (fun c h => ⟨A, _, c, h⟩))
 have HQ1 := Aside0.mk (Kd.R_lower (base' := w.heap.size + 1 + 1) h1 (by omega))
 clear h1
 have HX := Aside0.mk ((hb.block w.heap.size (by omega)).trans hX0)
 have HY := Aside0.mk ((hb.block (w.heap.size + 1) (by omega)).trans hY0)
 have HB := Aside0.mk (hB0.trans (hb.mono hw0))
 have HE := Aside0.mk hq
 clear hb hq hB0 hX0 hY0
 have j0 := blk_cell HY.out 7
 have g0 := blk_frozen HY.out 7
 have j1 := blk_cell HY.out 8
 have g1 := blk_frozen HY.out 8
 simp only [List.getElem?_toArray, List.getElem?_cons_succ, List.getElem?_cons_zero] at j0 j1
 replace HQ1 := Aside0.mk (Kd.R_mono (ok' := News w) (Kd.R_far (Kd.R_bound HQ1.out) (p := ⟨w.heap.size + 1, 7, none⟩) (fun k hk => Nat.ne_of_gt (Nat.lt_of_succ_le hk.2.1)) (.int .i64 x.1)) (fun _ _ => trivial))
 replace HX := Aside0.mk ((Below.heap_setCell _ ⟨w.heap.size + 1, 7, none⟩ (.int .i64 x.1) w.heap.size (show w.heap.size ≠ w.heap.size + 1 by omega)).trans HX.out)
 replace HB := Aside0.mk (HB.out.trans (((UT.refl [45] (w.heap.size + 1) _).set HY.out (by simp) (Nat.le_refl _) 7 (.int .i64 x.1)).below (Nat.le_of_lt (blk_lt HY.out)) |>.less (Nat.le_succ _)))
 replace HY := Aside0.mk (blk_set (i := 7) (v := .int .i64 x.1) HY.out)
 replace HY := Aside0.mk (show (w1.setCell ⟨w.heap.size + 1, 7, none⟩ (.int .i64 x.1)).heap[w.heap.size + 1]? = some (.cells #[.int .i64 k, .string ⟨#[]⟩, .int .i64 0, .int .i64 0, .string ⟨#[]⟩, .slice none 0 0, .slice none 0 0, .int .i64 x.1, .slice none 0 0, .int .i64 0, .int .i64 0, .int .i64 0, .int .u32 0, .int .i64 0, .slice none 0 0, .int .i64 0, .slice none 0 0, .slice none 0 0, .slice none 0 0, .slice none 0 0, .int .i64 0, .int .u32 0, .slice none 0 0, .int .i64 0, .string ⟨#[]⟩, .int .i64 0, .int .i64 0, .string ⟨#[]⟩, .slice none 0 0, .slice none 0 0] 45 (0, 0)) from HY.out)
 replace HQ1 := Aside0.mk (Kd.R_mono (ok' := News w) (Kd.R_far (Kd.R_bound HQ1.out) (p := ⟨w.heap.size + 1, 8, none⟩) (fun k hk => Nat.ne_of_gt (Nat.lt_of_succ_le hk.2.1)) (.slice sa1 sn1 sc1)) (fun _ _ => trivial))
 replace HX := Aside0.mk ((Below.heap_setCell _ ⟨w.heap.size + 1, 8, none⟩ (.slice sa1 sn1 sc1) w.heap.size (show w.heap.size ≠ w.heap.size + 1 by omega)).trans HX.out)
 replace HB := Aside0.mk (HB.out.trans (((UT.refl [45] (w.heap.size + 1) _).set HY.out (by simp) (Nat.le_refl _) 8 (.slice sa1 sn1 sc1)).below (Nat.le_of_lt (blk_lt HY.out)) |>.less (Nat.le_succ _)))
 replace HY := Aside0.mk (blk_set (i := 8) (v := .slice sa1 sn1 sc1) HY.out)
 replace HY := Aside0.mk (show ((w1.setCell ⟨w.heap.size + 1, 7, none⟩ (.int .i64 x.1)).setCell ⟨w.heap.size + 1, 8, none⟩ (.slice sa1 sn1 sc1)).heap[w.heap.size + 1]? = some (.cells #[.int .i64 k, .string ⟨#[]⟩, .int .i64 0, .int .i64 0, .string ⟨#[]⟩, .slice none 0 0, .slice none 0 0, .int .i64 x.1, .slice sa1 sn1 sc1, .int .i64 0, .int .i64 0, .int .i64 0, .int .u32 0, .int .i64 0, .slice none 0 0, .int .i64 0, .slice none 0 0, .slice none 0 0, .slice none 0 0, .slice none 0 0, .int .i64 0, .int .u32 0, .slice none 0 0, .int .i64 0, .string ⟨#[]⟩, .int .i64 0, .int .i64 0, .string ⟨#[]⟩, .slice none 0 0, .slice none 0 0] 45 (0, 0)) from HY.out)
 replace HY := Aside0.mk (show ((w1.setCell ⟨w.heap.size + 1, 7, none⟩ (.int .i64 x.1)).setCell ⟨w.heap.size + 1, 8, none⟩ (.slice sa1 sn1 sc1)).heap[w.heap.size + 1]? = some (.cells #[.int .i64 k, .string ⟨#[]⟩, .int .i64 0, .int .i64 0, .string ⟨#[]⟩, .slice none 0 0, .slice none 0 0, .int .i64 x.1, .slice sa1 sn1 sc1, .int .i64 0, .int .i64 0, .int .i64 0, .int .u32 0, .int .i64 0, .slice none 0 0, .int .i64 0, .slice none 0 0, .slice none 0 0, .slice none 0 0, .slice none 0 0, .int .i64 0, .int .u32 0, .slice none 0 0, .int .i64 0, .string ⟨#[]⟩, .int .i64 0, .int .i64 0, .string ⟨#[]⟩, .slice none 0 0, .slice none 0 0] 45 (0, 0)) from HY.out)
 go_wp2
 refine start_ (n := 5) (S := fun w' => w'.heap[w.heap.size + 1]? = some (.cells #[.int .i64 k, .string ⟨#[]⟩, .int .i64 0, .int .i64 0, .string ⟨#[]⟩, .slice none 0 0, .slice none 0 0, .int .i64 x.1, .slice sa1 sn1 sc1, .int .i64 0, .int .i64 0, .int .i64 0, .int .u32 0, .int .i64 0, .slice none 0 0, .int .i64 0, .slice none 0 0, .slice none 0 0, .slice none 0 0, .slice none 0 0, .int .i64 0, .int .u32 0, .slice none 0 0, .int .i64 0, .string ⟨#[]⟩, .int .i64 0, .int .i64 0, .string ⟨#[]⟩, .slice none 0 0, .slice none 0 0] 45 (0, 0))) (ds := []) #[false, false, false, false, false] (by kernel_rfl) rfl rfl ((blk_drew HY.out)) (fun hHeld => ?_)
 refine zq 1 (some 50) ?_
 refine take_ (i := 0) (N := some 49) (v := ?_) (a' := ?_) #[true, true, false, false, false] rfl rfl (by kernel_rfl) (fun _ _ _ h => h) (Or.inl ⟨by rfl, ?_⟩) hHeld ?_ ?_
 rotate_left
 ·intro w' s0
  refine load_row_run 45 (.tmp 6) ?_ (w.heap.size + 1) ?_ 45 _ (0, 0) _ s0 Tryz.underlying45 rfl size46
  all_goals rfl
 rotate_left
 ·simp only [Act.put, zla, zlb, zlc, i64_w, i32_w]
  rfl
 refine one_ (i := 2) (N := some 51) #[true, true, true, false, false] rfl rfl (by kernel_rfl) (by decide) (fun K hK => ?_)
 refine goes_ Tryz.func21 (by kernel_rfl) rfl #[.int .i64 e] (by rfl) rfl rfl (by simp only [List.map_toArray, List.map_cons, List.map_nil]; rfl) ?_
 refine (eddylaw4_num.calls e e _ rfl).mono ?_
 rintro en w5 ⟨rfl, hdn⟩
 have hb5 := hdn.below
 refine ⟨_, rfl, ?_⟩
 have HX5 := Aside0.mk (blk_below (blk_drew HX.out) hb5)
 have HY5 := Aside0.mk (blk_below (blk_drew HY.out) hb5)
 have HB5 := Aside0.mk ((below_drew HB.out).trans (hb5.mono (below_drew HB.out).size))
 have HR1 := Aside0.mk (Kd.R_below (Kd.R_below HQ1.out (below_drew (Below.refl _ _))) hb5)
 refine hK.out _ _ (HY5.out) (fun hHeld => ?_)
 clear hK K
 refine norm_ (a' := ?_) ?_ ?_
 rotate_left
 ·show Act.put _ (some 51) _ = _
  simp only [Act.put, zla, zlb, zlc, i64_w, i32_w]
  rfl
 refine one_ (i := 3) (N := none) #[true, true, true, true, false] rfl rfl (by kernel_rfl) (by decide) (fun K hK => ?_)
 refine skip_ (w1 := sets w5 w.heap.size 0 [.int .i64 k, .string ⟨#[]⟩, .int .i64 0, .int .i64 0, .string ⟨#[]⟩, .slice none 0 0, .slice none 0 0, .int .i64 x.1, .slice sa1 sn1 sc1, .int .i64 0, .int .i64 0, .int .i64 0, .int .u32 0, .int .i64 0, .slice none 0 0, .int .i64 0, .slice none 0 0, .slice none 0 0, .slice none 0 0, .slice none 0 0, .int .i64 0, .int .u32 0, .slice none 0 0, .int .i64 0, .string ⟨#[]⟩, .int .i64 0, .int .i64 0, .string ⟨#[]⟩, .slice none 0 0, .slice none 0 0]) (by rfl) rfl ?_ ?_
 ·refine store_row_run 45 (.tmp 4) (.tmp 49) ?_ w.heap.size ?_ 45 _ #[.int .i64 k, .string ⟨#[]⟩, .int .i64 0, .int .i64 0, .string ⟨#[]⟩, .slice none 0 0, .slice none 0 0, .int .i64 x.1, .slice sa1 sn1 sc1, .int .i64 0, .int .i64 0, .int .i64 0, .int .u32 0, .int .i64 0, .slice none 0 0, .int .i64 0, .slice none 0 0, .slice none 0 0, .slice none 0 0, .slice none 0 0, .int .i64 0, .int .u32 0, .slice none 0 0, .int .i64 0, .string ⟨#[]⟩, .int .i64 0, .int .i64 0, .string ⟨#[]⟩, .slice none 0 0, .slice none 0 0] ?_ HX5.out rfl size46 ?_
  ·rfl
  ·rfl
  ·rfl
  ·simp [Value.oneCell']
 obtain ⟨hW1, hW2, hW3⟩ := filln HX5.out [.int .i64 k, .string ⟨#[]⟩, .int .i64 0, .int .i64 0, .string ⟨#[]⟩, .slice none 0 0, .slice none 0 0, .int .i64 x.1, .slice sa1 sn1 sc1, .int .i64 0, .int .i64 0, .int .i64 0, .int .u32 0, .int .i64 0, .slice none 0 0, .int .i64 0, .slice none 0 0, .slice none 0 0, .slice none 0 0, .slice none 0 0, .int .i64 0, .int .u32 0, .slice none 0 0, .int .i64 0, .string ⟨#[]⟩, .int .i64 0, .int .i64 0, .string ⟨#[]⟩, .slice none 0 0, .slice none 0 0] rfl
 have HG := Aside0.mk hW1
 have HF := Aside0.mk hW2
 have HT := Aside0.mk hW3
 clear hW1 hW2 hW3
 refine hK.out _ _ (((HF.out (w.heap.size + 1) (by omega)).trans HY5.out)) (fun hHeld => ?_)
 clear hK K
 refine zq 4 (some 5) ?_
 refine done_ (by kernel_rfl) ?_
 (try simp only [Exit.then])
 go_wp2
 (try simp only [Exit.inBlock, Exit.then])
 refine bodyPost_ret (results_ct rfl _ _ w.heap.size 45 _ (0, 0) _ rfl HG.out Tryz.underlying45 rfl size46) rfl ?_
 obtain ⟨_, _, ee, hl1, hC1⟩ := Kd.R_reads (Kd.R_mono (ok' := News w) (Kd.R_move (Kd.R_bound HR1.out) (fun q hq => HF.out q (by have := hq.2.1; omega))) (fun _ _ => trivial))
 injection ee with q1 q2 q3
 subst q1 q2 q3
 exact GetP.mk ⟨k, ⟨⟨#[]⟩, ⟨0, 0, ⟨#[]⟩, []⟩, []⟩, x.1, x.2, ⟨0, 0, 0, 0, 0, [], 0, [], [], [], []⟩, 0, 0, [], 0, ⟨⟨#[]⟩, ⟨0, 0, ⟨#[]⟩, []⟩, []⟩⟩ ⟨⟨rfl, Nat.zero_le _, fun hh => absurd hh (Nat.lt_irrefl _)⟩, ⟨rfl, Nat.zero_le _, fun hh => absurd hh (Nat.lt_irrefl _)⟩, hC1, ⟨rfl, Nat.zero_le _, fun hh => absurd hh (Nat.lt_irrefl _)⟩, ⟨rfl, Nat.zero_le _, fun hh => absurd hh (Nat.lt_irrefl _)⟩, ⟨rfl, Nat.zero_le _, fun hh => absurd hh (Nat.lt_irrefl _)⟩, ⟨rfl, Nat.zero_le _, fun hh => absurd hh (Nat.lt_irrefl _)⟩, ⟨rfl, Nat.zero_le _, fun hh => absurd hh (Nat.lt_irrefl _)⟩, ⟨rfl, Nat.zero_le _, fun hh => absurd hh (Nat.lt_irrefl _)⟩, ⟨rfl, Nat.zero_le _, fun hh => absurd hh (Nat.lt_irrefl _)⟩, ⟨rfl, Nat.zero_le _, fun hh => absurd hh (Nat.lt_irrefl _)⟩, Nat.zero_le _, Nat.zero_le _, hl1, Nat.zero_le _, Nat.zero_le _, Nat.zero_le _, Nat.zero_le _, Nat.zero_le _, Nat.zero_le _, Nat.zero_le _, Nat.zero_le _⟩ (HB5.out.trans (HT.out.below HB5.out.size)) (by rw [pGet, if_pos H2.out]; rcases HE.out with ⟨rfl, hq⟩ | ⟨_, hq, rfl⟩ <;> (rw [hq]; rfl))
end
end Go.Proofs.YthmkioodkldgbaaGreat.DK
