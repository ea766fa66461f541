/- eddylaw4.only whatever the kind; the marks, plainly; conditions: those in each theorem. -/
import Derived.Test.YthmkioodkldgbaaGreatQcM36
import Derived.Test.YthmkioodkldgbaaGreatQcM24
import Derived.Test.YthmkioodkldgbaaGreatQcM34
namespace Go.Proofs.YthmkioodkldgbaaGreat.DK
open Go.Proofs.YthmkioodkldgbaaGreat.PD
open Go.RowKit Go.Proofs.YthmkioodkldgbaaGreatW.PrintWords
theorem only_calls {w0 w : World} {t : Thg} {a1 a2 a3 a4 a5 a6 a7 a8 a9 a10 a11 : Option Addr} {c1 c2 c3 c4 c5 c6 c7 c8 c9 c10 c11 : Nat} (hi : ThIn w0 t a1 a2 a3 a4 a5 a6 a7 a8 a9 a10 a11 c1 c2 c3 c4 c5 c6 c7 c8 c9 c10 c11) : Calls Tryz.prog 9 #[.agg #[.int .i64 t.kind, .string t.r.f0, .int .i64 t.r.f1.f0, .int .i64 t.r.f1.f1, .string t.r.f1.f2, .slice a1 t.r.f1.f3.length c1, .slice a2 t.r.f2.length c2, .int .i64 t.sn, .slice a3 t.sc.length c3, .int .i64 t.g.id, .int .i64 t.g.task, .int .i64 t.g.base, .int .u32 t.g.sum, .int .i64 t.g.snum, .slice a4 t.g.cells.length c4, .int .i64 t.g.dnum, .slice a5 t.g.set.length c5, .slice a6 t.g.gone.length c6, .slice a7 t.g.logs.length c7, .slice a8 t.g.pend.length c8, .int .i64 t.mi, .int .u32 t.ms, .slice a9 t.mr.length c9, .int .i64 t.oa, .string t.ox.f0, .int .i64 t.ox.f1.f0, .int .i64 t.ox.f1.f1, .string t.ox.f1.f2, .slice a10 t.ox.f1.f3.length c10, .slice a11 t.ox.f2.length c11]] w (ThgP w0 w (onlyT t)) := by
 by_cases h2 : t.kind = 2
 ·exact only2_calls h2 hi
 by_cases h3 : t.kind = 3
 ·exact only3_calls h2 h3 hi
 by_cases h4 : t.kind = 4
 ·exact only4_calls h2 h3 h4 hi
 by_cases h5 : t.kind = 5
 ·exact only5_calls h2 h3 h4 h5 hi
 exact only1_calls h2 h3 h4 h5 hi
theorem onlyT_ok {t : Thg} (h : t.Ok) : (onlyT t).Ok := by
 unfold onlyT
 split
 ·exact ⟨(zT_ok 2).r, h.sc, (zT_ok 2).g, (zT_ok 2).ms, (zT_ok 2).mr, (zT_ok 2).ox⟩
 split
 ·exact ⟨(zT_ok 3).r, (zT_ok 3).sc, h.g, (zT_ok 3).ms, (zT_ok 3).mr, (zT_ok 3).ox⟩
 split
 ·exact ⟨(zT_ok 4).r, (zT_ok 4).sc, (zT_ok 4).g, h.ms, h.mr, (zT_ok 4).ox⟩
 split
 ·exact ⟨(zT_ok 5).r, (zT_ok 5).sc, (zT_ok 5).g, (zT_ok 5).ms, (zT_ok 5).mr, h.ox⟩
 exact ⟨h.r, (zT_ok 1).sc, (zT_ok 1).g, (zT_ok 1).ms, (zT_ok 1).mr, (zT_ok 1).ox⟩
end Go.Proofs.YthmkioodkldgbaaGreat.DK
/- Reading and writing agree: segments, things whole; conditions: those in each theorem. (Plain Lean.) -/
namespace Go.Proofs.YthmkioodkldgbaaGreat.DK
open Go.Proofs.YthmkioodkldgbaaGreat.PD
open Go.RowKit Go.Proofs.YthmkioodkldgbaaGreatW.PrintWords
set_option linter.unusedVariables false
set_option linter.unusedSimpArgs false
def FrtQ (f : Frt) : Prop := ((True ∧ 0 ≤ f.1.1.2 ∧ f.1.1.2 ≤ 9999) ∧ 0 ≤ f.1.2 ∧ f.1.2 ≤ 11) ∧ 0 ≤ f.2 ∧ f.2 ≤ 9999
theorem front_law : Law pFront (fun f => (([83] ++ grp f.1.1.2) ++ grp f.1.2) ++ grp f.2) FrtQ :=
 (((mark_law 83).and (num_law (most := 9999) (by decide))).and (num_law (most := 11) (by decide))).and (num_law (most := 9999) (by decide))
/-- What a whole snapshot's segment holds, what a difference's does. -/
def SegA (s : Seg) : Prop := (StQ s.snum s.cells ∧ LogsQ s.logs) ∧ RecsQ s.pend
def SegB (s : Seg) : Prop := (((((0 ≤ s.sum ∧ s.sum ≤ 4294967295) ∧ (0 ≤ s.dnum ∧ s.dnum ≤ 1073741824)) ∧ ((s.set.length : Int) ≤ 64 ∧ Many CellQ [] s.set)) ∧ goneC s.gone = 0) ∧ LogsQ s.logs) ∧ RecsQ s.pend
theorem segA_law (f : Frt) (hf : f.2 = 0) : Law (pSegA f) (fun s => (encSt s.snum s.cells ++ lst (lst encR) s.logs) ++ lst encR s.pend) (fun s => s = ⟨f.1.1.2, f.1.2, 0, 0, s.snum, s.cells, 0, [], [], s.logs, s.pend⟩ ∧ SegA s) :=
 ((st_law.and logs_law).and recs_law).map _ (fun s => (((s.snum, s.cells), s.logs), s.pend)) (fun x hx => ⟨⟨by rw [hf], hx⟩, rfl⟩) (fun s hs => ⟨hs.2, by rw [hf]; exact hs.1.symm, rfl⟩)
theorem segB_law (f : Frt) : Law (pSegB f) (fun s => ((((word s.sum ++ grp s.dnum) ++ lst encC s.set) ++ lst keyB s.gone) ++ lst (lst encR) s.logs) ++ lst encR s.pend) (fun s => s = ⟨f.1.1.2, f.1.2, f.2, s.sum, 0, [], s.dnum, s.set, s.gone, s.logs, s.pend⟩ ∧ SegB s) :=
 (((((word_law.and (num_law (most := 1073741824) (by decide))).and cells_law).and gone_law).and logs_law).and recs_law).map _ (fun s => (((((s.sum, s.dnum), s.set), s.gone), s.logs), s.pend)) (fun x hx => ⟨⟨rfl, hx⟩, rfl⟩) (fun s hs => ⟨hs.2, hs.1.symm, rfl⟩)
def SegQ (s : Seg) : Prop := s.Ok ∧ segC s = 0
/-- What fits, field by field. -/
structure SegF (s : Seg) : Prop where
 front : FrtQ ((((), s.id), s.task), s.base)
 a : s.base = 0 → s = ⟨s.id, s.task, 0, 0, s.snum, s.cells, 0, [], [], s.logs, s.pend⟩ ∧ SegA s
 b : s.base ≠ 0 → s = ⟨s.id, s.task, s.base, s.sum, 0, [], s.dnum, s.set, s.gone, s.logs, s.pend⟩ ∧ SegB s
theorem SegF.fits {s : Seg} (h : SegF s) : SegQ s := by
 obtain ⟨⟨⟨⟨_, h1⟩, h2⟩, h3⟩, ha, hb⟩ := h
 dsimp only at h1 h2 h3
 by_cases hz : s.base = 0
 ·obtain ⟨e, ⟨hs, hl⟩, hp⟩ := ha hz
  have hlp := logsC_iff.2 ⟨hl, hp⟩
  have e1 : s.sum = 0 := by rw [e]
  have e2 : s.dnum = 0 := by rw [e]
  have e3 : s.set = [] := by rw [e]
  have e4 : s.gone = [] := by rw [e]
  refine ⟨⟨by omega, hs.2, by rw [e3]; simp, hlp.1, hlp.2.1⟩, ?_⟩
  unfold segC
  rw [if_neg (by omega), if_neg (by unfold noDelta; rw [e1, e2, e3, e4]; simp; omega), show bodyC s = 0 from by unfold bodyC; rw [if_pos hz]; exact hs.1, if_pos rfl]
  exact hlp.2.2
 ·obtain ⟨e, ⟨⟨⟨⟨hs, hn⟩, hc⟩, hg⟩, hl⟩, hp⟩ := hb hz
  have hlp := logsC_iff.2 ⟨hl, hp⟩
  have e1 : s.snum = 0 := by rw [e]
  have e2 : s.cells = [] := by rw [e]
  have hst := stQ_iff.2 ⟨hn, hc⟩
  refine ⟨⟨hs, by rw [e2]; simp, hst.2, hlp.1, hlp.2.1⟩, ?_⟩
  unfold segC
  rw [if_neg (by omega), if_neg (by unfold noState; rw [e1, e2]; simp; omega), show bodyC s = 0 from by unfold bodyC; rw [if_neg hz, if_pos hst.1]; exact hg, if_pos rfl]
  exact hlp.2.2
theorem SegQ.fields {s : Seg} (h : SegQ s) : SegF s := by
 obtain ⟨ho, h⟩ := h
 unfold segC at h
 split at h
 ·simp at h
 rename_i h1
 split at h
 ·simp at h
 rename_i h2
 split at h
 ·rename_i h3
  have hlp := logsC_iff.1 ⟨ho.logs, ho.pend, h⟩
  refine ⟨⟨⟨⟨trivial, by dsimp only; omega⟩, by dsimp only; omega⟩, by dsimp only; omega⟩, fun hz => ?_, fun hz => ?_⟩
  ·have hd : noDelta s := Classical.not_not.1 fun hd => h2 (.inl ⟨hz, hd⟩)
   unfold bodyC at h3
   rw [if_pos hz] at h3
   obtain ⟨d1, d2, d3, d4⟩ := hd
   refine ⟨?_, ⟨⟨h3, ho.cells⟩, hlp.1⟩, hlp.2⟩
   obtain ⟨a, b, c, d, e, f, g, i, j, k, l⟩ := s
   simp only at hz d1 d2 d3 d4 ⊢
   rw [hz, d1, d2, List.length_eq_zero_iff.1 d3, List.length_eq_zero_iff.1 d4]
  ·have hd : noState s := Classical.not_not.1 fun hd => h2 (.inr ⟨by omega, hd⟩)
   unfold bodyC at h3
   rw [if_neg hz] at h3
   split at h3
   ·rename_i h4
    have hst := stQ_iff.1 (⟨h4, ho.set⟩ : StQ s.dnum s.set)
    obtain ⟨d1, d2⟩ := hd
    refine ⟨?_, ⟨⟨⟨⟨ho.sum, hst.1⟩, hst.2⟩, h3⟩, hlp.1⟩, hlp.2⟩
    obtain ⟨a, b, c, d, e, f, g, i, j, k, l⟩ := s
    simp only at hz d1 d2 ⊢
    rw [d1, List.length_eq_zero_iff.1 d2]
   ·rename_i h4; exact absurd h3 h4
 ·rename_i h3; exact absurd h h3
theorem seg_law : Law pSeg encSeg SegQ where
 one := fun l s l' hb hp => by
  unfold pSeg at hp
  obtain ⟨f, m, e1, e2⟩ := Rd.bind_inv hp
  obtain ⟨q1, rfl⟩ := front_law.one _ _ _ hb e1
  obtain ⟨⟨⟨u, i⟩, t⟩, b⟩ := f
  cases u
  split at e2
  ·rename_i hz
   obtain ⟨⟨e3, q2⟩, rfl⟩ := (segA_law _ hz).one _ _ _ hb.right e2
   dsimp only at hz e3
   subst hz
   have k1 : s.id = i := by rw [e3]
   have k2 : s.task = t := by rw [e3]
   have k3 : s.base = 0 := by rw [e3]
   refine ⟨SegF.fits ⟨by rw [k1, k2, k3]; exact q1, fun _ => ⟨by rw [k1, k2]; exact e3, q2⟩, fun h => absurd k3 h⟩, ?_⟩
   unfold encSeg encFront encLogs
   rw [if_pos k3, k1, k2, k3]
   simp only [List.append_assoc, List.cons_append, List.nil_append]
  ·rename_i hz
   obtain ⟨⟨e3, q2⟩, rfl⟩ := (segB_law _).one _ _ _ hb.right e2
   dsimp only at hz e3
   have k1 : s.id = i := by rw [e3]
   have k2 : s.task = t := by rw [e3]
   have k3 : s.base = b := by rw [e3]
   refine ⟨SegF.fits ⟨by rw [k1, k2, k3]; exact q1, fun h => absurd (k3.symm.trans h) hz, fun _ => ⟨by rw [k1, k2, k3]; exact e3, q2⟩⟩, ?_⟩
   unfold encSeg encFront encLogs encDelta
   rw [k3, if_neg hz, k1, k2]
   simp only [List.append_assoc, List.cons_append, List.nil_append]
 back := fun s l' hq => by
  obtain ⟨hf, ha, hb⟩ := SegQ.fields hq
  have e : encSeg s ++ l' = ((([83] ++ grp s.id) ++ grp s.task) ++ grp s.base) ++ ((if s.base = 0 then encSt s.snum s.cells else encDelta s) ++ encLogs s ++ l') := by
   unfold encSeg encFront
   simp only [List.append_assoc, List.cons_append, List.nil_append]
  unfold pSeg
  rw [e, front_law.back ((((), s.id), s.task), s.base) _ hf, Rd.bind_ok]
  dsimp only
  by_cases hz : s.base = 0
  ·rw [if_pos hz, if_pos hz]
   obtain ⟨e1, q1⟩ := ha hz
   have h := (segA_law ((((), s.id), s.task), s.base) hz).back s l' ⟨e1, q1⟩
   rw [← h]
   unfold encLogs
   simp only [List.append_assoc]
  ·rw [if_neg hz, if_neg hz]
   obtain ⟨e1, q1⟩ := hb hz
   have h := (segB_law ((((), s.id), s.task), s.base)).back s l' ⟨e1, q1⟩
   rw [← h]
   unfold encLogs encDelta
   simp only [List.append_assoc]
 bad := front_law.bad.bind fun f l c h => by
  split at h
  ·rename_i hz; exact (segA_law f hz).bad l c h
  ·exact (segB_law f).bad l c h
/-! Whole. -/
section
variable {α : Type} {p : List Int → Rd α} {f : α → List Int} {q : α → Prop}
theorem Law.whole_back (h : Law p f q) {x : α} (hq : q x) : pWhole p (f x) = .ok x [] := by
 have e := h.back x [] hq
 rw [List.append_nil] at e
 rw [pWhole, e, Rd.bind_ok, if_pos rfl]
theorem Law.whole_more (h : Law p f q) {x : α} (hq : q x) {m : List Int} (hm : m ≠ []) : pWhole p (f x ++ m) = .bad 44 := by
 rw [pWhole, h.back x m hq, Rd.bind_ok, if_neg hm]
theorem Law.inj (h : Law p f q) {x y : α} (hx : q x) (hy : q y) (e : f x = f y) : x = y := by
 have h1 := h.back x [] hx
 rw [e, h.back y [] hy] at h1
 injection h1 with h1 _
 exact h1.symm
/-- Cut short, it is never taken. -/
theorem Law.cut (h : Law p f q) {x : α} (hq : q x) (hb : Byt (f x)) {n : Nat} (hn : n < (f x).length) : ∃ c, p ((f x).take n) = .bad c := by
 cases e : p ((f x).take n) with
 | bad c => exact ⟨c, rfl⟩
 | ok y m =>
  exfalso
  have e0 := List.take_append_drop n (f x)
  have hb1 : Byt ((f x).take n) := fun z hz => hb z (List.mem_of_mem_take hz)
  obtain ⟨q2, e2⟩ := h.one _ _ _ hb1 e
  have h1 := h.back x [] hq
  have h2 := h.back y (m ++ (f x).drop n) q2
  rw [← List.append_assoc, ← e2, e0] at h2
  rw [List.append_nil, h2] at h1
  injection h1 with _ h3
  have h4 := congrArg List.length h3
  simp only [List.length_append, List.length_drop, List.length_nil] at h4
  omega
end
/-- A thing that fits. -/
def ThgQ (t : Thg) : Prop := t.Ok ∧ putC t = 0
theorem putC_rec {t : Thg} (h2 : ¬ t.kind = 2) (h3 : ¬ t.kind = 3) (h4 : ¬ t.kind = 4) (h5 : ¬ t.kind = 5) : putC t = recC t.r ∧ putB t = encR t.r := by
 unfold putC putB
 rw [if_neg h2, if_neg h3, if_neg h4, if_neg h5, if_neg h2, if_neg h3, if_neg h4, if_neg h5]
 exact ⟨rfl, rfl⟩
/-- WireRound, plainly: what is written is read back. -/
theorem get_back {t : Thg} (ht : ThgQ t) : pGet t.kind (putB t) = (0, { onlyT t with kind := t.kind }) := by
 obtain ⟨ho, hc⟩ := ht
 unfold putC at hc
 unfold pGet putB onlyT
 split
 ·rename_i h2
  rw [if_pos h2] at hc
  rw [st_law.whole_back (x := (t.sn, t.sc)) ⟨hc, ho.sc⟩, h2]
  rfl
 rename_i h2
 rw [if_neg h2] at hc
 split
 ·rename_i h3
  rw [if_pos h3] at hc
  rw [seg_law.whole_back (x := t.g) ⟨ho.g, hc⟩, h3]
  rfl
 rename_i h3
 rw [if_neg h3] at hc
 split
 ·rename_i h4
  rw [if_pos h4] at hc
  rw [man_law.whole_back (x := (t.mi, t.ms, t.mr)) ⟨hc, ho.ms, ho.mr⟩, h4]
  rfl
 rename_i h4
 rw [if_neg h4] at hc
 split
 ·rename_i h5
  rw [if_pos h5] at hc
  rw [out_law.whole_back (x := (t.oa, t.ox)) ⟨ho.ox, hc⟩, h5]
  rfl
 rename_i h5
 rw [if_neg h5] at hc
 rw [rec_law.whole_back (x := t.r) ⟨ho.r, hc⟩]
 rfl
end Go.Proofs.YthmkioodkldgbaaGreat.DK
/- What is written of a thing, cut short or with bytes behind it, is not read; unlike things have unlike bytes; conditions: those in each theorem. (Plain Lean.) -/
namespace Go.Proofs.YthmkioodkldgbaaGreat.DK
open Go.Proofs.YthmkioodkldgbaaGreat.PD
open Go.RowKit Go.Proofs.YthmkioodkldgbaaGreatW.PrintWords
set_option linter.unusedVariables false
/-- How the bytes of a kind are read, as one law. -/
theorem thg_law {t : Thg} (ht : ThgQ t) : ∃ (α : Type) (p : List Int → Rd α) (f : α → List Int) (q : α → Prop) (x : α) (g : α → Thg), Law p f q ∧ q x ∧ f x = putB t ∧ (∀ l, pGet t.kind l = orZ (pWhole p l) t.kind g) := by
 obtain ⟨ho, hc⟩ := ht
 by_cases h2 : t.kind = 2
 ·refine ⟨_, pState, _, _, (t.sn, t.sc), fun x => { zT t.kind with sn := x.1, sc := x.2 }, st_law, ?_, ?_, fun l => by unfold pGet; rw [if_pos h2]⟩
  ·unfold putC at hc; rw [if_pos h2] at hc; exact ⟨hc, ho.sc⟩
  ·unfold putB; rw [if_pos h2]
 by_cases h3 : t.kind = 3
 ·refine ⟨_, pSeg, _, _, t.g, fun x => { zT t.kind with g := x }, seg_law, ?_, ?_, fun l => by unfold pGet; rw [if_neg h2, if_pos h3]⟩
  ·unfold putC at hc; rw [if_neg h2, if_pos h3] at hc; exact ⟨ho.g, hc⟩
  ·unfold putB; rw [if_neg h2, if_pos h3]
 by_cases h4 : t.kind = 4
 ·refine ⟨_, pMan, _, _, (t.mi, t.ms, t.mr), fun x => { zT t.kind with mi := x.1, ms := x.2.1, mr := x.2.2 }, man_law, ?_, ?_, fun l => by unfold pGet; rw [if_neg h2, if_neg h3, if_pos h4]⟩
  ·unfold putC at hc; rw [if_neg h2, if_neg h3, if_pos h4] at hc; exact ⟨hc, ho.ms, ho.mr⟩
  ·unfold putB; rw [if_neg h2, if_neg h3, if_pos h4]
 by_cases h5 : t.kind = 5
 ·refine ⟨_, pOut, _, _, (t.oa, t.ox), fun x => { zT t.kind with oa := x.1, ox := x.2 }, out_law, ?_, ?_, fun l => by unfold pGet; rw [if_neg h2, if_neg h3, if_neg h4, if_pos h5]⟩
  ·unfold putC at hc; rw [if_neg h2, if_neg h3, if_neg h4, if_pos h5] at hc; exact ⟨ho.ox, hc⟩
  ·unfold putB; rw [if_neg h2, if_neg h3, if_neg h4, if_pos h5]
 ·have hp := putC_rec h2 h3 h4 h5
  refine ⟨_, pRec, _, _, t.r, fun x => { zT t.kind with r := x }, rec_law, ⟨ho.r, hp.1.symm.trans hc⟩, hp.2.symm, fun l => by unfold pGet; rw [if_neg h2, if_neg h3, if_neg h4, if_neg h5]⟩
theorem get_more {t : Thg} (ht : ThgQ t) {m : List Int} (hm : m ≠ []) : pGet t.kind (putB t ++ m) = (44, zT t.kind) := by
 obtain ⟨α, p, f, q, x, g, hl, hq, he, hg⟩ := thg_law ht
 rw [hg, ← he, hl.whole_more hq hm]
 rfl
theorem get_cut {t : Thg} (ht : ThgQ t) {n : Nat} (hn : n < (putB t).length) : ∃ c, pGet t.kind ((putB t).take n) = (c, zT t.kind) ∧ c ≠ 0 ∧ c ≠ 44 := by
 have hb := Byt.putB ht.1
 obtain ⟨α, p, f, q, x, g, hl, hq, he, hg⟩ := thg_law ht
 rw [← he] at hn hb ⊢
 obtain ⟨c, hc⟩ := hl.cut hq hb hn
 refine ⟨c, ?_, hl.bad _ c hc⟩
 rw [hg, pWhole, hc]
 rfl
theorem only_only (t : Thg) : onlyT (onlyT t) = onlyT t := by
 by_cases h2 : t.kind = 2
 ·simp [onlyT, h2, zT]
 by_cases h3 : t.kind = 3
 ·simp [onlyT, h3, zT]
 by_cases h4 : t.kind = 4
 ·simp [onlyT, h4, zT]
 by_cases h5 : t.kind = 5
 ·simp [onlyT, h5, zT]
 ·simp [onlyT, h2, h3, h4, h5, zT]
/-- What is written of a thing that holds its own kind alone is read back as it. -/
theorem get_only {t : Thg} (hq : ThgQ (onlyT t)) : pGet (onlyT t).kind (putB (onlyT t)) = (0, onlyT t) := by
 rw [get_back hq, only_only]
end Go.Proofs.YthmkioodkldgbaaGreat.DK
/- eddylaw4.sameManifest: it answers whether what they are handed is the same; conditions: those in each theorem. -/
namespace Go.Proofs.YthmkioodkldgbaaGreat.DK
open Go.Proofs.YthmkioodkldgbaaGreat.PD
open Go.RowKit Go.Proofs.YthmkioodkldgbaaGreatW.PrintWords Go.Proofs.YthmkioodkldgbaaGreatW.PrintLast Go.Proofs.YthmkioodkldgbaaGreatW.PrintMore
set_option linter.unusedVariables false
set_option linter.unusedSimpArgs false
set_option maxRecDepth 100000
theorem below_two (w : World) (o o2 : Obj) : Below w.heap.size w ((w.alloc o).alloc o2) := below_alloc (below_alloc (Below.refl _ _) _) _
set_option maxHeartbeats 8000000 in
theorem sameManifest_calls (i i' s s' : Int) (l l' : List S108) (w : World) (b : Nat) (A : Option Addr) (c : Nat) (B : Option Addr) (d : Nat) (h1 : In k108 b w A l) (h2 : In k108 b w B l') (hb : b ≤ w.heap.size) :
  Calls Tryz.prog 33 #[.agg #[.int .i64 i, .int .u32 s, .slice A l.length c], .agg #[.int .i64 i', .int .u32 s', .slice B l'.length d]] w (Tells (i = i' ∧ s = s' ∧ l = l') w) := by
 have HA := Aside0.mk h1
 have HB := Aside0.mk h2
 have hm : l.length ≤ 9223372036854775807 := h1.max
 have hm' : l'.length ≤ 9223372036854775807 := h2.max
 clear h1 h2
 have hu42 := Tryz.underlying41
 have hu108 := Tryz.underlying111
 by_cases c0 : i = i'
 case neg =>
  go_enter Tryz.func33, Tryz.ntmps33
  go_wp2
  go_ret
  exact Tells.no (fun h => c0 h.1) (below_two _ _ _)
 subst c0
 by_cases c1 : s = s'
 case neg =>
  go_enter Tryz.func33, Tryz.ntmps33
  go_wp2
  go_ret
  exact Tells.no (fun h => c1 h.2.1) (below_two _ _ _)
 subst c1
 generalize hq : l'.length = q at *
 have HQ := Aside0.mk hq
 clear hq
 by_cases c3 : q = l.length
 case neg =>
  have hne : ¬ (l.length : Int) = (q : Int) := by omega
  go_enter Tryz.func33, Tryz.ntmps33
  go_wp2
  go_ret
  exact Tells.no (fun h => c3 (HQ.out.symm.trans (congrArg List.length h.2.2.symm))) (below_two _ _ _)
 subst c3
 go_enter Tryz.func33, Tryz.ntmps33
 go_wp2
 go_loopw [5] (fun iv wr => SameE (Two w 41 #[.int .i64 i, .int .u32 s, .slice A l.length c] #[.int .i64 i, .int .u32 s, .slice B l.length d]) w l l' iv wr) (fun iv _ => l.length - (intOf iv).toNat)
 case atStart => exact SameI.start (below_two _ _ _) (Two.start _ _ _ _)
 case round =>
  obtain ⟨j, rfl, HI⟩ := hrel
  have HX := Aside0.mk HI
  clear HI
  have x0 := blk_cell HX.out.k.1 0
  have x1 := blk_cell HX.out.k.1 1
  have x2 := blk_cell HX.out.k.1 2
  have fx0 := blk_frozen HX.out.k.1 0
  have fx1 := blk_frozen HX.out.k.1 1
  have fx2 := blk_frozen HX.out.k.1 2
  simp only [List.getElem?_toArray, List.getElem?_cons_succ, List.getElem?_cons_zero] at x0 x1 x2
  have y0 := blk_cell HX.out.k.2 0
  have y1 := blk_cell HX.out.k.2 1
  have y2 := blk_cell HX.out.k.2 2
  have fy0 := blk_frozen HX.out.k.2 0
  have fy1 := blk_frozen HX.out.k.2 1
  have fy2 := blk_frozen HX.out.k.2 2
  simp only [List.getElem?_toArray, List.getElem?_cons_succ, List.getElem?_cons_zero] at y0 y1 y2
  have hle := HX.out.le
  by_cases hlt : j < l.length
  ·skip
   have hlt' : j < l'.length := by rw [HQ.out]; exact hlt
   obtain ⟨ad, rfl, d0, d1⟩ := (HA.out.ext (HX.out.b.mono hb)).at108 hlt
   obtain ⟨ae, rfl, n0, n1⟩ := (HB.out.ext (HX.out.b.mono hb)).at108 hlt'
   have HN := Aside0.mk (fun (h : l[j] = l'[j]) (W : World) (hw : Below wr.heap.size wr W) => HX.out.next hlt hlt' h hw (HX.out.k.next hw))
   have HS := Aside0.mk (HX.out.stop hlt hlt')
   generalize l[j] = x at *
   generalize l'[j] = y at *
   obtain ⟨z, k⟩ := x
   obtain ⟨z', k'⟩ := y
   dsimp only at *
   go_wp2
   by_cases hz : z = z'
   case neg =>
    have ht : (z != z') = true := bne_iff_ne.2 hz
    refine start_ (n := 28) (S := fun w' => w'.cell? ⟨w.heap.size, 2, none⟩ = some (.slice (some ad) l.length c) ∧ w'.cell? ⟨w.heap.size + 1, 2, none⟩ = some (.slice (some ae) l.length d) ∧ w'.cell? (ad.add (j * 2)) = some (.int .i64 z) ∧ w'.cell? ⟨(ad.add (j * 2)).block, (ad.add (j * 2)).off + 1, none⟩ = some (.int .u32 k) ∧ w'.cell? (ae.add (j * 2)) = some (.int .i64 z') ∧ w'.cell? ⟨(ae.add (j * 2)).block, (ae.add (j * 2)).off + 1, none⟩ = some (.int .u32 k')) (ds := []) #[false, false, false, false, false, false, false, false, false, false, false, false, false, false, false, false, false, false, false, false, false, false, false, false, false, false, false, false] (by kernel_rfl) rfl rfl ⟨x2, y2, d0, d1, n0, n1⟩ (fun hHeld => ?_)
    refine zq 0 (some 34) ?_
    refine zq 2 (some 36) ?_
    refine zq 6 (some 40) ?_
    refine zq 8 (some 42) ?_
    refine zu 1 (some 35) hHeld ?_
    refine zq 3 (some 37) ?_
    refine zq 4 (some 38) ?_
    refine zu 5 (some 39) hHeld ?_
    refine zu 7 (some 41) hHeld ?_
    refine zq 9 (some 43) ?_
    refine zq 10 (some 44) ?_
    refine zu 11 (some 45) hHeld ?_
    refine zq 12 (some 46) ?_
    refine zq 13 (some 47) ?_
    refine pure_ (i := 14) (N := some 48) (v := undef) (a' := ?_) #[true, true, true, true, true, true, true, true, true, true, true, true, true, true, true, false, false, false, false, false, false, false, false, false, false, false, false, false] rfl rfl (by kernel_rfl) (fun _ _ _ h => h) (Or.inr ⟨by rfl, rfl⟩) ?_ ?_
    rotate_left
    ·simp only [Act.put, zla, zlb, zlc, i64_w, i32_w]
     rfl
    refine pure_ (i := 15) (N := some 49) (v := undef) (a' := ?_) #[true, true, true, true, true, true, true, true, true, true, true, true, true, true, true, true, false, false, false, false, false, false, false, false, false, false, false, false] rfl rfl (by kernel_rfl) (fun _ _ _ h => h) (Or.inr ⟨by rfl, rfl⟩) ?_ ?_
    rotate_left
    ·simp only [Act.put, zla, zlb, zlc, i64_w, i32_w]
     rfl
    refine pure_ (i := 16) (N := some 50) (v := undef) (a' := ?_) #[true, true, true, true, true, true, true, true, true, true, true, true, true, true, true, true, true, false, false, false, false, false, false, false, false, false, false, false] rfl rfl (by kernel_rfl) (fun _ _ _ h => h) (Or.inr ⟨by rfl, rfl⟩) ?_ ?_
    rotate_left
    ·simp only [Act.put, zla, zlb, zlc, i64_w, i32_w]
     rfl
    refine pure_ (i := 17) (N := some 51) (v := undef) (a' := ?_) #[true, true, true, true, true, true, true, true, true, true, true, true, true, true, true, true, true, true, false, false, false, false, false, false, false, false, false, false] rfl rfl (by kernel_rfl) (fun _ _ _ h => h) (Or.inr ⟨by rfl, rfl⟩) ?_ ?_
    rotate_left
    ·simp only [Act.put, zla, zlb, zlc, i64_w, i32_w]
     rfl
    refine pure_ (i := 18) (N := some 52) (v := undef) (a' := ?_) #[true, true, true, true, true, true, true, true, true, true, true, true, true, true, true, true, true, true, true, false, false, false, false, false, false, false, false, false] rfl rfl (by kernel_rfl) (fun _ _ _ h => h) (Or.inr ⟨by rfl, rfl⟩) ?_ ?_
    rotate_left
    ·simp only [Act.put, zla, zlb, zlc, i64_w, i32_w]
     rfl
    refine pure_ (i := 19) (N := some 53) (v := undef) (a' := ?_) #[true, true, true, true, true, true, true, true, true, true, true, true, true, true, true, true, true, true, true, true, false, false, false, false, false, false, false, false] rfl rfl (by kernel_rfl) (fun _ _ _ h => h) (Or.inr ⟨by rfl, rfl⟩) ?_ ?_
    rotate_left
    ·simp only [Act.put, zla, zlb, zlc, i64_w, i32_w]
     rfl
    refine pure_ (i := 20) (N := some 54) (v := undef) (a' := ?_) #[true, true, true, true, true, true, true, true, true, true, true, true, true, true, true, true, true, true, true, true, true, false, false, false, false, false, false, false] rfl rfl (by kernel_rfl) (fun _ _ _ h => h) (Or.inr ⟨by rfl, rfl⟩) ?_ ?_
    rotate_left
    ·simp only [Act.put, zla, zlb, zlc, i64_w, i32_w]
     rfl
    refine pure_ (i := 21) (N := some 55) (v := undef) (a' := ?_) #[true, true, true, true, true, true, true, true, true, true, true, true, true, true, true, true, true, true, true, true, true, true, false, false, false, false, false, false] rfl rfl (by kernel_rfl) (fun _ _ _ h => h) (Or.inr ⟨by rfl, rfl⟩) ?_ ?_
    rotate_left
    ·simp only [Act.put, zla, zlb, zlc, i64_w, i32_w]
     rfl
    refine pure_ (i := 22) (N := some 56) (v := undef) (a' := ?_) #[true, true, true, true, true, true, true, true, true, true, true, true, true, true, true, true, true, true, true, true, true, true, true, false, false, false, false, false] rfl rfl (by kernel_rfl) (fun _ _ _ h => h) (Or.inr ⟨by rfl, rfl⟩) ?_ ?_
    rotate_left
    ·simp only [Act.put, zla, zlb, zlc, i64_w, i32_w]
     rfl
    refine pure_ (i := 23) (N := some 57) (v := undef) (a' := ?_) #[true, true, true, true, true, true, true, true, true, true, true, true, true, true, true, true, true, true, true, true, true, true, true, true, false, false, false, false] rfl rfl (by kernel_rfl) (fun _ _ _ h => h) (Or.inr ⟨by rfl, rfl⟩) ?_ ?_
    rotate_left
    ·simp only [Act.put, zla, zlb, zlc, i64_w, i32_w]
     rfl
    refine pure_ (i := 24) (N := some 58) (v := undef) (a' := ?_) #[true, true, true, true, true, true, true, true, true, true, true, true, true, true, true, true, true, true, true, true, true, true, true, true, true, false, false, false] rfl rfl (by kernel_rfl) (fun _ _ _ h => h) (Or.inr ⟨by rfl, rfl⟩) ?_ ?_
    rotate_left
    ·simp only [Act.put, zla, zlb, zlc, i64_w, i32_w]
     rfl
    refine pure_ (i := 25) (N := some 59) (v := undef) (a' := ?_) #[true, true, true, true, true, true, true, true, true, true, true, true, true, true, true, true, true, true, true, true, true, true, true, true, true, true, false, false] rfl rfl (by kernel_rfl) (fun _ _ _ h => h) (Or.inr ⟨by rfl, rfl⟩) ?_ ?_
    rotate_left
    ·simp only [Act.put, zla, zlb, zlc, i64_w, i32_w]
     rfl
    refine pure_ (i := 26) (N := some 60) (v := undef) (a' := ?_) #[true, true, true, true, true, true, true, true, true, true, true, true, true, true, true, true, true, true, true, true, true, true, true, true, true, true, true, false] rfl rfl (by kernel_rfl) (fun _ _ _ h => h) (Or.inr ⟨by rfl, rfl⟩) ?_ ?_
    rotate_left
    ·simp only [Act.put, zla, zlb, zlc, i64_w, i32_w]
     rfl
    refine zq 27 (some 61) ?_
    refine done_ (by kernel_rfl) ?_
    go_wp2
    go_ret
    exact Tells.no (fun h => HS.out (fun h => hz (congrArg S108.f0 h)) h.2.2) (below_drew HX.out.b)
   subst hz
   by_cases hk : k = k'
   case neg =>
    have ht : (k != k') = true := bne_iff_ne.2 hk
    refine start_ (n := 28) (S := fun w' => w'.cell? ⟨w.heap.size, 2, none⟩ = some (.slice (some ad) l.length c) ∧ w'.cell? ⟨w.heap.size + 1, 2, none⟩ = some (.slice (some ae) l.length d) ∧ w'.cell? (ad.add (j * 2)) = some (.int .i64 z) ∧ w'.cell? ⟨(ad.add (j * 2)).block, (ad.add (j * 2)).off + 1, none⟩ = some (.int .u32 k) ∧ w'.cell? (ae.add (j * 2)) = some (.int .i64 z) ∧ w'.cell? ⟨(ae.add (j * 2)).block, (ae.add (j * 2)).off + 1, none⟩ = some (.int .u32 k')) (ds := []) #[false, false, false, false, false, false, false, false, false, false, false, false, false, false, false, false, false, false, false, false, false, false, false, false, false, false, false, false] (by kernel_rfl) rfl rfl ⟨x2, y2, d0, d1, n0, n1⟩ (fun hHeld => ?_)
    refine zq 0 (some 34) ?_
    refine zq 2 (some 36) ?_
    refine zq 6 (some 40) ?_
    refine zq 8 (some 42) ?_
    refine zu 1 (some 35) hHeld ?_
    refine zq 3 (some 37) ?_
    refine zq 4 (some 38) ?_
    refine zu 5 (some 39) hHeld ?_
    refine zu 7 (some 41) hHeld ?_
    refine zq 9 (some 43) ?_
    refine zq 10 (some 44) ?_
    refine zu 11 (some 45) hHeld ?_
    refine zq 12 (some 46) ?_
    refine zq 13 (some 47) ?_
    refine zq 14 (some 48) ?_
    refine zq 16 (some 50) ?_
    refine zq 20 (some 54) ?_
    refine zq 22 (some 56) ?_
    refine zu 15 (some 49) hHeld ?_
    refine zq 17 (some 51) ?_
    refine zq 18 (some 52) ?_
    refine zu 19 (some 53) hHeld ?_
    refine zu 21 (some 55) hHeld ?_
    refine zq 23 (some 57) ?_
    refine zq 24 (some 58) ?_
    refine zu 25 (some 59) hHeld ?_
    refine zq 26 (some 60) ?_
    refine zq 27 (some 61) ?_
    refine done_ (by kernel_rfl) ?_
    go_wp2
    go_ret
    exact Tells.no (fun h => HS.out (fun h => hk (congrArg S108.f1 h)) h.2.2) (below_drew HX.out.b)
   subst hk
   refine start_ (n := 28) (S := fun w' => w'.cell? ⟨w.heap.size, 2, none⟩ = some (.slice (some ad) l.length c) ∧ w'.cell? ⟨w.heap.size + 1, 2, none⟩ = some (.slice (some ae) l.length d) ∧ w'.cell? (ad.add (j * 2)) = some (.int .i64 z) ∧ w'.cell? ⟨(ad.add (j * 2)).block, (ad.add (j * 2)).off + 1, none⟩ = some (.int .u32 k) ∧ w'.cell? (ae.add (j * 2)) = some (.int .i64 z) ∧ w'.cell? ⟨(ae.add (j * 2)).block, (ae.add (j * 2)).off + 1, none⟩ = some (.int .u32 k)) (ds := []) #[false, false, false, false, false, false, false, false, false, false, false, false, false, false, false, false, false, false, false, false, false, false, false, false, false, false, false, false] (by kernel_rfl) rfl rfl ⟨x2, y2, d0, d1, n0, n1⟩ (fun hHeld => ?_)
   refine zq 0 (some 34) ?_
   refine zq 2 (some 36) ?_
   refine zq 6 (some 40) ?_
   refine zq 8 (some 42) ?_
   refine zu 1 (some 35) hHeld ?_
   refine zq 3 (some 37) ?_
   refine zq 4 (some 38) ?_
   refine zu 5 (some 39) hHeld ?_
   refine zu 7 (some 41) hHeld ?_
   refine zq 9 (some 43) ?_
   refine zq 10 (some 44) ?_
   refine zu 11 (some 45) hHeld ?_
   refine zq 12 (some 46) ?_
   refine zq 13 (some 47) ?_
   refine zq 14 (some 48) ?_
   refine zq 16 (some 50) ?_
   refine zq 20 (some 54) ?_
   refine zq 22 (some 56) ?_
   refine zu 15 (some 49) hHeld ?_
   refine zq 17 (some 51) ?_
   refine zq 18 (some 52) ?_
   refine zu 19 (some 53) hHeld ?_
   refine zu 21 (some 55) hHeld ?_
   refine zq 23 (some 57) ?_
   refine zq 24 (some 58) ?_
   refine zu 25 (some 59) hHeld ?_
   refine zq 26 (some 60) ?_
   refine zq 27 (some 61) ?_
   refine done_ (by kernel_rfl) ?_
   go_wp2
   go_roundw
   case rel => exact ⟨j + 1, by simp, HN.out rfl _ (below_drew (Below.refl _ _))⟩
   case measure => simp [intOf]; omega
  ·have hir : ¬ (j : Int) < (l.length : Int) := by omega
   go_wp2
   go_ret
   exact Tells.yes (by first | exact ⟨rfl, rfl, HX.out.done hlt HQ.out⟩ | exact HX.out.done hlt HQ.out) HX.out.b
end Go.Proofs.YthmkioodkldgbaaGreat.DK
