/- Reading and writing agree: segments, things whole; conditions: those in each theorem. (Plain Lean.) -/
import Derived.Test.YthmkioodkldgbaaGreatQuM31
import Derived.Test.YthmkioodkldgbaaGreatQuM30
import Derived.Test.YthmkioodkldgbaaGreatQuM29
import Derived.Test.YthmkioodkldgbaaGreatQuM08
namespace Go.Proofs.YthmkioodkldgbaaGreat.DK
open Go.Proofs.YthmkioodkldgbaaGreat.PD
open Go.RowKit Go.Proofs.YthmkioodkldgbaaGreatW.PrintWords
set_option linter.unusedVariables false
set_option linter.unusedSimpArgs false
def FrtQ (f : Frt) : Prop := ((True ∧ 0 ≤ f.1.1.2 ∧ f.1.1.2 ≤ 9999) ∧ 0 ≤ f.1.2 ∧ f.1.2 ≤ 11) ∧ 0 ≤ f.2 ∧ f.2 ≤ 9999
theorem front_law : Law pFront (fun f => (([83] ++ grp f.1.1.2) ++ grp f.1.2) ++ grp f.2) FrtQ :=
 (((mark_law 83).and (num_law (most := 9999) (by decide))).and (num_law (most := 11) (by decide))).and (num_law (most := 9999) (by decide))
/-- What a whole snapshot's segment holds, what a difference's does. -/
def SegA (s : Seg) : Prop := (StQ s.snum s.cells ∧ LogsQ s.logs) ∧ RecsQ s.pend
def SegB (s : Seg) : Prop := (((((0 ≤ s.sum ∧ s.sum ≤ 4294967295) ∧ (0 ≤ s.dnum ∧ s.dnum ≤ 1073741824)) ∧ ((s.set.length : Int) ≤ 64 ∧ Many CellQ [] s.set)) ∧ goneC s.gone = 0) ∧ LogsQ s.logs) ∧ RecsQ s.pend
theorem segA_law (f : Frt) (hf : f.2 = 0) : Law (pSegA f) (fun s => (encSt s.snum s.cells ++ lst (lst encR) s.logs) ++ lst encR s.pend) (fun s => s = ⟨f.1.1.2, f.1.2, 0, 0, s.snum, s.cells, 0, [], [], s.logs, s.pend⟩ ∧ SegA s) :=
 ((st_law.and logs_law).and recs_law).map _ (fun s => (((s.snum, s.cells), s.logs), s.pend)) (fun x hx => ⟨⟨by rw [hf], hx⟩, rfl⟩) (fun s hs => ⟨hs.2, by rw [hf]; exact hs.1.symm, rfl⟩)
theorem segB_law (f : Frt) : Law (pSegB f) (fun s => ((((word s.sum ++ grp s.dnum) ++ lst encC s.set) ++ lst keyB s.gone) ++ lst (lst encR) s.logs) ++ lst encR s.pend) (fun s => s = ⟨f.1.1.2, f.1.2, f.2, s.sum, 0, [], s.dnum, s.set, s.gone, s.logs, s.pend⟩ ∧ SegB s) :=
 (((((word_law.and (num_law (most := 1073741824) (by decide))).and cells_law).and gone_law).and logs_law).and recs_law).map _ (fun s => (((((s.sum, s.dnum), s.set), s.gone), s.logs), s.pend)) (fun x hx => ⟨⟨rfl, hx⟩, rfl⟩) (fun s hs => ⟨hs.2, hs.1.symm, rfl⟩)
def SegQ (s : Seg) : Prop := s.Ok ∧ segC s = 0
/-- What fits, field by field. -/
structure SegF (s : Seg) : Prop where
 front : FrtQ ((((), s.id), s.task), s.base)
 a : s.base = 0 → s = ⟨s.id, s.task, 0, 0, s.snum, s.cells, 0, [], [], s.logs, s.pend⟩ ∧ SegA s
 b : s.base ≠ 0 → s = ⟨s.id, s.task, s.base, s.sum, 0, [], s.dnum, s.set, s.gone, s.logs, s.pend⟩ ∧ SegB s
theorem SegF.fits {s : Seg} (h : SegF s) : SegQ s := by
 obtain ⟨⟨⟨⟨_, h1⟩, h2⟩, h3⟩, ha, hb⟩ := h
 dsimp only at h1 h2 h3
 by_cases hz : s.base = 0
 ·obtain ⟨e, ⟨hs, hl⟩, hp⟩ := ha hz
  have hlp := logsC_iff.2 ⟨hl, hp⟩
  have e1 : s.sum = 0 := by rw [e]
  have e2 : s.dnum = 0 := by rw [e]
  have e3 : s.set = [] := by rw [e]
  have e4 : s.gone = [] := by rw [e]
  refine ⟨⟨by omega, hs.2, by rw [e3]; simp, hlp.1, hlp.2.1⟩, ?_⟩
  unfold segC
  rw [if_neg (by omega), if_neg (by unfold noDelta; rw [e1, e2, e3, e4]; simp; omega), show bodyC s = 0 from by unfold bodyC; rw [if_pos hz]; exact hs.1, if_pos rfl]
  exact hlp.2.2
 ·obtain ⟨e, ⟨⟨⟨⟨hs, hn⟩, hc⟩, hg⟩, hl⟩, hp⟩ := hb hz
  have hlp := logsC_iff.2 ⟨hl, hp⟩
  have e1 : s.snum = 0 := by rw [e]
  have e2 : s.cells = [] := by rw [e]
  have hst := stQ_iff.2 ⟨hn, hc⟩
  refine ⟨⟨hs, by rw [e2]; simp, hst.2, hlp.1, hlp.2.1⟩, ?_⟩
  unfold segC
  rw [if_neg (by omega), if_neg (by unfold noState; rw [e1, e2]; simp; omega), show bodyC s = 0 from by unfold bodyC; rw [if_neg hz, if_pos hst.1]; exact hg, if_pos rfl]
  exact hlp.2.2
theorem SegQ.fields {s : Seg} (h : SegQ s) : SegF s := by
 obtain ⟨ho, h⟩ := h
 unfold segC at h
 split at h
 ·simp at h
 rename_i h1
 split at h
 ·simp at h
 rename_i h2
 split at h
 ·rename_i h3
  have hlp := logsC_iff.1 ⟨ho.logs, ho.pend, h⟩
  refine ⟨⟨⟨⟨trivial, by dsimp only; omega⟩, by dsimp only; omega⟩, by dsimp only; omega⟩, fun hz => ?_, fun hz => ?_⟩
  ·have hd : noDelta s := Classical.not_not.1 fun hd => h2 (.inl ⟨hz, hd⟩)
   unfold bodyC at h3
   rw [if_pos hz] at h3
   obtain ⟨d1, d2, d3, d4⟩ := hd
   refine ⟨?_, ⟨⟨h3, ho.cells⟩, hlp.1⟩, hlp.2⟩
   obtain ⟨a, b, c, d, e, f, g, i, j, k, l⟩ := s
   simp only at hz d1 d2 d3 d4 ⊢
   rw [hz, d1, d2, List.length_eq_zero_iff.1 d3, List.length_eq_zero_iff.1 d4]
  ·have hd : noState s := Classical.not_not.1 fun hd => h2 (.inr ⟨by omega, hd⟩)
   unfold bodyC at h3
   rw [if_neg hz] at h3
   split at h3
   ·rename_i h4
    have hst := stQ_iff.1 (⟨h4, ho.set⟩ : StQ s.dnum s.set)
    obtain ⟨d1, d2⟩ := hd
    refine ⟨?_, ⟨⟨⟨⟨ho.sum, hst.1⟩, hst.2⟩, h3⟩, hlp.1⟩, hlp.2⟩
    obtain ⟨a, b, c, d, e, f, g, i, j, k, l⟩ := s
    simp only at hz d1 d2 ⊢
    rw [d1, List.length_eq_zero_iff.1 d2]
   ·rename_i h4; exact absurd h3 h4
 ·rename_i h3; exact absurd h h3
theorem seg_law : Law pSeg encSeg SegQ where
 one := fun l s l' hb hp => by
  unfold pSeg at hp
  obtain ⟨f, m, e1, e2⟩ := Rd.bind_inv hp
  obtain ⟨q1, rfl⟩ := front_law.one _ _ _ hb e1
  obtain ⟨⟨⟨u, i⟩, t⟩, b⟩ := f
  cases u
  split at e2
  ·rename_i hz
   obtain ⟨⟨e3, q2⟩, rfl⟩ := (segA_law _ hz).one _ _ _ hb.right e2
   dsimp only at hz e3
   subst hz
   have k1 : s.id = i := by rw [e3]
   have k2 : s.task = t := by rw [e3]
   have k3 : s.base = 0 := by rw [e3]
   refine ⟨SegF.fits ⟨by rw [k1, k2, k3]; exact q1, fun _ => ⟨by rw [k1, k2]; exact e3, q2⟩, fun h => absurd k3 h⟩, ?_⟩
   unfold encSeg encFront encLogs
   rw [if_pos k3, k1, k2, k3]
   simp only [List.append_assoc, List.cons_append, List.nil_append]
  ·rename_i hz
   obtain ⟨⟨e3, q2⟩, rfl⟩ := (segB_law _).one _ _ _ hb.right e2
   dsimp only at hz e3
   have k1 : s.id = i := by rw [e3]
   have k2 : s.task = t := by rw [e3]
   have k3 : s.base = b := by rw [e3]
   refine ⟨SegF.fits ⟨by rw [k1, k2, k3]; exact q1, fun h => absurd (k3.symm.trans h) hz, fun _ => ⟨by rw [k1, k2, k3]; exact e3, q2⟩⟩, ?_⟩
   unfold encSeg encFront encLogs encDelta
   rw [k3, if_neg hz, k1, k2]
   simp only [List.append_assoc, List.cons_append, List.nil_append]
 back := fun s l' hq => by
  obtain ⟨hf, ha, hb⟩ := SegQ.fields hq
  have e : encSeg s ++ l' = ((([83] ++ grp s.id) ++ grp s.task) ++ grp s.base) ++ ((if s.base = 0 then encSt s.snum s.cells else encDelta s) ++ encLogs s ++ l') := by
   unfold encSeg encFront
   simp only [List.append_assoc, List.cons_append, List.nil_append]
  unfold pSeg
  rw [e, front_law.back ((((), s.id), s.task), s.base) _ hf, Rd.bind_ok]
  dsimp only
  by_cases hz : s.base = 0
  ·rw [if_pos hz, if_pos hz]
   obtain ⟨e1, q1⟩ := ha hz
   have h := (segA_law ((((), s.id), s.task), s.base) hz).back s l' ⟨e1, q1⟩
   rw [← h]
   unfold encLogs
   simp only [List.append_assoc]
  ·rw [if_neg hz, if_neg hz]
   obtain ⟨e1, q1⟩ := hb hz
   have h := (segB_law ((((), s.id), s.task), s.base)).back s l' ⟨e1, q1⟩
   rw [← h]
   unfold encLogs encDelta
   simp only [List.append_assoc]
 bad := front_law.bad.bind fun f l c h => by
  split at h
  ·rename_i hz; exact (segA_law f hz).bad l c h
  ·exact (segB_law f).bad l c h
/-! Whole. -/
section
variable {α : Type} {p : List Int → Rd α} {f : α → List Int} {q : α → Prop}
theorem Law.whole_back (h : Law p f q) {x : α} (hq : q x) : pWhole p (f x) = .ok x [] := by
 have e := h.back x [] hq
 rw [List.append_nil] at e
 rw [pWhole, e, Rd.bind_ok, if_pos rfl]
theorem Law.inj (h : Law p f q) {x y : α} (hx : q x) (hy : q y) (e : f x = f y) : x = y := by
 have h1 := h.back x [] hx
 rw [e, h.back y [] hy] at h1
 injection h1 with h1 _
 exact h1.symm
end
/-- A thing that fits. -/
def ThgQ (t : Thg) : Prop := t.Ok ∧ putC t = 0
/-- WireRound, plainly: what is written is read back. -/
theorem get_back {t : Thg} (ht : ThgQ t) : pGet t.kind (putB t) = (0, { onlyT t with kind := t.kind }) := by
 obtain ⟨ho, hc⟩ := ht
 unfold putC at hc
 unfold pGet putB onlyT
 split
 ·rename_i h2
  rw [if_pos h2] at hc
  rw [st_law.whole_back (x := (t.sn, t.sc)) ⟨hc, ho.sc⟩, h2]
  rfl
 rename_i h2
 rw [if_neg h2] at hc
 split
 ·rename_i h3
  rw [if_pos h3] at hc
  rw [seg_law.whole_back (x := t.g) ⟨ho.g, hc⟩, h3]
  rfl
 rename_i h3
 rw [if_neg h3] at hc
 split
 ·rename_i h4
  rw [if_pos h4] at hc
  rw [man_law.whole_back (x := (t.mi, t.ms, t.mr)) ⟨hc, ho.ms, ho.mr⟩, h4]
  rfl
 rename_i h4
 rw [if_neg h4] at hc
 split
 ·rename_i h5
  rw [if_pos h5] at hc
  rw [out_law.whole_back (x := (t.oa, t.ox)) ⟨ho.ox, hc⟩, h5]
  rfl
 rename_i h5
 rw [if_neg h5] at hc
 rw [rec_law.whole_back (x := t.r) ⟨ho.r, hc⟩]
 rfl
end Go.Proofs.YthmkioodkldgbaaGreat.DK
/- What is written of a thing, cut short or with bytes behind it, is not read; unlike things have unlike bytes; conditions: those in each theorem. (Plain Lean.) -/
namespace Go.Proofs.YthmkioodkldgbaaGreat.DK
open Go.Proofs.YthmkioodkldgbaaGreat.PD
open Go.RowKit Go.Proofs.YthmkioodkldgbaaGreatW.PrintWords
set_option linter.unusedVariables false
theorem only_only (t : Thg) : onlyT (onlyT t) = onlyT t := by
 by_cases h2 : t.kind = 2
 ·simp [onlyT, h2, zT]
 by_cases h3 : t.kind = 3
 ·simp [onlyT, h3, zT]
 by_cases h4 : t.kind = 4
 ·simp [onlyT, h4, zT]
 by_cases h5 : t.kind = 5
 ·simp [onlyT, h5, zT]
 ·simp [onlyT, h2, h3, h4, h5, zT]
/-- What is written of a thing that holds its own kind alone is read back as it. -/
theorem get_only {t : Thg} (hq : ThgQ (onlyT t)) : pGet (onlyT t).kind (putB (onlyT t)) = (0, onlyT t) := by
 rw [get_back hq, only_only]
theorem only_inj {t u : Thg} (ht : ThgQ (onlyT t)) (hu : ThgQ (onlyT u)) (hk : (onlyT t).kind = (onlyT u).kind) (e : putB (onlyT t) = putB (onlyT u)) : onlyT t = onlyT u := by
 have h1 := get_only ht
 rw [e, hk, get_only hu] at h1
 exact (congrArg Prod.snd h1).symm
theorem only_kind (t u : Thg) (h : t.kind = u.kind) : (onlyT t).kind = (onlyT u).kind := by
 unfold onlyT
 rw [h]
 split
 ·rfl
 split
 ·rfl
 split
 ·rfl
 split <;> rfl
end Go.Proofs.YthmkioodkldgbaaGreat.DK
/- eddylaw4.sameManifest: it answers whether what they are handed is the same; conditions: those in each theorem. -/
namespace Go.Proofs.YthmkioodkldgbaaGreat.DK
open Go.Proofs.YthmkioodkldgbaaGreat.PD
open Go.RowKit Go.Proofs.YthmkioodkldgbaaGreatW.PrintWords Go.Proofs.YthmkioodkldgbaaGreatW.PrintLast Go.Proofs.YthmkioodkldgbaaGreatW.PrintMore
set_option linter.unusedVariables false
set_option linter.unusedSimpArgs false
set_option maxRecDepth 100000
theorem below_two (w : World) (o o2 : Obj) : Below w.heap.size w ((w.alloc o).alloc o2) := below_alloc (below_alloc (Below.refl _ _) _) _
set_option maxHeartbeats 8000000 in
theorem sameManifest_calls (i i' s s' : Int) (l l' : List S108) (w : World) (b : Nat) (A : Option Addr) (c : Nat) (B : Option Addr) (d : Nat) (h1 : In k108 b w A l) (h2 : In k108 b w B l') (hb : b ≤ w.heap.size) :
  Calls Tryz.prog 33 #[.agg #[.int .i64 i, .int .u32 s, .slice A l.length c], .agg #[.int .i64 i', .int .u32 s', .slice B l'.length d]] w (Tells (i = i' ∧ s = s' ∧ l = l') w) := by
 have HA := Aside0.mk h1
 have HB := Aside0.mk h2
 have hm : l.length ≤ 9223372036854775807 := h1.max
 have hm' : l'.length ≤ 9223372036854775807 := h2.max
 clear h1 h2
 have hu42 := Tryz.underlying41
 have hu108 := Tryz.underlying111
 by_cases c0 : i = i'
 case neg =>
  go_enter Tryz.func33, Tryz.ntmps33
  go_wp2
  go_ret
  exact Tells.no (fun h => c0 h.1) (below_two _ _ _)
 subst c0
 by_cases c1 : s = s'
 case neg =>
  go_enter Tryz.func33, Tryz.ntmps33
  go_wp2
  go_ret
  exact Tells.no (fun h => c1 h.2.1) (below_two _ _ _)
 subst c1
 generalize hq : l'.length = q at *
 have HQ := Aside0.mk hq
 clear hq
 by_cases c3 : q = l.length
 case neg =>
  have hne : ¬ (l.length : Int) = (q : Int) := by omega
  go_enter Tryz.func33, Tryz.ntmps33
  go_wp2
  go_ret
  exact Tells.no (fun h => c3 (HQ.out.symm.trans (congrArg List.length h.2.2.symm))) (below_two _ _ _)
 subst c3
 go_enter Tryz.func33, Tryz.ntmps33
 go_wp2
 go_loopw [5] (fun iv wr => SameE (Two w 41 #[.int .i64 i, .int .u32 s, .slice A l.length c] #[.int .i64 i, .int .u32 s, .slice B l.length d]) w l l' iv wr) (fun iv _ => l.length - (intOf iv).toNat)
 case atStart => exact SameI.start (below_two _ _ _) (Two.start _ _ _ _)
 case round =>
  obtain ⟨j, rfl, HI⟩ := hrel
  have HX := Aside0.mk HI
  clear HI
  have x0 := blk_cell HX.out.k.1 0
  have x1 := blk_cell HX.out.k.1 1
  have x2 := blk_cell HX.out.k.1 2
  have fx0 := blk_frozen HX.out.k.1 0
  have fx1 := blk_frozen HX.out.k.1 1
  have fx2 := blk_frozen HX.out.k.1 2
  simp only [List.getElem?_toArray, List.getElem?_cons_succ, List.getElem?_cons_zero] at x0 x1 x2
  have y0 := blk_cell HX.out.k.2 0
  have y1 := blk_cell HX.out.k.2 1
  have y2 := blk_cell HX.out.k.2 2
  have fy0 := blk_frozen HX.out.k.2 0
  have fy1 := blk_frozen HX.out.k.2 1
  have fy2 := blk_frozen HX.out.k.2 2
  simp only [List.getElem?_toArray, List.getElem?_cons_succ, List.getElem?_cons_zero] at y0 y1 y2
  have hle := HX.out.le
  by_cases hlt : j < l.length
  ·skip
   have hlt' : j < l'.length := by rw [HQ.out]; exact hlt
   obtain ⟨ad, rfl, d0, d1⟩ := (HA.out.ext (HX.out.b.mono hb)).at108 hlt
   obtain ⟨ae, rfl, n0, n1⟩ := (HB.out.ext (HX.out.b.mono hb)).at108 hlt'
   have HN := Aside0.mk (fun (h : l[j] = l'[j]) (W : World) (hw : Below wr.heap.size wr W) => HX.out.next hlt hlt' h hw (HX.out.k.next hw))
   have HS := Aside0.mk (HX.out.stop hlt hlt')
   generalize l[j] = x at *
   generalize l'[j] = y at *
   obtain ⟨z, k⟩ := x
   obtain ⟨z', k'⟩ := y
   dsimp only at *
   go_wp2
   by_cases hz : z = z'
   case neg =>
    have ht : (z != z') = true := bne_iff_ne.2 hz
    refine start_ (n := 28) (S := fun w' => w'.cell? ⟨w.heap.size, 2, none⟩ = some (.slice (some ad) l.length c) ∧ w'.cell? ⟨w.heap.size + 1, 2, none⟩ = some (.slice (some ae) l.length d) ∧ w'.cell? (ad.add (j * 2)) = some (.int .i64 z) ∧ w'.cell? ⟨(ad.add (j * 2)).block, (ad.add (j * 2)).off + 1, none⟩ = some (.int .u32 k) ∧ w'.cell? (ae.add (j * 2)) = some (.int .i64 z') ∧ w'.cell? ⟨(ae.add (j * 2)).block, (ae.add (j * 2)).off + 1, none⟩ = some (.int .u32 k')) (ds := []) #[false, false, false, false, false, false, false, false, false, false, false, false, false, false, false, false, false, false, false, false, false, false, false, false, false, false, false, false] (by kernel_rfl) rfl rfl ⟨x2, y2, d0, d1, n0, n1⟩ (fun hHeld => ?_)
    refine zq 0 (some 34) ?_
    refine zq 2 (some 36) ?_
    refine zq 6 (some 40) ?_
    refine zq 8 (some 42) ?_
    refine zu 1 (some 35) hHeld ?_
    refine zq 3 (some 37) ?_
    refine zq 4 (some 38) ?_
    refine zu 5 (some 39) hHeld ?_
    refine zu 7 (some 41) hHeld ?_
    refine zq 9 (some 43) ?_
    refine zq 10 (some 44) ?_
    refine zu 11 (some 45) hHeld ?_
    refine zq 12 (some 46) ?_
    refine zq 13 (some 47) ?_
    refine pure_ (i := 14) (N := some 48) (v := undef) (a' := ?_) #[true, true, true, true, true, true, true, true, true, true, true, true, true, true, true, false, false, false, false, false, false, false, false, false, false, false, false, false] rfl rfl (by kernel_rfl) (fun _ _ _ h => h) (Or.inr ⟨by rfl, rfl⟩) ?_ ?_
    rotate_left
    ·simp only [Act.put, zla, zlb, zlc, i64_w, i32_w]
     rfl
    refine pure_ (i := 15) (N := some 49) (v := undef) (a' := ?_) #[true, true, true, true, true, true, true, true, true, true, true, true, true, true, true, true, false, false, false, false, false, false, false, false, false, false, false, false] rfl rfl (by kernel_rfl) (fun _ _ _ h => h) (Or.inr ⟨by rfl, rfl⟩) ?_ ?_
    rotate_left
    ·simp only [Act.put, zla, zlb, zlc, i64_w, i32_w]
     rfl
    refine pure_ (i := 16) (N := some 50) (v := undef) (a' := ?_) #[true, true, true, true, true, true, true, true, true, true, true, true, true, true, true, true, true, false, false, false, false, false, false, false, false, false, false, false] rfl rfl (by kernel_rfl) (fun _ _ _ h => h) (Or.inr ⟨by rfl, rfl⟩) ?_ ?_
    rotate_left
    ·simp only [Act.put, zla, zlb, zlc, i64_w, i32_w]
     rfl
    refine pure_ (i := 17) (N := some 51) (v := undef) (a' := ?_) #[true, true, true, true, true, true, true, true, true, true, true, true, true, true, true, true, true, true, false, false, false, false, false, false, false, false, false, false] rfl rfl (by kernel_rfl) (fun _ _ _ h => h) (Or.inr ⟨by rfl, rfl⟩) ?_ ?_
    rotate_left
    ·simp only [Act.put, zla, zlb, zlc, i64_w, i32_w]
     rfl
    refine pure_ (i := 18) (N := some 52) (v := undef) (a' := ?_) #[true, true, true, true, true, true, true, true, true, true, true, true, true, true, true, true, true, true, true, false, false, false, false, false, false, false, false, false] rfl rfl (by kernel_rfl) (fun _ _ _ h => h) (Or.inr ⟨by rfl, rfl⟩) ?_ ?_
    rotate_left
    ·simp only [Act.put, zla, zlb, zlc, i64_w, i32_w]
     rfl
    refine pure_ (i := 19) (N := some 53) (v := undef) (a' := ?_) #[true, true, true, true, true, true, true, true, true, true, true, true, true, true, true, true, true, true, true, true, false, false, false, false, false, false, false, false] rfl rfl (by kernel_rfl) (fun _ _ _ h => h) (Or.inr ⟨by rfl, rfl⟩) ?_ ?_
    rotate_left
    ·simp only [Act.put, zla, zlb, zlc, i64_w, i32_w]
     rfl
    refine pure_ (i := 20) (N := some 54) (v := undef) (a' := ?_) #[true, true, true, true, true, true, true, true, true, true, true, true, true, true, true, true, true, true, true, true, true, false, false, false, false, false, false, false] rfl rfl (by kernel_rfl) (fun _ _ _ h => h) (Or.inr ⟨by rfl, rfl⟩) ?_ ?_
    rotate_left
    ·simp only [Act.put, zla, zlb, zlc, i64_w, i32_w]
     rfl
    refine pure_ (i := 21) (N := some 55) (v := undef) (a' := ?_) #[true, true, true, true, true, true, true, true, true, true, true, true, true, true, true, true, true, true, true, true, true, true, false, false, false, false, false, false] rfl rfl (by kernel_rfl) (fun _ _ _ h => h) (Or.inr ⟨by rfl, rfl⟩) ?_ ?_
    rotate_left
    ·simp only [Act.put, zla, zlb, zlc, i64_w, i32_w]
     rfl
    refine pure_ (i := 22) (N := some 56) (v := undef) (a' := ?_) #[true, true, true, true, true, true, true, true, true, true, true, true, true, true, true, true, true, true, true, true, true, true, true, false, false, false, false, false] rfl rfl (by kernel_rfl) (fun _ _ _ h => h) (Or.inr ⟨by rfl, rfl⟩) ?_ ?_
    rotate_left
    ·simp only [Act.put, zla, zlb, zlc, i64_w, i32_w]
     rfl
    refine pure_ (i := 23) (N := some 57) (v := undef) (a' := ?_) #[true, true, true, true, true, true, true, true, true, true, true, true, true, true, true, true, true, true, true, true, true, true, true, true, false, false, false, false] rfl rfl (by kernel_rfl) (fun _ _ _ h => h) (Or.inr ⟨by rfl, rfl⟩) ?_ ?_
    rotate_left
    ·simp only [Act.put, zla, zlb, zlc, i64_w, i32_w]
     rfl
    refine pure_ (i := 24) (N := some 58) (v := undef) (a' := ?_) #[true, true, true, true, true, true, true, true, true, true, true, true, true, true, true, true, true, true, true, true, true, true, true, true, true, false, false, false] rfl rfl (by kernel_rfl) (fun _ _ _ h => h) (Or.inr ⟨by rfl, rfl⟩) ?_ ?_
    rotate_left
    ·simp only [Act.put, zla, zlb, zlc, i64_w, i32_w]
     rfl
    refine pure_ (i := 25) (N := some 59) (v := undef) (a' := ?_) #[true, true, true, true, true, true, true, true, true, true, true, true, true, true, true, true, true, true, true, true, true, true, true, true, true, true, false, false] rfl rfl (by kernel_rfl) (fun _ _ _ h => h) (Or.inr ⟨by rfl, rfl⟩) ?_ ?_
    rotate_left
    ·simp only [Act.put, zla, zlb, zlc, i64_w, i32_w]
     rfl
    refine pure_ (i := 26) (N := some 60) (v := undef) (a' := ?_) #[true, true, true, true, true, true, true, true, true, true, true, true, true, true, true, true, true, true, true, true, true, true, true, true, true, true, true, false] rfl rfl (by kernel_rfl) (fun _ _ _ h => h) (Or.inr ⟨by rfl, rfl⟩) ?_ ?_
    rotate_left
    ·simp only [Act.put, zla, zlb, zlc, i64_w, i32_w]
     rfl
    refine zq 27 (some 61) ?_
    refine done_ (by kernel_rfl) ?_
    go_wp2
    go_ret
    exact Tells.no (fun h => HS.out (fun h => hz (congrArg S108.f0 h)) h.2.2) (below_drew HX.out.b)
   subst hz
   by_cases hk : k = k'
   case neg =>
    have ht : (k != k') = true := bne_iff_ne.2 hk
    refine start_ (n := 28) (S := fun w' => w'.cell? ⟨w.heap.size, 2, none⟩ = some (.slice (some ad) l.length c) ∧ w'.cell? ⟨w.heap.size + 1, 2, none⟩ = some (.slice (some ae) l.length d) ∧ w'.cell? (ad.add (j * 2)) = some (.int .i64 z) ∧ w'.cell? ⟨(ad.add (j * 2)).block, (ad.add (j * 2)).off + 1, none⟩ = some (.int .u32 k) ∧ w'.cell? (ae.add (j * 2)) = some (.int .i64 z) ∧ w'.cell? ⟨(ae.add (j * 2)).block, (ae.add (j * 2)).off + 1, none⟩ = some (.int .u32 k')) (ds := []) #[false, false, false, false, false, false, false, false, false, false, false, false, false, false, false, false, false, false, false, false, false, false, false, false, false, false, false, false] (by kernel_rfl) rfl rfl ⟨x2, y2, d0, d1, n0, n1⟩ (fun hHeld => ?_)
    refine zq 0 (some 34) ?_
    refine zq 2 (some 36) ?_
    refine zq 6 (some 40) ?_
    refine zq 8 (some 42) ?_
    refine zu 1 (some 35) hHeld ?_
    refine zq 3 (some 37) ?_
    refine zq 4 (some 38) ?_
    refine zu 5 (some 39) hHeld ?_
    refine zu 7 (some 41) hHeld ?_
    refine zq 9 (some 43) ?_
    refine zq 10 (some 44) ?_
    refine zu 11 (some 45) hHeld ?_
    refine zq 12 (some 46) ?_
    refine zq 13 (some 47) ?_
    refine zq 14 (some 48) ?_
    refine zq 16 (some 50) ?_
    refine zq 20 (some 54) ?_
    refine zq 22 (some 56) ?_
    refine zu 15 (some 49) hHeld ?_
    refine zq 17 (some 51) ?_
    refine zq 18 (some 52) ?_
    refine zu 19 (some 53) hHeld ?_
    refine zu 21 (some 55) hHeld ?_
    refine zq 23 (some 57) ?_
    refine zq 24 (some 58) ?_
    refine zu 25 (some 59) hHeld ?_
    refine zq 26 (some 60) ?_
    refine zq 27 (some 61) ?_
    refine done_ (by kernel_rfl) ?_
    go_wp2
    go_ret
    exact Tells.no (fun h => HS.out (fun h => hk (congrArg S108.f1 h)) h.2.2) (below_drew HX.out.b)
   subst hk
   refine start_ (n := 28) (S := fun w' => w'.cell? ⟨w.heap.size, 2, none⟩ = some (.slice (some ad) l.length c) ∧ w'.cell? ⟨w.heap.size + 1, 2, none⟩ = some (.slice (some ae) l.length d) ∧ w'.cell? (ad.add (j * 2)) = some (.int .i64 z) ∧ w'.cell? ⟨(ad.add (j * 2)).block, (ad.add (j * 2)).off + 1, none⟩ = some (.int .u32 k) ∧ w'.cell? (ae.add (j * 2)) = some (.int .i64 z) ∧ w'.cell? ⟨(ae.add (j * 2)).block, (ae.add (j * 2)).off + 1, none⟩ = some (.int .u32 k)) (ds := []) #[false, false, false, false, false, false, false, false, false, false, false, false, false, false, false, false, false, false, false, false, false, false, false, false, false, false, false, false] (by kernel_rfl) rfl rfl ⟨x2, y2, d0, d1, n0, n1⟩ (fun hHeld => ?_)
   refine zq 0 (some 34) ?_
   refine zq 2 (some 36) ?_
   refine zq 6 (some 40) ?_
   refine zq 8 (some 42) ?_
   refine zu 1 (some 35) hHeld ?_
   refine zq 3 (some 37) ?_
   refine zq 4 (some 38) ?_
   refine zu 5 (some 39) hHeld ?_
   refine zu 7 (some 41) hHeld ?_
   refine zq 9 (some 43) ?_
   refine zq 10 (some 44) ?_
   refine zu 11 (some 45) hHeld ?_
   refine zq 12 (some 46) ?_
   refine zq 13 (some 47) ?_
   refine zq 14 (some 48) ?_
   refine zq 16 (some 50) ?_
   refine zq 20 (some 54) ?_
   refine zq 22 (some 56) ?_
   refine zu 15 (some 49) hHeld ?_
   refine zq 17 (some 51) ?_
   refine zq 18 (some 52) ?_
   refine zu 19 (some 53) hHeld ?_
   refine zu 21 (some 55) hHeld ?_
   refine zq 23 (some 57) ?_
   refine zq 24 (some 58) ?_
   refine zu 25 (some 59) hHeld ?_
   refine zq 26 (some 60) ?_
   refine zq 27 (some 61) ?_
   refine done_ (by kernel_rfl) ?_
   go_wp2
   go_roundw
   case rel => exact ⟨j + 1, by simp, HN.out rfl _ (below_drew (Below.refl _ _))⟩
   case measure => simp [intOf]; omega
  ·have hir : ¬ (j : Int) < (l.length : Int) := by omega
   go_wp2
   go_ret
   exact Tells.yes (by first | exact ⟨rfl, rfl, HX.out.done hlt HQ.out⟩ | exact HX.out.done hlt HQ.out) HX.out.b
end Go.Proofs.YthmkioodkldgbaaGreat.DK
/- eddylaw4.sameSegment: it answers whether the two are the same; conditions: those in each theorem. -/
namespace Go.Proofs.YthmkioodkldgbaaGreat.DK
open Go.Proofs.YthmkioodkldgbaaGreat.PD
open Go.RowKit Go.Proofs.YthmkioodkldgbaaGreatW.PrintWords Go.Proofs.YthmkioodkldgbaaGreatW.PrintLast Go.Proofs.YthmkioodkldgbaaGreatW.PrintMore
set_option linter.unusedVariables false
set_option linter.unusedSimpArgs false
set_option maxRecDepth 100000
set_option maxHeartbeats 8000000 in
theorem sameSegment_calls (s t : Seg) (w : World) (b : Nat) (A5 : Option Addr) (c5 : Nat) (B5 : Option Addr) (d5 : Nat) (A7 : Option Addr) (c7 : Nat) (B7 : Option Addr) (d7 : Nat) (A8 : Option Addr) (c8 : Nat) (B8 : Option Addr) (d8 : Nat) (A9 : Option Addr) (c9 : Nat) (B9 : Option Addr) (d9 : Nat) (A10 : Option Addr) (c10 : Nat) (B10 : Option Addr) (d10 : Nat) (h5 : In k121 b w A5 s.cells) (g5 : In k121 b w B5 t.cells) (h7 : In k121 b w A7 s.set) (g7 : In k121 b w B7 t.set) (h8 : In Kd.string b w A8 s.gone) (g8 : In Kd.string b w B8 t.gone) (h9 : In (Kd.slice 27 k28) b w A9 s.logs) (g9 : In (Kd.slice 27 k28) b w B9 t.logs) (h10 : In k28 b w A10 s.pend) (g10 : In k28 b w B10 t.pend) (hb : b ≤ w.heap.size) :
  Calls Tryz.prog 32 #[.agg #[.int .i64 s.id, .int .i64 s.task, .int .i64 s.base, .int .u32 s.sum, .int .i64 s.snum, .slice A5 s.cells.length c5, .int .i64 s.dnum, .slice A7 s.set.length c7, .slice A8 s.gone.length c8, .slice A9 s.logs.length c9, .slice A10 s.pend.length c10], .agg #[.int .i64 t.id, .int .i64 t.task, .int .i64 t.base, .int .u32 t.sum, .int .i64 t.snum, .slice B5 t.cells.length d5, .int .i64 t.dnum, .slice B7 t.set.length d7, .slice B8 t.gone.length d8, .slice B9 t.logs.length d9, .slice B10 t.pend.length d10]] w (Tells (s = t) w) := by
 obtain ⟨i, ta, ba, su, sn, ce, dn, se, go, lo, pe⟩ := s
 obtain ⟨i', ta', ba', su', sn', ce', dn', se', go', lo', pe'⟩ := t
 dsimp only at *
 have H5 := Aside0.mk h5
 have G5 := Aside0.mk g5
 have H7 := Aside0.mk h7
 have G7 := Aside0.mk g7
 have H8 := Aside0.mk h8
 have G8 := Aside0.mk g8
 have H9 := Aside0.mk h9
 have G9 := Aside0.mk g9
 have H10 := Aside0.mk h10
 have G10 := Aside0.mk g10
 have hm : lo.length ≤ 9223372036854775807 := h9.max
 have hm' : lo'.length ≤ 9223372036854775807 := g9.max
 clear h5 g5 h7 g7 h8 g8 h9 g9 h10 g10
 have hu39 := Tryz.underlying38
 have hu31 := Tryz.underlying30
 have hu35 := Tryz.underlying34
 by_cases c_i : i = i'
 case neg =>
  go_enter Tryz.func32, Tryz.ntmps32
  go_wp2
  go_ret
  exact Tells.no (fun h => c_i (congrArg Seg.id h)) (below_two _ _ _)
 subst c_i
 by_cases c_ta : ta = ta'
 case neg =>
  go_enter Tryz.func32, Tryz.ntmps32
  go_wp2
  go_ret
  exact Tells.no (fun h => c_ta (congrArg Seg.task h)) (below_two _ _ _)
 subst c_ta
 by_cases c_ba : ba = ba'
 case neg =>
  go_enter Tryz.func32, Tryz.ntmps32
  go_wp2
  go_ret
  exact Tells.no (fun h => c_ba (congrArg Seg.base h)) (below_two _ _ _)
 subst c_ba
 by_cases c_su : su = su'
 case neg =>
  go_enter Tryz.func32, Tryz.ntmps32
  go_wp2
  go_ret
  exact Tells.no (fun h => c_su (congrArg Seg.sum h)) (below_two _ _ _)
 subst c_su
 generalize hq : lo'.length = q at *
 have HQ := Aside0.mk hq
 clear hq
 by_cases c3 : q = lo.length
 case neg =>
  have hne : ¬ (lo.length : Int) = (q : Int) := by omega
  go_enter Tryz.func32, Tryz.ntmps32
  go_wp2
  go_ret
  exact Tells.no (fun h => c3 (HQ.out.symm.trans (congrArg (fun s : Seg => s.logs.length) h.symm))) (below_two _ _ _)
 subst c3
 by_cases c_sn : sn = sn'
 case neg =>
  go_enter Tryz.func32, Tryz.ntmps32
  go_wp2
  go_ret
  exact Tells.no (fun h => c_sn (congrArg Seg.snum h)) (below_two _ _ _)
 subst c_sn
 by_cases c_dn : dn = dn'
 case neg =>
  go_enter Tryz.func32, Tryz.ntmps32
  go_wp2
  go_ret
  exact Tells.no (fun h => c_dn (congrArg Seg.dnum h)) (below_two _ _ _)
 subst c_dn
 go_enter Tryz.func32, Tryz.ntmps32
 go_wp2
 go_loopw [5] (fun iv wr => SameE (Two w 38 #[.int .i64 i, .int .i64 ta, .int .i64 ba, .int .u32 su, .int .i64 sn, .slice A5 ce.length c5, .int .i64 dn, .slice A7 se.length c7, .slice A8 go.length c8, .slice A9 lo.length c9, .slice A10 pe.length c10] #[.int .i64 i, .int .i64 ta, .int .i64 ba, .int .u32 su, .int .i64 sn, .slice B5 ce'.length d5, .int .i64 dn, .slice B7 se'.length d7, .slice B8 go'.length d8, .slice B9 lo.length d9, .slice B10 pe'.length d10]) w lo lo' iv wr) (fun iv _ => lo.length - (intOf iv).toNat)
 case atStart => exact SameI.start (below_two _ _ _) (Two.start _ _ _ _)
 case round =>
  obtain ⟨j, rfl, HI⟩ := hrel
  have HX := Aside0.mk HI
  clear HI
  have x5 := blk_cell HX.out.k.1 5
  have x7 := blk_cell HX.out.k.1 7
  have x8 := blk_cell HX.out.k.1 8
  have x9 := blk_cell HX.out.k.1 9
  have x10 := blk_cell HX.out.k.1 10
  have fx5 := blk_frozen HX.out.k.1 5
  have fx7 := blk_frozen HX.out.k.1 7
  have fx8 := blk_frozen HX.out.k.1 8
  have fx9 := blk_frozen HX.out.k.1 9
  have fx10 := blk_frozen HX.out.k.1 10
  simp only [List.getElem?_toArray, List.getElem?_cons_succ, List.getElem?_cons_zero] at x5 x7 x8 x9 x10
  have y5 := blk_cell HX.out.k.2 5
  have y7 := blk_cell HX.out.k.2 7
  have y8 := blk_cell HX.out.k.2 8
  have y9 := blk_cell HX.out.k.2 9
  have y10 := blk_cell HX.out.k.2 10
  have fy5 := blk_frozen HX.out.k.2 5
  have fy7 := blk_frozen HX.out.k.2 7
  have fy8 := blk_frozen HX.out.k.2 8
  have fy9 := blk_frozen HX.out.k.2 9
  have fy10 := blk_frozen HX.out.k.2 10
  simp only [List.getElem?_toArray, List.getElem?_cons_succ, List.getElem?_cons_zero] at y5 y7 y8 y9 y10
  have hle := HX.out.le
  have hbr : b ≤ wr.heap.size := Nat.le_trans hb HX.out.b.size
  by_cases hlt : j < lo.length
  ·skip
   have hlt' : j < lo'.length := by rw [HQ.out]; exact hlt
   obtain ⟨ad, P1, p1, rfl, d0, l1, g1⟩ := (H9.out.ext (HX.out.b.mono hb)).atSlice hlt
   obtain ⟨ae, Q1, q1, rfl, n0, m1, f1⟩ := (G9.out.ext (HX.out.b.mono hb)).atSlice hlt'
   have HN := Aside0.mk (fun (h : lo[j] = lo'[j]) (W : World) (hw : Below wr.heap.size wr W) => HX.out.next hlt hlt' h hw (HX.out.k.next hw))
   have HS := Aside0.mk (HX.out.stop hlt hlt')
   have HC := Aside0.mk (fun (W : World) (hw : Below wr.heap.size wr W) => (sameRecords_calls lo[j] lo'[j] W b P1 p1 Q1 q1 (g1.ext (hw.mono hbr)) (f1.ext (hw.mono hbr)) (Nat.le_trans hbr hw.size)).mono fun e w' => Tells.at hw)
   clear g1 f1
   generalize lo[j] = x at *
   generalize lo'[j] = y at *
   go_wp2
   refine start_ (n := 12) (S := fun w' => w'.cell? ⟨w.heap.size, 9, none⟩ = some (.slice (some ad) lo.length c9) ∧ w'.cell? ⟨w.heap.size + 1, 9, none⟩ = some (.slice (some ae) lo.length d9) ∧ w'.cell? (ad.add j) = some (.slice P1 x.length p1) ∧ w'.cell? (ae.add j) = some (.slice Q1 y.length q1)) (ds := [10]) #[false, false, false, false, false, false, false, false, false, false, false, false] (by kernel_rfl) rfl rfl ⟨x9, y9, d0, n0⟩ (fun hHeld => ?_)
   refine zq 0 (some 65) ?_
   refine zq 2 (some 67) ?_
   refine zq 5 (some 70) ?_
   refine zq 7 (some 72) ?_
   refine zu 1 (some 66) hHeld ?_
   refine zq 3 (some 68) ?_
   refine zu 4 (some 69) hHeld ?_
   refine zu 6 (some 71) hHeld ?_
   refine zq 8 (some 73) ?_
   refine zu 9 (some 74) hHeld ?_
   refine last_ (i := 10) (N := some 75) #[true, true, true, true, true, true, true, true, true, true, true, false] rfl rfl (by kernel_rfl) (by decide) (fun K hK => ?_)
   refine goes_ Tryz.func70 (by kernel_rfl) rfl #[.slice P1 x.length p1, .slice Q1 y.length q1] (by rfl) rfl rfl (by simp only [List.map_toArray, List.map_cons, List.map_nil]; rfl) ?_
   refine (HC.out _ ?hw).mono ?_
   case hw => repeat (with_reducible first | exact Below.refl _ _ | apply below_drew | apply pw_below_drewN | apply below_alloc)
   rintro e w5 ⟨r, rfl, h1, h2⟩
   have HR := Aside0.mk h1
   have HBL := Aside0.mk h2
   clear h1 h2
   refine ⟨_, rfl, ?_⟩
   refine hK.out _ _ ?_
   clear hK K
   refine norm_ (a' := ?_) ?_ ?_
   rotate_left
   ·show Act.put _ (some 75) _ = _
    simp only [Act.put, zla, zlb, zlc, i64_w, i32_w]
    rfl
   refine zq 11 (some 76) ?_
   refine done_ (by kernel_rfl) ?_
   cases r
   ·go_wp2
    go_ret
    exact Tells.no (fun h => HS.out (fun e => by have := HR.out.2 e; cases this) (congrArg Seg.logs h)) (HX.out.b.trans (HBL.out.mono HX.out.b.size))
   ·go_wp2
    go_roundw
    case rel => exact ⟨j + 1, by simp, HN.out (HR.out.1 (by first | rfl | trivial)) _ HBL.out⟩
    case measure => simp [intOf]; omega
  ·skip
   have hir : ¬ (j : Int) < (lo.length : Int) := by omega
   have HL := Aside0.mk (HX.out.done hlt HQ.out)
   go_wp2_with fail
   refine (sameCells_calls ce ce' _ b A5 c5 B5 d5 (H5.out.ext ((HX.out.b.mono hb).trans ((Below.refl wr.heap.size wr).mono hbr))) (G5.out.ext ((HX.out.b.mono hb).trans ((Below.refl wr.heap.size wr).mono hbr))) (Nat.le_trans hbr (Below.size (Below.refl wr.heap.size wr)))).mono ?_
   rintro e w1 ⟨r1, rfl, h1, h2⟩
   have R1 := Aside0.mk h1
   have BL1 := Aside0.mk (Below.trans (Below.refl wr.heap.size wr) (h2.mono (Below.size (Below.refl wr.heap.size wr))))
   clear h1 h2
   have z1_7 := (BL1.out.cell (World.block_lt_of_cell? _ _ x7)).trans x7
   have z1_8 := (BL1.out.cell (World.block_lt_of_cell? _ _ x8)).trans x8
   have z1_10 := (BL1.out.cell (World.block_lt_of_cell? _ _ x10)).trans x10
   have u1_7 := (BL1.out.cell (World.block_lt_of_cell? _ _ y7)).trans y7
   have u1_8 := (BL1.out.cell (World.block_lt_of_cell? _ _ y8)).trans y8
   have u1_10 := (BL1.out.cell (World.block_lt_of_cell? _ _ y10)).trans y10
   cases r1
   case false =>
    go_wp2
    go_ret
    exact Tells.no (fun h => by have := R1.out.2 (congrArg Seg.cells h); cases this) (HX.out.b.trans (BL1.out.mono HX.out.b.size))
   go_wp2_with fail
   refine (sameCells_calls se se' _ b A7 c7 B7 d7 (H7.out.ext ((HX.out.b.mono hb).trans (BL1.out.mono hbr))) (G7.out.ext ((HX.out.b.mono hb).trans (BL1.out.mono hbr))) (Nat.le_trans hbr (Below.size BL1.out))).mono ?_
   rintro e w2 ⟨r2, rfl, h1, h2⟩
   have R2 := Aside0.mk h1
   have BL2 := Aside0.mk (Below.trans BL1.out (h2.mono (Below.size BL1.out)))
   clear h1 h2
   have z2_7 := (BL2.out.cell (World.block_lt_of_cell? _ _ x7)).trans x7
   have z2_8 := (BL2.out.cell (World.block_lt_of_cell? _ _ x8)).trans x8
   have z2_10 := (BL2.out.cell (World.block_lt_of_cell? _ _ x10)).trans x10
   have u2_7 := (BL2.out.cell (World.block_lt_of_cell? _ _ y7)).trans y7
   have u2_8 := (BL2.out.cell (World.block_lt_of_cell? _ _ y8)).trans y8
   have u2_10 := (BL2.out.cell (World.block_lt_of_cell? _ _ y10)).trans y10
   cases r2
   case false =>
    go_wp2
    go_ret
    exact Tells.no (fun h => by have := R2.out.2 (congrArg Seg.set h); cases this) (HX.out.b.trans (BL2.out.mono HX.out.b.size))
   go_wp2_with fail
   refine (sameTexts_calls go go' _ b A8 c8 B8 d8 (H8.out.ext ((HX.out.b.mono hb).trans (BL2.out.mono hbr))) (G8.out.ext ((HX.out.b.mono hb).trans (BL2.out.mono hbr))) (Nat.le_trans hbr (Below.size BL2.out))).mono ?_
   rintro e w3 ⟨r3, rfl, h1, h2⟩
   have R3 := Aside0.mk h1
   have BL3 := Aside0.mk (Below.trans BL2.out (h2.mono (Below.size BL2.out)))
   clear h1 h2
   have z3_7 := (BL3.out.cell (World.block_lt_of_cell? _ _ x7)).trans x7
   have z3_8 := (BL3.out.cell (World.block_lt_of_cell? _ _ x8)).trans x8
   have z3_10 := (BL3.out.cell (World.block_lt_of_cell? _ _ x10)).trans x10
   have u3_7 := (BL3.out.cell (World.block_lt_of_cell? _ _ y7)).trans y7
   have u3_8 := (BL3.out.cell (World.block_lt_of_cell? _ _ y8)).trans y8
   have u3_10 := (BL3.out.cell (World.block_lt_of_cell? _ _ y10)).trans y10
   cases r3
   case false =>
    go_wp2
    go_ret
    exact Tells.no (fun h => by have := R3.out.2 (congrArg Seg.gone h); cases this) (HX.out.b.trans (BL3.out.mono HX.out.b.size))
   go_wp2_with fail
   refine (sameRecords_calls pe pe' _ b A10 c10 B10 d10 (H10.out.ext ((HX.out.b.mono hb).trans (BL3.out.mono hbr))) (G10.out.ext ((HX.out.b.mono hb).trans (BL3.out.mono hbr))) (Nat.le_trans hbr (Below.size BL3.out))).mono ?_
   rintro e w4 ⟨r4, rfl, h1, h2⟩
   have R4 := Aside0.mk h1
   have BL4 := Aside0.mk (Below.trans BL3.out (h2.mono (Below.size BL3.out)))
   clear h1 h2
   cases r4
   case false =>
    go_wp2
    go_ret
    exact Tells.no (fun h => by have := R4.out.2 (congrArg Seg.pend h); cases this) (HX.out.b.trans (BL4.out.mono HX.out.b.size))
   go_wp2
   go_ret
   exact Tells.yes (by rw [HL.out, R1.out.1 (by trivial), R2.out.1 (by trivial), R3.out.1 (by trivial), R4.out.1 (by trivial)]) (HX.out.b.trans (BL4.out.mono HX.out.b.size))
end Go.Proofs.YthmkioodkldgbaaGreat.DK
