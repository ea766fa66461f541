/- eddylaw4.WireCut walked; conditions: those in the theorem. -/
import Derived.Test.YthmkioodkldgbaaGreatQcM37
import Derived.Test.YthmkioodkldgbaaGreatQcM38
import Derived.Test.YthmkioodkldgbaaGreatQcM15
import Derived.Test.YthmkioodkldgbaaGreatQcM39
import Derived.Deep.CutBlock
import Derived.Deep.CutRange
namespace Go.Proofs.YthmkioodkldgbaaGreat.DK
open Go.Proofs.YthmkioodkldgbaaGreat.PD
open Go.RowKit Go.Proofs.YthmkioodkldgbaaGreatW.PrintWords Go.Proofs.YthmkioodkldgbaaGreatW.PrintLast Go.Proofs.YthmkioodkldgbaaGreatW.PrintMore
set_option linter.unusedVariables false
set_option linter.unusedSimpArgs false
set_option maxRecDepth 100000
theorem two_ {P : Program} {md : Region.Mode} {ops : Array Oper} {Q : Exit → Act → World → Prop} {S : World → Prop} {ds : List Nat} {i j : Nat} {Ni Nj : Option Tmp} {oi oj : Oper} {fuel : Nat} {l : Array Bool} {a : Act} {w : World} (li lj : Array Bool) (hi : ops[i]? = some oi) (hj : ops[j]? = some oj) (hNi : oi.dst = Ni) (hNj : oj.dst = Nj)
  (hc : (Region.ready md ops l == [i, j] && l.setIfInBounds i true == li && l.setIfInBounds j true == lj) = true) (hdi : i ∉ ds) (hdj : j ∉ ds)
  (h1 : ∀ K : Act → World → Prop, Shut (∀ a' w', S w' → (S w' → wpAnyLast P md ops Q S ds fuel li a' w') → K a' w') → if Region.wanted oi (yielded ops a.tmps) = true then Oper.wp P oi a w K Q else K (a.put Ni undef) w)
  (h2 : ∀ K : Act → World → Prop, Shut (∀ a' w', S w' → (S w' → wpAnyLast P md ops Q S ds fuel lj a' w') → K a' w') → if Region.wanted oj (yielded ops a.tmps) = true then Oper.wp P oj a w K Q else K (a.put Nj undef) w) :
  wpAnyLast P md ops Q S ds (fuel + 1) l a w := by
 subst hNi
 subst hNj
 simp only [Bool.and_eq_true, beq_iff_eq] at hc
 obtain ⟨⟨h3, h4⟩, h5⟩ := hc
 subst h4
 subst h5
 exact wpAnyLast_ready h3 (by simp) (AllReadyL.cons hi hdi (fun K hK => h1 K hK) (AllReadyL.cons hj hdj (fun K hK => h2 K hK) AllReadyL.nil))
theorem row_reads {k : IntKind} {w : World} {a : Option Addr} {len cap : Nat} {zs : List Int} (h : (a = none ∧ len = 0 ∧ cap = 0 ∧ zs = []) ∨ ∃ x, a = some x ∧ len ≤ cap ∧ cap ≤ maxLen ∧ zs.length = cap ∧ (∀ i, i < zs.length → w.cell? (x.add i) = some (.int k (zs.getD i 0))) ∧ ∀ n ∈ zs, (Lit.int k n).wf = true) :
  ∃ l : List Int, len = l.length ∧ ReadsInt w k a l.length l ∧ l.length ≤ maxLen ∧ ∀ x ∈ l, (Lit.int k x).wf = true := by
 rcases h with ⟨rfl, rfl, rfl, rfl⟩ | ⟨x, rfl, hl, hm, hz, hc, hw⟩
 ·exact ⟨[], rfl, ReadsInt.nil _ _, Nat.zero_le _, fun x hx => by simp at hx⟩
 ·have e : (zs.take len).length = len := by simp; omega
  have hm' : len ≤ maxLen := Nat.le_trans hl hm
  refine ⟨zs.take len, e.symm, ⟨rfl, by rw [e]; simpa [maxLen] using hm', fun _ => ⟨x, rfl, fun j hj => ?_⟩⟩, by rw [e]; exact hm', fun y hy => hw y (List.mem_of_mem_take hy)⟩
  rw [e] at hj
  rw [hc j (by omega)]
  simp [List.getD, List.getElem?_take, hj]
theorem rowC_reads {k : IntKind} {w : World} {a : Option Addr} {len cap : Nat} {zs : List Int} (h : (a = none ∧ len = 0 ∧ cap = 0 ∧ zs = []) ∨ ∃ x, a = some x ∧ len ≤ cap ∧ cap ≤ maxLen ∧ zs.length = cap ∧ (∀ i, i < zs.length → w.cell? (x.add i) = some (.int k (zs.getD i 0))) ∧ ∀ n ∈ zs, (Lit.int k n).wf = true) :
  ∃ l : List Int, len = l.length ∧ ReadsInt w k a l.length l ∧ l.length ≤ maxLen ∧ (∀ x ∈ l, (Lit.int k x).wf = true) ∧ l.length ≤ cap := by
 have hl : len ≤ cap := by
  rcases h with ⟨_, rfl, rfl, _⟩ | ⟨_, _, h, _⟩
  ·exact Nat.le_refl _
  ·exact h
 obtain ⟨l, e, h1, h2, h3⟩ := row_reads h
 exact ⟨l, e, h1, h2, h3, e ▸ hl⟩

theorem segC_len {s : Seg} (ho : s.Ok) (h : segC s = 0) : (encSeg s).length ≤ 100000000 := by
 unfold segC at h
 split at h
 ·simp at h
 split at h
 ·simp at h
 split at h
 ·rename_i h1 h2 h3
  unfold logsC at h
  split at h
  ·simp at h
  rename_i h4
  have hl := logsL_ok ho.logs ho.pend h
  have cl := lst_len (lst encR) 300000 4 s.logs (by omega) (by omega) (fun y hy => (hl.1 y hy).2)
  have g1 := grp_len10 (n := s.id) (by omega)
  have g2 := grp_len10 (n := s.task) (by omega)
  have g3 := grp_len10 (n := s.base) (by omega)
  unfold bodyC at h3
  by_cases hz : s.base = 0
  ·rw [if_pos hz] at h3
   have hst := stateC_ok ho.cells h3
   unfold encSeg encFront encLogs
   rw [if_pos hz]
   simp only [List.length_append, List.length_cons]
   omega
  ·rw [if_neg hz] at h3
   split at h3
   ·rename_i h5
    have hst := stateC_ok ho.set h5
    unfold goneC at h3
    split at h3
    ·simp at h3
    rename_i h6
    have hg := goneL_ok h3
    have cg := lst_len keyB 22 64 s.gone (by omega) (by omega) (fun y hy => keyB_len (hg y hy))
    have g4 := grp_len10 (n := s.dnum) (by omega)
    unfold encSeg encFront encLogs encDelta word
    rw [if_neg hz]
    simp only [List.length_append, List.length_cons, List.length_nil]
    omega
   ·rename_i h5; exact absurd h3 h5
 ·rename_i h1 h2 h3; exact absurd h h3

theorem putB_len {t : Thg} (ht : ThgQ t) : (putB t).length ≤ 100000000 := by
 obtain ⟨ho, hc⟩ := ht
 by_cases h2 : t.kind = 2
 ·unfold putC at hc; rw [if_pos h2] at hc; unfold putB; rw [if_pos h2]
  have h := (stateC_ok ho.sc hc).2.2.2.2
  omega
 by_cases h3 : t.kind = 3
 ·unfold putC at hc; rw [if_neg h2, if_pos h3] at hc; unfold putB; rw [if_neg h2, if_pos h3]
  exact segC_len ho.g hc
 by_cases h4 : t.kind = 4
 ·unfold putC at hc; rw [if_neg h2, if_neg h3, if_pos h4] at hc; unfold putB; rw [if_neg h2, if_neg h3, if_pos h4]
  unfold manC at hc
  split at hc
  ·simp at hc
  rename_i h
  have hl := lst_len encRow 14 12 t.mr (by omega) (by omega) (fun x hx => by have h := rowsC_ok hc x hx; have g := grp_len10 (n := x.f0) (by omega); unfold encRow word; simp only [List.length_append, List.length_cons, List.length_nil]; omega)
  have g := grp_len10 (n := t.mi) (by omega)
  unfold encMan word
  simp only [List.length_append, List.length_cons, List.length_nil]
  omega
 by_cases h5 : t.kind = 5
 ·unfold putC at hc; rw [if_neg h2, if_neg h3, if_neg h4, if_pos h5] at hc; unfold putB; rw [if_neg h2, if_neg h3, if_neg h4, if_pos h5]
  unfold rowC at hc
  split at hc
  ·simp at hc
  rename_i h
  have g := grp_len10 (n := t.oa) (by omega)
  have hr := (recC_ok ho.ox hc).2
  unfold encOut
  simp only [List.length_append, List.length_cons]
  omega
 ·have hp := putC_rec h2 h3 h4 h5
  rw [hp.2]
  have hr := (recC_ok ho.r (hp.1.symm.trans hc)).2
  omega
set_option maxHeartbeats 8000000 in
theorem copyBytes_calls (w : World) (A : Option Addr) (c : Nat) (l : List Int) (hr : ReadsInt w .u8 A l.length l) (hl : l.length ≤ 140737488355328) : Calls Tryz.prog 16 #[.slice A l.length c] w (Bytes5 w l) := by
 have HR := Aside0.mk hr
 clear hr
 unfold Bytes5
 go_enter Tryz.func16, Tryz.ntmps16
 go_wp2_with (at_builtin; refine appRow rfl (.tmp 4) (.tmp 5) rfl (.slice none 0 0) [] l A l.length c rfl rfl (R5.nil _ _) HR.out (Nat.le_refl _) (by simpa using hl) ?_; intro v1 w1 h1 h2; (have HR1 := Aside0.mk h1); (have HU1 := Aside0.mk h2); clear h1 h2)
 go_ret
 exact ⟨v1, rfl, (by have h := HR1.out; rwa [List.nil_append] at h), HU1.out.below (Nat.le_refl _)⟩
theorem zT_any (w : World) (k : Int) (a1 a2 a3 a4 a5 a6 a7 a8 a9 a10 a11 : Option Addr) (c1 c2 c3 c4 c5 c6 c7 c8 c9 c10 c11 : Nat) : ThIn w (zT k) a1 a2 a3 a4 a5 a6 a7 a8 a9 a10 a11 c1 c2 c3 c4 c5 c6 c7 c8 c9 c10 c11 :=
 ⟨⟨rfl, Nat.zero_le _, fun hh => absurd hh (Nat.lt_irrefl _)⟩, ⟨rfl, Nat.zero_le _, fun hh => absurd hh (Nat.lt_irrefl _)⟩, ⟨rfl, Nat.zero_le _, fun hh => absurd hh (Nat.lt_irrefl _)⟩, ⟨rfl, Nat.zero_le _, fun hh => absurd hh (Nat.lt_irrefl _)⟩, ⟨rfl, Nat.zero_le _, fun hh => absurd hh (Nat.lt_irrefl _)⟩, ⟨rfl, Nat.zero_le _, fun hh => absurd hh (Nat.lt_irrefl _)⟩, ⟨rfl, Nat.zero_le _, fun hh => absurd hh (Nat.lt_irrefl _)⟩, ⟨rfl, Nat.zero_le _, fun hh => absurd hh (Nat.lt_irrefl _)⟩, ⟨rfl, Nat.zero_le _, fun hh => absurd hh (Nat.lt_irrefl _)⟩, ⟨rfl, Nat.zero_le _, fun hh => absurd hh (Nat.lt_irrefl _)⟩, ⟨rfl, Nat.zero_le _, fun hh => absurd hh (Nat.lt_irrefl _)⟩, Nat.zero_le _, Nat.zero_le _, Nat.zero_le _, Nat.zero_le _, Nat.zero_le _, Nat.zero_le _, Nat.zero_le _, Nat.zero_le _, Nat.zero_le _, Nat.zero_le _, Nat.zero_le _⟩
set_option maxHeartbeats 80000000 in
theorem WireCut_calls (w : World) (t : Thg) (a1 a2 a3 a4 a5 a6 a7 a8 a9 a10 a11 : Option Addr) (c1 c2 c3 c4 c5 c6 c7 c8 c9 c10 c11 : Nat) (hi : ThIn w t a1 a2 a3 a4 a5 a6 a7 a8 a9 a10 a11 c1 c2 c3 c4 c5 c6 c7 c8 c9 c10 c11) (ho : t.Ok) (cut : Int) (hcut : -9223372036854775808 ≤ cut ∧ cut ≤ 9223372036854775807) (more : List Int) (A : Option Addr) (c : Nat) (hr : ReadsInt w .u8 A more.length more) (hy : ∀ x ∈ more, 0 ≤ x ∧ x ≤ 255) : Calls Tryz.prog 5 #[.agg #[.int .i64 t.kind, .string t.r.f0, .int .i64 t.r.f1.f0, .int .i64 t.r.f1.f1, .string t.r.f1.f2, .slice a1 t.r.f1.f3.length c1, .slice a2 t.r.f2.length c2, .int .i64 t.sn, .slice a3 t.sc.length c3, .int .i64 t.g.id, .int .i64 t.g.task, .int .i64 t.g.base, .int .u32 t.g.sum, .int .i64 t.g.snum, .slice a4 t.g.cells.length c4, .int .i64 t.g.dnum, .slice a5 t.g.set.length c5, .slice a6 t.g.gone.length c6, .slice a7 t.g.logs.length c7, .slice a8 t.g.pend.length c8, .int .i64 t.mi, .int .u32 t.ms, .slice a9 t.mr.length c9, .int .i64 t.oa, .string t.ox.f0, .int .i64 t.ox.f1.f0, .int .i64 t.ox.f1.f1, .string t.ox.f1.f2, .slice a10 t.ox.f1.f3.length c10, .slice a11 t.ox.f2.length c11], .int .i64 cut, .slice A more.length c] w (TrueB w) := by
 have HO := Aside0.mk ho
 have HI := Aside0.mk hi
 have HM := Aside0.mk hr
 have HY := Aside0.mk hy
 have hm9 : more.length ≤ 9223372036854775807 := hr.2.1
 clear hi ho hr hy
 have X0 := Aside0.mk (heap_alloc_new w (.cells #[.int .i64 t.kind, .string t.r.f0, .int .i64 t.r.f1.f0, .int .i64 t.r.f1.f1, .string t.r.f1.f2, .slice a1 t.r.f1.f3.length c1, .slice a2 t.r.f2.length c2, .int .i64 t.sn, .slice a3 t.sc.length c3, .int .i64 t.g.id, .int .i64 t.g.task, .int .i64 t.g.base, .int .u32 t.g.sum, .int .i64 t.g.snum, .slice a4 t.g.cells.length c4, .int .i64 t.g.dnum, .slice a5 t.g.set.length c5, .slice a6 t.g.gone.length c6, .slice a7 t.g.logs.length c7, .slice a8 t.g.pend.length c8, .int .i64 t.mi, .int .u32 t.ms, .slice a9 t.mr.length c9, .int .i64 t.oa, .string t.ox.f0, .int .i64 t.ox.f1.f0, .int .i64 t.ox.f1.f1, .string t.ox.f1.f2, .slice a10 t.ox.f1.f3.length c10, .slice a11 t.ox.f2.length c11] 45))
 go_enter Tryz.func5, Tryz.ntmps5
 go_wp2_with fail
 refine (known_calls _).mono ?_
 rintro en w1 ⟨rfl, hb1⟩
 have X1 := Aside0.mk ((hb1.block _ (blk_lt X0.out)).trans X0.out)
 have HB1 := Aside0.mk (show Below w.heap.size w w1 from (below_alloc (Below.refl _ _) _).trans (hb1.mono (by rw [size_alloc]; omega)))
 clear hb1
 go_wp2_with (refine wpList_load_row rfl 45 (.tmp 3) rfl w.heap.size rfl 45 _ (0, 0) _ X1.out Tryz.underlying45 rfl (by kernel_rfl) ?_)
 refine (small_calls _ t a1 a2 a3 a4 a5 a6 a7 a8 a9 a10 a11 c1 c2 c3 c4 c5 c6 c7 c8 c9 c10 c11 (HI.out.below HB1.out)).mono ?_
 rintro en w2 ⟨bb, rfl, hb2⟩
 have X2 := Aside0.mk ((hb2.block _ (blk_lt X1.out)).trans X1.out)
 have HB2 := Aside0.mk (HB1.out.trans (hb2.mono HB1.out.size))
 clear hb2
 cases bb
 case false =>
  go_wp2
  go_ret
  exact ⟨rfl, HB2.out⟩
 by_cases hl : 262144 < more.length
 ·go_wp2
  go_ret
  exact ⟨rfl, HB2.out⟩
 go_wp2_with (refine wpList_load_row rfl 45 (.tmp 3) rfl w.heap.size rfl 45 _ (0, 0) _ X2.out Tryz.underlying45 rfl (by kernel_rfl) ?_)
 refine (only_calls HI.out).mono ?_
 rintro en w3 ⟨d1, d2, d3, d4, d5, d6, d7, d8, d9, d10, d11, n1, n2, n3, n4, n5, n6, n7, n8, n9, n10, n11, rfl, ht, hb3⟩
 have X3 := Aside0.mk ((hb3.block _ (blk_lt X2.out)).trans X2.out)
 have HB3 := Aside0.mk (HB2.out.trans (hb3.mono HB2.out.size))
 have HT := Aside0.mk ht
 have HOK := Aside0.mk (onlyT_ok HO.out)
 have HG := Aside0.mk (@get_only t)
 clear hb3 ht
 generalize onlyT t = s at *
 iterate 2 (first | go_values | go_skip | go_guarded | go_step | go_upon | go_back | go_simp)
 refine wpList_store_row ?z1 45 (.tmp 3) (.tmp 26) ?z2 ?z3 w.heap.size ?z4 45 (#[.int .i64 t.kind, .string t.r.f0, .int .i64 t.r.f1.f0, .int .i64 t.r.f1.f1, .string t.r.f1.f2, .slice a1 t.r.f1.f3.length c1, .slice a2 t.r.f2.length c2, .int .i64 t.sn, .slice a3 t.sc.length c3, .int .i64 t.g.id, .int .i64 t.g.task, .int .i64 t.g.base, .int .u32 t.g.sum, .int .i64 t.g.snum, .slice a4 t.g.cells.length c4, .int .i64 t.g.dnum, .slice a5 t.g.set.length c5, .slice a6 t.g.gone.length c6, .slice a7 t.g.logs.length c7, .slice a8 t.g.pend.length c8, .int .i64 t.mi, .int .u32 t.ms, .slice a9 t.mr.length c9, .int .i64 t.oa, .string t.ox.f0, .int .i64 t.ox.f1.f0, .int .i64 t.ox.f1.f1, .string t.ox.f1.f2, .slice a10 t.ox.f1.f3.length c10, .slice a11 t.ox.f2.length c11]) [.int .i64 s.kind, .string s.r.f0, .int .i64 s.r.f1.f0, .int .i64 s.r.f1.f1, .string s.r.f1.f2, .slice d1 s.r.f1.f3.length n1, .slice d2 s.r.f2.length n2, .int .i64 s.sn, .slice d3 s.sc.length n3, .int .i64 s.g.id, .int .i64 s.g.task, .int .i64 s.g.base, .int .u32 s.g.sum, .int .i64 s.g.snum, .slice d4 s.g.cells.length n4, .int .i64 s.g.dnum, .slice d5 s.g.set.length n5, .slice d6 s.g.gone.length n6, .slice d7 s.g.logs.length n7, .slice d8 s.g.pend.length n8, .int .i64 s.mi, .int .u32 s.ms, .slice d9 s.mr.length n9, .int .i64 s.oa, .string s.ox.f0, .int .i64 s.ox.f1.f0, .int .i64 s.ox.f1.f1, .string s.ox.f1.f2, .slice d10 s.ox.f1.f3.length n10, .slice d11 s.ox.f2.length n11] ?z5 ?z6 ?z7 ?z8 ?z9 ?z0
 (case z2 => rfl)
 (case z1 => rfl)
 (case z3 => rfl)
 (case z4 => rfl)
 (case z5 => rfl)
 (case z6 => exact X3.out)
 (case z7 => rfl)
 (case z8 => exact size46)
 (case z9 => simp [Value.oneCell'])
 obtain ⟨hW1, hW2, hW3⟩ := filln X3.out [.int .i64 s.kind, .string s.r.f0, .int .i64 s.r.f1.f0, .int .i64 s.r.f1.f1, .string s.r.f1.f2, .slice d1 s.r.f1.f3.length n1, .slice d2 s.r.f2.length n2, .int .i64 s.sn, .slice d3 s.sc.length n3, .int .i64 s.g.id, .int .i64 s.g.task, .int .i64 s.g.base, .int .u32 s.g.sum, .int .i64 s.g.snum, .slice d4 s.g.cells.length n4, .int .i64 s.g.dnum, .slice d5 s.g.set.length n5, .slice d6 s.g.gone.length n6, .slice d7 s.g.logs.length n7, .slice d8 s.g.pend.length n8, .int .i64 s.mi, .int .u32 s.ms, .slice d9 s.mr.length n9, .int .i64 s.oa, .string s.ox.f0, .int .i64 s.ox.f1.f0, .int .i64 s.ox.f1.f1, .string s.ox.f1.f2, .slice d10 s.ox.f1.f3.length n10, .slice d11 s.ox.f2.length n11] rfl
 have HB4 := Aside0.mk (HB3.out.trans (hW3.below HB3.out.size))
 have X4 := Aside0.mk hW1
 clear hW1 hW2 hW3
 generalize sets w3 w.heap.size 0 [.int .i64 s.kind, .string s.r.f0, .int .i64 s.r.f1.f0, .int .i64 s.r.f1.f1, .string s.r.f1.f2, .slice d1 s.r.f1.f3.length n1, .slice d2 s.r.f2.length n2, .int .i64 s.sn, .slice d3 s.sc.length n3, .int .i64 s.g.id, .int .i64 s.g.task, .int .i64 s.g.base, .int .u32 s.g.sum, .int .i64 s.g.snum, .slice d4 s.g.cells.length n4, .int .i64 s.g.dnum, .slice d5 s.g.set.length n5, .slice d6 s.g.gone.length n6, .slice d7 s.g.logs.length n7, .slice d8 s.g.pend.length n8, .int .i64 s.mi, .int .u32 s.ms, .slice d9 s.mr.length n9, .int .i64 s.oa, .string s.ox.f0, .int .i64 s.ox.f1.f0, .int .i64 s.ox.f1.f1, .string s.ox.f1.f2, .slice d10 s.ox.f1.f3.length n10, .slice d11 s.ox.f2.length n11] = W4 at *
 go_wp2_with (refine wpList_load_row rfl 45 (.tmp 3) rfl w.heap.size rfl 45 _ (0, 0) _ X4.out Tryz.underlying45 rfl (by kernel_rfl) ?_)
 refine (put_calls W4 s d1 d2 d3 d4 d5 d6 d7 d8 d9 d10 d11 n1 n2 n3 n4 n5 n6 n7 n8 n9 n10 n11 (HT.out.below HB4.out) HOK.out).mono ?_
 rintro en w5 ⟨u, rfl, hu, hb5⟩
 have X5 := Aside0.mk ((hb5.block _ (blk_lt X4.out)).trans X4.out)
 have HB5 := Aside0.mk (HB4.out.trans (hb5.mono HB4.out.size))
 clear hb5
 by_cases h0 : putC s = 0
 case neg =>
  have h0b : (putC s != 0) = true := bne_iff_ne.2 h0
  clear h0
  generalize putC s = r at *
  go_wp2
  go_ret
  exact ⟨rfl, HB5.out⟩
 rw [if_pos h0] at hu
 rw [h0]
 have HQ := Aside0.mk (show ThgQ s from ⟨HOK.out, h0⟩)
 have HU := Aside0.mk hu
 clear h0 hu
 replace HG := Aside0.mk (HG.out HQ.out)
 have HK := Aside0.mk (@get_cut s HQ.out)
 have HMO := Aside0.mk (@get_more s HQ.out)
 have HZ := Aside0.mk (Byt.putB HOK.out)
 obtain ⟨Az, cz, ez, hcz, rz⟩ := own_reads_of_le (enc := Value.int .u8) (d := (0 : Int)) (show World.ownsRow _ _ _ _ _ _ (encs (Value.int .u8) (putB s)) from HU.out)
 subst ez
 have HRZ := Aside0.mk (show ReadsInt w5 .u8 Az (putB s).length (putB s) from rz)
 have hz9 : (putB s).length ≤ 9223372036854775807 := HRZ.out.2.1
 have hz8 := putB_len HQ.out
 clear rz
 generalize putB s = zs at *
 go_upto_if 40 with fail
 go_cut [9] from 41 to 45 (fun v w' => (∃ N : Nat, v = .int .i64 N ∧ N ≤ zs.length) ∧ w' = w5)
 case first =>
  have hb1 := Int.tmod_lt_of_pos cut (show (0 : Int) < (zs.length : Int) + 1 by omega)
  have hb2 := Int.lt_tmod_of_pos cut (show (0 : Int) < (zs.length : Int) + 1 by omega)
  generalize cut.tmod ((zs.length : Int) + 1) = m at *
  by_cases hn : m < 0
  ·go_wp2_with fail
   go_meet
   case rel => exact ⟨⟨(m + zs.length + 1).toNat, by rw [Int.toNat_of_nonneg (by omega)], by omega⟩, rfl⟩
  ·go_wp2_with fail
   go_meet
   case rel => exact ⟨⟨m.toNat, by rw [Int.toNat_of_nonneg (by omega)], by omega⟩, rfl⟩
 case rest =>
  obtain ⟨⟨N, rfl, hN⟩, rfl⟩ := hcut
  have hcz' : N ≤ cz := Nat.le_trans hN hcz
  have HGC := Aside0.mk (fun (W : World) (hw : Below wc.heap.size wc W) => (by
   have h := get_calls (w := W) (b0 := W.heap.size) (A := Az) (c := cz) (l := zs.take N) s.kind (In.ofC (Kd.C_of_reads (d := (0 : Int)) (h1 := fun _ => rfl) (by have h := HRZ.out.take_ N hN; rwa [show (zs.take N).length = N by rw [List.length_take]; omega])) hw hw.size) (by rw [List.length_take]; omega) (fun x hx => HZ.out x (List.mem_of_mem_take hx))
   rwa [show (zs.take N).length = N by rw [List.length_take]; omega] at h : Calls Tryz.prog 11 #[.int .i64 s.kind, .slice Az N cz] W (GetP W (pGet s.kind (zs.take N)))))
  have m0 := blk_cell X5.out 0
  have fm0 := blk_frozen X5.out 0
  simp only [List.getElem?_toArray, List.getElem?_cons_succ, List.getElem?_cons_zero] at m0
  go_upto_region 12 with fail
  go_cut [10, 11] from 46 to 54 (fun p e w' => ∃ (q : Thg) (g : Nat) (p1 p2 p3 p4 p5 p6 p7 p8 p9 p10 p11 : Option Addr) (y1 y2 y3 y4 y5 y6 y7 y8 y9 y10 y11 : Nat) (f : Int), p = .pointer (some ⟨g, 0, none⟩) ∧ e = .int .i64 f ∧ w'.heap[g]? = some (.cells #[.int .i64 q.kind, .string q.r.f0, .int .i64 q.r.f1.f0, .int .i64 q.r.f1.f1, .string q.r.f1.f2, .slice p1 q.r.f1.f3.length y1, .slice p2 q.r.f2.length y2, .int .i64 q.sn, .slice p3 q.sc.length y3, .int .i64 q.g.id, .int .i64 q.g.task, .int .i64 q.g.base, .int .u32 q.g.sum, .int .i64 q.g.snum, .slice p4 q.g.cells.length y4, .int .i64 q.g.dnum, .slice p5 q.g.set.length y5, .slice p6 q.g.gone.length y6, .slice p7 q.g.logs.length y7, .slice p8 q.g.pend.length y8, .int .i64 q.mi, .int .u32 q.ms, .slice p9 q.mr.length y9, .int .i64 q.oa, .string q.ox.f0, .int .i64 q.ox.f1.f0, .int .i64 q.ox.f1.f1, .string q.ox.f1.f2, .slice p10 q.ox.f1.f3.length y10, .slice p11 q.ox.f2.length y11] 45 (0, 0)) ∧ Below wc.heap.size wc w' ∧ pGet s.kind (zs.take N) = (f, q))
  case first =>
   refine start_ (n := 12) (S := fun w' => w'.cell? ⟨w.heap.size, 0, none⟩ = some (.int .i64 s.kind)) (ds := [10]) #[false, false, false, false, false, false, false, false, false, false, false, false] (by kernel_rfl) rfl rfl (m0) (fun hHeld => ?_)
   refine pure_ (i := 0) (N := some 47) (v := ?_) (a' := ?_) #[true, false, false, false, false, false, false, false, false, false, false, false] rfl rfl (by kernel_rfl) (fun _ _ _ h => h) (Or.inl ⟨by rfl, ?_⟩) ?_ ?_
   rotate_left
   ·intro w'
    go_simp
    with_reducible rfl
   rotate_left
   ·simp only [Act.put, List.setIfInBounds_toArray, List.set_cons_zero, List.set_cons_succ, i64_w, i32_w]
    rfl
   refine pure_ (i := 2) (N := some 49) (v := ?_) (a' := ?_) #[true, false, true, false, false, false, false, false, false, false, false, false] rfl rfl (by kernel_rfl) (fun _ _ _ h => h) (Or.inl ⟨by rfl, ?_⟩) ?_ ?_
   rotate_left
   ·intro w'
    go_simp
    with_reducible rfl
   rotate_left
   ·simp only [Act.put, List.setIfInBounds_toArray, List.set_cons_zero, List.set_cons_succ, i64_w, i32_w]
    rfl
   refine pure_ (i := 3) (N := some 50) (v := ?_) (a' := ?_) #[true, false, true, true, false, false, false, false, false, false, false, false] rfl rfl (by kernel_rfl) (fun _ _ _ h => h) (Or.inl ⟨by rfl, ?_⟩) ?_ ?_
   rotate_left
   ·intro w'
    go_simp
    with_reducible rfl
   rotate_left
   ·simp only [Act.put, List.setIfInBounds_toArray, List.set_cons_zero, List.set_cons_succ, i64_w, i32_w]
    rfl
   refine pure_ (i := 4) (N := some 51) (v := ?_) (a' := ?_) #[true, false, true, true, true, false, false, false, false, false, false, false] rfl rfl (by kernel_rfl) (fun _ _ _ h => h) (Or.inl ⟨by rfl, ?_⟩) ?_ ?_
   rotate_left
   ·intro w'
    go_simp
    with_reducible rfl
   rotate_left
   ·simp only [Act.put, List.setIfInBounds_toArray, List.set_cons_zero, List.set_cons_succ, i64_w, i32_w]
    rfl
   refine take_ (i := 1) (N := some 48) (v := ?_) (a' := ?_) #[true, true, true, true, true, false, false, false, false, false, false, false] rfl rfl (by kernel_rfl) (fun _ _ _ h => h) (Or.inl ⟨by rfl, ?_⟩) hHeld ?_ ?_
   rotate_left
   ·intro w' s0
    go_simp
    with_reducible rfl
   rotate_left
   ·simp only [Act.put, List.setIfInBounds_toArray, List.set_cons_zero, List.set_cons_succ, i64_w, i32_w]
    rfl
   refine two_ (i := 5) (j := 9) (Ni := some 52) (Nj := some 10) #[true, true, true, true, true, true, false, false, false, false, false, false] #[true, true, true, true, true, false, false, false, false, true, false, false] rfl rfl rfl rfl (by kernel_rfl) (by decide) (by decide) (fun K hK => ?_) (fun K hK => ?_)
   ·skip
    refine goes_ Tryz.func11 (by kernel_rfl) rfl #[.int .i64 s.kind, .slice Az N cz] (by rfl) rfl rfl (by simp only [List.map_toArray, List.map_cons, List.map_nil]; rfl) ?_
    refine (HGC.out wc.drew (below_drew (Below.refl wc.heap.size wc))).mono ?_
    rintro en w6 ⟨q, p1, p2, p3, p4, p5, p6, p7, p8, p9, p10, p11, y1, y2, y3, y4, y5, y6, y7, y8, y9, y10, y11, f, rfl, _, hb6, hq⟩
    have HB6 := Aside0.mk (((below_drew (Below.refl wc.heap.size wc))).trans (hb6.mono ((below_drew (Below.refl wc.heap.size wc))).size))
    have HN := Aside0.mk (heap_alloc_new w6 (.cells #[.int .i64 0, .string ⟨#[]⟩, .int .i64 0, .int .i64 0, .string ⟨#[]⟩, .slice none 0 0, .slice none 0 0, .int .i64 0, .slice none 0 0, .int .i64 0, .int .i64 0, .int .i64 0, .int .u32 0, .int .i64 0, .slice none 0 0, .int .i64 0, .slice none 0 0, .slice none 0 0, .slice none 0 0, .slice none 0 0, .int .i64 0, .int .u32 0, .slice none 0 0, .int .i64 0, .string ⟨#[]⟩, .int .i64 0, .int .i64 0, .string ⟨#[]⟩, .slice none 0 0, .slice none 0 0] 45))
    have HQ6 := Aside0.mk hq
    have hx6 := HB6.out.size
    clear hb6 hq
    refine ⟨_, rfl, ?_⟩
    refine hK.out _ _ ((cell_old HB6.out m0)) (fun hHeld => ?_)
    clear hK K
    refine norm_ (a' := ?_) ?_ ?_
    rotate_left
    ·show Act.put _ (some 52) _ = _
     simp only [Act.put, List.setIfInBounds_toArray, List.set_cons_zero, List.set_cons_succ, i64_w, i32_w]
     rfl
    refine pure_ (i := 6) (N := some 46) (v := ?_) (a' := ?_) #[true, true, true, true, true, true, true, false, false, false, false, false] rfl rfl (by kernel_rfl) (fun _ _ _ h => h) (Or.inl ⟨by rfl, ?_⟩) ?_ ?_
    rotate_left
    ·intro w'
     go_simp
     with_reducible rfl
    rotate_left
    ·simp only [Act.put, List.setIfInBounds_toArray, List.set_cons_zero, List.set_cons_succ, i64_w, i32_w]
     rfl
    refine pure_ (i := 7) (N := some 53) (v := ?_) (a' := ?_) #[true, true, true, true, true, true, true, true, false, false, false, false] rfl rfl (by kernel_rfl) (fun _ _ _ h => h) (Or.inl ⟨by rfl, ?_⟩) ?_ ?_
    rotate_left
    ·intro w'
     go_simp
     with_reducible rfl
    rotate_left
    ·simp only [Act.put, List.setIfInBounds_toArray, List.set_cons_zero, List.set_cons_succ, i64_w, i32_w]
     rfl
    refine pure_ (i := 8) (N := some 54) (v := ?_) (a' := ?_) #[true, true, true, true, true, true, true, true, true, false, false, false] rfl rfl (by kernel_rfl) (fun _ _ _ h => h) (Or.inl ⟨by rfl, ?_⟩) ?_ ?_
    rotate_left
    ·intro w'
     go_simp
     with_reducible rfl
    rotate_left
    ·simp only [Act.put, List.setIfInBounds_toArray, List.set_cons_zero, List.set_cons_succ, i64_w, i32_w]
     rfl
    refine one_ (i := 9) (N := some 10) #[true, true, true, true, true, true, true, true, true, true, false, false] rfl rfl (by kernel_rfl) (by decide) (fun K hK => ?_)
    refine value_ (w1 := ?_) (v := ?_) (by rfl) rfl ?_ ?_
    rotate_left 2
    ·go_simp
     constructor
     ·rfl
     ·rfl
    refine hK.out _ _ ((cell_old (below_alloc HB6.out _) m0)) (fun hHeld => ?_)
    clear hK K
    refine norm_ (a' := ?_) ?_ ?_
    rotate_left
    ·show Act.put _ (some 10) _ = _
     simp only [Act.put, List.setIfInBounds_toArray, List.set_cons_zero, List.set_cons_succ, i64_w, i32_w]
     rfl
    refine last_ (i := 10) (N := none) #[true, true, true, true, true, true, true, true, true, true, true, false] rfl rfl (by kernel_rfl) (by decide) (fun K hK => ?_)
    refine skip_ (w1 := sets (w6.alloc (.cells #[.int .i64 0, .string ⟨#[]⟩, .int .i64 0, .int .i64 0, .string ⟨#[]⟩, .slice none 0 0, .slice none 0 0, .int .i64 0, .slice none 0 0, .int .i64 0, .int .i64 0, .int .i64 0, .int .u32 0, .int .i64 0, .slice none 0 0, .int .i64 0, .slice none 0 0, .slice none 0 0, .slice none 0 0, .slice none 0 0, .int .i64 0, .int .u32 0, .slice none 0 0, .int .i64 0, .string ⟨#[]⟩, .int .i64 0, .int .i64 0, .string ⟨#[]⟩, .slice none 0 0, .slice none 0 0] 45)) w6.heap.size 0 [.int .i64 q.kind, .string q.r.f0, .int .i64 q.r.f1.f0, .int .i64 q.r.f1.f1, .string q.r.f1.f2, .slice p1 q.r.f1.f3.length y1, .slice p2 q.r.f2.length y2, .int .i64 q.sn, .slice p3 q.sc.length y3, .int .i64 q.g.id, .int .i64 q.g.task, .int .i64 q.g.base, .int .u32 q.g.sum, .int .i64 q.g.snum, .slice p4 q.g.cells.length y4, .int .i64 q.g.dnum, .slice p5 q.g.set.length y5, .slice p6 q.g.gone.length y6, .slice p7 q.g.logs.length y7, .slice p8 q.g.pend.length y8, .int .i64 q.mi, .int .u32 q.ms, .slice p9 q.mr.length y9, .int .i64 q.oa, .string q.ox.f0, .int .i64 q.ox.f1.f0, .int .i64 q.ox.f1.f1, .string q.ox.f1.f2, .slice p10 q.ox.f1.f3.length y10, .slice p11 q.ox.f2.length y11]) (by rfl) rfl ?_ ?_
    ·refine store_row_run 45 (.tmp 10) (.tmp 53) ?_ (w6.heap.size) ?_ 45 _ #[.int .i64 q.kind, .string q.r.f0, .int .i64 q.r.f1.f0, .int .i64 q.r.f1.f1, .string q.r.f1.f2, .slice p1 q.r.f1.f3.length y1, .slice p2 q.r.f2.length y2, .int .i64 q.sn, .slice p3 q.sc.length y3, .int .i64 q.g.id, .int .i64 q.g.task, .int .i64 q.g.base, .int .u32 q.g.sum, .int .i64 q.g.snum, .slice p4 q.g.cells.length y4, .int .i64 q.g.dnum, .slice p5 q.g.set.length y5, .slice p6 q.g.gone.length y6, .slice p7 q.g.logs.length y7, .slice p8 q.g.pend.length y8, .int .i64 q.mi, .int .u32 q.ms, .slice p9 q.mr.length y9, .int .i64 q.oa, .string q.ox.f0, .int .i64 q.ox.f1.f0, .int .i64 q.ox.f1.f1, .string q.ox.f1.f2, .slice p10 q.ox.f1.f3.length y10, .slice p11 q.ox.f2.length y11] ?_ HN.out rfl size46 ?_
     ·rfl
     ·rfl
     ·rfl
     ·simp [Value.oneCell']
    obtain ⟨hW1, hW2, hW3⟩ := filln HN.out [.int .i64 q.kind, .string q.r.f0, .int .i64 q.r.f1.f0, .int .i64 q.r.f1.f1, .string q.r.f1.f2, .slice p1 q.r.f1.f3.length y1, .slice p2 q.r.f2.length y2, .int .i64 q.sn, .slice p3 q.sc.length y3, .int .i64 q.g.id, .int .i64 q.g.task, .int .i64 q.g.base, .int .u32 q.g.sum, .int .i64 q.g.snum, .slice p4 q.g.cells.length y4, .int .i64 q.g.dnum, .slice p5 q.g.set.length y5, .slice p6 q.g.gone.length y6, .slice p7 q.g.logs.length y7, .slice p8 q.g.pend.length y8, .int .i64 q.mi, .int .u32 q.ms, .slice p9 q.mr.length y9, .int .i64 q.oa, .string q.ox.f0, .int .i64 q.ox.f1.f0, .int .i64 q.ox.f1.f1, .string q.ox.f1.f2, .slice p10 q.ox.f1.f3.length y10, .slice p11 q.ox.f2.length y11] rfl
    have HG9 := Aside0.mk hW1
    have HB9 := Aside0.mk ((below_alloc HB6.out _).trans ((hW3.below (Nat.le_of_lt (blk_lt HN.out))).mono hx6))
    clear hW1 hW2 hW3
    refine hK.out _ _ ?_
    clear hK K
    refine pure_ (i := 11) (N := some 11) (v := ?_) (a' := ?_) #[true, true, true, true, true, true, true, true, true, true, true, true] rfl rfl (by kernel_rfl) (fun _ _ _ h => h) (Or.inl ⟨by rfl, ?_⟩) ?_ ?_
    rotate_left
    ·intro w'
     go_simp
     with_reducible rfl
    rotate_left
    ·simp only [Act.put, List.setIfInBounds_toArray, List.set_cons_zero, List.set_cons_succ, i64_w, i32_w]
     rfl
    refine done_ (by kernel_rfl) ?_
    go_wp2_with fail
    go_meet
    case rel => exact ⟨q, w6.heap.size, p1, p2, p3, p4, p5, p6, p7, p8, p9, p10, p11, y1, y2, y3, y4, y5, y6, y7, y8, y9, y10, y11, f, rfl, rfl, HG9.out, HB9.out, HQ6.out⟩
   ·skip
    refine value_ (w1 := ?_) (v := ?_) (by rfl) rfl ?_ ?_
    rotate_left 2
    ·go_simp
     constructor
     ·rfl
     ·rfl
    refine hK.out _ _ ((cell_old (below_alloc (below_drew (Below.refl wc.heap.size wc)) _) m0)) (fun hHeld => ?_)
    clear hK K
    refine norm_ (a' := ?_) ?_ ?_
    rotate_left
    ·show Act.put _ (some 10) _ = _
     simp only [Act.put, List.setIfInBounds_toArray, List.set_cons_zero, List.set_cons_succ, i64_w, i32_w]
     rfl
    refine one_ (i := 5) (N := some 52) #[true, true, true, true, true, true, false, false, false, true, false, false] rfl rfl (by kernel_rfl) (by decide) (fun K hK => ?_)
    refine goes_ Tryz.func11 (by kernel_rfl) rfl #[.int .i64 s.kind, .slice Az N cz] (by rfl) rfl rfl (by simp only [List.map_toArray, List.map_cons, List.map_nil]; rfl) ?_
    refine (HGC.out (wc.drew.alloc (.cells #[.int .i64 0, .string ⟨#[]⟩, .int .i64 0, .int .i64 0, .string ⟨#[]⟩, .slice none 0 0, .slice none 0 0, .int .i64 0, .slice none 0 0, .int .i64 0, .int .i64 0, .int .i64 0, .int .u32 0, .int .i64 0, .slice none 0 0, .int .i64 0, .slice none 0 0, .slice none 0 0, .slice none 0 0, .slice none 0 0, .int .i64 0, .int .u32 0, .slice none 0 0, .int .i64 0, .string ⟨#[]⟩, .int .i64 0, .int .i64 0, .string ⟨#[]⟩, .slice none 0 0, .slice none 0 0] 45)) (below_alloc (below_drew (Below.refl wc.heap.size wc)) (.cells #[.int .i64 0, .string ⟨#[]⟩, .int .i64 0, .int .i64 0, .string ⟨#[]⟩, .slice none 0 0, .slice none 0 0, .int .i64 0, .slice none 0 0, .int .i64 0, .int .i64 0, .int .i64 0, .int .u32 0, .int .i64 0, .slice none 0 0, .int .i64 0, .slice none 0 0, .slice none 0 0, .slice none 0 0, .slice none 0 0, .int .i64 0, .int .u32 0, .slice none 0 0, .int .i64 0, .string ⟨#[]⟩, .int .i64 0, .int .i64 0, .string ⟨#[]⟩, .slice none 0 0, .slice none 0 0] 45))).mono ?_
    rintro en w6 ⟨q, p1, p2, p3, p4, p5, p6, p7, p8, p9, p10, p11, y1, y2, y3, y4, y5, y6, y7, y8, y9, y10, y11, f, rfl, _, hb6, hq⟩
    have HB6 := Aside0.mk (((below_alloc (below_drew (Below.refl wc.heap.size wc)) (.cells #[.int .i64 0, .string ⟨#[]⟩, .int .i64 0, .int .i64 0, .string ⟨#[]⟩, .slice none 0 0, .slice none 0 0, .int .i64 0, .slice none 0 0, .int .i64 0, .int .i64 0, .int .i64 0, .int .u32 0, .int .i64 0, .slice none 0 0, .int .i64 0, .slice none 0 0, .slice none 0 0, .slice none 0 0, .slice none 0 0, .int .i64 0, .int .u32 0, .slice none 0 0, .int .i64 0, .string ⟨#[]⟩, .int .i64 0, .int .i64 0, .string ⟨#[]⟩, .slice none 0 0, .slice none 0 0] 45))).trans (hb6.mono ((below_alloc (below_drew (Below.refl wc.heap.size wc)) (.cells #[.int .i64 0, .string ⟨#[]⟩, .int .i64 0, .int .i64 0, .string ⟨#[]⟩, .slice none 0 0, .slice none 0 0, .int .i64 0, .slice none 0 0, .int .i64 0, .int .i64 0, .int .i64 0, .int .u32 0, .int .i64 0, .slice none 0 0, .int .i64 0, .slice none 0 0, .slice none 0 0, .slice none 0 0, .slice none 0 0, .int .i64 0, .int .u32 0, .slice none 0 0, .int .i64 0, .string ⟨#[]⟩, .int .i64 0, .int .i64 0, .string ⟨#[]⟩, .slice none 0 0, .slice none 0 0] 45))).size))
    have HN := Aside0.mk ((hb6.block wc.heap.size (by rw [size_alloc]; exact Nat.lt_succ_self _)).trans (heap_alloc_new wc.drew (.cells #[.int .i64 0, .string ⟨#[]⟩, .int .i64 0, .int .i64 0, .string ⟨#[]⟩, .slice none 0 0, .slice none 0 0, .int .i64 0, .slice none 0 0, .int .i64 0, .int .i64 0, .int .i64 0, .int .u32 0, .int .i64 0, .slice none 0 0, .int .i64 0, .slice none 0 0, .slice none 0 0, .slice none 0 0, .slice none 0 0, .int .i64 0, .int .u32 0, .slice none 0 0, .int .i64 0, .string ⟨#[]⟩, .int .i64 0, .int .i64 0, .string ⟨#[]⟩, .slice none 0 0, .slice none 0 0] 45)))
    have HQ6 := Aside0.mk hq
    have hx6 := HB6.out.size
    clear hb6 hq
    refine ⟨_, rfl, ?_⟩
    refine hK.out _ _ ((cell_old HB6.out m0)) (fun hHeld => ?_)
    clear hK K
    refine norm_ (a' := ?_) ?_ ?_
    rotate_left
    ·show Act.put _ (some 52) _ = _
     simp only [Act.put, List.setIfInBounds_toArray, List.set_cons_zero, List.set_cons_succ, i64_w, i32_w]
     rfl
    refine pure_ (i := 6) (N := some 46) (v := ?_) (a' := ?_) #[true, true, true, true, true, true, true, false, false, true, false, false] rfl rfl (by kernel_rfl) (fun _ _ _ h => h) (Or.inl ⟨by rfl, ?_⟩) ?_ ?_
    rotate_left
    ·intro w'
     go_simp
     with_reducible rfl
    rotate_left
    ·simp only [Act.put, List.setIfInBounds_toArray, List.set_cons_zero, List.set_cons_succ, i64_w, i32_w]
     rfl
    refine pure_ (i := 7) (N := some 53) (v := ?_) (a' := ?_) #[true, true, true, true, true, true, true, true, false, true, false, false] rfl rfl (by kernel_rfl) (fun _ _ _ h => h) (Or.inl ⟨by rfl, ?_⟩) ?_ ?_
    rotate_left
    ·intro w'
     go_simp
     with_reducible rfl
    rotate_left
    ·simp only [Act.put, List.setIfInBounds_toArray, List.set_cons_zero, List.set_cons_succ, i64_w, i32_w]
     rfl
    refine pure_ (i := 8) (N := some 54) (v := ?_) (a' := ?_) #[true, true, true, true, true, true, true, true, true, true, false, false] rfl rfl (by kernel_rfl) (fun _ _ _ h => h) (Or.inl ⟨by rfl, ?_⟩) ?_ ?_
    rotate_left
    ·intro w'
     go_simp
     with_reducible rfl
    rotate_left
    ·simp only [Act.put, List.setIfInBounds_toArray, List.set_cons_zero, List.set_cons_succ, i64_w, i32_w]
     rfl
    refine last_ (i := 10) (N := none) #[true, true, true, true, true, true, true, true, true, true, true, false] rfl rfl (by kernel_rfl) (by decide) (fun K hK => ?_)
    refine skip_ (w1 := sets w6 wc.heap.size 0 [.int .i64 q.kind, .string q.r.f0, .int .i64 q.r.f1.f0, .int .i64 q.r.f1.f1, .string q.r.f1.f2, .slice p1 q.r.f1.f3.length y1, .slice p2 q.r.f2.length y2, .int .i64 q.sn, .slice p3 q.sc.length y3, .int .i64 q.g.id, .int .i64 q.g.task, .int .i64 q.g.base, .int .u32 q.g.sum, .int .i64 q.g.snum, .slice p4 q.g.cells.length y4, .int .i64 q.g.dnum, .slice p5 q.g.set.length y5, .slice p6 q.g.gone.length y6, .slice p7 q.g.logs.length y7, .slice p8 q.g.pend.length y8, .int .i64 q.mi, .int .u32 q.ms, .slice p9 q.mr.length y9, .int .i64 q.oa, .string q.ox.f0, .int .i64 q.ox.f1.f0, .int .i64 q.ox.f1.f1, .string q.ox.f1.f2, .slice p10 q.ox.f1.f3.length y10, .slice p11 q.ox.f2.length y11]) (by rfl) rfl ?_ ?_
    ·refine store_row_run 45 (.tmp 10) (.tmp 53) ?_ (wc.heap.size) ?_ 45 _ #[.int .i64 q.kind, .string q.r.f0, .int .i64 q.r.f1.f0, .int .i64 q.r.f1.f1, .string q.r.f1.f2, .slice p1 q.r.f1.f3.length y1, .slice p2 q.r.f2.length y2, .int .i64 q.sn, .slice p3 q.sc.length y3, .int .i64 q.g.id, .int .i64 q.g.task, .int .i64 q.g.base, .int .u32 q.g.sum, .int .i64 q.g.snum, .slice p4 q.g.cells.length y4, .int .i64 q.g.dnum, .slice p5 q.g.set.length y5, .slice p6 q.g.gone.length y6, .slice p7 q.g.logs.length y7, .slice p8 q.g.pend.length y8, .int .i64 q.mi, .int .u32 q.ms, .slice p9 q.mr.length y9, .int .i64 q.oa, .string q.ox.f0, .int .i64 q.ox.f1.f0, .int .i64 q.ox.f1.f1, .string q.ox.f1.f2, .slice p10 q.ox.f1.f3.length y10, .slice p11 q.ox.f2.length y11] ?_ HN.out rfl size46 ?_
     ·rfl
     ·rfl
     ·rfl
     ·simp [Value.oneCell']
    obtain ⟨hW1, hW2, hW3⟩ := filln HN.out [.int .i64 q.kind, .string q.r.f0, .int .i64 q.r.f1.f0, .int .i64 q.r.f1.f1, .string q.r.f1.f2, .slice p1 q.r.f1.f3.length y1, .slice p2 q.r.f2.length y2, .int .i64 q.sn, .slice p3 q.sc.length y3, .int .i64 q.g.id, .int .i64 q.g.task, .int .i64 q.g.base, .int .u32 q.g.sum, .int .i64 q.g.snum, .slice p4 q.g.cells.length y4, .int .i64 q.g.dnum, .slice p5 q.g.set.length y5, .slice p6 q.g.gone.length y6, .slice p7 q.g.logs.length y7, .slice p8 q.g.pend.length y8, .int .i64 q.mi, .int .u32 q.ms, .slice p9 q.mr.length y9, .int .i64 q.oa, .string q.ox.f0, .int .i64 q.ox.f1.f0, .int .i64 q.ox.f1.f1, .string q.ox.f1.f2, .slice p10 q.ox.f1.f3.length y10, .slice p11 q.ox.f2.length y11] rfl
    have HG9 := Aside0.mk hW1
    have HB9 := Aside0.mk (HB6.out.trans (hW3.below hx6))
    clear hW1 hW2 hW3
    refine hK.out _ _ ?_
    clear hK K
    refine pure_ (i := 11) (N := some 11) (v := ?_) (a' := ?_) #[true, true, true, true, true, true, true, true, true, true, true, true] rfl rfl (by kernel_rfl) (fun _ _ _ h => h) (Or.inl ⟨by rfl, ?_⟩) ?_ ?_
    rotate_left
    ·intro w'
     go_simp
     with_reducible rfl
    rotate_left
    ·simp only [Act.put, List.setIfInBounds_toArray, List.set_cons_zero, List.set_cons_succ, i64_w, i32_w]
     rfl
    refine done_ (by kernel_rfl) ?_
    go_wp2_with fail
    go_meet
    case rel => exact ⟨q, wc.heap.size, p1, p2, p3, p4, p5, p6, p7, p8, p9, p10, p11, y1, y2, y3, y4, y5, y6, y7, y8, y9, y10, y11, f, rfl, rfl, HG9.out, HB9.out, HQ6.out⟩
  case rest =>
   obtain ⟨q, g, p1, p2, p3, p4, p5, p6, p7, p8, p9, p10, p11, y1, y2, y3, y4, y5, y6, y7, y8, y9, y10, y11, f, rfl, rfl, hg, hb6, hq⟩ := hcut
   have X6 := Aside0.mk ((hb6.block _ (blk_lt X5.out)).trans X5.out)
   have HBq := Aside0.mk (HB5.out.trans (hb6.mono HB5.out.size))
   have HU6 := Aside0.mk (HU.out.below hb6)
   have HRZ6 := Aside0.mk (HRZ.out.below hb6)
   have HGQ := Aside0.mk hg
   have HQ6 := Aside0.mk hq
   clear hg hb6 hq
   rename World => wd
   have hNI : (N : Int) ≤ (zs.length : Int) := by omega
   go_upto_region 13 with fail
   go_cut [72] from 55 to 71 (fun v w' => v = .bool false ∧ Below wd.heap.size wd w')
   case first =>
    by_cases hlt : N < zs.length
    ·have hltI : (N : Int) < (zs.length : Int) := by omega
     obtain ⟨c0, hc0, h1, h2⟩ := HK.out hlt
     have hq := HQ6.out
     rw [hc0] at hq
     injection hq with e1 e2
     subst e1 e2
     have h1b : (c0 == 0) = false := beq_eq_false_iff_ne.2 h1
     have h2b : (c0 == 44) = false := beq_eq_false_iff_ne.2 h2
     clear h1 h2 hc0 hlt
     go_wp2_with (refine wpList_load_row_g ?hg1 45 (.tmp 10) rfl g rfl 45 _ (0, 0) _ HGQ.out Tryz.underlying45 rfl (by kernel_rfl) ?_)
     refine (sameThing_calls wd wd wd (zT s.kind) (zT 0) p1 p2 p3 p4 p5 p6 p7 p8 p9 p10 p11 none none none none none none none none none none none y1 y2 y3 y4 y5 y6 y7 y8 y9 y10 y11 0 0 0 0 0 0 0 0 0 0 0 (zT_any _ _ p1 p2 p3 p4 p5 p6 p7 p8 p9 p10 p11 y1 y2 y3 y4 y5 y6 y7 y8 y9 y10 y11) (zT_in _ _) (Below.refl _ _) (Below.refl _ _)).mono ?_
     rintro en wf ⟨r, rfl, h1, h2⟩
     obtain rfl : r = true := h1.2 (zT_eq _ _)
     have HBF := Aside0.mk h2
     clear h1 h2
     go_wp2_with fail
     go_meet
     case rel => exact ⟨rfl, HBF.out⟩
    ·have hltI : ¬ (N : Int) < (zs.length : Int) := by omega
     go_wp2_with fail
     go_meet
     case rel => exact ⟨rfl, Below.refl _ _⟩
   case rest =>
    obtain ⟨rfl, hb7⟩ := hcut
    have X7 := Aside0.mk ((hb7.block _ (blk_lt X6.out)).trans X6.out)
    have HB7 := Aside0.mk (HBq.out.trans (hb7.mono HBq.out.size))
    have HRZ7 := Aside0.mk (HRZ6.out.below hb7)
    clear hb7
    rename World => we
    go_wp2_with fail
    refine (copyBytes_calls we Az cz zs HRZ7.out (by omega)).mono ?_
    rintro en w8 ⟨u1, rfl, hu1, hb8⟩
    have X8 := Aside0.mk ((hb8.block _ (blk_lt X7.out)).trans X7.out)
    have HB8 := Aside0.mk (HB7.out.trans (hb8.mono HB7.out.size))
    have HM8 := Aside0.mk (HM.out.below HB8.out)
    have HU1 := Aside0.mk hu1
    have hwe : we.heap.size ≤ w8.heap.size := hb8.size
    have hb8' := Aside0.mk hb8
    have hlen : zs.length + more.length ≤ 140737488355328 := by omega
    clear hu1 hb8
    have m8 := blk_cell X8.out 0
    have fm8 := blk_frozen X8.out 0
    simp only [List.getElem?_toArray, List.getElem?_cons_succ, List.getElem?_cons_zero] at m8
    go_upto_region 17 with (at_builtin; refine appRow rfl (.tmp 75) (.tmp 76) rfl u1 zs more A more.length c rfl rfl HU1.out HM8.out hwe hlen ?_; intro v1 w9 h1 h2; (have HR9 := Aside0.mk h1); (have HU9 := Aside0.mk h2); clear h1 h2)
    obtain ⟨ls, hls⟩ : ∃ ls, ls = zs ++ more := ⟨_, rfl⟩
    have HLS := Aside0.mk hls
    rw [← hls] at HR9
    clear hls
    obtain ⟨Ac, cc, ec, hcc, rc⟩ := own_reads_of_le (enc := Value.int .u8) (d := (0 : Int)) (show World.ownsRow _ _ _ _ _ _ (encs (Value.int .u8) ls) from HR9.out)
    subst ec
    have HCC := Aside0.mk (Kd.C_of_reads (h1 := fun _ => rfl) rc)
    clear rc
    have hb9 := HU9.out.below hwe
    have X9 := Aside0.mk ((hb9.block _ (blk_lt X7.out)).trans X8.out)
    have HB9 := Aside0.mk (HB8.out.trans (hb9.mono HB7.out.size))
    clear hb9 m8 fm8
    have m9 := blk_cell X9.out 0
    have fm9 := blk_frozen X9.out 0
    simp only [List.getElem?_toArray, List.getElem?_cons_succ, List.getElem?_cons_zero] at m9
    go_wp2_with fail
    refine (get_calls s.kind (In.mk HCC.out (Nat.le_refl _)) hcc (by rw [HLS.out]; exact HZ.out.app HY.out)).mono ?_
    rintro en wg ⟨v, qa1, qa2, qa3, qa4, qa5, qa6, qa7, qa8, qa9, qa10, qa11, qc1, qc2, qc3, qc4, qc5, qc6, qc7, qc8, qc9, qc10, qc11, e, rfl, hqi, hb10, hq⟩
    have HQI := Aside0.mk hqi
    have HV := Aside0.mk hq
    have X10 := Aside0.mk ((hb10.block _ (blk_lt X9.out)).trans X9.out)
    have HB10 := Aside0.mk (HB9.out.trans (hb10.mono HB9.out.size))
    have HN := Aside0.mk (heap_alloc_new wg (.cells #[.int .i64 0, .string ⟨#[]⟩, .int .i64 0, .int .i64 0, .string ⟨#[]⟩, .slice none 0 0, .slice none 0 0, .int .i64 0, .slice none 0 0, .int .i64 0, .int .i64 0, .int .i64 0, .int .u32 0, .int .i64 0, .slice none 0 0, .int .i64 0, .slice none 0 0, .slice none 0 0, .slice none 0 0, .slice none 0 0, .int .i64 0, .int .u32 0, .slice none 0 0, .int .i64 0, .string ⟨#[]⟩, .int .i64 0, .int .i64 0, .string ⟨#[]⟩, .slice none 0 0, .slice none 0 0] 45))
    clear hqi hq hb10 m9 fm9
    iterate 14 (first | go_values | go_skip | go_guarded | go_step | go_upon | go_back | go_simp)
    refine wpList_store_row ?y1 45 (.tmp 13) (.tmp 83) ?y2 ?y3 wg.heap.size ?y4 45 (#[.int .i64 0, .string ⟨#[]⟩, .int .i64 0, .int .i64 0, .string ⟨#[]⟩, .slice none 0 0, .slice none 0 0, .int .i64 0, .slice none 0 0, .int .i64 0, .int .i64 0, .int .i64 0, .int .u32 0, .int .i64 0, .slice none 0 0, .int .i64 0, .slice none 0 0, .slice none 0 0, .slice none 0 0, .slice none 0 0, .int .i64 0, .int .u32 0, .slice none 0 0, .int .i64 0, .string ⟨#[]⟩, .int .i64 0, .int .i64 0, .string ⟨#[]⟩, .slice none 0 0, .slice none 0 0]) [.int .i64 v.kind, .string v.r.f0, .int .i64 v.r.f1.f0, .int .i64 v.r.f1.f1, .string v.r.f1.f2, .slice qa1 v.r.f1.f3.length qc1, .slice qa2 v.r.f2.length qc2, .int .i64 v.sn, .slice qa3 v.sc.length qc3, .int .i64 v.g.id, .int .i64 v.g.task, .int .i64 v.g.base, .int .u32 v.g.sum, .int .i64 v.g.snum, .slice qa4 v.g.cells.length qc4, .int .i64 v.g.dnum, .slice qa5 v.g.set.length qc5, .slice qa6 v.g.gone.length qc6, .slice qa7 v.g.logs.length qc7, .slice qa8 v.g.pend.length qc8, .int .i64 v.mi, .int .u32 v.ms, .slice qa9 v.mr.length qc9, .int .i64 v.oa, .string v.ox.f0, .int .i64 v.ox.f1.f0, .int .i64 v.ox.f1.f1, .string v.ox.f1.f2, .slice qa10 v.ox.f1.f3.length qc10, .slice qa11 v.ox.f2.length qc11] ?y5 ?y6 ?y7 ?y8 ?y9 ?y0
    (case y2 => rfl)
    (case y1 => rfl)
    (case y3 => rfl)
    (case y4 => rfl)
    (case y5 => rfl)
    (case y6 => exact HN.out)
    (case y7 => rfl)
    (case y8 => exact size46)
    (case y9 => simp [Value.oneCell'])
    obtain ⟨hW1, hW2, hW3⟩ := filln HN.out [.int .i64 v.kind, .string v.r.f0, .int .i64 v.r.f1.f0, .int .i64 v.r.f1.f1, .string v.r.f1.f2, .slice qa1 v.r.f1.f3.length qc1, .slice qa2 v.r.f2.length qc2, .int .i64 v.sn, .slice qa3 v.sc.length qc3, .int .i64 v.g.id, .int .i64 v.g.task, .int .i64 v.g.base, .int .u32 v.g.sum, .int .i64 v.g.snum, .slice qa4 v.g.cells.length qc4, .int .i64 v.g.dnum, .slice qa5 v.g.set.length qc5, .slice qa6 v.g.gone.length qc6, .slice qa7 v.g.logs.length qc7, .slice qa8 v.g.pend.length qc8, .int .i64 v.mi, .int .u32 v.ms, .slice qa9 v.mr.length qc9, .int .i64 v.oa, .string v.ox.f0, .int .i64 v.ox.f1.f0, .int .i64 v.ox.f1.f1, .string v.ox.f1.f2, .slice qa10 v.ox.f1.f3.length qc10, .slice qa11 v.ox.f2.length qc11] rfl
    have hxg := blk_lt X10.out
    have hb11 : Below wg.heap.size wg (sets (wg.alloc (.cells #[.int .i64 0, .string ⟨#[]⟩, .int .i64 0, .int .i64 0, .string ⟨#[]⟩, .slice none 0 0, .slice none 0 0, .int .i64 0, .slice none 0 0, .int .i64 0, .int .i64 0, .int .i64 0, .int .u32 0, .int .i64 0, .slice none 0 0, .int .i64 0, .slice none 0 0, .slice none 0 0, .slice none 0 0, .slice none 0 0, .int .i64 0, .int .u32 0, .slice none 0 0, .int .i64 0, .string ⟨#[]⟩, .int .i64 0, .int .i64 0, .string ⟨#[]⟩, .slice none 0 0, .slice none 0 0] 45)) wg.heap.size 0 [.int .i64 v.kind, .string v.r.f0, .int .i64 v.r.f1.f0, .int .i64 v.r.f1.f1, .string v.r.f1.f2, .slice qa1 v.r.f1.f3.length qc1, .slice qa2 v.r.f2.length qc2, .int .i64 v.sn, .slice qa3 v.sc.length qc3, .int .i64 v.g.id, .int .i64 v.g.task, .int .i64 v.g.base, .int .u32 v.g.sum, .int .i64 v.g.snum, .slice qa4 v.g.cells.length qc4, .int .i64 v.g.dnum, .slice qa5 v.g.set.length qc5, .slice qa6 v.g.gone.length qc6, .slice qa7 v.g.logs.length qc7, .slice qa8 v.g.pend.length qc8, .int .i64 v.mi, .int .u32 v.ms, .slice qa9 v.mr.length qc9, .int .i64 v.oa, .string v.ox.f0, .int .i64 v.ox.f1.f0, .int .i64 v.ox.f1.f1, .string v.ox.f1.f2, .slice qa10 v.ox.f1.f3.length qc10, .slice qa11 v.ox.f2.length qc11]) := (below_alloc (Below.refl _ _) _).trans (hW3.below (Nat.le_of_lt (blk_lt HN.out)))
    have Y11 := Aside0.mk hW1
    have X11 := Aside0.mk ((hb11.block _ hxg).trans X10.out)
    have HBg := Aside0.mk hb11
    have HB11 := Aside0.mk (HB10.out.trans (hb11.mono HB10.out.size))
    clear hW1 hW2 hW3 hb11 HN
    generalize (sets (wg.alloc (.cells #[.int .i64 0, .string ⟨#[]⟩, .int .i64 0, .int .i64 0, .string ⟨#[]⟩, .slice none 0 0, .slice none 0 0, .int .i64 0, .slice none 0 0, .int .i64 0, .int .i64 0, .int .i64 0, .int .u32 0, .int .i64 0, .slice none 0 0, .int .i64 0, .slice none 0 0, .slice none 0 0, .slice none 0 0, .slice none 0 0, .int .i64 0, .int .u32 0, .slice none 0 0, .int .i64 0, .string ⟨#[]⟩, .int .i64 0, .int .i64 0, .string ⟨#[]⟩, .slice none 0 0, .slice none 0 0] 45)) wg.heap.size 0 [.int .i64 v.kind, .string v.r.f0, .int .i64 v.r.f1.f0, .int .i64 v.r.f1.f1, .string v.r.f1.f2, .slice qa1 v.r.f1.f3.length qc1, .slice qa2 v.r.f2.length qc2, .int .i64 v.sn, .slice qa3 v.sc.length qc3, .int .i64 v.g.id, .int .i64 v.g.task, .int .i64 v.g.base, .int .u32 v.g.sum, .int .i64 v.g.snum, .slice qa4 v.g.cells.length qc4, .int .i64 v.g.dnum, .slice qa5 v.g.set.length qc5, .slice qa6 v.g.gone.length qc6, .slice qa7 v.g.logs.length qc7, .slice qa8 v.g.pend.length qc8, .int .i64 v.mi, .int .u32 v.ms, .slice qa9 v.mr.length qc9, .int .i64 v.oa, .string v.ox.f0, .int .i64 v.ox.f1.f0, .int .i64 v.ox.f1.f1, .string v.ox.f1.f2, .slice qa10 v.ox.f1.f3.length qc10, .slice qa11 v.ox.f2.length qc11]) = wh at *
    by_cases hmo : more = []
    case pos =>
     have hq := HV.out
     rw [HLS.out, hmo, List.append_nil, HG.out] at hq
     injection hq with e1 e2
     subst e1 e2
     have hne : ((more.length : Int) == 0) = true := by rw [hmo]; rfl
     clear hmo
     go_wp2_with (first | refine wpList_load_row_g ?hc1 45 (.tmp 13) rfl wg.heap.size rfl 45 _ (0, 0) _ Y11.out Tryz.underlying45 rfl (by kernel_rfl) ?_ | refine wpList_load_row_g ?hc2 45 (.tmp 3) rfl w.heap.size rfl 45 _ (0, 0) _ X11.out Tryz.underlying45 rfl (by kernel_rfl) ?_)
     refine (sameThing_calls wh wg w s s qa1 qa2 qa3 qa4 qa5 qa6 qa7 qa8 qa9 qa10 qa11 d1 d2 d3 d4 d5 d6 d7 d8 d9 d10 d11 qc1 qc2 qc3 qc4 qc5 qc6 qc7 qc8 qc9 qc10 qc11 n1 n2 n3 n4 n5 n6 n7 n8 n9 n10 n11 HQI.out HT.out HBg.out HB11.out).mono ?_
     rintro en wi ⟨r, rfl, h1, h2⟩
     obtain rfl : r = true := h1.2 ⟨rfl, ⟨rfl, rfl⟩, rfl, ⟨rfl, rfl, rfl⟩, ⟨rfl, rfl⟩⟩
     have HBI := Aside0.mk (HB11.out.trans (h2.mono HB11.out.size))
     clear h1 h2
     go_wp2
     go_ret
     exact ⟨rfl, HBI.out⟩
    have hq := HV.out
    rw [HLS.out, HMO.out hmo] at hq
    injection hq with e1 e2
    subst e1 e2
    have hne : ((more.length : Int) == 0) = false := beq_eq_false_iff_ne.2 (fun h => hmo (List.length_eq_zero_iff.1 (by omega)))
    clear hmo
    go_wp2_with (refine wpList_load_row_g ?hc3 45 (.tmp 13) rfl wg.heap.size rfl 45 _ (0, 0) _ Y11.out Tryz.underlying45 rfl (by kernel_rfl) ?_)
    refine (sameThing_calls wh wg wh (zT s.kind) (zT 0) qa1 qa2 qa3 qa4 qa5 qa6 qa7 qa8 qa9 qa10 qa11 none none none none none none none none none none none qc1 qc2 qc3 qc4 qc5 qc6 qc7 qc8 qc9 qc10 qc11 0 0 0 0 0 0 0 0 0 0 0 HQI.out (zT_in _ _) HBg.out (Below.refl _ _)).mono ?_
    rintro en wi ⟨r, rfl, h1, h2⟩
    obtain rfl : r = true := h1.2 (zT_eq _ _)
    have HBI := Aside0.mk (HB11.out.trans (h2.mono HB11.out.size))
    clear h1 h2
    go_wp2
    go_ret
    exact ⟨rfl, HBI.out⟩
end Go.Proofs.YthmkioodkldgbaaGreat.DK
