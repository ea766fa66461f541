/- eddylaw4.only whatever the kind; the marks, plainly; conditions: those in each theorem. -/
import Derived.Test.YthmkioodkldgbaaQkM30
import Derived.Test.YthmkioodkldgbaaQkM24
import Derived.Test.YthmkioodkldgbaaQkM29
import Derived.ChangeSame
import Derived.Deep.SlicePairs
import Derived.DataShut
namespace Go.Proofs.Ythmkioodkldgbaa.DK
open Go.Proofs.Ythmkioodkldgbaa.PD
open Go.RowKit Go.Proofs.YthmkioodkldgbaaW.PrintWords
theorem only_calls {w0 w : World} {t : Thg} {a1 a2 a3 a4 a5 a6 a7 a8 a9 a10 a11 : Option Addr} {c1 c2 c3 c4 c5 c6 c7 c8 c9 c10 c11 : Nat} (hi : ThIn w0 t a1 a2 a3 a4 a5 a6 a7 a8 a9 a10 a11 c1 c2 c3 c4 c5 c6 c7 c8 c9 c10 c11) : Calls Try.prog 15 #[.agg #[.int .i64 t.kind, .string t.r.f0, .int .i64 t.r.f1.f0, .int .i64 t.r.f1.f1, .string t.r.f1.f2, .slice a1 t.r.f1.f3.length c1, .slice a2 t.r.f2.length c2, .int .i64 t.sn, .slice a3 t.sc.length c3, .int .i64 t.g.id, .int .i64 t.g.task, .int .i64 t.g.base, .int .u32 t.g.sum, .int .i64 t.g.snum, .slice a4 t.g.cells.length c4, .int .i64 t.g.dnum, .slice a5 t.g.set.length c5, .slice a6 t.g.gone.length c6, .slice a7 t.g.logs.length c7, .slice a8 t.g.pend.length c8, .int .i64 t.mi, .int .u32 t.ms, .slice a9 t.mr.length c9, .int .i64 t.oa, .string t.ox.f0, .int .i64 t.ox.f1.f0, .int .i64 t.ox.f1.f1, .string t.ox.f1.f2, .slice a10 t.ox.f1.f3.length c10, .slice a11 t.ox.f2.length c11]] w (ThgP w0 w (onlyT t)) := by
 by_cases h2 : t.kind = 2
 ·exact only2_calls h2 hi
 by_cases h3 : t.kind = 3
 ·exact only3_calls h2 h3 hi
 by_cases h4 : t.kind = 4
 ·exact only4_calls h2 h3 h4 hi
 by_cases h5 : t.kind = 5
 ·exact only5_calls h2 h3 h4 h5 hi
 exact only1_calls h2 h3 h4 h5 hi
theorem onlyT_ok {t : Thg} (h : t.Ok) : (onlyT t).Ok := by
 unfold onlyT
 split
 ·exact ⟨(zT_ok 2).r, h.sc, (zT_ok 2).g, (zT_ok 2).ms, (zT_ok 2).mr, (zT_ok 2).ox⟩
 split
 ·exact ⟨(zT_ok 3).r, (zT_ok 3).sc, h.g, (zT_ok 3).ms, (zT_ok 3).mr, (zT_ok 3).ox⟩
 split
 ·exact ⟨(zT_ok 4).r, (zT_ok 4).sc, (zT_ok 4).g, h.ms, h.mr, (zT_ok 4).ox⟩
 split
 ·exact ⟨(zT_ok 5).r, (zT_ok 5).sc, (zT_ok 5).g, (zT_ok 5).ms, (zT_ok 5).mr, h.ox⟩
 exact ⟨h.r, (zT_ok 1).sc, (zT_ok 1).g, (zT_ok 1).ms, (zT_ok 1).mr, (zT_ok 1).ox⟩
theorem onlyT_kind (t : Thg) : (onlyT t).kind = 1 ∨ (onlyT t).kind = 2 ∨ (onlyT t).kind = 3 ∨ (onlyT t).kind = 4 ∨ (onlyT t).kind = 5 := by
 unfold onlyT
 split
 ·exact .inr (.inl rfl)
 split
 ·exact .inr (.inr (.inl rfl))
 split
 ·exact .inr (.inr (.inr (.inl rfl)))
 split
 ·exact .inr (.inr (.inr (.inr rfl)))
 exact .inl rfl
/-- The mark that a kind's bytes begin with. -/
def markOf (k : Int) : Int := if k = 3 then 83 else if k = 4 then 77 else 79
theorem mark_head {t : Thg} (h : t.kind = 3 ∨ t.kind = 4 ∨ t.kind = 5) : ∃ l, putB t = markOf t.kind :: l := by
 rcases h with h | h | h
 ·unfold putB; rw [if_neg (by omega), if_pos h, h]; exact ⟨_, rfl⟩
 ·unfold putB; rw [if_neg (by omega), if_neg (by omega), if_pos h, h]; exact ⟨_, rfl⟩
 ·unfold putB; rw [if_neg (by omega), if_neg (by omega), if_neg (by omega), if_pos h, h]; exact ⟨_, rfl⟩
theorem whole_bad {α : Type} {p : List Int → Rd α} {l : List Int} {c : Int} (h : p l = .bad c) : pWhole p l = .bad c := by rw [pWhole, h]; rfl
theorem mark_other {k m : Int} {l : List Int} (hk : k = 3 ∨ k = 4 ∨ k = 5) (hm : m ≠ markOf k) : (pGet k (m :: l)).1 = 41 := by
 have hb : pMark (markOf k) (m :: l) = .bad 41 := by rw [pMark, if_neg hm]
 rcases hk with rfl | rfl | rfl
 ·have h : pSeg (m :: l) = .bad 41 := by unfold pSeg pFront; rw [show (83 : Int) = markOf 3 from rfl]; simp only [Rd.and, hb]; rfl
  rw [pGet, if_neg (by decide), if_pos rfl, whole_bad h]; rfl
 ·have h : pMan (m :: l) = .bad 41 := by unfold pMan; rw [show (77 : Int) = markOf 4 from rfl]; simp only [Rd.and, hb]; rfl
  rw [pGet, if_neg (by decide), if_neg (by decide), if_pos rfl, whole_bad h]; rfl
 ·have h : pOut (m :: l) = .bad 41 := by unfold pOut; rw [show (79 : Int) = markOf 5 from rfl]; simp only [Rd.and, hb]; rfl
  rw [pGet, if_neg (by decide), if_neg (by decide), if_neg (by decide), if_pos rfl, whole_bad h]; rfl
/-- No segment, manifest or row is read as another of the three. -/
theorem kinds_law {t : Thg} {k : Int} (ht : t.kind = 3 ∨ t.kind = 4 ∨ t.kind = 5) (hk : k = 3 ∨ k = 4 ∨ k = 5) (hn : k ≠ t.kind) : (pGet k (putB t)).1 = 41 := by
 obtain ⟨l, hl⟩ := mark_head ht
 rw [hl]
 refine mark_other hk ?_
 rcases ht with h | h | h <;> rcases hk with rfl | rfl | rfl <;> rw [h] at hn ⊢ <;> first | (exact absurd rfl hn) | decide
end Go.Proofs.Ythmkioodkldgbaa.DK
/- What is written are bytes; conditions: the things' numbers are such. -/
namespace Go.Proofs.Ythmkioodkldgbaa.DK
open Go.Proofs.Ythmkioodkldgbaa.PD
open Go.RowKit Go.Proofs.YthmkioodkldgbaaW.PrintWords
def Byt (l : List Int) : Prop := ∀ x ∈ l, 0 ≤ x ∧ x ≤ 255
namespace Byt
theorem nil : Byt [] := fun x h => by cases h
theorem cons {c : Int} {l : List Int} (hc : 0 ≤ c ∧ c ≤ 255) (h : Byt l) : Byt (c :: l) := fun x hx => by
 rcases List.mem_cons.1 hx with rfl | hx
 ·exact hc
 ·exact h x hx
theorem app {l m : List Int} (h : Byt l) (k : Byt m) : Byt (l ++ m) := fun x hx => (List.mem_append.1 hx).elim (h x) (k x)
theorem grpN : ∀ n : Nat, Byt (DK.grpN n) := fun n => by
 induction n using Nat.strongRecOn with
 | _ n ih =>
  rw [DK.grpN]
  split
  ·exact cons (by omega) (ih _ (by omega))
  ·exact cons (by omega) nil
theorem grp (n : Int) : Byt (DK.grp n) := grpN _
theorem bytes (s : ByteArray) : Byt (bytesOf s) := fun x hx => by
 unfold bytesOf at hx
 obtain ⟨b, _, rfl⟩ := List.mem_map.1 hx
 have := b.toNat_lt
 omega
theorem word {n : Int} (h : 0 ≤ n ∧ n ≤ 4294967295) : Byt (DK.word n) := cons (by omega) (cons (by omega) (cons (by omega) (cons (by omega) nil)))
theorem key (k : ByteArray) : Byt (keyB k) := (grp _).app (bytes _)
theorem flat {α : Type} {f : α → List Int} : ∀ {l : List α}, (∀ x ∈ l, Byt (f x)) → Byt (l.flatMap f)
 | [], _ => nil
 | a :: l, h => by rw [List.flatMap_cons]; exact (h a (by simp)).app (flat fun x hx => h x (by simp [hx]))
theorem lst {α : Type} {f : α → List Int} {l : List α} (h : ∀ x ∈ l, Byt (f x)) : Byt (DK.lst f l) := (grp _).app (flat h)
mutual
theorem encM : ∀ v : S25, Byt (DK.encM v)
 | ⟨a, b, c, d⟩ => by
  rw [encM_eq]
  split
  ·exact cons (by omega) (grp _)
  split
  ·exact cons (by omega) (cons (by omega) (bytes _))
  split
  ·exact cons (by omega) (cons (by omega) (encL d))
  ·exact cons (by omega) nil
theorem encL : ∀ l : List S25, Byt (DK.encL l)
 | [] => by rw [encL_nil]; exact nil
 | x :: l => by rw [encL_cons]; exact (encM x).app (encL l)
end
theorem encC (x : S121) : Byt (DK.encC x) := (key _).app (lst fun v _ => encM v)
theorem encR (x : S28) : Byt (DK.encR x) := ((key _).app (encM _)).app (lst fun n _ => grp n)
theorem encSt (n : Int) (l : List S121) : Byt (DK.encSt n l) := (grp _).app (lst fun x _ => encC x)
theorem encSeg {s : Seg} (h : s.Ok) : Byt (DK.encSeg s) := by
 unfold DK.encSeg encFront encDelta encLogs
 refine Byt.app (Byt.app (Byt.app (Byt.app (cons (by omega) (grp _)) (grp _)) (grp _)) ?_) ((lst fun x _ => lst fun y _ => encR y).app (lst fun y _ => encR y))
 split
 ·exact encSt _ _
 ·exact (((word h.sum).app (grp _)).app (lst fun x _ => encC x)).app (lst fun x _ => key x)
theorem putB {t : Thg} (h : t.Ok) : Byt (DK.putB t) := by
 unfold DK.putB
 split
 ·exact encSt _ _
 split
 ·exact encSeg h.g
 split
 ·exact ((cons (by omega) (grp _)).app (word h.ms)).app (lst fun x hx => (grp _).app (word (h.mr x hx)))
 split
 ·exact (cons (by omega) (grp _)).app (encR _)
 ·exact encR _
end Byt
end Go.Proofs.Ythmkioodkldgbaa.DK
/- eddylaw4.WireKinds walked; conditions: those in the theorem. -/
namespace Go.Proofs.Ythmkioodkldgbaa.DK
open Go.Proofs.Ythmkioodkldgbaa.PD
open Go.RowKit Go.Proofs.YthmkioodkldgbaaW.PrintWords Go.Proofs.YthmkioodkldgbaaW.PrintLast Go.Proofs.YthmkioodkldgbaaW.PrintMore
set_option linter.unusedVariables false
set_option linter.unusedSimpArgs false
set_option maxRecDepth 100000
def KndE (w w5 : World) (cs : Array Value) (kv : Value) (wr : World) : Prop := ∃ k : Nat, kv = .int .i64 k ∧ 3 ≤ k ∧ k ≤ 6 ∧ wr.heap[w.heap.size]? = some (.cells cs 46 (0, 0)) ∧ Below w.heap.size w wr ∧ Below w5.heap.size w5 wr
set_option maxHeartbeats 40000000 in
theorem WireKinds_calls (w : World) (t : Thg) (a1 a2 a3 a4 a5 a6 a7 a8 a9 a10 a11 : Option Addr) (c1 c2 c3 c4 c5 c6 c7 c8 c9 c10 c11 : Nat) (hi : ThIn w t a1 a2 a3 a4 a5 a6 a7 a8 a9 a10 a11 c1 c2 c3 c4 c5 c6 c7 c8 c9 c10 c11) (ho : t.Ok) : Calls Try.prog 6 #[.agg #[.int .i64 t.kind, .string t.r.f0, .int .i64 t.r.f1.f0, .int .i64 t.r.f1.f1, .string t.r.f1.f2, .slice a1 t.r.f1.f3.length c1, .slice a2 t.r.f2.length c2, .int .i64 t.sn, .slice a3 t.sc.length c3, .int .i64 t.g.id, .int .i64 t.g.task, .int .i64 t.g.base, .int .u32 t.g.sum, .int .i64 t.g.snum, .slice a4 t.g.cells.length c4, .int .i64 t.g.dnum, .slice a5 t.g.set.length c5, .slice a6 t.g.gone.length c6, .slice a7 t.g.logs.length c7, .slice a8 t.g.pend.length c8, .int .i64 t.mi, .int .u32 t.ms, .slice a9 t.mr.length c9, .int .i64 t.oa, .string t.ox.f0, .int .i64 t.ox.f1.f0, .int .i64 t.ox.f1.f1, .string t.ox.f1.f2, .slice a10 t.ox.f1.f3.length c10, .slice a11 t.ox.f2.length c11]] w (TrueB w) := by
 have HO := Aside0.mk ho
 have HI := Aside0.mk hi
 clear hi ho
 have X0 := Aside0.mk (heap_alloc_new w (.cells #[.int .i64 t.kind, .string t.r.f0, .int .i64 t.r.f1.f0, .int .i64 t.r.f1.f1, .string t.r.f1.f2, .slice a1 t.r.f1.f3.length c1, .slice a2 t.r.f2.length c2, .int .i64 t.sn, .slice a3 t.sc.length c3, .int .i64 t.g.id, .int .i64 t.g.task, .int .i64 t.g.base, .int .u32 t.g.sum, .int .i64 t.g.snum, .slice a4 t.g.cells.length c4, .int .i64 t.g.dnum, .slice a5 t.g.set.length c5, .slice a6 t.g.gone.length c6, .slice a7 t.g.logs.length c7, .slice a8 t.g.pend.length c8, .int .i64 t.mi, .int .u32 t.ms, .slice a9 t.mr.length c9, .int .i64 t.oa, .string t.ox.f0, .int .i64 t.ox.f1.f0, .int .i64 t.ox.f1.f1, .string t.ox.f1.f2, .slice a10 t.ox.f1.f3.length c10, .slice a11 t.ox.f2.length c11] 46))
 go_enter Try.func6, Try.ntmps6
 go_wp2_with fail
 refine (known_calls _).mono ?_
 rintro en w1 ⟨rfl, hb1⟩
 have X1 := Aside0.mk ((hb1.block _ (blk_lt X0.out)).trans X0.out)
 have HB1 := Aside0.mk (show Below w.heap.size w w1 from (below_alloc (Below.refl _ _) _).trans (hb1.mono (by rw [size_alloc]; omega)))
 clear hb1
 go_wp2_with (refine wpList_load_row rfl 46 (.tmp 1) rfl w.heap.size rfl 46 _ (0, 0) _ X1.out Try.underlying46 rfl (by kernel_rfl) ?_)
 refine (small_calls _ t a1 a2 a3 a4 a5 a6 a7 a8 a9 a10 a11 c1 c2 c3 c4 c5 c6 c7 c8 c9 c10 c11 (HI.out.below HB1.out)).mono ?_
 rintro en w2 ⟨bb, rfl, hb2⟩
 have X2 := Aside0.mk ((hb2.block _ (blk_lt X1.out)).trans X1.out)
 have HB2 := Aside0.mk (HB1.out.trans (hb2.mono HB1.out.size))
 clear hb2
 cases bb
 ·go_wp2
  go_ret
  exact ⟨rfl, HB2.out⟩
 ·skip
  go_wp2_with (refine wpList_load_row rfl 46 (.tmp 1) rfl w.heap.size rfl 46 _ (0, 0) _ X2.out Try.underlying46 rfl (by kernel_rfl) ?_)
  refine (only_calls HI.out).mono ?_
  rintro en w3 ⟨d1, d2, d3, d4, d5, d6, d7, d8, d9, d10, d11, n1, n2, n3, n4, n5, n6, n7, n8, n9, n10, n11, rfl, ht, hb3⟩
  have X3 := Aside0.mk ((hb3.block _ (blk_lt X2.out)).trans X2.out)
  have HB3 := Aside0.mk (HB2.out.trans (hb3.mono HB2.out.size))
  have HT := Aside0.mk ht
  have HOK := Aside0.mk (onlyT_ok HO.out)
  have HKD := Aside0.mk (onlyT_kind t)
  clear hb3 ht
  generalize onlyT t = s at *
  iterate 2 (first | go_values | go_skip | go_guarded | go_step | go_upon | go_back | go_simp)
  refine wpList_store_row ?z1 46 (.tmp 1) (.tmp 14) ?z2 ?z3 w.heap.size ?z4 46 (#[.int .i64 t.kind, .string t.r.f0, .int .i64 t.r.f1.f0, .int .i64 t.r.f1.f1, .string t.r.f1.f2, .slice a1 t.r.f1.f3.length c1, .slice a2 t.r.f2.length c2, .int .i64 t.sn, .slice a3 t.sc.length c3, .int .i64 t.g.id, .int .i64 t.g.task, .int .i64 t.g.base, .int .u32 t.g.sum, .int .i64 t.g.snum, .slice a4 t.g.cells.length c4, .int .i64 t.g.dnum, .slice a5 t.g.set.length c5, .slice a6 t.g.gone.length c6, .slice a7 t.g.logs.length c7, .slice a8 t.g.pend.length c8, .int .i64 t.mi, .int .u32 t.ms, .slice a9 t.mr.length c9, .int .i64 t.oa, .string t.ox.f0, .int .i64 t.ox.f1.f0, .int .i64 t.ox.f1.f1, .string t.ox.f1.f2, .slice a10 t.ox.f1.f3.length c10, .slice a11 t.ox.f2.length c11]) [.int .i64 s.kind, .string s.r.f0, .int .i64 s.r.f1.f0, .int .i64 s.r.f1.f1, .string s.r.f1.f2, .slice d1 s.r.f1.f3.length n1, .slice d2 s.r.f2.length n2, .int .i64 s.sn, .slice d3 s.sc.length n3, .int .i64 s.g.id, .int .i64 s.g.task, .int .i64 s.g.base, .int .u32 s.g.sum, .int .i64 s.g.snum, .slice d4 s.g.cells.length n4, .int .i64 s.g.dnum, .slice d5 s.g.set.length n5, .slice d6 s.g.gone.length n6, .slice d7 s.g.logs.length n7, .slice d8 s.g.pend.length n8, .int .i64 s.mi, .int .u32 s.ms, .slice d9 s.mr.length n9, .int .i64 s.oa, .string s.ox.f0, .int .i64 s.ox.f1.f0, .int .i64 s.ox.f1.f1, .string s.ox.f1.f2, .slice d10 s.ox.f1.f3.length n10, .slice d11 s.ox.f2.length n11] ?z5 ?z6 ?z7 ?z8 ?z9 ?z0
  (case z2 => rfl)
  (case z1 => rfl)
  (case z3 => rfl)
  (case z4 => rfl)
  (case z5 => rfl)
  (case z6 => exact X3.out)
  (case z7 => rfl)
  (case z8 => exact size46)
  (case z9 => simp [Value.oneCell'])
  obtain ⟨hW1, hW2, hW3⟩ := filln X3.out [.int .i64 s.kind, .string s.r.f0, .int .i64 s.r.f1.f0, .int .i64 s.r.f1.f1, .string s.r.f1.f2, .slice d1 s.r.f1.f3.length n1, .slice d2 s.r.f2.length n2, .int .i64 s.sn, .slice d3 s.sc.length n3, .int .i64 s.g.id, .int .i64 s.g.task, .int .i64 s.g.base, .int .u32 s.g.sum, .int .i64 s.g.snum, .slice d4 s.g.cells.length n4, .int .i64 s.g.dnum, .slice d5 s.g.set.length n5, .slice d6 s.g.gone.length n6, .slice d7 s.g.logs.length n7, .slice d8 s.g.pend.length n8, .int .i64 s.mi, .int .u32 s.ms, .slice d9 s.mr.length n9, .int .i64 s.oa, .string s.ox.f0, .int .i64 s.ox.f1.f0, .int .i64 s.ox.f1.f1, .string s.ox.f1.f2, .slice d10 s.ox.f1.f3.length n10, .slice d11 s.ox.f2.length n11] rfl
  have HB4 := Aside0.mk (HB3.out.trans (hW3.below HB3.out.size))
  have X4 := Aside0.mk hW1
  clear hW1 hW2 hW3
  generalize sets w3 w.heap.size 0 [.int .i64 s.kind, .string s.r.f0, .int .i64 s.r.f1.f0, .int .i64 s.r.f1.f1, .string s.r.f1.f2, .slice d1 s.r.f1.f3.length n1, .slice d2 s.r.f2.length n2, .int .i64 s.sn, .slice d3 s.sc.length n3, .int .i64 s.g.id, .int .i64 s.g.task, .int .i64 s.g.base, .int .u32 s.g.sum, .int .i64 s.g.snum, .slice d4 s.g.cells.length n4, .int .i64 s.g.dnum, .slice d5 s.g.set.length n5, .slice d6 s.g.gone.length n6, .slice d7 s.g.logs.length n7, .slice d8 s.g.pend.length n8, .int .i64 s.mi, .int .u32 s.ms, .slice d9 s.mr.length n9, .int .i64 s.oa, .string s.ox.f0, .int .i64 s.ox.f1.f0, .int .i64 s.ox.f1.f1, .string s.ox.f1.f2, .slice d10 s.ox.f1.f3.length n10, .slice d11 s.ox.f2.length n11] = W4 at *
  have m0 := blk_cell X4.out 0
  simp only [List.getElem?_toArray, List.getElem?_cons_succ, List.getElem?_cons_zero] at m0
  by_cases hk : s.kind < 3
  ·go_wp2
   go_ret
   exact ⟨rfl, HB4.out⟩
  ·skip
   go_wp2_with (refine wpList_load_row rfl 46 (.tmp 1) rfl w.heap.size rfl 46 _ (0, 0) _ X4.out Try.underlying46 rfl (by kernel_rfl) ?_)
   refine (put_calls W4 s d1 d2 d3 d4 d5 d6 d7 d8 d9 d10 d11 n1 n2 n3 n4 n5 n6 n7 n8 n9 n10 n11 (HT.out.below HB4.out) HOK.out).mono ?_
   rintro en w5 ⟨u, rfl, hu, hb5⟩
   have X5 := Aside0.mk ((hb5.block _ (blk_lt X4.out)).trans X4.out)
   have HB5 := Aside0.mk (HB4.out.trans (hb5.mono HB4.out.size))
   have HU := Aside0.mk hu
   obtain ⟨Au, cu, rfl, _⟩ := hu.reads
   clear hu hb5 m0
   have HBy := Aside0.mk (show Byt (if putC s = 0 then putB s else []) by split; (exact Byt.putB HOK.out); (exact Byt.nil))
   have HLaw := Aside0.mk (show ∀ k : Nat, 3 ≤ k → k ≤ 5 → putC s = 0 → (k : Int) ≠ s.kind → (pGet k (if putC s = 0 then putB s else [])).1 = 41 from fun k h3 h5 h0 hn => by rw [if_pos h0]; exact kinds_law (by have := HKD.out; omega) (by omega) hn)
   generalize (if putC s = 0 then putB s else []) = zs at *
   generalize putC s = r at *
   go_wp2
   go_loopw [5] (fun kv wr => KndE w w5 (#[.int .i64 s.kind, .string s.r.f0, .int .i64 s.r.f1.f0, .int .i64 s.r.f1.f1, .string s.r.f1.f2, .slice d1 s.r.f1.f3.length n1, .slice d2 s.r.f2.length n2, .int .i64 s.sn, .slice d3 s.sc.length n3, .int .i64 s.g.id, .int .i64 s.g.task, .int .i64 s.g.base, .int .u32 s.g.sum, .int .i64 s.g.snum, .slice d4 s.g.cells.length n4, .int .i64 s.g.dnum, .slice d5 s.g.set.length n5, .slice d6 s.g.gone.length n6, .slice d7 s.g.logs.length n7, .slice d8 s.g.pend.length n8, .int .i64 s.mi, .int .u32 s.ms, .slice d9 s.mr.length n9, .int .i64 s.oa, .string s.ox.f0, .int .i64 s.ox.f1.f0, .int .i64 s.ox.f1.f1, .string s.ox.f1.f2, .slice d10 s.ox.f1.f3.length n10, .slice d11 s.ox.f2.length n11]) kv wr) (fun kv _ => 6 - (intOf kv).toNat)
   case atStart => exact ⟨3, rfl, by omega, by omega, X5.out, HB5.out, Below.refl _ _⟩
   case round =>
    obtain ⟨k, rfl, hk3, hk6, hxr, hbr, hbr5⟩ := hrel
    have XR := Aside0.mk hxr
    have HBR := Aside0.mk hbr
    have HBR5 := Aside0.mk hbr5
    clear hxr hbr hbr5
    by_cases hk5 : k ≤ 5
    ·have hk5i : (k : Int) ≤ 5 := by omega
     obtain ⟨Az, cz, ez, hcz, rz⟩ := own_reads_of_le (enc := Value.int .u8) (d := (0 : Int)) (show World.ownsRow _ _ _ _ _ _ (encs (Value.int .u8) zs) from HU.out.below HBR5.out)
     injection ez with ez1 ez2 ez3
     subst ez1 ez3
     have HCZ := Aside0.mk (Kd.C_of_reads (h1 := fun _ => rfl) rz)
     clear rz
     go_wp2_with fail
     refine (get_calls k (In.mk HCZ.out (Nat.le_refl _)) hcz HBy.out).mono ?_
     rintro en w6 ⟨q, qa1, qa2, qa3, qa4, qa5, qa6, qa7, qa8, qa9, qa10, qa11, qc1, qc2, qc3, qc4, qc5, qc6, qc7, qc8, qc9, qc10, qc11, e, rfl, _, hb6, hq⟩
     have hqe := congrArg Prod.fst hq
     have HLK := Aside0.mk (fun h0 hn => (HLaw.out k hk3 hk5 h0 hn).symm.trans hqe)
     clear hq hqe
     have X6 := Aside0.mk ((hb6.block _ (blk_lt XR.out)).trans XR.out)
     have HB6 := Aside0.mk (HBR.out.trans (hb6.mono HBR.out.size))
     have HB65 := Aside0.mk (HBR5.out.trans (hb6.mono HBR5.out.size))
     have HN := Aside0.mk (heap_alloc_new w6 (.cells #[.int .i64 0, .string ⟨#[]⟩, .int .i64 0, .int .i64 0, .string ⟨#[]⟩, .slice none 0 0, .slice none 0 0, .int .i64 0, .slice none 0 0, .int .i64 0, .int .i64 0, .int .i64 0, .int .u32 0, .int .i64 0, .slice none 0 0, .int .i64 0, .slice none 0 0, .slice none 0 0, .slice none 0 0, .slice none 0 0, .int .i64 0, .int .u32 0, .slice none 0 0, .int .i64 0, .string ⟨#[]⟩, .int .i64 0, .int .i64 0, .string ⟨#[]⟩, .slice none 0 0, .slice none 0 0] 46))
     clear hb6
     iterate 14 (first | go_values | go_skip | go_guarded | go_step | go_upon | go_back | go_simp)
     refine wpList_store_row ?y1 46 (.tmp 6) (.tmp 31) ?y2 ?y3 w6.heap.size ?y4 46 (#[.int .i64 0, .string ⟨#[]⟩, .int .i64 0, .int .i64 0, .string ⟨#[]⟩, .slice none 0 0, .slice none 0 0, .int .i64 0, .slice none 0 0, .int .i64 0, .int .i64 0, .int .i64 0, .int .u32 0, .int .i64 0, .slice none 0 0, .int .i64 0, .slice none 0 0, .slice none 0 0, .slice none 0 0, .slice none 0 0, .int .i64 0, .int .u32 0, .slice none 0 0, .int .i64 0, .string ⟨#[]⟩, .int .i64 0, .int .i64 0, .string ⟨#[]⟩, .slice none 0 0, .slice none 0 0]) [.int .i64 q.kind, .string q.r.f0, .int .i64 q.r.f1.f0, .int .i64 q.r.f1.f1, .string q.r.f1.f2, .slice qa1 q.r.f1.f3.length qc1, .slice qa2 q.r.f2.length qc2, .int .i64 q.sn, .slice qa3 q.sc.length qc3, .int .i64 q.g.id, .int .i64 q.g.task, .int .i64 q.g.base, .int .u32 q.g.sum, .int .i64 q.g.snum, .slice qa4 q.g.cells.length qc4, .int .i64 q.g.dnum, .slice qa5 q.g.set.length qc5, .slice qa6 q.g.gone.length qc6, .slice qa7 q.g.logs.length qc7, .slice qa8 q.g.pend.length qc8, .int .i64 q.mi, .int .u32 q.ms, .slice qa9 q.mr.length qc9, .int .i64 q.oa, .string q.ox.f0, .int .i64 q.ox.f1.f0, .int .i64 q.ox.f1.f1, .string q.ox.f1.f2, .slice qa10 q.ox.f1.f3.length qc10, .slice qa11 q.ox.f2.length qc11] ?y5 ?y6 ?y7 ?y8 ?y9 ?y0
     (case y2 => rfl)
     (case y1 => rfl)
     (case y3 => rfl)
     (case y4 => rfl)
     (case y5 => rfl)
     (case y6 => exact HN.out)
     (case y7 => rfl)
     (case y8 => exact size46)
     (case y9 => simp [Value.oneCell'])
     obtain ⟨hW1, hW2, hW3⟩ := filln HN.out [.int .i64 q.kind, .string q.r.f0, .int .i64 q.r.f1.f0, .int .i64 q.r.f1.f1, .string q.r.f1.f2, .slice qa1 q.r.f1.f3.length qc1, .slice qa2 q.r.f2.length qc2, .int .i64 q.sn, .slice qa3 q.sc.length qc3, .int .i64 q.g.id, .int .i64 q.g.task, .int .i64 q.g.base, .int .u32 q.g.sum, .int .i64 q.g.snum, .slice qa4 q.g.cells.length qc4, .int .i64 q.g.dnum, .slice qa5 q.g.set.length qc5, .slice qa6 q.g.gone.length qc6, .slice qa7 q.g.logs.length qc7, .slice qa8 q.g.pend.length qc8, .int .i64 q.mi, .int .u32 q.ms, .slice qa9 q.mr.length qc9, .int .i64 q.oa, .string q.ox.f0, .int .i64 q.ox.f1.f0, .int .i64 q.ox.f1.f1, .string q.ox.f1.f2, .slice qa10 q.ox.f1.f3.length qc10, .slice qa11 q.ox.f2.length qc11] rfl
     have hx6 := blk_lt X6.out
     have hb7 : Below w6.heap.size w6 (sets (w6.alloc (.cells #[.int .i64 0, .string ⟨#[]⟩, .int .i64 0, .int .i64 0, .string ⟨#[]⟩, .slice none 0 0, .slice none 0 0, .int .i64 0, .slice none 0 0, .int .i64 0, .int .i64 0, .int .i64 0, .int .u32 0, .int .i64 0, .slice none 0 0, .int .i64 0, .slice none 0 0, .slice none 0 0, .slice none 0 0, .slice none 0 0, .int .i64 0, .int .u32 0, .slice none 0 0, .int .i64 0, .string ⟨#[]⟩, .int .i64 0, .int .i64 0, .string ⟨#[]⟩, .slice none 0 0, .slice none 0 0] 46)) w6.heap.size 0 [.int .i64 q.kind, .string q.r.f0, .int .i64 q.r.f1.f0, .int .i64 q.r.f1.f1, .string q.r.f1.f2, .slice qa1 q.r.f1.f3.length qc1, .slice qa2 q.r.f2.length qc2, .int .i64 q.sn, .slice qa3 q.sc.length qc3, .int .i64 q.g.id, .int .i64 q.g.task, .int .i64 q.g.base, .int .u32 q.g.sum, .int .i64 q.g.snum, .slice qa4 q.g.cells.length qc4, .int .i64 q.g.dnum, .slice qa5 q.g.set.length qc5, .slice qa6 q.g.gone.length qc6, .slice qa7 q.g.logs.length qc7, .slice qa8 q.g.pend.length qc8, .int .i64 q.mi, .int .u32 q.ms, .slice qa9 q.mr.length qc9, .int .i64 q.oa, .string q.ox.f0, .int .i64 q.ox.f1.f0, .int .i64 q.ox.f1.f1, .string q.ox.f1.f2, .slice qa10 q.ox.f1.f3.length qc10, .slice qa11 q.ox.f2.length qc11]) := (below_alloc (Below.refl _ _) _).trans (hW3.below (Nat.le_of_lt (blk_lt HN.out)))
     have X7 := Aside0.mk ((hb7.block _ hx6).trans X6.out)
     have HB7 := Aside0.mk (HB6.out.trans (hb7.mono HB6.out.size))
     have HB75 := Aside0.mk (HB65.out.trans (hb7.mono HB65.out.size))
     clear hW1 hW2 hW3 hb7 HN
     generalize sets (w6.alloc (.cells #[.int .i64 0, .string ⟨#[]⟩, .int .i64 0, .int .i64 0, .string ⟨#[]⟩, .slice none 0 0, .slice none 0 0, .int .i64 0, .slice none 0 0, .int .i64 0, .int .i64 0, .int .i64 0, .int .u32 0, .int .i64 0, .slice none 0 0, .int .i64 0, .slice none 0 0, .slice none 0 0, .slice none 0 0, .slice none 0 0, .int .i64 0, .int .u32 0, .slice none 0 0, .int .i64 0, .string ⟨#[]⟩, .int .i64 0, .int .i64 0, .string ⟨#[]⟩, .slice none 0 0, .slice none 0 0] 46)) w6.heap.size 0 [.int .i64 q.kind, .string q.r.f0, .int .i64 q.r.f1.f0, .int .i64 q.r.f1.f1, .string q.r.f1.f2, .slice qa1 q.r.f1.f3.length qc1, .slice qa2 q.r.f2.length qc2, .int .i64 q.sn, .slice qa3 q.sc.length qc3, .int .i64 q.g.id, .int .i64 q.g.task, .int .i64 q.g.base, .int .u32 q.g.sum, .int .i64 q.g.snum, .slice qa4 q.g.cells.length qc4, .int .i64 q.g.dnum, .slice qa5 q.g.set.length qc5, .slice qa6 q.g.gone.length qc6, .slice qa7 q.g.logs.length qc7, .slice qa8 q.g.pend.length qc8, .int .i64 q.mi, .int .u32 q.ms, .slice qa9 q.mr.length qc9, .int .i64 q.oa, .string q.ox.f0, .int .i64 q.ox.f1.f0, .int .i64 q.ox.f1.f1, .string q.ox.f1.f2, .slice qa10 q.ox.f1.f3.length qc10, .slice qa11 q.ox.f2.length qc11] = W7 at *
     have m7 := blk_cell X7.out 0
     simp only [List.getElem?_toArray, List.getElem?_cons_succ, List.getElem?_cons_zero] at m7
     by_cases h0 : r = 0
     ·by_cases hn : (k : Int) = s.kind
      ·have hnb : ((k : Int) != s.kind) = false := by simpa using hn
       clear hn
       go_wp2
       go_roundw
       case rel => exact ⟨k + 1, by simp, by omega, by omega, X7.out, HB7.out, HB75.out⟩
       case measure => simp [intOf]; omega
      ·have he := HLK.out h0 hn
       have heb : (e != 41) = false := by simpa using he.symm
       clear he
       go_wp2
       go_roundw
       case rel => exact ⟨k + 1, by simp, by omega, by omega, X7.out, HB7.out, HB75.out⟩
       case measure => simp [intOf]; omega
     ·have h0b : (r == 0) = false := by simpa using h0
      go_wp2
      go_roundw
      case rel => exact ⟨k + 1, by simp, by omega, by omega, X7.out, HB7.out, HB75.out⟩
      case measure => simp [intOf]; omega
    ·have hk5i : ¬ (k : Int) ≤ 5 := by omega
     go_wp2
     go_ret
     exact ⟨rfl, HBR.out⟩
end Go.Proofs.Ythmkioodkldgbaa.DK
/- What a row's opening gives of an argument: kinds by kinds, then one of the five things; conditions: those in each theorem. -/
namespace Go.Proofs.Ythmkioodkldgbaa.DK
open Go.Proofs.Ythmkioodkldgbaa.PD
open Go.ChangeShapes Go.WideShapes Go.Deep Go.Proofs.YthmkioodkldgbaaW.PrintWords
set_option linter.unusedVariables false
set_option maxRecDepth 100000
/-- One value laid out as cells of type t, read by d, is such. -/
def Opens {H : Type} (enc : TypeId × Value → H) (W : World) {α : Type} (n : Nat) (t : TypeId) (d : Kd α) (ok : α → Prop) : Prop :=
 ∀ cs x, DataW.trod enc Try.prog W 0 (fun _ => true) true n t cs = some x → ∃ y : α, d.K W y cs ∧ ok y
section
variable {H : Type} {enc : TypeId × Value → H} {W : World} {n : Nat}
theorem opens_int {t : TypeId} {k : IntKind} (hu : Try.prog.underlying t = some (.int k)) : Opens enc W n t (Kd.int k) (fun y => (Lit.int k y).wf = true) := fun cs x h => by
 obtain ⟨y, rfl, _, hw⟩ := DataW.trod_int hu h
 exact ⟨y, rfl, hw⟩
theorem opens_str {t : TypeId} (hu : Try.prog.underlying t = some .string) : Opens enc W n t Kd.string (fun _ => True) := fun cs x h => by
 obtain ⟨y, rfl, _, hw⟩ := DataW.trod_string hu h
 exact ⟨y, rfl, trivial⟩
theorem list_of {α : Type} {P : Nat → α → Prop} : ∀ m, (∀ j, j < m → ∃ p, P j p) → ∃ l : List α, l.length = m ∧ ∀ j p, l[j]? = some p → P j p
 | 0, _ => ⟨[], rfl, fun j p h => by simp at h⟩
 | m + 1, h => by
  obtain ⟨l, hl, hp⟩ := list_of m (fun j hj => h j (by omega))
  obtain ⟨p, hq⟩ := h m (by omega)
  refine ⟨l ++ [p], by simp [hl], fun j q hj => ?_⟩
  by_cases hjm : j < m
  ·rw [List.getElem?_append_left (by omega)] at hj
   exact hp j q hj
  ·rw [List.getElem?_append_right (by omega)] at hj
   have hj2 : j - l.length < [p].length := (List.getElem?_eq_some_iff.1 hj).1
   simp only [List.length_cons, List.length_nil] at hj2
   obtain rfl : j = m := by omega
   rw [show j - l.length = 0 by omega] at hj
   simp at hj
   exact hj ▸ hq
theorem opens_slice {t e e' : TypeId} {α : Type} {d : Kd α} {ok : α → Prop} (hu : Try.prog.underlying t = some (.slice e)) (he : Try.prog.cellsOf e = d.sz) (h : ∀ m, m < n → Opens enc W m e d ok) : Opens enc W n t (Kd.slice e' d) (fun l => ∀ y ∈ l, ok y) := fun cs x hx => by
 rcases DataW.trod_slice hu hx with ⟨rfl, _⟩ | ⟨a, len, cap, elems, rest, m, rfl, rfl, _, _, hl, hm, hlen, hel, _, _⟩
 ·exact ⟨[], ⟨none, 0, rfl, Nat.le_refl _, ⟨rfl, Nat.zero_le _, fun hh => absurd hh (Nat.lt_irrefl _)⟩⟩, fun y hy => by cases hy⟩
 ·obtain ⟨l, hll, hp⟩ := list_of (P := fun i y => (∃ c, c.length = d.sz ∧ d.K W y c ∧ ∀ j u, c[j]? = some u → W.cell? (a.add (i * d.sz + j)) = some u) ∧ ok y) len (fun i hi => by
   have h1 := hel i hi
   rw [List.getElem?_eq_getElem (by omega)] at h1
   cases hc : W.cells? 0 (a.add (i * Try.prog.cellsOf e)) (Try.prog.cellsOf e) with
   | none => rw [hc] at h1; cases h1
   | some c =>
    rw [hc] at h1
    obtain ⟨_, hcl, hcc⟩ := World.cells?_some hc
    obtain ⟨y, hK, hok⟩ := h m (by omega) c _ h1
    rw [he] at hcl hcc
    refine ⟨y, ⟨c, hcl, hK, fun j u hju => ?_⟩, hok⟩
    have hj : j < d.sz := by have := (List.getElem?_eq_some_iff.1 hju).1; omega
    have h2 := hcc j hj
    rw [Deep.add_add] at h2
    rw [h2, hju])
  subst hll
  exact ⟨l, ⟨some a, cap, rfl, hl, ⟨rfl, Nat.le_trans hl hm, fun _ => ⟨a, rfl, fun j p hj => (hp j p hj).1⟩⟩⟩, fun y hy => by
   obtain ⟨i, hi⟩ := List.mem_iff_getElem?.1 hy
   exact (hp i y hi).2⟩
theorem fld {t : TypeId} {fs : Array Field} {cs : List Value} {x : DataW H × List MemPlace} (hu : Try.prog.underlying t = some (.struct fs)) (h : DataW.trod enc Try.prog W 0 (fun _ => true) true n t cs = some x) :
  cs.length = Try.prog.cellsOf t ∧ ∃ m, n = m + 1 ∧ ∀ (i : Nat) (f : Field), fs[i]? = some f → ∃ y, DataW.trod enc Try.prog W 0 (fun _ => true) true m f.type ((cs.drop f.offset).take (Try.prog.cellsOf f.type)) = some y := by
 obtain ⟨xs, m, rfl, _, hl, hlen, hf⟩ := DataW.trod_struct hu h
 refine ⟨hl, m, rfl, fun i f hi => ?_⟩
 have h1 := hf i f hi
 have hi2 : i < fs.size := (Array.getElem?_eq_some_iff.1 hi).1
 rw [List.getElem?_eq_getElem (by omega)] at h1
 exact ⟨_, h1⟩
theorem f_last {α : Type} {d : Kd α} {ok : α → Prop} {t : TypeId} {cs : List Value} (off : Nat) (h : Opens enc W n t d ok) (hl : cs.length = off + Try.prog.cellsOf t) (g : ∃ y, DataW.trod enc Try.prog W 0 (fun _ => true) true n t ((cs.drop off).take (Try.prog.cellsOf t)) = some y) :
  ∃ y, d.K W y (cs.drop off) ∧ ok y := by
 obtain ⟨y, g⟩ := g
 rw [List.take_of_length_le (by rw [List.length_drop]; omega)] at g
 exact h _ _ g
theorem f_cons {α β : Type} {a : Kd α} {b : Kd β} {oka : α → Prop} {okb : β → Prop} {t : TypeId} {cs : List Value} (off s : Nat) (h : Opens enc W n t a oka) (he : Try.prog.cellsOf t = s) (g : ∃ y, DataW.trod enc Try.prog W 0 (fun _ => true) true n t ((cs.drop off).take (Try.prog.cellsOf t)) = some y)
  (k : ∃ y, b.K W y (cs.drop (off + s)) ∧ okb y) : ∃ y : α × β, (Kd.pair a b).K W y (cs.drop off) ∧ (oka y.1 ∧ okb y.2) := by
 obtain ⟨y, g⟩ := g
 rw [he] at g
 obtain ⟨y0, h0, o0⟩ := h _ _ g
 obtain ⟨y1, h1, o1⟩ := k
 exact ⟨(y0, y1), ⟨(cs.drop off).take s, cs.drop (off + s), by rw [← List.drop_drop, List.take_append_drop], h0, h1⟩, o0, o1⟩
theorem okL_of : ∀ {l : List S25}, (∀ y ∈ l, okS y) → okL l
 | [], _ => by rw [okL]; trivial
 | x :: l, h => by
  rw [okL]
  exact ⟨h x (List.mem_cons_self ..), okL_of (fun y hy => h y (List.mem_cons_of_mem _ hy))⟩
theorem wf64 {y : Int} (h : (Lit.int .i64 y).wf = true) : -9223372036854775808 ≤ y ∧ y ≤ 9223372036854775807 := by have := (Lit.wf_int_iff _ _).1 h; exact ⟨this.1, this.2⟩
theorem wf32 {y : Int} (h : (Lit.int .u32 y).wf = true) : 0 ≤ y ∧ y ≤ 4294967295 := by have := (Lit.wf_int_iff _ _).1 h; exact ⟨this.1, this.2⟩
theorem ce3 : Try.prog.cellsOf 3 = 1 := by kernel_rfl
theorem ce2 : Try.prog.cellsOf 2 = 1 := by kernel_rfl
theorem ce9 : Try.prog.cellsOf 9 = 1 := by kernel_rfl
theorem ce32 : Try.prog.cellsOf 32 = 1 := by kernel_rfl
theorem ce23 : Try.prog.cellsOf 23 = 1 := by kernel_rfl
theorem ce25 : Try.prog.cellsOf 25 = 4 := by kernel_rfl
theorem ce26 : Try.prog.cellsOf 26 = 1 := by kernel_rfl
theorem ce28 : Try.prog.cellsOf 28 = 6 := by kernel_rfl
theorem ce29 : Try.prog.cellsOf 29 = 1 := by kernel_rfl
theorem ce31 : Try.prog.cellsOf 31 = 2 := by kernel_rfl
theorem ce33 : Try.prog.cellsOf 33 = 1 := by kernel_rfl
theorem ce35 : Try.prog.cellsOf 35 = 3 := by kernel_rfl
theorem ce36 : Try.prog.cellsOf 36 = 1 := by kernel_rfl
theorem ce37 : Try.prog.cellsOf 37 = 1 := by kernel_rfl
theorem ce39 : Try.prog.cellsOf 39 = 11 := by kernel_rfl
theorem ce40 : Try.prog.cellsOf 40 = 1 := by kernel_rfl
theorem ce42 : Try.prog.cellsOf 42 = 3 := by kernel_rfl
theorem ce44 : Try.prog.cellsOf 44 = 7 := by kernel_rfl
theorem ce46 : Try.prog.cellsOf 46 = 30 := by kernel_rfl
theorem ce108 : Try.prog.cellsOf 108 = 2 := by kernel_rfl
theorem ce121 : Try.prog.cellsOf 121 = 2 := by kernel_rfl
theorem opens25 : ∀ n, Opens enc W n 25 k25 okS := fun n => by
 induction n using Nat.strongRecOn with
 | _ n ih =>
  intro cs x h
  obtain ⟨hl, m, rfl, hf⟩ := fld Try.underlying25 h
  rw [ce25] at hl
  obtain ⟨⟨y0, y1, y2, y3⟩, hK, o0, o1, _, o3⟩ := f_cons 0 1 (opens_int Try.underlying3) ce3 (hf 0 _ rfl) (f_cons 1 1 (opens_int Try.underlying2) ce2 (hf 1 _ rfl) (f_cons 2 1 (opens_str Try.underlying9) ce9 (hf 2 _ rfl)
   (f_last 3 (opens_slice (e' := 25) Try.underlying23 ce25 (fun m' hm' => ih m' (by omega))) (by rw [ce23, hl]) (hf 3 _ rfl))))
  obtain ⟨_, _, e, rfl, _, _, rfl, rfl, _, _, rfl, rfl, A3, c3, rfl, l3, g3⟩ := hK
  rw [List.drop_zero] at e
  subst e
  exact ⟨⟨y0, y1, y2, y3⟩, k25_mk W ⟨y0, y1, y2, y3⟩ l3 g3, by rw [okS_eq]; exact ⟨wf64 o0, wf64 o1, okL_of o3⟩⟩
theorem opens121 : Opens enc W n 121 k121 (fun x => okL x.f1) := fun cs x h => by
 obtain ⟨hl, m, rfl, hf⟩ := fld Try.underlying121 h
 rw [ce121] at hl
 obtain ⟨⟨y0, y1⟩, hK, _, o1⟩ := f_cons 0 1 (opens_str Try.underlying9) ce9 (hf 0 _ rfl) (f_last 1 (opens_slice (e' := 25) Try.underlying23 ce25 (fun m' _ => opens25 m')) (by rw [ce23, hl]) (hf 1 _ rfl))
 rw [List.drop_zero] at hK
 exact ⟨⟨y0, y1⟩, hK, okL_of o1⟩
theorem opens28 : Opens enc W n 28 k28 (fun x => okS x.f1) := fun cs x h => by
 obtain ⟨hl, m, rfl, hf⟩ := fld Try.underlying28 h
 rw [ce28] at hl
 obtain ⟨⟨y0, y1, y2⟩, hK, _, o1, _⟩ := f_cons 0 1 (opens_str Try.underlying9) ce9 (hf 0 _ rfl) (f_cons 1 4 (opens25 m) ce25 (hf 1 _ rfl) (f_last 5 (opens_slice (e' := 3) (d := Kd.int .i64) Try.underlying26 ce3 (fun m' _ => opens_int Try.underlying3)) (by rw [ce26, hl]) (hf 2 _ rfl)))
 rw [List.drop_zero] at hK
 exact ⟨⟨y0, y1, y2⟩, hK, o1⟩
theorem opens108 : Opens enc W n 108 k108 (fun x => 0 ≤ x.f1 ∧ x.f1 ≤ 4294967295) := fun cs x h => by
 obtain ⟨hl, m, rfl, hf⟩ := fld Try.underlying108 h
 rw [ce108] at hl
 obtain ⟨⟨y0, y1⟩, hK, _, o1⟩ := f_cons 0 1 (opens_int Try.underlying3) ce3 (hf 0 _ rfl) (f_last 1 (opens_int Try.underlying32) (by rw [ce32, hl]) (hf 1 _ rfl))
 rw [List.drop_zero] at hK
 exact ⟨⟨y0, y1⟩, hK, wf32 o1⟩
def kSt : Kd (Int × List S121) := Kd.pair (Kd.int .i64) (Kd.slice 121 k121)
def kDl : Kd (Int × List S121 × List ByteArray) := Kd.pair (Kd.int .i64) (Kd.pair (Kd.slice 121 k121) (Kd.slice 9 Kd.string))
def kSg : Kd (Int × Int × Int × Int × (Int × List S121) × (Int × List S121 × List ByteArray) × List (List S28) × List S28) :=
 Kd.pair (Kd.int .i64) (Kd.pair (Kd.int .i64) (Kd.pair (Kd.int .i64) (Kd.pair (Kd.int .u32) (Kd.pair kSt (Kd.pair kDl (Kd.pair (Kd.slice 37 (Kd.slice 28 k28)) (Kd.slice 28 k28)))))))
def kMn : Kd (Int × Int × List S108) := Kd.pair (Kd.int .i64) (Kd.pair (Kd.int .u32) (Kd.slice 108 k108))
def kRw : Kd (Int × S28) := Kd.pair (Kd.int .i64) k28
theorem opens31 : Opens enc W n 31 kSt (fun y => ∀ x ∈ y.2, okL x.f1) := fun cs x h => by
 obtain ⟨hl, m, rfl, hf⟩ := fld Try.underlying31 h
 rw [ce31] at hl
 obtain ⟨y, hK, _, o1⟩ := f_cons 0 1 (opens_int Try.underlying3) ce3 (hf 0 _ rfl) (f_last 1 (opens_slice (e' := 121) Try.underlying29 ce121 (fun m' _ => opens121)) (by rw [ce29, hl]) (hf 1 _ rfl))
 rw [List.drop_zero] at hK
 exact ⟨y, hK, o1⟩
theorem opens35 : Opens enc W n 35 kDl (fun y => ∀ x ∈ y.2.1, okL x.f1) := fun cs x h => by
 obtain ⟨hl, m, rfl, hf⟩ := fld Try.underlying35 h
 rw [ce35] at hl
 obtain ⟨y, hK, _, o1, _⟩ := f_cons 0 1 (opens_int Try.underlying3) ce3 (hf 0 _ rfl) (f_cons 1 1 (opens_slice (e' := 121) Try.underlying29 ce121 (fun m' _ => opens121)) ce29 (hf 1 _ rfl) (f_last 2 (opens_slice (e' := 9) (d := Kd.string) Try.underlying33 ce9 (fun m' _ => opens_str Try.underlying9)) (by rw [ce33, hl]) (hf 2 _ rfl)))
 rw [List.drop_zero] at hK
 exact ⟨y, hK, o1⟩
theorem opens37 : Opens enc W n 37 (Kd.slice 28 k28) (fun l => ∀ x ∈ l, okS x.f1) := opens_slice Try.underlying37 ce28 (fun m' _ => opens28)
def SgOk (y : Int × Int × Int × Int × (Int × List S121) × (Int × List S121 × List ByteArray) × List (List S28) × List S28) : Prop :=
 (0 ≤ y.2.2.2.1 ∧ y.2.2.2.1 ≤ 4294967295) ∧ (∀ x ∈ y.2.2.2.2.1.2, okL x.f1) ∧ (∀ x ∈ y.2.2.2.2.2.1.2.1, okL x.f1) ∧ (∀ l ∈ y.2.2.2.2.2.2.1, ∀ x ∈ l, okS x.f1) ∧ ∀ x ∈ y.2.2.2.2.2.2.2, okS x.f1
theorem opens39 : Opens enc W n 39 kSg SgOk := fun cs x h => by
 obtain ⟨hl, m, rfl, hf⟩ := fld Try.underlying39 h
 rw [ce39] at hl
 obtain ⟨y, hK, _, _, _, o1, o2, o3, o4, o5⟩ := f_cons 0 1 (opens_int Try.underlying3) ce3 (hf 0 _ rfl) (f_cons 1 1 (opens_int Try.underlying3) ce3 (hf 1 _ rfl) (f_cons 2 1 (opens_int Try.underlying3) ce3 (hf 2 _ rfl) (f_cons 3 1 (opens_int Try.underlying32) ce32 (hf 3 _ rfl)
  (f_cons 4 2 opens31 ce31 (hf 4 _ rfl) (f_cons 6 3 opens35 ce35 (hf 5 _ rfl) (f_cons 9 1 (opens_slice (e' := 37) (d := Kd.slice 28 k28) Try.underlying36 ce37 (fun m' _ => opens37)) ce36 (hf 6 _ rfl) (f_last 10 opens37 (by rw [ce37, hl]) (hf 7 _ rfl))))))))
 rw [List.drop_zero] at hK
 exact ⟨y, hK, wf32 o1, o2, o3, o4, o5⟩
theorem opens42 : Opens enc W n 42 kMn (fun y => (0 ≤ y.2.1 ∧ y.2.1 ≤ 4294967295) ∧ ∀ x ∈ y.2.2, 0 ≤ x.f1 ∧ x.f1 ≤ 4294967295) := fun cs x h => by
 obtain ⟨hl, m, rfl, hf⟩ := fld Try.underlying42 h
 rw [ce42] at hl
 obtain ⟨y, hK, _, o1, o2⟩ := f_cons 0 1 (opens_int Try.underlying3) ce3 (hf 0 _ rfl) (f_cons 1 1 (opens_int Try.underlying32) ce32 (hf 1 _ rfl) (f_last 2 (opens_slice (e' := 108) Try.underlying40 ce108 (fun m' _ => opens108)) (by rw [ce40, hl]) (hf 2 _ rfl)))
 rw [List.drop_zero] at hK
 exact ⟨y, hK, wf32 o1, o2⟩
theorem opens44 : Opens enc W n 44 kRw (fun y => okS y.2.f1) := fun cs x h => by
 obtain ⟨hl, m, rfl, hf⟩ := fld Try.underlying44 h
 rw [ce44] at hl
 obtain ⟨y, hK, _, o1⟩ := f_cons 0 1 (opens_int Try.underlying3) ce3 (hf 0 _ rfl) (f_last 1 opens28 (by rw [ce28, hl]) (hf 1 _ rfl))
 rw [List.drop_zero] at hK
 exact ⟨y, hK, o1⟩
theorem thing_in {cs : List Value} {x : DataW H × List MemPlace} (h : DataW.trod enc Try.prog W 0 (fun _ => true) true n 46 cs = some x) :
  ∃ (t : Thg) (a1 a2 a3 a4 a5 a6 a7 a8 a9 a10 a11 : Option Addr) (c1 c2 c3 c4 c5 c6 c7 c8 c9 c10 c11 : Nat), cs = [.int .i64 t.kind, .string t.r.f0, .int .i64 t.r.f1.f0, .int .i64 t.r.f1.f1, .string t.r.f1.f2, .slice a1 t.r.f1.f3.length c1, .slice a2 t.r.f2.length c2, .int .i64 t.sn, .slice a3 t.sc.length c3,
   .int .i64 t.g.id, .int .i64 t.g.task, .int .i64 t.g.base, .int .u32 t.g.sum, .int .i64 t.g.snum, .slice a4 t.g.cells.length c4, .int .i64 t.g.dnum, .slice a5 t.g.set.length c5, .slice a6 t.g.gone.length c6, .slice a7 t.g.logs.length c7, .slice a8 t.g.pend.length c8,
   .int .i64 t.mi, .int .u32 t.ms, .slice a9 t.mr.length c9, .int .i64 t.oa, .string t.ox.f0, .int .i64 t.ox.f1.f0, .int .i64 t.ox.f1.f1, .string t.ox.f1.f2, .slice a10 t.ox.f1.f3.length c10, .slice a11 t.ox.f2.length c11] ∧
   ThIn W t a1 a2 a3 a4 a5 a6 a7 a8 a9 a10 a11 c1 c2 c3 c4 c5 c6 c7 c8 c9 c10 c11 ∧ t.Ok := by
 obtain ⟨hl, m, rfl, hf⟩ := fld Try.underlying46 h
 rw [ce46] at hl
 obtain ⟨⟨y0, r, st, g, mn, rw⟩, hK, _, o1, o2, o3, o4, o5⟩ := f_cons 0 1 (opens_int Try.underlying3) ce3 (hf 0 _ rfl) (f_cons 1 6 opens28 ce28 (hf 1 _ rfl) (f_cons 7 2 opens31 ce31 (hf 2 _ rfl) (f_cons 9 11 opens39 ce39 (hf 3 _ rfl) (f_cons 20 3 opens42 ce42 (hf 4 _ rfl) (f_last 23 opens44 (by rw [ce44, hl]) (hf 5 _ rfl))))))
 obtain ⟨sn, sc⟩ := st
 obtain ⟨id, task, base, sum, ⟨snum, cells⟩, ⟨dnum, set_, gone⟩, logs, pend⟩ := g
 obtain ⟨mi, ms, mr⟩ := mn
 obtain ⟨oa, ox⟩ := rw
 obtain ⟨p0, q0, e, k0, p1, q1, e1, k1, p2, q2, e2, k2, p3, q3, e3, k3, p4, q4, e4, k4, k5⟩ := hK
 obtain ⟨a1, c1, a2, c2, f1, l1, i1, l2, i2⟩ := k28_open k1
 obtain ⟨_, _, f2, rfl, a3, c3, rfl, l3, i3⟩ := k2
 obtain ⟨_, _, f3, rfl, _, _, rfl, rfl, _, _, rfl, rfl, _, _, rfl, rfl, _, _, rfl, ⟨_, _, rfl, rfl, a4, c4, rfl, l4, i4⟩, _, _, rfl, ⟨_, _, rfl, rfl, _, _, rfl, ⟨a5, c5, rfl, l5, i5⟩, a6, c6, rfl, l6, i6⟩, _, _, rfl, ⟨a7, c7, rfl, l7, i7⟩, a8, c8, rfl, l8, i8⟩ := k3
 obtain ⟨_, _, f4, rfl, _, _, rfl, rfl, a9, c9, rfl, l9, i9⟩ := k4
 obtain ⟨_, _, f5, rfl, k5⟩ := k5
 obtain ⟨a10, c10, a11, c11, f6, l10, i10, l11, i11⟩ := k28_open k5
 obtain ⟨w1, w2, w3, w4, w5⟩ := o3
 rw [List.drop_zero] at e
 refine ⟨⟨y0, r, sn, sc, ⟨id, task, base, sum, snum, cells, dnum, set_, gone, logs, pend⟩, mi, ms, mr, oa, ox⟩, a1, a2, a3, a4, a5, a6, a7, a8, a9, a10, a11, c1, c2, c3, c4, c5, c6, c7, c8, c9, c10, c11, ?_,
  ⟨i1, i2, i3, i4, i5, i6, i7, i8, i9, i10, i11, l1, l2, l3, l4, l5, l6, l7, l8, l9, l10, l11⟩, ⟨o1, o2, ⟨w1, w2, w3, w4, w5⟩, o4.1, o4.2, o5⟩⟩
 have k0' : p0 = [.int .i64 y0] := k0
 rw [e, k0', e1, f1, e2, f2, e3, f3, e4, f4, f5, f6]
 rfl
theorem thing_arg {v : Value} {d : DataW H} {ps : List MemPlace} (h : DataW.Trod enc Try.prog W 0 (fun _ => true) true 46 v d ps) :
  ∃ (t : Thg) (a1 a2 a3 a4 a5 a6 a7 a8 a9 a10 a11 : Option Addr) (c1 c2 c3 c4 c5 c6 c7 c8 c9 c10 c11 : Nat), v = .agg #[.int .i64 t.kind, .string t.r.f0, .int .i64 t.r.f1.f0, .int .i64 t.r.f1.f1, .string t.r.f1.f2, .slice a1 t.r.f1.f3.length c1, .slice a2 t.r.f2.length c2, .int .i64 t.sn, .slice a3 t.sc.length c3,
   .int .i64 t.g.id, .int .i64 t.g.task, .int .i64 t.g.base, .int .u32 t.g.sum, .int .i64 t.g.snum, .slice a4 t.g.cells.length c4, .int .i64 t.g.dnum, .slice a5 t.g.set.length c5, .slice a6 t.g.gone.length c6, .slice a7 t.g.logs.length c7, .slice a8 t.g.pend.length c8,
   .int .i64 t.mi, .int .u32 t.ms, .slice a9 t.mr.length c9, .int .i64 t.oa, .string t.ox.f0, .int .i64 t.ox.f1.f0, .int .i64 t.ox.f1.f1, .string t.ox.f1.f2, .slice a10 t.ox.f1.f3.length c10, .slice a11 t.ox.f2.length c11] ∧
   ThIn W t a1 a2 a3 a4 a5 a6 a7 a8 a9 a10 a11 c1 c2 c3 c4 c5 c6 c7 c8 c9 c10 c11 ∧ t.Ok := by
 obtain ⟨n, h⟩ := h
 obtain ⟨t, a1, a2, a3, a4, a5, a6, a7, a8, a9, a10, a11, c1, c2, c3, c4, c5, c6, c7, c8, c9, c10, c11, e, i, o⟩ := thing_in h
 refine ⟨t, a1, a2, a3, a4, a5, a6, a7, a8, a9, a10, a11, c1, c2, c3, c4, c5, c6, c7, c8, c9, c10, c11, ?_, i, o⟩
 cases v with
 | agg cs =>
  have e' : cs.toList = _ := e
  congr 1
  rw [← Array.toList_inj, e']
 | _ =>
  have h1 := congrArg List.length e
  simp [Value.cells] at h1
end
end Go.Proofs.Ythmkioodkldgbaa.DK
