/- One disk: does; conditions: those in each theorem. -/
import Derived.Test.YtfholpajdkjbbaaQdLh
namespace Go.Proofs.Ytfholpajdkjbbaa.DK
open Go.Proofs.Ytfholpajdkjbbaa.PD
open Go.RowKit Go.Proofs.YtfholpajdkjbbaaW.PrintWords Go.Proofs.YtfholpajdkjbbaaW.PrintLast Go.Proofs.YtfholpajdkjbbaaW.PrintMore Go.Proofs.Ytfholpajdkjbbaa.Mo
set_option linter.unusedVariables false
set_option linter.unusedSimpArgs false
def DoesPost (w : World) (p : Nat) (X : Nat → Prop) (r : St × Int) (e : Ending) (w' : World) : Prop := e = .returned (.int .i64 r.2) ∧ PStep p X w w' r.1
theorem PStep.early {w w1 w' : World} {p : Nat} {X : Nat → Prop} {s s' : St} (h : Prog w p X s) (hb : Below w.heap.size w w1) (hs : PStep p X w1 w' s') : PStep p X w w' s' := (PStep.below h hb).trans (hs.more_ hb.size)
set_option maxHeartbeats 8000000 in
set_option maxRecDepth 100000 in
theorem does_calls (w : World) (p B : Nat) (X : Nat → Prop) (s : St) (o : S41) (A5 : Option Addr) (c5 : Nat) (A6 : Option Addr) (c6 : Nat) (h : Prog w p X s) (ok : Ok s) (hBw : B ≤ w.heap.size) (hX : ∀ k, X k → B ≤ k) (hin : OpIn w B o.f5 A5 c5 o.f6 A6 c6) (g : Mo.Good o) :
    Calls Try.prog 23 #[.pointer (some ⟨p, 0, none⟩), .agg #[.int .i64 o.f0, .int .i64 o.f1, .string o.f2, .int .i64 o.f3, .int .i64 o.f4, .slice A5 o.f5.length c5, .slice A6 o.f6.length c6]] w (DoesPost w p X (s.op o)) := by
  obtain ⟨kd, wh, nm, n, af, bs, ks⟩ := o
  obtain ⟨hn, ha, hlen⟩ := g
  dsimp only at hin hn ha hlen ⊢
  by_cases h1 : kd = 1
  · subst h1
    have hbox := below_alloc (Below.refl w.heap.size w) (.cells #[.int .i64 1, .int .i64 wh, .string nm, .int .i64 n, .int .i64 af, .slice A5 bs.length c5, .slice A6 ks.length c6] 41)
    have hg := heap_alloc_new w (.cells #[.int .i64 1, .int .i64 wh, .string nm, .int .i64 n, .int .i64 af, .slice A5 bs.length c5, .slice A6 ks.length c6] 41)
    have hsz : B ≤ (w.alloc (.cells #[.int .i64 1, .int .i64 wh, .string nm, .int .i64 n, .int .i64 af, .slice A5 bs.length c5, .slice A6 ks.length c6] 41)).heap.size := by rw [World.size_alloc']; omega
    have h1 := h.below hbox
    have hin1 := hin.below (hbox.mono hBw)
    have hst : Stays X (w.alloc (.cells #[.int .i64 1, .int .i64 wh, .string nm, .int .i64 n, .int .i64 af, .slice A5 bs.length c5, .slice A6 ks.length c6] 41)) A5 bs ∧ StaysI X (w.alloc (.cells #[.int .i64 1, .int .i64 wh, .string nm, .int .i64 n, .int .i64 af, .slice A5 bs.length c5, .slice A6 ks.length c6] 41)) A6 ks := ⟨fun w' hu => hin1.r5 w' (hu.below hsz hX), fun w' hu => hin1.r6 w' (hu.below hsz hX)⟩
    have HC := Aside0.mk (append_calls (w.alloc (.cells #[.int .i64 1, .int .i64 wh, .string nm, .int .i64 n, .int .i64 af, .slice A5 bs.length c5, .slice A6 ks.length c6] 41)) p X s nm A5 c5 bs h1 ok hst.1 hin.l5 hlen)
    have HB := Aside0.mk hbox
    have H := Aside0.mk h
    have g0 := blk_cell hg 0
    have g1 := blk_cell hg 1
    have g2 := blk_cell hg 2
    have g3 := blk_cell hg 3
    have g4 := blk_cell hg 4
    have g5 := blk_cell hg 5
    have g6 := blk_cell hg 6
    have fg0 := blk_frozen hg 0
    have fg1 := blk_frozen hg 1
    have fg2 := blk_frozen hg 2
    have fg3 := blk_frozen hg 3
    have fg4 := blk_frozen hg 4
    have fg5 := blk_frozen hg 5
    have fg6 := blk_frozen hg 6
    simp only [List.getElem?_toArray, List.getElem?_cons_succ, List.getElem?_cons_zero] at g0 g1 g2 g3 g4 g5 g6
    clear hg hbox h hin h1 hin1 hst hsz hX hBw ok
    show Calls _ _ _ _ (DoesPost w p X ((s.append nm bs).1, (s.append nm bs).2))
    unfold DoesPost
    go_enter Try.func23, Try.ntmps23
    go_wp2_with fail
    refine HC.out.mono ?_
    rintro e w2 ⟨rfl, hs⟩
    have HS := Aside0.mk hs
    clear hs
    go_wp2_with fail
    refine (num_calls _ _).mono ?_
    rintro e w4 ⟨rfl, ⟨⟨nd, rfl⟩⟩⟩
    go_wp2
    go_ret
    exact ⟨rfl, (PStep.early H.out HB.out HS.out).then_below (by repeat (with_reducible first | exact Below.refl _ _ | apply below_drew | apply pw_below_drewN))⟩
  by_cases h2 : kd = 2
  · subst h2
    have hbox := below_alloc (Below.refl w.heap.size w) (.cells #[.int .i64 2, .int .i64 wh, .string nm, .int .i64 n, .int .i64 af, .slice A5 bs.length c5, .slice A6 ks.length c6] 41)
    have hg := heap_alloc_new w (.cells #[.int .i64 2, .int .i64 wh, .string nm, .int .i64 n, .int .i64 af, .slice A5 bs.length c5, .slice A6 ks.length c6] 41)
    have hsz : B ≤ (w.alloc (.cells #[.int .i64 2, .int .i64 wh, .string nm, .int .i64 n, .int .i64 af, .slice A5 bs.length c5, .slice A6 ks.length c6] 41)).heap.size := by rw [World.size_alloc']; omega
    have h1 := h.below hbox
    have hin1 := hin.below (hbox.mono hBw)
    have hst : Stays X (w.alloc (.cells #[.int .i64 2, .int .i64 wh, .string nm, .int .i64 n, .int .i64 af, .slice A5 bs.length c5, .slice A6 ks.length c6] 41)) A5 bs ∧ StaysI X (w.alloc (.cells #[.int .i64 2, .int .i64 wh, .string nm, .int .i64 n, .int .i64 af, .slice A5 bs.length c5, .slice A6 ks.length c6] 41)) A6 ks := ⟨fun w' hu => hin1.r5 w' (hu.below hsz hX), fun w' hu => hin1.r6 w' (hu.below hsz hX)⟩
    have HC := Aside0.mk (sync_calls (w.alloc (.cells #[.int .i64 2, .int .i64 wh, .string nm, .int .i64 n, .int .i64 af, .slice A5 bs.length c5, .slice A6 ks.length c6] 41)) p X s nm h1 ok)
    have HB := Aside0.mk hbox
    have H := Aside0.mk h
    have g0 := blk_cell hg 0
    have g1 := blk_cell hg 1
    have g2 := blk_cell hg 2
    have g3 := blk_cell hg 3
    have g4 := blk_cell hg 4
    have g5 := blk_cell hg 5
    have g6 := blk_cell hg 6
    have fg0 := blk_frozen hg 0
    have fg1 := blk_frozen hg 1
    have fg2 := blk_frozen hg 2
    have fg3 := blk_frozen hg 3
    have fg4 := blk_frozen hg 4
    have fg5 := blk_frozen hg 5
    have fg6 := blk_frozen hg 6
    simp only [List.getElem?_toArray, List.getElem?_cons_succ, List.getElem?_cons_zero] at g0 g1 g2 g3 g4 g5 g6
    clear hg hbox h hin h1 hin1 hst hsz hX hBw ok
    show Calls _ _ _ _ (DoesPost w p X ((s.sync nm).1, (s.sync nm).2))
    unfold DoesPost
    go_enter Try.func23, Try.ntmps23
    go_wp2_with fail
    refine HC.out.mono ?_
    rintro e w2 ⟨rfl, hs⟩
    have HS := Aside0.mk hs
    clear hs
    go_wp2_with fail
    refine (num_calls _ _).mono ?_
    rintro e w4 ⟨rfl, ⟨⟨nd, rfl⟩⟩⟩
    go_wp2
    go_ret
    exact ⟨rfl, (PStep.early H.out HB.out HS.out).then_below (by repeat (with_reducible first | exact Below.refl _ _ | apply below_drew | apply pw_below_drewN))⟩
  by_cases h3 : kd = 3
  · subst h3
    have hbox := below_alloc (Below.refl w.heap.size w) (.cells #[.int .i64 3, .int .i64 wh, .string nm, .int .i64 n, .int .i64 af, .slice A5 bs.length c5, .slice A6 ks.length c6] 41)
    have hg := heap_alloc_new w (.cells #[.int .i64 3, .int .i64 wh, .string nm, .int .i64 n, .int .i64 af, .slice A5 bs.length c5, .slice A6 ks.length c6] 41)
    have hsz : B ≤ (w.alloc (.cells #[.int .i64 3, .int .i64 wh, .string nm, .int .i64 n, .int .i64 af, .slice A5 bs.length c5, .slice A6 ks.length c6] 41)).heap.size := by rw [World.size_alloc']; omega
    have h1 := h.below hbox
    have hin1 := hin.below (hbox.mono hBw)
    have hst : Stays X (w.alloc (.cells #[.int .i64 3, .int .i64 wh, .string nm, .int .i64 n, .int .i64 af, .slice A5 bs.length c5, .slice A6 ks.length c6] 41)) A5 bs ∧ StaysI X (w.alloc (.cells #[.int .i64 3, .int .i64 wh, .string nm, .int .i64 n, .int .i64 af, .slice A5 bs.length c5, .slice A6 ks.length c6] 41)) A6 ks := ⟨fun w' hu => hin1.r5 w' (hu.below hsz hX), fun w' hu => hin1.r6 w' (hu.below hsz hX)⟩
    have HC := Aside0.mk (trim_calls (w.alloc (.cells #[.int .i64 3, .int .i64 wh, .string nm, .int .i64 n, .int .i64 af, .slice A5 bs.length c5, .slice A6 ks.length c6] 41)) p X s nm n h1 ok)
    have HB := Aside0.mk hbox
    have H := Aside0.mk h
    have g0 := blk_cell hg 0
    have g1 := blk_cell hg 1
    have g2 := blk_cell hg 2
    have g3 := blk_cell hg 3
    have g4 := blk_cell hg 4
    have g5 := blk_cell hg 5
    have g6 := blk_cell hg 6
    have fg0 := blk_frozen hg 0
    have fg1 := blk_frozen hg 1
    have fg2 := blk_frozen hg 2
    have fg3 := blk_frozen hg 3
    have fg4 := blk_frozen hg 4
    have fg5 := blk_frozen hg 5
    have fg6 := blk_frozen hg 6
    simp only [List.getElem?_toArray, List.getElem?_cons_succ, List.getElem?_cons_zero] at g0 g1 g2 g3 g4 g5 g6
    clear hg hbox h hin h1 hin1 hst hsz hX hBw ok
    show Calls _ _ _ _ (DoesPost w p X ((s.trim nm n).1, (s.trim nm n).2))
    unfold DoesPost
    go_enter Try.func23, Try.ntmps23
    go_wp2_with fail
    refine HC.out.mono ?_
    rintro e w2 ⟨rfl, hs⟩
    have HS := Aside0.mk hs
    clear hs
    go_wp2_with fail
    refine (num_calls _ _).mono ?_
    rintro e w4 ⟨rfl, ⟨⟨nd, rfl⟩⟩⟩
    go_wp2
    go_ret
    exact ⟨rfl, (PStep.early H.out HB.out HS.out).then_below (by repeat (with_reducible first | exact Below.refl _ _ | apply below_drew | apply pw_below_drewN))⟩
  by_cases h4 : kd = 4
  · subst h4
    have hbox := below_alloc (Below.refl w.heap.size w) (.cells #[.int .i64 4, .int .i64 wh, .string nm, .int .i64 n, .int .i64 af, .slice A5 bs.length c5, .slice A6 ks.length c6] 41)
    have hg := heap_alloc_new w (.cells #[.int .i64 4, .int .i64 wh, .string nm, .int .i64 n, .int .i64 af, .slice A5 bs.length c5, .slice A6 ks.length c6] 41)
    have hsz : B ≤ (w.alloc (.cells #[.int .i64 4, .int .i64 wh, .string nm, .int .i64 n, .int .i64 af, .slice A5 bs.length c5, .slice A6 ks.length c6] 41)).heap.size := by rw [World.size_alloc']; omega
    have h1 := h.below hbox
    have hin1 := hin.below (hbox.mono hBw)
    have hst : Stays X (w.alloc (.cells #[.int .i64 4, .int .i64 wh, .string nm, .int .i64 n, .int .i64 af, .slice A5 bs.length c5, .slice A6 ks.length c6] 41)) A5 bs ∧ StaysI X (w.alloc (.cells #[.int .i64 4, .int .i64 wh, .string nm, .int .i64 n, .int .i64 af, .slice A5 bs.length c5, .slice A6 ks.length c6] 41)) A6 ks := ⟨fun w' hu => hin1.r5 w' (hu.below hsz hX), fun w' hu => hin1.r6 w' (hu.below hsz hX)⟩
    have HC := Aside0.mk (remove_calls (w.alloc (.cells #[.int .i64 4, .int .i64 wh, .string nm, .int .i64 n, .int .i64 af, .slice A5 bs.length c5, .slice A6 ks.length c6] 41)) p X s nm h1 ok)
    have HB := Aside0.mk hbox
    have H := Aside0.mk h
    have g0 := blk_cell hg 0
    have g1 := blk_cell hg 1
    have g2 := blk_cell hg 2
    have g3 := blk_cell hg 3
    have g4 := blk_cell hg 4
    have g5 := blk_cell hg 5
    have g6 := blk_cell hg 6
    have fg0 := blk_frozen hg 0
    have fg1 := blk_frozen hg 1
    have fg2 := blk_frozen hg 2
    have fg3 := blk_frozen hg 3
    have fg4 := blk_frozen hg 4
    have fg5 := blk_frozen hg 5
    have fg6 := blk_frozen hg 6
    simp only [List.getElem?_toArray, List.getElem?_cons_succ, List.getElem?_cons_zero] at g0 g1 g2 g3 g4 g5 g6
    clear hg hbox h hin h1 hin1 hst hsz hX hBw ok
    show Calls _ _ _ _ (DoesPost w p X ((s.remove nm).1, (s.remove nm).2))
    unfold DoesPost
    go_enter Try.func23, Try.ntmps23
    go_wp2_with fail
    refine HC.out.mono ?_
    rintro e w2 ⟨rfl, hs⟩
    have HS := Aside0.mk hs
    clear hs
    go_wp2_with fail
    refine (num_calls _ _).mono ?_
    rintro e w4 ⟨rfl, ⟨⟨nd, rfl⟩⟩⟩
    go_wp2
    go_ret
    exact ⟨rfl, (PStep.early H.out HB.out HS.out).then_below (by repeat (with_reducible first | exact Below.refl _ _ | apply below_drew | apply pw_below_drewN))⟩
  by_cases h5 : kd = 5
  · subst h5
    have hbox := below_alloc (Below.refl w.heap.size w) (.cells #[.int .i64 5, .int .i64 wh, .string nm, .int .i64 n, .int .i64 af, .slice A5 bs.length c5, .slice A6 ks.length c6] 41)
    have hg := heap_alloc_new w (.cells #[.int .i64 5, .int .i64 wh, .string nm, .int .i64 n, .int .i64 af, .slice A5 bs.length c5, .slice A6 ks.length c6] 41)
    have hsz : B ≤ (w.alloc (.cells #[.int .i64 5, .int .i64 wh, .string nm, .int .i64 n, .int .i64 af, .slice A5 bs.length c5, .slice A6 ks.length c6] 41)).heap.size := by rw [World.size_alloc']; omega
    have h1 := h.below hbox
    have hin1 := hin.below (hbox.mono hBw)
    have hst : Stays X (w.alloc (.cells #[.int .i64 5, .int .i64 wh, .string nm, .int .i64 n, .int .i64 af, .slice A5 bs.length c5, .slice A6 ks.length c6] 41)) A5 bs ∧ StaysI X (w.alloc (.cells #[.int .i64 5, .int .i64 wh, .string nm, .int .i64 n, .int .i64 af, .slice A5 bs.length c5, .slice A6 ks.length c6] 41)) A6 ks := ⟨fun w' hu => hin1.r5 w' (hu.below hsz hX), fun w' hu => hin1.r6 w' (hu.below hsz hX)⟩
    have HC := Aside0.mk (read_calls (w.alloc (.cells #[.int .i64 5, .int .i64 wh, .string nm, .int .i64 n, .int .i64 af, .slice A5 bs.length c5, .slice A6 ks.length c6] 41)) p X s nm h1 ok)
    have HB := Aside0.mk hbox
    have H := Aside0.mk h
    have g0 := blk_cell hg 0
    have g1 := blk_cell hg 1
    have g2 := blk_cell hg 2
    have g3 := blk_cell hg 3
    have g4 := blk_cell hg 4
    have g5 := blk_cell hg 5
    have g6 := blk_cell hg 6
    have fg0 := blk_frozen hg 0
    have fg1 := blk_frozen hg 1
    have fg2 := blk_frozen hg 2
    have fg3 := blk_frozen hg 3
    have fg4 := blk_frozen hg 4
    have fg5 := blk_frozen hg 5
    have fg6 := blk_frozen hg 6
    simp only [List.getElem?_toArray, List.getElem?_cons_succ, List.getElem?_cons_zero] at g0 g1 g2 g3 g4 g5 g6
    clear hg hbox h hin h1 hin1 hst hsz hX hBw ok
    show Calls _ _ _ _ (DoesPost w p X (s, (s.read nm).2))
    unfold DoesPost
    go_enter Try.func23, Try.ntmps23
    go_wp2_with fail
    refine HC.out.mono ?_
    rintro e w2 ⟨v, rfl, r2, b2⟩
    have B2 := Aside0.mk b2
    obtain ⟨A9, c9, rfl, _, _⟩ := Kd.R_reads r2
    clear r2 b2
    go_wp2_with fail
    refine (num_calls _ _).mono ?_
    rintro e w4 ⟨rfl, ⟨⟨nd, rfl⟩⟩⟩
    go_wp2
    go_ret
    exact ⟨rfl, PStep.then_below (PStep.early H.out HB.out (PStep.below (H.out.below HB.out) B2.out)) (by repeat (with_reducible first | exact Below.refl _ _ | apply below_drew | apply pw_below_drewN))⟩
  by_cases h6 : kd = 6
  · subst h6
    have hbox := below_alloc (Below.refl w.heap.size w) (.cells #[.int .i64 6, .int .i64 wh, .string nm, .int .i64 n, .int .i64 af, .slice A5 bs.length c5, .slice A6 ks.length c6] 41)
    have hg := heap_alloc_new w (.cells #[.int .i64 6, .int .i64 wh, .string nm, .int .i64 n, .int .i64 af, .slice A5 bs.length c5, .slice A6 ks.length c6] 41)
    have hsz : B ≤ (w.alloc (.cells #[.int .i64 6, .int .i64 wh, .string nm, .int .i64 n, .int .i64 af, .slice A5 bs.length c5, .slice A6 ks.length c6] 41)).heap.size := by rw [World.size_alloc']; omega
    have h1 := h.below hbox
    have hin1 := hin.below (hbox.mono hBw)
    have hst : Stays X (w.alloc (.cells #[.int .i64 6, .int .i64 wh, .string nm, .int .i64 n, .int .i64 af, .slice A5 bs.length c5, .slice A6 ks.length c6] 41)) A5 bs ∧ StaysI X (w.alloc (.cells #[.int .i64 6, .int .i64 wh, .string nm, .int .i64 n, .int .i64 af, .slice A5 bs.length c5, .slice A6 ks.length c6] 41)) A6 ks := ⟨fun w' hu => hin1.r5 w' (hu.below hsz hX), fun w' hu => hin1.r6 w' (hu.below hsz hX)⟩
    have HC := Aside0.mk (list_calls (w.alloc (.cells #[.int .i64 6, .int .i64 wh, .string nm, .int .i64 n, .int .i64 af, .slice A5 bs.length c5, .slice A6 ks.length c6] 41)) p X s h1 ok)
    have HB := Aside0.mk hbox
    have H := Aside0.mk h
    have g0 := blk_cell hg 0
    have g1 := blk_cell hg 1
    have g2 := blk_cell hg 2
    have g3 := blk_cell hg 3
    have g4 := blk_cell hg 4
    have g5 := blk_cell hg 5
    have g6 := blk_cell hg 6
    have fg0 := blk_frozen hg 0
    have fg1 := blk_frozen hg 1
    have fg2 := blk_frozen hg 2
    have fg3 := blk_frozen hg 3
    have fg4 := blk_frozen hg 4
    have fg5 := blk_frozen hg 5
    have fg6 := blk_frozen hg 6
    simp only [List.getElem?_toArray, List.getElem?_cons_succ, List.getElem?_cons_zero] at g0 g1 g2 g3 g4 g5 g6
    clear hg hbox h hin h1 hin1 hst hsz hX hBw ok
    show Calls _ _ _ _ (DoesPost w p X (s, s.list.2))
    unfold DoesPost
    go_enter Try.func23, Try.ntmps23
    go_wp2_with fail
    refine HC.out.mono ?_
    rintro e w2 ⟨v, rfl, r2, b2⟩
    have B2 := Aside0.mk b2
    obtain ⟨A9, c9, rfl, _, _⟩ := Kd.R_reads r2
    clear r2 b2
    go_wp2_with fail
    refine (num_calls _ _).mono ?_
    rintro e w4 ⟨rfl, ⟨⟨nd, rfl⟩⟩⟩
    go_wp2
    go_ret
    exact ⟨rfl, PStep.then_below (PStep.early H.out HB.out (PStep.below (H.out.below HB.out) B2.out)) (by repeat (with_reducible first | exact Below.refl _ _ | apply below_drew | apply pw_below_drewN))⟩
  by_cases h7 : kd = 7
  · subst h7
    have hbox := below_alloc (Below.refl w.heap.size w) (.cells #[.int .i64 7, .int .i64 wh, .string nm, .int .i64 n, .int .i64 af, .slice A5 bs.length c5, .slice A6 ks.length c6] 41)
    have hg := heap_alloc_new w (.cells #[.int .i64 7, .int .i64 wh, .string nm, .int .i64 n, .int .i64 af, .slice A5 bs.length c5, .slice A6 ks.length c6] 41)
    have hsz : B ≤ (w.alloc (.cells #[.int .i64 7, .int .i64 wh, .string nm, .int .i64 n, .int .i64 af, .slice A5 bs.length c5, .slice A6 ks.length c6] 41)).heap.size := by rw [World.size_alloc']; omega
    have h1 := h.below hbox
    have hin1 := hin.below (hbox.mono hBw)
    have hst : Stays X (w.alloc (.cells #[.int .i64 7, .int .i64 wh, .string nm, .int .i64 n, .int .i64 af, .slice A5 bs.length c5, .slice A6 ks.length c6] 41)) A5 bs ∧ StaysI X (w.alloc (.cells #[.int .i64 7, .int .i64 wh, .string nm, .int .i64 n, .int .i64 af, .slice A5 bs.length c5, .slice A6 ks.length c6] 41)) A6 ks := ⟨fun w' hu => hin1.r5 w' (hu.below hsz hX), fun w' hu => hin1.r6 w' (hu.below hsz hX)⟩
    have HC := Aside0.mk (arm_calls (w.alloc (.cells #[.int .i64 7, .int .i64 wh, .string nm, .int .i64 n, .int .i64 af, .slice A5 bs.length c5, .slice A6 ks.length c6] 41)) p X s n h1)
    have HB := Aside0.mk hbox
    have H := Aside0.mk h
    have g0 := blk_cell hg 0
    have g1 := blk_cell hg 1
    have g2 := blk_cell hg 2
    have g3 := blk_cell hg 3
    have g4 := blk_cell hg 4
    have g5 := blk_cell hg 5
    have g6 := blk_cell hg 6
    have fg0 := blk_frozen hg 0
    have fg1 := blk_frozen hg 1
    have fg2 := blk_frozen hg 2
    have fg3 := blk_frozen hg 3
    have fg4 := blk_frozen hg 4
    have fg5 := blk_frozen hg 5
    have fg6 := blk_frozen hg 6
    simp only [List.getElem?_toArray, List.getElem?_cons_succ, List.getElem?_cons_zero] at g0 g1 g2 g3 g4 g5 g6
    clear hg hbox h hin h1 hin1 hst hsz hX hBw ok
    show Calls _ _ _ _ (DoesPost w p X (s.arm n, 0))
    unfold DoesPost
    go_enter Try.func23, Try.ntmps23
    go_wp2_with fail
    refine HC.out.mono ?_
    rintro e w2 ⟨rfl, hs⟩
    have HS := Aside0.mk hs
    clear hs
    go_wp2
    go_ret
    exact ⟨rfl, (PStep.early H.out HB.out HS.out).then_below (by repeat (with_reducible first | exact Below.refl _ _ | apply below_drew | apply pw_below_drewN))⟩
  by_cases h8 : kd = 8
  · subst h8
    have hbox := below_alloc (Below.refl w.heap.size w) (.cells #[.int .i64 8, .int .i64 wh, .string nm, .int .i64 n, .int .i64 af, .slice A5 bs.length c5, .slice A6 ks.length c6] 41)
    have hg := heap_alloc_new w (.cells #[.int .i64 8, .int .i64 wh, .string nm, .int .i64 n, .int .i64 af, .slice A5 bs.length c5, .slice A6 ks.length c6] 41)
    have hsz : B ≤ (w.alloc (.cells #[.int .i64 8, .int .i64 wh, .string nm, .int .i64 n, .int .i64 af, .slice A5 bs.length c5, .slice A6 ks.length c6] 41)).heap.size := by rw [World.size_alloc']; omega
    have h1 := h.below hbox
    have hin1 := hin.below (hbox.mono hBw)
    have hst : Stays X (w.alloc (.cells #[.int .i64 8, .int .i64 wh, .string nm, .int .i64 n, .int .i64 af, .slice A5 bs.length c5, .slice A6 ks.length c6] 41)) A5 bs ∧ StaysI X (w.alloc (.cells #[.int .i64 8, .int .i64 wh, .string nm, .int .i64 n, .int .i64 af, .slice A5 bs.length c5, .slice A6 ks.length c6] 41)) A6 ks := ⟨fun w' hu => hin1.r5 w' (hu.below hsz hX), fun w' hu => hin1.r6 w' (hu.below hsz hX)⟩
    have HC := Aside0.mk (fail_calls (w.alloc (.cells #[.int .i64 8, .int .i64 wh, .string nm, .int .i64 n, .int .i64 af, .slice A5 bs.length c5, .slice A6 ks.length c6] 41)) p X s af n h1)
    have HB := Aside0.mk hbox
    have H := Aside0.mk h
    have g0 := blk_cell hg 0
    have g1 := blk_cell hg 1
    have g2 := blk_cell hg 2
    have g3 := blk_cell hg 3
    have g4 := blk_cell hg 4
    have g5 := blk_cell hg 5
    have g6 := blk_cell hg 6
    have fg0 := blk_frozen hg 0
    have fg1 := blk_frozen hg 1
    have fg2 := blk_frozen hg 2
    have fg3 := blk_frozen hg 3
    have fg4 := blk_frozen hg 4
    have fg5 := blk_frozen hg 5
    have fg6 := blk_frozen hg 6
    simp only [List.getElem?_toArray, List.getElem?_cons_succ, List.getElem?_cons_zero] at g0 g1 g2 g3 g4 g5 g6
    clear hg hbox h hin h1 hin1 hst hsz hX hBw ok
    show Calls _ _ _ _ (DoesPost w p X (s.fail af n, 0))
    unfold DoesPost
    go_enter Try.func23, Try.ntmps23
    go_wp2_with fail
    refine HC.out.mono ?_
    rintro e w2 ⟨rfl, hs⟩
    have HS := Aside0.mk hs
    clear hs
    go_wp2
    go_ret
    exact ⟨rfl, (PStep.early H.out HB.out HS.out).then_below (by repeat (with_reducible first | exact Below.refl _ _ | apply below_drew | apply pw_below_drewN))⟩
  by_cases h9 : kd = 9
  · subst h9
    have hbox := below_alloc (Below.refl w.heap.size w) (.cells #[.int .i64 9, .int .i64 wh, .string nm, .int .i64 n, .int .i64 af, .slice A5 bs.length c5, .slice A6 ks.length c6] 41)
    have hg := heap_alloc_new w (.cells #[.int .i64 9, .int .i64 wh, .string nm, .int .i64 n, .int .i64 af, .slice A5 bs.length c5, .slice A6 ks.length c6] 41)
    have hsz : B ≤ (w.alloc (.cells #[.int .i64 9, .int .i64 wh, .string nm, .int .i64 n, .int .i64 af, .slice A5 bs.length c5, .slice A6 ks.length c6] 41)).heap.size := by rw [World.size_alloc']; omega
    have h1 := h.below hbox
    have hin1 := hin.below (hbox.mono hBw)
    have hst : Stays X (w.alloc (.cells #[.int .i64 9, .int .i64 wh, .string nm, .int .i64 n, .int .i64 af, .slice A5 bs.length c5, .slice A6 ks.length c6] 41)) A5 bs ∧ StaysI X (w.alloc (.cells #[.int .i64 9, .int .i64 wh, .string nm, .int .i64 n, .int .i64 af, .slice A5 bs.length c5, .slice A6 ks.length c6] 41)) A6 ks := ⟨fun w' hu => hin1.r5 w' (hu.below hsz hX), fun w' hu => hin1.r6 w' (hu.below hsz hX)⟩
    have HC := Aside0.mk (crash_calls (w.alloc (.cells #[.int .i64 9, .int .i64 wh, .string nm, .int .i64 n, .int .i64 af, .slice A5 bs.length c5, .slice A6 ks.length c6] 41)) p X s h1)
    have HB := Aside0.mk hbox
    have H := Aside0.mk h
    have g0 := blk_cell hg 0
    have g1 := blk_cell hg 1
    have g2 := blk_cell hg 2
    have g3 := blk_cell hg 3
    have g4 := blk_cell hg 4
    have g5 := blk_cell hg 5
    have g6 := blk_cell hg 6
    have fg0 := blk_frozen hg 0
    have fg1 := blk_frozen hg 1
    have fg2 := blk_frozen hg 2
    have fg3 := blk_frozen hg 3
    have fg4 := blk_frozen hg 4
    have fg5 := blk_frozen hg 5
    have fg6 := blk_frozen hg 6
    simp only [List.getElem?_toArray, List.getElem?_cons_succ, List.getElem?_cons_zero] at g0 g1 g2 g3 g4 g5 g6
    clear hg hbox h hin h1 hin1 hst hsz hX hBw ok
    show Calls _ _ _ _ (DoesPost w p X (s.fall, 0))
    unfold DoesPost
    go_enter Try.func23, Try.ntmps23
    go_wp2_with fail
    refine HC.out.mono ?_
    rintro e w2 ⟨rfl, hs⟩
    have HS := Aside0.mk hs
    clear hs
    go_wp2
    go_ret
    exact ⟨rfl, (PStep.early H.out HB.out HS.out).then_below (by repeat (with_reducible first | exact Below.refl _ _ | apply below_drew | apply pw_below_drewN))⟩
  by_cases h10 : kd = 10
  · subst h10
    have hbox := below_alloc (Below.refl w.heap.size w) (.cells #[.int .i64 10, .int .i64 wh, .string nm, .int .i64 n, .int .i64 af, .slice A5 bs.length c5, .slice A6 ks.length c6] 41)
    have hg := heap_alloc_new w (.cells #[.int .i64 10, .int .i64 wh, .string nm, .int .i64 n, .int .i64 af, .slice A5 bs.length c5, .slice A6 ks.length c6] 41)
    have hsz : B ≤ (w.alloc (.cells #[.int .i64 10, .int .i64 wh, .string nm, .int .i64 n, .int .i64 af, .slice A5 bs.length c5, .slice A6 ks.length c6] 41)).heap.size := by rw [World.size_alloc']; omega
    have h1 := h.below hbox
    have hin1 := hin.below (hbox.mono hBw)
    have hst : Stays X (w.alloc (.cells #[.int .i64 10, .int .i64 wh, .string nm, .int .i64 n, .int .i64 af, .slice A5 bs.length c5, .slice A6 ks.length c6] 41)) A5 bs ∧ StaysI X (w.alloc (.cells #[.int .i64 10, .int .i64 wh, .string nm, .int .i64 n, .int .i64 af, .slice A5 bs.length c5, .slice A6 ks.length c6] 41)) A6 ks := ⟨fun w' hu => hin1.r5 w' (hu.below hsz hX), fun w' hu => hin1.r6 w' (hu.below hsz hX)⟩
    have HC := Aside0.mk (restart_calls (w.alloc (.cells #[.int .i64 10, .int .i64 wh, .string nm, .int .i64 n, .int .i64 af, .slice A5 bs.length c5, .slice A6 ks.length c6] 41)) p X s A6 c6 ks h1 ok hst.2)
    have HB := Aside0.mk hbox
    have H := Aside0.mk h
    have g0 := blk_cell hg 0
    have g1 := blk_cell hg 1
    have g2 := blk_cell hg 2
    have g3 := blk_cell hg 3
    have g4 := blk_cell hg 4
    have g5 := blk_cell hg 5
    have g6 := blk_cell hg 6
    have fg0 := blk_frozen hg 0
    have fg1 := blk_frozen hg 1
    have fg2 := blk_frozen hg 2
    have fg3 := blk_frozen hg 3
    have fg4 := blk_frozen hg 4
    have fg5 := blk_frozen hg 5
    have fg6 := blk_frozen hg 6
    simp only [List.getElem?_toArray, List.getElem?_cons_succ, List.getElem?_cons_zero] at g0 g1 g2 g3 g4 g5 g6
    clear hg hbox h hin h1 hin1 hst hsz hX hBw ok
    show Calls _ _ _ _ (DoesPost w p X (s.restart ks, 0))
    unfold DoesPost
    go_enter Try.func23, Try.ntmps23
    go_wp2_with fail
    refine HC.out.mono ?_
    rintro e w2 ⟨rfl, hs⟩
    have HS := Aside0.mk hs
    clear hs
    go_wp2
    go_ret
    exact ⟨rfl, (PStep.early H.out HB.out HS.out).then_below (by repeat (with_reducible first | exact Below.refl _ _ | apply below_drew | apply pw_below_drewN))⟩
  by_cases h11 : kd = 11
  · subst h11
    have hbox := below_alloc (Below.refl w.heap.size w) (.cells #[.int .i64 11, .int .i64 wh, .string nm, .int .i64 n, .int .i64 af, .slice A5 bs.length c5, .slice A6 ks.length c6] 41)
    have hg := heap_alloc_new w (.cells #[.int .i64 11, .int .i64 wh, .string nm, .int .i64 n, .int .i64 af, .slice A5 bs.length c5, .slice A6 ks.length c6] 41)
    have hsz : B ≤ (w.alloc (.cells #[.int .i64 11, .int .i64 wh, .string nm, .int .i64 n, .int .i64 af, .slice A5 bs.length c5, .slice A6 ks.length c6] 41)).heap.size := by rw [World.size_alloc']; omega
    have h1 := h.below hbox
    have hin1 := hin.below (hbox.mono hBw)
    have hst : Stays X (w.alloc (.cells #[.int .i64 11, .int .i64 wh, .string nm, .int .i64 n, .int .i64 af, .slice A5 bs.length c5, .slice A6 ks.length c6] 41)) A5 bs ∧ StaysI X (w.alloc (.cells #[.int .i64 11, .int .i64 wh, .string nm, .int .i64 n, .int .i64 af, .slice A5 bs.length c5, .slice A6 ks.length c6] 41)) A6 ks := ⟨fun w' hu => hin1.r5 w' (hu.below hsz hX), fun w' hu => hin1.r6 w' (hu.below hsz hX)⟩
    have HC := Aside0.mk (spoil_calls (w.alloc (.cells #[.int .i64 11, .int .i64 wh, .string nm, .int .i64 n, .int .i64 af, .slice A5 bs.length c5, .slice A6 ks.length c6] 41)) p X s nm n hn h1 ok)
    have HB := Aside0.mk hbox
    have H := Aside0.mk h
    have g0 := blk_cell hg 0
    have g1 := blk_cell hg 1
    have g2 := blk_cell hg 2
    have g3 := blk_cell hg 3
    have g4 := blk_cell hg 4
    have g5 := blk_cell hg 5
    have g6 := blk_cell hg 6
    have fg0 := blk_frozen hg 0
    have fg1 := blk_frozen hg 1
    have fg2 := blk_frozen hg 2
    have fg3 := blk_frozen hg 3
    have fg4 := blk_frozen hg 4
    have fg5 := blk_frozen hg 5
    have fg6 := blk_frozen hg 6
    simp only [List.getElem?_toArray, List.getElem?_cons_succ, List.getElem?_cons_zero] at g0 g1 g2 g3 g4 g5 g6
    clear hg hbox h hin h1 hin1 hst hsz hX hBw ok
    show Calls _ _ _ _ (DoesPost w p X ((s.spoil nm n).1, if (s.spoil nm n).2 = true then 1 else 0))
    unfold DoesPost
    cases hq : (s.spoil nm n).2 with
    | false =>
      rw [hq] at HC
      go_enter Try.func23, Try.ntmps23
      go_wp2_with fail
      refine HC.out.mono ?_
      rintro e w2 ⟨rfl, hs⟩
      have HS := Aside0.mk hs
      clear hs
      go_wp2
      go_ret
      exact ⟨rfl, (PStep.early H.out HB.out HS.out).then_below (by repeat (with_reducible first | exact Below.refl _ _ | apply below_drew | apply pw_below_drewN))⟩
    | true =>
      rw [hq] at HC
      go_enter Try.func23, Try.ntmps23
      go_wp2_with fail
      refine HC.out.mono ?_
      rintro e w2 ⟨rfl, hs⟩
      have HS := Aside0.mk hs
      clear hs
      go_wp2
      go_ret
      exact ⟨rfl, (PStep.early H.out HB.out HS.out).then_below (by repeat (with_reducible first | exact Below.refl _ _ | apply below_drew | apply pw_below_drewN))⟩
  have b1 := beq_eq_false_iff_ne.2 h1
  have b2 := beq_eq_false_iff_ne.2 h2
  have b3 := beq_eq_false_iff_ne.2 h3
  have b4 := beq_eq_false_iff_ne.2 h4
  have b5 := beq_eq_false_iff_ne.2 h5
  have b6 := beq_eq_false_iff_ne.2 h6
  have b7 := beq_eq_false_iff_ne.2 h7
  have b8 := beq_eq_false_iff_ne.2 h8
  have b9 := beq_eq_false_iff_ne.2 h9
  have b10 := beq_eq_false_iff_ne.2 h10
  have b11 := beq_eq_false_iff_ne.2 h11
  have hbox := below_alloc (Below.refl w.heap.size w) (.cells #[.int .i64 kd, .int .i64 wh, .string nm, .int .i64 n, .int .i64 af, .slice A5 bs.length c5, .slice A6 ks.length c6] 41)
  have hg := heap_alloc_new w (.cells #[.int .i64 kd, .int .i64 wh, .string nm, .int .i64 n, .int .i64 af, .slice A5 bs.length c5, .slice A6 ks.length c6] 41)
  have hsz : B ≤ (w.alloc (.cells #[.int .i64 kd, .int .i64 wh, .string nm, .int .i64 n, .int .i64 af, .slice A5 bs.length c5, .slice A6 ks.length c6] 41)).heap.size := by rw [World.size_alloc']; omega
  have h1 := h.below hbox
  have hin1 := hin.below (hbox.mono hBw)
  have hst : Stays X (w.alloc (.cells #[.int .i64 kd, .int .i64 wh, .string nm, .int .i64 n, .int .i64 af, .slice A5 bs.length c5, .slice A6 ks.length c6] 41)) A5 bs ∧ StaysI X (w.alloc (.cells #[.int .i64 kd, .int .i64 wh, .string nm, .int .i64 n, .int .i64 af, .slice A5 bs.length c5, .slice A6 ks.length c6] 41)) A6 ks := ⟨fun w' hu => hin1.r5 w' (hu.below hsz hX), fun w' hu => hin1.r6 w' (hu.below hsz hX)⟩
  have HB := Aside0.mk hbox
  have H := Aside0.mk h
  have g0 := blk_cell hg 0
  have g1 := blk_cell hg 1
  have g2 := blk_cell hg 2
  have g3 := blk_cell hg 3
  have g4 := blk_cell hg 4
  have g5 := blk_cell hg 5
  have g6 := blk_cell hg 6
  have fg0 := blk_frozen hg 0
  have fg1 := blk_frozen hg 1
  have fg2 := blk_frozen hg 2
  have fg3 := blk_frozen hg 3
  have fg4 := blk_frozen hg 4
  have fg5 := blk_frozen hg 5
  have fg6 := blk_frozen hg 6
  simp only [List.getElem?_toArray, List.getElem?_cons_succ, List.getElem?_cons_zero] at g0 g1 g2 g3 g4 g5 g6
  clear hg hbox h hin h1 hin1 hst hsz hX hBw ok
  rw [show s.op ⟨kd, wh, nm, n, af, bs, ks⟩ = (s, 0) by simp only [St.op, if_neg h1, if_neg h2, if_neg h3, if_neg h4, if_neg h5, if_neg h6, if_neg h7, if_neg h8, if_neg h9, if_neg h10, if_neg h11]]
  unfold DoesPost
  go_enter Try.func23, Try.ntmps23
  go_wp2
  go_ret
  exact ⟨rfl, PStep.below H.out (HB.out.trans (Below.mono (B := (w.alloc (.cells #[.int .i64 kd, .int .i64 wh, .string nm, .int .i64 n, .int .i64 af, .slice A5 bs.length c5, .slice A6 ks.length c6] 41)).heap.size) (by repeat (with_reducible first | exact Below.refl _ _ | apply below_drew | apply pw_below_drewN)) HB.out.size))⟩
end Go.Proofs.Ytfholpajdkjbbaa.DK
