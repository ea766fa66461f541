/- The law's pair of disks behind one call: plays; conditions: those in each theorem. -/
import Derived.Test.YtfholpajdkjbbaaQeLf
namespace Go.Proofs.Ytfholpajdkjbbaa.DK
open Go.Proofs.Ytfholpajdkjbbaa.PD
open Go.RowKit Go.Proofs.YtfholpajdkjbbaaW.PrintWords Go.Proofs.YtfholpajdkjbbaaW.PrintLast Go.Proofs.YtfholpajdkjbbaaW.PrintMore Go.Proofs.Ytfholpajdkjbbaa.Mo
set_option linter.unusedVariables false
set_option linter.unusedSimpArgs false
theorem Pair.mono {w : World} {b : Nat} {Y Z : Nat → Prop} {s : St} (h : Pair w b Z s) (hy : ∀ k, Z k → Y k) (hb : ∀ k, Y k → k < w.heap.size) (hn : ¬ Y b) : Pair w b Y s := by
  obtain ⟨p1, p2, X1, X2, h1, h2, h3, h4, h5⟩ := h.disks
  exact ⟨hb, hn, p1, p2, X1, X2, h1, h2, h3, h4, fun k hk => hy k (h5 k hk)⟩
theorem PairStep.early {w w1 w' : World} {b : Nat} {Z : Nat → Prop} {s : St} (hs : PairStep b Z w1 w' s) (hb : Below w.heap.size w w1) (hlt : b < w.heap.size) (hz : ∀ k, Z k → k < w.heap.size) (hn : ¬ Z b) : PairStep b Z w w' s :=
  have hu : Upd Z w w' := (Upd.of_below hb Z).seq (hs.2.mono (fun _ _ h => .inl h))
  ⟨hs.1.mono (fun k hk => hk.elim .inl (fun h => .inr ⟨Nat.le_trans hb.size h.1, h.2⟩)) (fun k hk => hk.elim (fun h => Nat.lt_of_lt_of_le (hz k h) hu.size) (fun h => h.2)) (fun h => h.elim hn (fun h => absurd hlt (Nat.not_lt.2 h.1))), hu⟩
theorem PairStep.late {w w1 w' : World} {b : Nat} {Z : Nat → Prop} {s : St} (hs : PairStep b Z w w1 s) (hb : Below w1.heap.size w1 w') : PairStep b Z w w' s :=
  have h1 := hs.1.below hb
  ⟨h1.mono (fun k hk => hk.elim .inl (fun h => .inr ⟨h.1, Nat.lt_of_lt_of_le h.2 hb.size⟩)) (fun k hk => hk.elim (fun h => h1.bd k (.inl h)) (fun h => h.2)) (fun h => h.elim (fun h => h1.nb (.inl h)) (fun h => by
    have h2 := hs.1.lt
    by_cases h3 : b < w.heap.size
    · omega
    · exact h1.nb (.inr ⟨by omega, h2⟩))), hs.2.seq (Upd.of_below hb _)⟩
set_option maxHeartbeats 8000000 in
set_option maxRecDepth 100000 in
theorem plays_calls (w : World) (b B : Nat) (Z : Nat → Prop) (s : St) (o : S41) (A5 : Option Addr) (c5 : Nat) (A6 : Option Addr) (c6 : Nat) (h : Pair w b Z s) (ok : Ok s) (hBw : B ≤ w.heap.size) (hZ : ∀ k, Z k → B ≤ k) (hin : OpIn w B o.f5 A5 c5 o.f6 A6 c6) (g : Mo.Good o) (hks : o.f6.length ≤ 2 ^ 40) :
    Calls Try.prog 29 #[.pointer (some ⟨b, 0, none⟩), .agg #[.int .i64 o.f0, .int .i64 o.f1, .string o.f2, .int .i64 o.f3, .int .i64 o.f4, .slice A5 o.f5.length c5, .slice A6 o.f6.length c6]] w (LooksPost w b Z (s.op o).1) := by
  obtain ⟨kd, wh, nm, n, af, bs, ks⟩ := o
  obtain ⟨hn, ha, hlen⟩ := g
  dsimp only at hin hks hn ha hlen ⊢
  have hlt := h.lt
  have hzb := h.bd
  have hnb := h.nb
  by_cases h1 : kd = 1
  · subst h1
    have hbox := below_alloc (Below.refl w.heap.size w) (.cells #[.int .i64 1, .int .i64 wh, .string nm, .int .i64 n, .int .i64 af, .slice A5 bs.length c5, .slice A6 ks.length c6] 41)
    have hg := heap_alloc_new w (.cells #[.int .i64 1, .int .i64 wh, .string nm, .int .i64 n, .int .i64 af, .slice A5 bs.length c5, .slice A6 ks.length c6] 41)
    have hsz : B ≤ (w.alloc (.cells #[.int .i64 1, .int .i64 wh, .string nm, .int .i64 n, .int .i64 af, .slice A5 bs.length c5, .slice A6 ks.length c6] 41)).heap.size := by rw [World.size_alloc']; omega
    have HC := Aside0.mk (changes_append (w.alloc (.cells #[.int .i64 1, .int .i64 wh, .string nm, .int .i64 n, .int .i64 af, .slice A5 bs.length c5, .slice A6 ks.length c6] 41)) b B Z s wh nm n af bs ks A5 c5 A6 c6 (h.below hbox) ok hsz hZ (hin.below (hbox.mono hBw)) hlen hn)
    have HB := Aside0.mk hbox
    have g0 := blk_cell hg 0
    have g1 := blk_cell hg 1
    have g2 := blk_cell hg 2
    have g3 := blk_cell hg 3
    have g4 := blk_cell hg 4
    have g5 := blk_cell hg 5
    have g6 := blk_cell hg 6
    have fg0 := blk_frozen hg 0
    have fg1 := blk_frozen hg 1
    have fg2 := blk_frozen hg 2
    have fg3 := blk_frozen hg 3
    have fg4 := blk_frozen hg 4
    have fg5 := blk_frozen hg 5
    have fg6 := blk_frozen hg 6
    simp only [List.getElem?_toArray, List.getElem?_cons_succ, List.getElem?_cons_zero] at g0 g1 g2 g3 g4 g5 g6
    clear hg hbox h hin
    show Calls _ _ _ _ (LooksPost w b Z ((s.append nm bs).1))
    unfold ChangesPost at HC
    unfold LooksPost
    go_enter Try.func29, Try.ntmps29
    go_wp2_with fail
    refine HC.out.mono ?_
    rintro e w2 ⟨rfl, hs⟩
    have HS := Aside0.mk hs
    clear hs
    generalize (s.append nm bs).2 = q
    go_wp2
    go_ret
    exact ⟨by first | rfl | simp, (HS.out.early HB.out hlt hzb hnb).late (by repeat (with_reducible first | exact Below.refl _ _ | apply below_drew | apply pw_below_drewN))⟩
  by_cases h2 : kd = 2
  · subst h2
    have hbox := below_alloc (Below.refl w.heap.size w) (.cells #[.int .i64 2, .int .i64 wh, .string nm, .int .i64 n, .int .i64 af, .slice A5 bs.length c5, .slice A6 ks.length c6] 41)
    have hg := heap_alloc_new w (.cells #[.int .i64 2, .int .i64 wh, .string nm, .int .i64 n, .int .i64 af, .slice A5 bs.length c5, .slice A6 ks.length c6] 41)
    have hsz : B ≤ (w.alloc (.cells #[.int .i64 2, .int .i64 wh, .string nm, .int .i64 n, .int .i64 af, .slice A5 bs.length c5, .slice A6 ks.length c6] 41)).heap.size := by rw [World.size_alloc']; omega
    have HC := Aside0.mk (changes_sync (w.alloc (.cells #[.int .i64 2, .int .i64 wh, .string nm, .int .i64 n, .int .i64 af, .slice A5 bs.length c5, .slice A6 ks.length c6] 41)) b B Z s wh nm n af bs ks A5 c5 A6 c6 (h.below hbox) ok hsz hZ (hin.below (hbox.mono hBw)) hlen hn)
    have HB := Aside0.mk hbox
    have g0 := blk_cell hg 0
    have g1 := blk_cell hg 1
    have g2 := blk_cell hg 2
    have g3 := blk_cell hg 3
    have g4 := blk_cell hg 4
    have g5 := blk_cell hg 5
    have g6 := blk_cell hg 6
    have fg0 := blk_frozen hg 0
    have fg1 := blk_frozen hg 1
    have fg2 := blk_frozen hg 2
    have fg3 := blk_frozen hg 3
    have fg4 := blk_frozen hg 4
    have fg5 := blk_frozen hg 5
    have fg6 := blk_frozen hg 6
    simp only [List.getElem?_toArray, List.getElem?_cons_succ, List.getElem?_cons_zero] at g0 g1 g2 g3 g4 g5 g6
    clear hg hbox h hin
    show Calls _ _ _ _ (LooksPost w b Z ((s.sync nm).1))
    unfold ChangesPost at HC
    unfold LooksPost
    go_enter Try.func29, Try.ntmps29
    go_wp2_with fail
    refine HC.out.mono ?_
    rintro e w2 ⟨rfl, hs⟩
    have HS := Aside0.mk hs
    clear hs
    generalize (s.sync nm).2 = q
    go_wp2
    go_ret
    exact ⟨by first | rfl | simp, (HS.out.early HB.out hlt hzb hnb).late (by repeat (with_reducible first | exact Below.refl _ _ | apply below_drew | apply pw_below_drewN))⟩
  by_cases h3 : kd = 3
  · subst h3
    have hbox := below_alloc (Below.refl w.heap.size w) (.cells #[.int .i64 3, .int .i64 wh, .string nm, .int .i64 n, .int .i64 af, .slice A5 bs.length c5, .slice A6 ks.length c6] 41)
    have hg := heap_alloc_new w (.cells #[.int .i64 3, .int .i64 wh, .string nm, .int .i64 n, .int .i64 af, .slice A5 bs.length c5, .slice A6 ks.length c6] 41)
    have hsz : B ≤ (w.alloc (.cells #[.int .i64 3, .int .i64 wh, .string nm, .int .i64 n, .int .i64 af, .slice A5 bs.length c5, .slice A6 ks.length c6] 41)).heap.size := by rw [World.size_alloc']; omega
    have HC := Aside0.mk (changes_trim (w.alloc (.cells #[.int .i64 3, .int .i64 wh, .string nm, .int .i64 n, .int .i64 af, .slice A5 bs.length c5, .slice A6 ks.length c6] 41)) b B Z s wh nm n af bs ks A5 c5 A6 c6 (h.below hbox) ok hsz hZ (hin.below (hbox.mono hBw)) hlen hn)
    have HB := Aside0.mk hbox
    have g0 := blk_cell hg 0
    have g1 := blk_cell hg 1
    have g2 := blk_cell hg 2
    have g3 := blk_cell hg 3
    have g4 := blk_cell hg 4
    have g5 := blk_cell hg 5
    have g6 := blk_cell hg 6
    have fg0 := blk_frozen hg 0
    have fg1 := blk_frozen hg 1
    have fg2 := blk_frozen hg 2
    have fg3 := blk_frozen hg 3
    have fg4 := blk_frozen hg 4
    have fg5 := blk_frozen hg 5
    have fg6 := blk_frozen hg 6
    simp only [List.getElem?_toArray, List.getElem?_cons_succ, List.getElem?_cons_zero] at g0 g1 g2 g3 g4 g5 g6
    clear hg hbox h hin
    show Calls _ _ _ _ (LooksPost w b Z ((s.trim nm n).1))
    unfold ChangesPost at HC
    unfold LooksPost
    go_enter Try.func29, Try.ntmps29
    go_wp2_with fail
    refine HC.out.mono ?_
    rintro e w2 ⟨rfl, hs⟩
    have HS := Aside0.mk hs
    clear hs
    generalize (s.trim nm n).2 = q
    go_wp2
    go_ret
    exact ⟨by first | rfl | simp, (HS.out.early HB.out hlt hzb hnb).late (by repeat (with_reducible first | exact Below.refl _ _ | apply below_drew | apply pw_below_drewN))⟩
  by_cases h4 : kd = 4
  · subst h4
    have hbox := below_alloc (Below.refl w.heap.size w) (.cells #[.int .i64 4, .int .i64 wh, .string nm, .int .i64 n, .int .i64 af, .slice A5 bs.length c5, .slice A6 ks.length c6] 41)
    have hg := heap_alloc_new w (.cells #[.int .i64 4, .int .i64 wh, .string nm, .int .i64 n, .int .i64 af, .slice A5 bs.length c5, .slice A6 ks.length c6] 41)
    have hsz : B ≤ (w.alloc (.cells #[.int .i64 4, .int .i64 wh, .string nm, .int .i64 n, .int .i64 af, .slice A5 bs.length c5, .slice A6 ks.length c6] 41)).heap.size := by rw [World.size_alloc']; omega
    have HC := Aside0.mk (changes_remove (w.alloc (.cells #[.int .i64 4, .int .i64 wh, .string nm, .int .i64 n, .int .i64 af, .slice A5 bs.length c5, .slice A6 ks.length c6] 41)) b B Z s wh nm n af bs ks A5 c5 A6 c6 (h.below hbox) ok hsz hZ (hin.below (hbox.mono hBw)) hlen hn)
    have HB := Aside0.mk hbox
    have g0 := blk_cell hg 0
    have g1 := blk_cell hg 1
    have g2 := blk_cell hg 2
    have g3 := blk_cell hg 3
    have g4 := blk_cell hg 4
    have g5 := blk_cell hg 5
    have g6 := blk_cell hg 6
    have fg0 := blk_frozen hg 0
    have fg1 := blk_frozen hg 1
    have fg2 := blk_frozen hg 2
    have fg3 := blk_frozen hg 3
    have fg4 := blk_frozen hg 4
    have fg5 := blk_frozen hg 5
    have fg6 := blk_frozen hg 6
    simp only [List.getElem?_toArray, List.getElem?_cons_succ, List.getElem?_cons_zero] at g0 g1 g2 g3 g4 g5 g6
    clear hg hbox h hin
    show Calls _ _ _ _ (LooksPost w b Z ((s.remove nm).1))
    unfold ChangesPost at HC
    unfold LooksPost
    go_enter Try.func29, Try.ntmps29
    go_wp2_with fail
    refine HC.out.mono ?_
    rintro e w2 ⟨rfl, hs⟩
    have HS := Aside0.mk hs
    clear hs
    generalize (s.remove nm).2 = q
    go_wp2
    go_ret
    exact ⟨by first | rfl | simp, (HS.out.early HB.out hlt hzb hnb).late (by repeat (with_reducible first | exact Below.refl _ _ | apply below_drew | apply pw_below_drewN))⟩
  by_cases h5 : kd = 5
  · subst h5
    have hbox := below_alloc (Below.refl w.heap.size w) (.cells #[.int .i64 5, .int .i64 wh, .string nm, .int .i64 n, .int .i64 af, .slice A5 bs.length c5, .slice A6 ks.length c6] 41)
    have hg := heap_alloc_new w (.cells #[.int .i64 5, .int .i64 wh, .string nm, .int .i64 n, .int .i64 af, .slice A5 bs.length c5, .slice A6 ks.length c6] 41)
    have hsz : B ≤ (w.alloc (.cells #[.int .i64 5, .int .i64 wh, .string nm, .int .i64 n, .int .i64 af, .slice A5 bs.length c5, .slice A6 ks.length c6] 41)).heap.size := by rw [World.size_alloc']; omega
    have HC := Aside0.mk (looks_read (w.alloc (.cells #[.int .i64 5, .int .i64 wh, .string nm, .int .i64 n, .int .i64 af, .slice A5 bs.length c5, .slice A6 ks.length c6] 41)) b B Z s wh nm n af bs ks A5 c5 A6 c6 (h.below hbox) ok hsz hZ (hin.below (hbox.mono hBw)))
    have HB := Aside0.mk hbox
    have g0 := blk_cell hg 0
    have g1 := blk_cell hg 1
    have g2 := blk_cell hg 2
    have g3 := blk_cell hg 3
    have g4 := blk_cell hg 4
    have g5 := blk_cell hg 5
    have g6 := blk_cell hg 6
    have fg0 := blk_frozen hg 0
    have fg1 := blk_frozen hg 1
    have fg2 := blk_frozen hg 2
    have fg3 := blk_frozen hg 3
    have fg4 := blk_frozen hg 4
    have fg5 := blk_frozen hg 5
    have fg6 := blk_frozen hg 6
    simp only [List.getElem?_toArray, List.getElem?_cons_succ, List.getElem?_cons_zero] at g0 g1 g2 g3 g4 g5 g6
    clear hg hbox h hin
    show Calls _ _ _ _ (LooksPost w b Z (s))
    unfold LooksPost at HC
    unfold LooksPost
    go_enter Try.func29, Try.ntmps29
    go_wp2_with fail
    refine HC.out.mono ?_
    rintro e w2 ⟨rfl, hs⟩
    have HS := Aside0.mk hs
    clear hs
    go_wp2
    go_ret
    exact ⟨by first | rfl | simp, (HS.out.early HB.out hlt hzb hnb).late (by repeat (with_reducible first | exact Below.refl _ _ | apply below_drew | apply pw_below_drewN))⟩
  by_cases h6 : kd = 6
  · subst h6
    have hbox := below_alloc (Below.refl w.heap.size w) (.cells #[.int .i64 6, .int .i64 wh, .string nm, .int .i64 n, .int .i64 af, .slice A5 bs.length c5, .slice A6 ks.length c6] 41)
    have hg := heap_alloc_new w (.cells #[.int .i64 6, .int .i64 wh, .string nm, .int .i64 n, .int .i64 af, .slice A5 bs.length c5, .slice A6 ks.length c6] 41)
    have hsz : B ≤ (w.alloc (.cells #[.int .i64 6, .int .i64 wh, .string nm, .int .i64 n, .int .i64 af, .slice A5 bs.length c5, .slice A6 ks.length c6] 41)).heap.size := by rw [World.size_alloc']; omega
    have HC := Aside0.mk (looks_list (w.alloc (.cells #[.int .i64 6, .int .i64 wh, .string nm, .int .i64 n, .int .i64 af, .slice A5 bs.length c5, .slice A6 ks.length c6] 41)) b B Z s wh nm n af bs ks A5 c5 A6 c6 (h.below hbox) ok hsz hZ (hin.below (hbox.mono hBw)))
    have HB := Aside0.mk hbox
    have g0 := blk_cell hg 0
    have g1 := blk_cell hg 1
    have g2 := blk_cell hg 2
    have g3 := blk_cell hg 3
    have g4 := blk_cell hg 4
    have g5 := blk_cell hg 5
    have g6 := blk_cell hg 6
    have fg0 := blk_frozen hg 0
    have fg1 := blk_frozen hg 1
    have fg2 := blk_frozen hg 2
    have fg3 := blk_frozen hg 3
    have fg4 := blk_frozen hg 4
    have fg5 := blk_frozen hg 5
    have fg6 := blk_frozen hg 6
    simp only [List.getElem?_toArray, List.getElem?_cons_succ, List.getElem?_cons_zero] at g0 g1 g2 g3 g4 g5 g6
    clear hg hbox h hin
    show Calls _ _ _ _ (LooksPost w b Z (s))
    unfold LooksPost at HC
    unfold LooksPost
    go_enter Try.func29, Try.ntmps29
    go_wp2_with fail
    refine HC.out.mono ?_
    rintro e w2 ⟨rfl, hs⟩
    have HS := Aside0.mk hs
    clear hs
    go_wp2
    go_ret
    exact ⟨by first | rfl | simp, (HS.out.early HB.out hlt hzb hnb).late (by repeat (with_reducible first | exact Below.refl _ _ | apply below_drew | apply pw_below_drewN))⟩
  by_cases h7 : kd = 7
  · subst h7
    have hbox := below_alloc (Below.refl w.heap.size w) (.cells #[.int .i64 7, .int .i64 wh, .string nm, .int .i64 n, .int .i64 af, .slice A5 bs.length c5, .slice A6 ks.length c6] 41)
    have hg := heap_alloc_new w (.cells #[.int .i64 7, .int .i64 wh, .string nm, .int .i64 n, .int .i64 af, .slice A5 bs.length c5, .slice A6 ks.length c6] 41)
    have hsz : B ≤ (w.alloc (.cells #[.int .i64 7, .int .i64 wh, .string nm, .int .i64 n, .int .i64 af, .slice A5 bs.length c5, .slice A6 ks.length c6] 41)).heap.size := by rw [World.size_alloc']; omega
    have HC := Aside0.mk (faults_arm (w.alloc (.cells #[.int .i64 7, .int .i64 wh, .string nm, .int .i64 n, .int .i64 af, .slice A5 bs.length c5, .slice A6 ks.length c6] 41)) b B Z s wh nm n af bs ks A5 c5 A6 c6 (h.below hbox) ok hsz hZ (hin.below (hbox.mono hBw)))
    have HB := Aside0.mk hbox
    have g0 := blk_cell hg 0
    have g1 := blk_cell hg 1
    have g2 := blk_cell hg 2
    have g3 := blk_cell hg 3
    have g4 := blk_cell hg 4
    have g5 := blk_cell hg 5
    have g6 := blk_cell hg 6
    have fg0 := blk_frozen hg 0
    have fg1 := blk_frozen hg 1
    have fg2 := blk_frozen hg 2
    have fg3 := blk_frozen hg 3
    have fg4 := blk_frozen hg 4
    have fg5 := blk_frozen hg 5
    have fg6 := blk_frozen hg 6
    simp only [List.getElem?_toArray, List.getElem?_cons_succ, List.getElem?_cons_zero] at g0 g1 g2 g3 g4 g5 g6
    clear hg hbox h hin
    show Calls _ _ _ _ (LooksPost w b Z (s.arm n))
    unfold LooksPost at HC
    unfold LooksPost
    go_enter Try.func29, Try.ntmps29
    go_wp2_with fail
    refine HC.out.mono ?_
    rintro e w2 ⟨rfl, hs⟩
    have HS := Aside0.mk hs
    clear hs
    go_wp2
    go_ret
    exact ⟨by first | rfl | simp, (HS.out.early HB.out hlt hzb hnb).late (by repeat (with_reducible first | exact Below.refl _ _ | apply below_drew | apply pw_below_drewN))⟩
  by_cases h8 : kd = 8
  · subst h8
    have hbox := below_alloc (Below.refl w.heap.size w) (.cells #[.int .i64 8, .int .i64 wh, .string nm, .int .i64 n, .int .i64 af, .slice A5 bs.length c5, .slice A6 ks.length c6] 41)
    have hg := heap_alloc_new w (.cells #[.int .i64 8, .int .i64 wh, .string nm, .int .i64 n, .int .i64 af, .slice A5 bs.length c5, .slice A6 ks.length c6] 41)
    have hsz : B ≤ (w.alloc (.cells #[.int .i64 8, .int .i64 wh, .string nm, .int .i64 n, .int .i64 af, .slice A5 bs.length c5, .slice A6 ks.length c6] 41)).heap.size := by rw [World.size_alloc']; omega
    have HC := Aside0.mk (faults_fail (w.alloc (.cells #[.int .i64 8, .int .i64 wh, .string nm, .int .i64 n, .int .i64 af, .slice A5 bs.length c5, .slice A6 ks.length c6] 41)) b B Z s wh nm n af bs ks A5 c5 A6 c6 (h.below hbox) ok hsz hZ (hin.below (hbox.mono hBw)))
    have HB := Aside0.mk hbox
    have g0 := blk_cell hg 0
    have g1 := blk_cell hg 1
    have g2 := blk_cell hg 2
    have g3 := blk_cell hg 3
    have g4 := blk_cell hg 4
    have g5 := blk_cell hg 5
    have g6 := blk_cell hg 6
    have fg0 := blk_frozen hg 0
    have fg1 := blk_frozen hg 1
    have fg2 := blk_frozen hg 2
    have fg3 := blk_frozen hg 3
    have fg4 := blk_frozen hg 4
    have fg5 := blk_frozen hg 5
    have fg6 := blk_frozen hg 6
    simp only [List.getElem?_toArray, List.getElem?_cons_succ, List.getElem?_cons_zero] at g0 g1 g2 g3 g4 g5 g6
    clear hg hbox h hin
    show Calls _ _ _ _ (LooksPost w b Z (s.fail af n))
    unfold LooksPost at HC
    unfold LooksPost
    go_enter Try.func29, Try.ntmps29
    go_wp2_with fail
    refine HC.out.mono ?_
    rintro e w2 ⟨rfl, hs⟩
    have HS := Aside0.mk hs
    clear hs
    go_wp2
    go_ret
    exact ⟨by first | rfl | simp, (HS.out.early HB.out hlt hzb hnb).late (by repeat (with_reducible first | exact Below.refl _ _ | apply below_drew | apply pw_below_drewN))⟩
  by_cases h9 : kd = 9
  · subst h9
    have hbox := below_alloc (Below.refl w.heap.size w) (.cells #[.int .i64 9, .int .i64 wh, .string nm, .int .i64 n, .int .i64 af, .slice A5 bs.length c5, .slice A6 ks.length c6] 41)
    have hg := heap_alloc_new w (.cells #[.int .i64 9, .int .i64 wh, .string nm, .int .i64 n, .int .i64 af, .slice A5 bs.length c5, .slice A6 ks.length c6] 41)
    have hsz : B ≤ (w.alloc (.cells #[.int .i64 9, .int .i64 wh, .string nm, .int .i64 n, .int .i64 af, .slice A5 bs.length c5, .slice A6 ks.length c6] 41)).heap.size := by rw [World.size_alloc']; omega
    have HC := Aside0.mk (faults_crash (w.alloc (.cells #[.int .i64 9, .int .i64 wh, .string nm, .int .i64 n, .int .i64 af, .slice A5 bs.length c5, .slice A6 ks.length c6] 41)) b B Z s wh nm n af bs ks A5 c5 A6 c6 (h.below hbox) ok hsz hZ (hin.below (hbox.mono hBw)))
    have HB := Aside0.mk hbox
    have g0 := blk_cell hg 0
    have g1 := blk_cell hg 1
    have g2 := blk_cell hg 2
    have g3 := blk_cell hg 3
    have g4 := blk_cell hg 4
    have g5 := blk_cell hg 5
    have g6 := blk_cell hg 6
    have fg0 := blk_frozen hg 0
    have fg1 := blk_frozen hg 1
    have fg2 := blk_frozen hg 2
    have fg3 := blk_frozen hg 3
    have fg4 := blk_frozen hg 4
    have fg5 := blk_frozen hg 5
    have fg6 := blk_frozen hg 6
    simp only [List.getElem?_toArray, List.getElem?_cons_succ, List.getElem?_cons_zero] at g0 g1 g2 g3 g4 g5 g6
    clear hg hbox h hin
    show Calls _ _ _ _ (LooksPost w b Z (s.fall))
    unfold LooksPost at HC
    unfold LooksPost
    go_enter Try.func29, Try.ntmps29
    go_wp2_with fail
    refine HC.out.mono ?_
    rintro e w2 ⟨rfl, hs⟩
    have HS := Aside0.mk hs
    clear hs
    go_wp2
    go_ret
    exact ⟨by first | rfl | simp, (HS.out.early HB.out hlt hzb hnb).late (by repeat (with_reducible first | exact Below.refl _ _ | apply below_drew | apply pw_below_drewN))⟩
  by_cases h10 : kd = 10
  · subst h10
    have hbox := below_alloc (Below.refl w.heap.size w) (.cells #[.int .i64 10, .int .i64 wh, .string nm, .int .i64 n, .int .i64 af, .slice A5 bs.length c5, .slice A6 ks.length c6] 41)
    have hg := heap_alloc_new w (.cells #[.int .i64 10, .int .i64 wh, .string nm, .int .i64 n, .int .i64 af, .slice A5 bs.length c5, .slice A6 ks.length c6] 41)
    have hsz : B ≤ (w.alloc (.cells #[.int .i64 10, .int .i64 wh, .string nm, .int .i64 n, .int .i64 af, .slice A5 bs.length c5, .slice A6 ks.length c6] 41)).heap.size := by rw [World.size_alloc']; omega
    have HC := Aside0.mk (faults_restart (w.alloc (.cells #[.int .i64 10, .int .i64 wh, .string nm, .int .i64 n, .int .i64 af, .slice A5 bs.length c5, .slice A6 ks.length c6] 41)) b B Z s wh nm n af bs ks A5 c5 A6 c6 (h.below hbox) ok hsz hZ (hin.below (hbox.mono hBw)) hks)
    have HB := Aside0.mk hbox
    have g0 := blk_cell hg 0
    have g1 := blk_cell hg 1
    have g2 := blk_cell hg 2
    have g3 := blk_cell hg 3
    have g4 := blk_cell hg 4
    have g5 := blk_cell hg 5
    have g6 := blk_cell hg 6
    have fg0 := blk_frozen hg 0
    have fg1 := blk_frozen hg 1
    have fg2 := blk_frozen hg 2
    have fg3 := blk_frozen hg 3
    have fg4 := blk_frozen hg 4
    have fg5 := blk_frozen hg 5
    have fg6 := blk_frozen hg 6
    simp only [List.getElem?_toArray, List.getElem?_cons_succ, List.getElem?_cons_zero] at g0 g1 g2 g3 g4 g5 g6
    clear hg hbox h hin
    show Calls _ _ _ _ (LooksPost w b Z (s.restart ks))
    unfold LooksPost at HC
    unfold LooksPost
    go_enter Try.func29, Try.ntmps29
    go_wp2_with fail
    refine HC.out.mono ?_
    rintro e w2 ⟨rfl, hs⟩
    have HS := Aside0.mk hs
    clear hs
    go_wp2
    go_ret
    exact ⟨by first | rfl | simp, (HS.out.early HB.out hlt hzb hnb).late (by repeat (with_reducible first | exact Below.refl _ _ | apply below_drew | apply pw_below_drewN))⟩
  by_cases h11 : kd = 11
  · subst h11
    have hbox := below_alloc (Below.refl w.heap.size w) (.cells #[.int .i64 11, .int .i64 wh, .string nm, .int .i64 n, .int .i64 af, .slice A5 bs.length c5, .slice A6 ks.length c6] 41)
    have hg := heap_alloc_new w (.cells #[.int .i64 11, .int .i64 wh, .string nm, .int .i64 n, .int .i64 af, .slice A5 bs.length c5, .slice A6 ks.length c6] 41)
    have hsz : B ≤ (w.alloc (.cells #[.int .i64 11, .int .i64 wh, .string nm, .int .i64 n, .int .i64 af, .slice A5 bs.length c5, .slice A6 ks.length c6] 41)).heap.size := by rw [World.size_alloc']; omega
    have HC := Aside0.mk (faults_spoil (w.alloc (.cells #[.int .i64 11, .int .i64 wh, .string nm, .int .i64 n, .int .i64 af, .slice A5 bs.length c5, .slice A6 ks.length c6] 41)) b B Z s wh nm n af bs ks A5 c5 A6 c6 (h.below hbox) ok hsz hZ (hin.below (hbox.mono hBw)) hn)
    have HB := Aside0.mk hbox
    have g0 := blk_cell hg 0
    have g1 := blk_cell hg 1
    have g2 := blk_cell hg 2
    have g3 := blk_cell hg 3
    have g4 := blk_cell hg 4
    have g5 := blk_cell hg 5
    have g6 := blk_cell hg 6
    have fg0 := blk_frozen hg 0
    have fg1 := blk_frozen hg 1
    have fg2 := blk_frozen hg 2
    have fg3 := blk_frozen hg 3
    have fg4 := blk_frozen hg 4
    have fg5 := blk_frozen hg 5
    have fg6 := blk_frozen hg 6
    simp only [List.getElem?_toArray, List.getElem?_cons_succ, List.getElem?_cons_zero] at g0 g1 g2 g3 g4 g5 g6
    clear hg hbox h hin
    show Calls _ _ _ _ (LooksPost w b Z ((s.spoil nm n).1))
    unfold LooksPost at HC
    unfold LooksPost
    go_enter Try.func29, Try.ntmps29
    go_wp2_with fail
    refine HC.out.mono ?_
    rintro e w2 ⟨rfl, hs⟩
    have HS := Aside0.mk hs
    clear hs
    go_wp2
    go_ret
    exact ⟨by first | rfl | simp, (HS.out.early HB.out hlt hzb hnb).late (by repeat (with_reducible first | exact Below.refl _ _ | apply below_drew | apply pw_below_drewN))⟩
  by_cases h12 : kd = 12
  · subst h12
    have hbox := below_alloc (Below.refl w.heap.size w) (.cells #[.int .i64 12, .int .i64 wh, .string nm, .int .i64 n, .int .i64 af, .slice A5 bs.length c5, .slice A6 ks.length c6] 41)
    have hg := heap_alloc_new w (.cells #[.int .i64 12, .int .i64 wh, .string nm, .int .i64 n, .int .i64 af, .slice A5 bs.length c5, .slice A6 ks.length c6] 41)
    have hsz : B ≤ (w.alloc (.cells #[.int .i64 12, .int .i64 wh, .string nm, .int .i64 n, .int .i64 af, .slice A5 bs.length c5, .slice A6 ks.length c6] 41)).heap.size := by rw [World.size_alloc']; omega
    have HC := Aside0.mk (looks_files (w.alloc (.cells #[.int .i64 12, .int .i64 wh, .string nm, .int .i64 n, .int .i64 af, .slice A5 bs.length c5, .slice A6 ks.length c6] 41)) b B Z s wh nm n af bs ks A5 c5 A6 c6 (h.below hbox) ok hsz hZ (hin.below (hbox.mono hBw)))
    have HB := Aside0.mk hbox
    have g0 := blk_cell hg 0
    have g1 := blk_cell hg 1
    have g2 := blk_cell hg 2
    have g3 := blk_cell hg 3
    have g4 := blk_cell hg 4
    have g5 := blk_cell hg 5
    have g6 := blk_cell hg 6
    have fg0 := blk_frozen hg 0
    have fg1 := blk_frozen hg 1
    have fg2 := blk_frozen hg 2
    have fg3 := blk_frozen hg 3
    have fg4 := blk_frozen hg 4
    have fg5 := blk_frozen hg 5
    have fg6 := blk_frozen hg 6
    simp only [List.getElem?_toArray, List.getElem?_cons_succ, List.getElem?_cons_zero] at g0 g1 g2 g3 g4 g5 g6
    clear hg hbox h hin
    show Calls _ _ _ _ (LooksPost w b Z (s))
    unfold LooksPost at HC
    unfold LooksPost
    go_enter Try.func29, Try.ntmps29
    go_wp2_with fail
    refine HC.out.mono ?_
    rintro e w2 ⟨rfl, hs⟩
    have HS := Aside0.mk hs
    clear hs
    go_wp2
    go_ret
    exact ⟨by first | rfl | simp, (HS.out.early HB.out hlt hzb hnb).late (by repeat (with_reducible first | exact Below.refl _ _ | apply below_drew | apply pw_below_drewN))⟩
  have b1 := beq_eq_false_iff_ne.2 h1
  have b2 := beq_eq_false_iff_ne.2 h2
  have b3 := beq_eq_false_iff_ne.2 h3
  have b4 := beq_eq_false_iff_ne.2 h4
  have b5 := beq_eq_false_iff_ne.2 h5
  have b6 := beq_eq_false_iff_ne.2 h6
  have b7 := beq_eq_false_iff_ne.2 h7
  have b8 := beq_eq_false_iff_ne.2 h8
  have b9 := beq_eq_false_iff_ne.2 h9
  have b10 := beq_eq_false_iff_ne.2 h10
  have b11 := beq_eq_false_iff_ne.2 h11
  have b12 := beq_eq_false_iff_ne.2 h12
  have hbox := below_alloc (Below.refl w.heap.size w) (.cells #[.int .i64 kd, .int .i64 wh, .string nm, .int .i64 n, .int .i64 af, .slice A5 bs.length c5, .slice A6 ks.length c6] 41)
  have hg := heap_alloc_new w (.cells #[.int .i64 kd, .int .i64 wh, .string nm, .int .i64 n, .int .i64 af, .slice A5 bs.length c5, .slice A6 ks.length c6] 41)
  have hsz : B ≤ (w.alloc (.cells #[.int .i64 kd, .int .i64 wh, .string nm, .int .i64 n, .int .i64 af, .slice A5 bs.length c5, .slice A6 ks.length c6] 41)).heap.size := by rw [World.size_alloc']; omega
  have HC := Aside0.mk (faults_other (w.alloc (.cells #[.int .i64 kd, .int .i64 wh, .string nm, .int .i64 n, .int .i64 af, .slice A5 bs.length c5, .slice A6 ks.length c6] 41)) b B Z s kd wh nm n af bs ks A5 c5 A6 c6 (h.below hbox) ok hsz hZ (hin.below (hbox.mono hBw)) b7 b8 b9 b10 b11)
  have HB := Aside0.mk hbox
  have g0 := blk_cell hg 0
  have g1 := blk_cell hg 1
  have g2 := blk_cell hg 2
  have g3 := blk_cell hg 3
  have g4 := blk_cell hg 4
  have g5 := blk_cell hg 5
  have g6 := blk_cell hg 6
  have fg0 := blk_frozen hg 0
  have fg1 := blk_frozen hg 1
  have fg2 := blk_frozen hg 2
  have fg3 := blk_frozen hg 3
  have fg4 := blk_frozen hg 4
  have fg5 := blk_frozen hg 5
  have fg6 := blk_frozen hg 6
  simp only [List.getElem?_toArray, List.getElem?_cons_succ, List.getElem?_cons_zero] at g0 g1 g2 g3 g4 g5 g6
  clear hg hbox h hin
  rw [show (s.op ⟨kd, wh, nm, n, af, bs, ks⟩).1 = s by simp only [St.op, if_neg h1, if_neg h2, if_neg h3, if_neg h4, if_neg h5, if_neg h6, if_neg h7, if_neg h8, if_neg h9, if_neg h10, if_neg h11]]
  unfold LooksPost at HC
  unfold LooksPost
  go_enter Try.func29, Try.ntmps29
  go_wp2_with fail
  refine HC.out.mono ?_
  rintro e w2 ⟨rfl, hs⟩
  have HS := Aside0.mk hs
  clear hs
  go_wp2
  go_ret
  exact ⟨by first | rfl | simp, (HS.out.early HB.out hlt hzb hnb).late (by repeat (with_reducible first | exact Below.refl _ _ | apply below_drew | apply pw_below_drewN))⟩
end Go.Proofs.Ytfholpajdkjbbaa.DK
