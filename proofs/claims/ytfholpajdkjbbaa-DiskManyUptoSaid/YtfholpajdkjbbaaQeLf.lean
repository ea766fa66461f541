/- The law's pair of disks behind one call: the outside's calls; conditions: those in each theorem. -/
import Derived.Test.YtfholpajdkjbbaaQeLe
namespace Go.Proofs.Ytfholpajdkjbbaa.DK
open Go.Proofs.Ytfholpajdkjbbaa.PD
open Go.RowKit Go.Proofs.YtfholpajdkjbbaaW.PrintWords Go.Proofs.YtfholpajdkjbbaaW.PrintLast Go.Proofs.YtfholpajdkjbbaaW.PrintMore Go.Proofs.Ytfholpajdkjbbaa.Mo
set_option linter.unusedVariables false
set_option linter.unusedSimpArgs false
theorem info3_ : (Try.prog.info? 3).map (fun i => (i.zero, i.size, i.bytes)) = some (some (.int .i64 0), 1, 8) := by kernel_rfl
set_option maxHeartbeats 4000000 in
set_option maxRecDepth 100000 in
theorem faults_arm (w : World) (b B : Nat) (Z : Nat → Prop) (s : St) (wh : Int) (nm : ByteArray) (n af : Int) (bs ks : List Int) (A5 : Option Addr) (c5 : Nat) (A6 : Option Addr) (c6 : Nat) (h : Pair w b Z s) (ok : Ok s) (hBw : B ≤ w.heap.size) (hZ : ∀ k, Z k → B ≤ k) (hin : OpIn w B bs A5 c5 ks A6 c6) :
    Calls Try.prog 52 #[.pointer (some ⟨b, 0, none⟩), .agg #[.int .i64 7, .int .i64 wh, .string nm, .int .i64 n, .int .i64 af, .slice A5 bs.length c5, .slice A6 ks.length c6]] w (LooksPost w b Z (s.arm n)) := by
  have hbox := below_alloc (Below.refl w.heap.size w) (.cells #[.int .i64 7, .int .i64 wh, .string nm, .int .i64 n, .int .i64 af, .slice A5 bs.length c5, .slice A6 ks.length c6] 41)
  have hg := heap_alloc_new w (.cells #[.int .i64 7, .int .i64 wh, .string nm, .int .i64 n, .int .i64 af, .slice A5 bs.length c5, .slice A6 ks.length c6] 41)
  have hgz : ¬ Z w.heap.size := fun hk => Nat.lt_irrefl _ (h.bd _ hk)
  obtain ⟨p1, p2, ht, hfin⟩ := h.open_ hbox
  have hin1 := hin.below (hbox.mono hBw)
  have hlt := h.lt
  have hsz1 : w.heap.size < (w.alloc (.cells #[.int .i64 7, .int .i64 wh, .string nm, .int .i64 n, .int .i64 af, .slice A5 bs.length c5, .slice A6 ks.length c6] 41)).heap.size := by rw [World.size_alloc']; omega
  have hB1 : B ≤ (w.alloc (.cells #[.int .i64 7, .int .i64 wh, .string nm, .int .i64 n, .int .i64 af, .slice A5 bs.length c5, .slice A6 ks.length c6] 41)).heap.size := by omega
  have hb1 := (hfin _ s (Upd.refl _ _)).1
  have HG := Aside0.mk hg
  have HT := Aside0.mk ht
  have HFIN := Aside0.mk hfin
  have HIN := Aside0.mk hin1
  have HOK := Aside0.mk ok
  have HZ := Aside0.mk hZ
  have g0 := blk_cell hg 0
  have g1 := blk_cell hg 1
  have g2 := blk_cell hg 2
  have g3 := blk_cell hg 3
  have g4 := blk_cell hg 4
  have g5 := blk_cell hg 5
  have g6 := blk_cell hg 6
  have fg0 := blk_frozen hg 0
  have fg1 := blk_frozen hg 1
  have fg2 := blk_frozen hg 2
  have fg3 := blk_frozen hg 3
  have fg4 := blk_frozen hg 4
  have fg5 := blk_frozen hg 5
  have fg6 := blk_frozen hg 6
  simp only [List.getElem?_toArray, List.getElem?_cons_succ, List.getElem?_cons_zero] at g0 g1 g2 g3 g4 g5 g6
  have m0 := blk_cell hb1 0
  have m1 := blk_cell hb1 1
  have fm0 := blk_frozen hb1 0
  have fm1 := blk_frozen hb1 1
  simp only [List.getElem?_toArray, List.getElem?_cons_succ, List.getElem?_cons_zero] at m0 m1
  clear hg ht hfin hin1 hb1 hbox ok hZ h hin
  unfold LooksPost
  go_enter Try.func52, Try.ntmps52
  go_wp2
  refine start_ (n := 7) (S := fun w' => w'.cell? ⟨b, 0, none⟩ = some (.pointer (some ⟨p1, 0, none⟩)) ∧ w'.cell? ⟨w.heap.size, 3, none⟩ = some (.int .i64 n)) (ds := [6]) #[false, false, false, false, false, false, false] (by kernel_rfl) rfl rfl ⟨m0, g3⟩ (fun hHeld => ?_)
  refine zq 0 (some 9) ?_
  refine zq 1 (some 10) ?_
  refine zq 2 (some 11) ?_
  refine zq 4 (some 13) ?_
  refine zu 3 (some 12) hHeld ?_
  refine zu 5 (some 14) hHeld ?_
  refine last_ (i := 6) (N := some 15) #[true, true, true, true, true, true, true] rfl rfl (by kernel_rfl) (by decide) (fun K hK => ?_)
  refine goes_ Try.func30 (by kernel_rfl) rfl #[.pointer (some ⟨p1, 0, none⟩), .int .i64 n] (by rfl) rfl rfl (by simp only [List.map_toArray, List.map_cons, List.map_nil]; rfl) ?_
  obtain ⟨X1, hP, hx1, hnx⟩ := (HT.out.below (below_drew (Below.refl _ _))).openP
  refine (arm_calls _ p1 X1 s n hP).mono ?_
  rintro e w2 ⟨rfl, hs⟩
  refine ⟨_, rfl, ?_⟩
  have HT2 := Aside0.mk (hnx _ _ hs)
  have hb2 := (HFIN.out w2 s HT2.out.1).1
  have hg2 := blk_upd HG.out HT2.out.1 hgz
  have x0 := blk_cell hg2 0
  have x1 := blk_cell hg2 1
  have x2 := blk_cell hg2 2
  have x3 := blk_cell hg2 3
  have x4 := blk_cell hg2 4
  have x5 := blk_cell hg2 5
  have x6 := blk_cell hg2 6
  have fx0 := blk_frozen hg2 0
  have fx1 := blk_frozen hg2 1
  have fx2 := blk_frozen hg2 2
  have fx3 := blk_frozen hg2 3
  have fx4 := blk_frozen hg2 4
  have fx5 := blk_frozen hg2 5
  have fx6 := blk_frozen hg2 6
  simp only [List.getElem?_toArray, List.getElem?_cons_succ, List.getElem?_cons_zero] at x0 x1 x2 x3 x4 x5 x6
  have y0 := blk_cell hb2 0
  have y1 := blk_cell hb2 1
  have fy0 := blk_frozen hb2 0
  have fy1 := blk_frozen hb2 1
  simp only [List.getElem?_toArray, List.getElem?_cons_succ, List.getElem?_cons_zero] at y0 y1
  clear hb2 hg2
  clear hs hnx hP hx1
  refine hK.out _ _ ?_
  clear hK K
  refine norm_ (a' := ?_) ?_ ?_
  rotate_left
  · show Act.put _ (some 15) _ = _
    simp only [Act.put, zla, zlb, zlc, i64_w, i32_w]
    rfl
  refine done_ (by kernel_rfl) ?_
  go_wp2
  refine start_ (n := 7) (S := fun w' => w'.cell? ⟨b, 1, none⟩ = some (.pointer (some ⟨p2, 0, none⟩)) ∧ w'.cell? ⟨w.heap.size, 3, none⟩ = some (.int .i64 n)) (ds := [6]) #[false, false, false, false, false, false, false] (by kernel_rfl) rfl rfl ⟨y1, x3⟩ (fun hHeld => ?_)
  refine zq 0 (some 16) ?_
  refine zq 1 (some 17) ?_
  refine zq 2 (some 18) ?_
  refine zq 4 (some 20) ?_
  refine zu 3 (some 19) hHeld ?_
  refine zu 5 (some 21) hHeld ?_
  refine last_ (i := 6) (N := some 22) #[true, true, true, true, true, true, true] rfl rfl (by kernel_rfl) (by decide) (fun K hK => ?_)
  refine goes_ Try.func71 (by kernel_rfl) rfl #[.pointer (some ⟨p2, 0, none⟩), .int .i64 n] (by rfl) rfl rfl (by simp only [List.map_toArray, List.map_cons, List.map_nil]; rfl) ?_
  obtain ⟨X2, hR, hx2, hnx⟩ := (HT2.out.below (below_drew (Below.refl _ _))).openR
  refine (rarm_calls _ p2 X2 s n hR).mono ?_
  rintro e w3 ⟨rfl, hs⟩
  refine ⟨_, rfl, ?_⟩
  have HT3 := Aside0.mk (hnx _ _ hs)
  have hb3 := (HFIN.out w3 s HT3.out.1).1
  have hg3 := blk_upd HG.out HT3.out.1 hgz
  have u0 := blk_cell hg3 0
  have u1 := blk_cell hg3 1
  have u2 := blk_cell hg3 2
  have u3 := blk_cell hg3 3
  have u4 := blk_cell hg3 4
  have u5 := blk_cell hg3 5
  have u6 := blk_cell hg3 6
  have fu0 := blk_frozen hg3 0
  have fu1 := blk_frozen hg3 1
  have fu2 := blk_frozen hg3 2
  have fu3 := blk_frozen hg3 3
  have fu4 := blk_frozen hg3 4
  have fu5 := blk_frozen hg3 5
  have fu6 := blk_frozen hg3 6
  simp only [List.getElem?_toArray, List.getElem?_cons_succ, List.getElem?_cons_zero] at u0 u1 u2 u3 u4 u5 u6
  have v0 := blk_cell hb3 0
  have v1 := blk_cell hb3 1
  have fv0 := blk_frozen hb3 0
  have fv1 := blk_frozen hb3 1
  simp only [List.getElem?_toArray, List.getElem?_cons_succ, List.getElem?_cons_zero] at v0 v1
  clear hb3 hg3
  clear hs hnx hR hx2
  refine hK.out _ _ ?_
  clear hK K
  refine norm_ (a' := ?_) ?_ ?_
  rotate_left
  · show Act.put _ (some 22) _ = _
    simp only [Act.put, zla, zlb, zlc, i64_w, i32_w]
    rfl
  refine done_ (by kernel_rfl) ?_
  go_wp2
  go_ret
  exact ⟨rfl, (HFIN.out _ _ (HT3.out.below (by repeat (with_reducible first | exact Below.refl _ _ | apply below_drew | apply pw_below_drewN))).1).2 (HT3.out.below (by repeat (with_reducible first | exact Below.refl _ _ | apply below_drew | apply pw_below_drewN)))⟩
set_option maxHeartbeats 4000000 in
set_option maxRecDepth 100000 in
theorem faults_fail (w : World) (b B : Nat) (Z : Nat → Prop) (s : St) (wh : Int) (nm : ByteArray) (n af : Int) (bs ks : List Int) (A5 : Option Addr) (c5 : Nat) (A6 : Option Addr) (c6 : Nat) (h : Pair w b Z s) (ok : Ok s) (hBw : B ≤ w.heap.size) (hZ : ∀ k, Z k → B ≤ k) (hin : OpIn w B bs A5 c5 ks A6 c6) :
    Calls Try.prog 52 #[.pointer (some ⟨b, 0, none⟩), .agg #[.int .i64 8, .int .i64 wh, .string nm, .int .i64 n, .int .i64 af, .slice A5 bs.length c5, .slice A6 ks.length c6]] w (LooksPost w b Z (s.fail af n)) := by
  have hbox := below_alloc (Below.refl w.heap.size w) (.cells #[.int .i64 8, .int .i64 wh, .string nm, .int .i64 n, .int .i64 af, .slice A5 bs.length c5, .slice A6 ks.length c6] 41)
  have hg := heap_alloc_new w (.cells #[.int .i64 8, .int .i64 wh, .string nm, .int .i64 n, .int .i64 af, .slice A5 bs.length c5, .slice A6 ks.length c6] 41)
  have hgz : ¬ Z w.heap.size := fun hk => Nat.lt_irrefl _ (h.bd _ hk)
  obtain ⟨p1, p2, ht, hfin⟩ := h.open_ hbox
  have hin1 := hin.below (hbox.mono hBw)
  have hlt := h.lt
  have hsz1 : w.heap.size < (w.alloc (.cells #[.int .i64 8, .int .i64 wh, .string nm, .int .i64 n, .int .i64 af, .slice A5 bs.length c5, .slice A6 ks.length c6] 41)).heap.size := by rw [World.size_alloc']; omega
  have hB1 : B ≤ (w.alloc (.cells #[.int .i64 8, .int .i64 wh, .string nm, .int .i64 n, .int .i64 af, .slice A5 bs.length c5, .slice A6 ks.length c6] 41)).heap.size := by omega
  have hb1 := (hfin _ s (Upd.refl _ _)).1
  have HG := Aside0.mk hg
  have HT := Aside0.mk ht
  have HFIN := Aside0.mk hfin
  have HIN := Aside0.mk hin1
  have HOK := Aside0.mk ok
  have HZ := Aside0.mk hZ
  have g0 := blk_cell hg 0
  have g1 := blk_cell hg 1
  have g2 := blk_cell hg 2
  have g3 := blk_cell hg 3
  have g4 := blk_cell hg 4
  have g5 := blk_cell hg 5
  have g6 := blk_cell hg 6
  have fg0 := blk_frozen hg 0
  have fg1 := blk_frozen hg 1
  have fg2 := blk_frozen hg 2
  have fg3 := blk_frozen hg 3
  have fg4 := blk_frozen hg 4
  have fg5 := blk_frozen hg 5
  have fg6 := blk_frozen hg 6
  simp only [List.getElem?_toArray, List.getElem?_cons_succ, List.getElem?_cons_zero] at g0 g1 g2 g3 g4 g5 g6
  have m0 := blk_cell hb1 0
  have m1 := blk_cell hb1 1
  have fm0 := blk_frozen hb1 0
  have fm1 := blk_frozen hb1 1
  simp only [List.getElem?_toArray, List.getElem?_cons_succ, List.getElem?_cons_zero] at m0 m1
  clear hg ht hfin hin1 hb1 hbox ok hZ h hin
  unfold LooksPost
  go_enter Try.func52, Try.ntmps52
  go_wp2
  refine start_ (n := 9) (S := fun w' => w'.cell? ⟨b, 0, none⟩ = some (.pointer (some ⟨p1, 0, none⟩)) ∧ w'.cell? ⟨w.heap.size, 4, none⟩ = some (.int .i64 af) ∧ w'.cell? ⟨w.heap.size, 3, none⟩ = some (.int .i64 n)) (ds := [8]) #[false, false, false, false, false, false, false, false, false] (by kernel_rfl) rfl rfl ⟨m0, g4, g3⟩ (fun hHeld => ?_)
  refine zq 0 (some 25) ?_
  refine zq 1 (some 26) ?_
  refine zq 2 (some 27) ?_
  refine zq 4 (some 29) ?_
  refine zq 6 (some 31) ?_
  refine zu 3 (some 28) hHeld ?_
  refine zu 5 (some 30) hHeld ?_
  refine zu 7 (some 32) hHeld ?_
  refine last_ (i := 8) (N := some 33) #[true, true, true, true, true, true, true, true, true] rfl rfl (by kernel_rfl) (by decide) (fun K hK => ?_)
  refine goes_ Try.func34 (by kernel_rfl) rfl #[.pointer (some ⟨p1, 0, none⟩), .int .i64 af, .int .i64 n] (by rfl) rfl rfl (by simp only [List.map_toArray, List.map_cons, List.map_nil]; rfl) ?_
  obtain ⟨X1, hP, hx1, hnx⟩ := (HT.out.below (below_drew (Below.refl _ _))).openP
  refine (fail_calls _ p1 X1 s af n hP).mono ?_
  rintro e w2 ⟨rfl, hs⟩
  refine ⟨_, rfl, ?_⟩
  have HT2 := Aside0.mk (hnx _ _ hs)
  have hb2 := (HFIN.out w2 s HT2.out.1).1
  have hg2 := blk_upd HG.out HT2.out.1 hgz
  have x0 := blk_cell hg2 0
  have x1 := blk_cell hg2 1
  have x2 := blk_cell hg2 2
  have x3 := blk_cell hg2 3
  have x4 := blk_cell hg2 4
  have x5 := blk_cell hg2 5
  have x6 := blk_cell hg2 6
  have fx0 := blk_frozen hg2 0
  have fx1 := blk_frozen hg2 1
  have fx2 := blk_frozen hg2 2
  have fx3 := blk_frozen hg2 3
  have fx4 := blk_frozen hg2 4
  have fx5 := blk_frozen hg2 5
  have fx6 := blk_frozen hg2 6
  simp only [List.getElem?_toArray, List.getElem?_cons_succ, List.getElem?_cons_zero] at x0 x1 x2 x3 x4 x5 x6
  have y0 := blk_cell hb2 0
  have y1 := blk_cell hb2 1
  have fy0 := blk_frozen hb2 0
  have fy1 := blk_frozen hb2 1
  simp only [List.getElem?_toArray, List.getElem?_cons_succ, List.getElem?_cons_zero] at y0 y1
  clear hb2 hg2
  clear hs hnx hP hx1
  refine hK.out _ _ ?_
  clear hK K
  refine norm_ (a' := ?_) ?_ ?_
  rotate_left
  · show Act.put _ (some 33) _ = _
    simp only [Act.put, zla, zlb, zlc, i64_w, i32_w]
    rfl
  refine done_ (by kernel_rfl) ?_
  go_wp2
  refine start_ (n := 9) (S := fun w' => w'.cell? ⟨b, 1, none⟩ = some (.pointer (some ⟨p2, 0, none⟩)) ∧ w'.cell? ⟨w.heap.size, 4, none⟩ = some (.int .i64 af) ∧ w'.cell? ⟨w.heap.size, 3, none⟩ = some (.int .i64 n)) (ds := [8]) #[false, false, false, false, false, false, false, false, false] (by kernel_rfl) rfl rfl ⟨y1, x4, x3⟩ (fun hHeld => ?_)
  refine zq 0 (some 34) ?_
  refine zq 1 (some 35) ?_
  refine zq 2 (some 36) ?_
  refine zq 4 (some 38) ?_
  refine zq 6 (some 40) ?_
  refine zu 3 (some 37) hHeld ?_
  refine zu 5 (some 39) hHeld ?_
  refine zu 7 (some 41) hHeld ?_
  refine last_ (i := 8) (N := some 42) #[true, true, true, true, true, true, true, true, true] rfl rfl (by kernel_rfl) (by decide) (fun K hK => ?_)
  refine goes_ Try.func72 (by kernel_rfl) rfl #[.pointer (some ⟨p2, 0, none⟩), .int .i64 af, .int .i64 n] (by rfl) rfl rfl (by simp only [List.map_toArray, List.map_cons, List.map_nil]; rfl) ?_
  obtain ⟨X2, hR, hx2, hnx⟩ := (HT2.out.below (below_drew (Below.refl _ _))).openR
  refine (rfail_calls _ p2 X2 s af n hR).mono ?_
  rintro e w3 ⟨rfl, hs⟩
  refine ⟨_, rfl, ?_⟩
  have HT3 := Aside0.mk (hnx _ _ hs)
  have hb3 := (HFIN.out w3 s HT3.out.1).1
  have hg3 := blk_upd HG.out HT3.out.1 hgz
  have u0 := blk_cell hg3 0
  have u1 := blk_cell hg3 1
  have u2 := blk_cell hg3 2
  have u3 := blk_cell hg3 3
  have u4 := blk_cell hg3 4
  have u5 := blk_cell hg3 5
  have u6 := blk_cell hg3 6
  have fu0 := blk_frozen hg3 0
  have fu1 := blk_frozen hg3 1
  have fu2 := blk_frozen hg3 2
  have fu3 := blk_frozen hg3 3
  have fu4 := blk_frozen hg3 4
  have fu5 := blk_frozen hg3 5
  have fu6 := blk_frozen hg3 6
  simp only [List.getElem?_toArray, List.getElem?_cons_succ, List.getElem?_cons_zero] at u0 u1 u2 u3 u4 u5 u6
  have v0 := blk_cell hb3 0
  have v1 := blk_cell hb3 1
  have fv0 := blk_frozen hb3 0
  have fv1 := blk_frozen hb3 1
  simp only [List.getElem?_toArray, List.getElem?_cons_succ, List.getElem?_cons_zero] at v0 v1
  clear hb3 hg3
  clear hs hnx hR hx2
  refine hK.out _ _ ?_
  clear hK K
  refine norm_ (a' := ?_) ?_ ?_
  rotate_left
  · show Act.put _ (some 42) _ = _
    simp only [Act.put, zla, zlb, zlc, i64_w, i32_w]
    rfl
  refine done_ (by kernel_rfl) ?_
  go_wp2
  go_ret
  exact ⟨rfl, (HFIN.out _ _ (HT3.out.below (by repeat (with_reducible first | exact Below.refl _ _ | apply below_drew | apply pw_below_drewN))).1).2 (HT3.out.below (by repeat (with_reducible first | exact Below.refl _ _ | apply below_drew | apply pw_below_drewN)))⟩
set_option maxHeartbeats 4000000 in
set_option maxRecDepth 100000 in
theorem faults_crash (w : World) (b B : Nat) (Z : Nat → Prop) (s : St) (wh : Int) (nm : ByteArray) (n af : Int) (bs ks : List Int) (A5 : Option Addr) (c5 : Nat) (A6 : Option Addr) (c6 : Nat) (h : Pair w b Z s) (ok : Ok s) (hBw : B ≤ w.heap.size) (hZ : ∀ k, Z k → B ≤ k) (hin : OpIn w B bs A5 c5 ks A6 c6) :
    Calls Try.prog 52 #[.pointer (some ⟨b, 0, none⟩), .agg #[.int .i64 9, .int .i64 wh, .string nm, .int .i64 n, .int .i64 af, .slice A5 bs.length c5, .slice A6 ks.length c6]] w (LooksPost w b Z (s.fall)) := by
  have hbox := below_alloc (Below.refl w.heap.size w) (.cells #[.int .i64 9, .int .i64 wh, .string nm, .int .i64 n, .int .i64 af, .slice A5 bs.length c5, .slice A6 ks.length c6] 41)
  have hg := heap_alloc_new w (.cells #[.int .i64 9, .int .i64 wh, .string nm, .int .i64 n, .int .i64 af, .slice A5 bs.length c5, .slice A6 ks.length c6] 41)
  have hgz : ¬ Z w.heap.size := fun hk => Nat.lt_irrefl _ (h.bd _ hk)
  obtain ⟨p1, p2, ht, hfin⟩ := h.open_ hbox
  have hin1 := hin.below (hbox.mono hBw)
  have hlt := h.lt
  have hsz1 : w.heap.size < (w.alloc (.cells #[.int .i64 9, .int .i64 wh, .string nm, .int .i64 n, .int .i64 af, .slice A5 bs.length c5, .slice A6 ks.length c6] 41)).heap.size := by rw [World.size_alloc']; omega
  have hB1 : B ≤ (w.alloc (.cells #[.int .i64 9, .int .i64 wh, .string nm, .int .i64 n, .int .i64 af, .slice A5 bs.length c5, .slice A6 ks.length c6] 41)).heap.size := by omega
  have hb1 := (hfin _ s (Upd.refl _ _)).1
  have HG := Aside0.mk hg
  have HT := Aside0.mk ht
  have HFIN := Aside0.mk hfin
  have HIN := Aside0.mk hin1
  have HOK := Aside0.mk ok
  have HZ := Aside0.mk hZ
  have g0 := blk_cell hg 0
  have g1 := blk_cell hg 1
  have g2 := blk_cell hg 2
  have g3 := blk_cell hg 3
  have g4 := blk_cell hg 4
  have g5 := blk_cell hg 5
  have g6 := blk_cell hg 6
  have fg0 := blk_frozen hg 0
  have fg1 := blk_frozen hg 1
  have fg2 := blk_frozen hg 2
  have fg3 := blk_frozen hg 3
  have fg4 := blk_frozen hg 4
  have fg5 := blk_frozen hg 5
  have fg6 := blk_frozen hg 6
  simp only [List.getElem?_toArray, List.getElem?_cons_succ, List.getElem?_cons_zero] at g0 g1 g2 g3 g4 g5 g6
  have m0 := blk_cell hb1 0
  have m1 := blk_cell hb1 1
  have fm0 := blk_frozen hb1 0
  have fm1 := blk_frozen hb1 1
  simp only [List.getElem?_toArray, List.getElem?_cons_succ, List.getElem?_cons_zero] at m0 m1
  clear hg ht hfin hin1 hb1 hbox ok hZ h hin
  unfold LooksPost
  go_enter Try.func52, Try.ntmps52
  obtain ⟨X1, hP, hx1, hnx⟩ := HT.out.openP
  have HC := Aside0.mk (crash_calls _ p1 X1 s hP)
  go_wp2_with fail
  refine HC.out.mono ?_
  rintro e w2 ⟨rfl, hs⟩
  have HT2 := Aside0.mk (hnx _ _ hs)
  have hb2 := (HFIN.out w2 s HT2.out.1).1
  have hg2 := blk_upd HG.out HT2.out.1 hgz
  have x0 := blk_cell hg2 0
  have x1 := blk_cell hg2 1
  have x2 := blk_cell hg2 2
  have x3 := blk_cell hg2 3
  have x4 := blk_cell hg2 4
  have x5 := blk_cell hg2 5
  have x6 := blk_cell hg2 6
  have fx0 := blk_frozen hg2 0
  have fx1 := blk_frozen hg2 1
  have fx2 := blk_frozen hg2 2
  have fx3 := blk_frozen hg2 3
  have fx4 := blk_frozen hg2 4
  have fx5 := blk_frozen hg2 5
  have fx6 := blk_frozen hg2 6
  simp only [List.getElem?_toArray, List.getElem?_cons_succ, List.getElem?_cons_zero] at x0 x1 x2 x3 x4 x5 x6
  have y0 := blk_cell hb2 0
  have y1 := blk_cell hb2 1
  have fy0 := blk_frozen hb2 0
  have fy1 := blk_frozen hb2 1
  simp only [List.getElem?_toArray, List.getElem?_cons_succ, List.getElem?_cons_zero] at y0 y1
  clear hb2 hg2
  clear hs hnx hP hx1
  obtain ⟨X2, hR, hx2, hnx⟩ := HT2.out.openR
  have HC2 := Aside0.mk (rcrash_calls _ p2 X2 s hR)
  go_wp2_with fail
  refine HC2.out.mono ?_
  rintro e w3 ⟨rfl, hs⟩
  have HT3 := Aside0.mk (hnx _ _ hs)
  clear hs hnx hR hx2
  go_wp2
  go_ret
  exact ⟨rfl, (HFIN.out _ _ (HT3.out.below (by repeat (with_reducible first | exact Below.refl _ _ | apply below_drew | apply pw_below_drewN))).1).2 (HT3.out.below (by repeat (with_reducible first | exact Below.refl _ _ | apply below_drew | apply pw_below_drewN)))⟩
set_option maxHeartbeats 4000000 in
set_option maxRecDepth 100000 in
theorem faults_spoil (w : World) (b B : Nat) (Z : Nat → Prop) (s : St) (wh : Int) (nm : ByteArray) (n af : Int) (bs ks : List Int) (A5 : Option Addr) (c5 : Nat) (A6 : Option Addr) (c6 : Nat) (h : Pair w b Z s) (ok : Ok s) (hBw : B ≤ w.heap.size) (hZ : ∀ k, Z k → B ≤ k) (hin : OpIn w B bs A5 c5 ks A6 c6) (hn : n ≤ 9223372036854775807) :
    Calls Try.prog 52 #[.pointer (some ⟨b, 0, none⟩), .agg #[.int .i64 11, .int .i64 wh, .string nm, .int .i64 n, .int .i64 af, .slice A5 bs.length c5, .slice A6 ks.length c6]] w (LooksPost w b Z ((s.spoil nm n).1)) := by
  have hbox := below_alloc (Below.refl w.heap.size w) (.cells #[.int .i64 11, .int .i64 wh, .string nm, .int .i64 n, .int .i64 af, .slice A5 bs.length c5, .slice A6 ks.length c6] 41)
  have hg := heap_alloc_new w (.cells #[.int .i64 11, .int .i64 wh, .string nm, .int .i64 n, .int .i64 af, .slice A5 bs.length c5, .slice A6 ks.length c6] 41)
  have hgz : ¬ Z w.heap.size := fun hk => Nat.lt_irrefl _ (h.bd _ hk)
  obtain ⟨p1, p2, ht, hfin⟩ := h.open_ hbox
  have hin1 := hin.below (hbox.mono hBw)
  have hlt := h.lt
  have hsz1 : w.heap.size < (w.alloc (.cells #[.int .i64 11, .int .i64 wh, .string nm, .int .i64 n, .int .i64 af, .slice A5 bs.length c5, .slice A6 ks.length c6] 41)).heap.size := by rw [World.size_alloc']; omega
  have hB1 : B ≤ (w.alloc (.cells #[.int .i64 11, .int .i64 wh, .string nm, .int .i64 n, .int .i64 af, .slice A5 bs.length c5, .slice A6 ks.length c6] 41)).heap.size := by omega
  have hb1 := (hfin _ s (Upd.refl _ _)).1
  have HG := Aside0.mk hg
  have HT := Aside0.mk ht
  have HFIN := Aside0.mk hfin
  have HIN := Aside0.mk hin1
  have HOK := Aside0.mk ok
  have HZ := Aside0.mk hZ
  have g0 := blk_cell hg 0
  have g1 := blk_cell hg 1
  have g2 := blk_cell hg 2
  have g3 := blk_cell hg 3
  have g4 := blk_cell hg 4
  have g5 := blk_cell hg 5
  have g6 := blk_cell hg 6
  have fg0 := blk_frozen hg 0
  have fg1 := blk_frozen hg 1
  have fg2 := blk_frozen hg 2
  have fg3 := blk_frozen hg 3
  have fg4 := blk_frozen hg 4
  have fg5 := blk_frozen hg 5
  have fg6 := blk_frozen hg 6
  simp only [List.getElem?_toArray, List.getElem?_cons_succ, List.getElem?_cons_zero] at g0 g1 g2 g3 g4 g5 g6
  have m0 := blk_cell hb1 0
  have m1 := blk_cell hb1 1
  have fm0 := blk_frozen hb1 0
  have fm1 := blk_frozen hb1 1
  simp only [List.getElem?_toArray, List.getElem?_cons_succ, List.getElem?_cons_zero] at m0 m1
  clear hg ht hfin hin1 hb1 hbox ok hZ h hin
  obtain ⟨q, hq⟩ : ∃ q, (s.spoil nm n).2 = q := ⟨_, rfl⟩
  have HQ := Aside0.mk hq
  clear hq
  unfold LooksPost
  go_enter Try.func52, Try.ntmps52
  go_wp2
  refine start_ (n := 20) (S := fun w' => w'.cell? ⟨b, 0, none⟩ = some (.pointer (some ⟨p1, 0, none⟩)) ∧ w'.cell? ⟨w.heap.size, 2, none⟩ = some (.string nm) ∧ w'.cell? ⟨w.heap.size, 3, none⟩ = some (.int .i64 n) ∧ w'.cell? ⟨b, 1, none⟩ = some (.pointer (some ⟨p2, 0, none⟩))) (ds := [17]) #[false, false, false, false, false, false, false, false, false, false, false, false, false, false, false, false, false, false, false, false] (by kernel_rfl) rfl rfl ⟨m0, g2, g3, m1⟩ (fun hHeld => ?_)
  refine zq 0 (some 75) ?_
  refine zq 1 (some 76) ?_
  refine zq 2 (some 77) ?_
  refine zq 4 (some 79) ?_
  refine zq 6 (some 81) ?_
  refine zq 9 (some 84) ?_
  refine zq 10 (some 85) ?_
  refine zq 11 (some 86) ?_
  refine zq 13 (some 88) ?_
  refine zq 15 (some 90) ?_
  refine zu 3 (some 78) hHeld ?_
  refine zu 5 (some 80) hHeld ?_
  refine zu 7 (some 82) hHeld ?_
  refine zu 12 (some 87) hHeld ?_
  refine zu 14 (some 89) hHeld ?_
  refine zu 16 (some 91) hHeld ?_
  refine one_ (i := 8) (N := some 83) #[true, true, true, true, true, true, true, true, true, true, true, true, true, true, true, true, true, false, false, false] rfl rfl (by kernel_rfl) (by decide) (fun K hK => ?_)
  refine goes_ Try.func47 (by kernel_rfl) rfl #[.pointer (some ⟨p1, 0, none⟩), .string nm, .int .i64 n] (by rfl) rfl rfl (by simp only [List.map_toArray, List.map_cons, List.map_nil]; rfl) ?_
  obtain ⟨X1, hP, hx1, hnx⟩ := (HT.out.below (below_drew (Below.refl _ _))).openP
  refine (spoil_calls _ p1 X1 s nm n hn hP HOK.out).mono ?_
  rintro e w2 ⟨rfl, hs⟩
  rw [HQ.out]
  refine ⟨_, rfl, ?_⟩
  have HT2 := Aside0.mk (hnx _ _ hs)
  have hb2 := (HFIN.out w2 s HT2.out.1).1
  have hg2 := blk_upd HG.out HT2.out.1 hgz
  have x0 := blk_cell hg2 0
  have x1 := blk_cell hg2 1
  have x2 := blk_cell hg2 2
  have x3 := blk_cell hg2 3
  have x4 := blk_cell hg2 4
  have x5 := blk_cell hg2 5
  have x6 := blk_cell hg2 6
  have fx0 := blk_frozen hg2 0
  have fx1 := blk_frozen hg2 1
  have fx2 := blk_frozen hg2 2
  have fx3 := blk_frozen hg2 3
  have fx4 := blk_frozen hg2 4
  have fx5 := blk_frozen hg2 5
  have fx6 := blk_frozen hg2 6
  simp only [List.getElem?_toArray, List.getElem?_cons_succ, List.getElem?_cons_zero] at x0 x1 x2 x3 x4 x5 x6
  have y0 := blk_cell hb2 0
  have y1 := blk_cell hb2 1
  have fy0 := blk_frozen hb2 0
  have fy1 := blk_frozen hb2 1
  simp only [List.getElem?_toArray, List.getElem?_cons_succ, List.getElem?_cons_zero] at y0 y1
  clear hb2 hg2
  clear hs hnx hP hx1
  refine hK.out _ _ ⟨y0, x2, x3, y1⟩ (fun hHeld => ?_)
  clear hK K
  refine norm_ (a' := ?_) ?_ ?_
  rotate_left
  · show Act.put _ (some 83) _ = _
    simp only [Act.put, zla, zlb, zlc, i64_w, i32_w]
    rfl
  refine last_ (i := 17) (N := some 92) #[true, true, true, true, true, true, true, true, true, true, true, true, true, true, true, true, true, true, false, false] rfl rfl (by kernel_rfl) (by decide) (fun K hK => ?_)
  refine goes_ Try.func75 (by kernel_rfl) rfl #[.pointer (some ⟨p2, 0, none⟩), .string nm, .int .i64 n] (by rfl) rfl rfl (by simp only [List.map_toArray, List.map_cons, List.map_nil]; rfl) ?_
  obtain ⟨X2, hR, hx2, hnx⟩ := HT2.out.openR
  refine (rspoil_calls _ p2 X2 s nm n hn hR HOK.out).mono ?_
  rintro e w3 ⟨rfl, hs⟩
  rw [HQ.out]
  refine ⟨_, rfl, ?_⟩
  have HT3 := Aside0.mk (hnx _ _ hs)
  clear hs hnx hR hx2
  refine hK.out _ _ ?_
  clear hK K
  refine norm_ (a' := ?_) ?_ ?_
  rotate_left
  · show Act.put _ (some 92) _ = _
    simp only [Act.put, zla, zlb, zlc, i64_w, i32_w]
    rfl
  refine zq 18 (some 93) ?_
  refine zq 19 (some 4) ?_
  refine done_ (by kernel_rfl) ?_
  go_wp2
  go_ret
  exact ⟨rfl, (HFIN.out _ _ (HT3.out.below (by repeat (with_reducible first | exact Below.refl _ _ | apply below_drew | apply pw_below_drewN))).1).2 (HT3.out.below (by repeat (with_reducible first | exact Below.refl _ _ | apply below_drew | apply pw_below_drewN)))⟩
set_option maxHeartbeats 4000000 in
set_option maxRecDepth 100000 in
theorem faults_other (w : World) (b B : Nat) (Z : Nat → Prop) (s : St) (kd : Int) (wh : Int) (nm : ByteArray) (n af : Int) (bs ks : List Int) (A5 : Option Addr) (c5 : Nat) (A6 : Option Addr) (c6 : Nat) (h : Pair w b Z s) (ok : Ok s) (hBw : B ≤ w.heap.size) (hZ : ∀ k, Z k → B ≤ k) (hin : OpIn w B bs A5 c5 ks A6 c6) (h7 : (kd == 7) = false) (h8 : (kd == 8) = false) (h9 : (kd == 9) = false) (h10 : (kd == 10) = false) (h11 : (kd == 11) = false) :
    Calls Try.prog 52 #[.pointer (some ⟨b, 0, none⟩), .agg #[.int .i64 kd, .int .i64 wh, .string nm, .int .i64 n, .int .i64 af, .slice A5 bs.length c5, .slice A6 ks.length c6]] w (LooksPost w b Z (s)) := by
  have hbox := below_alloc (Below.refl w.heap.size w) (.cells #[.int .i64 kd, .int .i64 wh, .string nm, .int .i64 n, .int .i64 af, .slice A5 bs.length c5, .slice A6 ks.length c6] 41)
  have hg := heap_alloc_new w (.cells #[.int .i64 kd, .int .i64 wh, .string nm, .int .i64 n, .int .i64 af, .slice A5 bs.length c5, .slice A6 ks.length c6] 41)
  have hgz : ¬ Z w.heap.size := fun hk => Nat.lt_irrefl _ (h.bd _ hk)
  obtain ⟨p1, p2, ht, hfin⟩ := h.open_ hbox
  have hin1 := hin.below (hbox.mono hBw)
  have hlt := h.lt
  have hsz1 : w.heap.size < (w.alloc (.cells #[.int .i64 kd, .int .i64 wh, .string nm, .int .i64 n, .int .i64 af, .slice A5 bs.length c5, .slice A6 ks.length c6] 41)).heap.size := by rw [World.size_alloc']; omega
  have hB1 : B ≤ (w.alloc (.cells #[.int .i64 kd, .int .i64 wh, .string nm, .int .i64 n, .int .i64 af, .slice A5 bs.length c5, .slice A6 ks.length c6] 41)).heap.size := by omega
  have hb1 := (hfin _ s (Upd.refl _ _)).1
  have HG := Aside0.mk hg
  have HT := Aside0.mk ht
  have HFIN := Aside0.mk hfin
  have HIN := Aside0.mk hin1
  have HOK := Aside0.mk ok
  have HZ := Aside0.mk hZ
  have g0 := blk_cell hg 0
  have g1 := blk_cell hg 1
  have g2 := blk_cell hg 2
  have g3 := blk_cell hg 3
  have g4 := blk_cell hg 4
  have g5 := blk_cell hg 5
  have g6 := blk_cell hg 6
  have fg0 := blk_frozen hg 0
  have fg1 := blk_frozen hg 1
  have fg2 := blk_frozen hg 2
  have fg3 := blk_frozen hg 3
  have fg4 := blk_frozen hg 4
  have fg5 := blk_frozen hg 5
  have fg6 := blk_frozen hg 6
  simp only [List.getElem?_toArray, List.getElem?_cons_succ, List.getElem?_cons_zero] at g0 g1 g2 g3 g4 g5 g6
  have m0 := blk_cell hb1 0
  have m1 := blk_cell hb1 1
  have fm0 := blk_frozen hb1 0
  have fm1 := blk_frozen hb1 1
  simp only [List.getElem?_toArray, List.getElem?_cons_succ, List.getElem?_cons_zero] at m0 m1
  clear hg ht hfin hin1 hb1 hbox ok hZ h hin
  unfold LooksPost
  go_enter Try.func52, Try.ntmps52
  go_wp2
  go_ret
  exact ⟨rfl, (HFIN.out _ _ (HT.out.below (by repeat (with_reducible first | exact Below.refl _ _ | apply below_drew | apply pw_below_drewN))).1).2 (HT.out.below (by repeat (with_reducible first | exact Below.refl _ _ | apply below_drew | apply pw_below_drewN)))⟩
set_option maxHeartbeats 4000000 in
set_option maxRecDepth 100000 in
theorem faults_restart (w : World) (b B : Nat) (Z : Nat → Prop) (s : St) (wh : Int) (nm : ByteArray) (n af : Int) (bs ks : List Int) (A5 : Option Addr) (c5 : Nat) (A6 : Option Addr) (c6 : Nat) (h : Pair w b Z s) (ok : Ok s) (hBw : B ≤ w.heap.size) (hZ : ∀ k, Z k → B ≤ k) (hin : OpIn w B bs A5 c5 ks A6 c6) (hks : ks.length ≤ 2 ^ 40) :
    Calls Try.prog 52 #[.pointer (some ⟨b, 0, none⟩), .agg #[.int .i64 10, .int .i64 wh, .string nm, .int .i64 n, .int .i64 af, .slice A5 bs.length c5, .slice A6 ks.length c6]] w (LooksPost w b Z (s.restart ks)) := by
  have hbox := below_alloc (Below.refl w.heap.size w) (.cells #[.int .i64 10, .int .i64 wh, .string nm, .int .i64 n, .int .i64 af, .slice A5 bs.length c5, .slice A6 ks.length c6] 41)
  have hg := heap_alloc_new w (.cells #[.int .i64 10, .int .i64 wh, .string nm, .int .i64 n, .int .i64 af, .slice A5 bs.length c5, .slice A6 ks.length c6] 41)
  have hgz : ¬ Z w.heap.size := fun hk => Nat.lt_irrefl _ (h.bd _ hk)
  obtain ⟨p1, p2, ht, hfin⟩ := h.open_ hbox
  have hin1 := hin.below (hbox.mono hBw)
  have hlt := h.lt
  have hsz1 : w.heap.size < (w.alloc (.cells #[.int .i64 10, .int .i64 wh, .string nm, .int .i64 n, .int .i64 af, .slice A5 bs.length c5, .slice A6 ks.length c6] 41)).heap.size := by rw [World.size_alloc']; omega
  have hB1 : B ≤ (w.alloc (.cells #[.int .i64 10, .int .i64 wh, .string nm, .int .i64 n, .int .i64 af, .slice A5 bs.length c5, .slice A6 ks.length c6] 41)).heap.size := by omega
  have hb1 := (hfin _ s (Upd.refl _ _)).1
  have HG := Aside0.mk hg
  have HT := Aside0.mk ht
  have HFIN := Aside0.mk hfin
  have HIN := Aside0.mk hin1
  have HOK := Aside0.mk ok
  have HZ := Aside0.mk hZ
  have g0 := blk_cell hg 0
  have g1 := blk_cell hg 1
  have g2 := blk_cell hg 2
  have g3 := blk_cell hg 3
  have g4 := blk_cell hg 4
  have g5 := blk_cell hg 5
  have g6 := blk_cell hg 6
  have fg0 := blk_frozen hg 0
  have fg1 := blk_frozen hg 1
  have fg2 := blk_frozen hg 2
  have fg3 := blk_frozen hg 3
  have fg4 := blk_frozen hg 4
  have fg5 := blk_frozen hg 5
  have fg6 := blk_frozen hg 6
  simp only [List.getElem?_toArray, List.getElem?_cons_succ, List.getElem?_cons_zero] at g0 g1 g2 g3 g4 g5 g6
  have m0 := blk_cell hb1 0
  have m1 := blk_cell hb1 1
  have fm0 := blk_frozen hb1 0
  have fm1 := blk_frozen hb1 1
  simp only [List.getElem?_toArray, List.getElem?_cons_succ, List.getElem?_cons_zero] at m0 m1
  clear hg ht hfin hin1 hb1 hbox ok hZ h hin
  unfold LooksPost
  go_enter Try.func52, Try.ntmps52
  go_wp2
  refine start_ (n := 7) (S := fun w' => w'.cell? ⟨b, 1, none⟩ = some (.pointer (some ⟨p2, 0, none⟩)) ∧ w'.cell? ⟨w.heap.size, 6, none⟩ = some (.slice A6 ks.length c6)) (ds := [6]) #[false, false, false, false, false, false, false] (by kernel_rfl) rfl rfl ⟨m1, g6⟩ (fun hHeld => ?_)
  refine zq 0 (some 57) ?_
  refine zq 1 (some 58) ?_
  refine zq 2 (some 59) ?_
  refine zq 4 (some 61) ?_
  refine zu 3 (some 60) hHeld ?_
  refine zu 5 (some 62) hHeld ?_
  refine last_ (i := 6) (N := some 63) #[true, true, true, true, true, true, true] rfl rfl (by kernel_rfl) (by decide) (fun K hK => ?_)
  refine goes_ Try.func74 (by kernel_rfl) rfl #[.pointer (some ⟨p2, 0, none⟩), .slice A6 ks.length c6] (by rfl) rfl rfl (by simp only [List.map_toArray, List.map_cons, List.map_nil]; rfl) ?_
  obtain ⟨X2, hR, hx2, hnx⟩ := (HT.out.below (below_drew (Below.refl _ _))).openR
  have hst := (HIN.out.stays hB1 (Upd.refl Z _).drew HZ.out hx2).2
  refine (rrestart_calls _ p2 X2 s A6 c6 ks hR HOK.out hst).mono ?_
  rintro e w2 ⟨rfl, hs⟩
  refine ⟨_, rfl, ?_⟩
  have HT2 := Aside0.mk (hnx _ _ hs)
  have hb2 := (HFIN.out w2 s HT2.out.1).1
  have hg2 := blk_upd HG.out HT2.out.1 hgz
  have x0 := blk_cell hg2 0
  have x1 := blk_cell hg2 1
  have x2 := blk_cell hg2 2
  have x3 := blk_cell hg2 3
  have x4 := blk_cell hg2 4
  have x5 := blk_cell hg2 5
  have x6 := blk_cell hg2 6
  have fx0 := blk_frozen hg2 0
  have fx1 := blk_frozen hg2 1
  have fx2 := blk_frozen hg2 2
  have fx3 := blk_frozen hg2 3
  have fx4 := blk_frozen hg2 4
  have fx5 := blk_frozen hg2 5
  have fx6 := blk_frozen hg2 6
  simp only [List.getElem?_toArray, List.getElem?_cons_succ, List.getElem?_cons_zero] at x0 x1 x2 x3 x4 x5 x6
  have y0 := blk_cell hb2 0
  have y1 := blk_cell hb2 1
  have fy0 := blk_frozen hb2 0
  have fy1 := blk_frozen hb2 1
  simp only [List.getElem?_toArray, List.getElem?_cons_succ, List.getElem?_cons_zero] at y0 y1
  clear hb2 hg2
  clear hs hnx hR hx2 hst
  refine hK.out _ _ ?_
  clear hK K
  refine norm_ (a' := ?_) ?_ ?_
  rotate_left
  · show Act.put _ (some 63) _ = _
    simp only [Act.put, zla, zlb, zlc, i64_w, i32_w]
    rfl
  refine done_ (by kernel_rfl) ?_
  go_wp2
  refine start_ (n := 9) (S := fun w' => w'.cell? ⟨b, 0, none⟩ = some (.pointer (some ⟨p1, 0, none⟩)) ∧ w'.cell? ⟨w.heap.size, 6, none⟩ = some (.slice A6 ks.length c6)) (ds := [8]) #[false, false, false, false, false, false, false, false, false] (by kernel_rfl) rfl rfl ⟨y0, x6⟩ (fun hHeld => ?_)
  refine zq 0 (some 64) ?_
  refine zq 1 (some 65) ?_
  refine zq 2 (some 66) ?_
  refine zq 5 (some 69) ?_
  refine zu 3 (some 67) hHeld ?_
  refine zu 6 (some 70) hHeld ?_
  refine one_ (i := 4) (N := some 68) #[true, true, true, true, true, true, true, false, false] rfl rfl (by kernel_rfl) (by decide) (fun K hK => ?_)
  refine Kd.R_lit_step (Kd.int .i64) (w0 := w2.drew) w2.drew.heap.size 3 (by rfl) rfl (xs := []) (inner := []) (ok := fun _ => True) (okp := fun _ => False) ?hrun (Reps.none _ _) (fun _ h => h.elim) trivial (Below.refl _ _) (Nat.le_refl _) (by decide) ?_
  case hrun => go_simp
  intro v4 w4 r4 b4 g4 l4
  have HT4 := Aside0.mk ((HT2.out.below (below_drew (Below.refl _ _))).below b4)
  have hb4 := (HFIN.out w4 s HT4.out.1).1
  have hg4 := blk_upd HG.out HT4.out.1 hgz
  have d0 := blk_cell hg4 0
  have d1 := blk_cell hg4 1
  have d2 := blk_cell hg4 2
  have d3 := blk_cell hg4 3
  have d4 := blk_cell hg4 4
  have d5 := blk_cell hg4 5
  have d6 := blk_cell hg4 6
  have fd0 := blk_frozen hg4 0
  have fd1 := blk_frozen hg4 1
  have fd2 := blk_frozen hg4 2
  have fd3 := blk_frozen hg4 3
  have fd4 := blk_frozen hg4 4
  have fd5 := blk_frozen hg4 5
  have fd6 := blk_frozen hg4 6
  simp only [List.getElem?_toArray, List.getElem?_cons_succ, List.getElem?_cons_zero] at d0 d1 d2 d3 d4 d5 d6
  have e0 := blk_cell hb4 0
  have e1 := blk_cell hb4 1
  have fe0 := blk_frozen hb4 0
  have fe1 := blk_frozen hb4 1
  simp only [List.getElem?_toArray, List.getElem?_cons_succ, List.getElem?_cons_zero] at e0 e1
  have R4 := Aside0.mk r4
  have B4 := Aside0.mk b4
  clear r4 b4 g4 l4 hb4 hg4
  refine hK.out _ _ ⟨e0, d6⟩ (fun hHeld => ?_)
  clear hK K
  refine norm_ (a' := ?_) ?_ ?_
  rotate_left
  · show Act.put _ (some 68) _ = _
    simp only [Act.put, zla, zlb, zlc, i64_w, i32_w]
    rfl
  refine one_ (i := 7) (N := some 71) #[true, true, true, true, true, true, true, true, false] rfl rfl (by kernel_rfl) (by decide) (fun K hK => ?_)
  refine Kd.R_append_rows_step (Kd.int .i64) (w0 := w2.drew) w2.drew.heap.size (by rfl) (.tmp 68) (.tmp 70) 39 3 (.int .i64 0) 8 rfl Try.underlying39 info3_ rfl (by decide) (by decide) _ [] ks _ _ _ (fun _ => True) (fun _ => False) rfl rfl R4.out (HIN.out.r6 _ (HT4.out.1.below hB1 HZ.out)) (fun _ _ h => h) (fun _ h => h.elim) (fun _ _ => trivial) B4.out B4.out.size (by show (0 + ks.length) * 8 ≤ _; omega) ?_
  intro v7 w7 r7 b7 g7 l7
  rw [List.nil_append] at r7
  have hX7 : ∀ X : Nat → Prop, (∀ k, X k → k < w2.drew.heap.size) → ∀ A c, v7 = .slice A ks.length c → StaysI X w7 A ks := fun X hX A c e w8 h8 => by
    subst e
    refine (Kd.R_reads' (Kd.R_move (Kd.R_tight rfl r7) (fun k hk => h8.same k (Kd.R_lt r7 k hk.symm) (fun hx => ?_)))).2.2
    have h4 := ((Kd.R_bound r7).1 k hk.symm).2.1
    have h5 := hX k hx
    omega
  obtain ⟨A7, c7, rfl, hc7, hC7⟩ := Kd.R_reads r7
  obtain ⟨X1, hP, hx1, hnx⟩ := (HT2.out.below (below_drew (Below.refl _ _))).openP
  have HST := Aside0.mk (hX7 X1 hP.bd A7 c7 rfl)
  have HNX := Aside0.mk (fun (W : World) (s' : St) (hq : PStep p1 X1 w7 W s') => hnx W s' ((PStep.below hP b7).trans (hq.more_ b7.size)))
  have HP := Aside0.mk (hP.below b7)
  have HT7 := Aside0.mk ((HT2.out.below (below_drew (Below.refl _ _))).below b7)
  have hb7 := (HFIN.out w7 s HT7.out.1).1
  have hg7 := blk_upd HG.out HT7.out.1 hgz
  have o0 := blk_cell hg7 0
  have o1 := blk_cell hg7 1
  have o2 := blk_cell hg7 2
  have o3 := blk_cell hg7 3
  have o4 := blk_cell hg7 4
  have o5 := blk_cell hg7 5
  have o6 := blk_cell hg7 6
  have fo0 := blk_frozen hg7 0
  have fo1 := blk_frozen hg7 1
  have fo2 := blk_frozen hg7 2
  have fo3 := blk_frozen hg7 3
  have fo4 := blk_frozen hg7 4
  have fo5 := blk_frozen hg7 5
  have fo6 := blk_frozen hg7 6
  simp only [List.getElem?_toArray, List.getElem?_cons_succ, List.getElem?_cons_zero] at o0 o1 o2 o3 o4 o5 o6
  have q0 := blk_cell hb7 0
  have q1 := blk_cell hb7 1
  have fq0 := blk_frozen hb7 0
  have fq1 := blk_frozen hb7 1
  simp only [List.getElem?_toArray, List.getElem?_cons_succ, List.getElem?_cons_zero] at q0 q1
  clear r7 b7 g7 l7 hb7 hg7 hX7 hC7 hP hx1 hnx
  refine hK.out _ _ ⟨q0, o6⟩ (fun hHeld => ?_)
  clear hK K
  refine norm_ (a' := ?_) ?_ ?_
  rotate_left
  · show Act.put _ (some 71) _ = _
    simp only [Act.put, zla, zlb, zlc, i64_w, i32_w]
    rfl
  refine last_ (i := 8) (N := some 72) #[true, true, true, true, true, true, true, true, true] rfl rfl (by kernel_rfl) (by decide) (fun K hK => ?_)
  refine goes_ Try.func24 (by kernel_rfl) rfl #[.pointer (some ⟨p1, 0, none⟩), .slice A7 ks.length c7] (by rfl) rfl rfl (by simp only [List.map_toArray, List.map_cons, List.map_nil]; rfl) ?_
  refine (restart_calls _ p1 X1 s A7 c7 ks HP.out HOK.out HST.out).mono ?_
  rintro e w8 ⟨rfl, hs⟩
  refine ⟨_, rfl, ?_⟩
  have HT8 := Aside0.mk (HNX.out _ _ hs)
  clear hs
  refine hK.out _ _ ?_
  clear hK K
  refine norm_ (a' := ?_) ?_ ?_
  rotate_left
  · show Act.put _ (some 72) _ = _
    simp only [Act.put, zla, zlb, zlc, i64_w, i32_w]
    rfl
  refine done_ (by kernel_rfl) ?_
  go_wp2
  go_ret
  exact ⟨rfl, (HFIN.out _ _ (HT8.out.below (by repeat (with_reducible first | exact Below.refl _ _ | apply below_drew | apply pw_below_drewN))).1).2 (HT8.out.below (by repeat (with_reducible first | exact Below.refl _ _ | apply below_drew | apply pw_below_drewN)))⟩
end Go.Proofs.Ytfholpajdkjbbaa.DK
