/- The law's pair of disks behind one call: Read, List, Files; conditions: those in each theorem. -/
import Derived.Test.YtfholpajdkjbbaaQeLd
namespace Go.Proofs.Ytfholpajdkjbbaa.DK
open Go.Proofs.Ytfholpajdkjbbaa.PD
open Go.RowKit Go.Proofs.YtfholpajdkjbbaaW.PrintWords Go.Proofs.YtfholpajdkjbbaaW.PrintLast Go.Proofs.YtfholpajdkjbbaaW.PrintMore Go.Proofs.Ytfholpajdkjbbaa.Mo
set_option linter.unusedVariables false
set_option linter.unusedSimpArgs false
theorem same_same (w : World) (A0 : Option Addr) (c0 : Nat) (l : List Int) (A1 : Option Addr) (c1 : Nat) (hr0 : (Kd.int .u8).C w A0 l.length l) (hc0 : l.length ≤ c0) (hr1 : (Kd.int .u8).C w A1 l.length l) (hc1 : l.length ≤ c1) (h0 : l.length < 2 ^ 62) :
    Calls Try.prog 37 #[.slice A0 l.length c0, .slice A1 l.length c1] w fun e w' => e = .returned (.bool true) ∧ Drawn0 w w' := by
  obtain ⟨k, hk⟩ := Ev.rounds (same_f l l h0)
  rw [decide_eq_true rfl] at hk
  exact PD.eddylaw10_same.calls k A0 c0 l A1 c1 l _ w hr0 hc0 hr1 hc1 hk
theorem listed_same (w : World) (A0 : Option Addr) (c0 : Nat) (l : List ByteArray) (A1 : Option Addr) (c1 : Nat) (hr0 : Kd.string.C w A0 l.length l) (hc0 : l.length ≤ c0) (hr1 : Kd.string.C w A1 l.length l) (hc1 : l.length ≤ c1) (h0 : l.length < 2 ^ 62) :
    Calls Try.prog 70 #[.slice A0 l.length c0, .slice A1 l.length c1] w fun e w' => e = .returned (.bool true) ∧ Drawn0 w w' := by
  obtain ⟨k, hk⟩ := Ev.rounds (listed_f l l h0)
  rw [decide_eq_true rfl] at hk
  exact PD.eddylaw10_listed.calls k A0 c0 l A1 c1 l _ w hr0 hc0 hr1 hc1 hk
theorem read_small {s : St} (ok : Ok s) (nm : ByteArray) : (s.read nm).1.length < 2 ^ 62 := by
  unfold St.read
  split
  · simp
  · cases h : find s.all nm with
    | none => simp
    | some f =>
      have := ok.small f (find_some h).1
      show f.data.length < _
      rw [data_length]
      omega
theorem list_small {s : St} (ok : Ok s) : s.list.1.length < 2 ^ 62 := by
  have := ok.few
  unfold St.list
  split
  · simp
  · show (s.all.map _).length < _
    rw [List.length_map]
    omega
def LooksPost (w : World) (b : Nat) (Z : Nat → Prop) (s : St) (e : Ending) (w' : World) : Prop := e = .returned (.bool true) ∧ PairStep b Z w w' s
set_option maxHeartbeats 4000000 in
set_option maxRecDepth 100000 in
theorem looks_read (w : World) (b B : Nat) (Z : Nat → Prop) (s : St) (wh : Int) (nm : ByteArray) (n af : Int) (bs ks : List Int) (A5 : Option Addr) (c5 : Nat) (A6 : Option Addr) (c6 : Nat) (h : Pair w b Z s) (ok : Ok s) (hBw : B ≤ w.heap.size) (hZ : ∀ k, Z k → B ≤ k) (hin : OpIn w B bs A5 c5 ks A6 c6) :
    Calls Try.prog 51 #[.pointer (some ⟨b, 0, none⟩), .agg #[.int .i64 5, .int .i64 wh, .string nm, .int .i64 n, .int .i64 af, .slice A5 bs.length c5, .slice A6 ks.length c6]] w (LooksPost w b Z s) := by
  have hbox := below_alloc (Below.refl w.heap.size w) (.cells #[.int .i64 5, .int .i64 wh, .string nm, .int .i64 n, .int .i64 af, .slice A5 bs.length c5, .slice A6 ks.length c6] 41)
  have hg := heap_alloc_new w (.cells #[.int .i64 5, .int .i64 wh, .string nm, .int .i64 n, .int .i64 af, .slice A5 bs.length c5, .slice A6 ks.length c6] 41)
  have hgz : ¬ Z w.heap.size := fun hk => Nat.lt_irrefl _ (h.bd _ hk)
  obtain ⟨p1, p2, ht, hfin⟩ := h.open_ hbox
  have hin1 := hin.below (hbox.mono hBw)
  have hlt := h.lt
  have hsz1 : w.heap.size < (w.alloc (.cells #[.int .i64 5, .int .i64 wh, .string nm, .int .i64 n, .int .i64 af, .slice A5 bs.length c5, .slice A6 ks.length c6] 41)).heap.size := by rw [World.size_alloc']; omega
  have hB1 : B ≤ (w.alloc (.cells #[.int .i64 5, .int .i64 wh, .string nm, .int .i64 n, .int .i64 af, .slice A5 bs.length c5, .slice A6 ks.length c6] 41)).heap.size := by omega
  have hb1 := (hfin _ s (Upd.refl _ _)).1
  have HG := Aside0.mk hg
  have HT := Aside0.mk ht
  have HFIN := Aside0.mk hfin
  have HIN := Aside0.mk hin1
  have HOK := Aside0.mk ok
  have HZ := Aside0.mk hZ
  have g0 := blk_cell hg 0
  have g1 := blk_cell hg 1
  have g2 := blk_cell hg 2
  have g3 := blk_cell hg 3
  have g4 := blk_cell hg 4
  have g5 := blk_cell hg 5
  have g6 := blk_cell hg 6
  have fg0 := blk_frozen hg 0
  have fg1 := blk_frozen hg 1
  have fg2 := blk_frozen hg 2
  have fg3 := blk_frozen hg 3
  have fg4 := blk_frozen hg 4
  have fg5 := blk_frozen hg 5
  have fg6 := blk_frozen hg 6
  simp only [List.getElem?_toArray, List.getElem?_cons_succ, List.getElem?_cons_zero] at g0 g1 g2 g3 g4 g5 g6
  have m0 := blk_cell hb1 0
  have m1 := blk_cell hb1 1
  have fm0 := blk_frozen hb1 0
  have fm1 := blk_frozen hb1 1
  simp only [List.getElem?_toArray, List.getElem?_cons_succ, List.getElem?_cons_zero] at m0 m1
  clear hg ht hfin hin1 hb1 hbox ok hZ h hin
  unfold LooksPost
  go_enter Try.func51, Try.ntmps51
  go_wp2
  refine start_ (n := 12) (S := fun w' => w'.cell? ⟨b, 0, none⟩ = some (.pointer (some ⟨p1, 0, none⟩)) ∧ w'.cell? ⟨w.heap.size, 2, none⟩ = some (.string nm)) (ds := [6]) #[false, false, false, false, false, false, false, false, false, false, false, false] (by kernel_rfl) rfl rfl ⟨m0, g2⟩ (fun hHeld => ?_)
  refine zq 0 (some 18) ?_
  refine zq 1 (some 19) ?_
  refine zq 2 (some 20) ?_
  refine zq 4 (some 22) ?_
  refine zu 3 (some 21) hHeld ?_
  refine zu 5 (some 23) hHeld ?_
  refine last_ (i := 6) (N := some 24) #[true, true, true, true, true, true, true, false, false, false, false, false] rfl rfl (by kernel_rfl) (by decide) (fun K hK => ?_)
  refine goes_ Try.func36 (by kernel_rfl) rfl #[.pointer (some ⟨p1, 0, none⟩), .string nm] (by rfl) rfl rfl (by simp only [List.map_toArray, List.map_cons, List.map_nil]; rfl) ?_
  obtain ⟨X1, hP, hx1, hnx⟩ := (HT.out.below (below_drew (Below.refl _ _))).openP
  refine (read_calls _ p1 X1 s nm hP HOK.out).mono ?_
  rintro e w2 ⟨v2, rfl, r2, b2⟩
  refine ⟨_, rfl, ?_⟩
  have HT2 := Aside0.mk ((HT.out.below (below_drew (Below.refl _ _))).below b2)
  have hb2 := (HFIN.out w2 s HT2.out.1).1
  have hg2 := blk_upd HG.out HT2.out.1 hgz
  have k0 := blk_cell hg2 0
  have k1 := blk_cell hg2 1
  have k2 := blk_cell hg2 2
  have k3 := blk_cell hg2 3
  have k4 := blk_cell hg2 4
  have k5 := blk_cell hg2 5
  have k6 := blk_cell hg2 6
  have fk0 := blk_frozen hg2 0
  have fk1 := blk_frozen hg2 1
  have fk2 := blk_frozen hg2 2
  have fk3 := blk_frozen hg2 3
  have fk4 := blk_frozen hg2 4
  have fk5 := blk_frozen hg2 5
  have fk6 := blk_frozen hg2 6
  simp only [List.getElem?_toArray, List.getElem?_cons_succ, List.getElem?_cons_zero] at k0 k1 k2 k3 k4 k5 k6
  have l0 := blk_cell hb2 0
  have l1 := blk_cell hb2 1
  have fl0 := blk_frozen hb2 0
  have fl1 := blk_frozen hb2 1
  simp only [List.getElem?_toArray, List.getElem?_cons_succ, List.getElem?_cons_zero] at l0 l1
  clear hb2 hg2
  obtain ⟨A2, c2, rfl, hc2, hC2⟩ := Kd.R_reads r2
  have HC2 := Aside0.mk hC2
  clear hP hx1 hnx r2 hC2 b2
  refine hK.out _ _ ?_
  clear hK K
  refine norm_ (a' := ?_) ?_ ?_
  rotate_left
  · show Act.put _ (some 24) _ = _
    simp only [Act.put, zla, zlb, zlc, i64_w, i32_w]
    rfl
  refine zq 7 (some 17) ?_
  refine zq 8 (some 25) ?_
  refine zq 9 (some 26) ?_
  refine zq 10 (some 5) ?_
  refine zq 11 (some 6) ?_
  refine done_ (by kernel_rfl) ?_
  go_wp2
  refine start_ (n := 12) (S := fun w' => w'.cell? ⟨b, 1, none⟩ = some (.pointer (some ⟨p2, 0, none⟩)) ∧ w'.cell? ⟨w.heap.size, 2, none⟩ = some (.string nm)) (ds := [6]) #[false, false, false, false, false, false, false, false, false, false, false, false] (by kernel_rfl) rfl rfl ⟨l1, k2⟩ (fun hHeld => ?_)
  refine zq 0 (some 28) ?_
  refine zq 1 (some 29) ?_
  refine zq 2 (some 30) ?_
  refine zq 4 (some 32) ?_
  refine zu 3 (some 31) hHeld ?_
  refine zu 5 (some 33) hHeld ?_
  refine last_ (i := 6) (N := some 34) #[true, true, true, true, true, true, true, false, false, false, false, false] rfl rfl (by kernel_rfl) (by decide) (fun K hK => ?_)
  refine goes_ Try.func68 (by kernel_rfl) rfl #[.pointer (some ⟨p2, 0, none⟩), .string nm] (by rfl) rfl rfl (by simp only [List.map_toArray, List.map_cons, List.map_nil]; rfl) ?_
  obtain ⟨X2, hR, hx2, hnx⟩ := (HT2.out.below (below_drew (Below.refl _ _))).openR
  refine (rread_calls _ p2 X2 s nm hR HOK.out).mono ?_
  rintro e w3 ⟨v3, rfl, r3, b3⟩
  refine ⟨_, rfl, ?_⟩
  have HT3 := Aside0.mk ((HT2.out.below (below_drew (Below.refl _ _))).below b3)
  have hb3 := (HFIN.out w3 s HT3.out.1).1
  have hg3 := blk_upd HG.out HT3.out.1 hgz
  have x0 := blk_cell hg3 0
  have x1 := blk_cell hg3 1
  have x2 := blk_cell hg3 2
  have x3 := blk_cell hg3 3
  have x4 := blk_cell hg3 4
  have x5 := blk_cell hg3 5
  have x6 := blk_cell hg3 6
  have fx0 := blk_frozen hg3 0
  have fx1 := blk_frozen hg3 1
  have fx2 := blk_frozen hg3 2
  have fx3 := blk_frozen hg3 3
  have fx4 := blk_frozen hg3 4
  have fx5 := blk_frozen hg3 5
  have fx6 := blk_frozen hg3 6
  simp only [List.getElem?_toArray, List.getElem?_cons_succ, List.getElem?_cons_zero] at x0 x1 x2 x3 x4 x5 x6
  have y0 := blk_cell hb3 0
  have y1 := blk_cell hb3 1
  have fy0 := blk_frozen hb3 0
  have fy1 := blk_frozen hb3 1
  simp only [List.getElem?_toArray, List.getElem?_cons_succ, List.getElem?_cons_zero] at y0 y1
  clear hb3 hg3
  obtain ⟨A3, c3, rfl, hc3, hC3⟩ := Kd.R_reads r3
  have HC3 := Aside0.mk hC3
  have HC4 := Aside0.mk (Kd.C_below (Kd.C_drew HC2.out) b3)
  clear hR hx2 hnx r3 hC3 b3
  refine hK.out _ _ ?_
  clear hK K
  refine norm_ (a' := ?_) ?_ ?_
  rotate_left
  · show Act.put _ (some 34) _ = _
    simp only [Act.put, zla, zlb, zlc, i64_w, i32_w]
    rfl
  refine zq 7 (some 27) ?_
  refine zq 8 (some 35) ?_
  refine zq 9 (some 36) ?_
  refine zq 10 (some 7) ?_
  refine zq 11 (some 8) ?_
  refine done_ (by kernel_rfl) ?_
  have hsm := read_small HOK.out nm
  go_wp2_with fail
  refine (num_calls _ _).mono ?_
  rintro e w4 ⟨rfl, ⟨⟨nd, rfl⟩⟩⟩
  go_wp2_with fail
  refine (same_same _ A2 c2 (s.read nm).1 A3 c3 (Kd.C_drewN HC4.out nd) hc2 (Kd.C_drewN HC3.out nd) hc3 hsm).mono ?_
  rintro e w5 ⟨rfl, ⟨⟨nd2, rfl⟩⟩⟩
  go_wp2_with fail
  go_ret
  exact ⟨rfl, (HFIN.out _ _ (HT3.out.below (by repeat (with_reducible first | exact Below.refl _ _ | apply below_drew | apply pw_below_drewN))).1).2 (HT3.out.below (by repeat (with_reducible first | exact Below.refl _ _ | apply below_drew | apply pw_below_drewN)))⟩
set_option maxHeartbeats 4000000 in
set_option maxRecDepth 100000 in
theorem looks_list (w : World) (b B : Nat) (Z : Nat → Prop) (s : St) (wh : Int) (nm : ByteArray) (n af : Int) (bs ks : List Int) (A5 : Option Addr) (c5 : Nat) (A6 : Option Addr) (c6 : Nat) (h : Pair w b Z s) (ok : Ok s) (hBw : B ≤ w.heap.size) (hZ : ∀ k, Z k → B ≤ k) (hin : OpIn w B bs A5 c5 ks A6 c6) :
    Calls Try.prog 51 #[.pointer (some ⟨b, 0, none⟩), .agg #[.int .i64 6, .int .i64 wh, .string nm, .int .i64 n, .int .i64 af, .slice A5 bs.length c5, .slice A6 ks.length c6]] w (LooksPost w b Z s) := by
  have hbox := below_alloc (Below.refl w.heap.size w) (.cells #[.int .i64 6, .int .i64 wh, .string nm, .int .i64 n, .int .i64 af, .slice A5 bs.length c5, .slice A6 ks.length c6] 41)
  have hg := heap_alloc_new w (.cells #[.int .i64 6, .int .i64 wh, .string nm, .int .i64 n, .int .i64 af, .slice A5 bs.length c5, .slice A6 ks.length c6] 41)
  have hgz : ¬ Z w.heap.size := fun hk => Nat.lt_irrefl _ (h.bd _ hk)
  obtain ⟨p1, p2, ht, hfin⟩ := h.open_ hbox
  have hin1 := hin.below (hbox.mono hBw)
  have hlt := h.lt
  have hsz1 : w.heap.size < (w.alloc (.cells #[.int .i64 6, .int .i64 wh, .string nm, .int .i64 n, .int .i64 af, .slice A5 bs.length c5, .slice A6 ks.length c6] 41)).heap.size := by rw [World.size_alloc']; omega
  have hB1 : B ≤ (w.alloc (.cells #[.int .i64 6, .int .i64 wh, .string nm, .int .i64 n, .int .i64 af, .slice A5 bs.length c5, .slice A6 ks.length c6] 41)).heap.size := by omega
  have hb1 := (hfin _ s (Upd.refl _ _)).1
  have HG := Aside0.mk hg
  have HT := Aside0.mk ht
  have HFIN := Aside0.mk hfin
  have HIN := Aside0.mk hin1
  have HOK := Aside0.mk ok
  have HZ := Aside0.mk hZ
  have g0 := blk_cell hg 0
  have g1 := blk_cell hg 1
  have g2 := blk_cell hg 2
  have g3 := blk_cell hg 3
  have g4 := blk_cell hg 4
  have g5 := blk_cell hg 5
  have g6 := blk_cell hg 6
  have fg0 := blk_frozen hg 0
  have fg1 := blk_frozen hg 1
  have fg2 := blk_frozen hg 2
  have fg3 := blk_frozen hg 3
  have fg4 := blk_frozen hg 4
  have fg5 := blk_frozen hg 5
  have fg6 := blk_frozen hg 6
  simp only [List.getElem?_toArray, List.getElem?_cons_succ, List.getElem?_cons_zero] at g0 g1 g2 g3 g4 g5 g6
  have m0 := blk_cell hb1 0
  have m1 := blk_cell hb1 1
  have fm0 := blk_frozen hb1 0
  have fm1 := blk_frozen hb1 1
  simp only [List.getElem?_toArray, List.getElem?_cons_succ, List.getElem?_cons_zero] at m0 m1
  clear hg ht hfin hin1 hb1 hbox ok hZ h hin
  unfold LooksPost
  go_enter Try.func51, Try.ntmps51
  obtain ⟨X1, hP, hx1, hnx⟩ := HT.out.openP
  have HL := Aside0.mk (list_calls _ p1 X1 s hP HOK.out)
  clear hP hx1 hnx
  go_wp2_with fail
  refine HL.out.mono ?_
  rintro e w2 ⟨v2, rfl, r2, b2⟩
  have HT2 := Aside0.mk (HT.out.below b2)
  have hb2 := (HFIN.out w2 s HT2.out.1).1
  have hg2 := blk_upd HG.out HT2.out.1 hgz
  have k0 := blk_cell hg2 0
  have k1 := blk_cell hg2 1
  have k2 := blk_cell hg2 2
  have k3 := blk_cell hg2 3
  have k4 := blk_cell hg2 4
  have k5 := blk_cell hg2 5
  have k6 := blk_cell hg2 6
  have fk0 := blk_frozen hg2 0
  have fk1 := blk_frozen hg2 1
  have fk2 := blk_frozen hg2 2
  have fk3 := blk_frozen hg2 3
  have fk4 := blk_frozen hg2 4
  have fk5 := blk_frozen hg2 5
  have fk6 := blk_frozen hg2 6
  simp only [List.getElem?_toArray, List.getElem?_cons_succ, List.getElem?_cons_zero] at k0 k1 k2 k3 k4 k5 k6
  have l0 := blk_cell hb2 0
  have l1 := blk_cell hb2 1
  have fl0 := blk_frozen hb2 0
  have fl1 := blk_frozen hb2 1
  simp only [List.getElem?_toArray, List.getElem?_cons_succ, List.getElem?_cons_zero] at l0 l1
  clear hb2 hg2
  obtain ⟨A2, c2, rfl, hc2, hC2⟩ := Kd.R_reads r2
  have HC2 := Aside0.mk hC2
  obtain ⟨X2, hR, hx2, hnx⟩ := HT2.out.openR
  have HL2 := Aside0.mk (rlist_calls _ p2 X2 s hR HOK.out)
  clear hR hx2 hnx r2 hC2 b2
  go_wp2_with fail
  refine HL2.out.mono ?_
  rintro e w3 ⟨v3, rfl, r3, b3⟩
  have HT3 := Aside0.mk (HT2.out.below b3)
  have hb3 := (HFIN.out w3 s HT3.out.1).1
  have hg3 := blk_upd HG.out HT3.out.1 hgz
  have x0 := blk_cell hg3 0
  have x1 := blk_cell hg3 1
  have x2 := blk_cell hg3 2
  have x3 := blk_cell hg3 3
  have x4 := blk_cell hg3 4
  have x5 := blk_cell hg3 5
  have x6 := blk_cell hg3 6
  have fx0 := blk_frozen hg3 0
  have fx1 := blk_frozen hg3 1
  have fx2 := blk_frozen hg3 2
  have fx3 := blk_frozen hg3 3
  have fx4 := blk_frozen hg3 4
  have fx5 := blk_frozen hg3 5
  have fx6 := blk_frozen hg3 6
  simp only [List.getElem?_toArray, List.getElem?_cons_succ, List.getElem?_cons_zero] at x0 x1 x2 x3 x4 x5 x6
  have y0 := blk_cell hb3 0
  have y1 := blk_cell hb3 1
  have fy0 := blk_frozen hb3 0
  have fy1 := blk_frozen hb3 1
  simp only [List.getElem?_toArray, List.getElem?_cons_succ, List.getElem?_cons_zero] at y0 y1
  clear hb3 hg3
  obtain ⟨A3, c3, rfl, hc3, hC3⟩ := Kd.R_reads r3
  have HC3 := Aside0.mk hC3
  have HC4 := Aside0.mk (Kd.C_below HC2.out b3)
  clear r3 hC3 b3
  have hsm := list_small HOK.out
  go_wp2_with fail
  refine (num_calls _ _).mono ?_
  rintro e w4 ⟨rfl, ⟨⟨nd, rfl⟩⟩⟩
  go_wp2_with fail
  refine (listed_same _ A2 c2 s.list.1 A3 c3 (Kd.C_drewN HC4.out nd) hc2 (Kd.C_drewN HC3.out nd) hc3 hsm).mono ?_
  rintro e w5 ⟨rfl, ⟨⟨nd2, rfl⟩⟩⟩
  go_wp2_with fail
  go_ret
  exact ⟨rfl, (HFIN.out _ _ (HT3.out.below (by repeat (with_reducible first | exact Below.refl _ _ | apply below_drew | apply pw_below_drewN))).1).2 (HT3.out.below (by repeat (with_reducible first | exact Below.refl _ _ | apply below_drew | apply pw_below_drewN)))⟩
set_option maxHeartbeats 4000000 in
set_option maxRecDepth 100000 in
theorem looks_files (w : World) (b B : Nat) (Z : Nat → Prop) (s : St) (wh : Int) (nm : ByteArray) (n af : Int) (bs ks : List Int) (A5 : Option Addr) (c5 : Nat) (A6 : Option Addr) (c6 : Nat) (h : Pair w b Z s) (ok : Ok s) (hBw : B ≤ w.heap.size) (hZ : ∀ k, Z k → B ≤ k) (hin : OpIn w B bs A5 c5 ks A6 c6) :
    Calls Try.prog 51 #[.pointer (some ⟨b, 0, none⟩), .agg #[.int .i64 12, .int .i64 wh, .string nm, .int .i64 n, .int .i64 af, .slice A5 bs.length c5, .slice A6 ks.length c6]] w (LooksPost w b Z s) := by
  have hbox := below_alloc (Below.refl w.heap.size w) (.cells #[.int .i64 12, .int .i64 wh, .string nm, .int .i64 n, .int .i64 af, .slice A5 bs.length c5, .slice A6 ks.length c6] 41)
  have hg := heap_alloc_new w (.cells #[.int .i64 12, .int .i64 wh, .string nm, .int .i64 n, .int .i64 af, .slice A5 bs.length c5, .slice A6 ks.length c6] 41)
  have hgz : ¬ Z w.heap.size := fun hk => Nat.lt_irrefl _ (h.bd _ hk)
  obtain ⟨p1, p2, ht, hfin⟩ := h.open_ hbox
  have hin1 := hin.below (hbox.mono hBw)
  have hlt := h.lt
  have hsz1 : w.heap.size < (w.alloc (.cells #[.int .i64 12, .int .i64 wh, .string nm, .int .i64 n, .int .i64 af, .slice A5 bs.length c5, .slice A6 ks.length c6] 41)).heap.size := by rw [World.size_alloc']; omega
  have hB1 : B ≤ (w.alloc (.cells #[.int .i64 12, .int .i64 wh, .string nm, .int .i64 n, .int .i64 af, .slice A5 bs.length c5, .slice A6 ks.length c6] 41)).heap.size := by omega
  have hb1 := (hfin _ s (Upd.refl _ _)).1
  have HG := Aside0.mk hg
  have HT := Aside0.mk ht
  have HFIN := Aside0.mk hfin
  have HIN := Aside0.mk hin1
  have HOK := Aside0.mk ok
  have HZ := Aside0.mk hZ
  have g0 := blk_cell hg 0
  have g1 := blk_cell hg 1
  have g2 := blk_cell hg 2
  have g3 := blk_cell hg 3
  have g4 := blk_cell hg 4
  have g5 := blk_cell hg 5
  have g6 := blk_cell hg 6
  have fg0 := blk_frozen hg 0
  have fg1 := blk_frozen hg 1
  have fg2 := blk_frozen hg 2
  have fg3 := blk_frozen hg 3
  have fg4 := blk_frozen hg 4
  have fg5 := blk_frozen hg 5
  have fg6 := blk_frozen hg 6
  simp only [List.getElem?_toArray, List.getElem?_cons_succ, List.getElem?_cons_zero] at g0 g1 g2 g3 g4 g5 g6
  have m0 := blk_cell hb1 0
  have m1 := blk_cell hb1 1
  have fm0 := blk_frozen hb1 0
  have fm1 := blk_frozen hb1 1
  simp only [List.getElem?_toArray, List.getElem?_cons_succ, List.getElem?_cons_zero] at m0 m1
  clear hg ht hfin hin1 hb1 hbox ok hZ h hin
  unfold LooksPost
  go_enter Try.func51, Try.ntmps51
  go_wp2
  refine start_ (n := 12) (S := fun w' => w'.cell? ⟨b, 0, none⟩ = some (.pointer (some ⟨p1, 0, none⟩)) ∧ w'.cell? ⟨b, 1, none⟩ = some (.pointer (some ⟨p2, 0, none⟩))) (ds := [10]) #[false, false, false, false, false, false, false, false, false, false, false, false] (by kernel_rfl) rfl rfl ⟨m0, m1⟩ (fun hHeld => ?_)
  refine zq 0 (some 73) ?_
  refine zq 1 (some 74) ?_
  refine zq 2 (some 75) ?_
  refine zq 5 (some 78) ?_
  refine zq 6 (some 79) ?_
  refine zq 7 (some 80) ?_
  refine zu 3 (some 76) hHeld ?_
  refine zu 8 (some 81) hHeld ?_
  refine one_ (i := 4) (N := some 77) #[true, true, true, true, true, true, true, true, true, false, false, false] rfl rfl (by kernel_rfl) (by decide) (fun K hK => ?_)
  refine goes_ Try.func18 (by kernel_rfl) rfl #[.pointer (some ⟨p1, 0, none⟩)] (by rfl) rfl rfl (by simp only [List.map_toArray, List.map_cons, List.map_nil]; rfl) ?_
  obtain ⟨X1, hP, hx1, hnx⟩ := (HT.out.below (below_drew (Below.refl _ _))).openP
  refine (files_calls _ p1 X1 s hP HOK.out).mono ?_
  rintro e w2 ⟨v2, rfl, r2, b2⟩
  refine ⟨_, rfl, ?_⟩
  have HT2 := Aside0.mk ((HT.out.below (below_drew (Below.refl _ _))).below b2)
  have hb2 := (HFIN.out w2 s HT2.out.1).1
  have hg2 := blk_upd HG.out HT2.out.1 hgz
  have k0 := blk_cell hg2 0
  have k1 := blk_cell hg2 1
  have k2 := blk_cell hg2 2
  have k3 := blk_cell hg2 3
  have k4 := blk_cell hg2 4
  have k5 := blk_cell hg2 5
  have k6 := blk_cell hg2 6
  have fk0 := blk_frozen hg2 0
  have fk1 := blk_frozen hg2 1
  have fk2 := blk_frozen hg2 2
  have fk3 := blk_frozen hg2 3
  have fk4 := blk_frozen hg2 4
  have fk5 := blk_frozen hg2 5
  have fk6 := blk_frozen hg2 6
  simp only [List.getElem?_toArray, List.getElem?_cons_succ, List.getElem?_cons_zero] at k0 k1 k2 k3 k4 k5 k6
  have l0 := blk_cell hb2 0
  have l1 := blk_cell hb2 1
  have fl0 := blk_frozen hb2 0
  have fl1 := blk_frozen hb2 1
  simp only [List.getElem?_toArray, List.getElem?_cons_succ, List.getElem?_cons_zero] at l0 l1
  clear hb2 hg2
  obtain ⟨A2, c2, rfl, hc2, hC2⟩ := Kd.R_reads r2
  have HC2 := Aside0.mk hC2
  clear hP hx1 hnx r2 hC2 b2
  refine hK.out _ _ ⟨l0, l1⟩ (fun hHeld => ?_)
  clear hK K
  refine norm_ (a' := ?_) ?_ ?_
  rotate_left
  · show Act.put _ (some 77) _ = _
    simp only [Act.put, zla, zlb, zlc, i64_w, i32_w]
    rfl
  refine one_ (i := 9) (N := some 82) #[true, true, true, true, true, true, true, true, true, true, false, false] rfl rfl (by kernel_rfl) (by decide) (fun K hK => ?_)
  refine goes_ Try.func19 (by kernel_rfl) rfl #[.pointer (some ⟨p2, 0, none⟩)] (by rfl) rfl rfl (by simp only [List.map_toArray, List.map_cons, List.map_nil]; rfl) ?_
  obtain ⟨X2, hR, hx2, hnx⟩ := HT2.out.openR
  refine (rfiles_calls _ p2 X2 s hR HOK.out).mono ?_
  rintro e w3 ⟨v3, rfl, r3, b3⟩
  refine ⟨_, rfl, ?_⟩
  have HT3 := Aside0.mk (HT2.out.below b3)
  have hb3 := (HFIN.out w3 s HT3.out.1).1
  have hg3 := blk_upd HG.out HT3.out.1 hgz
  have x0 := blk_cell hg3 0
  have x1 := blk_cell hg3 1
  have x2 := blk_cell hg3 2
  have x3 := blk_cell hg3 3
  have x4 := blk_cell hg3 4
  have x5 := blk_cell hg3 5
  have x6 := blk_cell hg3 6
  have fx0 := blk_frozen hg3 0
  have fx1 := blk_frozen hg3 1
  have fx2 := blk_frozen hg3 2
  have fx3 := blk_frozen hg3 3
  have fx4 := blk_frozen hg3 4
  have fx5 := blk_frozen hg3 5
  have fx6 := blk_frozen hg3 6
  simp only [List.getElem?_toArray, List.getElem?_cons_succ, List.getElem?_cons_zero] at x0 x1 x2 x3 x4 x5 x6
  have y0 := blk_cell hb3 0
  have y1 := blk_cell hb3 1
  have fy0 := blk_frozen hb3 0
  have fy1 := blk_frozen hb3 1
  simp only [List.getElem?_toArray, List.getElem?_cons_succ, List.getElem?_cons_zero] at y0 y1
  clear hb3 hg3
  obtain ⟨A3, c3, rfl, hc3, hC3⟩ := Kd.R_reads r3
  have HC3 := Aside0.mk hC3
  have HC4 := Aside0.mk (Kd.C_below HC2.out b3)
  clear hR hx2 hnx r3 hC3 b3
  refine hK.out _ _ ⟨y0, y1⟩ (fun hHeld => ?_)
  clear hK K
  refine norm_ (a' := ?_) ?_ ?_
  rotate_left
  · show Act.put _ (some 82) _ = _
    simp only [Act.put, zla, zlb, zlc, i64_w, i32_w]
    rfl
  refine last_ (i := 10) (N := some 83) #[true, true, true, true, true, true, true, true, true, true, true, false] rfl rfl (by kernel_rfl) (by decide) (fun K hK => ?_)
  refine goes_ Try.func17 (by kernel_rfl) rfl #[.slice A2 (files67 s).length c2, .slice A3 (files67 s).length c3] (by rfl) rfl rfl (by simp only [List.map_toArray, List.map_cons, List.map_nil]; rfl) ?_
  refine (alike_same w3 A2 c2 (files67 s) A3 c3 HC4.out hc2 HC3.out hc3 (by rw [files67_len]; have := HOK.out.few; omega) (files67_small HOK.out)).mono ?_
  rintro e w4 ⟨rfl, b4⟩
  refine ⟨_, rfl, ?_⟩
  have HT4 := Aside0.mk (HT3.out.below b4)
  clear b4
  refine hK.out _ _ ?_
  clear hK K
  refine norm_ (a' := ?_) ?_ ?_
  rotate_left
  · show Act.put _ (some 83) _ = _
    simp only [Act.put, zla, zlb, zlc, i64_w, i32_w]
    rfl
  refine zq 11 (some 4) ?_
  refine done_ (by kernel_rfl) ?_
  go_wp2
  go_ret
  exact ⟨rfl, (HFIN.out _ _ (HT4.out.below (by repeat (with_reducible first | exact Below.refl _ _ | apply below_drew | apply pw_below_drewN))).1).2 (HT4.out.below (by repeat (with_reducible first | exact Below.refl _ _ | apply below_drew | apply pw_below_drewN)))⟩
end Go.Proofs.Ytfholpajdkjbbaa.DK
