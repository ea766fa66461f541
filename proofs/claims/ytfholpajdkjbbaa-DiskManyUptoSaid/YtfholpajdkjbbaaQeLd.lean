/- The law's pair of disks behind one call: words; the changing calls; conditions: those in each theorem. -/
import Derived.Test.YtfholpajdkjbbaaQeLc
import Derived.Test.YtfholpajdkjbbaaQeOa
import Derived.Test.YtfholpajdkjbbaaQeRd
import Derived.Test.YtfholpajdkjbbaaQeR4
namespace Go.Proofs.Ytfholpajdkjbbaa.DK
open Go.Proofs.Ytfholpajdkjbbaa.PD
open Go.RowKit Go.Proofs.YtfholpajdkjbbaaW.PrintWords Go.Proofs.YtfholpajdkjbbaaW.PrintLast Go.Proofs.YtfholpajdkjbbaaW.PrintMore Go.Proofs.Ytfholpajdkjbbaa.Mo
set_option linter.unusedVariables false
set_option linter.unusedSimpArgs false
/-- Since w0 two disks apart from one another have come to s1 and s2, in blocks of Z and new ones. -/
def Tr (w0 w : World) (p1 p2 : Nat) (Z : Nat → Prop) (s1 s2 : St) : Prop :=
  Upd Z w0 w ∧ ∃ X1 X2, Prog w p1 X1 s1 ∧ RefD w p2 X2 s2 ∧ (∀ k, X1 k → ¬ X2 k) ∧ ∀ k, X1 k ∨ X2 k → More Z w0 w k
theorem Tr.below {w0 w w' : World} {p1 p2 : Nat} {Z : Nat → Prop} {s1 s2 : St} (h : Tr w0 w p1 p2 Z s1 s2) (hb : Below w.heap.size w w') : Tr w0 w' p1 p2 Z s1 s2 := by
  obtain ⟨hu, X1, X2, hP, hR, ha, hz⟩ := h
  exact ⟨hu.seq (Upd.of_below hb _), X1, X2, hP.below hb, hR.below hb, ha, fun k hk => (hz k hk).elim .inl (fun h => .inr ⟨h.1, Nat.lt_of_lt_of_le h.2 hb.size⟩)⟩
theorem Tr.openR {w0 w : World} {p1 p2 : Nat} {Z : Nat → Prop} {s1 s2 : St} (h : Tr w0 w p1 p2 Z s1 s2) :
    ∃ X2, RefD w p2 X2 s2 ∧ (∀ k, X2 k → Z k ∨ w0.heap.size ≤ k) ∧ ∀ w' s, RStep p2 X2 w w' s → Tr w0 w' p1 p2 Z s1 s := by
  obtain ⟨hu, X1, X2, hP, hR, ha, hz⟩ := h
  refine ⟨X2, hR, fun k hk => (hz k (.inr hk)).elim .inl (fun h => .inr h.1), fun w' s hs => ⟨hu.seq (hs.2.mono (fun k _ hk => (hz k (.inr hk)).elim .inl (fun h => .inr h.1))), X1, More X2 w w', hP.upd hs.2 (fun k h1 h2 => ha k h1 h2), hs.1, fun k h1 h2 => h2.elim (ha k h1) (fun h => absurd (hP.bd k h1) (Nat.not_lt.2 h.1)), ?_⟩⟩
  rintro k (hk | hk | hk)
  · exact (hz k (.inl hk)).elim .inl (fun h => .inr ⟨h.1, Nat.lt_of_lt_of_le h.2 hs.2.size⟩)
  · exact (hz k (.inr hk)).elim .inl (fun h => .inr ⟨h.1, Nat.lt_of_lt_of_le h.2 hs.2.size⟩)
  · exact .inr ⟨Nat.le_trans hu.size hk.1, hk.2⟩
theorem Tr.openP {w0 w : World} {p1 p2 : Nat} {Z : Nat → Prop} {s1 s2 : St} (h : Tr w0 w p1 p2 Z s1 s2) :
    ∃ X1, Prog w p1 X1 s1 ∧ (∀ k, X1 k → Z k ∨ w0.heap.size ≤ k) ∧ ∀ w' s, PStep p1 X1 w w' s → Tr w0 w' p1 p2 Z s s2 := by
  obtain ⟨hu, X1, X2, hP, hR, ha, hz⟩ := h
  refine ⟨X1, hP, fun k hk => (hz k (.inl hk)).elim .inl (fun h => .inr h.1), fun w' s hs => ⟨hu.seq (hs.2.mono (fun k _ hk => (hz k (.inl hk)).elim .inl (fun h => .inr h.1))), More X1 w w', X2, hs.1, hR.upd hs.2 (fun k h1 h2 => ha k h2 h1), fun k h1 h2 => h1.elim (fun h => ha k h h2) (fun h => absurd (hR.bd k h2) (Nat.not_lt.2 h.1)), ?_⟩⟩
  rintro k ((hk | hk) | hk)
  · exact (hz k (.inl hk)).elim .inl (fun h => .inr ⟨h.1, Nat.lt_of_lt_of_le h.2 hs.2.size⟩)
  · exact .inr ⟨Nat.le_trans hu.size hk.1, hk.2⟩
  · exact (hz k (.inr hk)).elim .inl (fun h => .inr ⟨h.1, Nat.lt_of_lt_of_le h.2 hs.2.size⟩)
/-- The pair at b holds two disks of one state, in blocks of Z. -/
structure Pair (w : World) (b : Nat) (Z : Nat → Prop) (s : St) : Prop where
  bd : ∀ k, Z k → k < w.heap.size
  nb : ¬ Z b
  disks : ∃ p1 p2 X1 X2, w.heap[b]? = some (.cells #[.pointer (some ⟨p1, 0, none⟩), .pointer (some ⟨p2, 0, none⟩)] 28 (0, 0)) ∧ Prog w p1 X1 s ∧ RefD w p2 X2 s ∧ (∀ k, X1 k → ¬ X2 k) ∧ ∀ k, X1 k ∨ X2 k → Z k
theorem Pair.lt {w : World} {b : Nat} {Z : Nat → Prop} {s : St} (h : Pair w b Z s) : b < w.heap.size := by
  obtain ⟨p1, p2, X1, X2, hb, _⟩ := h.disks
  exact blk_lt hb
theorem Pair.upd {w w' : World} {b : Nat} {Y Z : Nat → Prop} {s : St} (h : Pair w b Z s) (hu : Upd Y w w') (hy : ∀ k, Z k → ¬ Y k) (hb : ¬ Y b) : Pair w' b Z s := by
  obtain ⟨p1, p2, X1, X2, hc, hP, hR, ha, hz⟩ := h.disks
  exact ⟨fun k hk => Nat.lt_of_lt_of_le (h.bd k hk) hu.size, h.nb, p1, p2, X1, X2, blk_upd hc hu hb, hP.upd hu (fun k hk => hy k (hz k (.inl hk))), hR.upd hu (fun k hk => hy k (hz k (.inr hk))), ha, hz⟩
theorem Pair.below {w w' : World} {b : Nat} {Z : Nat → Prop} {s : St} (h : Pair w b Z s) (hb : Below w.heap.size w w') : Pair w' b Z s :=
  h.upd (Upd.of_below hb (fun _ => False)) (fun _ _ h => h) (fun h => h)
/-- One call of both. -/
def PairStep (b : Nat) (Z : Nat → Prop) (w w' : World) (s : St) : Prop := Pair w' b (More Z w w') s ∧ Upd Z w w'
/-- A pair, opened; new blocks may have come since. -/
theorem Pair.open_ {w w0 : World} {b : Nat} {Z : Nat → Prop} {s : St} (h : Pair w b Z s) (hb0 : Below w.heap.size w w0) :
    ∃ p1 p2, Tr w0 w0 p1 p2 Z s s ∧ ∀ w' s', Upd Z w0 w' → w'.heap[b]? = some (.cells #[.pointer (some ⟨p1, 0, none⟩), .pointer (some ⟨p2, 0, none⟩)] 28 (0, 0)) ∧ (Tr w0 w' p1 p2 Z s' s' → PairStep b Z w w' s') := by
  have hlt := h.lt
  obtain ⟨p1, p2, X1, X2, hc, hP, hR, ha, hz⟩ := h.disks
  refine ⟨p1, p2, ⟨Upd.refl _ _, X1, X2, hP.below hb0, hR.below hb0, ha, fun k hk => .inl (hz k hk)⟩, fun w' s' hu => ?_⟩
  have hc' := blk_upd (blk_upd hc (Upd.of_below hb0 (fun _ => False)) (fun h => h)) hu h.nb
  refine ⟨hc', fun ht => ?_⟩
  obtain ⟨_, Y1, Y2, hP', hR', ha', hz'⟩ := ht
  have hU : Upd Z w w' := (Upd.of_below hb0 Z).seq (hu.mono (fun _ _ hk => .inl hk))
  refine ⟨⟨fun k hk => hk.elim (fun hk => Nat.lt_of_lt_of_le (h.bd k hk) hU.size) (fun hk => hk.2), fun hk => hk.elim h.nb (fun hk => absurd hlt (Nat.not_lt.2 hk.1)), p1, p2, Y1, Y2, hc', hP', hR', ha', fun k hk => ?_⟩, hU⟩
  exact (hz' k hk).elim .inl (fun hk => .inr ⟨Nat.le_trans hb0.size hk.1, hk.2⟩)
/-- The op's lists, in memory older than B. -/
structure OpIn (w : World) (B : Nat) (bs : List Int) (A5 : Option Addr) (c5 : Nat) (ks : List Int) (A6 : Option Addr) (c6 : Nat) : Prop where
  l5 : bs.length ≤ c5
  l6 : ks.length ≤ c6
  r5 : ∀ w', Below B w w' → (Kd.int .u8).C w' A5 bs.length bs
  r6 : ∀ w', Below B w w' → (Kd.int .i64).C w' A6 ks.length ks
theorem OpIn.below {w w' : World} {B : Nat} {bs : List Int} {A5 : Option Addr} {c5 : Nat} {ks : List Int} {A6 : Option Addr} {c6 : Nat} (h : OpIn w B bs A5 c5 ks A6 c6) (hb : Below B w w') : OpIn w' B bs A5 c5 ks A6 c6 :=
  ⟨h.l5, h.l6, fun w2 h2 => h.r5 w2 (hb.trans h2), fun w2 h2 => h.r6 w2 (hb.trans h2)⟩
theorem OpIn.stays {w0 w : World} {B : Nat} {bs : List Int} {A5 : Option Addr} {c5 : Nat} {ks : List Int} {A6 : Option Addr} {c6 : Nat} {Z X : Nat → Prop} (h : OpIn w0 B bs A5 c5 ks A6 c6) (hB : B ≤ w0.heap.size) (hu : Upd Z w0 w) (hZ : ∀ k, Z k → B ≤ k) (hX : ∀ k, X k → Z k ∨ w0.heap.size ≤ k) : Stays X w A5 bs ∧ StaysI X w A6 ks := by
  have hb := hu.below hB hZ
  have hw : B ≤ w.heap.size := Nat.le_trans hB hu.size
  have hx : ∀ k, X k → B ≤ k := fun k hk => (hX k hk).elim (hZ k) (fun h => Nat.le_trans hB h)
  exact ⟨fun w' h2 => h.r5 w' (hb.trans (h2.below hw hx)), fun w' h2 => h.r6 w' (hb.trans (h2.below hw hx))⟩
def ChangesPost (w : World) (b : Nat) (Z : Nat → Prop) (r : St × Int) (e : Ending) (w' : World) : Prop := e = .returned (.tuple #[.int .i64 r.2, .int .i64 r.2]) ∧ PairStep b Z w w' r.1
theorem copyB_calls (w : World) (A : Option Addr) (c : Nat) (l : List Int) (hr : (Kd.int .u8).C w A l.length l) (hc : l.length ≤ c) (hl : l.length ≤ 2 ^ 40) :
    Calls Try.prog 55 #[.slice A l.length c] w fun e w' => ∃ A' c', e = .returned (.slice A' l.length c') ∧ l.length ≤ c' ∧ (∀ X, (∀ k, X k → k < w.heap.size) → Stays X w' A' l) ∧ Below w.heap.size w w' := by
  refine (PD.eddylaw10_copyBytes.calls A c l l w hr hc (copyBytes_f l (by omega))).mono ?_
  rintro e w' ⟨v, rfl, h, hb⟩
  obtain ⟨A', c', rfl, h1, h2⟩ := Kd.R_reads h
  refine ⟨A', c', rfl, h1, fun X hX w2 h3 => ?_, hb⟩
  refine (Kd.R_reads' (Kd.R_move (Kd.R_tight rfl h) (fun k hk => h3.same k (Kd.R_lt h k hk.symm) (fun hx => ?_)))).2.2
  have h4 := ((Kd.R_bound h).1 k hk.symm).2.1
  have h5 := hX k hx
  omega
set_option maxHeartbeats 4000000 in
set_option maxRecDepth 100000 in
theorem changes_sync (w : World) (b B : Nat) (Z : Nat → Prop) (s : St) (wh : Int) (nm : ByteArray) (n af : Int) (bs ks : List Int) (A5 : Option Addr) (c5 : Nat) (A6 : Option Addr) (c6 : Nat) (h : Pair w b Z s) (ok : Ok s) (hBw : B ≤ w.heap.size) (hZ : ∀ k, Z k → B ≤ k) (hin : OpIn w B bs A5 c5 ks A6 c6) (hlen : bs.length ≤ 2 ^ 40) (hn : n ≤ 9223372036854775807) :
    Calls Try.prog 50 #[.pointer (some ⟨b, 0, none⟩), .agg #[.int .i64 2, .int .i64 wh, .string nm, .int .i64 n, .int .i64 af, .slice A5 bs.length c5, .slice A6 ks.length c6]] w (ChangesPost w b Z (s.sync nm)) := by
  have hbox := below_alloc (Below.refl w.heap.size w) (.cells #[.int .i64 2, .int .i64 wh, .string nm, .int .i64 n, .int .i64 af, .slice A5 bs.length c5, .slice A6 ks.length c6] 41)
  have hg := heap_alloc_new w (.cells #[.int .i64 2, .int .i64 wh, .string nm, .int .i64 n, .int .i64 af, .slice A5 bs.length c5, .slice A6 ks.length c6] 41)
  have hgz : ¬ Z w.heap.size := fun hk => Nat.lt_irrefl _ (h.bd _ hk)
  obtain ⟨p1, p2, ht, hfin⟩ := h.open_ hbox
  have hin1 := hin.below (hbox.mono hBw)
  have hlt := h.lt
  have hsz1 : w.heap.size < (w.alloc (.cells #[.int .i64 2, .int .i64 wh, .string nm, .int .i64 n, .int .i64 af, .slice A5 bs.length c5, .slice A6 ks.length c6] 41)).heap.size := by rw [World.size_alloc']; omega
  have hB1 : B ≤ (w.alloc (.cells #[.int .i64 2, .int .i64 wh, .string nm, .int .i64 n, .int .i64 af, .slice A5 bs.length c5, .slice A6 ks.length c6] 41)).heap.size := by omega
  have hb1 := (hfin _ s (Upd.refl _ _)).1
  have HG := Aside0.mk hg
  have HT := Aside0.mk ht
  have HFIN := Aside0.mk hfin
  have HIN := Aside0.mk hin1
  have HOK := Aside0.mk ok
  have HZ := Aside0.mk hZ
  have g0 := blk_cell hg 0
  have g1 := blk_cell hg 1
  have g2 := blk_cell hg 2
  have g3 := blk_cell hg 3
  have g4 := blk_cell hg 4
  have g5 := blk_cell hg 5
  have g6 := blk_cell hg 6
  have fg0 := blk_frozen hg 0
  have fg1 := blk_frozen hg 1
  have fg2 := blk_frozen hg 2
  have fg3 := blk_frozen hg 3
  have fg4 := blk_frozen hg 4
  have fg5 := blk_frozen hg 5
  have fg6 := blk_frozen hg 6
  simp only [List.getElem?_toArray, List.getElem?_cons_succ, List.getElem?_cons_zero] at g0 g1 g2 g3 g4 g5 g6
  have m0 := blk_cell hb1 0
  have m1 := blk_cell hb1 1
  have fm0 := blk_frozen hb1 0
  have fm1 := blk_frozen hb1 1
  simp only [List.getElem?_toArray, List.getElem?_cons_succ, List.getElem?_cons_zero] at m0 m1
  clear hg ht hfin hin1 hb1 hbox ok hZ h hin
  unfold ChangesPost
  go_enter Try.func50, Try.ntmps50
  go_wp2
  refine start_ (n := 8) (S := fun w' => w'.cell? ⟨b, 1, none⟩ = some (.pointer (some ⟨p2, 0, none⟩)) ∧ w'.cell? ⟨w.heap.size, 2, none⟩ = some (.string nm)) (ds := [6]) #[false, false, false, false, false, false, false, false] (by kernel_rfl) rfl rfl ⟨m1, g2⟩ (fun hHeld => ?_)
  refine zq 0 (some 37) ?_
  refine zq 1 (some 38) ?_
  refine zq 2 (some 39) ?_
  refine zq 4 (some 41) ?_
  refine zu 3 (some 40) hHeld ?_
  refine zu 5 (some 42) hHeld ?_
  refine last_ (i := 6) (N := some 43) #[true, true, true, true, true, true, true, false] rfl rfl (by kernel_rfl) (by decide) (fun K hK => ?_)
  refine goes_ Try.func65 (by kernel_rfl) rfl #[.pointer (some ⟨p2, 0, none⟩), .string nm] (by rfl) rfl rfl (by simp only [List.map_toArray, List.map_cons, List.map_nil]; rfl) ?_
  obtain ⟨X2, hR, hx2, hnx⟩ := (HT.out.below (below_drew (Below.refl _ _))).openR
  refine (rsync_calls _ p2 X2 s nm hR HOK.out).mono ?_
  rintro e w2 ⟨rfl, hs⟩
  refine ⟨_, rfl, ?_⟩
  have ht2 := hnx _ _ hs
  have hb2 := (HFIN.out w2 s ht2.1).1
  have hg2 := blk_upd HG.out ht2.1 hgz
  have k0 := blk_cell hg2 0
  have k1 := blk_cell hg2 1
  have k2 := blk_cell hg2 2
  have k3 := blk_cell hg2 3
  have k4 := blk_cell hg2 4
  have k5 := blk_cell hg2 5
  have k6 := blk_cell hg2 6
  have fk0 := blk_frozen hg2 0
  have fk1 := blk_frozen hg2 1
  have fk2 := blk_frozen hg2 2
  have fk3 := blk_frozen hg2 3
  have fk4 := blk_frozen hg2 4
  have fk5 := blk_frozen hg2 5
  have fk6 := blk_frozen hg2 6
  simp only [List.getElem?_toArray, List.getElem?_cons_succ, List.getElem?_cons_zero] at k0 k1 k2 k3 k4 k5 k6
  have l0 := blk_cell hb2 0
  have l1 := blk_cell hb2 1
  have fl0 := blk_frozen hb2 0
  have fl1 := blk_frozen hb2 1
  simp only [List.getElem?_toArray, List.getElem?_cons_succ, List.getElem?_cons_zero] at l0 l1
  have HT2 := Aside0.mk ht2
  clear hR hx2 hnx hs ht2 hb2 hg2
  refine hK.out _ _ ?_
  clear hK K
  refine norm_ (a' := ?_) ?_ ?_
  rotate_left
  · show Act.put _ (some 43) _ = _
    simp only [Act.put, zla, zlb, zlc, i64_w, i32_w]
    rfl
  refine zq 7 (some 7) ?_
  refine done_ (by kernel_rfl) ?_
  go_wp2
  refine start_ (n := 11) (S := fun w' => w'.cell? ⟨b, 0, none⟩ = some (.pointer (some ⟨p1, 0, none⟩)) ∧ w'.cell? ⟨w.heap.size, 2, none⟩ = some (.string nm)) (ds := [7]) #[false, false, false, false, false, false, false, false, false, false, false] (by kernel_rfl) rfl rfl ⟨l0, k2⟩ (fun hHeld => ?_)
  refine zq 0 (some 44) ?_
  refine zq 1 (some 45) ?_
  refine zq 2 (some 46) ?_
  refine zq 4 (some 48) ?_
  refine zq 8 (some 52) ?_
  refine zu 3 (some 47) hHeld ?_
  refine zu 5 (some 49) hHeld ?_
  refine one_ (i := 6) (N := some 50) #[true, true, true, true, true, true, true, false, true, false, false] rfl rfl (by kernel_rfl) (by decide) (fun K hK => ?_)
  refine goes_ Try.func27 (by kernel_rfl) rfl #[.pointer (some ⟨p1, 0, none⟩), .string nm] (by rfl) rfl rfl (by simp only [List.map_toArray, List.map_cons, List.map_nil]; rfl) ?_
  obtain ⟨X1, hP, hx1, hnx⟩ := (HT2.out.below (below_drew (Below.refl _ _))).openP
  refine (sync_calls _ p1 X1 s nm hP HOK.out).mono ?_
  rintro e w4 ⟨rfl, hs⟩
  refine ⟨_, rfl, ?_⟩
  have ht4 := hnx _ _ hs
  have hb4 := (HFIN.out w4 s ht4.1).1
  have hg4 := blk_upd HG.out ht4.1 hgz
  have u0 := blk_cell hg4 0
  have u1 := blk_cell hg4 1
  have u2 := blk_cell hg4 2
  have u3 := blk_cell hg4 3
  have u4 := blk_cell hg4 4
  have u5 := blk_cell hg4 5
  have u6 := blk_cell hg4 6
  have fu0 := blk_frozen hg4 0
  have fu1 := blk_frozen hg4 1
  have fu2 := blk_frozen hg4 2
  have fu3 := blk_frozen hg4 3
  have fu4 := blk_frozen hg4 4
  have fu5 := blk_frozen hg4 5
  have fu6 := blk_frozen hg4 6
  simp only [List.getElem?_toArray, List.getElem?_cons_succ, List.getElem?_cons_zero] at u0 u1 u2 u3 u4 u5 u6
  have v0 := blk_cell hb4 0
  have v1 := blk_cell hb4 1
  have fv0 := blk_frozen hb4 0
  have fv1 := blk_frozen hb4 1
  simp only [List.getElem?_toArray, List.getElem?_cons_succ, List.getElem?_cons_zero] at v0 v1
  have HT4 := Aside0.mk ht4
  clear hs ht4 hb4 hg4 hP hx1 hnx
  refine hK.out _ _ ⟨v0, u2⟩ (fun hHeld => ?_)
  clear hK K
  refine norm_ (a' := ?_) ?_ ?_
  rotate_left
  · show Act.put _ (some 50) _ = _
    simp only [Act.put, zla, zlb, zlc, i64_w, i32_w]
    rfl
  refine last_ (i := 7) (N := some 51) #[true, true, true, true, true, true, true, true, true, false, false] rfl rfl (by kernel_rfl) (by decide) (fun K hK => ?_)
  refine goes_ Try.func21 (by kernel_rfl) rfl #[.int .i64 (s.sync nm).2] (by rfl) rfl rfl (by simp only [List.map_toArray, List.map_cons, List.map_nil]; rfl) ?_
  refine (num_calls _ _).mono ?_
  rintro e w5 ⟨rfl, ⟨⟨nd, rfl⟩⟩⟩
  refine ⟨_, rfl, ?_⟩
  refine hK.out _ _ ?_
  clear hK K
  refine norm_ (a' := ?_) ?_ ?_
  rotate_left
  · show Act.put _ (some 51) _ = _
    simp only [Act.put, zla, zlb, zlc, i64_w, i32_w]
    rfl
  refine zq 9 (some 4) ?_
  refine zq 10 (some 5) ?_
  refine done_ (by kernel_rfl) ?_
  go_wp2
  go_ret2
  exact ⟨rfl, (HFIN.out _ _ (HT4.out.below (by repeat (with_reducible first | exact Below.refl _ _ | apply below_drew | apply pw_below_drewN))).1).2 (HT4.out.below (by repeat (with_reducible first | exact Below.refl _ _ | apply below_drew | apply pw_below_drewN)))⟩
set_option maxHeartbeats 4000000 in
set_option maxRecDepth 100000 in
theorem changes_trim (w : World) (b B : Nat) (Z : Nat → Prop) (s : St) (wh : Int) (nm : ByteArray) (n af : Int) (bs ks : List Int) (A5 : Option Addr) (c5 : Nat) (A6 : Option Addr) (c6 : Nat) (h : Pair w b Z s) (ok : Ok s) (hBw : B ≤ w.heap.size) (hZ : ∀ k, Z k → B ≤ k) (hin : OpIn w B bs A5 c5 ks A6 c6) (hlen : bs.length ≤ 2 ^ 40) (hn : n ≤ 9223372036854775807) :
    Calls Try.prog 50 #[.pointer (some ⟨b, 0, none⟩), .agg #[.int .i64 3, .int .i64 wh, .string nm, .int .i64 n, .int .i64 af, .slice A5 bs.length c5, .slice A6 ks.length c6]] w (ChangesPost w b Z (s.trim nm n)) := by
  have hbox := below_alloc (Below.refl w.heap.size w) (.cells #[.int .i64 3, .int .i64 wh, .string nm, .int .i64 n, .int .i64 af, .slice A5 bs.length c5, .slice A6 ks.length c6] 41)
  have hg := heap_alloc_new w (.cells #[.int .i64 3, .int .i64 wh, .string nm, .int .i64 n, .int .i64 af, .slice A5 bs.length c5, .slice A6 ks.length c6] 41)
  have hgz : ¬ Z w.heap.size := fun hk => Nat.lt_irrefl _ (h.bd _ hk)
  obtain ⟨p1, p2, ht, hfin⟩ := h.open_ hbox
  have hin1 := hin.below (hbox.mono hBw)
  have hlt := h.lt
  have hsz1 : w.heap.size < (w.alloc (.cells #[.int .i64 3, .int .i64 wh, .string nm, .int .i64 n, .int .i64 af, .slice A5 bs.length c5, .slice A6 ks.length c6] 41)).heap.size := by rw [World.size_alloc']; omega
  have hB1 : B ≤ (w.alloc (.cells #[.int .i64 3, .int .i64 wh, .string nm, .int .i64 n, .int .i64 af, .slice A5 bs.length c5, .slice A6 ks.length c6] 41)).heap.size := by omega
  have hb1 := (hfin _ s (Upd.refl _ _)).1
  have HG := Aside0.mk hg
  have HT := Aside0.mk ht
  have HFIN := Aside0.mk hfin
  have HIN := Aside0.mk hin1
  have HOK := Aside0.mk ok
  have HZ := Aside0.mk hZ
  have g0 := blk_cell hg 0
  have g1 := blk_cell hg 1
  have g2 := blk_cell hg 2
  have g3 := blk_cell hg 3
  have g4 := blk_cell hg 4
  have g5 := blk_cell hg 5
  have g6 := blk_cell hg 6
  have fg0 := blk_frozen hg 0
  have fg1 := blk_frozen hg 1
  have fg2 := blk_frozen hg 2
  have fg3 := blk_frozen hg 3
  have fg4 := blk_frozen hg 4
  have fg5 := blk_frozen hg 5
  have fg6 := blk_frozen hg 6
  simp only [List.getElem?_toArray, List.getElem?_cons_succ, List.getElem?_cons_zero] at g0 g1 g2 g3 g4 g5 g6
  have m0 := blk_cell hb1 0
  have m1 := blk_cell hb1 1
  have fm0 := blk_frozen hb1 0
  have fm1 := blk_frozen hb1 1
  simp only [List.getElem?_toArray, List.getElem?_cons_succ, List.getElem?_cons_zero] at m0 m1
  clear hg ht hfin hin1 hb1 hbox ok hZ h hin
  unfold ChangesPost
  go_enter Try.func50, Try.ntmps50
  go_wp2
  refine start_ (n := 10) (S := fun w' => w'.cell? ⟨b, 1, none⟩ = some (.pointer (some ⟨p2, 0, none⟩)) ∧ w'.cell? ⟨w.heap.size, 2, none⟩ = some (.string nm) ∧ w'.cell? ⟨w.heap.size, 3, none⟩ = some (.int .i64 n)) (ds := [8]) #[false, false, false, false, false, false, false, false, false, false] (by kernel_rfl) rfl rfl ⟨m1, g2, g3⟩ (fun hHeld => ?_)
  refine zq 0 (some 55) ?_
  refine zq 1 (some 56) ?_
  refine zq 2 (some 57) ?_
  refine zq 4 (some 59) ?_
  refine zq 6 (some 61) ?_
  refine zu 3 (some 58) hHeld ?_
  refine zu 5 (some 60) hHeld ?_
  refine zu 7 (some 62) hHeld ?_
  refine last_ (i := 8) (N := some 63) #[true, true, true, true, true, true, true, true, true, false] rfl rfl (by kernel_rfl) (by decide) (fun K hK => ?_)
  refine goes_ Try.func66 (by kernel_rfl) rfl #[.pointer (some ⟨p2, 0, none⟩), .string nm, .int .i64 n] (by rfl) rfl rfl (by simp only [List.map_toArray, List.map_cons, List.map_nil]; rfl) ?_
  obtain ⟨X2, hR, hx2, hnx⟩ := (HT.out.below (below_drew (Below.refl _ _))).openR
  refine (rtrim_calls _ p2 X2 s nm n hR HOK.out hn).mono ?_
  rintro e w2 ⟨rfl, hs⟩
  refine ⟨_, rfl, ?_⟩
  have ht2 := hnx _ _ hs
  have hb2 := (HFIN.out w2 s ht2.1).1
  have hg2 := blk_upd HG.out ht2.1 hgz
  have k0 := blk_cell hg2 0
  have k1 := blk_cell hg2 1
  have k2 := blk_cell hg2 2
  have k3 := blk_cell hg2 3
  have k4 := blk_cell hg2 4
  have k5 := blk_cell hg2 5
  have k6 := blk_cell hg2 6
  have fk0 := blk_frozen hg2 0
  have fk1 := blk_frozen hg2 1
  have fk2 := blk_frozen hg2 2
  have fk3 := blk_frozen hg2 3
  have fk4 := blk_frozen hg2 4
  have fk5 := blk_frozen hg2 5
  have fk6 := blk_frozen hg2 6
  simp only [List.getElem?_toArray, List.getElem?_cons_succ, List.getElem?_cons_zero] at k0 k1 k2 k3 k4 k5 k6
  have l0 := blk_cell hb2 0
  have l1 := blk_cell hb2 1
  have fl0 := blk_frozen hb2 0
  have fl1 := blk_frozen hb2 1
  simp only [List.getElem?_toArray, List.getElem?_cons_succ, List.getElem?_cons_zero] at l0 l1
  have HT2 := Aside0.mk ht2
  clear hR hx2 hnx hs ht2 hb2 hg2
  refine hK.out _ _ ?_
  clear hK K
  refine norm_ (a' := ?_) ?_ ?_
  rotate_left
  · show Act.put _ (some 63) _ = _
    simp only [Act.put, zla, zlb, zlc, i64_w, i32_w]
    rfl
  refine zq 9 (some 8) ?_
  refine done_ (by kernel_rfl) ?_
  go_wp2
  refine start_ (n := 13) (S := fun w' => w'.cell? ⟨b, 0, none⟩ = some (.pointer (some ⟨p1, 0, none⟩)) ∧ w'.cell? ⟨w.heap.size, 2, none⟩ = some (.string nm) ∧ w'.cell? ⟨w.heap.size, 3, none⟩ = some (.int .i64 n)) (ds := [9]) #[false, false, false, false, false, false, false, false, false, false, false, false, false] (by kernel_rfl) rfl rfl ⟨l0, k2, k3⟩ (fun hHeld => ?_)
  refine zq 0 (some 64) ?_
  refine zq 1 (some 65) ?_
  refine zq 2 (some 66) ?_
  refine zq 4 (some 68) ?_
  refine zq 6 (some 70) ?_
  refine zq 10 (some 74) ?_
  refine zu 3 (some 67) hHeld ?_
  refine zu 5 (some 69) hHeld ?_
  refine zu 7 (some 71) hHeld ?_
  refine one_ (i := 8) (N := some 72) #[true, true, true, true, true, true, true, true, true, false, true, false, false] rfl rfl (by kernel_rfl) (by decide) (fun K hK => ?_)
  refine goes_ Try.func45 (by kernel_rfl) rfl #[.pointer (some ⟨p1, 0, none⟩), .string nm, .int .i64 n] (by rfl) rfl rfl (by simp only [List.map_toArray, List.map_cons, List.map_nil]; rfl) ?_
  obtain ⟨X1, hP, hx1, hnx⟩ := (HT2.out.below (below_drew (Below.refl _ _))).openP
  refine (trim_calls _ p1 X1 s nm n hP HOK.out).mono ?_
  rintro e w4 ⟨rfl, hs⟩
  refine ⟨_, rfl, ?_⟩
  have ht4 := hnx _ _ hs
  have hb4 := (HFIN.out w4 s ht4.1).1
  have hg4 := blk_upd HG.out ht4.1 hgz
  have u0 := blk_cell hg4 0
  have u1 := blk_cell hg4 1
  have u2 := blk_cell hg4 2
  have u3 := blk_cell hg4 3
  have u4 := blk_cell hg4 4
  have u5 := blk_cell hg4 5
  have u6 := blk_cell hg4 6
  have fu0 := blk_frozen hg4 0
  have fu1 := blk_frozen hg4 1
  have fu2 := blk_frozen hg4 2
  have fu3 := blk_frozen hg4 3
  have fu4 := blk_frozen hg4 4
  have fu5 := blk_frozen hg4 5
  have fu6 := blk_frozen hg4 6
  simp only [List.getElem?_toArray, List.getElem?_cons_succ, List.getElem?_cons_zero] at u0 u1 u2 u3 u4 u5 u6
  have v0 := blk_cell hb4 0
  have v1 := blk_cell hb4 1
  have fv0 := blk_frozen hb4 0
  have fv1 := blk_frozen hb4 1
  simp only [List.getElem?_toArray, List.getElem?_cons_succ, List.getElem?_cons_zero] at v0 v1
  have HT4 := Aside0.mk ht4
  clear hs ht4 hb4 hg4 hP hx1 hnx
  refine hK.out _ _ ⟨v0, u2, u3⟩ (fun hHeld => ?_)
  clear hK K
  refine norm_ (a' := ?_) ?_ ?_
  rotate_left
  · show Act.put _ (some 72) _ = _
    simp only [Act.put, zla, zlb, zlc, i64_w, i32_w]
    rfl
  refine last_ (i := 9) (N := some 73) #[true, true, true, true, true, true, true, true, true, true, true, false, false] rfl rfl (by kernel_rfl) (by decide) (fun K hK => ?_)
  refine goes_ Try.func21 (by kernel_rfl) rfl #[.int .i64 (s.trim nm n).2] (by rfl) rfl rfl (by simp only [List.map_toArray, List.map_cons, List.map_nil]; rfl) ?_
  refine (num_calls _ _).mono ?_
  rintro e w5 ⟨rfl, ⟨⟨nd, rfl⟩⟩⟩
  refine ⟨_, rfl, ?_⟩
  refine hK.out _ _ ?_
  clear hK K
  refine norm_ (a' := ?_) ?_ ?_
  rotate_left
  · show Act.put _ (some 73) _ = _
    simp only [Act.put, zla, zlb, zlc, i64_w, i32_w]
    rfl
  refine zq 11 (some 4) ?_
  refine zq 12 (some 5) ?_
  refine done_ (by kernel_rfl) ?_
  go_wp2
  go_ret2
  exact ⟨rfl, (HFIN.out _ _ (HT4.out.below (by repeat (with_reducible first | exact Below.refl _ _ | apply below_drew | apply pw_below_drewN))).1).2 (HT4.out.below (by repeat (with_reducible first | exact Below.refl _ _ | apply below_drew | apply pw_below_drewN)))⟩
set_option maxHeartbeats 4000000 in
set_option maxRecDepth 100000 in
theorem changes_remove (w : World) (b B : Nat) (Z : Nat → Prop) (s : St) (wh : Int) (nm : ByteArray) (n af : Int) (bs ks : List Int) (A5 : Option Addr) (c5 : Nat) (A6 : Option Addr) (c6 : Nat) (h : Pair w b Z s) (ok : Ok s) (hBw : B ≤ w.heap.size) (hZ : ∀ k, Z k → B ≤ k) (hin : OpIn w B bs A5 c5 ks A6 c6) (hlen : bs.length ≤ 2 ^ 40) (hn : n ≤ 9223372036854775807) :
    Calls Try.prog 50 #[.pointer (some ⟨b, 0, none⟩), .agg #[.int .i64 4, .int .i64 wh, .string nm, .int .i64 n, .int .i64 af, .slice A5 bs.length c5, .slice A6 ks.length c6]] w (ChangesPost w b Z (s.remove nm)) := by
  have hbox := below_alloc (Below.refl w.heap.size w) (.cells #[.int .i64 4, .int .i64 wh, .string nm, .int .i64 n, .int .i64 af, .slice A5 bs.length c5, .slice A6 ks.length c6] 41)
  have hg := heap_alloc_new w (.cells #[.int .i64 4, .int .i64 wh, .string nm, .int .i64 n, .int .i64 af, .slice A5 bs.length c5, .slice A6 ks.length c6] 41)
  have hgz : ¬ Z w.heap.size := fun hk => Nat.lt_irrefl _ (h.bd _ hk)
  obtain ⟨p1, p2, ht, hfin⟩ := h.open_ hbox
  have hin1 := hin.below (hbox.mono hBw)
  have hlt := h.lt
  have hsz1 : w.heap.size < (w.alloc (.cells #[.int .i64 4, .int .i64 wh, .string nm, .int .i64 n, .int .i64 af, .slice A5 bs.length c5, .slice A6 ks.length c6] 41)).heap.size := by rw [World.size_alloc']; omega
  have hB1 : B ≤ (w.alloc (.cells #[.int .i64 4, .int .i64 wh, .string nm, .int .i64 n, .int .i64 af, .slice A5 bs.length c5, .slice A6 ks.length c6] 41)).heap.size := by omega
  have hb1 := (hfin _ s (Upd.refl _ _)).1
  have HG := Aside0.mk hg
  have HT := Aside0.mk ht
  have HFIN := Aside0.mk hfin
  have HIN := Aside0.mk hin1
  have HOK := Aside0.mk ok
  have HZ := Aside0.mk hZ
  have g0 := blk_cell hg 0
  have g1 := blk_cell hg 1
  have g2 := blk_cell hg 2
  have g3 := blk_cell hg 3
  have g4 := blk_cell hg 4
  have g5 := blk_cell hg 5
  have g6 := blk_cell hg 6
  have fg0 := blk_frozen hg 0
  have fg1 := blk_frozen hg 1
  have fg2 := blk_frozen hg 2
  have fg3 := blk_frozen hg 3
  have fg4 := blk_frozen hg 4
  have fg5 := blk_frozen hg 5
  have fg6 := blk_frozen hg 6
  simp only [List.getElem?_toArray, List.getElem?_cons_succ, List.getElem?_cons_zero] at g0 g1 g2 g3 g4 g5 g6
  have m0 := blk_cell hb1 0
  have m1 := blk_cell hb1 1
  have fm0 := blk_frozen hb1 0
  have fm1 := blk_frozen hb1 1
  simp only [List.getElem?_toArray, List.getElem?_cons_succ, List.getElem?_cons_zero] at m0 m1
  clear hg ht hfin hin1 hb1 hbox ok hZ h hin
  unfold ChangesPost
  go_enter Try.func50, Try.ntmps50
  go_wp2
  refine start_ (n := 8) (S := fun w' => w'.cell? ⟨b, 1, none⟩ = some (.pointer (some ⟨p2, 0, none⟩)) ∧ w'.cell? ⟨w.heap.size, 2, none⟩ = some (.string nm)) (ds := [6]) #[false, false, false, false, false, false, false, false] (by kernel_rfl) rfl rfl ⟨m1, g2⟩ (fun hHeld => ?_)
  refine zq 0 (some 75) ?_
  refine zq 1 (some 76) ?_
  refine zq 2 (some 77) ?_
  refine zq 4 (some 79) ?_
  refine zu 3 (some 78) hHeld ?_
  refine zu 5 (some 80) hHeld ?_
  refine last_ (i := 6) (N := some 81) #[true, true, true, true, true, true, true, false] rfl rfl (by kernel_rfl) (by decide) (fun K hK => ?_)
  refine goes_ Try.func67 (by kernel_rfl) rfl #[.pointer (some ⟨p2, 0, none⟩), .string nm] (by rfl) rfl rfl (by simp only [List.map_toArray, List.map_cons, List.map_nil]; rfl) ?_
  obtain ⟨X2, hR, hx2, hnx⟩ := (HT.out.below (below_drew (Below.refl _ _))).openR
  refine (rremove_calls _ p2 X2 s nm hR HOK.out).mono ?_
  rintro e w2 ⟨rfl, hs⟩
  refine ⟨_, rfl, ?_⟩
  have ht2 := hnx _ _ hs
  have hb2 := (HFIN.out w2 s ht2.1).1
  have hg2 := blk_upd HG.out ht2.1 hgz
  have k0 := blk_cell hg2 0
  have k1 := blk_cell hg2 1
  have k2 := blk_cell hg2 2
  have k3 := blk_cell hg2 3
  have k4 := blk_cell hg2 4
  have k5 := blk_cell hg2 5
  have k6 := blk_cell hg2 6
  have fk0 := blk_frozen hg2 0
  have fk1 := blk_frozen hg2 1
  have fk2 := blk_frozen hg2 2
  have fk3 := blk_frozen hg2 3
  have fk4 := blk_frozen hg2 4
  have fk5 := blk_frozen hg2 5
  have fk6 := blk_frozen hg2 6
  simp only [List.getElem?_toArray, List.getElem?_cons_succ, List.getElem?_cons_zero] at k0 k1 k2 k3 k4 k5 k6
  have l0 := blk_cell hb2 0
  have l1 := blk_cell hb2 1
  have fl0 := blk_frozen hb2 0
  have fl1 := blk_frozen hb2 1
  simp only [List.getElem?_toArray, List.getElem?_cons_succ, List.getElem?_cons_zero] at l0 l1
  have HT2 := Aside0.mk ht2
  clear hR hx2 hnx hs ht2 hb2 hg2
  refine hK.out _ _ ?_
  clear hK K
  refine norm_ (a' := ?_) ?_ ?_
  rotate_left
  · show Act.put _ (some 81) _ = _
    simp only [Act.put, zla, zlb, zlc, i64_w, i32_w]
    rfl
  refine zq 7 (some 9) ?_
  refine done_ (by kernel_rfl) ?_
  go_wp2
  refine start_ (n := 11) (S := fun w' => w'.cell? ⟨b, 0, none⟩ = some (.pointer (some ⟨p1, 0, none⟩)) ∧ w'.cell? ⟨w.heap.size, 2, none⟩ = some (.string nm)) (ds := [7]) #[false, false, false, false, false, false, false, false, false, false, false] (by kernel_rfl) rfl rfl ⟨l0, k2⟩ (fun hHeld => ?_)
  refine zq 0 (some 82) ?_
  refine zq 1 (some 83) ?_
  refine zq 2 (some 84) ?_
  refine zq 4 (some 86) ?_
  refine zq 8 (some 90) ?_
  refine zu 3 (some 85) hHeld ?_
  refine zu 5 (some 87) hHeld ?_
  refine one_ (i := 6) (N := some 88) #[true, true, true, true, true, true, true, false, true, false, false] rfl rfl (by kernel_rfl) (by decide) (fun K hK => ?_)
  refine goes_ Try.func44 (by kernel_rfl) rfl #[.pointer (some ⟨p1, 0, none⟩), .string nm] (by rfl) rfl rfl (by simp only [List.map_toArray, List.map_cons, List.map_nil]; rfl) ?_
  obtain ⟨X1, hP, hx1, hnx⟩ := (HT2.out.below (below_drew (Below.refl _ _))).openP
  refine (remove_calls _ p1 X1 s nm hP HOK.out).mono ?_
  rintro e w4 ⟨rfl, hs⟩
  refine ⟨_, rfl, ?_⟩
  have ht4 := hnx _ _ hs
  have hb4 := (HFIN.out w4 s ht4.1).1
  have hg4 := blk_upd HG.out ht4.1 hgz
  have u0 := blk_cell hg4 0
  have u1 := blk_cell hg4 1
  have u2 := blk_cell hg4 2
  have u3 := blk_cell hg4 3
  have u4 := blk_cell hg4 4
  have u5 := blk_cell hg4 5
  have u6 := blk_cell hg4 6
  have fu0 := blk_frozen hg4 0
  have fu1 := blk_frozen hg4 1
  have fu2 := blk_frozen hg4 2
  have fu3 := blk_frozen hg4 3
  have fu4 := blk_frozen hg4 4
  have fu5 := blk_frozen hg4 5
  have fu6 := blk_frozen hg4 6
  simp only [List.getElem?_toArray, List.getElem?_cons_succ, List.getElem?_cons_zero] at u0 u1 u2 u3 u4 u5 u6
  have v0 := blk_cell hb4 0
  have v1 := blk_cell hb4 1
  have fv0 := blk_frozen hb4 0
  have fv1 := blk_frozen hb4 1
  simp only [List.getElem?_toArray, List.getElem?_cons_succ, List.getElem?_cons_zero] at v0 v1
  have HT4 := Aside0.mk ht4
  clear hs ht4 hb4 hg4 hP hx1 hnx
  refine hK.out _ _ ⟨v0, u2⟩ (fun hHeld => ?_)
  clear hK K
  refine norm_ (a' := ?_) ?_ ?_
  rotate_left
  · show Act.put _ (some 88) _ = _
    simp only [Act.put, zla, zlb, zlc, i64_w, i32_w]
    rfl
  refine last_ (i := 7) (N := some 89) #[true, true, true, true, true, true, true, true, true, false, false] rfl rfl (by kernel_rfl) (by decide) (fun K hK => ?_)
  refine goes_ Try.func21 (by kernel_rfl) rfl #[.int .i64 (s.remove nm).2] (by rfl) rfl rfl (by simp only [List.map_toArray, List.map_cons, List.map_nil]; rfl) ?_
  refine (num_calls _ _).mono ?_
  rintro e w5 ⟨rfl, ⟨⟨nd, rfl⟩⟩⟩
  refine ⟨_, rfl, ?_⟩
  refine hK.out _ _ ?_
  clear hK K
  refine norm_ (a' := ?_) ?_ ?_
  rotate_left
  · show Act.put _ (some 89) _ = _
    simp only [Act.put, zla, zlb, zlc, i64_w, i32_w]
    rfl
  refine zq 9 (some 4) ?_
  refine zq 10 (some 5) ?_
  refine done_ (by kernel_rfl) ?_
  go_wp2
  go_ret2
  exact ⟨rfl, (HFIN.out _ _ (HT4.out.below (by repeat (with_reducible first | exact Below.refl _ _ | apply below_drew | apply pw_below_drewN))).1).2 (HT4.out.below (by repeat (with_reducible first | exact Below.refl _ _ | apply below_drew | apply pw_below_drewN)))⟩
set_option maxHeartbeats 4000000 in
set_option maxRecDepth 100000 in
theorem changes_append (w : World) (b B : Nat) (Z : Nat → Prop) (s : St) (wh : Int) (nm : ByteArray) (n af : Int) (bs ks : List Int) (A5 : Option Addr) (c5 : Nat) (A6 : Option Addr) (c6 : Nat) (h : Pair w b Z s) (ok : Ok s) (hBw : B ≤ w.heap.size) (hZ : ∀ k, Z k → B ≤ k) (hin : OpIn w B bs A5 c5 ks A6 c6) (hlen : bs.length ≤ 2 ^ 40) (hn : n ≤ 9223372036854775807) :
    Calls Try.prog 50 #[.pointer (some ⟨b, 0, none⟩), .agg #[.int .i64 1, .int .i64 wh, .string nm, .int .i64 n, .int .i64 af, .slice A5 bs.length c5, .slice A6 ks.length c6]] w (ChangesPost w b Z (s.append nm bs)) := by
  have hbox := below_alloc (Below.refl w.heap.size w) (.cells #[.int .i64 1, .int .i64 wh, .string nm, .int .i64 n, .int .i64 af, .slice A5 bs.length c5, .slice A6 ks.length c6] 41)
  have hg := heap_alloc_new w (.cells #[.int .i64 1, .int .i64 wh, .string nm, .int .i64 n, .int .i64 af, .slice A5 bs.length c5, .slice A6 ks.length c6] 41)
  have hgz : ¬ Z w.heap.size := fun hk => Nat.lt_irrefl _ (h.bd _ hk)
  obtain ⟨p1, p2, ht, hfin⟩ := h.open_ hbox
  have hin1 := hin.below (hbox.mono hBw)
  have hlt := h.lt
  have hsz1 : w.heap.size < (w.alloc (.cells #[.int .i64 1, .int .i64 wh, .string nm, .int .i64 n, .int .i64 af, .slice A5 bs.length c5, .slice A6 ks.length c6] 41)).heap.size := by rw [World.size_alloc']; omega
  have hB1 : B ≤ (w.alloc (.cells #[.int .i64 1, .int .i64 wh, .string nm, .int .i64 n, .int .i64 af, .slice A5 bs.length c5, .slice A6 ks.length c6] 41)).heap.size := by omega
  have hb1 := (hfin _ s (Upd.refl _ _)).1
  have HG := Aside0.mk hg
  have HT := Aside0.mk ht
  have HFIN := Aside0.mk hfin
  have HIN := Aside0.mk hin1
  have HOK := Aside0.mk ok
  have HZ := Aside0.mk hZ
  have g0 := blk_cell hg 0
  have g1 := blk_cell hg 1
  have g2 := blk_cell hg 2
  have g3 := blk_cell hg 3
  have g4 := blk_cell hg 4
  have g5 := blk_cell hg 5
  have g6 := blk_cell hg 6
  have fg0 := blk_frozen hg 0
  have fg1 := blk_frozen hg 1
  have fg2 := blk_frozen hg 2
  have fg3 := blk_frozen hg 3
  have fg4 := blk_frozen hg 4
  have fg5 := blk_frozen hg 5
  have fg6 := blk_frozen hg 6
  simp only [List.getElem?_toArray, List.getElem?_cons_succ, List.getElem?_cons_zero] at g0 g1 g2 g3 g4 g5 g6
  have m0 := blk_cell hb1 0
  have m1 := blk_cell hb1 1
  have fm0 := blk_frozen hb1 0
  have fm1 := blk_frozen hb1 1
  simp only [List.getElem?_toArray, List.getElem?_cons_succ, List.getElem?_cons_zero] at m0 m1
  clear hg ht hfin hin1 hb1 hbox ok hZ h hin
  unfold ChangesPost
  go_enter Try.func50, Try.ntmps50
  go_wp2
  refine start_ (n := 10) (S := fun w' => w'.cell? ⟨b, 1, none⟩ = some (.pointer (some ⟨p2, 0, none⟩)) ∧ w'.cell? ⟨w.heap.size, 2, none⟩ = some (.string nm) ∧ w'.cell? ⟨w.heap.size, 5, none⟩ = some (.slice A5 bs.length c5)) (ds := [8]) #[false, false, false, false, false, false, false, false, false, false] (by kernel_rfl) rfl rfl ⟨m1, g2, g5⟩ (fun hHeld => ?_)
  refine zq 0 (some 14) ?_
  refine zq 1 (some 15) ?_
  refine zq 2 (some 16) ?_
  refine zq 4 (some 18) ?_
  refine zq 6 (some 20) ?_
  refine zu 3 (some 17) hHeld ?_
  refine zu 5 (some 19) hHeld ?_
  refine zu 7 (some 21) hHeld ?_
  refine last_ (i := 8) (N := some 22) #[true, true, true, true, true, true, true, true, true, false] rfl rfl (by kernel_rfl) (by decide) (fun K hK => ?_)
  refine goes_ Try.func38 (by kernel_rfl) rfl #[.pointer (some ⟨p2, 0, none⟩), .string nm, .slice A5 bs.length c5] (by rfl) rfl rfl (by simp only [List.map_toArray, List.map_cons, List.map_nil]; rfl) ?_
  obtain ⟨X2, hR, hx2, hnx⟩ := (HT.out.below (below_drew (Below.refl _ _))).openR
  have hst := (HIN.out.stays hB1 (Upd.refl Z _).drew HZ.out hx2).1
  refine (rappend_calls _ p2 X2 s nm A5 c5 bs hR HOK.out hst HIN.out.l5 hlen).mono ?_
  rintro e w2 ⟨rfl, hs⟩
  refine ⟨_, rfl, ?_⟩
  have ht2 := hnx _ _ hs
  have hb2 := (HFIN.out w2 s ht2.1).1
  have hg2 := blk_upd HG.out ht2.1 hgz
  have k0 := blk_cell hg2 0
  have k1 := blk_cell hg2 1
  have k2 := blk_cell hg2 2
  have k3 := blk_cell hg2 3
  have k4 := blk_cell hg2 4
  have k5 := blk_cell hg2 5
  have k6 := blk_cell hg2 6
  have fk0 := blk_frozen hg2 0
  have fk1 := blk_frozen hg2 1
  have fk2 := blk_frozen hg2 2
  have fk3 := blk_frozen hg2 3
  have fk4 := blk_frozen hg2 4
  have fk5 := blk_frozen hg2 5
  have fk6 := blk_frozen hg2 6
  simp only [List.getElem?_toArray, List.getElem?_cons_succ, List.getElem?_cons_zero] at k0 k1 k2 k3 k4 k5 k6
  have l0 := blk_cell hb2 0
  have l1 := blk_cell hb2 1
  have fl0 := blk_frozen hb2 0
  have fl1 := blk_frozen hb2 1
  simp only [List.getElem?_toArray, List.getElem?_cons_succ, List.getElem?_cons_zero] at l0 l1
  have HT2 := Aside0.mk ht2
  clear hR hx2 hnx hs ht2 hb2 hg2 hst
  refine hK.out _ _ ?_
  clear hK K
  refine norm_ (a' := ?_) ?_ ?_
  rotate_left
  · show Act.put _ (some 22) _ = _
    simp only [Act.put, zla, zlb, zlc, i64_w, i32_w]
    rfl
  refine zq 9 (some 6) ?_
  refine done_ (by kernel_rfl) ?_
  go_wp2
  refine start_ (n := 14) (S := fun w' => w'.cell? ⟨b, 0, none⟩ = some (.pointer (some ⟨p1, 0, none⟩)) ∧ w'.cell? ⟨w.heap.size, 2, none⟩ = some (.string nm) ∧ w'.cell? ⟨w.heap.size, 5, none⟩ = some (.slice A5 bs.length c5)) (ds := [10]) #[false, false, false, false, false, false, false, false, false, false, false, false, false, false] (by kernel_rfl) rfl rfl ⟨l0, k2, k5⟩ (fun hHeld => ?_)
  refine zq 0 (some 23) ?_
  refine zq 1 (some 24) ?_
  refine zq 2 (some 25) ?_
  refine zq 4 (some 27) ?_
  refine zq 6 (some 29) ?_
  refine zq 11 (some 34) ?_
  refine zu 3 (some 26) hHeld ?_
  refine zu 5 (some 28) hHeld ?_
  refine zu 7 (some 30) hHeld ?_
  refine one_ (i := 8) (N := some 31) #[true, true, true, true, true, true, true, true, true, false, false, true, false, false] rfl rfl (by kernel_rfl) (by decide) (fun K hK => ?_)
  refine goes_ Try.func55 (by kernel_rfl) rfl #[.slice A5 bs.length c5] (by rfl) rfl rfl (by simp only [List.map_toArray, List.map_cons, List.map_nil]; rfl) ?_
  refine (copyB_calls w2.drew A5 c5 bs (HIN.out.r5 _ ((HT2.out.1.drew).below hB1 HZ.out)) HIN.out.l5 hlen).mono ?_
  rintro e w3 ⟨A9, c9, rfl, hl9, hst9, hbl⟩
  refine ⟨_, rfl, ?_⟩
  have ht3 := (HT2.out.below (below_drew (Below.refl _ _))).below hbl
  have hb3 := (HFIN.out w3 s ht3.1).1
  have hg3 := blk_upd HG.out ht3.1 hgz
  have x0 := blk_cell hg3 0
  have x1 := blk_cell hg3 1
  have x2 := blk_cell hg3 2
  have x3 := blk_cell hg3 3
  have x4 := blk_cell hg3 4
  have x5 := blk_cell hg3 5
  have x6 := blk_cell hg3 6
  have fx0 := blk_frozen hg3 0
  have fx1 := blk_frozen hg3 1
  have fx2 := blk_frozen hg3 2
  have fx3 := blk_frozen hg3 3
  have fx4 := blk_frozen hg3 4
  have fx5 := blk_frozen hg3 5
  have fx6 := blk_frozen hg3 6
  simp only [List.getElem?_toArray, List.getElem?_cons_succ, List.getElem?_cons_zero] at x0 x1 x2 x3 x4 x5 x6
  have y0 := blk_cell hb3 0
  have y1 := blk_cell hb3 1
  have fy0 := blk_frozen hb3 0
  have fy1 := blk_frozen hb3 1
  simp only [List.getElem?_toArray, List.getElem?_cons_succ, List.getElem?_cons_zero] at y0 y1
  have HT3 := Aside0.mk ht3
  obtain ⟨X1, hP, hx1, hnx⟩ := (HT2.out.below (below_drew (Below.refl _ _))).openP
  have HST := Aside0.mk (hst9 X1 hP.bd)
  have HNX := Aside0.mk (fun (W : World) (s' : St) (hq : PStep p1 X1 w3 W s') => hnx W s' ((PStep.below hP hbl).trans (hq.more_ hbl.size)))
  have HP := Aside0.mk (hP.below hbl)
  clear ht3 hb3 hg3 hst9 hbl hP hx1 hnx
  refine hK.out _ _ ⟨y0, x2, x5⟩ (fun hHeld => ?_)
  clear hK K
  refine norm_ (a' := ?_) ?_ ?_
  rotate_left
  · show Act.put _ (some 31) _ = _
    simp only [Act.put, zla, zlb, zlc, i64_w, i32_w]
    rfl
  refine one_ (i := 9) (N := some 32) #[true, true, true, true, true, true, true, true, true, true, false, true, false, false] rfl rfl (by kernel_rfl) (by decide) (fun K hK => ?_)
  refine goes_ Try.func32 (by kernel_rfl) rfl #[.pointer (some ⟨p1, 0, none⟩), .string nm, .slice A9 bs.length c9] (by rfl) rfl rfl (by simp only [List.map_toArray, List.map_cons, List.map_nil]; rfl) ?_
  refine (append_calls _ p1 X1 s nm A9 c9 bs HP.out HOK.out HST.out hl9 hlen).mono ?_
  rintro e w4 ⟨rfl, hs⟩
  refine ⟨_, rfl, ?_⟩
  have ht4 := HNX.out _ _ hs
  have hb4 := (HFIN.out w4 s ht4.1).1
  have hg4 := blk_upd HG.out ht4.1 hgz
  have u0 := blk_cell hg4 0
  have u1 := blk_cell hg4 1
  have u2 := blk_cell hg4 2
  have u3 := blk_cell hg4 3
  have u4 := blk_cell hg4 4
  have u5 := blk_cell hg4 5
  have u6 := blk_cell hg4 6
  have fu0 := blk_frozen hg4 0
  have fu1 := blk_frozen hg4 1
  have fu2 := blk_frozen hg4 2
  have fu3 := blk_frozen hg4 3
  have fu4 := blk_frozen hg4 4
  have fu5 := blk_frozen hg4 5
  have fu6 := blk_frozen hg4 6
  simp only [List.getElem?_toArray, List.getElem?_cons_succ, List.getElem?_cons_zero] at u0 u1 u2 u3 u4 u5 u6
  have v0 := blk_cell hb4 0
  have v1 := blk_cell hb4 1
  have fv0 := blk_frozen hb4 0
  have fv1 := blk_frozen hb4 1
  simp only [List.getElem?_toArray, List.getElem?_cons_succ, List.getElem?_cons_zero] at v0 v1
  have HT4 := Aside0.mk ht4
  clear hs ht4 hb4 hg4
  refine hK.out _ _ ⟨v0, u2, u5⟩ (fun hHeld => ?_)
  clear hK K
  refine norm_ (a' := ?_) ?_ ?_
  rotate_left
  · show Act.put _ (some 32) _ = _
    simp only [Act.put, zla, zlb, zlc, i64_w, i32_w]
    rfl
  refine last_ (i := 10) (N := some 33) #[true, true, true, true, true, true, true, true, true, true, true, true, false, false] rfl rfl (by kernel_rfl) (by decide) (fun K hK => ?_)
  refine goes_ Try.func21 (by kernel_rfl) rfl #[.int .i64 (s.append nm bs).2] (by rfl) rfl rfl (by simp only [List.map_toArray, List.map_cons, List.map_nil]; rfl) ?_
  refine (num_calls _ _).mono ?_
  rintro e w5 ⟨rfl, ⟨⟨nd, rfl⟩⟩⟩
  refine ⟨_, rfl, ?_⟩
  refine hK.out _ _ ?_
  clear hK K
  refine norm_ (a' := ?_) ?_ ?_
  rotate_left
  · show Act.put _ (some 33) _ = _
    simp only [Act.put, zla, zlb, zlc, i64_w, i32_w]
    rfl
  refine zq 12 (some 4) ?_
  refine zq 13 (some 5) ?_
  refine done_ (by kernel_rfl) ?_
  go_wp2
  go_ret2
  exact ⟨rfl, (HFIN.out _ _ (HT4.out.below (by repeat (with_reducible first | exact Below.refl _ _ | apply below_drew | apply pw_below_drewN))).1).2 (HT4.out.below (by repeat (with_reducible first | exact Below.refl _ _ | apply below_drew | apply pw_below_drewN)))⟩
end Go.Proofs.Ytfholpajdkjbbaa.DK
