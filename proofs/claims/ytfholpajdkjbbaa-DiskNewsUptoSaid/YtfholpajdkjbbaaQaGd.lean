/- Parts R5, R6, R7, R8, R9, Ra, Rb, Rc of this work, in one text. -/
import Derived.Test.YtfholpajdkjbbaaQaGc
import Derived.Test.YtfholpajdkjbbaaQaGb
import Derived.Test.YtfholpajdkjbbaaQaPa
/- The reference's disk: Read; conditions: those in each theorem. -/
namespace Go.Proofs.Ytfholpajdkjbbaa.DK
open Go.Proofs.Ytfholpajdkjbbaa.PD
open Go.RowKit Go.Proofs.YtfholpajdkjbbaaW.PrintWords Go.Proofs.YtfholpajdkjbbaaW.PrintLast Go.Proofs.YtfholpajdkjbbaaW.PrintMore Go.Proofs.Ytfholpajdkjbbaa.Mo
set_option linter.unusedVariables false
set_option linter.unusedSimpArgs false
theorem fresh_calls (w : World) (A : Option Addr) (c : Nat) (l : List Int) (a b : Nat) (hab : a ≤ b) (hb : b ≤ l.length) (hl : l.length < 140737488355328) (hr : (Kd.int .u8).C w A l.length l) (hc : l.length ≤ c) :
    Calls Try.prog 42 #[.slice A l.length c, .int .i64 a, .int .i64 b] w fun e w' => ∃ v, e = .returned v ∧ (Kd.int .u8).R 5 w' w.heap.size (fun _ => True) v ((l.take b).drop a) ∧ Below w.heap.size w w' := by
  obtain ⟨k, hk⟩ := Ev.rounds (fresh_f l a b hab hb hl)
  exact PD.eddyref10_fresh.calls k A c l a b _ w hr hc hk
end Go.Proofs.Ytfholpajdkjbbaa.DK
/- The reference's disk: List, Files; conditions: those in each theorem. -/
namespace Go.Proofs.Ytfholpajdkjbbaa.DK
open Go.Proofs.Ytfholpajdkjbbaa.PD
open Go.RowKit Go.Proofs.YtfholpajdkjbbaaW.PrintWords Go.Proofs.YtfholpajdkjbbaaW.PrintLast Go.Proofs.YtfholpajdkjbbaaW.PrintMore Go.Proofs.Ytfholpajdkjbbaa.Mo
set_option linter.unusedVariables false
set_option linter.unusedSimpArgs false
end Go.Proofs.Ytfholpajdkjbbaa.DK
/- The reference's disk: Files; conditions: those in each theorem. -/
namespace Go.Proofs.Ytfholpajdkjbbaa.DK
open Go.Proofs.Ytfholpajdkjbbaa.PD
open Go.RowKit Go.Proofs.YtfholpajdkjbbaaW.PrintWords Go.Proofs.YtfholpajdkjbbaaW.PrintLast Go.Proofs.YtfholpajdkjbbaaW.PrintMore Go.Proofs.Ytfholpajdkjbbaa.Mo
set_option linter.unusedVariables false
set_option linter.unusedSimpArgs false
structure RF (w wr : World) (s : St) (v : Value) (i : Nat) : Prop where
  le : i ≤ s.all.length
  row : k67.R 67 wr w.heap.size (fun _ => True) v ((files67 s).take i)
  bel : Below w.heap.size w wr
def RFE (w : World) (s : St) (v iv : Value) (wr : World) : Prop := ∃ i : Nat, iv = .int .i64 i ∧ RF w wr s v i
set_option maxHeartbeats 4000000 in
set_option maxRecDepth 100000 in
theorem rfiles_calls (w : World) (p : Nat) (X : Nat → Prop) (s : St) (h : RefD w p X s) (ok : Ok s) : Calls Try.prog 19 #[.pointer (some ⟨p, 0, none⟩)] w fun e w' => ∃ v, e = .returned v ∧ k67.R 67 w' w.heap.size (fun _ => True) v (files67 s) ∧ Below w.heap.size w w' := by
  obtain ⟨av, rv, a, h⟩ := h
  have H := Aside0.mk h
  have OK := Aside0.mk ok
  have hlen : s.all.length ≤ 400 := ok.few
  clear h ok
  go_enter Try.func19, Try.ntmps19
  go_wp2
  go_loopw [3, 4] (fun v iv wr => RFE w s v iv wr) (fun _ iv _ => s.all.length - (intOf iv).toNat)
  case atStart => exact ⟨0, rfl, Nat.zero_le _, Kd.R_nil _ _ _ _ _, Below.refl _ _⟩
  case round =>
    obtain ⟨i, rfl, ht⟩ := hrel
    have HT := Aside0.mk ht
    have hR := H.out.upd (Upd.of_below ht.bel (fun _ => False)) (fun _ _ h => h)
    by_cases hlt : i < s.all.length
    · obtain ⟨g, cav, A1, c1, A2, c2, ho⟩ := hR.open_ i hlt
      have HAT := Aside0.mk (files67_at s i hlt)
      have hsm := OK.out.small _ (List.getElem_mem hlt)
      have HRN := Aside0.mk ht.row
      have HBL := Aside0.mk ht.bel
      generalize s.all[i] = f at *
      have hsl : f.sure.length + f.loose.length ≤ 65536 := hsm
      have HO := Aside0.mk ho
      have hp := ho.head
      have m0 := blk_cell hp 0
      have m1 := blk_cell hp 1
      have m2 := blk_cell hp 2
      have m3 := blk_cell hp 3
      have m4 := blk_cell hp 4
      have fm0 := blk_frozen hp 0
      have fm1 := blk_frozen hp 1
      have fm2 := blk_frozen hp 2
      have fm3 := blk_frozen hp 3
      have fm4 := blk_frozen hp 4
      simp only [List.getElem?_toArray, List.getElem?_cons_succ, List.getElem?_cons_zero] at m0 m1 m2 m3 m4
      have k0 := ho.k0
      have k1 := ho.k1
      have k2 := ho.k2
      have hl1 := ho.l1
      clear hR ht ho hp hsm
      go_wp2_with fail
      have HNW := Aside0.mk (heap_alloc_new wr (.cells #[.string f.name, .slice A1 f.sure.length c1, .slice A2 f.loose.length c2] 86))
      have HBW := Aside0.mk (below_alloc HBL.out (.cells #[.string f.name, .slice A1 f.sure.length c1, .slice A2 f.loose.length c2] 86))
      have HQ1 := Aside0.mk (Kd.C_alloc HO.out.q1 (.cells #[.string f.name, .slice A1 f.sure.length c1, .slice A2 f.loose.length c2] 86))
      have HQ2 := Aside0.mk (Kd.C_alloc HO.out.q2 (.cells #[.string f.name, .slice A1 f.sure.length c1, .slice A2 f.loose.length c2] 86))
      have HRW := Aside0.mk (Kd.R_alloc HRN.out (.cells #[.string f.name, .slice A1 f.sure.length c1, .slice A2 f.loose.length c2] 86))
      have HSZ5 := Aside0.mk (World.size_alloc' wr (.cells #[.string f.name, .slice A1 f.sure.length c1, .slice A2 f.loose.length c2] 86))
      clear k0 k1 k2 m0 m1 m2 m3 m4 fm0 fm1 fm2 fm3 fm4
      have HSZ := Aside0.mk (Nat.le_refl wr.heap.size)
      have HLT := Aside0.mk (fun k => Kd.R_lt HRN.out k)
      generalize wr.alloc (.cells #[.string f.name, .slice A1 f.sure.length c1, .slice A2 f.loose.length c2] 86) = W5 at *
      generalize wr.heap.size = b5 at *
      refine (fresh_calls W5 A1 c1 f.sure 0 f.sure.length (Nat.zero_le _) (Nat.le_refl _) (by omega) HQ1.out hl1).mono ?_
      rintro e w6 ⟨v6, rfl, r6, b6⟩
      rw [List.drop_zero, List.take_length] at r6
      have hn6 := blk_upd HNW.out (Upd.of_below b6 (fun _ => False)) (fun h => h)
      have HN6 := Aside0.mk hn6
      have x0 := blk_cell hn6 0
      have x1 := blk_cell hn6 1
      have x2 := blk_cell hn6 2
      have fx0 := blk_frozen hn6 0
      have fx1 := blk_frozen hn6 1
      have fx2 := blk_frozen hn6 2
      simp only [List.getElem?_toArray, List.getElem?_cons_succ, List.getElem?_cons_zero] at x0 x1 x2
      have R6 := Aside0.mk r6
      have B6 := Aside0.mk b6
      clear r6 b6 hn6
      go_wp2_with (first | ((with_reducible refine gate_builtin (b := .append) (xs := #[.tmp 29, .tmp 31]) rfl ?_); at_builtin; refine Kd.R_append_rows (Kd.int .u8) (w0 := W5) W5.heap.size rfl (.tmp 29) (.tmp 31) 38 5 (.int .u8 0) 1 rfl Try.underlying38 PD.info5 rfl (by decide) (by omega) _ f.sure f.loose _ _ _ (fun _ => True) (fun _ => False) rfl rfl ?aO ?aR (fun _ _ h => h) (fun _ h => h.elim) ?aF ?aB ?aS ?aL ?_; (case aR => exact Kd.C_below HQ2.out B6.out); (case aB => exact B6.out); (case aF => exact fun _ _ => trivial); (case aS => exact B6.out.size); (case aL => omega); (case aO => exact R6.out); intro v7 w7 ho hb hg hat; have r7 := ho; obtain ⟨A7, c7, rfl, hc7, _⟩ := Kd.R_reads r7; generalize hn1 : (f.sure ++ f.loose).length = n1 at r7 hat hc7 ⊢; have HN1 := Aside0.mk hn1; have B7 := Aside0.mk hb; have R7 := Aside0.mk r7; have hn7 := blk_upd HNW.out (Upd.of_below hb (fun _ => False)) (fun h => h); have y0 := blk_cell hn7 0; have y1 := blk_cell hn7 1; have y2 := blk_cell hn7 2; simp only [List.getElem?_toArray, List.getElem?_cons_succ, List.getElem?_cons_zero] at y0 y1 y2; clear ho hb hg hat r7 hc7 hn7 hn1) | ((with_reducible refine gate_builtin (b := .append) (xs := #[.tmp 33, .tmp 41]) rfl ?_); at_builtin; refine Kd.R_append k67 (w0 := w) w.heap.size rfl (.tmp 33) (.tmp 41) 22 67 (.agg #[(.string ⟨#[]⟩), (.slice none 0 0), (.int .i64 0)]) 48 rfl Try.underlying22 info67 rfl (by decide) (by omega) _ ((files67 s).take i) ⟨f.name, f.data, (f.sure.length : Int)⟩ [.string f.name, .slice A7 n1 c7, .int .i64 f.sure.length] (fun _ => True) (fun k => b5 ≤ k) rfl rfl ?bP ?bK ?bF ?bO ?bB ?bS ?bL ?_; (case bP => exact k67_mkM w7 w.heap.size _ ⟨f.name, f.data, (f.sure.length : Int)⟩ (Kd.R_lower (Kd.R_mono (Kd.R_bound R7.out) (fun k hk => Nat.le_trans (by have := HSZ5.out; omega) hk.2.1)) HBW.out.size)); (case bK => exact fun k hk => ⟨trivial, fun e => absurd (HLT.out k e.symm) (Nat.not_lt.2 hk)⟩); (case bF => exact (fun _ _ => trivial)); (case bO => exact Kd.R_below HRW.out B7.out); (case bB => exact HBW.out.trans (B7.out.mono HBW.out.size)); (case bS => exact Nat.le_trans HBW.out.size B7.out.size); (case bL => rw [List.length_take]; omega); intro v9 w9 ho hb hg hat; have HO9 := Aside0.mk ho; have HB9 := Aside0.mk hb; clear ho hb hg hat))
      have HX := Aside0.mk (show RF w w9 s v9 (i + 1) from ⟨hlt, by rw [take_snoc' _ i (by rw [files67_len]; exact hlt), HAT.out]; exact HO9.out, HB9.out⟩)
      go_roundw
      case rel => exact ⟨i + 1, by simp, HX.out⟩
      case measure => simp [intOf]; omega
    · have hi : i = s.all.length := by have := ht.le; omega
      subst hi
      have h2 := ht.row
      rw [List.take_of_length_le (by rw [files67_len]; exact Nat.le_refl _)] at h2
      have HR2 := Aside0.mk h2
      have hp := hR.head
      have hn := hR.files.len
      obtain ⟨A, n, c⟩ := av
      dsimp only at hn
      subst hn
      unfold Sl.v at hp
      dsimp only at hp
      have c0 := blk_cell hp 0
      have c1 := blk_cell hp 1
      have c2 := blk_cell hp 2
      have c3 := blk_cell hp 3
      have c4 := blk_cell hp 4
      have fc0 := blk_frozen hp 0
      have fc1 := blk_frozen hp 1
      have fc2 := blk_frozen hp 2
      have fc3 := blk_frozen hp 3
      have fc4 := blk_frozen hp 4
      simp only [List.getElem?_toArray, List.getElem?_cons_succ, List.getElem?_cons_zero] at c0 c1 c2 c3 c4
      clear ht h2 hR hp
      go_wp2
      go_ret
      exact ⟨_, rfl, HR2.out, HT.out.bel⟩
end Go.Proofs.Ytfholpajdkjbbaa.DK
/- The reference's disk: put; conditions: those in each theorem. -/
namespace Go.Proofs.Ytfholpajdkjbbaa.DK
open Go.Proofs.Ytfholpajdkjbbaa.PD
open Go.RowKit Go.Proofs.YtfholpajdkjbbaaW.PrintWords Go.Proofs.YtfholpajdkjbbaaW.PrintLast Go.Proofs.YtfholpajdkjbbaaW.PrintMore Go.Proofs.Ytfholpajdkjbbaa.Mo
set_option linter.unusedVariables false
set_option linter.unusedSimpArgs false
theorem info86 : (Try.prog.info? 86).map (fun i => (i.zero, i.size, i.bytes)) = some (some (.agg #[(.string ⟨#[]⟩), (.slice none 0 0), (.slice none 0 0)]), 3, 64) := by kernel_rfl
theorem FileAt.below {w w' : World} {p : Nat} {X : Nat → Prop} {s : St} {av : Sl} {rv : Bool → ByteArray → Sl} {a : Int} {i : Nat} {f : F} {g cav : Nat} {A1 : Option Addr} {c1 : Nat} {A2 : Option Addr} {c2 : Nat} (h : FileAt w p X s av rv a i f g cav A1 c1 A2 c2) (hb : Below w.heap.size w w') : FileAt w' p X s av rv a i f g cav A1 c1 A2 c2 :=
  have hc : ∀ o, w'.cell? ⟨g, o, none⟩ = w.cell? ⟨g, o, none⟩ := fun o => World.cell?_of_block (hb.block g h.lt)
  have hf : ∀ o, w'.frozen? ⟨g, o, none⟩ = w.frozen? ⟨g, o, none⟩ := fun o => World.frozen?_of_block (hb.block g h.lt)
  ⟨h.disk.upd (Upd.of_below hb (fun _ => False)) (fun _ _ h => h), h.hi, h.hf, h.hA, h.hav, h.ne, Nat.lt_of_lt_of_le h.lt hb.size, h.s1, h.s2, h.l1, h.l2, Kd.R_below h.r1 hb, Kd.R_below h.r2 hb, Kd.C_below h.q1 hb, Kd.C_below h.q2 hb, h.di, blk_upd h.head (Upd.of_below hb (fun _ => False)) (fun h => h),
    (hc _).trans h.k0, (hc _).trans h.k1, (hc _).trans h.k2, (hf _).trans h.f0, (hf _).trans h.f1, (hf _).trans h.f2⟩
theorem bytesLess_lt' : ∀ (x y : List UInt8), Op.bytesLess x y = decide (x < y)
  | [], [] => (decide_eq_false (List.not_lt_nil _)).symm
  | _ :: _, [] => (decide_eq_false (List.not_lt_nil _)).symm
  | [], _ :: _ => (decide_eq_true (List.nil_lt_cons _ _)).symm
  | a :: x, b :: y => by
    rw [Op.bytesLess, bytesLess_lt' x y]
    rw [show decide (a :: x < b :: y) = decide (a < b ∨ a = b ∧ x < y) from decide_eq_decide.2 List.cons_lt_cons_iff]
    by_cases h1 : a < b <;> by_cases h2 : a = b <;> by_cases h3 : x < y <;> simp [h1, h2, h3]
theorem bytesLess_lt (a b : ByteArray) : Op.bytesLess a.toList b.toList = lt a b := by
  rw [bytesLess_lt', ByteArray.toList_eq, ByteArray.toList_eq]
  rfl
/-- One round of putting f in: has it been laid down, what lies there. -/
def ins (f : F) (r : Bool × List F) (g : F) : Bool × List F := if r.1 = false ∧ lt f.name g.name = true then (true, r.2 ++ [f, g]) else (r.1, r.2 ++ [g])
theorem ins_done (f : F) : ∀ (l acc : List F), l.foldl (ins f) (true, acc) = (true, acc ++ l)
  | [], acc => by rw [List.append_nil]; rfl
  | g :: l, acc => by
    rw [List.foldl_cons, show ins f (true, acc) g = (true, acc ++ [g]) from if_neg (fun h => nomatch h.1), ins_done f l, List.append_assoc]
    rfl
theorem ins_put (f : F) : ∀ (l acc : List F), (if (l.foldl (ins f) (false, acc)).1 = true then (l.foldl (ins f) (false, acc)).2 else (l.foldl (ins f) (false, acc)).2 ++ [f]) = acc ++ put f l
  | [], acc => rfl
  | g :: l, acc => by
    rw [List.foldl_cons]
    unfold put
    by_cases h : lt f.name g.name = true
    · rw [show ins f (false, acc) g = (true, acc ++ [f, g]) from if_pos ⟨rfl, h⟩, ins_done, if_pos h]
      simp
    · rw [show ins f (false, acc) g = (false, acc ++ [g]) from if_neg (fun h2 => h h2.2), if_neg h, ins_put f l (acc ++ [g]), List.append_assoc]
      rfl
structure Puts (w3 wr : World) (l : List F) (T : F → Tri) (f : F) (i : Nat) (d : Bool) (acc : List F) (v : Value) : Prop where
  le : i ≤ l.length
  run : (l.take i).foldl (ins f) (false, []) = (d, acc)
  row : kT.R 86 wr w3.heap.size (fun _ => True) v (acc.map T)
  bel : Below w3.heap.size w3 wr
  small : acc.length ≤ 2 * i
def PutsE (w3 : World) (l : List F) (T : F → Tri) (f : F) (v dv iv : Value) (wr : World) : Prop := ∃ (i : Nat) (d : Bool) (acc : List F), iv = .int .i64 i ∧ dv = .bool d ∧ Puts w3 wr l T f i d acc v
theorem put_end {w W : World} {p base : Nat} {m0 : Value} {dn : Bool} {l a fl : Int} {av' : Sl} {L : List Tri} (h0 : Below w.heap.size w W) (hrow : kT.R 86 W base (fun _ => True) av'.v L) (hbase : w.heap.size ≤ base)
    (hp : w.heap[p]? = some (.cells #[m0, .bool dn, .int .i64 l, .int .i64 a, .int .i64 fl] 84 (0, 0))) :
    (∀ k, av'.v.ownBlock = some k → w.heap.size ≤ k) ∧ kT.R 86 (W.setCell ⟨p, 0, none⟩ av'.v) 0 (fun _ => True) av'.v L ∧ Upd (fun k => k = p) w (W.setCell ⟨p, 0, none⟩ av'.v) ∧
      (W.setCell ⟨p, 0, none⟩ av'.v).heap[p]? = some (.cells #[av'.v, .bool dn, .int .i64 l, .int .i64 a, .int .i64 fl] 84 (0, 0)) := by
  have hlt := blk_lt hp
  refine ⟨fun k hk => Nat.le_trans hbase (Kd.R_base hrow k hk), Kd.R_lower (Kd.R_mono (Kd.R_step (Kd.R_bound hrow) (fun k hk _ => Below.heap_setCell _ _ _ _ (fun e => ?_))) (fun _ _ => trivial)) (Nat.zero_le _), (Upd.of_below h0 _).set1 0 _, ?_⟩
  · have h1 := hk.2.1
    subst e
    omega
  · rw [heap_set, h0.block p hlt, hp]
    rfl
set_option maxHeartbeats 8000000 in
set_option maxRecDepth 100000 in
theorem rput_raw (w : World) (p : Nat) (X : Nat → Prop) (s : St) (av : Sl) (rv : Bool → ByteArray → Sl) (a : Int) (h : RDisk w p X s av rv a) (hl : s.all.length ≤ 400) (f : F) (hnm : f.name ∉ namesOf s.all) (A1 : Option Addr) (n1 c1 : Nat) (A2 : Option Addr) (n2 c2 : Nat) :
    Calls Try.prog 59 #[.pointer (some ⟨p, 0, none⟩), .agg #[.string f.name, .slice A1 n1 c1, .slice A2 n2 c2]] w fun e w' => e = .returned (.tuple #[]) ∧ ∃ av' : Sl, (∀ k, av'.v.ownBlock = some k → w.heap.size ≤ k) ∧
      kT.R 86 w' 0 (fun _ => True) av'.v ((put f s.all).map (fun x => if x.name = f.name then ⟨f.name, ⟨A1, n1, c1⟩, ⟨A2, n2, c2⟩⟩ else tri rv x)) ∧ Upd (fun k => k = p) w w' ∧
      w'.heap[p]? = some (.cells #[av'.v, .bool s.down, .int .i64 s.left, .int .i64 a, .int .i64 s.fails] 84 (0, 0)) := by
  have H := Aside0.mk h
  have HNM := Aside0.mk hnm
  obtain ⟨T, hT⟩ : ∃ T : F → Tri, T = fun x => if x.name = f.name then ⟨f.name, ⟨A1, n1, c1⟩, ⟨A2, n2, c2⟩⟩ else tri rv x := ⟨_, rfl⟩
  have HT := Aside0.mk hT
  rw [← hT]
  clear h hnm hT
  go_enter Try.func59, Try.ntmps59
  go_wp2
  go_loopw [4, 5, 6] (fun v dv iv wr => PutsE (w.alloc (.cells #[.string f.name, .slice A1 n1 c1, .slice A2 n2 c2] 86)) s.all T f v dv iv wr) (fun _ _ iv _ => s.all.length - (intOf iv).toNat)
  case atStart => exact ⟨0, false, [], rfl, rfl, Nat.zero_le _, rfl, Kd.R_nil _ _ _ _ _, Below.refl _ _, Nat.zero_le _⟩
  case round =>
    obtain ⟨i, d, acc, rfl, rfl, hb⟩ := hrel
    have HB := Aside0.mk hb
    have HW := Aside0.mk (World.size_alloc' w (.cells #[.string f.name, .slice A1 n1 c1, .slice A2 n2 c2] 86))
    have hbw : Below w.heap.size w wr := (below_alloc (Below.refl _ _) _).trans (hb.bel.mono (by rw [HW.out]; omega))
    have hR := H.out.upd (Upd.of_below hbw (fun _ => False)) (fun _ _ h => h)
    have hn3 : wr.heap[w.heap.size]? = some (.cells #[.string f.name, .slice A1 n1 c1, .slice A2 n2 c2] 86 (0, 0)) := (hb.bel.block w.heap.size (by rw [HW.out]; omega)).trans (heap_alloc_new w _)
    have HBW := Aside0.mk hbw
    by_cases hlt : i < s.all.length
    · obtain ⟨g, cav, B1, d1, B2, d2, ho0⟩ := H.out.open_ i hlt
      have HTK := Aside0.mk (take_snoc' s.all i hlt)
      have HNE := Aside0.mk (show (s.all[i]).name ≠ f.name from fun e => HNM.out (by rw [← e]; exact List.mem_map_of_mem (List.getElem_mem hlt)))
      generalize s.all[i] = y at *
      have HO0 := Aside0.mk ho0
      have HTY := Aside0.mk (show T y = ⟨y.name, ⟨B1, y.sure.length, d1⟩, ⟨B2, y.loose.length, d2⟩⟩ by rw [HT.out]; dsimp only; rw [if_neg HNE.out]; unfold tri; rw [ho0.s1, ho0.s2])
      have HTF := Aside0.mk (show T f = ⟨f.name, ⟨A1, n1, c1⟩, ⟨A2, n2, c2⟩⟩ by rw [HT.out]; dsimp only; rw [if_pos rfl])
      have ho := ho0.below hbw
      have x0 := blk_cell hn3 0
      have x1 := blk_cell hn3 1
      have x2 := blk_cell hn3 2
      have fx0 := blk_frozen hn3 0
      have fx1 := blk_frozen hn3 1
      have fx2 := blk_frozen hn3 2
      simp only [List.getElem?_toArray, List.getElem?_cons_succ, List.getElem?_cons_zero] at x0 x1 x2
      have hp := ho.head
      have m0 := blk_cell hp 0
      have m1 := blk_cell hp 1
      have m2 := blk_cell hp 2
      have m3 := blk_cell hp 3
      have m4 := blk_cell hp 4
      have fm0 := blk_frozen hp 0
      have fm1 := blk_frozen hp 1
      have fm2 := blk_frozen hp 2
      have fm3 := blk_frozen hp 3
      have fm4 := blk_frozen hp 4
      simp only [List.getElem?_toArray, List.getElem?_cons_succ, List.getElem?_cons_zero] at m0 m1 m2 m3 m4
      have k0 := ho.k0
      have k1 := ho.k1
      have k2 := ho.k2
      have HRN := Aside0.mk hb.row
      have HBE := Aside0.mk hb.bel
      have hsl := hb.small
      have hrun := hb.run
      have HRUN := Aside0.mk hrun
      clear hbw hR hb hp ho hn3 ho0 hrun
      cases d with
      | true =>
        go_wp2
        refine start_ (n := 15) (S := fun w' => w'.cell? ⟨w.heap.size, 0, none⟩ = some (.string f.name) ∧ w'.cell? ⟨p, 0, none⟩ = some (.slice (some ⟨g, 0, none⟩) s.all.length cav) ∧ w'.cell? ⟨g, i * 3, none⟩ = some (.string y.name)) (ds := []) #[false, false, false, false, false, false, false, false, false, false, false, false, false, false, false] (by kernel_rfl) rfl rfl ⟨x0, m0, k0⟩ (fun hHeld => ?_)
        refine pure_ (i := 0) (N := some 16) (v := ?_) (a' := ?_) #[true, false, false, false, false, false, false, false, false, false, false, false, false, false, false] rfl rfl (by kernel_rfl) (fun _ _ _ h => h) (Or.inl ⟨by rfl, ?_⟩) ?_ ?_
        rotate_left
        · intro w'
          go_simp
          with_reducible rfl
        rotate_left
        · simp only [Act.put, List.setIfInBounds_toArray, List.set_cons_zero, List.set_cons_succ, i64_w, i32_w]
          rfl
        refine pure_ (i := 1) (N := some 17) (v := ?_) (a' := ?_) #[true, true, false, false, false, false, false, false, false, false, false, false, false, false, false] rfl rfl (by kernel_rfl) (fun _ _ _ h => h) (Or.inl ⟨by rfl, ?_⟩) ?_ ?_
        rotate_left
        · intro w'
          go_simp
          with_reducible rfl
        rotate_left
        · simp only [Act.put, List.setIfInBounds_toArray, List.set_cons_zero, List.set_cons_succ, i64_w, i32_w]
          rfl
        refine pure_ (i := 2) (N := some 18) (v := ?_) (a' := ?_) #[true, true, true, false, false, false, false, false, false, false, false, false, false, false, false] rfl rfl (by kernel_rfl) (fun _ _ _ h => h) (Or.inl ⟨by rfl, ?_⟩) ?_ ?_
        rotate_left
        · intro w'
          go_simp
          with_reducible rfl
        rotate_left
        · simp only [Act.put, List.setIfInBounds_toArray, List.set_cons_zero, List.set_cons_succ, i64_w, i32_w]
          rfl
        refine pure_ (i := 3) (N := some 19) (v := undef) (a' := ?_) #[true, true, true, true, false, false, false, false, false, false, false, false, false, false, false] rfl rfl (by kernel_rfl) (fun _ _ _ h => h) (Or.inr ⟨by rfl, rfl⟩) ?_ ?_
        rotate_left
        · simp only [Act.put, List.setIfInBounds_toArray, List.set_cons_zero, List.set_cons_succ, i64_w, i32_w]
          rfl
        refine pure_ (i := 4) (N := some 20) (v := undef) (a' := ?_) #[true, true, true, true, true, false, false, false, false, false, false, false, false, false, false] rfl rfl (by kernel_rfl) (fun _ _ _ h => h) (Or.inr ⟨by rfl, rfl⟩) ?_ ?_
        rotate_left
        · simp only [Act.put, List.setIfInBounds_toArray, List.set_cons_zero, List.set_cons_succ, i64_w, i32_w]
          rfl
        refine pure_ (i := 5) (N := some 21) (v := undef) (a' := ?_) #[true, true, true, true, true, true, false, false, false, false, false, false, false, false, false] rfl rfl (by kernel_rfl) (fun _ _ _ h => h) (Or.inr ⟨by rfl, rfl⟩) ?_ ?_
        rotate_left
        · simp only [Act.put, List.setIfInBounds_toArray, List.set_cons_zero, List.set_cons_succ, i64_w, i32_w]
          rfl
        refine pure_ (i := 6) (N := some 22) (v := undef) (a' := ?_) #[true, true, true, true, true, true, true, false, false, false, false, false, false, false, false] rfl rfl (by kernel_rfl) (fun _ _ _ h => h) (Or.inr ⟨by rfl, rfl⟩) ?_ ?_
        rotate_left
        · simp only [Act.put, List.setIfInBounds_toArray, List.set_cons_zero, List.set_cons_succ, i64_w, i32_w]
          rfl
        refine pure_ (i := 7) (N := some 23) (v := undef) (a' := ?_) #[true, true, true, true, true, true, true, true, false, false, false, false, false, false, false] rfl rfl (by kernel_rfl) (fun _ _ _ h => h) (Or.inr ⟨by rfl, rfl⟩) ?_ ?_
        rotate_left
        · simp only [Act.put, List.setIfInBounds_toArray, List.set_cons_zero, List.set_cons_succ, i64_w, i32_w]
          rfl
        refine pure_ (i := 8) (N := some 24) (v := undef) (a' := ?_) #[true, true, true, true, true, true, true, true, true, false, false, false, false, false, false] rfl rfl (by kernel_rfl) (fun _ _ _ h => h) (Or.inr ⟨by rfl, rfl⟩) ?_ ?_
        rotate_left
        · simp only [Act.put, List.setIfInBounds_toArray, List.set_cons_zero, List.set_cons_succ, i64_w, i32_w]
          rfl
        refine pure_ (i := 9) (N := some 25) (v := undef) (a' := ?_) #[true, true, true, true, true, true, true, true, true, true, false, false, false, false, false] rfl rfl (by kernel_rfl) (fun _ _ _ h => h) (Or.inr ⟨by rfl, rfl⟩) ?_ ?_
        rotate_left
        · simp only [Act.put, List.setIfInBounds_toArray, List.set_cons_zero, List.set_cons_succ, i64_w, i32_w]
          rfl
        refine pure_ (i := 10) (N := some 26) (v := undef) (a' := ?_) #[true, true, true, true, true, true, true, true, true, true, true, false, false, false, false] rfl rfl (by kernel_rfl) (fun _ _ _ h => h) (Or.inr ⟨by rfl, rfl⟩) ?_ ?_
        rotate_left
        · simp only [Act.put, List.setIfInBounds_toArray, List.set_cons_zero, List.set_cons_succ, i64_w, i32_w]
          rfl
        refine pure_ (i := 11) (N := some 27) (v := undef) (a' := ?_) #[true, true, true, true, true, true, true, true, true, true, true, true, false, false, false] rfl rfl (by kernel_rfl) (fun _ _ _ h => h) (Or.inr ⟨by rfl, rfl⟩) ?_ ?_
        rotate_left
        · simp only [Act.put, List.setIfInBounds_toArray, List.set_cons_zero, List.set_cons_succ, i64_w, i32_w]
          rfl
        refine pure_ (i := 12) (N := some 28) (v := undef) (a' := ?_) #[true, true, true, true, true, true, true, true, true, true, true, true, true, false, false] rfl rfl (by kernel_rfl) (fun _ _ _ h => h) (Or.inr ⟨by rfl, rfl⟩) ?_ ?_
        rotate_left
        · simp only [Act.put, List.setIfInBounds_toArray, List.set_cons_zero, List.set_cons_succ, i64_w, i32_w]
          rfl
        refine pure_ (i := 13) (N := some 29) (v := undef) (a' := ?_) #[true, true, true, true, true, true, true, true, true, true, true, true, true, true, false] rfl rfl (by kernel_rfl) (fun _ _ _ h => h) (Or.inr ⟨by rfl, rfl⟩) ?_ ?_
        rotate_left
        · simp only [Act.put, List.setIfInBounds_toArray, List.set_cons_zero, List.set_cons_succ, i64_w, i32_w]
          rfl
        refine pure_ (i := 14) (N := some 30) (v := ?_) (a' := ?_) #[true, true, true, true, true, true, true, true, true, true, true, true, true, true, true] rfl rfl (by kernel_rfl) (fun _ _ _ h => h) (Or.inl ⟨by rfl, ?_⟩) ?_ ?_
        rotate_left
        · intro w'
          go_simp
          with_reducible rfl
        rotate_left
        · simp only [Act.put, List.setIfInBounds_toArray, List.set_cons_zero, List.set_cons_succ, i64_w, i32_w]
          rfl
        refine done_ (by kernel_rfl) ?_
        go_wp2_with (first | ((with_reducible refine gate_builtin (b := .append) (xs := #[.tmp 35, .tmp 43]) rfl ?_); at_builtin; refine Kd.R_append kT (w0 := (w.alloc (.cells #[.string f.name, .slice A1 n1 c1, .slice A2 n2 c2] 86))) (W := wr.drew) ((w.alloc (.cells #[.string f.name, .slice A1 n1 c1, .slice A2 n2 c2] 86))).heap.size rfl (.tmp 35) (.tmp 43) 82 86 (.agg #[(.string ⟨#[]⟩), (.slice none 0 0), (.slice none 0 0)]) 64 rfl Try.underlying82 info86 rfl (by decide) (by omega) u4 (acc.map T) (T y) [.string y.name, .slice B1 y.sure.length d1, .slice B2 y.loose.length d2] (fun _ => True) (fun _ => False) rfl rfl ?a1P (fun _ hk => hk.elim) ?a1F ?a1O ?a1B ?a1S ?a1L ?_; (case a1P => exact kT_M.2 (congrArg Tri.cells HTY.out).symm); (case a1F => exact (fun _ _ => trivial)); (case a1O => exact (by repeat (with_reducible first | exact HRN.out | apply Kd.R_drew | apply Kd.R_drewN))); (case a1B => exact (by repeat (with_reducible first | exact HBE.out | apply below_drew | apply pw_below_drewN))); (case a1S => exact (show ((w.alloc (.cells #[.string f.name, .slice A1 n1 c1, .slice A2 n2 c2] 86))).heap.size ≤ _ from (HBE.out).size)); (case a1L => simp only [List.length_append, List.length_map, List.length_singleton, List.length_cons, List.length_nil]; omega); intro v8 w8 ho hb hg hat; have HO8 := Aside0.mk ho; have HB8 := Aside0.mk hb; clear ho hb hg hat))
        have HX := Aside0.mk (show Puts (w.alloc (.cells #[.string f.name, .slice A1 n1 c1, .slice A2 n2 c2] 86)) w8 s.all T f (i + 1) true (acc ++ [y]) v8 from ⟨hlt, by rw [HTK.out, List.foldl_append, HRUN.out]; exact (show ins f (true, acc) y = _ from if_neg (fun h => nomatch h.1)), by have := HO8.out; simpa only [List.map_append, List.map_cons, List.map_nil, List.append_assoc, List.cons_append, List.nil_append] using this, HB8.out, by simp only [List.length_append, List.length_cons, List.length_nil]; omega⟩)
        go_roundw
        case rel => exact ⟨i + 1, true, _, by simp, rfl, HX.out⟩
        case measure => simp [intOf]; omega
      | false =>
        by_cases hx : lt f.name y.name = true
        · have HX0 := Aside0.mk hx
          have hbl : Op.bytesLess f.name.toList y.name.toList = true := by rw [bytesLess_lt]; exact hx
          clear hx
          go_wp2
          refine start_ (n := 15) (S := fun w' => w'.cell? ⟨w.heap.size, 0, none⟩ = some (.string f.name) ∧ w'.cell? ⟨p, 0, none⟩ = some (.slice (some ⟨g, 0, none⟩) s.all.length cav) ∧ w'.cell? ⟨g, i * 3, none⟩ = some (.string y.name)) (ds := []) #[false, false, false, false, false, false, false, false, false, false, false, false, false, false, false] (by kernel_rfl) rfl rfl ⟨x0, m0, k0⟩ (fun hHeld => ?_)
          refine pure_ (i := 0) (N := some 16) (v := ?_) (a' := ?_) #[true, false, false, false, false, false, false, false, false, false, false, false, false, false, false] rfl rfl (by kernel_rfl) (fun _ _ _ h => h) (Or.inl ⟨by rfl, ?_⟩) ?_ ?_
          rotate_left
          · intro w'
            go_simp
            with_reducible rfl
          rotate_left
          · simp only [Act.put, List.setIfInBounds_toArray, List.set_cons_zero, List.set_cons_succ, i64_w, i32_w, hbl]
            rfl
          refine pure_ (i := 1) (N := some 17) (v := ?_) (a' := ?_) #[true, true, false, false, false, false, false, false, false, false, false, false, false, false, false] rfl rfl (by kernel_rfl) (fun _ _ _ h => h) (Or.inl ⟨by rfl, ?_⟩) ?_ ?_
          rotate_left
          · intro w'
            go_simp
            with_reducible rfl
          rotate_left
          · simp only [Act.put, List.setIfInBounds_toArray, List.set_cons_zero, List.set_cons_succ, i64_w, i32_w, hbl]
            rfl
          refine pure_ (i := 2) (N := some 18) (v := ?_) (a' := ?_) #[true, true, true, false, false, false, false, false, false, false, false, false, false, false, false] rfl rfl (by kernel_rfl) (fun _ _ _ h => h) (Or.inl ⟨by rfl, ?_⟩) ?_ ?_
          rotate_left
          · intro w'
            go_simp
            with_reducible rfl
          rotate_left
          · simp only [Act.put, List.setIfInBounds_toArray, List.set_cons_zero, List.set_cons_succ, i64_w, i32_w, hbl]
            rfl
          refine pure_ (i := 3) (N := some 19) (v := ?_) (a' := ?_) #[true, true, true, true, false, false, false, false, false, false, false, false, false, false, false] rfl rfl (by kernel_rfl) (fun _ _ _ h => h) (Or.inl ⟨by rfl, ?_⟩) ?_ ?_
          rotate_left
          · intro w'
            go_simp
            with_reducible rfl
          rotate_left
          · simp only [Act.put, List.setIfInBounds_toArray, List.set_cons_zero, List.set_cons_succ, i64_w, i32_w, hbl]
            rfl
          refine pure_ (i := 5) (N := some 21) (v := ?_) (a' := ?_) #[true, true, true, true, false, true, false, false, false, false, false, false, false, false, false] rfl rfl (by kernel_rfl) (fun _ _ _ h => h) (Or.inl ⟨by rfl, ?_⟩) ?_ ?_
          rotate_left
          · intro w'
            go_simp
            with_reducible rfl
          rotate_left
          · simp only [Act.put, List.setIfInBounds_toArray, List.set_cons_zero, List.set_cons_succ, i64_w, i32_w, hbl]
            rfl
          refine pure_ (i := 6) (N := some 22) (v := ?_) (a' := ?_) #[true, true, true, true, false, true, true, false, false, false, false, false, false, false, false] rfl rfl (by kernel_rfl) (fun _ _ _ h => h) (Or.inl ⟨by rfl, ?_⟩) ?_ ?_
          rotate_left
          · intro w'
            go_simp
            with_reducible rfl
          rotate_left
          · simp only [Act.put, List.setIfInBounds_toArray, List.set_cons_zero, List.set_cons_succ, i64_w, i32_w, hbl]
            rfl
          refine pure_ (i := 7) (N := some 23) (v := ?_) (a' := ?_) #[true, true, true, true, false, true, true, true, false, false, false, false, false, false, false] rfl rfl (by kernel_rfl) (fun _ _ _ h => h) (Or.inl ⟨by rfl, ?_⟩) ?_ ?_
          rotate_left
          · intro w'
            go_simp
            with_reducible rfl
          rotate_left
          · simp only [Act.put, List.setIfInBounds_toArray, List.set_cons_zero, List.set_cons_succ, i64_w, i32_w, hbl]
            rfl
          refine pure_ (i := 9) (N := some 25) (v := ?_) (a' := ?_) #[true, true, true, true, false, true, true, true, false, true, false, false, false, false, false] rfl rfl (by kernel_rfl) (fun _ _ _ h => h) (Or.inl ⟨by rfl, ?_⟩) ?_ ?_
          rotate_left
          · intro w'
            go_simp
            with_reducible rfl
          rotate_left
          · simp only [Act.put, List.setIfInBounds_toArray, List.set_cons_zero, List.set_cons_succ, i64_w, i32_w, hbl]
            rfl
          refine take_ (i := 4) (N := some 20) (v := ?_) (a' := ?_) #[true, true, true, true, true, true, true, true, false, true, false, false, false, false, false] rfl rfl (by kernel_rfl) (fun _ _ _ h => h) (Or.inl ⟨by rfl, ?_⟩) hHeld ?_ ?_
          rotate_left
          · rintro w' ⟨s0, s1, s2⟩
            go_simp
            with_reducible rfl
          rotate_left
          · simp only [Act.put, List.setIfInBounds_toArray, List.set_cons_zero, List.set_cons_succ, i64_w, i32_w, hbl]
            rfl
          refine take_ (i := 8) (N := some 24) (v := ?_) (a' := ?_) #[true, true, true, true, true, true, true, true, true, true, false, false, false, false, false] rfl rfl (by kernel_rfl) (fun _ _ _ h => h) (Or.inl ⟨by rfl, ?_⟩) hHeld ?_ ?_
          rotate_left
          · rintro w' ⟨s0, s1, s2⟩
            go_simp
            with_reducible rfl
          rotate_left
          · simp only [Act.put, List.setIfInBounds_toArray, List.set_cons_zero, List.set_cons_succ, i64_w, i32_w, hbl]
            rfl
          refine pure_ (i := 10) (N := some 26) (v := ?_) (a' := ?_) #[true, true, true, true, true, true, true, true, true, true, true, false, false, false, false] rfl rfl (by kernel_rfl) (fun _ _ _ h => h) (Or.inl ⟨by rfl, ?_⟩) ?_ ?_
          rotate_left
          · intro w'
            go_simp
            with_reducible rfl
          rotate_left
          · simp only [Act.put, List.setIfInBounds_toArray, List.set_cons_zero, List.set_cons_succ, i64_w, i32_w, hbl]
            rfl
          refine pure_ (i := 11) (N := some 27) (v := ?_) (a' := ?_) #[true, true, true, true, true, true, true, true, true, true, true, true, false, false, false] rfl rfl (by kernel_rfl) (fun _ _ _ h => h) (Or.inl ⟨by rfl, ?_⟩) ?_ ?_
          rotate_left
          · intro w'
            go_simp
            with_reducible rfl
          rotate_left
          · simp only [Act.put, List.setIfInBounds_toArray, List.set_cons_zero, List.set_cons_succ, i64_w, i32_w, hbl]
            rfl
          refine take_ (i := 12) (N := some 28) (v := ?_) (a' := ?_) #[true, true, true, true, true, true, true, true, true, true, true, true, true, false, false] rfl rfl (by kernel_rfl) (fun _ _ _ h => h) (Or.inl ⟨by rfl, ?_⟩) hHeld ?_ ?_
          rotate_left
          · rintro w' ⟨s0, s1, s2⟩
            go_simp
            with_reducible rfl
          rotate_left
          · simp only [Act.put, List.setIfInBounds_toArray, List.set_cons_zero, List.set_cons_succ, i64_w, i32_w, hbl]
            rfl
          refine pure_ (i := 13) (N := some 29) (v := ?_) (a' := ?_) #[true, true, true, true, true, true, true, true, true, true, true, true, true, true, false] rfl rfl (by kernel_rfl) (fun _ _ _ h => h) (Or.inl ⟨by rfl, ?_⟩) ?_ ?_
          rotate_left
          · intro w'
            go_simp
            with_reducible rfl
          rotate_left
          · simp only [Act.put, List.setIfInBounds_toArray, List.set_cons_zero, List.set_cons_succ, i64_w, i32_w, hbl]
            rfl
          refine pure_ (i := 14) (N := some 30) (v := ?_) (a' := ?_) #[true, true, true, true, true, true, true, true, true, true, true, true, true, true, true] rfl rfl (by kernel_rfl) (fun _ _ _ h => h) (Or.inl ⟨by rfl, ?_⟩) ?_ ?_
          rotate_left
          · intro w'
            go_simp
            with_reducible rfl
          rotate_left
          · simp only [Act.put, List.setIfInBounds_toArray, List.set_cons_zero, List.set_cons_succ, i64_w, i32_w, hbl]
            rfl
          refine done_ (by kernel_rfl) ?_
          go_wp2_with (first | ((with_reducible refine gate_builtin (b := .append) (xs := #[.tmp 31, .tmp 33]) rfl ?_); at_builtin; refine Kd.R_append kT (w0 := (w.alloc (.cells #[.string f.name, .slice A1 n1 c1, .slice A2 n2 c2] 86))) (W := wr.drew) ((w.alloc (.cells #[.string f.name, .slice A1 n1 c1, .slice A2 n2 c2] 86))).heap.size rfl (.tmp 31) (.tmp 33) 82 86 (.agg #[(.string ⟨#[]⟩), (.slice none 0 0), (.slice none 0 0)]) 64 rfl Try.underlying82 info86 rfl (by decide) (by omega) u4 (acc.map T) (T f) [.string f.name, .slice A1 n1 c1, .slice A2 n2 c2] (fun _ => True) (fun _ => False) rfl rfl ?a1P (fun _ hk => hk.elim) ?a1F ?a1O ?a1B ?a1S ?a1L ?_; (case a1P => exact kT_M.2 (congrArg Tri.cells HTF.out).symm); (case a1F => exact (fun _ _ => trivial)); (case a1O => exact (by repeat (with_reducible first | exact HRN.out | apply Kd.R_drew | apply Kd.R_drewN))); (case a1B => exact (by repeat (with_reducible first | exact HBE.out | apply below_drew | apply pw_below_drewN))); (case a1S => exact (show ((w.alloc (.cells #[.string f.name, .slice A1 n1 c1, .slice A2 n2 c2] 86))).heap.size ≤ _ from (HBE.out).size)); (case a1L => simp only [List.length_append, List.length_map, List.length_singleton, List.length_cons, List.length_nil]; omega); intro v7 w7 ho hb hg hat; have HO7 := Aside0.mk ho; have HB7 := Aside0.mk hb; clear ho hb hg hat; have hn9 := (HB7.out.block w.heap.size (by rw [HW.out]; omega)).trans (heap_alloc_new w _); have y0 := blk_cell hn9 0; have y1 := blk_cell hn9 1; have y2 := blk_cell hn9 2; simp only [List.getElem?_toArray, List.getElem?_cons_succ, List.getElem?_cons_zero] at y0 y1 y2; have ho7 := HO0.out.below ((below_alloc (Below.refl _ _) _).trans (HB7.out.mono (by rw [HW.out]; omega))); have hp7 := ho7.head; have z0 := blk_cell hp7 0; simp only [List.getElem?_toArray, List.getElem?_cons_succ, List.getElem?_cons_zero] at z0; have q0 := ho7.k0; have q1 := ho7.k1; have q2 := ho7.k2; have HR7 := Aside0.mk (show kT.R 86 w7 (w.alloc (.cells #[.string f.name, .slice A1 n1 c1, .slice A2 n2 c2] 86)).heap.size (fun _ => True) v7 ((acc ++ [f]).map T) by rw [List.map_append]; exact HO7.out); clear hn9 ho7 hp7) | ((with_reducible refine gate_builtin (b := .append) (xs := #[.tmp 35, .tmp 43]) rfl ?_); at_builtin; refine Kd.R_append kT (w0 := (w.alloc (.cells #[.string f.name, .slice A1 n1 c1, .slice A2 n2 c2] 86))) (W := w7) ((w.alloc (.cells #[.string f.name, .slice A1 n1 c1, .slice A2 n2 c2] 86))).heap.size rfl (.tmp 35) (.tmp 43) 82 86 (.agg #[(.string ⟨#[]⟩), (.slice none 0 0), (.slice none 0 0)]) 64 rfl Try.underlying82 info86 rfl (by decide) (by omega) v7 ((acc ++ [f]).map T) (T y) [.string y.name, .slice B1 y.sure.length d1, .slice B2 y.loose.length d2] (fun _ => True) (fun _ => False) rfl rfl ?a2P (fun _ hk => hk.elim) ?a2F ?a2O ?a2B ?a2S ?a2L ?_; (case a2P => exact kT_M.2 (congrArg Tri.cells HTY.out).symm); (case a2F => exact (fun _ _ => trivial)); (case a2O => exact (by repeat (with_reducible first | exact HR7.out | apply Kd.R_drew | apply Kd.R_drewN))); (case a2B => exact (by repeat (with_reducible first | exact HB7.out | apply below_drew | apply pw_below_drewN))); (case a2S => exact (show ((w.alloc (.cells #[.string f.name, .slice A1 n1 c1, .slice A2 n2 c2] 86))).heap.size ≤ _ from (HB7.out).size)); (case a2L => simp only [List.length_append, List.length_map, List.length_singleton, List.length_cons, List.length_nil]; omega); intro v8 w8 ho hb hg hat; have HO8 := Aside0.mk ho; have HB8 := Aside0.mk hb; clear ho hb hg hat))
          have HX := Aside0.mk (show Puts (w.alloc (.cells #[.string f.name, .slice A1 n1 c1, .slice A2 n2 c2] 86)) w8 s.all T f (i + 1) true (acc ++ [f] ++ [y]) v8 from ⟨hlt, by rw [HTK.out, List.foldl_append, HRUN.out]; exact (show ins f (false, acc) y = _ from by rw [List.append_assoc]; exact if_pos ⟨rfl, HX0.out⟩), by have := HO8.out; simpa only [List.map_append, List.map_cons, List.map_nil, List.append_assoc, List.cons_append, List.nil_append] using this, HB8.out, by simp only [List.length_append, List.length_cons, List.length_nil]; omega⟩)
          go_roundw
          case rel => exact ⟨i + 1, true, _, by simp, rfl, HX.out⟩
          case measure => simp [intOf]; omega
        · have HX0 := Aside0.mk hx
          have hbl : Op.bytesLess f.name.toList y.name.toList = false := by rw [bytesLess_lt]; simpa using hx
          clear hx
          go_wp2
          refine start_ (n := 15) (S := fun w' => w'.cell? ⟨w.heap.size, 0, none⟩ = some (.string f.name) ∧ w'.cell? ⟨p, 0, none⟩ = some (.slice (some ⟨g, 0, none⟩) s.all.length cav) ∧ w'.cell? ⟨g, i * 3, none⟩ = some (.string y.name)) (ds := []) #[false, false, false, false, false, false, false, false, false, false, false, false, false, false, false] (by kernel_rfl) rfl rfl ⟨x0, m0, k0⟩ (fun hHeld => ?_)
          refine pure_ (i := 0) (N := some 16) (v := ?_) (a' := ?_) #[true, false, false, false, false, false, false, false, false, false, false, false, false, false, false] rfl rfl (by kernel_rfl) (fun _ _ _ h => h) (Or.inl ⟨by rfl, ?_⟩) ?_ ?_
          rotate_left
          · intro w'
            go_simp
            with_reducible rfl
          rotate_left
          · simp only [Act.put, List.setIfInBounds_toArray, List.set_cons_zero, List.set_cons_succ, i64_w, i32_w, hbl]
            rfl
          refine pure_ (i := 1) (N := some 17) (v := ?_) (a' := ?_) #[true, true, false, false, false, false, false, false, false, false, false, false, false, false, false] rfl rfl (by kernel_rfl) (fun _ _ _ h => h) (Or.inl ⟨by rfl, ?_⟩) ?_ ?_
          rotate_left
          · intro w'
            go_simp
            with_reducible rfl
          rotate_left
          · simp only [Act.put, List.setIfInBounds_toArray, List.set_cons_zero, List.set_cons_succ, i64_w, i32_w, hbl]
            rfl
          refine pure_ (i := 2) (N := some 18) (v := ?_) (a' := ?_) #[true, true, true, false, false, false, false, false, false, false, false, false, false, false, false] rfl rfl (by kernel_rfl) (fun _ _ _ h => h) (Or.inl ⟨by rfl, ?_⟩) ?_ ?_
          rotate_left
          · intro w'
            go_simp
            with_reducible rfl
          rotate_left
          · simp only [Act.put, List.setIfInBounds_toArray, List.set_cons_zero, List.set_cons_succ, i64_w, i32_w, hbl]
            rfl
          refine pure_ (i := 3) (N := some 19) (v := ?_) (a' := ?_) #[true, true, true, true, false, false, false, false, false, false, false, false, false, false, false] rfl rfl (by kernel_rfl) (fun _ _ _ h => h) (Or.inl ⟨by rfl, ?_⟩) ?_ ?_
          rotate_left
          · intro w'
            go_simp
            with_reducible rfl
          rotate_left
          · simp only [Act.put, List.setIfInBounds_toArray, List.set_cons_zero, List.set_cons_succ, i64_w, i32_w, hbl]
            rfl
          refine pure_ (i := 5) (N := some 21) (v := ?_) (a' := ?_) #[true, true, true, true, false, true, false, false, false, false, false, false, false, false, false] rfl rfl (by kernel_rfl) (fun _ _ _ h => h) (Or.inl ⟨by rfl, ?_⟩) ?_ ?_
          rotate_left
          · intro w'
            go_simp
            with_reducible rfl
          rotate_left
          · simp only [Act.put, List.setIfInBounds_toArray, List.set_cons_zero, List.set_cons_succ, i64_w, i32_w, hbl]
            rfl
          refine pure_ (i := 6) (N := some 22) (v := ?_) (a' := ?_) #[true, true, true, true, false, true, true, false, false, false, false, false, false, false, false] rfl rfl (by kernel_rfl) (fun _ _ _ h => h) (Or.inl ⟨by rfl, ?_⟩) ?_ ?_
          rotate_left
          · intro w'
            go_simp
            with_reducible rfl
          rotate_left
          · simp only [Act.put, List.setIfInBounds_toArray, List.set_cons_zero, List.set_cons_succ, i64_w, i32_w, hbl]
            rfl
          refine pure_ (i := 7) (N := some 23) (v := ?_) (a' := ?_) #[true, true, true, true, false, true, true, true, false, false, false, false, false, false, false] rfl rfl (by kernel_rfl) (fun _ _ _ h => h) (Or.inl ⟨by rfl, ?_⟩) ?_ ?_
          rotate_left
          · intro w'
            go_simp
            with_reducible rfl
          rotate_left
          · simp only [Act.put, List.setIfInBounds_toArray, List.set_cons_zero, List.set_cons_succ, i64_w, i32_w, hbl]
            rfl
          refine pure_ (i := 9) (N := some 25) (v := ?_) (a' := ?_) #[true, true, true, true, false, true, true, true, false, true, false, false, false, false, false] rfl rfl (by kernel_rfl) (fun _ _ _ h => h) (Or.inl ⟨by rfl, ?_⟩) ?_ ?_
          rotate_left
          · intro w'
            go_simp
            with_reducible rfl
          rotate_left
          · simp only [Act.put, List.setIfInBounds_toArray, List.set_cons_zero, List.set_cons_succ, i64_w, i32_w, hbl]
            rfl
          refine take_ (i := 4) (N := some 20) (v := ?_) (a' := ?_) #[true, true, true, true, true, true, true, true, false, true, false, false, false, false, false] rfl rfl (by kernel_rfl) (fun _ _ _ h => h) (Or.inl ⟨by rfl, ?_⟩) hHeld ?_ ?_
          rotate_left
          · rintro w' ⟨s0, s1, s2⟩
            go_simp
            with_reducible rfl
          rotate_left
          · simp only [Act.put, List.setIfInBounds_toArray, List.set_cons_zero, List.set_cons_succ, i64_w, i32_w, hbl]
            rfl
          refine take_ (i := 8) (N := some 24) (v := ?_) (a' := ?_) #[true, true, true, true, true, true, true, true, true, true, false, false, false, false, false] rfl rfl (by kernel_rfl) (fun _ _ _ h => h) (Or.inl ⟨by rfl, ?_⟩) hHeld ?_ ?_
          rotate_left
          · rintro w' ⟨s0, s1, s2⟩
            go_simp
            with_reducible rfl
          rotate_left
          · simp only [Act.put, List.setIfInBounds_toArray, List.set_cons_zero, List.set_cons_succ, i64_w, i32_w, hbl]
            rfl
          refine pure_ (i := 10) (N := some 26) (v := ?_) (a' := ?_) #[true, true, true, true, true, true, true, true, true, true, true, false, false, false, false] rfl rfl (by kernel_rfl) (fun _ _ _ h => h) (Or.inl ⟨by rfl, ?_⟩) ?_ ?_
          rotate_left
          · intro w'
            go_simp
            with_reducible rfl
          rotate_left
          · simp only [Act.put, List.setIfInBounds_toArray, List.set_cons_zero, List.set_cons_succ, i64_w, i32_w, hbl]
            rfl
          refine pure_ (i := 11) (N := some 27) (v := ?_) (a' := ?_) #[true, true, true, true, true, true, true, true, true, true, true, true, false, false, false] rfl rfl (by kernel_rfl) (fun _ _ _ h => h) (Or.inl ⟨by rfl, ?_⟩) ?_ ?_
          rotate_left
          · intro w'
            go_simp
            with_reducible rfl
          rotate_left
          · simp only [Act.put, List.setIfInBounds_toArray, List.set_cons_zero, List.set_cons_succ, i64_w, i32_w, hbl]
            rfl
          refine take_ (i := 12) (N := some 28) (v := ?_) (a' := ?_) #[true, true, true, true, true, true, true, true, true, true, true, true, true, false, false] rfl rfl (by kernel_rfl) (fun _ _ _ h => h) (Or.inl ⟨by rfl, ?_⟩) hHeld ?_ ?_
          rotate_left
          · rintro w' ⟨s0, s1, s2⟩
            go_simp
            with_reducible rfl
          rotate_left
          · simp only [Act.put, List.setIfInBounds_toArray, List.set_cons_zero, List.set_cons_succ, i64_w, i32_w, hbl]
            rfl
          refine pure_ (i := 13) (N := some 29) (v := ?_) (a' := ?_) #[true, true, true, true, true, true, true, true, true, true, true, true, true, true, false] rfl rfl (by kernel_rfl) (fun _ _ _ h => h) (Or.inl ⟨by rfl, ?_⟩) ?_ ?_
          rotate_left
          · intro w'
            go_simp
            with_reducible rfl
          rotate_left
          · simp only [Act.put, List.setIfInBounds_toArray, List.set_cons_zero, List.set_cons_succ, i64_w, i32_w, hbl]
            rfl
          refine pure_ (i := 14) (N := some 30) (v := ?_) (a' := ?_) #[true, true, true, true, true, true, true, true, true, true, true, true, true, true, true] rfl rfl (by kernel_rfl) (fun _ _ _ h => h) (Or.inl ⟨by rfl, ?_⟩) ?_ ?_
          rotate_left
          · intro w'
            go_simp
            with_reducible rfl
          rotate_left
          · simp only [Act.put, List.setIfInBounds_toArray, List.set_cons_zero, List.set_cons_succ, i64_w, i32_w, hbl]
            rfl
          refine done_ (by kernel_rfl) ?_
          go_wp2_with (first | ((with_reducible refine gate_builtin (b := .append) (xs := #[.tmp 35, .tmp 43]) rfl ?_); at_builtin; refine Kd.R_append kT (w0 := (w.alloc (.cells #[.string f.name, .slice A1 n1 c1, .slice A2 n2 c2] 86))) (W := wr.drew) ((w.alloc (.cells #[.string f.name, .slice A1 n1 c1, .slice A2 n2 c2] 86))).heap.size rfl (.tmp 35) (.tmp 43) 82 86 (.agg #[(.string ⟨#[]⟩), (.slice none 0 0), (.slice none 0 0)]) 64 rfl Try.underlying82 info86 rfl (by decide) (by omega) u4 (acc.map T) (T y) [.string y.name, .slice B1 y.sure.length d1, .slice B2 y.loose.length d2] (fun _ => True) (fun _ => False) rfl rfl ?a1P (fun _ hk => hk.elim) ?a1F ?a1O ?a1B ?a1S ?a1L ?_; (case a1P => exact kT_M.2 (congrArg Tri.cells HTY.out).symm); (case a1F => exact (fun _ _ => trivial)); (case a1O => exact (by repeat (with_reducible first | exact HRN.out | apply Kd.R_drew | apply Kd.R_drewN))); (case a1B => exact (by repeat (with_reducible first | exact HBE.out | apply below_drew | apply pw_below_drewN))); (case a1S => exact (show ((w.alloc (.cells #[.string f.name, .slice A1 n1 c1, .slice A2 n2 c2] 86))).heap.size ≤ _ from (HBE.out).size)); (case a1L => simp only [List.length_append, List.length_map, List.length_singleton, List.length_cons, List.length_nil]; omega); intro v8 w8 ho hb hg hat; have HO8 := Aside0.mk ho; have HB8 := Aside0.mk hb; clear ho hb hg hat))
          have HX := Aside0.mk (show Puts (w.alloc (.cells #[.string f.name, .slice A1 n1 c1, .slice A2 n2 c2] 86)) w8 s.all T f (i + 1) false (acc ++ [y]) v8 from ⟨hlt, by rw [HTK.out, List.foldl_append, HRUN.out]; exact (show ins f (false, acc) y = _ from if_neg (fun h => HX0.out h.2)), by have := HO8.out; simpa only [List.map_append, List.map_cons, List.map_nil, List.append_assoc, List.cons_append, List.nil_append] using this, HB8.out, by simp only [List.length_append, List.length_cons, List.length_nil]; omega⟩)
          go_roundw
          case rel => exact ⟨i + 1, false, _, by simp, rfl, HX.out⟩
          case measure => simp [intOf]; omega
    · have hi : i = s.all.length := by have := hb.le; omega
      subst hi
      have hp := hR.head
      have hn := hR.files.len
      rw [show av.v = .slice av.A s.all.length av.c by unfold Sl.v; rw [hn]] at hp
      have m0 := blk_cell hp 0
      have m1 := blk_cell hp 1
      have m2 := blk_cell hp 2
      have m3 := blk_cell hp 3
      have m4 := blk_cell hp 4
      have fm0 := blk_frozen hp 0
      have fm1 := blk_frozen hp 1
      have fm2 := blk_frozen hp 2
      have fm3 := blk_frozen hp 3
      have fm4 := blk_frozen hp 4
      simp only [List.getElem?_toArray, List.getElem?_cons_succ, List.getElem?_cons_zero] at m0 m1 m2 m3 m4
      have x0 := blk_cell hn3 0
      have x1 := blk_cell hn3 1
      have x2 := blk_cell hn3 2
      have fx0 := blk_frozen hn3 0
      have fx1 := blk_frozen hn3 1
      have fx2 := blk_frozen hn3 2
      simp only [List.getElem?_toArray, List.getElem?_cons_succ, List.getElem?_cons_zero] at x0 x1 x2
      have hltp := blk_lt hp
      have HP := Aside0.mk hp
      have HRN := Aside0.mk hb.row
      have hrun := hb.run
      rw [List.take_length] at hrun
      have HFIN := Aside0.mk (ins_put f s.all [])
      rw [hrun] at HFIN
      have hsl := hb.small
      have hpl := blk_lt H.out.head
      have HTF := Aside0.mk (show T f = ⟨f.name, ⟨A1, n1, c1⟩, ⟨A2, n2, c2⟩⟩ by rw [HT.out]; dsimp only; rw [if_pos rfl])
      have HBE := Aside0.mk hb.bel
      obtain ⟨V, nV, cV, hV⟩ : ∃ A n c, u4 = Value.slice A n c := by
        obtain ⟨A, c, h1, _⟩ := Kd.R_reads hb.row
        exact ⟨A, _, c, h1⟩
      subst hV
      clear hb hR hp hn3 hrun hbw
      cases d with
      | true =>
        go_wp2
        first | go_end0 | ((try simp only [Exit.inBlock, Exit.then]); refine bodyPost_ret (results_none rfl _ _ _) rfl ?_)
        have hx := put_end (av' := ⟨V, nV, cV⟩) HBW.out HRN.out (by rw [HW.out]; omega) H.out.head
        rw [show acc = put f s.all from HFIN.out] at hx
        exact ⟨rfl, ⟨V, nV, cV⟩, hx⟩
      | false =>
        go_wp2_with (first | ((with_reducible refine gate_builtin (b := .append) (xs := #[.tmp 47, .tmp 49]) rfl ?_); at_builtin; refine Kd.R_append kT (w0 := (w.alloc (.cells #[.string f.name, .slice A1 n1 c1, .slice A2 n2 c2] 86))) (W := wr) ((w.alloc (.cells #[.string f.name, .slice A1 n1 c1, .slice A2 n2 c2] 86))).heap.size rfl (.tmp 47) (.tmp 49) 82 86 (.agg #[(.string ⟨#[]⟩), (.slice none 0 0), (.slice none 0 0)]) 64 rfl Try.underlying82 info86 rfl (by decide) (by omega) (.slice V nV cV) (acc.map T) (T f) [.string f.name, .slice A1 n1 c1, .slice A2 n2 c2] (fun _ => True) (fun _ => False) rfl rfl ?a3P (fun _ hk => hk.elim) ?a3F ?a3O ?a3B ?a3S ?a3L ?_; (case a3P => exact kT_M.2 (congrArg Tri.cells HTF.out).symm); (case a3F => exact (fun _ _ => trivial)); (case a3O => exact (by repeat (with_reducible first | exact HRN.out | apply Kd.R_drew | apply Kd.R_drewN))); (case a3B => exact (by repeat (with_reducible first | exact HBE.out | apply below_drew | apply pw_below_drewN))); (case a3S => exact (show ((w.alloc (.cells #[.string f.name, .slice A1 n1 c1, .slice A2 n2 c2] 86))).heap.size ≤ _ from (HBE.out).size)); (case a3L => simp only [List.length_append, List.length_map, List.length_singleton, List.length_cons, List.length_nil]; omega); intro v8 w8 ho hb hg hat; have HO8 := Aside0.mk ho; have HB8 := Aside0.mk hb; clear ho hb hg hat; obtain ⟨V9, c9, he9, _, _⟩ := Kd.R_reads HO8.out; subst he9; have hn9 := HO8.out; have hp9 := (HB8.out.block p (by rw [HW.out]; omega)).trans ((heap_alloc_lt w _ p hpl).trans H.out.head); have z0 := blk_cell hp9 0; have fz0 := blk_frozen hp9 0; simp only [List.getElem?_toArray, List.getElem?_cons_succ, List.getElem?_cons_zero] at z0; clear hn9 hp9))
        first | go_end0 | ((try simp only [Exit.inBlock, Exit.then]); refine bodyPost_ret (results_none rfl _ _ _) rfl ?_)
        have hx := put_end (av' := ⟨V9, acc.length + 1, c9⟩) ((below_alloc (Below.refl _ _) _).trans (HB8.out.mono (by rw [HW.out]; omega))) (by have := HO8.out; rw [show (acc.map T ++ [T f]).length = acc.length + 1 by simp] at this; exact this) (by rw [HW.out]; omega) H.out.head
        rw [show acc.map T ++ [T f] = (put f s.all).map T by rw [← show acc ++ [f] = put f s.all from HFIN.out, List.map_append]; rfl] at hx
        exact ⟨rfl, ⟨V9, acc.length + 1, c9⟩, hx⟩
end Go.Proofs.Ytfholpajdkjbbaa.DK
/- The reference's disk: a file put in, one taken out; conditions: those in each theorem. -/
namespace Go.Proofs.Ytfholpajdkjbbaa.DK
open Go.Proofs.Ytfholpajdkjbbaa.PD
open Go.RowKit Go.Proofs.YtfholpajdkjbbaaW.PrintWords Go.Proofs.YtfholpajdkjbbaaW.PrintLast Go.Proofs.YtfholpajdkjbbaaW.PrintMore Go.Proofs.Ytfholpajdkjbbaa.Mo
set_option linter.unusedVariables false
set_option linter.unusedSimpArgs false
theorem rput_done {w w' : World} {p : Nat} {X X' : Nat → Prop} {s : St} {av av' : Sl} {rv : Bool → ByteArray → Sl} {a : Int} (h : RDisk w p X s av rv a) (f : F) (hnm : f.name ∉ namesOf s.all) (t1 t2 : Sl)
    (hT : kT.R 86 w' 0 (fun _ => True) av'.v ((put f s.all).map (fun x => if x.name = f.name then ⟨f.name, t1, t2⟩ else tri rv x))) (hu : Upd (fun k => k = p) w w')
    (hp : w'.heap[p]? = some (.cells #[av'.v, .bool s.down, .int .i64 s.left, .int .i64 a, .int .i64 s.fails] 84 (0, 0))) (h1 : Row w t1.v f.sure) (h2 : Row w t2.v f.loose) (hd : Dis t1.v t2.v)
    (hX : ∀ k, X k → X' k) (hx1 : ∀ k, t1.v.ownBlock = some k → X' k ∧ ¬ X k) (hx2 : ∀ k, t2.v.ownBlock = some k → X' k ∧ ¬ X k) (hxo : ∀ k, av'.v.ownBlock = some k → X' k) (hbd : ∀ k, X' k → k < w'.heap.size) :
    RDisk w' p X' { s with all := put f s.all } av' (fun b n => if n = f.name then (if b then t2 else t1) else rv b n) a := by
  have hpr : ∀ (t : Sl) (xs : List Int), Row w t.v xs → t.v.ownBlock ≠ some p := fun t xs hr e => by
    obtain ⟨c, hc⟩ := hr.typed e
    exact blk_ne hc h.head (by decide) rfl
  refine ⟨hp, h.aft, hX p h.xp, hbd, ?_⟩
  refine h.files.gen2 (Y := fun k => k = p) ?_ f.name (fun b => if b then t2 else t1) (fun x hx hne => ?_) (fun x hx he b => ?_) hd (fun b g hg hne c k hk hk2 => ?_) hu (fun x hx b k hk e => h.ne_row hx b (e ▸ hk)) ?_ hX (fun b k hk => ?_) hxo
  · have hperm := (put_perm f s.all).map (·.name)
    exact hperm.nodup_iff.2 (List.nodup_cons.2 ⟨hnm, h.files.nd⟩)
  · rcases mem_put.1 hx with rfl | hx
    · exact absurd rfl hne
    · exact hx
  · have : x = f := by
      rcases mem_put.1 hx with e | hx
      · exact e
      · exact absurd (List.mem_map_of_mem (f := (·.name)) hx) (he ▸ hnm)
    subst this
    cases b
    · exact h1.upd hu (fun k hk e => hpr t1 _ h1 (e ▸ hk))
    · exact h2.upd hu (fun k hk e => hpr t2 _ h2 (e ▸ hk))
  · have hgm : g ∈ s.all := by
      rcases mem_put.1 hg with rfl | hg
      · exact absurd rfl hne
      · exact hg
    have hxk := h.files.xr g hgm c k hk2
    cases b
    · exact (hx1 k hk).2 hxk
    · exact (hx2 k hk).2 hxk
  · refine (List.map_congr_left (fun x _ => ?_)) ▸ hT
    by_cases e : x.name = f.name
    · simp only [if_pos e, tri, e]
      rfl
    · simp only [if_neg e, tri]
  · cases b
    · exact (hx1 k hk).1
    · exact (hx2 k hk).1
end Go.Proofs.Ytfholpajdkjbbaa.DK
/- The reference's disk: Remove; conditions: those in each theorem. -/
namespace Go.Proofs.Ytfholpajdkjbbaa.DK
open Go.Proofs.Ytfholpajdkjbbaa.PD
open Go.RowKit Go.Proofs.YtfholpajdkjbbaaW.PrintWords Go.Proofs.YtfholpajdkjbbaaW.PrintLast Go.Proofs.YtfholpajdkjbbaaW.PrintMore Go.Proofs.Ytfholpajdkjbbaa.Mo
set_option linter.unusedVariables false
set_option linter.unusedSimpArgs false
end Go.Proofs.Ytfholpajdkjbbaa.DK
/- The reference's disk: Trim; conditions: those in each theorem. -/
namespace Go.Proofs.Ytfholpajdkjbbaa.DK
open Go.Proofs.Ytfholpajdkjbbaa.PD
open Go.RowKit Go.Proofs.YtfholpajdkjbbaaW.PrintWords Go.Proofs.YtfholpajdkjbbaaW.PrintLast Go.Proofs.YtfholpajdkjbbaaW.PrintMore Go.Proofs.Ytfholpajdkjbbaa.Mo
set_option linter.unusedVariables false
set_option linter.unusedSimpArgs false
end Go.Proofs.Ytfholpajdkjbbaa.DK
/- The reference's disk: Append; conditions: those in each theorem. -/
namespace Go.Proofs.Ytfholpajdkjbbaa.DK
open Go.Proofs.Ytfholpajdkjbbaa.PD
open Go.RowKit Go.Proofs.YtfholpajdkjbbaaW.PrintWords Go.Proofs.YtfholpajdkjbbaaW.PrintLast Go.Proofs.YtfholpajdkjbbaaW.PrintMore Go.Proofs.Ytfholpajdkjbbaa.Mo
set_option linter.unusedVariables false
set_option linter.unusedSimpArgs false
def laid (nm : ByteArray) (data : List Int) (l : List F) : List F := upd nm (fun f => { f with loose := f.loose ++ data }) l
structure Lays (w2 wr : World) (p : Nat) (X : Nat → Prop) (s2 : St) (nm : ByteArray) (data : List Int) (n j : Nat) : Prop where
  le : j ≤ n
  st : RStep p X w2 wr { s2 with all := laid nm (data.take j) s2.all }
end Go.Proofs.Ytfholpajdkjbbaa.DK
