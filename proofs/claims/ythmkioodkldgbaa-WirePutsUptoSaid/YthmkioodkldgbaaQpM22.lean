/- eddyref4.Bag.addRecord; conditions: those in each theorem. -/
import Derived.Test.YthmkioodkldgbaaQpM21
namespace Go.Proofs.Ythmkioodkldgbaa.DK
open Go.Proofs.Ythmkioodkldgbaa.PD
open Go.RowKit Go.Proofs.YthmkioodkldgbaaW.PrintWords Go.Proofs.YthmkioodkldgbaaW.PrintLast Go.Proofs.YthmkioodkldgbaaW.PrintMore
set_option linter.unusedVariables false
set_option linter.unusedSimpArgs false
set_option maxRecDepth 100000
theorem info9 : (Try.prog.info? 9).map (fun i => (i.zero, i.size, i.bytes)) = some (some (.string ⟨#[]⟩), 1, 16) := by kernel_rfl
/-- Two of ds: nothing is shown behind them. -/
theorem two_last {P : Program} {ops : Array Oper} {Q : Exit → Act → World → Prop} {md : Region.Mode} {S : World → Prop} {ds : List Nat} {i j : Nat} {Ni Nj : Option Tmp} {oi oj : Oper} {fuel : Nat} {l : Array Bool} {a : Act} {w : World} (li lj : Array Bool) (hi : ops[i]? = some oi) (hj : ops[j]? = some oj) (hNi : oi.dst = Ni) (hNj : oj.dst = Nj)
  (hc : (Region.ready md ops l == [i, j] && l.setIfInBounds i true == li && l.setIfInBounds j true == lj) = true) (hdi : i ∈ ds) (hdj : j ∈ ds)
  (h1 : ∀ K : Act → World → Prop, Shut (∀ a' w', wpAnyLast P md ops Q S ds fuel li a' w' → K a' w') → if Region.wanted oi (yielded ops a.tmps) = true then Oper.wp P oi a w K Q else K (a.put Ni undef) w)
  (h2 : ∀ K : Act → World → Prop, Shut (∀ a' w', wpAnyLast P md ops Q S ds fuel lj a' w' → K a' w') → if Region.wanted oj (yielded ops a.tmps) = true then Oper.wp P oj a w K Q else K (a.put Nj undef) w) :
  wpAnyLast P md ops Q S ds (fuel + 1) l a w := by
 subst hNi
 subst hNj
 simp only [Bool.and_eq_true, beq_iff_eq] at hc
 obtain ⟨⟨h3, h4⟩, h5⟩ := hc
 subst h4
 subst h5
 exact wpAnyLast_ready h3 (by simp) (AllReadyL.cons_last hi hdi (fun K hK => h1 K hK) (AllReadyL.cons_last hj hdj (fun K hK => h2 K hK) AllReadyL.nil))
/-- A bag, whatever its rows are called. -/
def BagX (Rel : World → Prop) (b : Nat) (w : World) (g : Nat) (ns : List Int) (ks : List ByteArray) (vs : List S25) (i j k : Int) : Prop := ∃ un uk uv, Bag Rel b w g ns ks vs i j k un uk uv
theorem zero_rel (Rel : World → Prop) : ∀ w b ok, (kRel Rel).M w b ok ⟨0, 0, ⟨#[]⟩, []⟩ [.int .i64 0, .int .i64 0, .string ⟨#[]⟩, .slice none 0 0] := fun _ _ _ => ⟨none, 0, rfl, Nat.le_refl _, fun W _ => Kd.C_nil _ _⟩
theorem reads_int {W : World} {b : Nat} {A : Option Addr} {l : List Int} (h : (Kd.int .i64).C W A l.length l) : ReadsRow ((Kd.int .i64).M W b (fun _ => False)) (Kd.int .i64).sz W A l.length l := h
/-- The last of a row of values written. -/
theorem lastV {Rel : World → Prop} {b : Nat} {w : World} {g c : Nat} {vs : List S25} {z x : S25} {n : Nat} (hn : n = vs.length + 1) (h : RK (kRel Rel) 25 b w (.slice (some ⟨g, 0, none⟩) n c) (vs ++ [z])) {A3 : Option Addr} {c3 : Nat} (hc : x.f3.length ≤ c3) (hr : ∀ W, Rel W → k25.C W A3 x.f3.length x.f3) :
  RK (kRel Rel) 25 b ((((w.setCell ⟨g, vs.length * 4, none⟩ (.int .i64 x.f0)).setCell ⟨g, vs.length * 4 + 1, none⟩ (.int .i64 x.f1)).setCell ⟨g, vs.length * 4 + 2, none⟩ (.string x.f2)).setCell ⟨g, vs.length * 4 + 3, none⟩ (.slice A3 x.f3.length c3)) (.slice (some ⟨g, 0, none⟩) n c) (vs ++ [x]) := by
 obtain ⟨A, c', he, _, hC⟩ := Kd.R_reads h
 injection he with e1 e2 e3
 subst e1
 obtain ⟨ad, cs, e, hs, hk, hcell⟩ := ReadsRow.get_ hC z (vs.length : Int) (by omega) (by rw [List.length_append, List.length_singleton]; omega)
 injection e with e
 subst e
 have hseg := (Kd.R_seg (seg := [.int .i64 x.f0, .int .i64 x.f1, .string x.f2, .slice A3 x.f3.length c3]) (j := 0) (x' := x) (okp := fun _ => False) h (vs.length : Int) (by omega) (by omega) (c := cs) hs
  (fun j u hu => by have := hcell j u hu; rwa [add_plain] at this) (by show 0 + 4 ≤ 4; omega) (by
   have : ([.int .i64 x.f0, .int .i64 x.f1, .string x.f2, .slice A3 x.f3.length c3] : List Value).length = 4 := rfl
   rw [List.take_zero, List.nil_append, Nat.zero_add, this, List.drop_of_length_le (by rw [hs]; exact Nat.le_refl 4), List.append_nil]
   exact ⟨A3, c3, rfl, hc, hr⟩) (fun _ h => h.elim)).1
 have e2 : (vs ++ [z]).set (vs.length : Int).toNat x = vs ++ [x] := by
  rw [Int.toNat_natCast, List.set_append_right _ _ (Nat.le_refl _), Nat.sub_self]; rfl
 rw [e2, Int.toNat_natCast] at hseg
 exact hseg
theorem lastC {Rel : World → Prop} {b : Nat} {w : World} {g c n : Nat} {vs : List S25} {z : S25} (h : RK (kRel Rel) 25 b w (.slice (some ⟨g, 0, none⟩) n c) (vs ++ [z])) : ∃ a1 a2 a3 a4, w.cell? ⟨g, vs.length * 4, none⟩ = some a1 ∧ w.cell? ⟨g, vs.length * 4 + 1, none⟩ = some a2 ∧ w.cell? ⟨g, vs.length * 4 + 2, none⟩ = some a3 ∧ w.cell? ⟨g, vs.length * 4 + 3, none⟩ = some a4 := by
 obtain ⟨A, c', he, _, hC⟩ := Kd.R_reads h
 injection he with e1 e2 e3
 subst e1
 obtain ⟨ad, A3, c3, e, d0, d1, d2, d3, _, _⟩ := at_rel hC (vs.length : Int) (by omega) (by rw [List.length_append, List.length_singleton]; omega)
 injection e with e
 subst e
 rw [Int.toNat_natCast, add_plain] at d0 d1 d2 d3
 exact ⟨_, _, _, _, d0, d1, d2, d3⟩
theorem lastU {b : Nat} {w : World} {g : Nat} {cs : Array Value} (hb : w.heap[g]? = some (.cells cs 25 (0, 0))) (hg : b ≤ g) (o1 o2 o3 o4 : Nat) (a1 a2 a3 a4 : Value) : UT [25] b w ((((w.setCell ⟨g, o1, none⟩ a1).setCell ⟨g, o2, none⟩ a2).setCell ⟨g, o3, none⟩ a3).setCell ⟨g, o4, none⟩ a4) :=
 ((((UT.refl _ _ _).set hb (by simp) hg _ _).set (blk_set hb) (by simp) hg _ _).set (blk_set (blk_set hb)) (by simp) hg _ _).set (blk_set (blk_set (blk_set hb))) (by simp) hg _ _
set_option maxHeartbeats 16000000 in
theorem addRecord_calls (Rel : World → Prop) (b : Nat) (w : World) (g : Nat) (ns : List Int) (ks : List ByteArray) (vs : List S25) (i j k : Int) (x : S28) (A4 : Option Addr) (c4 : Nat) (A5 : Option Addr) (c5 : Nat) (hbag : BagX Rel b w g ns ks vs i j k) (hb : b ≤ w.heap.size) (h4 : ∀ W, Rel W → k25.C W A4 x.f1.f3.length x.f1.f3) (l4 : x.f1.f3.length ≤ c4) (h5 : In (Kd.int .i64) b w A5 x.f2) (l5 : x.f2.length ≤ c5) (hn : ns.length + 1 + x.f2.length ≤ 1099511627776) (hk : ks.length + 1 ≤ 1099511627776) (hv : vs.length + 1 ≤ 1099511627776) :
  Calls Try.prog 75 #[.pointer (some ⟨g, 0, none⟩), .agg #[.string x.f0, .int .i64 x.f1.f0, .int .i64 x.f1.f1, .string x.f1.f2, .slice A4 x.f1.f3.length c4, .slice A5 x.f2.length c5]] w fun e w' => e = .returned (.tuple #[]) ∧ BagX Rel b w' g (ns ++ [(x.f2.length : Int)] ++ x.f2) (ks ++ [x.f0]) (vs ++ [x.f1]) i j k ∧ UT [101, 3, 9, 25] b w w' := by
 obtain ⟨un, uk, uv, hbag⟩ := hbag
 obtain ⟨Auv, cuv, rfl, hcuv, -⟩ := Kd.R_reads hbag.vals
 have HBG0 := Aside0.mk (hbag.below (below_alloc (Below.refl _ _) (.cells #[.string x.f0, .int .i64 x.f1.f0, .int .i64 x.f1.f1, .string x.f1.f2, .slice A4 x.f1.f3.length c4, .slice A5 x.f2.length c5] 28)))
 have HX0 := Aside0.mk (heap_alloc_new w (.cells #[.string x.f0, .int .i64 x.f1.f0, .int .i64 x.f1.f1, .string x.f1.f2, .slice A4 x.f1.f3.length c4, .slice A5 x.f2.length c5] 28))
 have HU0 := Aside0.mk ((UT.refl [101, 3, 9, 25] b w).alloc (.cells #[.string x.f0, .int .i64 x.f1.f0, .int .i64 x.f1.f1, .string x.f1.f2, .slice A4 x.f1.f3.length c4, .slice A5 x.f2.length c5] 28))
 have HI5 := Aside0.mk h5
 have HI4 := Aside0.mk h4
 clear hbag h5 h4
 have hgz := blk_lt HX0.out
 have hgl := blk_lt HBG0.out.box
 have hb0 : b ≤ (w.alloc (.cells #[.string x.f0, .int .i64 x.f1.f0, .int .i64 x.f1.f1, .string x.f1.f2, .slice A4 x.f1.f3.length c4, .slice A5 x.f2.length c5] 28)).heap.size := by simp; omega
 go_enter Try.func75, Try.ntmps75
 go_wp2
 generalize hW0 : w.alloc (.cells #[.string x.f0, .int .i64 x.f1.f0, .int .i64 x.f1.f1, .string x.f1.f2, .slice A4 x.f1.f3.length c4, .slice A5 x.f2.length c5] 28) = W0 at *
 clear hW0
 refine start_ (n := 12) (S := fun w' => w'.cell? ⟨g, 1, none⟩ = some uk ∧ w'.frozen? ⟨g, 1, none⟩ = false ∧ w'.cell? ⟨w.heap.size, 0, none⟩ = some (.string x.f0)) (ds := [11]) #[false, false, false, false, false, false, false, false, false, false, false, false] (by kernel_rfl) rfl rfl ⟨(blk_cell HBG0.out.box 1), (blk_frozen HBG0.out.box 1), (blk_cell HX0.out 0)⟩ (fun hHeld => ?_)
 refine zq 0 (some 4) ?_
 refine zq 1 (some 5) ?_
 refine zq 2 (some 6) ?_
 refine zq 3 (some 7) ?_
 refine zq 5 (some 9) ?_
 refine zu 4 (some 8) hHeld ?_
 refine zu 6 (some 10) hHeld ?_
 refine one_ (i := 7) (N := some 11) #[true, true, true, true, true, true, true, true, false, false, false, false] rfl rfl (by kernel_rfl) (by decide) (fun K hK => ?_)
 refine value_ (w1 := ?_) (v := ?_) (by rfl) rfl ?_ ?_
 rotate_left 2
 ·go_simp
  constructor
  ·rfl
  ·rfl
 refine hK.out _ _ ⟨(blk_cell (blk_alloc HBG0.out.box _) 1), (blk_frozen (blk_alloc HBG0.out.box _) 1), (blk_cell (blk_alloc HX0.out _) 0)⟩ (fun hHeld => ?_)
 clear hK K
 refine norm_ (a' := ?_) ?_ ?_
 rotate_left
 ·show Act.put _ (some 11) _ = _
  simp only [Act.put, zla, zlb, zlc, i64_w, i32_w]
  rfl
 refine one_ (i := 8) (N := some 12) #[true, true, true, true, true, true, true, true, true, false, false, false] rfl rfl (by kernel_rfl) (by decide) (fun K hK => ?_)
 refine appK1_step flat_string (by rfl) (.tmp 8) (.tmp 11) 33 9 (.string ⟨#[]⟩) 16 rfl Try.underlying33 info9 rfl (by decide) (by decide) uk ks x.f0 [.string x.f0] rfl W0 _ (by first | exact ⟨1, rfl⟩ | exact ⟨0, rfl⟩ | exact ⟨2, rfl⟩ | exact ⟨3, rfl⟩) rfl _ rfl (by first | rfl | simp) (fun _ _ _ => rfl) HBG0.out.keys hb0 (by first | omega | (simp only [List.length_append, List.length_singleton, List.length_cons, List.length_nil]; omega)) ?_
 intro v0 w0 h1 h2
 obtain ⟨Av0, cv0, he, -, -⟩ := Kd.R_reads h1
 simp only [List.length_append, List.length_singleton, List.length_cons, List.length_nil, Nat.zero_add] at he
 subst he
 have HK0 := Aside0.mk h1
 have HT0 := Aside0.mk h2
 have HG0 := Aside0.mk (h2.blk HBG0.out.box (by decide))
 have HY0 := Aside0.mk (h2.blk HX0.out (by decide))
 clear h1 h2
 refine hK.out _ _ ⟨(blk_cell HG0.out 1), (blk_frozen HG0.out 1), (blk_cell HY0.out 0)⟩ (fun hHeld => ?_)
 clear hK K
 refine norm_ (a' := ?_) ?_ ?_
 rotate_left
 ·show Act.put _ (some 12) _ = _
  simp only [Act.put, zla, zlb, zlc, i64_w, i32_w]
  rfl
 refine zq 9 (some 13) ?_
 refine zq 10 (some 14) ?_
 refine last_ (i := 11) (N := none) #[true, true, true, true, true, true, true, true, true, true, true, true] rfl rfl (by kernel_rfl) (by decide) (fun K hK => ?_)
 refine skip_ (w1 := ?_) (by rfl) rfl ?_ ?_
 rotate_left
 ·go_simp
  rfl
 refine hK.out _ _ ?_
 clear hK K
 refine done_ (by kernel_rfl) ?_
 have HBG1 := Aside0.mk (HBG0.out.setK HT0.out HK0.out)
 have HU1 := Aside0.mk ((HU0.out.trans (HT0.out.mono (by simp))).set HG0.out (by simp) HBG0.out.ge 1 (.slice Av0 (ks.length + 1) cv0))
 have HX1 := Aside0.mk (((UT.refl [101, 3, 9, 25] b w0).set HG0.out (by simp) HBG0.out.ge 1 (.slice Av0 (ks.length + 1) cv0)).blk HY0.out (by decide))
 have hb1 : b ≤ (w0.setCell ⟨g, 1, none⟩ (.slice Av0 (ks.length + 1) cv0)).heap.size := Nat.le_trans hb HU1.out.size
 generalize (w0.setCell ⟨g, 1, none⟩ (.slice Av0 (ks.length + 1) cv0)) = W1 at *
 go_wp2
 refine start_ (n := 14) (S := fun w' => w'.cell? ⟨g, 2, none⟩ = some (.slice Auv vs.length cuv) ∧ w'.frozen? ⟨g, 2, none⟩ = false ∧ w'.cell? ⟨w.heap.size, 1, none⟩ = some (.int .i64 x.f1.f0) ∧ w'.cell? ⟨w.heap.size, 2, none⟩ = some (.int .i64 x.f1.f1) ∧ w'.cell? ⟨w.heap.size, 3, none⟩ = some (.string x.f1.f2) ∧ w'.cell? ⟨w.heap.size, 4, none⟩ = some (.slice A4 x.f1.f3.length c4)) (ds := [10, 13]) #[false, false, false, false, false, false, false, false, false, false, false, false, false, false] (by kernel_rfl) rfl rfl ⟨(blk_cell HBG1.out.box 2), (blk_frozen HBG1.out.box 2), (blk_cell HX1.out 1), (blk_cell HX1.out 2), (blk_cell HX1.out 3), (blk_cell HX1.out 4)⟩ (fun hHeld => ?_)
 refine zq 0 (some 15) ?_
 refine zq 1 (some 16) ?_
 refine zq 2 (some 17) ?_
 refine zq 4 (some 19) ?_
 refine zu 3 (some 18) hHeld ?_
 refine zq 6 (some 21) ?_
 refine zu 5 (some 20) hHeld ?_
 refine one_ (i := 7) (N := some 22) #[true, true, true, true, true, true, true, true, false, false, false, false, false, false] rfl rfl (by kernel_rfl) (by decide) (fun K hK => ?_)
 refine value_ (w1 := ?_) (v := ?_) (by rfl) rfl ?_ ?_
 rotate_left 2
 ·go_simp
  constructor
  ·rfl
  ·rfl
 refine hK.out _ _ ⟨(blk_cell (blk_alloc HBG1.out.box _) 2), (blk_frozen (blk_alloc HBG1.out.box _) 2), (blk_cell (blk_alloc HX1.out _) 1), (blk_cell (blk_alloc HX1.out _) 2), (blk_cell (blk_alloc HX1.out _) 3), (blk_cell (blk_alloc HX1.out _) 4)⟩ (fun hHeld => ?_)
 clear hK K
 refine norm_ (a' := ?_) ?_ ?_
 rotate_left
 ·show Act.put _ (some 22) _ = _
  simp only [Act.put, zla, zlb, zlc, i64_w, i32_w]
  rfl
 refine one_ (i := 8) (N := some 23) #[true, true, true, true, true, true, true, true, true, false, false, false, false, false] rfl rfl (by kernel_rfl) (by decide) (fun K hK => ?_)
 refine appK1_step (flat_rel Rel) (by rfl) (.tmp 18) (.tmp 22) 23 25 (.agg #[.int .i64 0, .int .i64 0, .string ⟨#[]⟩, .slice none 0 0]) 56 rfl Try.underlying23 info25 rfl (show 0 < 4 by decide) (by decide) (.slice Auv vs.length cuv) vs (⟨0, 0, ⟨#[]⟩, []⟩ : S25) [.int .i64 0, .int .i64 0, .string ⟨#[]⟩, .slice none 0 0] rfl W1 _ (by first | exact ⟨1, rfl⟩ | exact ⟨0, rfl⟩ | exact ⟨2, rfl⟩ | exact ⟨3, rfl⟩) rfl _ rfl (by first | rfl | simp) (zero_rel Rel) HBG1.out.vals hb1 (by first | omega | (simp only [List.length_append, List.length_singleton, List.length_cons, List.length_nil]; omega)) ?_
 intro v1 w1 h1 h2
 obtain ⟨g2, cap2, he2, hg2, hg2l, cells2, hcb2⟩ := Kd.R_form h1 (by simp)
 rw [List.length_append, List.length_singleton] at he2
 subst he2
 have HK1a := Aside0.mk h1
 have HT1a := Aside0.mk h2
 have HG1a := Aside0.mk (h2.blk HBG1.out.box (by decide))
 have HY1a := Aside0.mk (h2.blk HX1.out (by decide))
 have HCB2 := Aside0.mk hcb2
 have HG2 := Aside0.mk hg2
 have hvl : (vs.length : Int) < (vs.length : Int) + 1 := by omega
 clear h1 h2 hcb2
 refine hK.out _ _ ⟨(blk_cell HG1a.out 2), (blk_frozen HG1a.out 2), (blk_cell HY1a.out 1), (blk_cell HY1a.out 2), (blk_cell HY1a.out 3), (blk_cell HY1a.out 4)⟩ (fun hHeld => ?_)
 clear hK K
 refine norm_ (a' := ?_) ?_ ?_
 rotate_left
 ·show Act.put _ (some 23) _ = _
  simp only [Act.put, zla, zlb, zlc, i64_w, i32_w]
  rfl
 refine zq 9 (some 24) ?_
 refine zq 11 (some 25) ?_
 refine zq 12 (some 26) ?_
 refine two_last (i := 10) (j := 13) (Ni := none) (Nj := none) #[true, true, true, true, true, true, true, true, true, true, true, true, true, false] #[true, true, true, true, true, true, true, true, true, true, false, true, true, true] rfl rfl rfl rfl (by kernel_rfl) (by decide) (by decide) (fun K hK => ?_) (fun K hK => ?_)
 ·skip
  obtain ⟨a1, a2, a3, a4, y0, y1, y2, y3⟩ := lastC HK1a.out
  have z0 := blk_frozen HCB2.out (vs.length * 4)
  have z1 := blk_frozen HCB2.out (vs.length * 4 + 1)
  have z2 := blk_frozen HCB2.out (vs.length * 4 + 2)
  have z3 := blk_frozen HCB2.out (vs.length * 4 + 3)
  refine skip_ (w1 := ?_) (by rfl) rfl ?_ ?_
  rotate_left
  ·go_simp
   rfl
  clear z0 z1 z2 z3 y0 y1 y2 y3
  have HK1 := Aside0.mk (lastV rfl HK1a.out l4 HI4.out)
  have HLU := Aside0.mk (lastU (w := w1) HCB2.out HG2.out (vs.length * 4) (vs.length * 4 + 1) (vs.length * 4 + 2) (vs.length * 4 + 3) (.int .i64 x.f1.f0) (.int .i64 x.f1.f1) (.string x.f1.f2) (.slice A4 x.f1.f3.length c4))
  have HT1 := Aside0.mk (HT1a.out.trans HLU.out)
  have HG1 := Aside0.mk (HLU.out.blk HG1a.out (by decide))
  have HY1 := Aside0.mk (HLU.out.blk HY1a.out (by decide))
  clear HLU
  generalize ((((w1.setCell ⟨g2, vs.length * 4, none⟩ (.int .i64 x.f1.f0)).setCell ⟨g2, vs.length * 4 + 1, none⟩ (.int .i64 x.f1.f1)).setCell ⟨g2, vs.length * 4 + 2, none⟩ (.string x.f1.f2)).setCell ⟨g2, vs.length * 4 + 3, none⟩ (.slice A4 x.f1.f3.length c4)) = w1b at *
  refine hK.out _ _ ?_
  clear hK K
  refine last_ (i := 13) (N := none) #[true, true, true, true, true, true, true, true, true, true, true, true, true, true] rfl rfl (by kernel_rfl) (by decide) (fun K hK => ?_)
  have y2 := blk_cell HG1.out 2
  have y3 := blk_frozen HG1.out 2
  refine skip_ (w1 := ?_) (by rfl) rfl ?_ ?_
  rotate_left
  ·go_simp
   rfl
  clear y2 y3
  refine hK.out _ _ ?_
  clear hK K
  refine done_ (by kernel_rfl) ?_
  have HBG2 := Aside0.mk (HBG1.out.setV HT1.out HK1.out)
  have HU2 := Aside0.mk ((HU1.out.trans (HT1.out.mono (by simp))).set HG1.out (by simp) HBG1.out.ge 2 (.slice (some ⟨g2, 0, none⟩) (vs.length + 1) cap2))
  have HX2 := Aside0.mk (((UT.refl [101, 3, 9, 25] b w1b).set HG1.out (by simp) HBG1.out.ge 2 (.slice (some ⟨g2, 0, none⟩) (vs.length + 1) cap2)).blk HY1.out (by decide))
  have hb2 : b ≤ (w1b.setCell ⟨g, 2, none⟩ (.slice (some ⟨g2, 0, none⟩) (vs.length + 1) cap2)).heap.size := Nat.le_trans hb HU2.out.size
  generalize (w1b.setCell ⟨g, 2, none⟩ (.slice (some ⟨g2, 0, none⟩) (vs.length + 1) cap2)) = W2 at *
  go_wp2
  refine start_ (n := 13) (S := fun w' => w'.cell? ⟨g, 0, none⟩ = some un ∧ w'.frozen? ⟨g, 0, none⟩ = false ∧ w'.cell? ⟨w.heap.size, 5, none⟩ = some (.slice A5 x.f2.length c5)) (ds := [12]) #[false, false, false, false, false, false, false, false, false, false, false, false, false] (by kernel_rfl) rfl rfl ⟨(blk_cell HBG2.out.box 0), (blk_frozen HBG2.out.box 0), (blk_cell HX2.out 5)⟩ (fun hHeld => ?_)
  refine zq 0 (some 27) ?_
  refine zq 1 (some 28) ?_
  refine zq 2 (some 29) ?_
  refine zq 3 (some 30) ?_
  refine zq 5 (some 32) ?_
  refine zu 4 (some 31) hHeld ?_
  refine zu 6 (some 33) hHeld ?_
  refine zq 7 (some 34) ?_
  refine one_ (i := 8) (N := some 35) #[true, true, true, true, true, true, true, true, true, false, false, false, false] rfl rfl (by kernel_rfl) (by decide) (fun K hK => ?_)
  refine value_ (w1 := ?_) (v := ?_) (by rfl) rfl ?_ ?_
  rotate_left 2
  ·go_simp
   constructor
   ·rfl
   ·rfl
  refine hK.out _ _ ⟨(blk_cell (blk_alloc HBG2.out.box _) 0), (blk_frozen (blk_alloc HBG2.out.box _) 0), (blk_cell (blk_alloc HX2.out _) 5)⟩ (fun hHeld => ?_)
  clear hK K
  refine norm_ (a' := ?_) ?_ ?_
  rotate_left
  ·show Act.put _ (some 35) _ = _
   simp only [Act.put, zla, zlb, zlc, i64_w, i32_w]
   rfl
  refine one_ (i := 9) (N := some 36) #[true, true, true, true, true, true, true, true, true, true, false, false, false] rfl rfl (by kernel_rfl) (by decide) (fun K hK => ?_)
  refine appK1_step (flat_int .i64) (by rfl) (.tmp 31) (.tmp 35) 26 3 (.int .i64 0) 8 rfl Try.underlying26 info3 rfl (by decide) (by decide) un ns (x.f2.length : Int) [.int .i64 x.f2.length] rfl W2 _ (by first | exact ⟨1, rfl⟩ | exact ⟨0, rfl⟩ | exact ⟨2, rfl⟩ | exact ⟨3, rfl⟩) rfl _ rfl (by first | rfl | simp) (fun _ _ _ => rfl) HBG2.out.nums hb2 (by first | omega | (simp only [List.length_append, List.length_singleton, List.length_cons, List.length_nil]; omega)) ?_
  intro v2 w2 h1 h2
  obtain ⟨Av2, cv2, he, -, -⟩ := Kd.R_reads h1
  simp only [List.length_append, List.length_singleton, List.length_cons, List.length_nil, Nat.zero_add] at he
  subst he
  have HK2 := Aside0.mk h1
  have HT2 := Aside0.mk h2
  have HG2 := Aside0.mk (h2.blk HBG2.out.box (by decide))
  have HY2 := Aside0.mk (h2.blk HX2.out (by decide))
  clear h1 h2
  refine hK.out _ _ ⟨(blk_cell HG2.out 0), (blk_frozen HG2.out 0), (blk_cell HY2.out 5)⟩ (fun hHeld => ?_)
  clear hK K
  refine norm_ (a' := ?_) ?_ ?_
  rotate_left
  ·show Act.put _ (some 36) _ = _
   simp only [Act.put, zla, zlb, zlc, i64_w, i32_w]
   rfl
  refine zq 10 (some 37) ?_
  refine zq 11 (some 38) ?_
  refine last_ (i := 12) (N := none) #[true, true, true, true, true, true, true, true, true, true, true, true, true] rfl rfl (by kernel_rfl) (by decide) (fun K hK => ?_)
  refine skip_ (w1 := ?_) (by rfl) rfl ?_ ?_
  rotate_left
  ·go_simp
   rfl
  refine hK.out _ _ ?_
  clear hK K
  refine done_ (by kernel_rfl) ?_
  have HBG3 := Aside0.mk (HBG2.out.setN HT2.out HK2.out)
  have HU3 := Aside0.mk ((HU2.out.trans (HT2.out.mono (by simp))).set HG2.out (by simp) HBG2.out.ge 0 (.slice Av2 (ns.length + 1) cv2))
  have HX3 := Aside0.mk (((UT.refl [101, 3, 9, 25] b w2).set HG2.out (by simp) HBG2.out.ge 0 (.slice Av2 (ns.length + 1) cv2)).blk HY2.out (by decide))
  have hb3 : b ≤ (w2.setCell ⟨g, 0, none⟩ (.slice Av2 (ns.length + 1) cv2)).heap.size := Nat.le_trans hb HU3.out.size
  generalize (w2.setCell ⟨g, 0, none⟩ (.slice Av2 (ns.length + 1) cv2)) = W3 at *
  go_wp2
  refine start_ (n := 11) (S := fun w' => w'.cell? ⟨g, 0, none⟩ = some (.slice Av2 (ns.length + 1) cv2) ∧ w'.frozen? ⟨g, 0, none⟩ = false ∧ w'.cell? ⟨w.heap.size, 5, none⟩ = some (.slice A5 x.f2.length c5)) (ds := [10]) #[false, false, false, false, false, false, false, false, false, false, false] (by kernel_rfl) rfl rfl ⟨(blk_cell HBG3.out.box 0), (blk_frozen HBG3.out.box 0), (blk_cell HX3.out 5)⟩ (fun hHeld => ?_)
  refine zq 0 (some 39) ?_
  refine zq 1 (some 40) ?_
  refine zq 2 (some 41) ?_
  refine zq 3 (some 42) ?_
  refine zq 5 (some 44) ?_
  refine zu 4 (some 43) hHeld ?_
  refine zu 6 (some 45) hHeld ?_
  refine one_ (i := 7) (N := some 46) #[true, true, true, true, true, true, true, true, false, false, false] rfl rfl (by kernel_rfl) (by decide) (fun K hK => ?_)
  refine appK_step (flat_int .i64) (by rfl) (.tmp 43) (.tmp 45) 26 3 (.int .i64 0) 8 rfl Try.underlying26 info3 rfl (by decide) (by decide) _ (ns ++ [(x.f2.length : Int)]) x.f2 A5 x.f2.length c5 rfl rfl HBG3.out.nums (reads_int (HI5.out.ext (HU3.out.below hb)).C) hb3 (by first | omega | (simp only [List.length_append, List.length_singleton, List.length_cons, List.length_nil]; omega)) ?_
  intro v3 w3 h1 h2
  obtain ⟨Av3, cv3, he, -, -⟩ := Kd.R_reads h1
  simp only [List.length_append, List.length_singleton, List.length_cons, List.length_nil, Nat.zero_add] at he
  subst he
  have HK3 := Aside0.mk h1
  have HT3 : Aside0 (UT [3] b W3 w3) := ⟨⟨h2.os, h2.tape, h2.output, h2.size, h2.same⟩⟩
  have HG3 := Aside0.mk (h2.blk HBG3.out.box (by decide))
  have HY3 := Aside0.mk (h2.blk HX3.out (by decide))
  clear h1 h2
  refine hK.out _ _ ⟨(blk_cell HG3.out 0), (blk_frozen HG3.out 0), (blk_cell HY3.out 5)⟩ (fun hHeld => ?_)
  clear hK K
  refine norm_ (a' := ?_) ?_ ?_
  rotate_left
  ·show Act.put _ (some 46) _ = _
   simp only [Act.put, zla, zlb, zlc, i64_w, i32_w]
   rfl
  refine zq 8 (some 47) ?_
  refine zq 9 (some 48) ?_
  refine last_ (i := 10) (N := none) #[true, true, true, true, true, true, true, true, true, true, true] rfl rfl (by kernel_rfl) (by decide) (fun K hK => ?_)
  refine skip_ (w1 := ?_) (by rfl) rfl ?_ ?_
  rotate_left
  ·go_simp
   rfl
  refine hK.out _ _ ?_
  clear hK K
  refine done_ (by kernel_rfl) ?_
  have HBG4 := Aside0.mk (HBG3.out.setN HT3.out HK3.out)
  have HU4 := Aside0.mk ((HU3.out.trans (HT3.out.mono (by simp))).set HG3.out (by simp) HBG3.out.ge 0 (.slice Av3 (ns.length + 1 + x.f2.length) cv3))
  have HX4 := Aside0.mk (((UT.refl [101, 3, 9, 25] b w3).set HG3.out (by simp) HBG3.out.ge 0 (.slice Av3 (ns.length + 1 + x.f2.length) cv3)).blk HY3.out (by decide))
  have hb4 : b ≤ (w3.setCell ⟨g, 0, none⟩ (.slice Av3 (ns.length + 1 + x.f2.length) cv3)).heap.size := Nat.le_trans hb HU4.out.size
  generalize (w3.setCell ⟨g, 0, none⟩ (.slice Av3 (ns.length + 1 + x.f2.length) cv3)) = W4 at *
  go_wp2
  first | go_end0 | ((try simp only [Exit.inBlock, Exit.then]); refine bodyPost_ret (results_none rfl _ _ _) rfl ?_)
  exact ⟨rfl, ⟨_, _, _, by first | exact HBG4.out | exact HBG4.out.drew⟩, by first | exact HU4.out | exact HU4.out.drew⟩
 ·skip
  refine skip_ (w1 := ?_) (by rfl) rfl ?_ ?_
  rotate_left
  ·go_simp
   rfl
  have HBGm := Aside0.mk (HBG1.out.setV HT1a.out HK1a.out)
  have HUm := Aside0.mk ((HU1.out.trans (HT1a.out.mono (by simp))).set HG1a.out (by simp) HBG1.out.ge 2 (.slice (some ⟨g2, 0, none⟩) (vs.length + 1) cap2))
  have HXm := Aside0.mk (((UT.refl [101, 3, 9, 25] b w1).set HG1a.out (by simp) HBG1.out.ge 2 (.slice (some ⟨g2, 0, none⟩) (vs.length + 1) cap2)).blk HY1a.out (by decide))
  have HCBm := Aside0.mk ((Below.heap_setCell w1 ⟨g, 2, none⟩ (.slice (some ⟨g2, 0, none⟩) (vs.length + 1) cap2) g2 (fun e => by have h1 := HCB2.out; have h2 := HG1a.out; rw [show g2 = g from e] at h1; rw [h1] at h2; injection h2 with h2; injection h2 with _ h2; cases h2)).trans HCB2.out)
  generalize (w1.setCell ⟨g, 2, none⟩ (.slice (some ⟨g2, 0, none⟩) (vs.length + 1) cap2)) = w1m at *
  refine hK.out _ _ ?_
  clear hK K
  refine last_ (i := 10) (N := none) #[true, true, true, true, true, true, true, true, true, true, true, true, true, true] rfl rfl (by kernel_rfl) (by decide) (fun K hK => ?_)
  obtain ⟨a1, a2, a3, a4, y0, y1, y2, y3⟩ := lastC HBGm.out.vals
  have z0 := blk_frozen HCBm.out (vs.length * 4)
  have z1 := blk_frozen HCBm.out (vs.length * 4 + 1)
  have z2 := blk_frozen HCBm.out (vs.length * 4 + 2)
  have z3 := blk_frozen HCBm.out (vs.length * 4 + 3)
  refine skip_ (w1 := ?_) (by rfl) rfl ?_ ?_
  rotate_left
  ·go_simp
   rfl
  clear z0 z1 z2 z3 y0 y1 y2 y3
  have HK1 := Aside0.mk (lastV rfl HBGm.out.vals l4 HI4.out)
  have HLU := Aside0.mk (lastU (w := w1m) HCBm.out HG2.out (vs.length * 4) (vs.length * 4 + 1) (vs.length * 4 + 2) (vs.length * 4 + 3) (.int .i64 x.f1.f0) (.int .i64 x.f1.f1) (.string x.f1.f2) (.slice A4 x.f1.f3.length c4))
  generalize ((((w1m.setCell ⟨g2, vs.length * 4, none⟩ (.int .i64 x.f1.f0)).setCell ⟨g2, vs.length * 4 + 1, none⟩ (.int .i64 x.f1.f1)).setCell ⟨g2, vs.length * 4 + 2, none⟩ (.string x.f1.f2)).setCell ⟨g2, vs.length * 4 + 3, none⟩ (.slice A4 x.f1.f3.length c4)) = w1b at *
  refine hK.out _ _ ?_
  clear hK K
  refine done_ (by kernel_rfl) ?_
  have HBG2 := Aside0.mk (show Bag Rel b w1b g ns (ks ++ [x.f0]) (vs ++ [x.f1]) i j k _ _ _ from ⟨HLU.out.blk HBGm.out.box (by decide), HBGm.out.ge, HBGm.out.nums.ut rfl HLU.out (by decide), HBGm.out.keys.ut rfl HLU.out (by decide), HK1.out⟩)
  have HU2 := Aside0.mk (HUm.out.trans (HLU.out.mono (by simp)))
  have HX2 := Aside0.mk (HLU.out.blk HXm.out (by decide))
  have hb2 : b ≤ w1b.heap.size := Nat.le_trans hb HU2.out.size
  generalize w1b = W2 at *
  go_wp2
  refine start_ (n := 13) (S := fun w' => w'.cell? ⟨g, 0, none⟩ = some un ∧ w'.frozen? ⟨g, 0, none⟩ = false ∧ w'.cell? ⟨w.heap.size, 5, none⟩ = some (.slice A5 x.f2.length c5)) (ds := [12]) #[false, false, false, false, false, false, false, false, false, false, false, false, false] (by kernel_rfl) rfl rfl ⟨(blk_cell HBG2.out.box 0), (blk_frozen HBG2.out.box 0), (blk_cell HX2.out 5)⟩ (fun hHeld => ?_)
  refine zq 0 (some 27) ?_
  refine zq 1 (some 28) ?_
  refine zq 2 (some 29) ?_
  refine zq 3 (some 30) ?_
  refine zq 5 (some 32) ?_
  refine zu 4 (some 31) hHeld ?_
  refine zu 6 (some 33) hHeld ?_
  refine zq 7 (some 34) ?_
  refine one_ (i := 8) (N := some 35) #[true, true, true, true, true, true, true, true, true, false, false, false, false] rfl rfl (by kernel_rfl) (by decide) (fun K hK => ?_)
  refine value_ (w1 := ?_) (v := ?_) (by rfl) rfl ?_ ?_
  rotate_left 2
  ·go_simp
   constructor
   ·rfl
   ·rfl
  refine hK.out _ _ ⟨(blk_cell (blk_alloc HBG2.out.box _) 0), (blk_frozen (blk_alloc HBG2.out.box _) 0), (blk_cell (blk_alloc HX2.out _) 5)⟩ (fun hHeld => ?_)
  clear hK K
  refine norm_ (a' := ?_) ?_ ?_
  rotate_left
  ·show Act.put _ (some 35) _ = _
   simp only [Act.put, zla, zlb, zlc, i64_w, i32_w]
   rfl
  refine one_ (i := 9) (N := some 36) #[true, true, true, true, true, true, true, true, true, true, false, false, false] rfl rfl (by kernel_rfl) (by decide) (fun K hK => ?_)
  refine appK1_step (flat_int .i64) (by rfl) (.tmp 31) (.tmp 35) 26 3 (.int .i64 0) 8 rfl Try.underlying26 info3 rfl (by decide) (by decide) un ns (x.f2.length : Int) [.int .i64 x.f2.length] rfl W2 _ (by first | exact ⟨1, rfl⟩ | exact ⟨0, rfl⟩ | exact ⟨2, rfl⟩ | exact ⟨3, rfl⟩) rfl _ rfl (by first | rfl | simp) (fun _ _ _ => rfl) HBG2.out.nums hb2 (by first | omega | (simp only [List.length_append, List.length_singleton, List.length_cons, List.length_nil]; omega)) ?_
  intro v2 w2 h1 h2
  obtain ⟨Av2, cv2, he, -, -⟩ := Kd.R_reads h1
  simp only [List.length_append, List.length_singleton, List.length_cons, List.length_nil, Nat.zero_add] at he
  subst he
  have HK2 := Aside0.mk h1
  have HT2 := Aside0.mk h2
  have HG2 := Aside0.mk (h2.blk HBG2.out.box (by decide))
  have HY2 := Aside0.mk (h2.blk HX2.out (by decide))
  clear h1 h2
  refine hK.out _ _ ⟨(blk_cell HG2.out 0), (blk_frozen HG2.out 0), (blk_cell HY2.out 5)⟩ (fun hHeld => ?_)
  clear hK K
  refine norm_ (a' := ?_) ?_ ?_
  rotate_left
  ·show Act.put _ (some 36) _ = _
   simp only [Act.put, zla, zlb, zlc, i64_w, i32_w]
   rfl
  refine zq 10 (some 37) ?_
  refine zq 11 (some 38) ?_
  refine last_ (i := 12) (N := none) #[true, true, true, true, true, true, true, true, true, true, true, true, true] rfl rfl (by kernel_rfl) (by decide) (fun K hK => ?_)
  refine skip_ (w1 := ?_) (by rfl) rfl ?_ ?_
  rotate_left
  ·go_simp
   rfl
  refine hK.out _ _ ?_
  clear hK K
  refine done_ (by kernel_rfl) ?_
  have HBG3 := Aside0.mk (HBG2.out.setN HT2.out HK2.out)
  have HU3 := Aside0.mk ((HU2.out.trans (HT2.out.mono (by simp))).set HG2.out (by simp) HBG2.out.ge 0 (.slice Av2 (ns.length + 1) cv2))
  have HX3 := Aside0.mk (((UT.refl [101, 3, 9, 25] b w2).set HG2.out (by simp) HBG2.out.ge 0 (.slice Av2 (ns.length + 1) cv2)).blk HY2.out (by decide))
  have hb3 : b ≤ (w2.setCell ⟨g, 0, none⟩ (.slice Av2 (ns.length + 1) cv2)).heap.size := Nat.le_trans hb HU3.out.size
  generalize (w2.setCell ⟨g, 0, none⟩ (.slice Av2 (ns.length + 1) cv2)) = W3 at *
  go_wp2
  refine start_ (n := 11) (S := fun w' => w'.cell? ⟨g, 0, none⟩ = some (.slice Av2 (ns.length + 1) cv2) ∧ w'.frozen? ⟨g, 0, none⟩ = false ∧ w'.cell? ⟨w.heap.size, 5, none⟩ = some (.slice A5 x.f2.length c5)) (ds := [10]) #[false, false, false, false, false, false, false, false, false, false, false] (by kernel_rfl) rfl rfl ⟨(blk_cell HBG3.out.box 0), (blk_frozen HBG3.out.box 0), (blk_cell HX3.out 5)⟩ (fun hHeld => ?_)
  refine zq 0 (some 39) ?_
  refine zq 1 (some 40) ?_
  refine zq 2 (some 41) ?_
  refine zq 3 (some 42) ?_
  refine zq 5 (some 44) ?_
  refine zu 4 (some 43) hHeld ?_
  refine zu 6 (some 45) hHeld ?_
  refine one_ (i := 7) (N := some 46) #[true, true, true, true, true, true, true, true, false, false, false] rfl rfl (by kernel_rfl) (by decide) (fun K hK => ?_)
  refine appK_step (flat_int .i64) (by rfl) (.tmp 43) (.tmp 45) 26 3 (.int .i64 0) 8 rfl Try.underlying26 info3 rfl (by decide) (by decide) _ (ns ++ [(x.f2.length : Int)]) x.f2 A5 x.f2.length c5 rfl rfl HBG3.out.nums (reads_int (HI5.out.ext (HU3.out.below hb)).C) hb3 (by first | omega | (simp only [List.length_append, List.length_singleton, List.length_cons, List.length_nil]; omega)) ?_
  intro v3 w3 h1 h2
  obtain ⟨Av3, cv3, he, -, -⟩ := Kd.R_reads h1
  simp only [List.length_append, List.length_singleton, List.length_cons, List.length_nil, Nat.zero_add] at he
  subst he
  have HK3 := Aside0.mk h1
  have HT3 : Aside0 (UT [3] b W3 w3) := ⟨⟨h2.os, h2.tape, h2.output, h2.size, h2.same⟩⟩
  have HG3 := Aside0.mk (h2.blk HBG3.out.box (by decide))
  have HY3 := Aside0.mk (h2.blk HX3.out (by decide))
  clear h1 h2
  refine hK.out _ _ ⟨(blk_cell HG3.out 0), (blk_frozen HG3.out 0), (blk_cell HY3.out 5)⟩ (fun hHeld => ?_)
  clear hK K
  refine norm_ (a' := ?_) ?_ ?_
  rotate_left
  ·show Act.put _ (some 46) _ = _
   simp only [Act.put, zla, zlb, zlc, i64_w, i32_w]
   rfl
  refine zq 8 (some 47) ?_
  refine zq 9 (some 48) ?_
  refine last_ (i := 10) (N := none) #[true, true, true, true, true, true, true, true, true, true, true] rfl rfl (by kernel_rfl) (by decide) (fun K hK => ?_)
  refine skip_ (w1 := ?_) (by rfl) rfl ?_ ?_
  rotate_left
  ·go_simp
   rfl
  refine hK.out _ _ ?_
  clear hK K
  refine done_ (by kernel_rfl) ?_
  have HBG4 := Aside0.mk (HBG3.out.setN HT3.out HK3.out)
  have HU4 := Aside0.mk ((HU3.out.trans (HT3.out.mono (by simp))).set HG3.out (by simp) HBG3.out.ge 0 (.slice Av3 (ns.length + 1 + x.f2.length) cv3))
  have HX4 := Aside0.mk (((UT.refl [101, 3, 9, 25] b w3).set HG3.out (by simp) HBG3.out.ge 0 (.slice Av3 (ns.length + 1 + x.f2.length) cv3)).blk HY3.out (by decide))
  have hb4 : b ≤ (w3.setCell ⟨g, 0, none⟩ (.slice Av3 (ns.length + 1 + x.f2.length) cv3)).heap.size := Nat.le_trans hb HU4.out.size
  generalize (w3.setCell ⟨g, 0, none⟩ (.slice Av3 (ns.length + 1 + x.f2.length) cv3)) = W4 at *
  go_wp2
  first | go_end0 | ((try simp only [Exit.inBlock, Exit.then]); refine bodyPost_ret (results_none rfl _ _ _) rfl ?_)
  exact ⟨rfl, ⟨_, _, _, by first | exact HBG4.out | exact HBG4.out.drew⟩, by first | exact HU4.out | exact HU4.out.drew⟩
end Go.Proofs.Ythmkioodkldgbaa.DK
