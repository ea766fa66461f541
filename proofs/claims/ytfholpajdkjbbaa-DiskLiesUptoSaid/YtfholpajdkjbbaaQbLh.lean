/- upTo: every call of a script is played; conditions: those in each theorem. -/
import Derived.Test.YtfholpajdkjbbaaQbLg
namespace Go.Proofs.Ytfholpajdkjbbaa.DK
open Go.Proofs.Ytfholpajdkjbbaa.PD
open Go.RowKit Go.Proofs.YtfholpajdkjbbaaW.PrintWords Go.Proofs.YtfholpajdkjbbaaW.PrintLast Go.Proofs.YtfholpajdkjbbaaW.PrintMore Go.Proofs.Ytfholpajdkjbbaa.Mo
set_option linter.unusedVariables false
set_option linter.unusedSimpArgs false
/-- What a script's op must be. -/
structure GoodK (o : S41) : Prop where
  g : Mo.Good o
  k : o.f6.length ≤ 2 ^ 40
structure UpI (w wr : World) (b : Nat) (ops : List S41) (st : St) (i : Nat) : Prop where
  le : i ≤ ops.length
  bel : Below w.heap.size w wr
  pr : ∃ Z, Pair wr b Z (st.ops (ops.take i)) ∧ ∀ k, Z k → w.heap.size ≤ k
def UpE (w : World) (b : Nat) (ops : List S41) (st : St) (iv : Value) (wr : World) : Prop := ∃ i : Nat, iv = .int .i64 i ∧ UpI w wr b ops st i
theorem ops_snoc (s : St) (l : List S41) (o : S41) : s.ops (l ++ [o]) = ((s.ops l).op o).1 := by
  unfold St.ops
  rw [List.foldl_append]
  rfl
theorem take_ok {s : St} (ok : Ok s) {l : List S41} (hg : ∀ o ∈ l, GoodK o) (i : Nat) : Ok (s.ops (l.take i)) := ok.ops (fun o ho => (hg o (List.mem_of_mem_take ho)).g)
theorem Both.pair {w : World} {b : Nat} {X1 X2 : Nat → Prop} {s : St} (h : Both w b X1 X2 s) : Pair w b (fun k => X1 k ∨ X2 k) s := by
  obtain ⟨p1, p2, hb, hP, hR⟩ := h.disks
  exact ⟨fun k hk => hk.elim (hP.bd k) (hR.bd k), fun hk => hk.elim h.n1 h.n2, p1, p2, X1, X2, hb, hP, hR, h.ap, fun _ h => h⟩
theorem cell_old {w w1 : World} (hb : Below w.heap.size w w1) {a : Addr} {v : Value} (h : w.cell? a = some v) : w1.cell? a = some v :=
  (hb.cell (World.block_lt_of_cell? w a h)).trans h
theorem step_up {w wr W w5 w6 : World} {b : Nat} {Z : Nat → Prop} {s : St} (hb : Below w.heap.size w wr) (hw : Below wr.heap.size wr W) (hz : ∀ k, Z k → w.heap.size ≤ k) (hs : PairStep b Z W w5 s) (h6 : Below w5.heap.size w5 w6) :
    Below w.heap.size w w6 ∧ ∃ Z', Pair w6 b Z' s ∧ ∀ k, Z' k → w.heap.size ≤ k := by
  have h1 := hb.trans (hw.mono hb.size)
  have h2 := h1.trans (hs.2.below h1.size hz)
  exact ⟨h2.trans (h6.mono h2.size), _, hs.1.below h6, fun k hk => hk.elim (hz k) (fun h => Nat.le_trans h1.size h.1)⟩
/-- An op of the script, as memory has it. -/
theorem op_at {w : World} {A : Option Addr} {ops : List S41} (h : Kd.C k41 w A ops.length ops) {i : Nat} (hi : i < ops.length) : ∃ ad A5 c5 A6 c6, A = some ad ∧
    (∀ wr, Below w.heap.size w wr → wr.cell? (ad.add (i * 7)) = some (.int .i64 ops[i].f0) ∧ wr.cell? ⟨(ad.add (i * 7)).block, (ad.add (i * 7)).off + 1, none⟩ = some (.int .i64 ops[i].f1) ∧ wr.cell? ⟨(ad.add (i * 7)).block, (ad.add (i * 7)).off + 2, none⟩ = some (.string ops[i].f2) ∧ wr.cell? ⟨(ad.add (i * 7)).block, (ad.add (i * 7)).off + 3, none⟩ = some (.int .i64 ops[i].f3) ∧ wr.cell? ⟨(ad.add (i * 7)).block, (ad.add (i * 7)).off + 4, none⟩ = some (.int .i64 ops[i].f4) ∧ wr.cell? ⟨(ad.add (i * 7)).block, (ad.add (i * 7)).off + 5, none⟩ = some (.slice A5 ops[i].f5.length c5) ∧ wr.cell? ⟨(ad.add (i * 7)).block, (ad.add (i * 7)).off + 6, none⟩ = some (.slice A6 ops[i].f6.length c6)) ∧
    ∀ wr, Below w.heap.size w wr → OpIn wr w.heap.size ops[i].f5 A5 c5 ops[i].f6 A6 c6 := by
  have h1 := at_T41 h (i : Int) (by omega) (by omega)
  rw [rd41_nat ops i hi] at h1
  obtain ⟨ad, A5, c5, A6, c6, e, c0, c1, c2, c3, c4, cc5, cc6, l5, g5, l6, g6⟩ := h1
  simp only [Int.toNat_natCast] at c0 c1 c2 c3 c4 cc5 cc6
  exact ⟨ad, A5, c5, A6, c6, e, fun wr hb => ⟨cell_old hb c0, cell_old hb c1, cell_old hb c2, cell_old hb c3, cell_old hb c4, cell_old hb cc5, cell_old hb cc6⟩,
    fun wr hb => ⟨l5, l6, fun w' h2 => Kd.C_below g5 (hb.trans h2), fun w' h2 => Kd.C_below g6 (hb.trans h2)⟩⟩
set_option maxHeartbeats 8000000 in
set_option maxRecDepth 100000 in
theorem upTo_calls (w : World) (A : Option Addr) (c : Nat) (l : List S67) (A1 : Option Addr) (c1 : Nat) (ops : List S41) (lo hi : Int) (hr : k67.C w A l.length l) (hc : l.length ≤ c) (hr1 : k41.C w A1 ops.length ops) (hc1 : ops.length ≤ c1) (hl : l.length < 2 ^ 31) (hl1 : ops.length < 2 ^ 31) (hb : bulkF l < 2 ^ 40) (hb1 : bulkO ops < 2 ^ 40)
    (hd : ∀ x ∈ l, -9223372036854775808 ≤ x.f2 ∧ x.f2 ≤ 9223372036854775807) (hg : ∀ o ∈ ops, GoodK o) :
    Calls Try.prog 28 #[.slice A l.length c, .slice A1 ops.length c1, .int .i64 lo, .int .i64 hi] w fun e w' => e = .returned (.bool true) ∧ Below w.heap.size w w' := by
  have HF := Aside0.mk (fits_calls w A c l A1 c1 ops hr hc hr1 hc1 (by omega) (by omega) (by omega))
  have HD := Aside0.mk (show ∀ x ∈ l, x.f1.length ≤ 2 ^ 40 ∧ -9223372036854775808 ≤ x.f2 ∧ x.f2 ≤ 9223372036854775807 from fun x hx => ⟨by have := bulkF_mem hx; omega, hd x hx⟩)
  have HR := Aside0.mk hr
  have HR1 := Aside0.mk hr1
  have HGD := Aside0.mk hg
  clear hr hd hr1 hg hb hb1
  cases hfit : fitsB l ops with
  | false =>
    rw [hfit] at HF
    clear hfit
    go_enter Try.func28, Try.ntmps28
    go_wp2_with (go_at_call 15; refine HF.out.mono ?_; rintro e w1 ⟨rfl, ⟨⟨nd, rfl⟩⟩⟩)
    go_ret
    exact ⟨rfl, pw_below_drewN (Below.refl _ _) _⟩
  | true =>
    rw [hfit] at HF
    clear hfit
    have HBG := Aside0.mk (fun (W : World) (b : Nat) (h1 : W.heap[b]? = some (.cells #[.pointer none, .pointer none] 28 (0, 0))) (h2 : k67.C W A l.length l) => begin_calls W b h1 A c l h2 hc hl HD.out)
    cases hs : St.new (l.map of67) with
    | none =>
      rw [hs] at HBG
      unfold BeginPost at HBG
      clear hs
      go_enter Try.func28, Try.ntmps28
      go_wp2_with fail
      refine HF.out.mono ?_
      rintro e w1 ⟨rfl, ⟨⟨nd, rfl⟩⟩⟩
      go_wp2_with fail
      refine (HBG.out ((w.drewN nd).alloc (.cells #[.pointer none, .pointer none] 28)) w.heap.size (heap_alloc_new (w.drewN nd) _) (Kd.C_alloc (Kd.C_drewN HR.out nd) _)).mono ?_
      rintro e w2 ⟨rfl, hu, hb2⟩
      have m0 := blk_cell hb2 0
      have m1 := blk_cell hb2 1
      have fm0 := blk_frozen hb2 0
      have fm1 := blk_frozen hb2 1
      simp only [List.getElem?_toArray, List.getElem?_cons_succ, List.getElem?_cons_zero] at m0 m1
      have HBL2 := Aside0.mk ((below_alloc (pw_below_drewN (Below.refl w.heap.size w) nd) (.cells #[.pointer none, .pointer none] 28)).trans (hu.below (B := w.heap.size) (by rw [World.size_alloc']; show w.heap.size ≤ w.heap.size + 1; omega) (fun k e => by omega)))
      clear hu hb2
      go_wp2
      go_ret
      exact ⟨rfl, by repeat (with_reducible first | exact HBL2.out | apply below_drew | apply pw_below_drewN)⟩
    | some st =>
      rw [hs] at HBG
      unfold BeginPost at HBG
      have OK := Aside0.mk (new_ok hs)
      clear hs
      go_enter Try.func28, Try.ntmps28
      go_wp2_with fail
      refine HF.out.mono ?_
      rintro e w1 ⟨rfl, ⟨⟨nd, rfl⟩⟩⟩
      go_wp2_with fail
      refine (HBG.out ((w.drewN nd).alloc (.cells #[.pointer none, .pointer none] 28)) w.heap.size (heap_alloc_new (w.drewN nd) _) (Kd.C_alloc (Kd.C_drewN HR.out nd) _)).mono ?_
      rintro e w2 ⟨rfl, hu, X1, X2, hbo, hX⟩
      have HPR := Aside0.mk hbo.pair
      obtain ⟨p1, p2, hb2, _, _⟩ := hbo.disks
      have HX := Aside0.mk (show ∀ k, X1 k ∨ X2 k → w.heap.size ≤ k from fun k hk => by have := hX k hk; rw [World.size_alloc'] at this; have h2 : (w.drewN nd).heap.size = w.heap.size := rfl; omega)
      have m0 := blk_cell hb2 0
      have m1 := blk_cell hb2 1
      have fm0 := blk_frozen hb2 0
      have fm1 := blk_frozen hb2 1
      simp only [List.getElem?_toArray, List.getElem?_cons_succ, List.getElem?_cons_zero] at m0 m1
      have HBL2 := Aside0.mk ((below_alloc (pw_below_drewN (Below.refl w.heap.size w) nd) (.cells #[.pointer none, .pointer none] 28)).trans (hu.below (B := w.heap.size) (by rw [World.size_alloc']; show w.heap.size ≤ w.heap.size + 1; omega) (fun k e => by omega)))
      clear hu hb2 hbo hX
      go_wp2
      go_loopw [10] (fun iv wr => UpE w w.heap.size ops st iv wr) (fun iv _ => ops.length - (intOf iv).toNat)
      case atStart => exact ⟨0, rfl, Nat.zero_le _, by repeat (with_reducible first | exact HBL2.out | apply below_drew | apply pw_below_drewN), _, HPR.out.below (by repeat (with_reducible first | exact Below.refl _ _ | apply below_drew | apply pw_below_drewN)), HX.out⟩
      case round =>
        obtain ⟨i, rfl, hle, hbel, Z, hp, hz⟩ := hrel
        have HP := Aside0.mk hp
        have HB := Aside0.mk hbel
        have HZ := Aside0.mk hz
        have hbz := hbel.size
        clear hp hz
        by_cases hlt : i < ops.length
        · obtain ⟨ad, A5, c5, A6, c6, rfl, hcell, hin⟩ := op_at HR1.out hlt
          obtain ⟨d0, d1, d2, d3, d4, d5, d6⟩ := hcell wr hbel
          have HG := Aside0.mk (HGD.out _ (List.getElem_mem hlt))
          have HTK := Aside0.mk (show st.ops (ops.take (i + 1)) = ((st.ops (ops.take i)).op ops[i]).1 by rw [take_snoc' ops i hlt, ops_snoc])
          generalize ops[i] = o at *
          have HIN := Aside0.mk hin
          have HPL := Aside0.mk (fun (W : World) (hw : Below wr.heap.size wr W) => plays_calls W w.heap.size w.heap.size Z _ o A5 c5 A6 c6 (HP.out.below hw) (take_ok OK.out HGD.out i) (Nat.le_trans hbz hw.size) HZ.out (HIN.out W (HB.out.trans (hw.mono hbz))) HG.out.g HG.out.k)
          clear hbel hcell hin
          go_wp2_with fail
          refine (HPL.out _ ?hw).mono ?_
          case hw => repeat (with_reducible first | exact Below.refl _ _ | apply below_drew | apply pw_below_drewN | apply below_alloc | refine Below.setCell ?_ (Nat.le_refl _) _)
          rintro e w5 ⟨rfl, hs⟩
          have HS := Aside0.mk hs
          clear hs
          go_wp2
          go_roundw
          case rel => exact ⟨i + 1, by simp, by
            have hq := step_up (w6 := _) HB.out (W := _) (by repeat (with_reducible first | exact Below.refl _ _ | apply below_drew | apply pw_below_drewN | apply below_alloc | refine Below.setCell ?_ (Nat.le_refl _) _)) HZ.out HS.out (Below.refl _ _)
            obtain ⟨h1, Z2, h2, h3⟩ := hq
            exact ⟨hlt, h1, Z2, by rw [HTK.out]; exact h2, h3⟩⟩
          case measure => simp [intOf]; omega
        · have hi : i = ops.length := by omega
          subst hi
          have hbl := HB.out
          go_wp2
          go_ret
          exact ⟨rfl, by repeat (with_reducible first | exact HB.out | apply below_drew | apply pw_below_drewN)⟩
end Go.Proofs.Ytfholpajdkjbbaa.DK
