/- DiskTwo: two pairs whose calls go in turns; conditions: those in each theorem. -/
import Derived.Test.YtfholpajdkjbbaaQcLh
namespace Go.Proofs.Ytfholpajdkjbbaa.DK
open Go.Proofs.Ytfholpajdkjbbaa.PD
open Go.RowKit Go.Proofs.YtfholpajdkjbbaaW.PrintWords Go.Proofs.YtfholpajdkjbbaaW.PrintLast Go.Proofs.YtfholpajdkjbbaaW.PrintMore Go.Proofs.Ytfholpajdkjbbaa.Mo
set_option linter.unusedVariables false
set_option linter.unusedSimpArgs false
/-- The pair at b, which may hold none. -/
def PairO (w : World) (b : Nat) (Z : Nat → Prop) : Option St → Prop
  | none => w.heap[b]? = some (.cells #[.pointer none, .pointer none] 28 (0, 0)) ∧ (∀ k, Z k → k < w.heap.size) ∧ ¬ Z b
  | some s => Pair w b Z s ∧ Ok s
theorem PairO.bd {w : World} {b : Nat} {Z : Nat → Prop} {o : Option St} (h : PairO w b Z o) : ∀ k, Z k → k < w.heap.size := by
  cases o with
  | none => exact h.2.1
  | some s => exact h.1.bd
theorem PairO.nb {w : World} {b : Nat} {Z : Nat → Prop} {o : Option St} (h : PairO w b Z o) : ¬ Z b := by
  cases o with
  | none => exact h.2.2
  | some s => exact h.1.nb
theorem PairO.lt {w : World} {b : Nat} {Z : Nat → Prop} {o : Option St} (h : PairO w b Z o) : b < w.heap.size := by
  cases o with
  | none => exact blk_lt h.1
  | some s => exact h.1.lt
theorem PairO.upd {w w' : World} {b : Nat} {Y Z : Nat → Prop} {o : Option St} (h : PairO w b Z o) (hu : Upd Y w w') (hy : ∀ k, Z k → ¬ Y k) (hb : ¬ Y b) : PairO w' b Z o := by
  cases o with
  | none => exact ⟨blk_upd h.1 hu hb, fun k hk => Nat.lt_of_lt_of_le (h.2.1 k hk) hu.size, h.2.2⟩
  | some s => exact ⟨h.1.upd hu hy hb, h.2⟩
theorem PairO.below {w w' : World} {b : Nat} {Z : Nat → Prop} {o : Option St} (h : PairO w b Z o) (hb : Below w.heap.size w w') : PairO w' b Z o :=
  h.upd (Upd.of_below hb (fun _ => False)) (fun _ _ h => h) (fun h => h)
theorem begin_pair {l : List S67} {w w' : World} {b : Nat} {e : Ending} (h : BeginPost w b (St.new (l.map of67)) e w') : e = .returned (.bool true) ∧ Upd (fun k => k = b) w w' ∧ ∃ Z o, PairO w' b Z o ∧ ∀ k, Z k → w.heap.size ≤ k := by
  obtain ⟨h1, h2, h3⟩ := h
  refine ⟨h1, h2, ?_⟩
  cases hs : St.new (l.map of67) with
  | none =>
    rw [hs] at h3
    exact ⟨fun _ => False, none, ⟨h3, fun _ h => h.elim, fun h => h⟩, fun _ h => h.elim⟩
  | some s =>
    rw [hs] at h3
    obtain ⟨X1, X2, h3, h4⟩ := h3
    exact ⟨_, some s, ⟨h3.pair, new_ok hs⟩, h4⟩
/-- Two pairs, apart from one another. -/
def Two (w wr : World) (b1 b2 : Nat) (Z1 Z2 : Nat → Prop) (o1 o2 : Option St) : Prop :=
  PairO wr b1 Z1 o1 ∧ PairO wr b2 Z2 o2 ∧ (∀ k, Z1 k → ¬ Z2 k) ∧ ¬ Z1 b2 ∧ ¬ Z2 b1 ∧ (∀ k, Z1 k ∨ Z2 k → w.heap.size ≤ k) ∧ Below w.heap.size w wr ∧ b1 ≠ b2
def TwoX (w wr : World) (b1 b2 : Nat) : Prop := ∃ Z1 Z2 o1 o2, Two w wr b1 b2 Z1 Z2 o1 o2
theorem Two.swap {w wr : World} {b1 b2 : Nat} {Z1 Z2 : Nat → Prop} {o1 o2 : Option St} (h : Two w wr b1 b2 Z1 Z2 o1 o2) : Two w wr b2 b1 Z2 Z1 o2 o1 :=
  ⟨h.2.1, h.1, fun k h1 h2 => h.2.2.1 k h2 h1, h.2.2.2.2.1, h.2.2.2.1, fun k hk => h.2.2.2.2.2.1 k hk.symm, h.2.2.2.2.2.2.1, h.2.2.2.2.2.2.2.symm⟩
theorem Two.below {w wr w' : World} {b1 b2 : Nat} {Z1 Z2 : Nat → Prop} {o1 o2 : Option St} (h : Two w wr b1 b2 Z1 Z2 o1 o2) (hb : Below wr.heap.size wr w') : Two w w' b1 b2 Z1 Z2 o1 o2 :=
  ⟨h.1.below hb, h.2.1.below hb, h.2.2.1, h.2.2.2.1, h.2.2.2.2.1, h.2.2.2.2.2.1, h.2.2.2.2.2.2.1.trans (hb.mono h.2.2.2.2.2.2.1.size), h.2.2.2.2.2.2.2⟩
theorem Two.step {w W w5 : World} {b1 b2 : Nat} {Z1 Z2 : Nat → Prop} {o1 o2 : Option St} {s' : St} (h : Two w W b1 b2 Z1 Z2 o1 o2) (hs : PairStep b1 Z1 W w5 s') (ok : Ok s') : TwoX w w5 b1 b2 := by
  obtain ⟨h1, h2, h3, h4, h5, h6, h7, h8⟩ := h
  refine ⟨_, Z2, some s', o2, ⟨hs.1, ok⟩, h2.upd hs.2 (fun k hk hz => h3 k hz hk) h4, fun k hk hz => hk.elim (fun hk => h3 k hk hz) (fun hk => absurd (h2.bd k hz) (Nat.not_lt.2 hk.1)), fun hk => hk.elim h4 (fun hk => absurd h2.lt (Nat.not_lt.2 hk.1)), h5, fun k hk => ?_, h7.trans (hs.2.below h7.size (fun k hk => h6 k (.inl hk))), h8⟩
  rcases hk with (hk | hk) | hk
  · exact h6 k (.inl hk)
  · exact Nat.le_trans h7.size hk.1
  · exact h6 k (.inr hk)
def TwoE (w : World) (b1 b2 n : Nat) (iv : Value) (wr : World) : Prop := ∃ i : Nat, iv = .int .i64 i ∧ i ≤ n ∧ TwoX w wr b1 b2
theorem Two.at1 {w wr : World} {b1 b2 : Nat} {Z1 Z2 : Nat → Prop} {o2 : Option St} {s : St} (h : Two w wr b1 b2 Z1 Z2 (some s) o2) : Pair wr b1 Z1 s ∧ Ok s := h.1
set_option maxHeartbeats 16000000 in
set_option maxRecDepth 100000 in
theorem two_calls (w : World) (A : Option Addr) (c : Nat) (l : List S67) (hr : k67.C w A l.length l) (hc : l.length ≤ c) (hl : l.length ≤ 1048576) (hb : bulkF l ≤ 1048576) (hd : ∀ x ∈ l, -9223372036854775808 ≤ x.f2 ∧ x.f2 ≤ 9223372036854775807)
    (A' : Option Addr) (c' : Nat) (l' : List S67) (hr' : k67.C w A' l'.length l') (hc' : l'.length ≤ c') (hl' : l'.length ≤ 1048576) (hb' : bulkF l' ≤ 1048576) (hd' : ∀ x ∈ l', -9223372036854775808 ≤ x.f2 ∧ x.f2 ≤ 9223372036854775807)
    (A1 : Option Addr) (c1 : Nat) (ops : List S41) (hr1 : k41.C w A1 ops.length ops) (hc1 : ops.length ≤ c1) (hl1 : ops.length ≤ 1048576) (hb1 : bulkO ops ≤ 1048576) (hg : ∀ o ∈ ops, GoodK o) :
    Calls Try.prog 10 #[.slice A l.length c, .slice A' l'.length c', .slice A1 ops.length c1] w fun e w' => e = .returned (.bool true) ∧ Below w.heap.size w w' := by
  have HF := Aside0.mk (fits_calls w A c l A1 c1 ops hr hc hr1 hc1 (by omega) (by omega) (by omega))
  have HR := Aside0.mk hr
  have HR' := Aside0.mk hr'
  have HR1 := Aside0.mk hr1
  have HGD := Aside0.mk hg
  have HF' := Aside0.mk (fun nd => fits_calls (w.drewN nd) A' c' l' none 0 [] (Kd.C_drewN HR'.out nd) hc' (Kd.C_nil _ _) (Nat.le_refl _) (by omega) (by decide) (by simp only [bulkO]; omega))
  have HBG := Aside0.mk (fun (W : World) (b : Nat) (h1 : W.heap[b]? = some (.cells #[.pointer none, .pointer none] 28 (0, 0))) (h2 : k67.C W A l.length l) => begin_calls W b h1 A c l h2 hc (by omega) (fun x hx => ⟨by have := bulkF_mem hx; omega, hd x hx⟩))
  have HBG' := Aside0.mk (fun (W : World) (b : Nat) (h1 : W.heap[b]? = some (.cells #[.pointer none, .pointer none] 28 (0, 0))) (h2 : k67.C W A' l'.length l') => begin_calls W b h1 A' c' l' h2 hc' (by omega) (fun x hx => ⟨by have := bulkF_mem hx; omega, hd' x hx⟩))
  clear hr hr' hd hd' hr1 hg hb hb' hb1
  cases hfit : fitsB l ops with
  | false =>
    rw [hfit] at HF
    clear hfit
    go_enter Try.func10, Try.ntmps10
    go_wp2_with fail
    refine HF.out.mono ?_
    rintro e w1 ⟨rfl, ⟨⟨nd, rfl⟩⟩⟩
    go_wp2
    go_ret
    exact ⟨rfl, pw_below_drewN (Below.refl _ _) _⟩
  | true =>
    rw [hfit] at HF
    clear hfit
    cases hfit : fitsB l' [] with
    | false =>
      rw [hfit] at HF'
      clear hfit
      go_enter Try.func10, Try.ntmps10
      go_wp2_with fail
      refine HF.out.mono ?_
      rintro e w1 ⟨rfl, ⟨⟨nd, rfl⟩⟩⟩
      go_wp2_with fail
      refine (HF'.out nd).mono ?_
      rintro e w1 ⟨rfl, ⟨⟨nd2, rfl⟩⟩⟩
      go_wp2
      go_ret
      exact ⟨rfl, by repeat (with_reducible first | exact Below.refl _ _ | apply below_drew | apply pw_below_drewN)⟩
    | true =>
      rw [hfit] at HF'
      clear hfit
      go_enter Try.func10, Try.ntmps10
      go_wp2_with fail
      refine HF.out.mono ?_
      rintro e w1 ⟨rfl, ⟨⟨nd, rfl⟩⟩⟩
      go_wp2_with fail
      refine (HF'.out nd).mono ?_
      rintro e w1 ⟨rfl, ⟨⟨nd2, rfl⟩⟩⟩
      go_wp2_with fail
      have hW0 : Below w.heap.size w (((w.drewN (nd + nd2)).alloc (.cells #[.pointer none, .pointer none] 28)).alloc (.cells #[.pointer none, .pointer none] 28)) := below_alloc (below_alloc (pw_below_drewN (Below.refl _ _) _) _) _
      have hn2 := heap_alloc_new ((w.drewN (nd + nd2)).alloc (.cells #[.pointer none, .pointer none] 28)) (.cells #[.pointer none, .pointer none] 28)
      have hn1 := blk_alloc (heap_alloc_new (w.drewN (nd + nd2)) (.cells #[.pointer none, .pointer none] 28)) (.cells #[.pointer none, .pointer none] 28)
      have hs0 : (((w.drewN (nd + nd2)).alloc (.cells #[.pointer none, .pointer none] 28)).alloc (.cells #[.pointer none, .pointer none] 28)).heap.size = w.heap.size + 2 := by rw [World.size_alloc', World.size_alloc']; rfl
      rw [show ((w.drewN (nd + nd2)).alloc (.cells #[.pointer none, .pointer none] 28)).heap.size = w.heap.size + 1 by rw [World.size_alloc']; rfl] at hn2
      rw [show (w.drewN (nd + nd2)).heap.size = w.heap.size from rfl] at hn1
      generalize ((w.drewN (nd + nd2)).alloc (.cells #[.pointer none, .pointer none] 28)).alloc (.cells #[.pointer none, .pointer none] 28) = W0 at *
      have HW0 := Aside0.mk hW0
      have HN2 := Aside0.mk hn2
      have HB1 := Aside0.mk (HBG.out W0 w.heap.size hn1 (Kd.C_below HR.out hW0))
      clear hW0 hn1 hn2
      refine HB1.out.mono ?_
      rintro e w2 hbp
      obtain ⟨rfl, hu, Z1, o1, hp1, hz1⟩ := begin_pair hbp
      have hW2 := HW0.out.trans (hu.below (B := w.heap.size) (by omega) (fun k hk => by omega))
      have hn2 := blk_upd HN2.out hu (show ¬ w.heap.size + 1 = w.heap.size by omega)
      have HB2 := Aside0.mk (HBG'.out w2 (w.heap.size + 1) hn2 (Kd.C_below HR'.out hW2))
      have HW2 := Aside0.mk hW2
      have hs2 := hu.size
      have HP1 := Aside0.mk hp1
      clear hbp hu hW2 hn2 hp1
      go_wp2_with fail
      refine HB2.out.mono ?_
      rintro e w3 hbp
      obtain ⟨rfl, hu, Z2, o2, hp2, hz2⟩ := begin_pair hbp
      have htw : Two w w3 w.heap.size (w.heap.size + 1) Z1 Z2 o1 o2 := ⟨HP1.out.upd hu (fun k hk e => by have := hz1 k hk; omega) (by omega), hp2, fun k h1 h2 => absurd (HP1.out.bd k h1) (Nat.not_lt.2 (hz2 k h2)), fun hk => by have := hz1 _ hk; omega, fun hk => by have := hz2 _ hk; omega, fun k hk => hk.elim (fun hk => by have := hz1 k hk; omega) (fun hk => by have := hz2 k hk; omega), HW2.out.trans (hu.below (B := w.heap.size) (by omega) (fun k hk => by omega)), by omega⟩
      have HTW := Aside0.mk htw
      clear htw hbp hu hz1 hz2 hp2 HP1
      go_wp2
      go_loopw [9, 10] (fun iv xv wr => TwoE w w.heap.size (w.heap.size + 1) ops.length iv wr) (fun iv _ _ => ops.length - (intOf iv).toNat)
      case atStart => exact ⟨0, rfl, Nat.zero_le _, Z1, Z2, o1, o2, HTW.out.below (by repeat (with_reducible first | exact Below.refl _ _ | apply below_drew | apply pw_below_drewN))⟩
      case round =>
        obtain ⟨i, rfl, hle, Y1, Y2, q1, q2, htw⟩ := hrel
        by_cases hlt : i < ops.length
        · obtain ⟨ad, A5, c5, A6, c6, rfl, hcell, hin⟩ := op_at HR1.out hlt
          obtain ⟨d0, d1, d2, d3, d4, d5, d6⟩ := hcell wr htw.2.2.2.2.2.2.1
          have HG := Aside0.mk (HGD.out _ (List.getElem_mem hlt))
          generalize ops[i] = o at *
          have HIN := Aside0.mk hin
          clear hcell hin
          by_cases hw1 : o.f1 = 1
          · have hw2 : (o.f1 == 1) = true := beq_iff_eq.2 hw1
            clear hw1
            have ht0 := htw.swap
            clear htw
            cases q2 with
            | none =>
              have HT := Aside0.mk ht0
              have hbel := ht0.2.2.2.2.2.2.1
              have hbz := hbel.size
              have hbk := ht0.1.1
              have m0 := blk_cell hbk 0
              have m1 := blk_cell hbk 1
              have fm0 := blk_frozen hbk 0
              have fm1 := blk_frozen hbk 1
              simp only [List.getElem?_toArray, List.getElem?_cons_succ, List.getElem?_cons_zero] at m0 m1
              clear ht0 hbk hbel
              go_wp2
              go_roundw
              case rel => exact ⟨i + 1, by simp, hlt, _, _, _, _, HT.out.swap⟩
              case measure => simp [intOf]; omega
            | some s =>
              have HT := Aside0.mk ht0
              have hbel := ht0.2.2.2.2.2.2.1
              have hbz := hbel.size
              obtain ⟨p1, p2, X1, X2, hbk, _⟩ := ht0.at1.1.disks
              have m0 := blk_cell hbk 0
              have m1 := blk_cell hbk 1
              have fm0 := blk_frozen hbk 0
              have fm1 := blk_frozen hbk 1
              simp only [List.getElem?_toArray, List.getElem?_cons_succ, List.getElem?_cons_zero] at m0 m1
              have HPL := Aside0.mk (fun (W : World) (hw : Below wr.heap.size wr W) => plays_calls W (w.heap.size + 1) w.heap.size _ s o A5 c5 A6 c6 (ht0.at1.1.below hw) ht0.at1.2 (Nat.le_trans hbz hw.size) (fun k hk => ht0.2.2.2.2.2.1 k (.inl hk)) (HIN.out W (hbel.trans (hw.mono hbz))) HG.out.g HG.out.k)
              clear ht0 hbk hbel
              go_wp2_with fail
              refine (HPL.out _ ?hw).mono ?_
              case hw => repeat (with_reducible first | exact Below.refl _ _ | apply below_drew | apply pw_below_drewN | apply below_alloc)
              rintro e w5 ⟨rfl, hs⟩
              have HS := Aside0.mk hs
              clear hs
              go_wp2
              go_roundw
              case rel => exact ⟨i + 1, by simp, hlt, by
                have hq := (HT.out.below (by repeat (with_reducible first | exact Below.refl _ _ | apply below_drew | apply pw_below_drewN | apply below_alloc))).step HS.out (HT.out.at1.2.op HG.out.g)
                obtain ⟨V1, V2, v1, v2, hv⟩ := hq
                exact ⟨_, _, _, _, hv.swap⟩⟩
              case measure => simp [intOf]; omega
          · have hw2 : (o.f1 == 1) = false := beq_eq_false_iff_ne.2 hw1
            clear hw1
            have ht0 := htw
            clear htw
            cases q1 with
            | none =>
              have HT := Aside0.mk ht0
              have hbel := ht0.2.2.2.2.2.2.1
              have hbz := hbel.size
              have hbk := ht0.1.1
              have m0 := blk_cell hbk 0
              have m1 := blk_cell hbk 1
              have fm0 := blk_frozen hbk 0
              have fm1 := blk_frozen hbk 1
              simp only [List.getElem?_toArray, List.getElem?_cons_succ, List.getElem?_cons_zero] at m0 m1
              clear ht0 hbk hbel
              go_wp2
              go_roundw
              case rel => exact ⟨i + 1, by simp, hlt, _, _, _, _, HT.out⟩
              case measure => simp [intOf]; omega
            | some s =>
              have HT := Aside0.mk ht0
              have hbel := ht0.2.2.2.2.2.2.1
              have hbz := hbel.size
              obtain ⟨p1, p2, X1, X2, hbk, _⟩ := ht0.at1.1.disks
              have m0 := blk_cell hbk 0
              have m1 := blk_cell hbk 1
              have fm0 := blk_frozen hbk 0
              have fm1 := blk_frozen hbk 1
              simp only [List.getElem?_toArray, List.getElem?_cons_succ, List.getElem?_cons_zero] at m0 m1
              have HPL := Aside0.mk (fun (W : World) (hw : Below wr.heap.size wr W) => plays_calls W w.heap.size w.heap.size _ s o A5 c5 A6 c6 (ht0.at1.1.below hw) ht0.at1.2 (Nat.le_trans hbz hw.size) (fun k hk => ht0.2.2.2.2.2.1 k (.inl hk)) (HIN.out W (hbel.trans (hw.mono hbz))) HG.out.g HG.out.k)
              clear ht0 hbk hbel
              go_wp2_with fail
              refine (HPL.out _ ?hw).mono ?_
              case hw => repeat (with_reducible first | exact Below.refl _ _ | apply below_drew | apply pw_below_drewN | apply below_alloc)
              rintro e w5 ⟨rfl, hs⟩
              have HS := Aside0.mk hs
              clear hs
              go_wp2
              go_roundw
              case rel => exact ⟨i + 1, by simp, hlt, by
                have hq := (HT.out.below (by repeat (with_reducible first | exact Below.refl _ _ | apply below_drew | apply pw_below_drewN | apply below_alloc))).step HS.out (HT.out.at1.2.op HG.out.g)
                obtain ⟨V1, V2, v1, v2, hv⟩ := hq
                exact ⟨_, _, _, _, hv⟩⟩
              case measure => simp [intOf]; omega
        · have hi : i = ops.length := by omega
          subst hi
          have HBL := Aside0.mk htw.2.2.2.2.2.2.1
          have h1 := htw.1
          have h2 := htw.2.1
          clear htw
          cases q1 with
          | none =>
            cases q2 with
            | none =>
              have hb1 := h1.1
              have HB1 := Aside0.mk hb1
              have m0 := blk_cell hb1 0
              have m1 := blk_cell hb1 1
              have fm0 := blk_frozen hb1 0
              have fm1 := blk_frozen hb1 1
              simp only [List.getElem?_toArray, List.getElem?_cons_succ, List.getElem?_cons_zero] at m0 m1
              have hb2 := h2.1
              have HB2 := Aside0.mk hb2
              have n0 := blk_cell hb2 0
              have n1 := blk_cell hb2 1
              have fn0 := blk_frozen hb2 0
              have fn1 := blk_frozen hb2 1
              simp only [List.getElem?_toArray, List.getElem?_cons_succ, List.getElem?_cons_zero] at n0 n1
              clear hb1 hb2 h1 h2
              have BL0 := Aside0.mk (below_drew (Below.refl wr.heap.size wr))
              go_wp2
              refine start_ (n := 39) (S := fun w' => w'.cell? ⟨w.heap.size, 0, none⟩ = some (.pointer none) ∧ w'.cell? ⟨w.heap.size + 1, 0, none⟩ = some (.pointer none)) (ds := []) (List.toArray (false :: false :: false :: false :: false :: false :: false :: false :: false :: false :: false :: false :: false :: false :: false :: false :: false :: false :: false :: false :: false :: false :: false :: false :: false :: false :: false :: false :: false :: false :: false :: false :: false :: false :: false :: false :: false :: false :: false :: [])) (by kernel_rfl) rfl rfl ⟨m0, n0⟩ (fun hHeld => ?_)
              refine zq 0 (some 62) ?_
              refine zq 1 (some 63) ?_
              refine zq 2 (some 64) ?_
              refine zu 3 (some 65) hHeld ?_
              refine zq 4 (some 66) ?_
              refine zq 5 (some 67) ?_
              refine pure_ (i := 6) (N := some 68) (v := undef) (a' := ?_) (List.toArray (true :: true :: true :: true :: true :: true :: true :: false :: false :: false :: false :: false :: false :: false :: false :: false :: false :: false :: false :: false :: false :: false :: false :: false :: false :: false :: false :: false :: false :: false :: false :: false :: false :: false :: false :: false :: false :: false :: false :: [])) rfl rfl (by kernel_rfl) (fun _ _ _ h => h) (Or.inr ⟨by rfl, rfl⟩) ?_ ?_
              rotate_left
              · simp only [Act.put, zla, zlb, zlc, i64_w, i32_w]
                rfl
              refine pure_ (i := 7) (N := some 69) (v := undef) (a' := ?_) (List.toArray (true :: true :: true :: true :: true :: true :: true :: true :: false :: false :: false :: false :: false :: false :: false :: false :: false :: false :: false :: false :: false :: false :: false :: false :: false :: false :: false :: false :: false :: false :: false :: false :: false :: false :: false :: false :: false :: false :: false :: [])) rfl rfl (by kernel_rfl) (fun _ _ _ h => h) (Or.inr ⟨by rfl, rfl⟩) ?_ ?_
              rotate_left
              · simp only [Act.put, zla, zlb, zlc, i64_w, i32_w]
                rfl
              refine pure_ (i := 8) (N := some 70) (v := undef) (a' := ?_) (List.toArray (true :: true :: true :: true :: true :: true :: true :: true :: true :: false :: false :: false :: false :: false :: false :: false :: false :: false :: false :: false :: false :: false :: false :: false :: false :: false :: false :: false :: false :: false :: false :: false :: false :: false :: false :: false :: false :: false :: false :: [])) rfl rfl (by kernel_rfl) (fun _ _ _ h => h) (Or.inr ⟨by rfl, rfl⟩) ?_ ?_
              rotate_left
              · simp only [Act.put, zla, zlb, zlc, i64_w, i32_w]
                rfl
              refine pure_ (i := 9) (N := some 71) (v := undef) (a' := ?_) (List.toArray (true :: true :: true :: true :: true :: true :: true :: true :: true :: true :: false :: false :: false :: false :: false :: false :: false :: false :: false :: false :: false :: false :: false :: false :: false :: false :: false :: false :: false :: false :: false :: false :: false :: false :: false :: false :: false :: false :: false :: [])) rfl rfl (by kernel_rfl) (fun _ _ _ h => h) (Or.inr ⟨by rfl, rfl⟩) ?_ ?_
              rotate_left
              · simp only [Act.put, zla, zlb, zlc, i64_w, i32_w]
                rfl
              refine pure_ (i := 10) (N := some 72) (v := undef) (a' := ?_) (List.toArray (true :: true :: true :: true :: true :: true :: true :: true :: true :: true :: true :: false :: false :: false :: false :: false :: false :: false :: false :: false :: false :: false :: false :: false :: false :: false :: false :: false :: false :: false :: false :: false :: false :: false :: false :: false :: false :: false :: false :: [])) rfl rfl (by kernel_rfl) (fun _ _ _ h => h) (Or.inr ⟨by rfl, rfl⟩) ?_ ?_
              rotate_left
              · simp only [Act.put, zla, zlb, zlc, i64_w, i32_w]
                rfl
              refine pure_ (i := 11) (N := some 73) (v := undef) (a' := ?_) (List.toArray (true :: true :: true :: true :: true :: true :: true :: true :: true :: true :: true :: true :: false :: false :: false :: false :: false :: false :: false :: false :: false :: false :: false :: false :: false :: false :: false :: false :: false :: false :: false :: false :: false :: false :: false :: false :: false :: false :: false :: [])) rfl rfl (by kernel_rfl) (fun _ _ _ h => h) (Or.inr ⟨by rfl, rfl⟩) ?_ ?_
              rotate_left
              · simp only [Act.put, zla, zlb, zlc, i64_w, i32_w]
                rfl
              refine pure_ (i := 12) (N := some 74) (v := undef) (a' := ?_) (List.toArray (true :: true :: true :: true :: true :: true :: true :: true :: true :: true :: true :: true :: true :: false :: false :: false :: false :: false :: false :: false :: false :: false :: false :: false :: false :: false :: false :: false :: false :: false :: false :: false :: false :: false :: false :: false :: false :: false :: false :: [])) rfl rfl (by kernel_rfl) (fun _ _ _ h => h) (Or.inr ⟨by rfl, rfl⟩) ?_ ?_
              rotate_left
              · simp only [Act.put, zla, zlb, zlc, i64_w, i32_w]
                rfl
              refine pure_ (i := 13) (N := some 75) (v := undef) (a' := ?_) (List.toArray (true :: true :: true :: true :: true :: true :: true :: true :: true :: true :: true :: true :: true :: true :: false :: false :: false :: false :: false :: false :: false :: false :: false :: false :: false :: false :: false :: false :: false :: false :: false :: false :: false :: false :: false :: false :: false :: false :: false :: [])) rfl rfl (by kernel_rfl) (fun _ _ _ h => h) (Or.inr ⟨by rfl, rfl⟩) ?_ ?_
              rotate_left
              · simp only [Act.put, zla, zlb, zlc, i64_w, i32_w]
                rfl
              refine pure_ (i := 14) (N := some 76) (v := undef) (a' := ?_) (List.toArray (true :: true :: true :: true :: true :: true :: true :: true :: true :: true :: true :: true :: true :: true :: true :: false :: false :: false :: false :: false :: false :: false :: false :: false :: false :: false :: false :: false :: false :: false :: false :: false :: false :: false :: false :: false :: false :: false :: false :: [])) rfl rfl (by kernel_rfl) (fun _ _ _ h => h) (Or.inr ⟨by rfl, rfl⟩) ?_ ?_
              rotate_left
              · simp only [Act.put, zla, zlb, zlc, i64_w, i32_w]
                rfl
              refine pure_ (i := 15) (N := some 77) (v := undef) (a' := ?_) (List.toArray (true :: true :: true :: true :: true :: true :: true :: true :: true :: true :: true :: true :: true :: true :: true :: true :: false :: false :: false :: false :: false :: false :: false :: false :: false :: false :: false :: false :: false :: false :: false :: false :: false :: false :: false :: false :: false :: false :: false :: [])) rfl rfl (by kernel_rfl) (fun _ _ _ h => h) (Or.inr ⟨by rfl, rfl⟩) ?_ ?_
              rotate_left
              · simp only [Act.put, zla, zlb, zlc, i64_w, i32_w]
                rfl
              refine pure_ (i := 16) (N := some 78) (v := undef) (a' := ?_) (List.toArray (true :: true :: true :: true :: true :: true :: true :: true :: true :: true :: true :: true :: true :: true :: true :: true :: true :: false :: false :: false :: false :: false :: false :: false :: false :: false :: false :: false :: false :: false :: false :: false :: false :: false :: false :: false :: false :: false :: false :: [])) rfl rfl (by kernel_rfl) (fun _ _ _ h => h) (Or.inr ⟨by rfl, rfl⟩) ?_ ?_
              rotate_left
              · simp only [Act.put, zla, zlb, zlc, i64_w, i32_w]
                rfl
              refine zq 17 (some 79) ?_
              refine zq 18 (some 80) ?_
              refine zq 19 (some 81) ?_
              refine zq 20 (some 82) ?_
              refine zq 21 (some 83) ?_
              refine zu 22 (some 84) hHeld ?_
              refine zq 23 (some 85) ?_
              refine zq 24 (some 86) ?_
              refine pure_ (i := 25) (N := some 87) (v := undef) (a' := ?_) (List.toArray (true :: true :: true :: true :: true :: true :: true :: true :: true :: true :: true :: true :: true :: true :: true :: true :: true :: true :: true :: true :: true :: true :: true :: true :: true :: true :: false :: false :: false :: false :: false :: false :: false :: false :: false :: false :: false :: false :: false :: [])) rfl rfl (by kernel_rfl) (fun _ _ _ h => h) (Or.inr ⟨by rfl, rfl⟩) ?_ ?_
              rotate_left
              · simp only [Act.put, zla, zlb, zlc, i64_w, i32_w]
                rfl
              refine pure_ (i := 26) (N := some 88) (v := undef) (a' := ?_) (List.toArray (true :: true :: true :: true :: true :: true :: true :: true :: true :: true :: true :: true :: true :: true :: true :: true :: true :: true :: true :: true :: true :: true :: true :: true :: true :: true :: true :: false :: false :: false :: false :: false :: false :: false :: false :: false :: false :: false :: false :: [])) rfl rfl (by kernel_rfl) (fun _ _ _ h => h) (Or.inr ⟨by rfl, rfl⟩) ?_ ?_
              rotate_left
              · simp only [Act.put, zla, zlb, zlc, i64_w, i32_w]
                rfl
              refine pure_ (i := 27) (N := some 89) (v := undef) (a' := ?_) (List.toArray (true :: true :: true :: true :: true :: true :: true :: true :: true :: true :: true :: true :: true :: true :: true :: true :: true :: true :: true :: true :: true :: true :: true :: true :: true :: true :: true :: true :: false :: false :: false :: false :: false :: false :: false :: false :: false :: false :: false :: [])) rfl rfl (by kernel_rfl) (fun _ _ _ h => h) (Or.inr ⟨by rfl, rfl⟩) ?_ ?_
              rotate_left
              · simp only [Act.put, zla, zlb, zlc, i64_w, i32_w]
                rfl
              refine pure_ (i := 28) (N := some 90) (v := undef) (a' := ?_) (List.toArray (true :: true :: true :: true :: true :: true :: true :: true :: true :: true :: true :: true :: true :: true :: true :: true :: true :: true :: true :: true :: true :: true :: true :: true :: true :: true :: true :: true :: true :: false :: false :: false :: false :: false :: false :: false :: false :: false :: false :: [])) rfl rfl (by kernel_rfl) (fun _ _ _ h => h) (Or.inr ⟨by rfl, rfl⟩) ?_ ?_
              rotate_left
              · simp only [Act.put, zla, zlb, zlc, i64_w, i32_w]
                rfl
              refine pure_ (i := 29) (N := some 91) (v := undef) (a' := ?_) (List.toArray (true :: true :: true :: true :: true :: true :: true :: true :: true :: true :: true :: true :: true :: true :: true :: true :: true :: true :: true :: true :: true :: true :: true :: true :: true :: true :: true :: true :: true :: true :: false :: false :: false :: false :: false :: false :: false :: false :: false :: [])) rfl rfl (by kernel_rfl) (fun _ _ _ h => h) (Or.inr ⟨by rfl, rfl⟩) ?_ ?_
              rotate_left
              · simp only [Act.put, zla, zlb, zlc, i64_w, i32_w]
                rfl
              refine pure_ (i := 30) (N := some 92) (v := undef) (a' := ?_) (List.toArray (true :: true :: true :: true :: true :: true :: true :: true :: true :: true :: true :: true :: true :: true :: true :: true :: true :: true :: true :: true :: true :: true :: true :: true :: true :: true :: true :: true :: true :: true :: true :: false :: false :: false :: false :: false :: false :: false :: false :: [])) rfl rfl (by kernel_rfl) (fun _ _ _ h => h) (Or.inr ⟨by rfl, rfl⟩) ?_ ?_
              rotate_left
              · simp only [Act.put, zla, zlb, zlc, i64_w, i32_w]
                rfl
              refine pure_ (i := 31) (N := some 93) (v := undef) (a' := ?_) (List.toArray (true :: true :: true :: true :: true :: true :: true :: true :: true :: true :: true :: true :: true :: true :: true :: true :: true :: true :: true :: true :: true :: true :: true :: true :: true :: true :: true :: true :: true :: true :: true :: true :: false :: false :: false :: false :: false :: false :: false :: [])) rfl rfl (by kernel_rfl) (fun _ _ _ h => h) (Or.inr ⟨by rfl, rfl⟩) ?_ ?_
              rotate_left
              · simp only [Act.put, zla, zlb, zlc, i64_w, i32_w]
                rfl
              refine pure_ (i := 32) (N := some 94) (v := undef) (a' := ?_) (List.toArray (true :: true :: true :: true :: true :: true :: true :: true :: true :: true :: true :: true :: true :: true :: true :: true :: true :: true :: true :: true :: true :: true :: true :: true :: true :: true :: true :: true :: true :: true :: true :: true :: true :: false :: false :: false :: false :: false :: false :: [])) rfl rfl (by kernel_rfl) (fun _ _ _ h => h) (Or.inr ⟨by rfl, rfl⟩) ?_ ?_
              rotate_left
              · simp only [Act.put, zla, zlb, zlc, i64_w, i32_w]
                rfl
              refine pure_ (i := 33) (N := some 95) (v := undef) (a' := ?_) (List.toArray (true :: true :: true :: true :: true :: true :: true :: true :: true :: true :: true :: true :: true :: true :: true :: true :: true :: true :: true :: true :: true :: true :: true :: true :: true :: true :: true :: true :: true :: true :: true :: true :: true :: true :: false :: false :: false :: false :: false :: [])) rfl rfl (by kernel_rfl) (fun _ _ _ h => h) (Or.inr ⟨by rfl, rfl⟩) ?_ ?_
              rotate_left
              · simp only [Act.put, zla, zlb, zlc, i64_w, i32_w]
                rfl
              refine pure_ (i := 34) (N := some 96) (v := undef) (a' := ?_) (List.toArray (true :: true :: true :: true :: true :: true :: true :: true :: true :: true :: true :: true :: true :: true :: true :: true :: true :: true :: true :: true :: true :: true :: true :: true :: true :: true :: true :: true :: true :: true :: true :: true :: true :: true :: true :: false :: false :: false :: false :: [])) rfl rfl (by kernel_rfl) (fun _ _ _ h => h) (Or.inr ⟨by rfl, rfl⟩) ?_ ?_
              rotate_left
              · simp only [Act.put, zla, zlb, zlc, i64_w, i32_w]
                rfl
              refine pure_ (i := 35) (N := some 97) (v := undef) (a' := ?_) (List.toArray (true :: true :: true :: true :: true :: true :: true :: true :: true :: true :: true :: true :: true :: true :: true :: true :: true :: true :: true :: true :: true :: true :: true :: true :: true :: true :: true :: true :: true :: true :: true :: true :: true :: true :: true :: true :: false :: false :: false :: [])) rfl rfl (by kernel_rfl) (fun _ _ _ h => h) (Or.inr ⟨by rfl, rfl⟩) ?_ ?_
              rotate_left
              · simp only [Act.put, zla, zlb, zlc, i64_w, i32_w]
                rfl
              refine zq 36 (some 98) ?_
              refine zq 37 (some 99) ?_
              refine zq 38 (some 6) ?_
              refine done_ (by kernel_rfl) ?_
              go_wp2
              go_ret
              have hfin := HBL.out.trans ((BL0.out).mono HBL.out.size)
              first | exact hfin | exact ⟨rfl, hfin⟩ | exact ⟨rfl, by first | rfl | simp, hfin⟩
            | some s2 =>
              have hb1 := h1.1
              have HB1 := Aside0.mk hb1
              have m0 := blk_cell hb1 0
              have m1 := blk_cell hb1 1
              have fm0 := blk_frozen hb1 0
              have fm1 := blk_frozen hb1 1
              simp only [List.getElem?_toArray, List.getElem?_cons_succ, List.getElem?_cons_zero] at m0 m1
              obtain ⟨p3, p4, X3, X4, hb2, hP2, hR2, _⟩ := h2.1.disks
              have HP2 := Aside0.mk hP2
              have HR2 := Aside0.mk hR2
              have HOK2 := Aside0.mk h2.2
              have HB2 := Aside0.mk hb2
              have n0 := blk_cell hb2 0
              have n1 := blk_cell hb2 1
              have fn0 := blk_frozen hb2 0
              have fn1 := blk_frozen hb2 1
              simp only [List.getElem?_toArray, List.getElem?_cons_succ, List.getElem?_cons_zero] at n0 n1
              clear hb1 hb2 h1 h2 hP2 hR2
              have BL0 := Aside0.mk (below_drew (Below.refl wr.heap.size wr))
              go_wp2
              refine start_ (n := 39) (S := fun w' => w'.cell? ⟨w.heap.size, 0, none⟩ = some (.pointer none) ∧ w'.cell? ⟨w.heap.size + 1, 0, none⟩ = some (.pointer (some ⟨p3, 0, none⟩)) ∧ w'.cell? ⟨w.heap.size + 1, 1, none⟩ = some (.pointer (some ⟨p4, 0, none⟩))) (ds := [35]) (List.toArray (false :: false :: false :: false :: false :: false :: false :: false :: false :: false :: false :: false :: false :: false :: false :: false :: false :: false :: false :: false :: false :: false :: false :: false :: false :: false :: false :: false :: false :: false :: false :: false :: false :: false :: false :: false :: false :: false :: false :: [])) (by kernel_rfl) rfl rfl ⟨m0, n0, n1⟩ (fun hHeld => ?_)
              refine zq 0 (some 62) ?_
              refine zq 1 (some 63) ?_
              refine zq 2 (some 64) ?_
              refine zu 3 (some 65) hHeld ?_
              refine zq 4 (some 66) ?_
              refine zq 5 (some 67) ?_
              refine pure_ (i := 6) (N := some 68) (v := undef) (a' := ?_) (List.toArray (true :: true :: true :: true :: true :: true :: true :: false :: false :: false :: false :: false :: false :: false :: false :: false :: false :: false :: false :: false :: false :: false :: false :: false :: false :: false :: false :: false :: false :: false :: false :: false :: false :: false :: false :: false :: false :: false :: false :: [])) rfl rfl (by kernel_rfl) (fun _ _ _ h => h) (Or.inr ⟨by rfl, rfl⟩) ?_ ?_
              rotate_left
              · simp only [Act.put, zla, zlb, zlc, i64_w, i32_w]
                rfl
              refine pure_ (i := 7) (N := some 69) (v := undef) (a' := ?_) (List.toArray (true :: true :: true :: true :: true :: true :: true :: true :: false :: false :: false :: false :: false :: false :: false :: false :: false :: false :: false :: false :: false :: false :: false :: false :: false :: false :: false :: false :: false :: false :: false :: false :: false :: false :: false :: false :: false :: false :: false :: [])) rfl rfl (by kernel_rfl) (fun _ _ _ h => h) (Or.inr ⟨by rfl, rfl⟩) ?_ ?_
              rotate_left
              · simp only [Act.put, zla, zlb, zlc, i64_w, i32_w]
                rfl
              refine pure_ (i := 8) (N := some 70) (v := undef) (a' := ?_) (List.toArray (true :: true :: true :: true :: true :: true :: true :: true :: true :: false :: false :: false :: false :: false :: false :: false :: false :: false :: false :: false :: false :: false :: false :: false :: false :: false :: false :: false :: false :: false :: false :: false :: false :: false :: false :: false :: false :: false :: false :: [])) rfl rfl (by kernel_rfl) (fun _ _ _ h => h) (Or.inr ⟨by rfl, rfl⟩) ?_ ?_
              rotate_left
              · simp only [Act.put, zla, zlb, zlc, i64_w, i32_w]
                rfl
              refine pure_ (i := 9) (N := some 71) (v := undef) (a' := ?_) (List.toArray (true :: true :: true :: true :: true :: true :: true :: true :: true :: true :: false :: false :: false :: false :: false :: false :: false :: false :: false :: false :: false :: false :: false :: false :: false :: false :: false :: false :: false :: false :: false :: false :: false :: false :: false :: false :: false :: false :: false :: [])) rfl rfl (by kernel_rfl) (fun _ _ _ h => h) (Or.inr ⟨by rfl, rfl⟩) ?_ ?_
              rotate_left
              · simp only [Act.put, zla, zlb, zlc, i64_w, i32_w]
                rfl
              refine pure_ (i := 10) (N := some 72) (v := undef) (a' := ?_) (List.toArray (true :: true :: true :: true :: true :: true :: true :: true :: true :: true :: true :: false :: false :: false :: false :: false :: false :: false :: false :: false :: false :: false :: false :: false :: false :: false :: false :: false :: false :: false :: false :: false :: false :: false :: false :: false :: false :: false :: false :: [])) rfl rfl (by kernel_rfl) (fun _ _ _ h => h) (Or.inr ⟨by rfl, rfl⟩) ?_ ?_
              rotate_left
              · simp only [Act.put, zla, zlb, zlc, i64_w, i32_w]
                rfl
              refine pure_ (i := 11) (N := some 73) (v := undef) (a' := ?_) (List.toArray (true :: true :: true :: true :: true :: true :: true :: true :: true :: true :: true :: true :: false :: false :: false :: false :: false :: false :: false :: false :: false :: false :: false :: false :: false :: false :: false :: false :: false :: false :: false :: false :: false :: false :: false :: false :: false :: false :: false :: [])) rfl rfl (by kernel_rfl) (fun _ _ _ h => h) (Or.inr ⟨by rfl, rfl⟩) ?_ ?_
              rotate_left
              · simp only [Act.put, zla, zlb, zlc, i64_w, i32_w]
                rfl
              refine pure_ (i := 12) (N := some 74) (v := undef) (a' := ?_) (List.toArray (true :: true :: true :: true :: true :: true :: true :: true :: true :: true :: true :: true :: true :: false :: false :: false :: false :: false :: false :: false :: false :: false :: false :: false :: false :: false :: false :: false :: false :: false :: false :: false :: false :: false :: false :: false :: false :: false :: false :: [])) rfl rfl (by kernel_rfl) (fun _ _ _ h => h) (Or.inr ⟨by rfl, rfl⟩) ?_ ?_
              rotate_left
              · simp only [Act.put, zla, zlb, zlc, i64_w, i32_w]
                rfl
              refine pure_ (i := 13) (N := some 75) (v := undef) (a' := ?_) (List.toArray (true :: true :: true :: true :: true :: true :: true :: true :: true :: true :: true :: true :: true :: true :: false :: false :: false :: false :: false :: false :: false :: false :: false :: false :: false :: false :: false :: false :: false :: false :: false :: false :: false :: false :: false :: false :: false :: false :: false :: [])) rfl rfl (by kernel_rfl) (fun _ _ _ h => h) (Or.inr ⟨by rfl, rfl⟩) ?_ ?_
              rotate_left
              · simp only [Act.put, zla, zlb, zlc, i64_w, i32_w]
                rfl
              refine pure_ (i := 14) (N := some 76) (v := undef) (a' := ?_) (List.toArray (true :: true :: true :: true :: true :: true :: true :: true :: true :: true :: true :: true :: true :: true :: true :: false :: false :: false :: false :: false :: false :: false :: false :: false :: false :: false :: false :: false :: false :: false :: false :: false :: false :: false :: false :: false :: false :: false :: false :: [])) rfl rfl (by kernel_rfl) (fun _ _ _ h => h) (Or.inr ⟨by rfl, rfl⟩) ?_ ?_
              rotate_left
              · simp only [Act.put, zla, zlb, zlc, i64_w, i32_w]
                rfl
              refine pure_ (i := 15) (N := some 77) (v := undef) (a' := ?_) (List.toArray (true :: true :: true :: true :: true :: true :: true :: true :: true :: true :: true :: true :: true :: true :: true :: true :: false :: false :: false :: false :: false :: false :: false :: false :: false :: false :: false :: false :: false :: false :: false :: false :: false :: false :: false :: false :: false :: false :: false :: [])) rfl rfl (by kernel_rfl) (fun _ _ _ h => h) (Or.inr ⟨by rfl, rfl⟩) ?_ ?_
              rotate_left
              · simp only [Act.put, zla, zlb, zlc, i64_w, i32_w]
                rfl
              refine pure_ (i := 16) (N := some 78) (v := undef) (a' := ?_) (List.toArray (true :: true :: true :: true :: true :: true :: true :: true :: true :: true :: true :: true :: true :: true :: true :: true :: true :: false :: false :: false :: false :: false :: false :: false :: false :: false :: false :: false :: false :: false :: false :: false :: false :: false :: false :: false :: false :: false :: false :: [])) rfl rfl (by kernel_rfl) (fun _ _ _ h => h) (Or.inr ⟨by rfl, rfl⟩) ?_ ?_
              rotate_left
              · simp only [Act.put, zla, zlb, zlc, i64_w, i32_w]
                rfl
              refine zq 17 (some 79) ?_
              refine zq 18 (some 80) ?_
              refine zq 19 (some 81) ?_
              refine zq 20 (some 82) ?_
              refine zq 21 (some 83) ?_
              refine zu 22 (some 84) hHeld ?_
              refine zq 23 (some 85) ?_
              refine zq 24 (some 86) ?_
              refine zq 25 (some 87) ?_
              refine zq 26 (some 88) ?_
              refine zq 27 (some 89) ?_
              refine zq 30 (some 92) ?_
              refine zq 31 (some 93) ?_
              refine zq 32 (some 94) ?_
              refine zu 28 (some 90) hHeld ?_
              refine zu 33 (some 95) hHeld ?_
              refine one_ (i := 29) (N := some 91) (List.toArray (true :: true :: true :: true :: true :: true :: true :: true :: true :: true :: true :: true :: true :: true :: true :: true :: true :: true :: true :: true :: true :: true :: true :: true :: true :: true :: true :: true :: true :: true :: true :: true :: true :: true :: false :: false :: false :: false :: false :: [])) rfl rfl (by kernel_rfl) (by decide) (fun K hK => ?_)
              refine goes_ Try.func18 (by kernel_rfl) rfl #[.pointer (some ⟨p3, 0, none⟩)] (by rfl) rfl rfl (by simp only [List.map_toArray, List.map_cons, List.map_nil]; rfl) ?_
              refine (files_calls _ p3 X3 s2 (HP2.out.below BL0.out) HOK2.out).mono ?_
              rintro e v1 ⟨vv1, rfl, r1, b1⟩
              obtain ⟨A1_, c1_, rfl, hc1, hC1⟩ := Kd.R_reads r1
              refine ⟨_, rfl, ?_⟩
              have HC1 := Aside0.mk hC1
              clear r1 hC1
              have BL1 := Aside0.mk (BL0.out.trans (b1.mono BL0.out.size))
              have hb1 := blk_upd HB1.out (Upd.of_below BL1.out (fun _ => False)) (fun h => h)
              have ux1_0 := blk_cell hb1 0
              have ux1_1 := blk_cell hb1 1
              have fux1_0 := blk_frozen hb1 0
              have fux1_1 := blk_frozen hb1 1
              simp only [List.getElem?_toArray, List.getElem?_cons_succ, List.getElem?_cons_zero] at ux1_0 ux1_1
              have hb2 := blk_upd HB2.out (Upd.of_below BL1.out (fun _ => False)) (fun h => h)
              have uy1_0 := blk_cell hb2 0
              have uy1_1 := blk_cell hb2 1
              have fuy1_0 := blk_frozen hb2 0
              have fuy1_1 := blk_frozen hb2 1
              simp only [List.getElem?_toArray, List.getElem?_cons_succ, List.getElem?_cons_zero] at uy1_0 uy1_1
              clear hb1 hb2 b1
              refine hK.out _ _ ⟨ux1_0, uy1_0, uy1_1⟩ (fun hHeld => ?_)
              clear hK K
              refine norm_ (a' := ?_) ?_ ?_
              rotate_left
              · show Act.put _ (some 91) _ = _
                simp only [Act.put, zla, zlb, zlc, i64_w, i32_w]
                rfl
              refine one_ (i := 34) (N := some 96) (List.toArray (true :: true :: true :: true :: true :: true :: true :: true :: true :: true :: true :: true :: true :: true :: true :: true :: true :: true :: true :: true :: true :: true :: true :: true :: true :: true :: true :: true :: true :: true :: true :: true :: true :: true :: true :: false :: false :: false :: false :: [])) rfl rfl (by kernel_rfl) (by decide) (fun K hK => ?_)
              refine goes_ Try.func19 (by kernel_rfl) rfl #[.pointer (some ⟨p4, 0, none⟩)] (by rfl) rfl rfl (by simp only [List.map_toArray, List.map_cons, List.map_nil]; rfl) ?_
              refine (rfiles_calls _ p4 X4 s2 (HR2.out.below BL1.out) HOK2.out).mono ?_
              rintro e v2 ⟨vv2, rfl, r2, b2⟩
              obtain ⟨A2_, c2_, rfl, hc2, hC2⟩ := Kd.R_reads r2
              refine ⟨_, rfl, ?_⟩
              have HC2 := Aside0.mk hC2
              have HC1x := Aside0.mk (Kd.C_below HC1.out b2)
              clear r2 hC2
              have BL2 := Aside0.mk (BL1.out.trans (b2.mono BL1.out.size))
              have hb1 := blk_upd HB1.out (Upd.of_below BL2.out (fun _ => False)) (fun h => h)
              have ux2_0 := blk_cell hb1 0
              have ux2_1 := blk_cell hb1 1
              have fux2_0 := blk_frozen hb1 0
              have fux2_1 := blk_frozen hb1 1
              simp only [List.getElem?_toArray, List.getElem?_cons_succ, List.getElem?_cons_zero] at ux2_0 ux2_1
              have hb2 := blk_upd HB2.out (Upd.of_below BL2.out (fun _ => False)) (fun h => h)
              have uy2_0 := blk_cell hb2 0
              have uy2_1 := blk_cell hb2 1
              have fuy2_0 := blk_frozen hb2 0
              have fuy2_1 := blk_frozen hb2 1
              simp only [List.getElem?_toArray, List.getElem?_cons_succ, List.getElem?_cons_zero] at uy2_0 uy2_1
              clear hb1 hb2 b2
              refine hK.out _ _ ⟨ux2_0, uy2_0, uy2_1⟩ (fun hHeld => ?_)
              clear hK K
              refine norm_ (a' := ?_) ?_ ?_
              rotate_left
              · show Act.put _ (some 96) _ = _
                simp only [Act.put, zla, zlb, zlc, i64_w, i32_w]
                rfl
              refine last_ (i := 35) (N := some 97) (List.toArray (true :: true :: true :: true :: true :: true :: true :: true :: true :: true :: true :: true :: true :: true :: true :: true :: true :: true :: true :: true :: true :: true :: true :: true :: true :: true :: true :: true :: true :: true :: true :: true :: true :: true :: true :: true :: false :: false :: false :: [])) rfl rfl (by kernel_rfl) (by decide) (fun K hK => ?_)
              refine goes_ Try.func17 (by kernel_rfl) rfl #[.slice A1_ (files67 s2).length c1_, .slice A2_ (files67 s2).length c2_] (by rfl) rfl rfl (by simp only [List.map_toArray, List.map_cons, List.map_nil]; rfl) ?_
              refine (alike_same _ A1_ c1_ (files67 s2) A2_ c2_ HC1x.out hc1 HC2.out hc2 (by rw [files67_len]; have := HOK2.out.few; omega) (files67_small HOK2.out)).mono ?_
              rintro e v3 ⟨rfl, b3⟩
              refine ⟨_, rfl, ?_⟩
              have BL3 := Aside0.mk (BL2.out.trans (b3.mono BL2.out.size))
              have hb1 := blk_upd HB1.out (Upd.of_below BL3.out (fun _ => False)) (fun h => h)
              have ux3_0 := blk_cell hb1 0
              have ux3_1 := blk_cell hb1 1
              have fux3_0 := blk_frozen hb1 0
              have fux3_1 := blk_frozen hb1 1
              simp only [List.getElem?_toArray, List.getElem?_cons_succ, List.getElem?_cons_zero] at ux3_0 ux3_1
              have hb2 := blk_upd HB2.out (Upd.of_below BL3.out (fun _ => False)) (fun h => h)
              have uy3_0 := blk_cell hb2 0
              have uy3_1 := blk_cell hb2 1
              have fuy3_0 := blk_frozen hb2 0
              have fuy3_1 := blk_frozen hb2 1
              simp only [List.getElem?_toArray, List.getElem?_cons_succ, List.getElem?_cons_zero] at uy3_0 uy3_1
              clear hb1 hb2 b3
              refine hK.out _ _ ?_
              clear hK K
              refine norm_ (a' := ?_) ?_ ?_
              rotate_left
              · show Act.put _ (some 97) _ = _
                simp only [Act.put, zla, zlb, zlc, i64_w, i32_w]
                rfl
              refine zq 36 (some 98) ?_
              refine zq 37 (some 99) ?_
              refine zq 38 (some 6) ?_
              refine done_ (by kernel_rfl) ?_
              go_wp2
              go_ret
              have hfin := HBL.out.trans ((BL3.out).mono HBL.out.size)
              first | exact hfin | exact ⟨rfl, hfin⟩ | exact ⟨rfl, by first | rfl | simp, hfin⟩
          | some s1 =>
            cases q2 with
            | none =>
              obtain ⟨p1, p2, X1, X2, hb1, hP1, hR1, _⟩ := h1.1.disks
              have HP1 := Aside0.mk hP1
              have HR1 := Aside0.mk hR1
              have HOK1 := Aside0.mk h1.2
              have HB1 := Aside0.mk hb1
              have m0 := blk_cell hb1 0
              have m1 := blk_cell hb1 1
              have fm0 := blk_frozen hb1 0
              have fm1 := blk_frozen hb1 1
              simp only [List.getElem?_toArray, List.getElem?_cons_succ, List.getElem?_cons_zero] at m0 m1
              have hb2 := h2.1
              have HB2 := Aside0.mk hb2
              have n0 := blk_cell hb2 0
              have n1 := blk_cell hb2 1
              have fn0 := blk_frozen hb2 0
              have fn1 := blk_frozen hb2 1
              simp only [List.getElem?_toArray, List.getElem?_cons_succ, List.getElem?_cons_zero] at n0 n1
              clear hb1 hb2 h1 h2 hP1 hR1
              have BL0 := Aside0.mk (below_drew (Below.refl wr.heap.size wr))
              go_wp2
              refine start_ (n := 39) (S := fun w' => w'.cell? ⟨w.heap.size, 0, none⟩ = some (.pointer (some ⟨p1, 0, none⟩)) ∧ w'.cell? ⟨w.heap.size, 1, none⟩ = some (.pointer (some ⟨p2, 0, none⟩)) ∧ w'.cell? ⟨w.heap.size + 1, 0, none⟩ = some (.pointer none)) (ds := []) (List.toArray (false :: false :: false :: false :: false :: false :: false :: false :: false :: false :: false :: false :: false :: false :: false :: false :: false :: false :: false :: false :: false :: false :: false :: false :: false :: false :: false :: false :: false :: false :: false :: false :: false :: false :: false :: false :: false :: false :: false :: [])) (by kernel_rfl) rfl rfl ⟨m0, m1, n0⟩ (fun hHeld => ?_)
              refine zq 0 (some 62) ?_
              refine zq 1 (some 63) ?_
              refine zq 2 (some 64) ?_
              refine zu 3 (some 65) hHeld ?_
              refine zq 4 (some 66) ?_
              refine zq 5 (some 67) ?_
              refine zq 6 (some 68) ?_
              refine zq 7 (some 69) ?_
              refine zq 8 (some 70) ?_
              refine zq 11 (some 73) ?_
              refine zq 12 (some 74) ?_
              refine zq 13 (some 75) ?_
              refine zu 9 (some 71) hHeld ?_
              refine zu 14 (some 76) hHeld ?_
              refine one_ (i := 10) (N := some 72) (List.toArray (true :: true :: true :: true :: true :: true :: true :: true :: true :: true :: true :: true :: true :: true :: true :: false :: false :: false :: false :: false :: false :: false :: false :: false :: false :: false :: false :: false :: false :: false :: false :: false :: false :: false :: false :: false :: false :: false :: false :: [])) rfl rfl (by kernel_rfl) (by decide) (fun K hK => ?_)
              refine goes_ Try.func18 (by kernel_rfl) rfl #[.pointer (some ⟨p1, 0, none⟩)] (by rfl) rfl rfl (by simp only [List.map_toArray, List.map_cons, List.map_nil]; rfl) ?_
              refine (files_calls _ p1 X1 s1 (HP1.out.below BL0.out) HOK1.out).mono ?_
              rintro e v1 ⟨vv1, rfl, r1, b1⟩
              obtain ⟨A1_, c1_, rfl, hc1, hC1⟩ := Kd.R_reads r1
              refine ⟨_, rfl, ?_⟩
              have HC1 := Aside0.mk hC1
              clear r1 hC1
              have BL1 := Aside0.mk (BL0.out.trans (b1.mono BL0.out.size))
              have hb1 := blk_upd HB1.out (Upd.of_below BL1.out (fun _ => False)) (fun h => h)
              have ux1_0 := blk_cell hb1 0
              have ux1_1 := blk_cell hb1 1
              have fux1_0 := blk_frozen hb1 0
              have fux1_1 := blk_frozen hb1 1
              simp only [List.getElem?_toArray, List.getElem?_cons_succ, List.getElem?_cons_zero] at ux1_0 ux1_1
              have hb2 := blk_upd HB2.out (Upd.of_below BL1.out (fun _ => False)) (fun h => h)
              have uy1_0 := blk_cell hb2 0
              have uy1_1 := blk_cell hb2 1
              have fuy1_0 := blk_frozen hb2 0
              have fuy1_1 := blk_frozen hb2 1
              simp only [List.getElem?_toArray, List.getElem?_cons_succ, List.getElem?_cons_zero] at uy1_0 uy1_1
              clear hb1 hb2 b1
              refine hK.out _ _ ⟨ux1_0, ux1_1, uy1_0⟩ (fun hHeld => ?_)
              clear hK K
              refine norm_ (a' := ?_) ?_ ?_
              rotate_left
              · show Act.put _ (some 72) _ = _
                simp only [Act.put, zla, zlb, zlc, i64_w, i32_w]
                rfl
              refine one_ (i := 15) (N := some 77) (List.toArray (true :: true :: true :: true :: true :: true :: true :: true :: true :: true :: true :: true :: true :: true :: true :: true :: false :: false :: false :: false :: false :: false :: false :: false :: false :: false :: false :: false :: false :: false :: false :: false :: false :: false :: false :: false :: false :: false :: false :: [])) rfl rfl (by kernel_rfl) (by decide) (fun K hK => ?_)
              refine goes_ Try.func19 (by kernel_rfl) rfl #[.pointer (some ⟨p2, 0, none⟩)] (by rfl) rfl rfl (by simp only [List.map_toArray, List.map_cons, List.map_nil]; rfl) ?_
              refine (rfiles_calls _ p2 X2 s1 (HR1.out.below BL1.out) HOK1.out).mono ?_
              rintro e v2 ⟨vv2, rfl, r2, b2⟩
              obtain ⟨A2_, c2_, rfl, hc2, hC2⟩ := Kd.R_reads r2
              refine ⟨_, rfl, ?_⟩
              have HC2 := Aside0.mk hC2
              have HC1x := Aside0.mk (Kd.C_below HC1.out b2)
              clear r2 hC2
              have BL2 := Aside0.mk (BL1.out.trans (b2.mono BL1.out.size))
              have hb1 := blk_upd HB1.out (Upd.of_below BL2.out (fun _ => False)) (fun h => h)
              have ux2_0 := blk_cell hb1 0
              have ux2_1 := blk_cell hb1 1
              have fux2_0 := blk_frozen hb1 0
              have fux2_1 := blk_frozen hb1 1
              simp only [List.getElem?_toArray, List.getElem?_cons_succ, List.getElem?_cons_zero] at ux2_0 ux2_1
              have hb2 := blk_upd HB2.out (Upd.of_below BL2.out (fun _ => False)) (fun h => h)
              have uy2_0 := blk_cell hb2 0
              have uy2_1 := blk_cell hb2 1
              have fuy2_0 := blk_frozen hb2 0
              have fuy2_1 := blk_frozen hb2 1
              simp only [List.getElem?_toArray, List.getElem?_cons_succ, List.getElem?_cons_zero] at uy2_0 uy2_1
              clear hb1 hb2 b2
              refine hK.out _ _ ⟨ux2_0, ux2_1, uy2_0⟩ (fun hHeld => ?_)
              clear hK K
              refine norm_ (a' := ?_) ?_ ?_
              rotate_left
              · show Act.put _ (some 77) _ = _
                simp only [Act.put, zla, zlb, zlc, i64_w, i32_w]
                rfl
              refine one_ (i := 16) (N := some 78) (List.toArray (true :: true :: true :: true :: true :: true :: true :: true :: true :: true :: true :: true :: true :: true :: true :: true :: true :: false :: false :: false :: false :: false :: false :: false :: false :: false :: false :: false :: false :: false :: false :: false :: false :: false :: false :: false :: false :: false :: false :: [])) rfl rfl (by kernel_rfl) (by decide) (fun K hK => ?_)
              refine goes_ Try.func17 (by kernel_rfl) rfl #[.slice A1_ (files67 s1).length c1_, .slice A2_ (files67 s1).length c2_] (by rfl) rfl rfl (by simp only [List.map_toArray, List.map_cons, List.map_nil]; rfl) ?_
              refine (alike_same _ A1_ c1_ (files67 s1) A2_ c2_ HC1x.out hc1 HC2.out hc2 (by rw [files67_len]; have := HOK1.out.few; omega) (files67_small HOK1.out)).mono ?_
              rintro e v3 ⟨rfl, b3⟩
              refine ⟨_, rfl, ?_⟩
              have BL3 := Aside0.mk (BL2.out.trans (b3.mono BL2.out.size))
              have hb1 := blk_upd HB1.out (Upd.of_below BL3.out (fun _ => False)) (fun h => h)
              have ux3_0 := blk_cell hb1 0
              have ux3_1 := blk_cell hb1 1
              have fux3_0 := blk_frozen hb1 0
              have fux3_1 := blk_frozen hb1 1
              simp only [List.getElem?_toArray, List.getElem?_cons_succ, List.getElem?_cons_zero] at ux3_0 ux3_1
              have hb2 := blk_upd HB2.out (Upd.of_below BL3.out (fun _ => False)) (fun h => h)
              have uy3_0 := blk_cell hb2 0
              have uy3_1 := blk_cell hb2 1
              have fuy3_0 := blk_frozen hb2 0
              have fuy3_1 := blk_frozen hb2 1
              simp only [List.getElem?_toArray, List.getElem?_cons_succ, List.getElem?_cons_zero] at uy3_0 uy3_1
              clear hb1 hb2 b3
              refine hK.out _ _ ⟨ux3_0, ux3_1, uy3_0⟩ (fun hHeld => ?_)
              clear hK K
              refine norm_ (a' := ?_) ?_ ?_
              rotate_left
              · show Act.put _ (some 78) _ = _
                simp only [Act.put, zla, zlb, zlc, i64_w, i32_w]
                rfl
              refine zq 17 (some 79) ?_
              refine zq 18 (some 80) ?_
              refine zq 19 (some 81) ?_
              refine zq 20 (some 82) ?_
              refine zq 21 (some 83) ?_
              refine zu 22 (some 84) hHeld ?_
              refine zq 23 (some 85) ?_
              refine zq 24 (some 86) ?_
              refine pure_ (i := 25) (N := some 87) (v := undef) (a' := ?_) (List.toArray (true :: true :: true :: true :: true :: true :: true :: true :: true :: true :: true :: true :: true :: true :: true :: true :: true :: true :: true :: true :: true :: true :: true :: true :: true :: true :: false :: false :: false :: false :: false :: false :: false :: false :: false :: false :: false :: false :: false :: [])) rfl rfl (by kernel_rfl) (fun _ _ _ h => h) (Or.inr ⟨by rfl, rfl⟩) ?_ ?_
              rotate_left
              · simp only [Act.put, zla, zlb, zlc, i64_w, i32_w]
                rfl
              refine pure_ (i := 26) (N := some 88) (v := undef) (a' := ?_) (List.toArray (true :: true :: true :: true :: true :: true :: true :: true :: true :: true :: true :: true :: true :: true :: true :: true :: true :: true :: true :: true :: true :: true :: true :: true :: true :: true :: true :: false :: false :: false :: false :: false :: false :: false :: false :: false :: false :: false :: false :: [])) rfl rfl (by kernel_rfl) (fun _ _ _ h => h) (Or.inr ⟨by rfl, rfl⟩) ?_ ?_
              rotate_left
              · simp only [Act.put, zla, zlb, zlc, i64_w, i32_w]
                rfl
              refine pure_ (i := 27) (N := some 89) (v := undef) (a' := ?_) (List.toArray (true :: true :: true :: true :: true :: true :: true :: true :: true :: true :: true :: true :: true :: true :: true :: true :: true :: true :: true :: true :: true :: true :: true :: true :: true :: true :: true :: true :: false :: false :: false :: false :: false :: false :: false :: false :: false :: false :: false :: [])) rfl rfl (by kernel_rfl) (fun _ _ _ h => h) (Or.inr ⟨by rfl, rfl⟩) ?_ ?_
              rotate_left
              · simp only [Act.put, zla, zlb, zlc, i64_w, i32_w]
                rfl
              refine pure_ (i := 28) (N := some 90) (v := undef) (a' := ?_) (List.toArray (true :: true :: true :: true :: true :: true :: true :: true :: true :: true :: true :: true :: true :: true :: true :: true :: true :: true :: true :: true :: true :: true :: true :: true :: true :: true :: true :: true :: true :: false :: false :: false :: false :: false :: false :: false :: false :: false :: false :: [])) rfl rfl (by kernel_rfl) (fun _ _ _ h => h) (Or.inr ⟨by rfl, rfl⟩) ?_ ?_
              rotate_left
              · simp only [Act.put, zla, zlb, zlc, i64_w, i32_w]
                rfl
              refine pure_ (i := 29) (N := some 91) (v := undef) (a' := ?_) (List.toArray (true :: true :: true :: true :: true :: true :: true :: true :: true :: true :: true :: true :: true :: true :: true :: true :: true :: true :: true :: true :: true :: true :: true :: true :: true :: true :: true :: true :: true :: true :: false :: false :: false :: false :: false :: false :: false :: false :: false :: [])) rfl rfl (by kernel_rfl) (fun _ _ _ h => h) (Or.inr ⟨by rfl, rfl⟩) ?_ ?_
              rotate_left
              · simp only [Act.put, zla, zlb, zlc, i64_w, i32_w]
                rfl
              refine pure_ (i := 30) (N := some 92) (v := undef) (a' := ?_) (List.toArray (true :: true :: true :: true :: true :: true :: true :: true :: true :: true :: true :: true :: true :: true :: true :: true :: true :: true :: true :: true :: true :: true :: true :: true :: true :: true :: true :: true :: true :: true :: true :: false :: false :: false :: false :: false :: false :: false :: false :: [])) rfl rfl (by kernel_rfl) (fun _ _ _ h => h) (Or.inr ⟨by rfl, rfl⟩) ?_ ?_
              rotate_left
              · simp only [Act.put, zla, zlb, zlc, i64_w, i32_w]
                rfl
              refine pure_ (i := 31) (N := some 93) (v := undef) (a' := ?_) (List.toArray (true :: true :: true :: true :: true :: true :: true :: true :: true :: true :: true :: true :: true :: true :: true :: true :: true :: true :: true :: true :: true :: true :: true :: true :: true :: true :: true :: true :: true :: true :: true :: true :: false :: false :: false :: false :: false :: false :: false :: [])) rfl rfl (by kernel_rfl) (fun _ _ _ h => h) (Or.inr ⟨by rfl, rfl⟩) ?_ ?_
              rotate_left
              · simp only [Act.put, zla, zlb, zlc, i64_w, i32_w]
                rfl
              refine pure_ (i := 32) (N := some 94) (v := undef) (a' := ?_) (List.toArray (true :: true :: true :: true :: true :: true :: true :: true :: true :: true :: true :: true :: true :: true :: true :: true :: true :: true :: true :: true :: true :: true :: true :: true :: true :: true :: true :: true :: true :: true :: true :: true :: true :: false :: false :: false :: false :: false :: false :: [])) rfl rfl (by kernel_rfl) (fun _ _ _ h => h) (Or.inr ⟨by rfl, rfl⟩) ?_ ?_
              rotate_left
              · simp only [Act.put, zla, zlb, zlc, i64_w, i32_w]
                rfl
              refine pure_ (i := 33) (N := some 95) (v := undef) (a' := ?_) (List.toArray (true :: true :: true :: true :: true :: true :: true :: true :: true :: true :: true :: true :: true :: true :: true :: true :: true :: true :: true :: true :: true :: true :: true :: true :: true :: true :: true :: true :: true :: true :: true :: true :: true :: true :: false :: false :: false :: false :: false :: [])) rfl rfl (by kernel_rfl) (fun _ _ _ h => h) (Or.inr ⟨by rfl, rfl⟩) ?_ ?_
              rotate_left
              · simp only [Act.put, zla, zlb, zlc, i64_w, i32_w]
                rfl
              refine pure_ (i := 34) (N := some 96) (v := undef) (a' := ?_) (List.toArray (true :: true :: true :: true :: true :: true :: true :: true :: true :: true :: true :: true :: true :: true :: true :: true :: true :: true :: true :: true :: true :: true :: true :: true :: true :: true :: true :: true :: true :: true :: true :: true :: true :: true :: true :: false :: false :: false :: false :: [])) rfl rfl (by kernel_rfl) (fun _ _ _ h => h) (Or.inr ⟨by rfl, rfl⟩) ?_ ?_
              rotate_left
              · simp only [Act.put, zla, zlb, zlc, i64_w, i32_w]
                rfl
              refine pure_ (i := 35) (N := some 97) (v := undef) (a' := ?_) (List.toArray (true :: true :: true :: true :: true :: true :: true :: true :: true :: true :: true :: true :: true :: true :: true :: true :: true :: true :: true :: true :: true :: true :: true :: true :: true :: true :: true :: true :: true :: true :: true :: true :: true :: true :: true :: true :: false :: false :: false :: [])) rfl rfl (by kernel_rfl) (fun _ _ _ h => h) (Or.inr ⟨by rfl, rfl⟩) ?_ ?_
              rotate_left
              · simp only [Act.put, zla, zlb, zlc, i64_w, i32_w]
                rfl
              refine zq 36 (some 98) ?_
              refine zq 37 (some 99) ?_
              refine zq 38 (some 6) ?_
              refine done_ (by kernel_rfl) ?_
              go_wp2
              go_ret
              have hfin := HBL.out.trans ((BL3.out).mono HBL.out.size)
              first | exact hfin | exact ⟨rfl, hfin⟩ | exact ⟨rfl, by first | rfl | simp, hfin⟩
            | some s2 =>
              obtain ⟨p1, p2, X1, X2, hb1, hP1, hR1, _⟩ := h1.1.disks
              have HP1 := Aside0.mk hP1
              have HR1 := Aside0.mk hR1
              have HOK1 := Aside0.mk h1.2
              have HB1 := Aside0.mk hb1
              have m0 := blk_cell hb1 0
              have m1 := blk_cell hb1 1
              have fm0 := blk_frozen hb1 0
              have fm1 := blk_frozen hb1 1
              simp only [List.getElem?_toArray, List.getElem?_cons_succ, List.getElem?_cons_zero] at m0 m1
              obtain ⟨p3, p4, X3, X4, hb2, hP2, hR2, _⟩ := h2.1.disks
              have HP2 := Aside0.mk hP2
              have HR2 := Aside0.mk hR2
              have HOK2 := Aside0.mk h2.2
              have HB2 := Aside0.mk hb2
              have n0 := blk_cell hb2 0
              have n1 := blk_cell hb2 1
              have fn0 := blk_frozen hb2 0
              have fn1 := blk_frozen hb2 1
              simp only [List.getElem?_toArray, List.getElem?_cons_succ, List.getElem?_cons_zero] at n0 n1
              clear hb1 hb2 h1 h2 hP1 hR1 hP2 hR2
              have BL0 := Aside0.mk (below_drew (Below.refl wr.heap.size wr))
              go_wp2
              refine start_ (n := 39) (S := fun w' => w'.cell? ⟨w.heap.size, 0, none⟩ = some (.pointer (some ⟨p1, 0, none⟩)) ∧ w'.cell? ⟨w.heap.size, 1, none⟩ = some (.pointer (some ⟨p2, 0, none⟩)) ∧ w'.cell? ⟨w.heap.size + 1, 0, none⟩ = some (.pointer (some ⟨p3, 0, none⟩)) ∧ w'.cell? ⟨w.heap.size + 1, 1, none⟩ = some (.pointer (some ⟨p4, 0, none⟩))) (ds := [35]) (List.toArray (false :: false :: false :: false :: false :: false :: false :: false :: false :: false :: false :: false :: false :: false :: false :: false :: false :: false :: false :: false :: false :: false :: false :: false :: false :: false :: false :: false :: false :: false :: false :: false :: false :: false :: false :: false :: false :: false :: false :: [])) (by kernel_rfl) rfl rfl ⟨m0, m1, n0, n1⟩ (fun hHeld => ?_)
              refine zq 0 (some 62) ?_
              refine zq 1 (some 63) ?_
              refine zq 2 (some 64) ?_
              refine zu 3 (some 65) hHeld ?_
              refine zq 4 (some 66) ?_
              refine zq 5 (some 67) ?_
              refine zq 6 (some 68) ?_
              refine zq 7 (some 69) ?_
              refine zq 8 (some 70) ?_
              refine zq 11 (some 73) ?_
              refine zq 12 (some 74) ?_
              refine zq 13 (some 75) ?_
              refine zu 9 (some 71) hHeld ?_
              refine zu 14 (some 76) hHeld ?_
              refine one_ (i := 10) (N := some 72) (List.toArray (true :: true :: true :: true :: true :: true :: true :: true :: true :: true :: true :: true :: true :: true :: true :: false :: false :: false :: false :: false :: false :: false :: false :: false :: false :: false :: false :: false :: false :: false :: false :: false :: false :: false :: false :: false :: false :: false :: false :: [])) rfl rfl (by kernel_rfl) (by decide) (fun K hK => ?_)
              refine goes_ Try.func18 (by kernel_rfl) rfl #[.pointer (some ⟨p1, 0, none⟩)] (by rfl) rfl rfl (by simp only [List.map_toArray, List.map_cons, List.map_nil]; rfl) ?_
              refine (files_calls _ p1 X1 s1 (HP1.out.below BL0.out) HOK1.out).mono ?_
              rintro e v1 ⟨vv1, rfl, r1, b1⟩
              obtain ⟨A1_, c1_, rfl, hc1, hC1⟩ := Kd.R_reads r1
              refine ⟨_, rfl, ?_⟩
              have HC1 := Aside0.mk hC1
              clear r1 hC1
              have BL1 := Aside0.mk (BL0.out.trans (b1.mono BL0.out.size))
              have hb1 := blk_upd HB1.out (Upd.of_below BL1.out (fun _ => False)) (fun h => h)
              have ux1_0 := blk_cell hb1 0
              have ux1_1 := blk_cell hb1 1
              have fux1_0 := blk_frozen hb1 0
              have fux1_1 := blk_frozen hb1 1
              simp only [List.getElem?_toArray, List.getElem?_cons_succ, List.getElem?_cons_zero] at ux1_0 ux1_1
              have hb2 := blk_upd HB2.out (Upd.of_below BL1.out (fun _ => False)) (fun h => h)
              have uy1_0 := blk_cell hb2 0
              have uy1_1 := blk_cell hb2 1
              have fuy1_0 := blk_frozen hb2 0
              have fuy1_1 := blk_frozen hb2 1
              simp only [List.getElem?_toArray, List.getElem?_cons_succ, List.getElem?_cons_zero] at uy1_0 uy1_1
              clear hb1 hb2 b1
              refine hK.out _ _ ⟨ux1_0, ux1_1, uy1_0, uy1_1⟩ (fun hHeld => ?_)
              clear hK K
              refine norm_ (a' := ?_) ?_ ?_
              rotate_left
              · show Act.put _ (some 72) _ = _
                simp only [Act.put, zla, zlb, zlc, i64_w, i32_w]
                rfl
              refine one_ (i := 15) (N := some 77) (List.toArray (true :: true :: true :: true :: true :: true :: true :: true :: true :: true :: true :: true :: true :: true :: true :: true :: false :: false :: false :: false :: false :: false :: false :: false :: false :: false :: false :: false :: false :: false :: false :: false :: false :: false :: false :: false :: false :: false :: false :: [])) rfl rfl (by kernel_rfl) (by decide) (fun K hK => ?_)
              refine goes_ Try.func19 (by kernel_rfl) rfl #[.pointer (some ⟨p2, 0, none⟩)] (by rfl) rfl rfl (by simp only [List.map_toArray, List.map_cons, List.map_nil]; rfl) ?_
              refine (rfiles_calls _ p2 X2 s1 (HR1.out.below BL1.out) HOK1.out).mono ?_
              rintro e v2 ⟨vv2, rfl, r2, b2⟩
              obtain ⟨A2_, c2_, rfl, hc2, hC2⟩ := Kd.R_reads r2
              refine ⟨_, rfl, ?_⟩
              have HC2 := Aside0.mk hC2
              have HC1x := Aside0.mk (Kd.C_below HC1.out b2)
              clear r2 hC2
              have BL2 := Aside0.mk (BL1.out.trans (b2.mono BL1.out.size))
              have hb1 := blk_upd HB1.out (Upd.of_below BL2.out (fun _ => False)) (fun h => h)
              have ux2_0 := blk_cell hb1 0
              have ux2_1 := blk_cell hb1 1
              have fux2_0 := blk_frozen hb1 0
              have fux2_1 := blk_frozen hb1 1
              simp only [List.getElem?_toArray, List.getElem?_cons_succ, List.getElem?_cons_zero] at ux2_0 ux2_1
              have hb2 := blk_upd HB2.out (Upd.of_below BL2.out (fun _ => False)) (fun h => h)
              have uy2_0 := blk_cell hb2 0
              have uy2_1 := blk_cell hb2 1
              have fuy2_0 := blk_frozen hb2 0
              have fuy2_1 := blk_frozen hb2 1
              simp only [List.getElem?_toArray, List.getElem?_cons_succ, List.getElem?_cons_zero] at uy2_0 uy2_1
              clear hb1 hb2 b2
              refine hK.out _ _ ⟨ux2_0, ux2_1, uy2_0, uy2_1⟩ (fun hHeld => ?_)
              clear hK K
              refine norm_ (a' := ?_) ?_ ?_
              rotate_left
              · show Act.put _ (some 77) _ = _
                simp only [Act.put, zla, zlb, zlc, i64_w, i32_w]
                rfl
              refine one_ (i := 16) (N := some 78) (List.toArray (true :: true :: true :: true :: true :: true :: true :: true :: true :: true :: true :: true :: true :: true :: true :: true :: true :: false :: false :: false :: false :: false :: false :: false :: false :: false :: false :: false :: false :: false :: false :: false :: false :: false :: false :: false :: false :: false :: false :: [])) rfl rfl (by kernel_rfl) (by decide) (fun K hK => ?_)
              refine goes_ Try.func17 (by kernel_rfl) rfl #[.slice A1_ (files67 s1).length c1_, .slice A2_ (files67 s1).length c2_] (by rfl) rfl rfl (by simp only [List.map_toArray, List.map_cons, List.map_nil]; rfl) ?_
              refine (alike_same _ A1_ c1_ (files67 s1) A2_ c2_ HC1x.out hc1 HC2.out hc2 (by rw [files67_len]; have := HOK1.out.few; omega) (files67_small HOK1.out)).mono ?_
              rintro e v3 ⟨rfl, b3⟩
              refine ⟨_, rfl, ?_⟩
              have BL3 := Aside0.mk (BL2.out.trans (b3.mono BL2.out.size))
              have hb1 := blk_upd HB1.out (Upd.of_below BL3.out (fun _ => False)) (fun h => h)
              have ux3_0 := blk_cell hb1 0
              have ux3_1 := blk_cell hb1 1
              have fux3_0 := blk_frozen hb1 0
              have fux3_1 := blk_frozen hb1 1
              simp only [List.getElem?_toArray, List.getElem?_cons_succ, List.getElem?_cons_zero] at ux3_0 ux3_1
              have hb2 := blk_upd HB2.out (Upd.of_below BL3.out (fun _ => False)) (fun h => h)
              have uy3_0 := blk_cell hb2 0
              have uy3_1 := blk_cell hb2 1
              have fuy3_0 := blk_frozen hb2 0
              have fuy3_1 := blk_frozen hb2 1
              simp only [List.getElem?_toArray, List.getElem?_cons_succ, List.getElem?_cons_zero] at uy3_0 uy3_1
              clear hb1 hb2 b3
              refine hK.out _ _ ⟨ux3_0, ux3_1, uy3_0, uy3_1⟩ (fun hHeld => ?_)
              clear hK K
              refine norm_ (a' := ?_) ?_ ?_
              rotate_left
              · show Act.put _ (some 78) _ = _
                simp only [Act.put, zla, zlb, zlc, i64_w, i32_w]
                rfl
              refine zq 17 (some 79) ?_
              refine zq 18 (some 80) ?_
              refine zq 19 (some 81) ?_
              refine zq 20 (some 82) ?_
              refine zq 21 (some 83) ?_
              refine zu 22 (some 84) hHeld ?_
              refine zq 23 (some 85) ?_
              refine zq 24 (some 86) ?_
              refine zq 25 (some 87) ?_
              refine zq 26 (some 88) ?_
              refine zq 27 (some 89) ?_
              refine zq 30 (some 92) ?_
              refine zq 31 (some 93) ?_
              refine zq 32 (some 94) ?_
              refine zu 28 (some 90) hHeld ?_
              refine zu 33 (some 95) hHeld ?_
              refine one_ (i := 29) (N := some 91) (List.toArray (true :: true :: true :: true :: true :: true :: true :: true :: true :: true :: true :: true :: true :: true :: true :: true :: true :: true :: true :: true :: true :: true :: true :: true :: true :: true :: true :: true :: true :: true :: true :: true :: true :: true :: false :: false :: false :: false :: false :: [])) rfl rfl (by kernel_rfl) (by decide) (fun K hK => ?_)
              refine goes_ Try.func18 (by kernel_rfl) rfl #[.pointer (some ⟨p3, 0, none⟩)] (by rfl) rfl rfl (by simp only [List.map_toArray, List.map_cons, List.map_nil]; rfl) ?_
              refine (files_calls _ p3 X3 s2 (HP2.out.below BL3.out) HOK2.out).mono ?_
              rintro e v4 ⟨vv4, rfl, r4, b4⟩
              obtain ⟨A4_, c4_, rfl, hc4, hC4⟩ := Kd.R_reads r4
              refine ⟨_, rfl, ?_⟩
              have HC4 := Aside0.mk hC4
              clear r4 hC4
              have BL4 := Aside0.mk (BL3.out.trans (b4.mono BL3.out.size))
              have hb1 := blk_upd HB1.out (Upd.of_below BL4.out (fun _ => False)) (fun h => h)
              have ux4_0 := blk_cell hb1 0
              have ux4_1 := blk_cell hb1 1
              have fux4_0 := blk_frozen hb1 0
              have fux4_1 := blk_frozen hb1 1
              simp only [List.getElem?_toArray, List.getElem?_cons_succ, List.getElem?_cons_zero] at ux4_0 ux4_1
              have hb2 := blk_upd HB2.out (Upd.of_below BL4.out (fun _ => False)) (fun h => h)
              have uy4_0 := blk_cell hb2 0
              have uy4_1 := blk_cell hb2 1
              have fuy4_0 := blk_frozen hb2 0
              have fuy4_1 := blk_frozen hb2 1
              simp only [List.getElem?_toArray, List.getElem?_cons_succ, List.getElem?_cons_zero] at uy4_0 uy4_1
              clear hb1 hb2 b4
              refine hK.out _ _ ⟨ux4_0, ux4_1, uy4_0, uy4_1⟩ (fun hHeld => ?_)
              clear hK K
              refine norm_ (a' := ?_) ?_ ?_
              rotate_left
              · show Act.put _ (some 91) _ = _
                simp only [Act.put, zla, zlb, zlc, i64_w, i32_w]
                rfl
              refine one_ (i := 34) (N := some 96) (List.toArray (true :: true :: true :: true :: true :: true :: true :: true :: true :: true :: true :: true :: true :: true :: true :: true :: true :: true :: true :: true :: true :: true :: true :: true :: true :: true :: true :: true :: true :: true :: true :: true :: true :: true :: true :: false :: false :: false :: false :: [])) rfl rfl (by kernel_rfl) (by decide) (fun K hK => ?_)
              refine goes_ Try.func19 (by kernel_rfl) rfl #[.pointer (some ⟨p4, 0, none⟩)] (by rfl) rfl rfl (by simp only [List.map_toArray, List.map_cons, List.map_nil]; rfl) ?_
              refine (rfiles_calls _ p4 X4 s2 (HR2.out.below BL4.out) HOK2.out).mono ?_
              rintro e v5 ⟨vv5, rfl, r5, b5⟩
              obtain ⟨A5_, c5_, rfl, hc5, hC5⟩ := Kd.R_reads r5
              refine ⟨_, rfl, ?_⟩
              have HC5 := Aside0.mk hC5
              have HC4x := Aside0.mk (Kd.C_below HC4.out b5)
              clear r5 hC5
              have BL5 := Aside0.mk (BL4.out.trans (b5.mono BL4.out.size))
              have hb1 := blk_upd HB1.out (Upd.of_below BL5.out (fun _ => False)) (fun h => h)
              have ux5_0 := blk_cell hb1 0
              have ux5_1 := blk_cell hb1 1
              have fux5_0 := blk_frozen hb1 0
              have fux5_1 := blk_frozen hb1 1
              simp only [List.getElem?_toArray, List.getElem?_cons_succ, List.getElem?_cons_zero] at ux5_0 ux5_1
              have hb2 := blk_upd HB2.out (Upd.of_below BL5.out (fun _ => False)) (fun h => h)
              have uy5_0 := blk_cell hb2 0
              have uy5_1 := blk_cell hb2 1
              have fuy5_0 := blk_frozen hb2 0
              have fuy5_1 := blk_frozen hb2 1
              simp only [List.getElem?_toArray, List.getElem?_cons_succ, List.getElem?_cons_zero] at uy5_0 uy5_1
              clear hb1 hb2 b5
              refine hK.out _ _ ⟨ux5_0, ux5_1, uy5_0, uy5_1⟩ (fun hHeld => ?_)
              clear hK K
              refine norm_ (a' := ?_) ?_ ?_
              rotate_left
              · show Act.put _ (some 96) _ = _
                simp only [Act.put, zla, zlb, zlc, i64_w, i32_w]
                rfl
              refine last_ (i := 35) (N := some 97) (List.toArray (true :: true :: true :: true :: true :: true :: true :: true :: true :: true :: true :: true :: true :: true :: true :: true :: true :: true :: true :: true :: true :: true :: true :: true :: true :: true :: true :: true :: true :: true :: true :: true :: true :: true :: true :: true :: false :: false :: false :: [])) rfl rfl (by kernel_rfl) (by decide) (fun K hK => ?_)
              refine goes_ Try.func17 (by kernel_rfl) rfl #[.slice A4_ (files67 s2).length c4_, .slice A5_ (files67 s2).length c5_] (by rfl) rfl rfl (by simp only [List.map_toArray, List.map_cons, List.map_nil]; rfl) ?_
              refine (alike_same _ A4_ c4_ (files67 s2) A5_ c5_ HC4x.out hc4 HC5.out hc5 (by rw [files67_len]; have := HOK2.out.few; omega) (files67_small HOK2.out)).mono ?_
              rintro e v6 ⟨rfl, b6⟩
              refine ⟨_, rfl, ?_⟩
              have BL6 := Aside0.mk (BL5.out.trans (b6.mono BL5.out.size))
              have hb1 := blk_upd HB1.out (Upd.of_below BL6.out (fun _ => False)) (fun h => h)
              have ux6_0 := blk_cell hb1 0
              have ux6_1 := blk_cell hb1 1
              have fux6_0 := blk_frozen hb1 0
              have fux6_1 := blk_frozen hb1 1
              simp only [List.getElem?_toArray, List.getElem?_cons_succ, List.getElem?_cons_zero] at ux6_0 ux6_1
              have hb2 := blk_upd HB2.out (Upd.of_below BL6.out (fun _ => False)) (fun h => h)
              have uy6_0 := blk_cell hb2 0
              have uy6_1 := blk_cell hb2 1
              have fuy6_0 := blk_frozen hb2 0
              have fuy6_1 := blk_frozen hb2 1
              simp only [List.getElem?_toArray, List.getElem?_cons_succ, List.getElem?_cons_zero] at uy6_0 uy6_1
              clear hb1 hb2 b6
              refine hK.out _ _ ?_
              clear hK K
              refine norm_ (a' := ?_) ?_ ?_
              rotate_left
              · show Act.put _ (some 97) _ = _
                simp only [Act.put, zla, zlb, zlc, i64_w, i32_w]
                rfl
              refine zq 36 (some 98) ?_
              refine zq 37 (some 99) ?_
              refine zq 38 (some 6) ?_
              refine done_ (by kernel_rfl) ?_
              go_wp2
              go_ret
              have hfin := HBL.out.trans ((BL6.out).mono HBL.out.size)
              first | exact hfin | exact ⟨rfl, hfin⟩ | exact ⟨rfl, by first | rfl | simp, hfin⟩
end Go.Proofs.Ytfholpajdkjbbaa.DK
