/- DiskFails: just the told calls fail, and change nothing; conditions: those in each theorem. -/
import Derived.Test.YtfholpajdkjbbaaQdLw
import Derived.Test.YtfholpajdkjbbaaQdOd
namespace Go.Proofs.Ytfholpajdkjbbaa.DK
open Go.Proofs.Ytfholpajdkjbbaa.PD
open Go.RowKit Go.Proofs.YtfholpajdkjbbaaW.PrintWords Go.Proofs.YtfholpajdkjbbaaW.PrintLast Go.Proofs.YtfholpajdkjbbaaW.PrintMore Go.Proofs.Ytfholpajdkjbbaa.Mo
set_option linter.unusedVariables false
set_option linter.unusedSimpArgs false
theorem namedL_calls (nm : ByteArray) (b : Bool) (hn : isName nm = b) (w : World) : Calls Try.prog 35 #[.string nm] w fun e w' => e = .returned (.bool b) ∧ Drawn0 w w' := by
  obtain ⟨k, hk⟩ := Ev.rounds (namedL_f nm)
  rw [hn] at hk
  exact PD.eddylaw10_named.calls k nm b w hk
theorem files_same {s t : St} (h : s.all = t.all) : files67 s = files67 t := by
  unfold files67 St.files
  rw [h]
def FailsE (w : World) (p1 p2 : Nat) (A N : Int) (n : Nat) (dv iv : Value) (wr : World) : Prop := ∃ (i k : Nat) (t : St), iv = .int .i64 i ∧ dv = .int .i64 k ∧ i ≤ n ∧ k ≤ i ∧ NoRig t ∧ Duo w wr p1 p2 (t.withR (rig A N k)) t
theorem fail_duo {w0 w : World} {p1 p2 : Nat} {s1 s2 : St} (h : Duo w0 w p1 p2 s1 s2) (a n : Int) (ha : a ≤ 9223372036854775807) (hn : n ≤ 9223372036854775807) : Calls Try.prog 34 #[.pointer (some ⟨p1, 0, none⟩), .int .i64 a, .int .i64 n] w fun e w' => e = .returned (.tuple #[]) ∧ Duo w0 w' p1 p2 (s1.fail a n) s2 := by
  obtain ⟨hb, X1, hP, ok, hX, hn'⟩ := h.open_
  refine (fail_calls w p1 X1 s1 a n hP).mono ?_
  rintro e w' ⟨rfl, hs⟩
  exact ⟨rfl, hn' _ _ hs (ok.fail a n ha hn)⟩
set_option maxHeartbeats 32000000 in
set_option maxRecDepth 100000 in
theorem fails_calls (w : World) (A : Option Addr) (c : Nat) (l : List S67) (hr : k67.C w A l.length l) (hc : l.length ≤ c) (hl : l.length ≤ 1048576) (hb : bulkF l ≤ 1048576) (hd : ∀ x ∈ l, -9223372036854775808 ≤ x.f2 ∧ x.f2 ≤ 9223372036854775807)
    (af : Int) (haf : -9223372036854775808 ≤ af ∧ af ≤ 9223372036854775807) (nn : Int) (hnn : -9223372036854775808 ≤ nn ∧ nn ≤ 9223372036854775807)
    (A1 : Option Addr) (c1 : Nat) (ops : List S41) (hr1 : k41.C w A1 ops.length ops) (hc1 : ops.length ≤ c1) (hl1 : ops.length ≤ 1048576) (hb1 : bulkO ops ≤ 1048576) (hg : ∀ o ∈ ops, GoodK o) :
    Calls Try.prog 12 #[.slice A l.length c, .int .i64 af, .int .i64 nn, .slice A1 ops.length c1] w fun e w' => e = .returned (.bool true) ∧ Below w.heap.size w w' := by
  have HF := Aside0.mk (fits_calls w A c l A1 c1 ops hr hc hr1 hc1 (by omega) (by omega) (by omega))
  have HR := Aside0.mk hr
  have HR1 := Aside0.mk hr1
  have HGD := Aside0.mk hg
  have HD := Aside0.mk (show ∀ x ∈ l, x.f1.length ≤ 2 ^ 40 ∧ -9223372036854775808 ≤ x.f2 ∧ x.f2 ≤ 9223372036854775807 from fun x hx => ⟨by have := bulkF_mem hx; omega, hd x hx⟩)
  obtain ⟨haf0, haf1⟩ := haf
  obtain ⟨hnn0, hnn1⟩ := hnn
  clear hr hr1 hg hd hb hb1
  cases hfit : fitsB l ops with
  | false =>
    rw [hfit] at HF
    clear hfit
    go_enter Try.func12, Try.ntmps12
    go_wp2_with fail
    refine HF.out.mono ?_
    rintro e w1 ⟨rfl, ⟨⟨nd, rfl⟩⟩⟩
    go_wp2
    go_ret
    exact ⟨rfl, pw_below_drewN (Below.refl _ _) _⟩
  | true =>
    rw [hfit] at HF
    clear hfit
    by_cases h300 : 300 < l.length
    · go_enter Try.func12, Try.ntmps12
      go_wp2_with fail
      refine HF.out.mono ?_
      rintro e w1 ⟨rfl, ⟨⟨nd, rfl⟩⟩⟩
      go_wp2
      go_ret
      exact ⟨rfl, pw_below_drewN (Below.refl _ _) _⟩
    · skip
      cases hsn : St.new (l.map of67) with
      | none =>
        have HSN := Aside0.mk hsn
        clear hsn
        go_enter Try.func12, Try.ntmps12
        go_wp2_with fail
        refine HF.out.mono ?_
        rintro e w1 ⟨rfl, ⟨⟨nd, rfl⟩⟩⟩
        go_wp2_with fail
        refine (new0_calls _).mono ?_
        rintro e w2 ⟨p, rfl, hP, hB⟩
        have HB2 := Aside0.mk ((show Below w.heap.size w _ by repeat (with_reducible first | exact Below.refl _ _ | apply below_drew | apply pw_below_drewN)).trans hB)
        have HPR := Aside0.mk hP
        have HX0 := Aside0.mk (show ∀ k, From (w.drewN nd).heap.size w2 k → w.heap.size ≤ k from fun k hk => hk.1)
        clear hP hB
        go_wp2_with fail
        refine (num_calls _ _).mono ?_
        rintro e w3 ⟨rfl, ⟨⟨nd3, rfl⟩⟩⟩
        go_wp2_with fail
        refine (works_calls _ p _ (HPR.out.below (pw_below_drewN (Below.refl _ _) nd3))).mono ?_
        rintro e w4 ⟨rfl, hs⟩
        have HB4 := Aside0.mk ((HB2.out.trans ((pw_below_drewN (Below.refl _ _) nd3).mono HB2.out.size)).trans (hs.2.below HB2.out.size HX0.out))
        clear hs HPR
        go_wp2_with fail
        refine (copyFiles_calls w4 A c l (Kd.C_below HR.out HB4.out) hc (by omega) (fun x hx => (HD.out x hx).1)).mono ?_
        rintro e w5 ⟨A5, c5, rfl, hc5, hC5, b5⟩
        have HN5 := Aside0.mk (new_calls w5 A5 c5 l hC5 hc5 HD.out)
        have HB5 := Aside0.mk (HB4.out.trans (b5.mono HB4.out.size))
        rw [HSN.out] at HN5
        unfold NewPost at HN5
        clear hC5 b5 hc5
        go_wp2_with fail
        refine HN5.out.mono ?_
        rintro e w6 ⟨rfl, b6⟩
        have HB6 := Aside0.mk (HB5.out.trans (b6.mono HB5.out.size))
        clear b6
        go_wp2_with fail
        refine (num_calls _ _).mono ?_
        rintro e w7 ⟨rfl, ⟨⟨nd7, rfl⟩⟩⟩
        go_wp2_with fail
        refine (num_calls _ _).mono ?_
        rintro e w8 ⟨rfl, ⟨⟨nd8, rfl⟩⟩⟩
        go_wp2
        go_ret
        exact ⟨rfl, by repeat (with_reducible first | exact HB6.out | apply below_drew | apply pw_below_drewN)⟩
      | some st =>
        have HSN := Aside0.mk hsn
        have HOK := Aside0.mk (new_ok hsn)
        have HNR := Aside0.mk (new_norig hsn)
        clear hsn
        go_enter Try.func12, Try.ntmps12
        go_wp2_with fail
        refine HF.out.mono ?_
        rintro e w1 ⟨rfl, ⟨⟨nd, rfl⟩⟩⟩
        go_wp2_with fail
        refine (new0_calls _).mono ?_
        rintro e w2 ⟨p, rfl, hP, hB⟩
        have HB2 := Aside0.mk ((show Below w.heap.size w _ by repeat (with_reducible first | exact Below.refl _ _ | apply below_drew | apply pw_below_drewN)).trans hB)
        have HPR := Aside0.mk hP
        have HX0 := Aside0.mk (show ∀ k, From (w.drewN nd).heap.size w2 k → w.heap.size ≤ k from fun k hk => hk.1)
        clear hP hB
        go_wp2_with fail
        refine (num_calls _ _).mono ?_
        rintro e w3 ⟨rfl, ⟨⟨nd3, rfl⟩⟩⟩
        go_wp2_with fail
        refine (works_calls _ p _ (HPR.out.below (pw_below_drewN (Below.refl _ _) nd3))).mono ?_
        rintro e w4 ⟨rfl, hs⟩
        have HB4 := Aside0.mk ((HB2.out.trans ((pw_below_drewN (Below.refl _ _) nd3).mono HB2.out.size)).trans (hs.2.below HB2.out.size HX0.out))
        clear hs HPR
        go_wp2_with fail
        refine (copyFiles_calls w4 A c l (Kd.C_below HR.out HB4.out) hc (by omega) (fun x hx => (HD.out x hx).1)).mono ?_
        rintro e w5 ⟨A5, c5, rfl, hc5, hC5, b5⟩
        have HN5 := Aside0.mk (new_calls w5 A5 c5 l hC5 hc5 HD.out)
        have HB5 := Aside0.mk (HB4.out.trans (b5.mono HB4.out.size))
        rw [HSN.out] at HN5
        unfold NewPost at HN5
        clear hC5 b5 hc5
        go_wp2_with fail
        refine HN5.out.mono ?_
        rintro e w6 ⟨p1, rfl, hP6, b6⟩
        have HP6 := Aside0.mk hP6
        have HB6 := Aside0.mk (HB5.out.trans (b6.mono HB5.out.size))
        clear b6 hP6
        go_wp2_with fail
        refine (num_calls _ _).mono ?_
        rintro e w7 ⟨rfl, ⟨⟨nd7, rfl⟩⟩⟩
        have hb7 := HB6.out.trans ((pw_below_drewN (Below.refl _ _) nd7).mono HB6.out.size)
        have HC7 := Aside0.mk (copyFiles_calls (w6.drewN nd7) A c l (Kd.C_below HR.out hb7) hc (by omega) (fun x hx => (HD.out x hx).1))
        clear hb7
        go_wp2_with fail
        refine HC7.out.mono ?_
        rintro e w8 ⟨A8, c8, rfl, hc8, hC8, b8⟩
        have b8' : Below w6.heap.size w6 w8 := (pw_below_drewN (Below.refl w6.heap.size w6) nd7).trans b8
        have HN8 := Aside0.mk (new_calls w8 A8 c8 l hC8 hc8 HD.out)
        have HB8 := Aside0.mk b8'
        rw [HSN.out] at HN8
        unfold NewPost at HN8
        clear hC8 b8 b8' hc8
        go_wp2_with fail
        refine HN8.out.mono ?_
        rintro e w9 ⟨p2, rfl, hP9, b9⟩
        have HDU := Aside0.mk (show Duo w w9 p1 p2 st st from ⟨HB6.out.trans ((HB8.out.trans (b9.mono HB8.out.size)).mono HB6.out.size), _, _, HP6.out.below (HB8.out.trans (b9.mono HB8.out.size)), hP9, HOK.out, HOK.out, fun k h1 h2 => absurd (Nat.lt_of_lt_of_le (HP6.out.bd k h1) HB8.out.size) (Nat.not_lt.2 h2.1), fun k hk => hk.elim (fun h => Nat.le_trans HB5.out.size h.1) (fun h => Nat.le_trans HB6.out.size (Nat.le_trans HB8.out.size h.1))⟩)
        clear hP9 b9 HP6 HB8 HC7 HN8 HN5
        go_wp2_with fail
        refine (num_calls _ _).mono ?_
        rintro e w10 ⟨rfl, ⟨⟨nd10, rfl⟩⟩⟩
        go_wp2_with fail
        refine (fail_duo (HDU.out.below (pw_below_drewN (Below.refl _ _) nd10)) af nn haf1 hnn1).mono ?_
        rintro e w11 ⟨rfl, hd⟩
        rw [fail_rig HNR.out] at hd
        by_cases ha0 : af < 0
        · rw [if_neg (by omega)] at hd
          have HA0 := Aside0.mk (Int.le_refl (0 : Int))
          have HN0 := Aside0.mk (Int.le_refl (0 : Int))
          have HNA := Aside0.mk (fun h : (0 : Int) = 0 => h)
          have HDL := Aside0.mk hd
          clear hd HDU
          go_wp2
          go_loopw [15, 16] (fun dv iv wr => FailsE w p1 p2 0 0 ops.length dv iv wr) (fun _ iv _ => ops.length - (intOf iv).toNat)
          case atStart => exact ⟨0, 0, st, rfl, rfl, Nat.zero_le _, Nat.le_refl _, HNR.out, HDL.out.below (by repeat (with_reducible first | exact Below.refl _ _ | apply below_drew | apply pw_below_drewN))⟩
          clear HDL
          case round =>
            obtain ⟨i, k, t, rfl, rfl, hle, hki, hnr, hdu⟩ := hrel
            have HNT := Aside0.mk hnr
            have HDU := Aside0.mk hdu
            by_cases hlt : i < ops.length
            · skip
              obtain ⟨ad, A5, c5, A6, c6, rfl, hcell, hin⟩ := op_at HR1.out hlt
              obtain ⟨d0, d1, d2, d3, d4, d5, d6⟩ := hcell _ hdu.bel
              have HG := Aside0.mk (HGD.out _ (List.getElem_mem hlt))
              generalize ops[i] = o at *
              have hbx := below_alloc (Below.refl _ _) (w := wr) (.cells #[.int .i64 o.f0, .int .i64 o.f1, .string o.f2, .int .i64 o.f3, .int .i64 o.f4, .slice A5 o.f5.length c5, .slice A6 o.f6.length c6] 41)
              have HGB := Aside0.mk (heap_alloc_new wr (.cells #[.int .i64 o.f0, .int .i64 o.f1, .string o.f2, .int .i64 o.f3, .int .i64 o.f4, .slice A5 o.f5.length c5, .slice A6 o.f6.length c6] 41))
              have hbw := hdu.bel.trans (hbx.mono hdu.bel.size)
              obtain ⟨Z, hdt, hZ, hZl⟩ := hdu.box hbx
              have HZN := Aside0.mk (show ¬ Z wr.heap.size from fun hz => Nat.lt_irrefl _ (hZl _ hz))
              have HIN := Aside0.mk (hin _ hbw)
              have HBW := Aside0.mk hbw
              have HBX := Aside0.mk hbx
              have hbz := hbw.size
              have HDT := Aside0.mk hdt
              have HZ := Aside0.mk hZ
              have hgb := HGB.out
              have g0 := blk_cell hgb 0
              have g1 := blk_cell hgb 1
              have g2 := blk_cell hgb 2
              have g3 := blk_cell hgb 3
              have g4 := blk_cell hgb 4
              have g5 := blk_cell hgb 5
              have g6 := blk_cell hgb 6
              have fg0 := blk_frozen hgb 0
              have fg1 := blk_frozen hgb 1
              have fg2 := blk_frozen hgb 2
              have fg3 := blk_frozen hgb 3
              have fg4 := blk_frozen hgb 4
              have fg5 := blk_frozen hgb 5
              have fg6 := blk_frozen hgb 6
              simp only [List.getElem?_toArray, List.getElem?_cons_succ, List.getElem?_cons_zero] at g0 g1 g2 g3 g4 g5 g6
              clear hbx hbw hdt hZ hZl hdu hcell hin hgb hnr
              by_cases h1 : o.f0 < 1
              · skip
                go_wp2
                go_roundw
                case rel => exact ⟨i + 1, k, t, by simp, rfl, hlt, by omega, HNT.out, (HDU.out.below HBX.out).below (by repeat (with_reducible first | exact Below.refl _ _ | apply below_drew | apply pw_below_drewN))⟩
                case measure => simp [intOf]; omega
              · by_cases h6 : 5 < o.f0
                · skip
                  go_wp2
                  go_roundw
                  case rel => exact ⟨i + 1, k, t, by simp, rfl, hlt, by omega, HNT.out, (HDU.out.below HBX.out).below (by repeat (with_reducible first | exact Below.refl _ _ | apply below_drew | apply pw_below_drewN))⟩
                  case measure => simp [intOf]; omega
                · by_cases h5 : o.f0 = 5
                  · skip
                    have HOP := Aside0.mk (show (t.withR (rig 0 0 k)).op o = ((t.op o).1.withR (rig 0 0 k), (t.op o).2) by rw [op_read h5, op_read h5, read_withR])
                    have HN2 := Aside0.mk (show NoRig (t.op o).1 by rw [op_read h5]; exact HNT.out)
                    have b5 : (o.f0 != 5) = false := by rw [h5]; rfl
                    clear h5
                    have HDN := HDT
                    have hgn := HGB.out
                    have n0 := blk_cell hgn 0
                    have n1 := blk_cell hgn 1
                    have n2 := blk_cell hgn 2
                    have n3 := blk_cell hgn 3
                    have n4 := blk_cell hgn 4
                    have n5 := blk_cell hgn 5
                    have n6 := blk_cell hgn 6
                    have fn0 := blk_frozen hgn 0
                    have fn1 := blk_frozen hgn 1
                    have fn2 := blk_frozen hgn 2
                    have fn3 := blk_frozen hgn 3
                    have fn4 := blk_frozen hgn 4
                    have fn5 := blk_frozen hgn 5
                    have fn6 := blk_frozen hgn 6
                    simp only [List.getElem?_toArray, List.getElem?_cons_succ, List.getElem?_cons_zero] at n0 n1 n2 n3 n4 n5 n6
                    clear hgn
                    obtain ⟨X1, hP, okd, hX1, hn'⟩ := HDN.out.open_
                    have HNX := Aside0.mk hn'
                    have HPX := Aside0.mk hP
                    have HX1 := Aside0.mk hX1
                    have HC1 := Aside0.mk (files_calls _ p1 X1 _ hP okd)
                    have HOD := Aside0.mk okd
                    clear hP okd hX1 hn'
                    go_wp2_with fail
                    refine HC1.out.mono ?_
                    rintro e wa ⟨va, rfl, ra, ba⟩
                    obtain ⟨Aa, ca, rfl, hca, _⟩ := Kd.R_reads ra
                    have HDA := Aside0.mk (HDN.out.below ba)
                    have HRA := Aside0.mk ra
                    have HBA := Aside0.mk ba
                    have HCA := Aside0.mk hca
                    have hga := blk_upd HGB.out HDA.out.1 HZN.out
                    have a0 := blk_cell hga 0
                    have a1 := blk_cell hga 1
                    have a2 := blk_cell hga 2
                    have a3 := blk_cell hga 3
                    have a4 := blk_cell hga 4
                    have a5 := blk_cell hga 5
                    have a6 := blk_cell hga 6
                    have fa0 := blk_frozen hga 0
                    have fa1 := blk_frozen hga 1
                    have fa2 := blk_frozen hga 2
                    have fa3 := blk_frozen hga 3
                    have fa4 := blk_frozen hga 4
                    have fa5 := blk_frozen hga 5
                    have fa6 := blk_frozen hga 6
                    simp only [List.getElem?_toArray, List.getElem?_cons_succ, List.getElem?_cons_zero] at a0 a1 a2 a3 a4 a5 a6
                    have HC2 := Aside0.mk (does_calls wa p1 w.heap.size X1 _ o A5 c5 A6 c6 (HPX.out.below ba) HOD.out (Nat.le_trans hbz HDA.out.1.size) (fun q hq => (HX1.out q hq).elim (HZ.out q) (fun h => Nat.le_trans hbz h)) (HIN.out.below (HDA.out.1.below hbz HZ.out)) HG.out.g)
                    rw [HOP.out] at HC2
                    clear ra ba hca hga
                    go_wp2_with fail
                    refine HC2.out.mono ?_
                    rintro e wb ⟨rfl, hs⟩
                    have HDB := Aside0.mk (HNX.out wb _ (PStep.early HPX.out HBA.out hs) (by have := HOD.out.op HG.out.g; rw [HOP.out] at this; exact this))
                    have HRB := Aside0.mk (files_keep HRA.out hs.2 HPX.out.bd)
                    have hgc := blk_upd HGB.out HDB.out.1 HZN.out
                    have b0 := blk_cell hgc 0
                    have b1 := blk_cell hgc 1
                    have b2 := blk_cell hgc 2
                    have b3 := blk_cell hgc 3
                    have b4 := blk_cell hgc 4
                    have b5 := blk_cell hgc 5
                    have b6 := blk_cell hgc 6
                    have fb0 := blk_frozen hgc 0
                    have fb1 := blk_frozen hgc 1
                    have fb2 := blk_frozen hgc 2
                    have fb3 := blk_frozen hgc 3
                    have fb4 := blk_frozen hgc 4
                    have fb5 := blk_frozen hgc 5
                    have fb6 := blk_frozen hgc 6
                    simp only [List.getElem?_toArray, List.getElem?_cons_succ, List.getElem?_cons_zero] at b0 b1 b2 b3 b4 b5 b6
                    clear hs hgc
                    go_wp2_with fail
                    refine (does_dt HDB.out.swap o A5 c5 A6 c6 hbz HZ.out HIN.out HG.out.g).mono ?_
                    rintro e wc ⟨rfl, hd⟩
                    have HDC := Aside0.mk hd.swap
                    have hgd := blk_upd HGB.out HDC.out.1 HZN.out
                    have c0 := blk_cell hgd 0
                    have c1 := blk_cell hgd 1
                    have c2 := blk_cell hgd 2
                    have c3 := blk_cell hgd 3
                    have c4 := blk_cell hgd 4
                    have c5 := blk_cell hgd 5
                    have c6 := blk_cell hgd 6
                    have fc0 := blk_frozen hgd 0
                    have fc1 := blk_frozen hgd 1
                    have fc2 := blk_frozen hgd 2
                    have fc3 := blk_frozen hgd 3
                    have fc4 := blk_frozen hgd 4
                    have fc5 := blk_frozen hgd 5
                    have fc6 := blk_frozen hgd 6
                    simp only [List.getElem?_toArray, List.getElem?_cons_succ, List.getElem?_cons_zero] at c0 c1 c2 c3 c4 c5 c6
                    clear hd hgd
                    generalize (t.op o).2 = r at *
                    generalize (t.op o).1 = t2 at *
                    go_wp2_with fail
                    refine (files_dt HDC.out).mono ?_
                    rintro e wd ⟨Ad, cd, rfl, hcd, hCd, bd⟩
                    have HDD := Aside0.mk (HDC.out.below bd)
                    have HFE := Aside0.mk (show files67 (t2.withR (rig 0 0 (k))) = files67 t2 from files_same rfl)
                    rw [HFE.out] at hcd hCd ⊢
                    have HCD := Aside0.mk hCd
                    clear hCd bd
                    go_wp2_with fail
                    refine (files_dt HDD.out.swap).mono ?_
                    rintro e we ⟨Ae, ce, rfl, hce, hCe, be⟩
                    have HDE := Aside0.mk (HDD.out.below be)
                    have HCE := Aside0.mk hCe
                    have HCDE := Aside0.mk (Kd.C_below HCD.out be)
                    clear hCe be
                    go_wp2_with fail
                    refine (alike_st HDE.out.swap.ok1 _ Ad cd Ae ce HCDE.out hcd HCE.out hce).mono ?_
                    rintro e wf ⟨rfl, bf⟩
                    have HDF := Aside0.mk (HDE.out.below bf)
                    clear bf
                    go_wp2
                    go_roundw
                    case rel => exact ⟨i + 1, k, t2, by simp, by simp, hlt, by omega, HN2.out, (HDF.out.below (by repeat (with_reducible first | exact Below.refl _ _ | apply below_drew | apply pw_below_drewN))).back HBW.out HZ.out⟩
                    case measure => simp [intOf]; omega
                  · have hk1 : 1 ≤ o.f0 := by omega
                    have hk4 : o.f0 ≤ 4 := by omega
                    cases hnm : isName o.f2 with
                    | false =>
                      have HOP := Aside0.mk (show (t.withR (rig 0 0 k)).op o = ((t.op o).1.withR (rig 0 0 k), (t.op o).2) by rw [op_bad hk1 hk4 hnm, op_bad hk1 hk4 hnm])
                      have HN2 := Aside0.mk (norig_op HNT.out hk1 hk4)
                      have b5 : (o.f0 != 5) = true := by simp; omega
                      have HNB := Aside0.mk hnm
                      clear hnm hk1 hk4
                      go_wp2_with fail
                      refine (namedL_calls o.f2 false HNB.out _).mono ?_
                      rintro e wn ⟨rfl, ⟨⟨ndn, rfl⟩⟩⟩
                      have HDN := Aside0.mk (HDT.out.below (pw_below_drewN (Below.refl _ _) ndn))
                      have hgn := blk_upd HGB.out HDN.out.1 HZN.out
                      have n0 := blk_cell hgn 0
                      have n1 := blk_cell hgn 1
                      have n2 := blk_cell hgn 2
                      have n3 := blk_cell hgn 3
                      have n4 := blk_cell hgn 4
                      have n5 := blk_cell hgn 5
                      have n6 := blk_cell hgn 6
                      have fn0 := blk_frozen hgn 0
                      have fn1 := blk_frozen hgn 1
                      have fn2 := blk_frozen hgn 2
                      have fn3 := blk_frozen hgn 3
                      have fn4 := blk_frozen hgn 4
                      have fn5 := blk_frozen hgn 5
                      have fn6 := blk_frozen hgn 6
                      simp only [List.getElem?_toArray, List.getElem?_cons_succ, List.getElem?_cons_zero] at n0 n1 n2 n3 n4 n5 n6
                      clear hgn
                      obtain ⟨X1, hP, okd, hX1, hn'⟩ := HDN.out.open_
                      have HNX := Aside0.mk hn'
                      have HPX := Aside0.mk hP
                      have HX1 := Aside0.mk hX1
                      have HC1 := Aside0.mk (files_calls _ p1 X1 _ hP okd)
                      have HOD := Aside0.mk okd
                      clear hP okd hX1 hn'
                      go_wp2_with fail
                      refine HC1.out.mono ?_
                      rintro e wa ⟨va, rfl, ra, ba⟩
                      obtain ⟨Aa, ca, rfl, hca, _⟩ := Kd.R_reads ra
                      have HDA := Aside0.mk (HDN.out.below ba)
                      have HRA := Aside0.mk ra
                      have HBA := Aside0.mk ba
                      have HCA := Aside0.mk hca
                      have hga := blk_upd HGB.out HDA.out.1 HZN.out
                      have a0 := blk_cell hga 0
                      have a1 := blk_cell hga 1
                      have a2 := blk_cell hga 2
                      have a3 := blk_cell hga 3
                      have a4 := blk_cell hga 4
                      have a5 := blk_cell hga 5
                      have a6 := blk_cell hga 6
                      have fa0 := blk_frozen hga 0
                      have fa1 := blk_frozen hga 1
                      have fa2 := blk_frozen hga 2
                      have fa3 := blk_frozen hga 3
                      have fa4 := blk_frozen hga 4
                      have fa5 := blk_frozen hga 5
                      have fa6 := blk_frozen hga 6
                      simp only [List.getElem?_toArray, List.getElem?_cons_succ, List.getElem?_cons_zero] at a0 a1 a2 a3 a4 a5 a6
                      have HC2 := Aside0.mk (does_calls wa p1 w.heap.size X1 _ o A5 c5 A6 c6 (HPX.out.below ba) HOD.out (Nat.le_trans hbz HDA.out.1.size) (fun q hq => (HX1.out q hq).elim (HZ.out q) (fun h => Nat.le_trans hbz h)) (HIN.out.below (HDA.out.1.below hbz HZ.out)) HG.out.g)
                      rw [HOP.out] at HC2
                      clear ra ba hca hga
                      go_wp2_with fail
                      refine HC2.out.mono ?_
                      rintro e wb ⟨rfl, hs⟩
                      have HDB := Aside0.mk (HNX.out wb _ (PStep.early HPX.out HBA.out hs) (by have := HOD.out.op HG.out.g; rw [HOP.out] at this; exact this))
                      have HRB := Aside0.mk (files_keep HRA.out hs.2 HPX.out.bd)
                      have hgc := blk_upd HGB.out HDB.out.1 HZN.out
                      have b0 := blk_cell hgc 0
                      have b1 := blk_cell hgc 1
                      have b2 := blk_cell hgc 2
                      have b3 := blk_cell hgc 3
                      have b4 := blk_cell hgc 4
                      have b5 := blk_cell hgc 5
                      have b6 := blk_cell hgc 6
                      have fb0 := blk_frozen hgc 0
                      have fb1 := blk_frozen hgc 1
                      have fb2 := blk_frozen hgc 2
                      have fb3 := blk_frozen hgc 3
                      have fb4 := blk_frozen hgc 4
                      have fb5 := blk_frozen hgc 5
                      have fb6 := blk_frozen hgc 6
                      simp only [List.getElem?_toArray, List.getElem?_cons_succ, List.getElem?_cons_zero] at b0 b1 b2 b3 b4 b5 b6
                      clear hs hgc
                      go_wp2_with fail
                      refine (does_dt HDB.out.swap o A5 c5 A6 c6 hbz HZ.out HIN.out HG.out.g).mono ?_
                      rintro e wc ⟨rfl, hd⟩
                      have HDC := Aside0.mk hd.swap
                      have hgd := blk_upd HGB.out HDC.out.1 HZN.out
                      have c0 := blk_cell hgd 0
                      have c1 := blk_cell hgd 1
                      have c2 := blk_cell hgd 2
                      have c3 := blk_cell hgd 3
                      have c4 := blk_cell hgd 4
                      have c5 := blk_cell hgd 5
                      have c6 := blk_cell hgd 6
                      have fc0 := blk_frozen hgd 0
                      have fc1 := blk_frozen hgd 1
                      have fc2 := blk_frozen hgd 2
                      have fc3 := blk_frozen hgd 3
                      have fc4 := blk_frozen hgd 4
                      have fc5 := blk_frozen hgd 5
                      have fc6 := blk_frozen hgd 6
                      simp only [List.getElem?_toArray, List.getElem?_cons_succ, List.getElem?_cons_zero] at c0 c1 c2 c3 c4 c5 c6
                      clear hd hgd
                      generalize (t.op o).2 = r at *
                      generalize (t.op o).1 = t2 at *
                      go_wp2_with fail
                      refine (files_dt HDC.out).mono ?_
                      rintro e wd ⟨Ad, cd, rfl, hcd, hCd, bd⟩
                      have HDD := Aside0.mk (HDC.out.below bd)
                      have HFE := Aside0.mk (show files67 (t2.withR (rig 0 0 (k))) = files67 t2 from files_same rfl)
                      rw [HFE.out] at hcd hCd ⊢
                      have HCD := Aside0.mk hCd
                      clear hCd bd
                      go_wp2_with fail
                      refine (files_dt HDD.out.swap).mono ?_
                      rintro e we ⟨Ae, ce, rfl, hce, hCe, be⟩
                      have HDE := Aside0.mk (HDD.out.below be)
                      have HCE := Aside0.mk hCe
                      have HCDE := Aside0.mk (Kd.C_below HCD.out be)
                      clear hCe be
                      go_wp2_with fail
                      refine (alike_st HDE.out.swap.ok1 _ Ad cd Ae ce HCDE.out hcd HCE.out hce).mono ?_
                      rintro e wf ⟨rfl, bf⟩
                      have HDF := Aside0.mk (HDE.out.below bf)
                      clear bf
                      go_wp2
                      go_roundw
                      case rel => exact ⟨i + 1, k, t2, by simp, by simp, hlt, by omega, HN2.out, (HDF.out.below (by repeat (with_reducible first | exact Below.refl _ _ | apply below_drew | apply pw_below_drewN))).back HBW.out HZ.out⟩
                      case measure => simp [intOf]; omega
                    | true =>
                      have HOP := Aside0.mk (rig_past HNT.out hk1 hk4 hnm (Int.le_refl (0 : Int)) (Int.le_refl (0 : Int)) (fun h => h) k (fun h => by omega))
                      have HN2 := Aside0.mk (norig_op HNT.out hk1 hk4)
                      have b5 : (o.f0 != 5) = true := by simp; omega
                      have HNB := Aside0.mk hnm
                      clear hnm hk1 hk4
                      go_wp2_with fail
                      refine (namedL_calls o.f2 true HNB.out _).mono ?_
                      rintro e wn ⟨rfl, ⟨⟨ndn, rfl⟩⟩⟩
                      have HDN := Aside0.mk (HDT.out.below (pw_below_drewN (Below.refl _ _) ndn))
                      have hgn := blk_upd HGB.out HDN.out.1 HZN.out
                      have n0 := blk_cell hgn 0
                      have n1 := blk_cell hgn 1
                      have n2 := blk_cell hgn 2
                      have n3 := blk_cell hgn 3
                      have n4 := blk_cell hgn 4
                      have n5 := blk_cell hgn 5
                      have n6 := blk_cell hgn 6
                      have fn0 := blk_frozen hgn 0
                      have fn1 := blk_frozen hgn 1
                      have fn2 := blk_frozen hgn 2
                      have fn3 := blk_frozen hgn 3
                      have fn4 := blk_frozen hgn 4
                      have fn5 := blk_frozen hgn 5
                      have fn6 := blk_frozen hgn 6
                      simp only [List.getElem?_toArray, List.getElem?_cons_succ, List.getElem?_cons_zero] at n0 n1 n2 n3 n4 n5 n6
                      clear hgn
                      obtain ⟨X1, hP, okd, hX1, hn'⟩ := HDN.out.open_
                      have HNX := Aside0.mk hn'
                      have HPX := Aside0.mk hP
                      have HX1 := Aside0.mk hX1
                      have HC1 := Aside0.mk (files_calls _ p1 X1 _ hP okd)
                      have HOD := Aside0.mk okd
                      clear hP okd hX1 hn'
                      go_wp2_with fail
                      refine HC1.out.mono ?_
                      rintro e wa ⟨va, rfl, ra, ba⟩
                      obtain ⟨Aa, ca, rfl, hca, _⟩ := Kd.R_reads ra
                      have HDA := Aside0.mk (HDN.out.below ba)
                      have HRA := Aside0.mk ra
                      have HBA := Aside0.mk ba
                      have HCA := Aside0.mk hca
                      have hga := blk_upd HGB.out HDA.out.1 HZN.out
                      have a0 := blk_cell hga 0
                      have a1 := blk_cell hga 1
                      have a2 := blk_cell hga 2
                      have a3 := blk_cell hga 3
                      have a4 := blk_cell hga 4
                      have a5 := blk_cell hga 5
                      have a6 := blk_cell hga 6
                      have fa0 := blk_frozen hga 0
                      have fa1 := blk_frozen hga 1
                      have fa2 := blk_frozen hga 2
                      have fa3 := blk_frozen hga 3
                      have fa4 := blk_frozen hga 4
                      have fa5 := blk_frozen hga 5
                      have fa6 := blk_frozen hga 6
                      simp only [List.getElem?_toArray, List.getElem?_cons_succ, List.getElem?_cons_zero] at a0 a1 a2 a3 a4 a5 a6
                      have HC2 := Aside0.mk (does_calls wa p1 w.heap.size X1 _ o A5 c5 A6 c6 (HPX.out.below ba) HOD.out (Nat.le_trans hbz HDA.out.1.size) (fun q hq => (HX1.out q hq).elim (HZ.out q) (fun h => Nat.le_trans hbz h)) (HIN.out.below (HDA.out.1.below hbz HZ.out)) HG.out.g)
                      rw [HOP.out] at HC2
                      clear ra ba hca hga
                      go_wp2_with fail
                      refine HC2.out.mono ?_
                      rintro e wb ⟨rfl, hs⟩
                      have HDB := Aside0.mk (HNX.out wb _ (PStep.early HPX.out HBA.out hs) (by have := HOD.out.op HG.out.g; rw [HOP.out] at this; exact this))
                      have HRB := Aside0.mk (files_keep HRA.out hs.2 HPX.out.bd)
                      have hgc := blk_upd HGB.out HDB.out.1 HZN.out
                      have b0 := blk_cell hgc 0
                      have b1 := blk_cell hgc 1
                      have b2 := blk_cell hgc 2
                      have b3 := blk_cell hgc 3
                      have b4 := blk_cell hgc 4
                      have b5 := blk_cell hgc 5
                      have b6 := blk_cell hgc 6
                      have fb0 := blk_frozen hgc 0
                      have fb1 := blk_frozen hgc 1
                      have fb2 := blk_frozen hgc 2
                      have fb3 := blk_frozen hgc 3
                      have fb4 := blk_frozen hgc 4
                      have fb5 := blk_frozen hgc 5
                      have fb6 := blk_frozen hgc 6
                      simp only [List.getElem?_toArray, List.getElem?_cons_succ, List.getElem?_cons_zero] at b0 b1 b2 b3 b4 b5 b6
                      clear hs hgc
                      go_wp2_with fail
                      refine (does_dt HDB.out.swap o A5 c5 A6 c6 hbz HZ.out HIN.out HG.out.g).mono ?_
                      rintro e wc ⟨rfl, hd⟩
                      have HDC := Aside0.mk hd.swap
                      have hgd := blk_upd HGB.out HDC.out.1 HZN.out
                      have c0 := blk_cell hgd 0
                      have c1 := blk_cell hgd 1
                      have c2 := blk_cell hgd 2
                      have c3 := blk_cell hgd 3
                      have c4 := blk_cell hgd 4
                      have c5 := blk_cell hgd 5
                      have c6 := blk_cell hgd 6
                      have fc0 := blk_frozen hgd 0
                      have fc1 := blk_frozen hgd 1
                      have fc2 := blk_frozen hgd 2
                      have fc3 := blk_frozen hgd 3
                      have fc4 := blk_frozen hgd 4
                      have fc5 := blk_frozen hgd 5
                      have fc6 := blk_frozen hgd 6
                      simp only [List.getElem?_toArray, List.getElem?_cons_succ, List.getElem?_cons_zero] at c0 c1 c2 c3 c4 c5 c6
                      clear hd hgd
                      generalize (t.op o).2 = r at *
                      generalize (t.op o).1 = t2 at *
                      go_wp2_with fail
                      refine (files_dt HDC.out).mono ?_
                      rintro e wd ⟨Ad, cd, rfl, hcd, hCd, bd⟩
                      have HDD := Aside0.mk (HDC.out.below bd)
                      have HFE := Aside0.mk (show files67 (t2.withR (rig 0 0 (k + 1))) = files67 t2 from files_same rfl)
                      rw [HFE.out] at hcd hCd ⊢
                      have HCD := Aside0.mk hCd
                      clear hCd bd
                      go_wp2_with fail
                      refine (files_dt HDD.out.swap).mono ?_
                      rintro e we ⟨Ae, ce, rfl, hce, hCe, be⟩
                      have HDE := Aside0.mk (HDD.out.below be)
                      have HCE := Aside0.mk hCe
                      have HCDE := Aside0.mk (Kd.C_below HCD.out be)
                      clear hCe be
                      go_wp2_with fail
                      refine (alike_st HDE.out.swap.ok1 _ Ad cd Ae ce HCDE.out hcd HCE.out hce).mono ?_
                      rintro e wf ⟨rfl, bf⟩
                      have HDF := Aside0.mk (HDE.out.below bf)
                      clear bf
                      go_wp2
                      go_roundw
                      case rel => exact ⟨i + 1, k + 1, t2, by simp, by simp, hlt, by omega, HN2.out, (HDF.out.below (by repeat (with_reducible first | exact Below.refl _ _ | apply below_drew | apply pw_below_drewN))).back HBW.out HZ.out⟩
                      case measure => simp [intOf]; omega
            · obtain rfl : i = ops.length := by omega
              clear hdu hnr
              go_wp2
              go_ret
              exact ⟨rfl, HDU.out.bel.trans ((show Below wr.heap.size wr _ by repeat (with_reducible first | exact Below.refl _ _ | apply below_drew | apply pw_below_drewN)).mono HDU.out.bel.size)⟩
        · by_cases hn0 : nn ≤ 0
          · rw [if_neg (by omega)] at hd
            have HA0 := Aside0.mk (Int.le_refl (0 : Int))
            have HN0 := Aside0.mk (Int.le_refl (0 : Int))
            have HNA := Aside0.mk (fun h : (0 : Int) = 0 => h)
            have HDL := Aside0.mk hd
            clear hd HDU
            go_wp2
            go_loopw [15, 16] (fun dv iv wr => FailsE w p1 p2 0 0 ops.length dv iv wr) (fun _ iv _ => ops.length - (intOf iv).toNat)
            case atStart => exact ⟨0, 0, st, rfl, rfl, Nat.zero_le _, Nat.le_refl _, HNR.out, HDL.out.below (by repeat (with_reducible first | exact Below.refl _ _ | apply below_drew | apply pw_below_drewN))⟩
            clear HDL
            case round =>
              obtain ⟨i, k, t, rfl, rfl, hle, hki, hnr, hdu⟩ := hrel
              have HNT := Aside0.mk hnr
              have HDU := Aside0.mk hdu
              by_cases hlt : i < ops.length
              · skip
                obtain ⟨ad, A5, c5, A6, c6, rfl, hcell, hin⟩ := op_at HR1.out hlt
                obtain ⟨d0, d1, d2, d3, d4, d5, d6⟩ := hcell _ hdu.bel
                have HG := Aside0.mk (HGD.out _ (List.getElem_mem hlt))
                generalize ops[i] = o at *
                have hbx := below_alloc (Below.refl _ _) (w := wr) (.cells #[.int .i64 o.f0, .int .i64 o.f1, .string o.f2, .int .i64 o.f3, .int .i64 o.f4, .slice A5 o.f5.length c5, .slice A6 o.f6.length c6] 41)
                have HGB := Aside0.mk (heap_alloc_new wr (.cells #[.int .i64 o.f0, .int .i64 o.f1, .string o.f2, .int .i64 o.f3, .int .i64 o.f4, .slice A5 o.f5.length c5, .slice A6 o.f6.length c6] 41))
                have hbw := hdu.bel.trans (hbx.mono hdu.bel.size)
                obtain ⟨Z, hdt, hZ, hZl⟩ := hdu.box hbx
                have HZN := Aside0.mk (show ¬ Z wr.heap.size from fun hz => Nat.lt_irrefl _ (hZl _ hz))
                have HIN := Aside0.mk (hin _ hbw)
                have HBW := Aside0.mk hbw
                have HBX := Aside0.mk hbx
                have hbz := hbw.size
                have HDT := Aside0.mk hdt
                have HZ := Aside0.mk hZ
                have hgb := HGB.out
                have g0 := blk_cell hgb 0
                have g1 := blk_cell hgb 1
                have g2 := blk_cell hgb 2
                have g3 := blk_cell hgb 3
                have g4 := blk_cell hgb 4
                have g5 := blk_cell hgb 5
                have g6 := blk_cell hgb 6
                have fg0 := blk_frozen hgb 0
                have fg1 := blk_frozen hgb 1
                have fg2 := blk_frozen hgb 2
                have fg3 := blk_frozen hgb 3
                have fg4 := blk_frozen hgb 4
                have fg5 := blk_frozen hgb 5
                have fg6 := blk_frozen hgb 6
                simp only [List.getElem?_toArray, List.getElem?_cons_succ, List.getElem?_cons_zero] at g0 g1 g2 g3 g4 g5 g6
                clear hbx hbw hdt hZ hZl hdu hcell hin hgb hnr
                by_cases h1 : o.f0 < 1
                · skip
                  go_wp2
                  go_roundw
                  case rel => exact ⟨i + 1, k, t, by simp, rfl, hlt, by omega, HNT.out, (HDU.out.below HBX.out).below (by repeat (with_reducible first | exact Below.refl _ _ | apply below_drew | apply pw_below_drewN))⟩
                  case measure => simp [intOf]; omega
                · by_cases h6 : 5 < o.f0
                  · skip
                    go_wp2
                    go_roundw
                    case rel => exact ⟨i + 1, k, t, by simp, rfl, hlt, by omega, HNT.out, (HDU.out.below HBX.out).below (by repeat (with_reducible first | exact Below.refl _ _ | apply below_drew | apply pw_below_drewN))⟩
                    case measure => simp [intOf]; omega
                  · by_cases h5 : o.f0 = 5
                    · skip
                      have HOP := Aside0.mk (show (t.withR (rig 0 0 k)).op o = ((t.op o).1.withR (rig 0 0 k), (t.op o).2) by rw [op_read h5, op_read h5, read_withR])
                      have HN2 := Aside0.mk (show NoRig (t.op o).1 by rw [op_read h5]; exact HNT.out)
                      have b5 : (o.f0 != 5) = false := by rw [h5]; rfl
                      clear h5
                      have HDN := HDT
                      have hgn := HGB.out
                      have n0 := blk_cell hgn 0
                      have n1 := blk_cell hgn 1
                      have n2 := blk_cell hgn 2
                      have n3 := blk_cell hgn 3
                      have n4 := blk_cell hgn 4
                      have n5 := blk_cell hgn 5
                      have n6 := blk_cell hgn 6
                      have fn0 := blk_frozen hgn 0
                      have fn1 := blk_frozen hgn 1
                      have fn2 := blk_frozen hgn 2
                      have fn3 := blk_frozen hgn 3
                      have fn4 := blk_frozen hgn 4
                      have fn5 := blk_frozen hgn 5
                      have fn6 := blk_frozen hgn 6
                      simp only [List.getElem?_toArray, List.getElem?_cons_succ, List.getElem?_cons_zero] at n0 n1 n2 n3 n4 n5 n6
                      clear hgn
                      obtain ⟨X1, hP, okd, hX1, hn'⟩ := HDN.out.open_
                      have HNX := Aside0.mk hn'
                      have HPX := Aside0.mk hP
                      have HX1 := Aside0.mk hX1
                      have HC1 := Aside0.mk (files_calls _ p1 X1 _ hP okd)
                      have HOD := Aside0.mk okd
                      clear hP okd hX1 hn'
                      go_wp2_with fail
                      refine HC1.out.mono ?_
                      rintro e wa ⟨va, rfl, ra, ba⟩
                      obtain ⟨Aa, ca, rfl, hca, _⟩ := Kd.R_reads ra
                      have HDA := Aside0.mk (HDN.out.below ba)
                      have HRA := Aside0.mk ra
                      have HBA := Aside0.mk ba
                      have HCA := Aside0.mk hca
                      have hga := blk_upd HGB.out HDA.out.1 HZN.out
                      have a0 := blk_cell hga 0
                      have a1 := blk_cell hga 1
                      have a2 := blk_cell hga 2
                      have a3 := blk_cell hga 3
                      have a4 := blk_cell hga 4
                      have a5 := blk_cell hga 5
                      have a6 := blk_cell hga 6
                      have fa0 := blk_frozen hga 0
                      have fa1 := blk_frozen hga 1
                      have fa2 := blk_frozen hga 2
                      have fa3 := blk_frozen hga 3
                      have fa4 := blk_frozen hga 4
                      have fa5 := blk_frozen hga 5
                      have fa6 := blk_frozen hga 6
                      simp only [List.getElem?_toArray, List.getElem?_cons_succ, List.getElem?_cons_zero] at a0 a1 a2 a3 a4 a5 a6
                      have HC2 := Aside0.mk (does_calls wa p1 w.heap.size X1 _ o A5 c5 A6 c6 (HPX.out.below ba) HOD.out (Nat.le_trans hbz HDA.out.1.size) (fun q hq => (HX1.out q hq).elim (HZ.out q) (fun h => Nat.le_trans hbz h)) (HIN.out.below (HDA.out.1.below hbz HZ.out)) HG.out.g)
                      rw [HOP.out] at HC2
                      clear ra ba hca hga
                      go_wp2_with fail
                      refine HC2.out.mono ?_
                      rintro e wb ⟨rfl, hs⟩
                      have HDB := Aside0.mk (HNX.out wb _ (PStep.early HPX.out HBA.out hs) (by have := HOD.out.op HG.out.g; rw [HOP.out] at this; exact this))
                      have HRB := Aside0.mk (files_keep HRA.out hs.2 HPX.out.bd)
                      have hgc := blk_upd HGB.out HDB.out.1 HZN.out
                      have b0 := blk_cell hgc 0
                      have b1 := blk_cell hgc 1
                      have b2 := blk_cell hgc 2
                      have b3 := blk_cell hgc 3
                      have b4 := blk_cell hgc 4
                      have b5 := blk_cell hgc 5
                      have b6 := blk_cell hgc 6
                      have fb0 := blk_frozen hgc 0
                      have fb1 := blk_frozen hgc 1
                      have fb2 := blk_frozen hgc 2
                      have fb3 := blk_frozen hgc 3
                      have fb4 := blk_frozen hgc 4
                      have fb5 := blk_frozen hgc 5
                      have fb6 := blk_frozen hgc 6
                      simp only [List.getElem?_toArray, List.getElem?_cons_succ, List.getElem?_cons_zero] at b0 b1 b2 b3 b4 b5 b6
                      clear hs hgc
                      go_wp2_with fail
                      refine (does_dt HDB.out.swap o A5 c5 A6 c6 hbz HZ.out HIN.out HG.out.g).mono ?_
                      rintro e wc ⟨rfl, hd⟩
                      have HDC := Aside0.mk hd.swap
                      have hgd := blk_upd HGB.out HDC.out.1 HZN.out
                      have c0 := blk_cell hgd 0
                      have c1 := blk_cell hgd 1
                      have c2 := blk_cell hgd 2
                      have c3 := blk_cell hgd 3
                      have c4 := blk_cell hgd 4
                      have c5 := blk_cell hgd 5
                      have c6 := blk_cell hgd 6
                      have fc0 := blk_frozen hgd 0
                      have fc1 := blk_frozen hgd 1
                      have fc2 := blk_frozen hgd 2
                      have fc3 := blk_frozen hgd 3
                      have fc4 := blk_frozen hgd 4
                      have fc5 := blk_frozen hgd 5
                      have fc6 := blk_frozen hgd 6
                      simp only [List.getElem?_toArray, List.getElem?_cons_succ, List.getElem?_cons_zero] at c0 c1 c2 c3 c4 c5 c6
                      clear hd hgd
                      generalize (t.op o).2 = r at *
                      generalize (t.op o).1 = t2 at *
                      go_wp2_with fail
                      refine (files_dt HDC.out).mono ?_
                      rintro e wd ⟨Ad, cd, rfl, hcd, hCd, bd⟩
                      have HDD := Aside0.mk (HDC.out.below bd)
                      have HFE := Aside0.mk (show files67 (t2.withR (rig 0 0 (k))) = files67 t2 from files_same rfl)
                      rw [HFE.out] at hcd hCd ⊢
                      have HCD := Aside0.mk hCd
                      clear hCd bd
                      go_wp2_with fail
                      refine (files_dt HDD.out.swap).mono ?_
                      rintro e we ⟨Ae, ce, rfl, hce, hCe, be⟩
                      have HDE := Aside0.mk (HDD.out.below be)
                      have HCE := Aside0.mk hCe
                      have HCDE := Aside0.mk (Kd.C_below HCD.out be)
                      clear hCe be
                      go_wp2_with fail
                      refine (alike_st HDE.out.swap.ok1 _ Ad cd Ae ce HCDE.out hcd HCE.out hce).mono ?_
                      rintro e wf ⟨rfl, bf⟩
                      have HDF := Aside0.mk (HDE.out.below bf)
                      clear bf
                      go_wp2
                      go_roundw
                      case rel => exact ⟨i + 1, k, t2, by simp, by simp, hlt, by omega, HN2.out, (HDF.out.below (by repeat (with_reducible first | exact Below.refl _ _ | apply below_drew | apply pw_below_drewN))).back HBW.out HZ.out⟩
                      case measure => simp [intOf]; omega
                    · have hk1 : 1 ≤ o.f0 := by omega
                      have hk4 : o.f0 ≤ 4 := by omega
                      cases hnm : isName o.f2 with
                      | false =>
                        have HOP := Aside0.mk (show (t.withR (rig 0 0 k)).op o = ((t.op o).1.withR (rig 0 0 k), (t.op o).2) by rw [op_bad hk1 hk4 hnm, op_bad hk1 hk4 hnm])
                        have HN2 := Aside0.mk (norig_op HNT.out hk1 hk4)
                        have b5 : (o.f0 != 5) = true := by simp; omega
                        have HNB := Aside0.mk hnm
                        clear hnm hk1 hk4
                        go_wp2_with fail
                        refine (namedL_calls o.f2 false HNB.out _).mono ?_
                        rintro e wn ⟨rfl, ⟨⟨ndn, rfl⟩⟩⟩
                        have HDN := Aside0.mk (HDT.out.below (pw_below_drewN (Below.refl _ _) ndn))
                        have hgn := blk_upd HGB.out HDN.out.1 HZN.out
                        have n0 := blk_cell hgn 0
                        have n1 := blk_cell hgn 1
                        have n2 := blk_cell hgn 2
                        have n3 := blk_cell hgn 3
                        have n4 := blk_cell hgn 4
                        have n5 := blk_cell hgn 5
                        have n6 := blk_cell hgn 6
                        have fn0 := blk_frozen hgn 0
                        have fn1 := blk_frozen hgn 1
                        have fn2 := blk_frozen hgn 2
                        have fn3 := blk_frozen hgn 3
                        have fn4 := blk_frozen hgn 4
                        have fn5 := blk_frozen hgn 5
                        have fn6 := blk_frozen hgn 6
                        simp only [List.getElem?_toArray, List.getElem?_cons_succ, List.getElem?_cons_zero] at n0 n1 n2 n3 n4 n5 n6
                        clear hgn
                        obtain ⟨X1, hP, okd, hX1, hn'⟩ := HDN.out.open_
                        have HNX := Aside0.mk hn'
                        have HPX := Aside0.mk hP
                        have HX1 := Aside0.mk hX1
                        have HC1 := Aside0.mk (files_calls _ p1 X1 _ hP okd)
                        have HOD := Aside0.mk okd
                        clear hP okd hX1 hn'
                        go_wp2_with fail
                        refine HC1.out.mono ?_
                        rintro e wa ⟨va, rfl, ra, ba⟩
                        obtain ⟨Aa, ca, rfl, hca, _⟩ := Kd.R_reads ra
                        have HDA := Aside0.mk (HDN.out.below ba)
                        have HRA := Aside0.mk ra
                        have HBA := Aside0.mk ba
                        have HCA := Aside0.mk hca
                        have hga := blk_upd HGB.out HDA.out.1 HZN.out
                        have a0 := blk_cell hga 0
                        have a1 := blk_cell hga 1
                        have a2 := blk_cell hga 2
                        have a3 := blk_cell hga 3
                        have a4 := blk_cell hga 4
                        have a5 := blk_cell hga 5
                        have a6 := blk_cell hga 6
                        have fa0 := blk_frozen hga 0
                        have fa1 := blk_frozen hga 1
                        have fa2 := blk_frozen hga 2
                        have fa3 := blk_frozen hga 3
                        have fa4 := blk_frozen hga 4
                        have fa5 := blk_frozen hga 5
                        have fa6 := blk_frozen hga 6
                        simp only [List.getElem?_toArray, List.getElem?_cons_succ, List.getElem?_cons_zero] at a0 a1 a2 a3 a4 a5 a6
                        have HC2 := Aside0.mk (does_calls wa p1 w.heap.size X1 _ o A5 c5 A6 c6 (HPX.out.below ba) HOD.out (Nat.le_trans hbz HDA.out.1.size) (fun q hq => (HX1.out q hq).elim (HZ.out q) (fun h => Nat.le_trans hbz h)) (HIN.out.below (HDA.out.1.below hbz HZ.out)) HG.out.g)
                        rw [HOP.out] at HC2
                        clear ra ba hca hga
                        go_wp2_with fail
                        refine HC2.out.mono ?_
                        rintro e wb ⟨rfl, hs⟩
                        have HDB := Aside0.mk (HNX.out wb _ (PStep.early HPX.out HBA.out hs) (by have := HOD.out.op HG.out.g; rw [HOP.out] at this; exact this))
                        have HRB := Aside0.mk (files_keep HRA.out hs.2 HPX.out.bd)
                        have hgc := blk_upd HGB.out HDB.out.1 HZN.out
                        have b0 := blk_cell hgc 0
                        have b1 := blk_cell hgc 1
                        have b2 := blk_cell hgc 2
                        have b3 := blk_cell hgc 3
                        have b4 := blk_cell hgc 4
                        have b5 := blk_cell hgc 5
                        have b6 := blk_cell hgc 6
                        have fb0 := blk_frozen hgc 0
                        have fb1 := blk_frozen hgc 1
                        have fb2 := blk_frozen hgc 2
                        have fb3 := blk_frozen hgc 3
                        have fb4 := blk_frozen hgc 4
                        have fb5 := blk_frozen hgc 5
                        have fb6 := blk_frozen hgc 6
                        simp only [List.getElem?_toArray, List.getElem?_cons_succ, List.getElem?_cons_zero] at b0 b1 b2 b3 b4 b5 b6
                        clear hs hgc
                        go_wp2_with fail
                        refine (does_dt HDB.out.swap o A5 c5 A6 c6 hbz HZ.out HIN.out HG.out.g).mono ?_
                        rintro e wc ⟨rfl, hd⟩
                        have HDC := Aside0.mk hd.swap
                        have hgd := blk_upd HGB.out HDC.out.1 HZN.out
                        have c0 := blk_cell hgd 0
                        have c1 := blk_cell hgd 1
                        have c2 := blk_cell hgd 2
                        have c3 := blk_cell hgd 3
                        have c4 := blk_cell hgd 4
                        have c5 := blk_cell hgd 5
                        have c6 := blk_cell hgd 6
                        have fc0 := blk_frozen hgd 0
                        have fc1 := blk_frozen hgd 1
                        have fc2 := blk_frozen hgd 2
                        have fc3 := blk_frozen hgd 3
                        have fc4 := blk_frozen hgd 4
                        have fc5 := blk_frozen hgd 5
                        have fc6 := blk_frozen hgd 6
                        simp only [List.getElem?_toArray, List.getElem?_cons_succ, List.getElem?_cons_zero] at c0 c1 c2 c3 c4 c5 c6
                        clear hd hgd
                        generalize (t.op o).2 = r at *
                        generalize (t.op o).1 = t2 at *
                        go_wp2_with fail
                        refine (files_dt HDC.out).mono ?_
                        rintro e wd ⟨Ad, cd, rfl, hcd, hCd, bd⟩
                        have HDD := Aside0.mk (HDC.out.below bd)
                        have HFE := Aside0.mk (show files67 (t2.withR (rig 0 0 (k))) = files67 t2 from files_same rfl)
                        rw [HFE.out] at hcd hCd ⊢
                        have HCD := Aside0.mk hCd
                        clear hCd bd
                        go_wp2_with fail
                        refine (files_dt HDD.out.swap).mono ?_
                        rintro e we ⟨Ae, ce, rfl, hce, hCe, be⟩
                        have HDE := Aside0.mk (HDD.out.below be)
                        have HCE := Aside0.mk hCe
                        have HCDE := Aside0.mk (Kd.C_below HCD.out be)
                        clear hCe be
                        go_wp2_with fail
                        refine (alike_st HDE.out.swap.ok1 _ Ad cd Ae ce HCDE.out hcd HCE.out hce).mono ?_
                        rintro e wf ⟨rfl, bf⟩
                        have HDF := Aside0.mk (HDE.out.below bf)
                        clear bf
                        go_wp2
                        go_roundw
                        case rel => exact ⟨i + 1, k, t2, by simp, by simp, hlt, by omega, HN2.out, (HDF.out.below (by repeat (with_reducible first | exact Below.refl _ _ | apply below_drew | apply pw_below_drewN))).back HBW.out HZ.out⟩
                        case measure => simp [intOf]; omega
                      | true =>
                        have HOP := Aside0.mk (rig_past HNT.out hk1 hk4 hnm (Int.le_refl (0 : Int)) (Int.le_refl (0 : Int)) (fun h => h) k (fun h => by omega))
                        have HN2 := Aside0.mk (norig_op HNT.out hk1 hk4)
                        have b5 : (o.f0 != 5) = true := by simp; omega
                        have HNB := Aside0.mk hnm
                        clear hnm hk1 hk4
                        go_wp2_with fail
                        refine (namedL_calls o.f2 true HNB.out _).mono ?_
                        rintro e wn ⟨rfl, ⟨⟨ndn, rfl⟩⟩⟩
                        have HDN := Aside0.mk (HDT.out.below (pw_below_drewN (Below.refl _ _) ndn))
                        have hgn := blk_upd HGB.out HDN.out.1 HZN.out
                        have n0 := blk_cell hgn 0
                        have n1 := blk_cell hgn 1
                        have n2 := blk_cell hgn 2
                        have n3 := blk_cell hgn 3
                        have n4 := blk_cell hgn 4
                        have n5 := blk_cell hgn 5
                        have n6 := blk_cell hgn 6
                        have fn0 := blk_frozen hgn 0
                        have fn1 := blk_frozen hgn 1
                        have fn2 := blk_frozen hgn 2
                        have fn3 := blk_frozen hgn 3
                        have fn4 := blk_frozen hgn 4
                        have fn5 := blk_frozen hgn 5
                        have fn6 := blk_frozen hgn 6
                        simp only [List.getElem?_toArray, List.getElem?_cons_succ, List.getElem?_cons_zero] at n0 n1 n2 n3 n4 n5 n6
                        clear hgn
                        obtain ⟨X1, hP, okd, hX1, hn'⟩ := HDN.out.open_
                        have HNX := Aside0.mk hn'
                        have HPX := Aside0.mk hP
                        have HX1 := Aside0.mk hX1
                        have HC1 := Aside0.mk (files_calls _ p1 X1 _ hP okd)
                        have HOD := Aside0.mk okd
                        clear hP okd hX1 hn'
                        go_wp2_with fail
                        refine HC1.out.mono ?_
                        rintro e wa ⟨va, rfl, ra, ba⟩
                        obtain ⟨Aa, ca, rfl, hca, _⟩ := Kd.R_reads ra
                        have HDA := Aside0.mk (HDN.out.below ba)
                        have HRA := Aside0.mk ra
                        have HBA := Aside0.mk ba
                        have HCA := Aside0.mk hca
                        have hga := blk_upd HGB.out HDA.out.1 HZN.out
                        have a0 := blk_cell hga 0
                        have a1 := blk_cell hga 1
                        have a2 := blk_cell hga 2
                        have a3 := blk_cell hga 3
                        have a4 := blk_cell hga 4
                        have a5 := blk_cell hga 5
                        have a6 := blk_cell hga 6
                        have fa0 := blk_frozen hga 0
                        have fa1 := blk_frozen hga 1
                        have fa2 := blk_frozen hga 2
                        have fa3 := blk_frozen hga 3
                        have fa4 := blk_frozen hga 4
                        have fa5 := blk_frozen hga 5
                        have fa6 := blk_frozen hga 6
                        simp only [List.getElem?_toArray, List.getElem?_cons_succ, List.getElem?_cons_zero] at a0 a1 a2 a3 a4 a5 a6
                        have HC2 := Aside0.mk (does_calls wa p1 w.heap.size X1 _ o A5 c5 A6 c6 (HPX.out.below ba) HOD.out (Nat.le_trans hbz HDA.out.1.size) (fun q hq => (HX1.out q hq).elim (HZ.out q) (fun h => Nat.le_trans hbz h)) (HIN.out.below (HDA.out.1.below hbz HZ.out)) HG.out.g)
                        rw [HOP.out] at HC2
                        clear ra ba hca hga
                        go_wp2_with fail
                        refine HC2.out.mono ?_
                        rintro e wb ⟨rfl, hs⟩
                        have HDB := Aside0.mk (HNX.out wb _ (PStep.early HPX.out HBA.out hs) (by have := HOD.out.op HG.out.g; rw [HOP.out] at this; exact this))
                        have HRB := Aside0.mk (files_keep HRA.out hs.2 HPX.out.bd)
                        have hgc := blk_upd HGB.out HDB.out.1 HZN.out
                        have b0 := blk_cell hgc 0
                        have b1 := blk_cell hgc 1
                        have b2 := blk_cell hgc 2
                        have b3 := blk_cell hgc 3
                        have b4 := blk_cell hgc 4
                        have b5 := blk_cell hgc 5
                        have b6 := blk_cell hgc 6
                        have fb0 := blk_frozen hgc 0
                        have fb1 := blk_frozen hgc 1
                        have fb2 := blk_frozen hgc 2
                        have fb3 := blk_frozen hgc 3
                        have fb4 := blk_frozen hgc 4
                        have fb5 := blk_frozen hgc 5
                        have fb6 := blk_frozen hgc 6
                        simp only [List.getElem?_toArray, List.getElem?_cons_succ, List.getElem?_cons_zero] at b0 b1 b2 b3 b4 b5 b6
                        clear hs hgc
                        go_wp2_with fail
                        refine (does_dt HDB.out.swap o A5 c5 A6 c6 hbz HZ.out HIN.out HG.out.g).mono ?_
                        rintro e wc ⟨rfl, hd⟩
                        have HDC := Aside0.mk hd.swap
                        have hgd := blk_upd HGB.out HDC.out.1 HZN.out
                        have c0 := blk_cell hgd 0
                        have c1 := blk_cell hgd 1
                        have c2 := blk_cell hgd 2
                        have c3 := blk_cell hgd 3
                        have c4 := blk_cell hgd 4
                        have c5 := blk_cell hgd 5
                        have c6 := blk_cell hgd 6
                        have fc0 := blk_frozen hgd 0
                        have fc1 := blk_frozen hgd 1
                        have fc2 := blk_frozen hgd 2
                        have fc3 := blk_frozen hgd 3
                        have fc4 := blk_frozen hgd 4
                        have fc5 := blk_frozen hgd 5
                        have fc6 := blk_frozen hgd 6
                        simp only [List.getElem?_toArray, List.getElem?_cons_succ, List.getElem?_cons_zero] at c0 c1 c2 c3 c4 c5 c6
                        clear hd hgd
                        generalize (t.op o).2 = r at *
                        generalize (t.op o).1 = t2 at *
                        go_wp2_with fail
                        refine (files_dt HDC.out).mono ?_
                        rintro e wd ⟨Ad, cd, rfl, hcd, hCd, bd⟩
                        have HDD := Aside0.mk (HDC.out.below bd)
                        have HFE := Aside0.mk (show files67 (t2.withR (rig 0 0 (k + 1))) = files67 t2 from files_same rfl)
                        rw [HFE.out] at hcd hCd ⊢
                        have HCD := Aside0.mk hCd
                        clear hCd bd
                        go_wp2_with fail
                        refine (files_dt HDD.out.swap).mono ?_
                        rintro e we ⟨Ae, ce, rfl, hce, hCe, be⟩
                        have HDE := Aside0.mk (HDD.out.below be)
                        have HCE := Aside0.mk hCe
                        have HCDE := Aside0.mk (Kd.C_below HCD.out be)
                        clear hCe be
                        go_wp2_with fail
                        refine (alike_st HDE.out.swap.ok1 _ Ad cd Ae ce HCDE.out hcd HCE.out hce).mono ?_
                        rintro e wf ⟨rfl, bf⟩
                        have HDF := Aside0.mk (HDE.out.below bf)
                        clear bf
                        go_wp2
                        go_roundw
                        case rel => exact ⟨i + 1, k + 1, t2, by simp, by simp, hlt, by omega, HN2.out, (HDF.out.below (by repeat (with_reducible first | exact Below.refl _ _ | apply below_drew | apply pw_below_drewN))).back HBW.out HZ.out⟩
                        case measure => simp [intOf]; omega
              · obtain rfl : i = ops.length := by omega
                clear hdu hnr
                go_wp2
                go_ret
                exact ⟨rfl, HDU.out.bel.trans ((show Below wr.heap.size wr _ by repeat (with_reducible first | exact Below.refl _ _ | apply below_drew | apply pw_below_drewN)).mono HDU.out.bel.size)⟩
          · rw [if_pos (by omega)] at hd
            have HA0 := Aside0.mk (show 0 ≤ af by omega)
            have HN0 := Aside0.mk (show 0 ≤ nn by omega)
            have HNA := Aside0.mk (show nn = 0 → af = 0 from fun h => by omega)
            have HDL := Aside0.mk hd
            clear hd HDU
            go_wp2
            go_loopw [15, 16] (fun dv iv wr => FailsE w p1 p2 af nn ops.length dv iv wr) (fun _ iv _ => ops.length - (intOf iv).toNat)
            case atStart => exact ⟨0, 0, st, rfl, rfl, Nat.zero_le _, Nat.le_refl _, HNR.out, HDL.out.below (by repeat (with_reducible first | exact Below.refl _ _ | apply below_drew | apply pw_below_drewN))⟩
            clear HDL
            case round =>
              obtain ⟨i, k, t, rfl, rfl, hle, hki, hnr, hdu⟩ := hrel
              have HNT := Aside0.mk hnr
              have HDU := Aside0.mk hdu
              by_cases hlt : i < ops.length
              · skip
                obtain ⟨ad, A5, c5, A6, c6, rfl, hcell, hin⟩ := op_at HR1.out hlt
                obtain ⟨d0, d1, d2, d3, d4, d5, d6⟩ := hcell _ hdu.bel
                have HG := Aside0.mk (HGD.out _ (List.getElem_mem hlt))
                generalize ops[i] = o at *
                have hbx := below_alloc (Below.refl _ _) (w := wr) (.cells #[.int .i64 o.f0, .int .i64 o.f1, .string o.f2, .int .i64 o.f3, .int .i64 o.f4, .slice A5 o.f5.length c5, .slice A6 o.f6.length c6] 41)
                have HGB := Aside0.mk (heap_alloc_new wr (.cells #[.int .i64 o.f0, .int .i64 o.f1, .string o.f2, .int .i64 o.f3, .int .i64 o.f4, .slice A5 o.f5.length c5, .slice A6 o.f6.length c6] 41))
                have hbw := hdu.bel.trans (hbx.mono hdu.bel.size)
                obtain ⟨Z, hdt, hZ, hZl⟩ := hdu.box hbx
                have HZN := Aside0.mk (show ¬ Z wr.heap.size from fun hz => Nat.lt_irrefl _ (hZl _ hz))
                have HIN := Aside0.mk (hin _ hbw)
                have HBW := Aside0.mk hbw
                have HBX := Aside0.mk hbx
                have hbz := hbw.size
                have HDT := Aside0.mk hdt
                have HZ := Aside0.mk hZ
                have hgb := HGB.out
                have g0 := blk_cell hgb 0
                have g1 := blk_cell hgb 1
                have g2 := blk_cell hgb 2
                have g3 := blk_cell hgb 3
                have g4 := blk_cell hgb 4
                have g5 := blk_cell hgb 5
                have g6 := blk_cell hgb 6
                have fg0 := blk_frozen hgb 0
                have fg1 := blk_frozen hgb 1
                have fg2 := blk_frozen hgb 2
                have fg3 := blk_frozen hgb 3
                have fg4 := blk_frozen hgb 4
                have fg5 := blk_frozen hgb 5
                have fg6 := blk_frozen hgb 6
                simp only [List.getElem?_toArray, List.getElem?_cons_succ, List.getElem?_cons_zero] at g0 g1 g2 g3 g4 g5 g6
                clear hbx hbw hdt hZ hZl hdu hcell hin hgb hnr
                by_cases h1 : o.f0 < 1
                · skip
                  go_wp2
                  go_roundw
                  case rel => exact ⟨i + 1, k, t, by simp, rfl, hlt, by omega, HNT.out, (HDU.out.below HBX.out).below (by repeat (with_reducible first | exact Below.refl _ _ | apply below_drew | apply pw_below_drewN))⟩
                  case measure => simp [intOf]; omega
                · by_cases h6 : 5 < o.f0
                  · skip
                    go_wp2
                    go_roundw
                    case rel => exact ⟨i + 1, k, t, by simp, rfl, hlt, by omega, HNT.out, (HDU.out.below HBX.out).below (by repeat (with_reducible first | exact Below.refl _ _ | apply below_drew | apply pw_below_drewN))⟩
                    case measure => simp [intOf]; omega
                  · by_cases h5 : o.f0 = 5
                    · skip
                      have HOP := Aside0.mk (show (t.withR (rig af nn k)).op o = ((t.op o).1.withR (rig af nn k), (t.op o).2) by rw [op_read h5, op_read h5, read_withR])
                      have HN2 := Aside0.mk (show NoRig (t.op o).1 by rw [op_read h5]; exact HNT.out)
                      have b5 : (o.f0 != 5) = false := by rw [h5]; rfl
                      clear h5
                      have HDN := HDT
                      have hgn := HGB.out
                      have n0 := blk_cell hgn 0
                      have n1 := blk_cell hgn 1
                      have n2 := blk_cell hgn 2
                      have n3 := blk_cell hgn 3
                      have n4 := blk_cell hgn 4
                      have n5 := blk_cell hgn 5
                      have n6 := blk_cell hgn 6
                      have fn0 := blk_frozen hgn 0
                      have fn1 := blk_frozen hgn 1
                      have fn2 := blk_frozen hgn 2
                      have fn3 := blk_frozen hgn 3
                      have fn4 := blk_frozen hgn 4
                      have fn5 := blk_frozen hgn 5
                      have fn6 := blk_frozen hgn 6
                      simp only [List.getElem?_toArray, List.getElem?_cons_succ, List.getElem?_cons_zero] at n0 n1 n2 n3 n4 n5 n6
                      clear hgn
                      obtain ⟨X1, hP, okd, hX1, hn'⟩ := HDN.out.open_
                      have HNX := Aside0.mk hn'
                      have HPX := Aside0.mk hP
                      have HX1 := Aside0.mk hX1
                      have HC1 := Aside0.mk (files_calls _ p1 X1 _ hP okd)
                      have HOD := Aside0.mk okd
                      clear hP okd hX1 hn'
                      go_wp2_with fail
                      refine HC1.out.mono ?_
                      rintro e wa ⟨va, rfl, ra, ba⟩
                      obtain ⟨Aa, ca, rfl, hca, _⟩ := Kd.R_reads ra
                      have HDA := Aside0.mk (HDN.out.below ba)
                      have HRA := Aside0.mk ra
                      have HBA := Aside0.mk ba
                      have HCA := Aside0.mk hca
                      have hga := blk_upd HGB.out HDA.out.1 HZN.out
                      have a0 := blk_cell hga 0
                      have a1 := blk_cell hga 1
                      have a2 := blk_cell hga 2
                      have a3 := blk_cell hga 3
                      have a4 := blk_cell hga 4
                      have a5 := blk_cell hga 5
                      have a6 := blk_cell hga 6
                      have fa0 := blk_frozen hga 0
                      have fa1 := blk_frozen hga 1
                      have fa2 := blk_frozen hga 2
                      have fa3 := blk_frozen hga 3
                      have fa4 := blk_frozen hga 4
                      have fa5 := blk_frozen hga 5
                      have fa6 := blk_frozen hga 6
                      simp only [List.getElem?_toArray, List.getElem?_cons_succ, List.getElem?_cons_zero] at a0 a1 a2 a3 a4 a5 a6
                      have HC2 := Aside0.mk (does_calls wa p1 w.heap.size X1 _ o A5 c5 A6 c6 (HPX.out.below ba) HOD.out (Nat.le_trans hbz HDA.out.1.size) (fun q hq => (HX1.out q hq).elim (HZ.out q) (fun h => Nat.le_trans hbz h)) (HIN.out.below (HDA.out.1.below hbz HZ.out)) HG.out.g)
                      rw [HOP.out] at HC2
                      clear ra ba hca hga
                      go_wp2_with fail
                      refine HC2.out.mono ?_
                      rintro e wb ⟨rfl, hs⟩
                      have HDB := Aside0.mk (HNX.out wb _ (PStep.early HPX.out HBA.out hs) (by have := HOD.out.op HG.out.g; rw [HOP.out] at this; exact this))
                      have HRB := Aside0.mk (files_keep HRA.out hs.2 HPX.out.bd)
                      have hgc := blk_upd HGB.out HDB.out.1 HZN.out
                      have b0 := blk_cell hgc 0
                      have b1 := blk_cell hgc 1
                      have b2 := blk_cell hgc 2
                      have b3 := blk_cell hgc 3
                      have b4 := blk_cell hgc 4
                      have b5 := blk_cell hgc 5
                      have b6 := blk_cell hgc 6
                      have fb0 := blk_frozen hgc 0
                      have fb1 := blk_frozen hgc 1
                      have fb2 := blk_frozen hgc 2
                      have fb3 := blk_frozen hgc 3
                      have fb4 := blk_frozen hgc 4
                      have fb5 := blk_frozen hgc 5
                      have fb6 := blk_frozen hgc 6
                      simp only [List.getElem?_toArray, List.getElem?_cons_succ, List.getElem?_cons_zero] at b0 b1 b2 b3 b4 b5 b6
                      clear hs hgc
                      go_wp2_with fail
                      refine (does_dt HDB.out.swap o A5 c5 A6 c6 hbz HZ.out HIN.out HG.out.g).mono ?_
                      rintro e wc ⟨rfl, hd⟩
                      have HDC := Aside0.mk hd.swap
                      have hgd := blk_upd HGB.out HDC.out.1 HZN.out
                      have c0 := blk_cell hgd 0
                      have c1 := blk_cell hgd 1
                      have c2 := blk_cell hgd 2
                      have c3 := blk_cell hgd 3
                      have c4 := blk_cell hgd 4
                      have c5 := blk_cell hgd 5
                      have c6 := blk_cell hgd 6
                      have fc0 := blk_frozen hgd 0
                      have fc1 := blk_frozen hgd 1
                      have fc2 := blk_frozen hgd 2
                      have fc3 := blk_frozen hgd 3
                      have fc4 := blk_frozen hgd 4
                      have fc5 := blk_frozen hgd 5
                      have fc6 := blk_frozen hgd 6
                      simp only [List.getElem?_toArray, List.getElem?_cons_succ, List.getElem?_cons_zero] at c0 c1 c2 c3 c4 c5 c6
                      clear hd hgd
                      generalize (t.op o).2 = r at *
                      generalize (t.op o).1 = t2 at *
                      go_wp2_with fail
                      refine (files_dt HDC.out).mono ?_
                      rintro e wd ⟨Ad, cd, rfl, hcd, hCd, bd⟩
                      have HDD := Aside0.mk (HDC.out.below bd)
                      have HFE := Aside0.mk (show files67 (t2.withR (rig af nn (k))) = files67 t2 from files_same rfl)
                      rw [HFE.out] at hcd hCd ⊢
                      have HCD := Aside0.mk hCd
                      clear hCd bd
                      go_wp2_with fail
                      refine (files_dt HDD.out.swap).mono ?_
                      rintro e we ⟨Ae, ce, rfl, hce, hCe, be⟩
                      have HDE := Aside0.mk (HDD.out.below be)
                      have HCE := Aside0.mk hCe
                      have HCDE := Aside0.mk (Kd.C_below HCD.out be)
                      clear hCe be
                      go_wp2_with fail
                      refine (alike_st HDE.out.swap.ok1 _ Ad cd Ae ce HCDE.out hcd HCE.out hce).mono ?_
                      rintro e wf ⟨rfl, bf⟩
                      have HDF := Aside0.mk (HDE.out.below bf)
                      clear bf
                      go_wp2
                      go_roundw
                      case rel => exact ⟨i + 1, k, t2, by simp, by simp, hlt, by omega, HN2.out, (HDF.out.below (by repeat (with_reducible first | exact Below.refl _ _ | apply below_drew | apply pw_below_drewN))).back HBW.out HZ.out⟩
                      case measure => simp [intOf]; omega
                    · have hk1 : 1 ≤ o.f0 := by omega
                      have hk4 : o.f0 ≤ 4 := by omega
                      cases hnm : isName o.f2 with
                      | false =>
                        have HOP := Aside0.mk (show (t.withR (rig af nn k)).op o = ((t.op o).1.withR (rig af nn k), (t.op o).2) by rw [op_bad hk1 hk4 hnm, op_bad hk1 hk4 hnm])
                        have HN2 := Aside0.mk (norig_op HNT.out hk1 hk4)
                        have b5 : (o.f0 != 5) = true := by simp; omega
                        have HNB := Aside0.mk hnm
                        clear hnm hk1 hk4
                        go_wp2_with fail
                        refine (namedL_calls o.f2 false HNB.out _).mono ?_
                        rintro e wn ⟨rfl, ⟨⟨ndn, rfl⟩⟩⟩
                        have HDN := Aside0.mk (HDT.out.below (pw_below_drewN (Below.refl _ _) ndn))
                        have hgn := blk_upd HGB.out HDN.out.1 HZN.out
                        have n0 := blk_cell hgn 0
                        have n1 := blk_cell hgn 1
                        have n2 := blk_cell hgn 2
                        have n3 := blk_cell hgn 3
                        have n4 := blk_cell hgn 4
                        have n5 := blk_cell hgn 5
                        have n6 := blk_cell hgn 6
                        have fn0 := blk_frozen hgn 0
                        have fn1 := blk_frozen hgn 1
                        have fn2 := blk_frozen hgn 2
                        have fn3 := blk_frozen hgn 3
                        have fn4 := blk_frozen hgn 4
                        have fn5 := blk_frozen hgn 5
                        have fn6 := blk_frozen hgn 6
                        simp only [List.getElem?_toArray, List.getElem?_cons_succ, List.getElem?_cons_zero] at n0 n1 n2 n3 n4 n5 n6
                        clear hgn
                        obtain ⟨X1, hP, okd, hX1, hn'⟩ := HDN.out.open_
                        have HNX := Aside0.mk hn'
                        have HPX := Aside0.mk hP
                        have HX1 := Aside0.mk hX1
                        have HC1 := Aside0.mk (files_calls _ p1 X1 _ hP okd)
                        have HOD := Aside0.mk okd
                        clear hP okd hX1 hn'
                        go_wp2_with fail
                        refine HC1.out.mono ?_
                        rintro e wa ⟨va, rfl, ra, ba⟩
                        obtain ⟨Aa, ca, rfl, hca, _⟩ := Kd.R_reads ra
                        have HDA := Aside0.mk (HDN.out.below ba)
                        have HRA := Aside0.mk ra
                        have HBA := Aside0.mk ba
                        have HCA := Aside0.mk hca
                        have hga := blk_upd HGB.out HDA.out.1 HZN.out
                        have a0 := blk_cell hga 0
                        have a1 := blk_cell hga 1
                        have a2 := blk_cell hga 2
                        have a3 := blk_cell hga 3
                        have a4 := blk_cell hga 4
                        have a5 := blk_cell hga 5
                        have a6 := blk_cell hga 6
                        have fa0 := blk_frozen hga 0
                        have fa1 := blk_frozen hga 1
                        have fa2 := blk_frozen hga 2
                        have fa3 := blk_frozen hga 3
                        have fa4 := blk_frozen hga 4
                        have fa5 := blk_frozen hga 5
                        have fa6 := blk_frozen hga 6
                        simp only [List.getElem?_toArray, List.getElem?_cons_succ, List.getElem?_cons_zero] at a0 a1 a2 a3 a4 a5 a6
                        have HC2 := Aside0.mk (does_calls wa p1 w.heap.size X1 _ o A5 c5 A6 c6 (HPX.out.below ba) HOD.out (Nat.le_trans hbz HDA.out.1.size) (fun q hq => (HX1.out q hq).elim (HZ.out q) (fun h => Nat.le_trans hbz h)) (HIN.out.below (HDA.out.1.below hbz HZ.out)) HG.out.g)
                        rw [HOP.out] at HC2
                        clear ra ba hca hga
                        go_wp2_with fail
                        refine HC2.out.mono ?_
                        rintro e wb ⟨rfl, hs⟩
                        have HDB := Aside0.mk (HNX.out wb _ (PStep.early HPX.out HBA.out hs) (by have := HOD.out.op HG.out.g; rw [HOP.out] at this; exact this))
                        have HRB := Aside0.mk (files_keep HRA.out hs.2 HPX.out.bd)
                        have hgc := blk_upd HGB.out HDB.out.1 HZN.out
                        have b0 := blk_cell hgc 0
                        have b1 := blk_cell hgc 1
                        have b2 := blk_cell hgc 2
                        have b3 := blk_cell hgc 3
                        have b4 := blk_cell hgc 4
                        have b5 := blk_cell hgc 5
                        have b6 := blk_cell hgc 6
                        have fb0 := blk_frozen hgc 0
                        have fb1 := blk_frozen hgc 1
                        have fb2 := blk_frozen hgc 2
                        have fb3 := blk_frozen hgc 3
                        have fb4 := blk_frozen hgc 4
                        have fb5 := blk_frozen hgc 5
                        have fb6 := blk_frozen hgc 6
                        simp only [List.getElem?_toArray, List.getElem?_cons_succ, List.getElem?_cons_zero] at b0 b1 b2 b3 b4 b5 b6
                        clear hs hgc
                        go_wp2_with fail
                        refine (does_dt HDB.out.swap o A5 c5 A6 c6 hbz HZ.out HIN.out HG.out.g).mono ?_
                        rintro e wc ⟨rfl, hd⟩
                        have HDC := Aside0.mk hd.swap
                        have hgd := blk_upd HGB.out HDC.out.1 HZN.out
                        have c0 := blk_cell hgd 0
                        have c1 := blk_cell hgd 1
                        have c2 := blk_cell hgd 2
                        have c3 := blk_cell hgd 3
                        have c4 := blk_cell hgd 4
                        have c5 := blk_cell hgd 5
                        have c6 := blk_cell hgd 6
                        have fc0 := blk_frozen hgd 0
                        have fc1 := blk_frozen hgd 1
                        have fc2 := blk_frozen hgd 2
                        have fc3 := blk_frozen hgd 3
                        have fc4 := blk_frozen hgd 4
                        have fc5 := blk_frozen hgd 5
                        have fc6 := blk_frozen hgd 6
                        simp only [List.getElem?_toArray, List.getElem?_cons_succ, List.getElem?_cons_zero] at c0 c1 c2 c3 c4 c5 c6
                        clear hd hgd
                        generalize (t.op o).2 = r at *
                        generalize (t.op o).1 = t2 at *
                        go_wp2_with fail
                        refine (files_dt HDC.out).mono ?_
                        rintro e wd ⟨Ad, cd, rfl, hcd, hCd, bd⟩
                        have HDD := Aside0.mk (HDC.out.below bd)
                        have HFE := Aside0.mk (show files67 (t2.withR (rig af nn (k))) = files67 t2 from files_same rfl)
                        rw [HFE.out] at hcd hCd ⊢
                        have HCD := Aside0.mk hCd
                        clear hCd bd
                        go_wp2_with fail
                        refine (files_dt HDD.out.swap).mono ?_
                        rintro e we ⟨Ae, ce, rfl, hce, hCe, be⟩
                        have HDE := Aside0.mk (HDD.out.below be)
                        have HCE := Aside0.mk hCe
                        have HCDE := Aside0.mk (Kd.C_below HCD.out be)
                        clear hCe be
                        go_wp2_with fail
                        refine (alike_st HDE.out.swap.ok1 _ Ad cd Ae ce HCDE.out hcd HCE.out hce).mono ?_
                        rintro e wf ⟨rfl, bf⟩
                        have HDF := Aside0.mk (HDE.out.below bf)
                        clear bf
                        go_wp2
                        go_roundw
                        case rel => exact ⟨i + 1, k, t2, by simp, by simp, hlt, by omega, HN2.out, (HDF.out.below (by repeat (with_reducible first | exact Below.refl _ _ | apply below_drew | apply pw_below_drewN))).back HBW.out HZ.out⟩
                        case measure => simp [intOf]; omega
                      | true =>
                        by_cases hw1 : af < (k : Int) + 1
                        · by_cases hw2 : (k : Int) + 1 - af ≤ nn
                          · skip
                            have HOP := Aside0.mk (rig_window HNT.out hk1 hk4 hnm HA0.out HN0.out HNA.out k ⟨hw1, hw2⟩)
                            have hws : wrap64 ((k : Int) + 1 - af) = (k : Int) + 1 - af := w64 (by omega) (by have := HA0.out; omega)
                            have b5 : (o.f0 != 5) = true := by simp; omega
                            have HNB := Aside0.mk hnm
                            clear hnm hk1 hk4
                            go_wp2_with fail
                            refine (namedL_calls o.f2 true HNB.out _).mono ?_
                            rintro e wn ⟨rfl, ⟨⟨ndn, rfl⟩⟩⟩
                            have HDN := Aside0.mk (HDT.out.below (pw_below_drewN (Below.refl _ _) ndn))
                            have hgn := blk_upd HGB.out HDN.out.1 HZN.out
                            have n0 := blk_cell hgn 0
                            have n1 := blk_cell hgn 1
                            have n2 := blk_cell hgn 2
                            have n3 := blk_cell hgn 3
                            have n4 := blk_cell hgn 4
                            have n5 := blk_cell hgn 5
                            have n6 := blk_cell hgn 6
                            have fn0 := blk_frozen hgn 0
                            have fn1 := blk_frozen hgn 1
                            have fn2 := blk_frozen hgn 2
                            have fn3 := blk_frozen hgn 3
                            have fn4 := blk_frozen hgn 4
                            have fn5 := blk_frozen hgn 5
                            have fn6 := blk_frozen hgn 6
                            simp only [List.getElem?_toArray, List.getElem?_cons_succ, List.getElem?_cons_zero] at n0 n1 n2 n3 n4 n5 n6
                            clear hgn
                            obtain ⟨X1, hP, okd, hX1, hn'⟩ := HDN.out.open_
                            have HNX := Aside0.mk hn'
                            have HPX := Aside0.mk hP
                            have HX1 := Aside0.mk hX1
                            have HC1 := Aside0.mk (files_calls _ p1 X1 _ hP okd)
                            have HOD := Aside0.mk okd
                            clear hP okd hX1 hn'
                            go_wp2_with fail
                            refine HC1.out.mono ?_
                            rintro e wa ⟨va, rfl, ra, ba⟩
                            obtain ⟨Aa, ca, rfl, hca, _⟩ := Kd.R_reads ra
                            have HDA := Aside0.mk (HDN.out.below ba)
                            have HRA := Aside0.mk ra
                            have HBA := Aside0.mk ba
                            have HCA := Aside0.mk hca
                            have hga := blk_upd HGB.out HDA.out.1 HZN.out
                            have a0 := blk_cell hga 0
                            have a1 := blk_cell hga 1
                            have a2 := blk_cell hga 2
                            have a3 := blk_cell hga 3
                            have a4 := blk_cell hga 4
                            have a5 := blk_cell hga 5
                            have a6 := blk_cell hga 6
                            have fa0 := blk_frozen hga 0
                            have fa1 := blk_frozen hga 1
                            have fa2 := blk_frozen hga 2
                            have fa3 := blk_frozen hga 3
                            have fa4 := blk_frozen hga 4
                            have fa5 := blk_frozen hga 5
                            have fa6 := blk_frozen hga 6
                            simp only [List.getElem?_toArray, List.getElem?_cons_succ, List.getElem?_cons_zero] at a0 a1 a2 a3 a4 a5 a6
                            have HC2 := Aside0.mk (does_calls wa p1 w.heap.size X1 _ o A5 c5 A6 c6 (HPX.out.below ba) HOD.out (Nat.le_trans hbz HDA.out.1.size) (fun q hq => (HX1.out q hq).elim (HZ.out q) (fun h => Nat.le_trans hbz h)) (HIN.out.below (HDA.out.1.below hbz HZ.out)) HG.out.g)
                            rw [HOP.out] at HC2
                            clear ra ba hca hga
                            go_wp2_with fail
                            refine HC2.out.mono ?_
                            rintro e wb ⟨rfl, hs⟩
                            have HDB := Aside0.mk (HNX.out wb _ (PStep.early HPX.out HBA.out hs) (by have := HOD.out.op HG.out.g; rw [HOP.out] at this; exact this))
                            have HRB := Aside0.mk (files_keep HRA.out hs.2 HPX.out.bd)
                            have hgc := blk_upd HGB.out HDB.out.1 HZN.out
                            have b0 := blk_cell hgc 0
                            have b1 := blk_cell hgc 1
                            have b2 := blk_cell hgc 2
                            have b3 := blk_cell hgc 3
                            have b4 := blk_cell hgc 4
                            have b5 := blk_cell hgc 5
                            have b6 := blk_cell hgc 6
                            have fb0 := blk_frozen hgc 0
                            have fb1 := blk_frozen hgc 1
                            have fb2 := blk_frozen hgc 2
                            have fb3 := blk_frozen hgc 3
                            have fb4 := blk_frozen hgc 4
                            have fb5 := blk_frozen hgc 5
                            have fb6 := blk_frozen hgc 6
                            simp only [List.getElem?_toArray, List.getElem?_cons_succ, List.getElem?_cons_zero] at b0 b1 b2 b3 b4 b5 b6
                            clear hs hgc
                            go_wp2_with fail
                            refine (files_dt HDB.out).mono ?_
                            rintro e wc ⟨Ac, cc, rfl, hcc, hCc, bc⟩
                            have HDC := Aside0.mk (HDB.out.below bc)
                            have HCC := Aside0.mk hCc
                            have HRC := Aside0.mk (Kd.C_below (Kd.R_reads' HRB.out).2.2 bc)
                            have HFE := Aside0.mk (show files67 (t.withR (rig af nn (k + 1))) = files67 (t.withR (rig af nn k)) from files_same rfl)
                            clear hCc bc
                            rw [HFE.out] at HCC hcc ⊢
                            go_wp2_with fail
                            refine (alike_st HOD.out _ Ac cc Aa ca HCC.out hcc HRC.out HCA.out).mono ?_
                            rintro e wd ⟨rfl, bd⟩
                            have HDD := Aside0.mk (HDC.out.below bd)
                            clear bd
                            go_wp2
                            go_roundw
                            case rel => exact ⟨i + 1, k + 1, t, by simp, by simp, hlt, by omega, HNT.out, (HDD.out.below (by repeat (with_reducible first | exact Below.refl _ _ | apply below_drew | apply pw_below_drewN))).back HBW.out HZ.out⟩
                            case measure => simp [intOf]; omega
                          · skip
                            have HOP := Aside0.mk (rig_past HNT.out hk1 hk4 hnm HA0.out HN0.out HNA.out k (fun h => hw2 h.2))
                            have HN2 := Aside0.mk (norig_op HNT.out hk1 hk4)
                            have hws : wrap64 ((k : Int) + 1 - af) = (k : Int) + 1 - af := w64 (by omega) (by have := HA0.out; omega)
                            have b5 : (o.f0 != 5) = true := by simp; omega
                            have HNB := Aside0.mk hnm
                            clear hnm hk1 hk4
                            go_wp2_with fail
                            refine (namedL_calls o.f2 true HNB.out _).mono ?_
                            rintro e wn ⟨rfl, ⟨⟨ndn, rfl⟩⟩⟩
                            have HDN := Aside0.mk (HDT.out.below (pw_below_drewN (Below.refl _ _) ndn))
                            have hgn := blk_upd HGB.out HDN.out.1 HZN.out
                            have n0 := blk_cell hgn 0
                            have n1 := blk_cell hgn 1
                            have n2 := blk_cell hgn 2
                            have n3 := blk_cell hgn 3
                            have n4 := blk_cell hgn 4
                            have n5 := blk_cell hgn 5
                            have n6 := blk_cell hgn 6
                            have fn0 := blk_frozen hgn 0
                            have fn1 := blk_frozen hgn 1
                            have fn2 := blk_frozen hgn 2
                            have fn3 := blk_frozen hgn 3
                            have fn4 := blk_frozen hgn 4
                            have fn5 := blk_frozen hgn 5
                            have fn6 := blk_frozen hgn 6
                            simp only [List.getElem?_toArray, List.getElem?_cons_succ, List.getElem?_cons_zero] at n0 n1 n2 n3 n4 n5 n6
                            clear hgn
                            obtain ⟨X1, hP, okd, hX1, hn'⟩ := HDN.out.open_
                            have HNX := Aside0.mk hn'
                            have HPX := Aside0.mk hP
                            have HX1 := Aside0.mk hX1
                            have HC1 := Aside0.mk (files_calls _ p1 X1 _ hP okd)
                            have HOD := Aside0.mk okd
                            clear hP okd hX1 hn'
                            go_wp2_with fail
                            refine HC1.out.mono ?_
                            rintro e wa ⟨va, rfl, ra, ba⟩
                            obtain ⟨Aa, ca, rfl, hca, _⟩ := Kd.R_reads ra
                            have HDA := Aside0.mk (HDN.out.below ba)
                            have HRA := Aside0.mk ra
                            have HBA := Aside0.mk ba
                            have HCA := Aside0.mk hca
                            have hga := blk_upd HGB.out HDA.out.1 HZN.out
                            have a0 := blk_cell hga 0
                            have a1 := blk_cell hga 1
                            have a2 := blk_cell hga 2
                            have a3 := blk_cell hga 3
                            have a4 := blk_cell hga 4
                            have a5 := blk_cell hga 5
                            have a6 := blk_cell hga 6
                            have fa0 := blk_frozen hga 0
                            have fa1 := blk_frozen hga 1
                            have fa2 := blk_frozen hga 2
                            have fa3 := blk_frozen hga 3
                            have fa4 := blk_frozen hga 4
                            have fa5 := blk_frozen hga 5
                            have fa6 := blk_frozen hga 6
                            simp only [List.getElem?_toArray, List.getElem?_cons_succ, List.getElem?_cons_zero] at a0 a1 a2 a3 a4 a5 a6
                            have HC2 := Aside0.mk (does_calls wa p1 w.heap.size X1 _ o A5 c5 A6 c6 (HPX.out.below ba) HOD.out (Nat.le_trans hbz HDA.out.1.size) (fun q hq => (HX1.out q hq).elim (HZ.out q) (fun h => Nat.le_trans hbz h)) (HIN.out.below (HDA.out.1.below hbz HZ.out)) HG.out.g)
                            rw [HOP.out] at HC2
                            clear ra ba hca hga
                            go_wp2_with fail
                            refine HC2.out.mono ?_
                            rintro e wb ⟨rfl, hs⟩
                            have HDB := Aside0.mk (HNX.out wb _ (PStep.early HPX.out HBA.out hs) (by have := HOD.out.op HG.out.g; rw [HOP.out] at this; exact this))
                            have HRB := Aside0.mk (files_keep HRA.out hs.2 HPX.out.bd)
                            have hgc := blk_upd HGB.out HDB.out.1 HZN.out
                            have b0 := blk_cell hgc 0
                            have b1 := blk_cell hgc 1
                            have b2 := blk_cell hgc 2
                            have b3 := blk_cell hgc 3
                            have b4 := blk_cell hgc 4
                            have b5 := blk_cell hgc 5
                            have b6 := blk_cell hgc 6
                            have fb0 := blk_frozen hgc 0
                            have fb1 := blk_frozen hgc 1
                            have fb2 := blk_frozen hgc 2
                            have fb3 := blk_frozen hgc 3
                            have fb4 := blk_frozen hgc 4
                            have fb5 := blk_frozen hgc 5
                            have fb6 := blk_frozen hgc 6
                            simp only [List.getElem?_toArray, List.getElem?_cons_succ, List.getElem?_cons_zero] at b0 b1 b2 b3 b4 b5 b6
                            clear hs hgc
                            go_wp2_with fail
                            refine (does_dt HDB.out.swap o A5 c5 A6 c6 hbz HZ.out HIN.out HG.out.g).mono ?_
                            rintro e wc ⟨rfl, hd⟩
                            have HDC := Aside0.mk hd.swap
                            have hgd := blk_upd HGB.out HDC.out.1 HZN.out
                            have c0 := blk_cell hgd 0
                            have c1 := blk_cell hgd 1
                            have c2 := blk_cell hgd 2
                            have c3 := blk_cell hgd 3
                            have c4 := blk_cell hgd 4
                            have c5 := blk_cell hgd 5
                            have c6 := blk_cell hgd 6
                            have fc0 := blk_frozen hgd 0
                            have fc1 := blk_frozen hgd 1
                            have fc2 := blk_frozen hgd 2
                            have fc3 := blk_frozen hgd 3
                            have fc4 := blk_frozen hgd 4
                            have fc5 := blk_frozen hgd 5
                            have fc6 := blk_frozen hgd 6
                            simp only [List.getElem?_toArray, List.getElem?_cons_succ, List.getElem?_cons_zero] at c0 c1 c2 c3 c4 c5 c6
                            clear hd hgd
                            generalize (t.op o).2 = r at *
                            generalize (t.op o).1 = t2 at *
                            go_wp2_with fail
                            refine (files_dt HDC.out).mono ?_
                            rintro e wd ⟨Ad, cd, rfl, hcd, hCd, bd⟩
                            have HDD := Aside0.mk (HDC.out.below bd)
                            have HFE := Aside0.mk (show files67 (t2.withR (rig af nn (k + 1))) = files67 t2 from files_same rfl)
                            rw [HFE.out] at hcd hCd ⊢
                            have HCD := Aside0.mk hCd
                            clear hCd bd
                            go_wp2_with fail
                            refine (files_dt HDD.out.swap).mono ?_
                            rintro e we ⟨Ae, ce, rfl, hce, hCe, be⟩
                            have HDE := Aside0.mk (HDD.out.below be)
                            have HCE := Aside0.mk hCe
                            have HCDE := Aside0.mk (Kd.C_below HCD.out be)
                            clear hCe be
                            go_wp2_with fail
                            refine (alike_st HDE.out.swap.ok1 _ Ad cd Ae ce HCDE.out hcd HCE.out hce).mono ?_
                            rintro e wf ⟨rfl, bf⟩
                            have HDF := Aside0.mk (HDE.out.below bf)
                            clear bf
                            go_wp2
                            go_roundw
                            case rel => exact ⟨i + 1, k + 1, t2, by simp, by simp, hlt, by omega, HN2.out, (HDF.out.below (by repeat (with_reducible first | exact Below.refl _ _ | apply below_drew | apply pw_below_drewN))).back HBW.out HZ.out⟩
                            case measure => simp [intOf]; omega
                        · skip
                          have HOP := Aside0.mk (rig_past HNT.out hk1 hk4 hnm HA0.out HN0.out HNA.out k (fun h => hw1 h.1))
                          have HN2 := Aside0.mk (norig_op HNT.out hk1 hk4)
                          have b5 : (o.f0 != 5) = true := by simp; omega
                          have HNB := Aside0.mk hnm
                          clear hnm hk1 hk4
                          go_wp2_with fail
                          refine (namedL_calls o.f2 true HNB.out _).mono ?_
                          rintro e wn ⟨rfl, ⟨⟨ndn, rfl⟩⟩⟩
                          have HDN := Aside0.mk (HDT.out.below (pw_below_drewN (Below.refl _ _) ndn))
                          have hgn := blk_upd HGB.out HDN.out.1 HZN.out
                          have n0 := blk_cell hgn 0
                          have n1 := blk_cell hgn 1
                          have n2 := blk_cell hgn 2
                          have n3 := blk_cell hgn 3
                          have n4 := blk_cell hgn 4
                          have n5 := blk_cell hgn 5
                          have n6 := blk_cell hgn 6
                          have fn0 := blk_frozen hgn 0
                          have fn1 := blk_frozen hgn 1
                          have fn2 := blk_frozen hgn 2
                          have fn3 := blk_frozen hgn 3
                          have fn4 := blk_frozen hgn 4
                          have fn5 := blk_frozen hgn 5
                          have fn6 := blk_frozen hgn 6
                          simp only [List.getElem?_toArray, List.getElem?_cons_succ, List.getElem?_cons_zero] at n0 n1 n2 n3 n4 n5 n6
                          clear hgn
                          obtain ⟨X1, hP, okd, hX1, hn'⟩ := HDN.out.open_
                          have HNX := Aside0.mk hn'
                          have HPX := Aside0.mk hP
                          have HX1 := Aside0.mk hX1
                          have HC1 := Aside0.mk (files_calls _ p1 X1 _ hP okd)
                          have HOD := Aside0.mk okd
                          clear hP okd hX1 hn'
                          go_wp2_with fail
                          refine HC1.out.mono ?_
                          rintro e wa ⟨va, rfl, ra, ba⟩
                          obtain ⟨Aa, ca, rfl, hca, _⟩ := Kd.R_reads ra
                          have HDA := Aside0.mk (HDN.out.below ba)
                          have HRA := Aside0.mk ra
                          have HBA := Aside0.mk ba
                          have HCA := Aside0.mk hca
                          have hga := blk_upd HGB.out HDA.out.1 HZN.out
                          have a0 := blk_cell hga 0
                          have a1 := blk_cell hga 1
                          have a2 := blk_cell hga 2
                          have a3 := blk_cell hga 3
                          have a4 := blk_cell hga 4
                          have a5 := blk_cell hga 5
                          have a6 := blk_cell hga 6
                          have fa0 := blk_frozen hga 0
                          have fa1 := blk_frozen hga 1
                          have fa2 := blk_frozen hga 2
                          have fa3 := blk_frozen hga 3
                          have fa4 := blk_frozen hga 4
                          have fa5 := blk_frozen hga 5
                          have fa6 := blk_frozen hga 6
                          simp only [List.getElem?_toArray, List.getElem?_cons_succ, List.getElem?_cons_zero] at a0 a1 a2 a3 a4 a5 a6
                          have HC2 := Aside0.mk (does_calls wa p1 w.heap.size X1 _ o A5 c5 A6 c6 (HPX.out.below ba) HOD.out (Nat.le_trans hbz HDA.out.1.size) (fun q hq => (HX1.out q hq).elim (HZ.out q) (fun h => Nat.le_trans hbz h)) (HIN.out.below (HDA.out.1.below hbz HZ.out)) HG.out.g)
                          rw [HOP.out] at HC2
                          clear ra ba hca hga
                          go_wp2_with fail
                          refine HC2.out.mono ?_
                          rintro e wb ⟨rfl, hs⟩
                          have HDB := Aside0.mk (HNX.out wb _ (PStep.early HPX.out HBA.out hs) (by have := HOD.out.op HG.out.g; rw [HOP.out] at this; exact this))
                          have HRB := Aside0.mk (files_keep HRA.out hs.2 HPX.out.bd)
                          have hgc := blk_upd HGB.out HDB.out.1 HZN.out
                          have b0 := blk_cell hgc 0
                          have b1 := blk_cell hgc 1
                          have b2 := blk_cell hgc 2
                          have b3 := blk_cell hgc 3
                          have b4 := blk_cell hgc 4
                          have b5 := blk_cell hgc 5
                          have b6 := blk_cell hgc 6
                          have fb0 := blk_frozen hgc 0
                          have fb1 := blk_frozen hgc 1
                          have fb2 := blk_frozen hgc 2
                          have fb3 := blk_frozen hgc 3
                          have fb4 := blk_frozen hgc 4
                          have fb5 := blk_frozen hgc 5
                          have fb6 := blk_frozen hgc 6
                          simp only [List.getElem?_toArray, List.getElem?_cons_succ, List.getElem?_cons_zero] at b0 b1 b2 b3 b4 b5 b6
                          clear hs hgc
                          go_wp2_with fail
                          refine (does_dt HDB.out.swap o A5 c5 A6 c6 hbz HZ.out HIN.out HG.out.g).mono ?_
                          rintro e wc ⟨rfl, hd⟩
                          have HDC := Aside0.mk hd.swap
                          have hgd := blk_upd HGB.out HDC.out.1 HZN.out
                          have c0 := blk_cell hgd 0
                          have c1 := blk_cell hgd 1
                          have c2 := blk_cell hgd 2
                          have c3 := blk_cell hgd 3
                          have c4 := blk_cell hgd 4
                          have c5 := blk_cell hgd 5
                          have c6 := blk_cell hgd 6
                          have fc0 := blk_frozen hgd 0
                          have fc1 := blk_frozen hgd 1
                          have fc2 := blk_frozen hgd 2
                          have fc3 := blk_frozen hgd 3
                          have fc4 := blk_frozen hgd 4
                          have fc5 := blk_frozen hgd 5
                          have fc6 := blk_frozen hgd 6
                          simp only [List.getElem?_toArray, List.getElem?_cons_succ, List.getElem?_cons_zero] at c0 c1 c2 c3 c4 c5 c6
                          clear hd hgd
                          generalize (t.op o).2 = r at *
                          generalize (t.op o).1 = t2 at *
                          go_wp2_with fail
                          refine (files_dt HDC.out).mono ?_
                          rintro e wd ⟨Ad, cd, rfl, hcd, hCd, bd⟩
                          have HDD := Aside0.mk (HDC.out.below bd)
                          have HFE := Aside0.mk (show files67 (t2.withR (rig af nn (k + 1))) = files67 t2 from files_same rfl)
                          rw [HFE.out] at hcd hCd ⊢
                          have HCD := Aside0.mk hCd
                          clear hCd bd
                          go_wp2_with fail
                          refine (files_dt HDD.out.swap).mono ?_
                          rintro e we ⟨Ae, ce, rfl, hce, hCe, be⟩
                          have HDE := Aside0.mk (HDD.out.below be)
                          have HCE := Aside0.mk hCe
                          have HCDE := Aside0.mk (Kd.C_below HCD.out be)
                          clear hCe be
                          go_wp2_with fail
                          refine (alike_st HDE.out.swap.ok1 _ Ad cd Ae ce HCDE.out hcd HCE.out hce).mono ?_
                          rintro e wf ⟨rfl, bf⟩
                          have HDF := Aside0.mk (HDE.out.below bf)
                          clear bf
                          go_wp2
                          go_roundw
                          case rel => exact ⟨i + 1, k + 1, t2, by simp, by simp, hlt, by omega, HN2.out, (HDF.out.below (by repeat (with_reducible first | exact Below.refl _ _ | apply below_drew | apply pw_below_drewN))).back HBW.out HZ.out⟩
                          case measure => simp [intOf]; omega
              · obtain rfl : i = ops.length := by omega
                clear hdu hnr
                go_wp2
                go_ret
                exact ⟨rfl, HDU.out.bel.trans ((show Below wr.heap.size wr _ by repeat (with_reducible first | exact Below.refl _ _ | apply below_drew | apply pw_below_drewN)).mono HDU.out.bel.size)⟩
end Go.Proofs.Ytfholpajdkjbbaa.DK
