/- DiskSure: behind each restart each file is the first bytes of what it was; conditions: those in each theorem. -/
import Derived.Test.YtfholpajdkjbbaaQdLr
namespace Go.Proofs.Ytfholpajdkjbbaa.DK
open Go.Proofs.Ytfholpajdkjbbaa.PD
open Go.RowKit Go.Proofs.YtfholpajdkjbbaaW.PrintWords Go.Proofs.YtfholpajdkjbbaaW.PrintLast Go.Proofs.YtfholpajdkjbbaaW.PrintMore Go.Proofs.Ytfholpajdkjbbaa.Mo
set_option linter.unusedVariables false
set_option linter.unusedSimpArgs false
theorem files67_get (s : St) (i : Nat) : (files67 s)[i]? = (s.all[i]?).map fun f => ⟨f.name, f.data, (f.sure.length : Int)⟩ := by
  unfold files67 St.files
  rw [List.map_map, List.getElem?_map]
  rfl
theorem surv_restart {s : St} (ok : Ok s) (keep : List Int) (i : Nat) (b a : S67) (hb : (files67 s)[i]? = some b) (ha : (files67 (s.restart keep))[i]? = some a) : Surv keep i b a := by
  rw [files67_get] at hb ha
  have hall : (s.restart keep).all = s.all.mapIdx fun i f => St.F.kept f (St.keepOf keep i) := rfl
  rw [hall, List.getElem?_mapIdx] at ha
  cases hf : s.all[i]? with
  | none => rw [hf] at hb; cases hb
  | some f =>
    rw [hf] at hb ha
    obtain rfl : (⟨f.name, f.data, (f.sure.length : Int)⟩ : S67) = b := Option.some.inj hb
    obtain rfl : (⟨(St.F.kept f (St.keepOf keep i)).name, (St.F.kept f (St.keepOf keep i)).data, ((St.F.kept f (St.keepOf keep i)).sure.length : Int)⟩ : S67) = a := Option.some.inj ha
    have hk0 : 0 ≤ St.keepOf keep i := by unfold St.keepOf; split <;> omega
    have hsm := ok.small f (List.mem_of_getElem? hf)
    have hdl := data_length f
    have hfl : f.len = f.sure.length + f.loose.length := rfl
    obtain ⟨k, hk⟩ : ∃ k, St.keepOf keep i = k := ⟨_, rfl⟩
    rw [hk] at hk0
    have hlen : (f.sure ++ f.loose.take k.toNat).length = f.sure.length + min k.toNat f.loose.length := by rw [List.length_append, List.length_take]
    refine ⟨rfl, by dsimp only; omega, by dsimp only; omega, by dsimp only; omega, ?_, ?_⟩
    · show ((f.sure ++ f.loose.take (St.keepOf keep i).toNat).length : Int) = f.sure.length + min (St.keepOf keep i) ((f.data.length : Int) - f.sure.length)
      rw [hk, hlen]
      omega
    · show f.sure ++ f.loose.take (St.keepOf keep i).toNat ++ [] = f.data.take ((f.sure ++ f.loose.take (St.keepOf keep i).toNat).length : Int).toNat
      rw [hk, List.append_nil, hlen, Int.toNat_natCast]
      unfold F.data
      rw [List.take_append, List.take_of_length_le (by omega : f.sure.length ≤ f.sure.length + min k.toNat f.loose.length)]
      congr 1
      rw [show f.sure.length + min k.toNat f.loose.length - f.sure.length = min k.toNat f.loose.length by omega]
      by_cases h : k.toNat ≤ f.loose.length
      · rw [Nat.min_eq_left h]
      · rw [Nat.min_eq_right (by omega), List.take_of_length_le (by omega), List.take_of_length_le (Nat.le_refl _)]
theorem restart_len (s : St) (keep : List Int) : (s.restart keep).all.length = s.all.length := by
  show (s.all.mapIdx _).length = _
  rw [List.length_mapIdx]
def nm12 : ByteArray := ⟨#[110, 111, 110, 101, 45, 115, 117, 99, 104, 45, 49, 50]⟩
theorem up_sync {s : St} (hd : s.down = false) (hl : s.left < 0) (hf : s.fails = 0) : ((s.sync nm12).2 = 0 ∨ (s.sync nm12).2 = 103) ∧ (s.sync nm12).1.all.length = s.all.length := by
  have hn : isName nm12 = true := by kernel_rfl
  have ha : s.ahead nm12 true = (s, 0) := by
    unfold St.ahead
    rw [if_neg (by rw [hn]; decide), if_neg (by rw [hd]; decide), if_pos (.inr hf)]
  unfold St.sync
  cases hq : find s.all nm12 with
  | none => rw [change_none (by rw [ha]) hq, ha]; exact ⟨.inr rfl, rfl⟩
  | some f =>
    have hp : s.pays 1 = (s, true) := by unfold St.pays; rw [if_pos hl]
    rw [change_go (f := f) (by rw [ha]) hq (by rw [ha, hp])]
    refine ⟨.inl rfl, ?_⟩
    rw [ha, hp]
    show (upd _ _ s.all).length = _
    unfold Mo.upd
    rw [List.length_map]
theorem restart_up (s : St) (keep : List Int) : (s.restart keep).down = false ∧ (s.restart keep).left < 0 ∧ (s.restart keep).fails = 0 := ⟨rfl, (by decide : (-1 : Int) < 0), rfl⟩
theorem up_list {s : St} (hd : s.down = false) : s.list = (namesOf s.all, 0) := by
  unfold St.list
  rw [if_neg (by rw [hd]; decide)]
structure SureI (w wr : World) (p n i : Nat) : Prop where
  le : i ≤ n
  bel : Below w.heap.size w wr
  pr : ∃ X s, Prog wr p X s ∧ Ok s ∧ ∀ k, X k → w.heap.size ≤ k
def SureE (w : World) (p n : Nat) (iv : Value) (wr : World) : Prop := ∃ i : Nat, iv = .int .i64 i ∧ SureI w wr p n i
theorem SureI.step {w wr W w5 w6 : World} {p n i : Nat} {X : Nat → Prop} {s : St} (hb : Below w.heap.size w wr) (hw : Below wr.heap.size wr W) (hz : ∀ k, X k → w.heap.size ≤ k) (hs : PStep p X W w5 s) (ok : Ok s) (h6 : Below w5.heap.size w5 w6) (hi : i ≤ n) : SureI w w6 p n i := by
  have h1 := hb.trans (hw.mono hb.size)
  have h2 := h1.trans (hs.2.below h1.size hz)
  exact ⟨hi, h2.trans (h6.mono h2.size), _, s, hs.1.below h6, ok, fun k hk => hk.elim (hz k) (fun h => Nat.le_trans h1.size h.1)⟩
/-- A list of files that was told, behind a call that writes the disk's own blocks. -/
theorem files_keep {w0 w w' : World} {v : Value} {l : List S67} {X : Nat → Prop} (h : k67.R 67 w w0.heap.size (fun _ => True) v l) (hu : Upd X w w') (hX : ∀ k, X k → k < w0.heap.size) : k67.R 67 w' w0.heap.size (fun _ => True) v l :=
  Kd.R_mono (Kd.R_move (Kd.R_bound h) (fun k hk => hu.same k hk.2.2.1 (fun hx => absurd (hX k hx) (Nat.not_lt.2 hk.2.1)))) (fun _ _ => trivial)
theorem survives_n {n : Nat} (w : World) (A : Option Addr) (c : Nat) (l : List S67) (hr : k67.C w A l.length l) (hc : l.length ≤ c) (A' : Option Addr) (c' : Nat) (l' : List S67) (hr' : k67.C w A' l'.length l') (hc' : l'.length ≤ c')
    (K : Option Addr) (ck : Nat) (keep : List Int) (hk : (Kd.int .i64).C w K keep.length keep) (hck : keep.length ≤ ck) (hl : l.length ≤ 1000) (hkl : keep.length ≤ 2 ^ 40) (hn : l.length = n) (hn' : l'.length = n) (hs : ∀ i b a, l[i]? = some b → l'[i]? = some a → Surv keep i b a) :
    Calls Try.prog 25 #[.slice A n c, .slice A' n c', .slice K keep.length ck] w fun e w' => e = .returned (.bool true) ∧ Below w.heap.size w w' := by
  have h := survives_calls w A c l hr hc A' c' l' hr' hc' K ck keep hk hck hl hkl (hn'.trans hn.symm) hs
  rw [hn, hn'] at h
  exact h
theorem new0_calls (w : World) : Calls Try.prog 20 #[.slice none 0 0] w fun e w' => ∃ p, e = .returned (.tuple #[.pointer (some ⟨p, 0, none⟩), .int .i64 0]) ∧ Prog w' p (From w.heap.size w') (stOf []) ∧ Below w.heap.size w w' :=
  (new_calls w none 0 [] (Kd.C_nil _ _) (Nat.le_refl _) (fun x hx => by cases hx)).mono (fun e w' h => h)
set_option maxHeartbeats 16000000 in
set_option maxRecDepth 100000 in
theorem sure_calls (w : World) (A1 : Option Addr) (c1 : Nat) (ops : List S41) (hr1 : k41.C w A1 ops.length ops) (hc1 : ops.length ≤ c1) (hl1 : ops.length ≤ 1048576) (hb1 : bulkO ops ≤ 1048576) (hg : ∀ o ∈ ops, GoodK o) :
    Calls Try.prog 4 #[.slice A1 ops.length c1] w fun e w' => e = .returned (.bool true) ∧ Below w.heap.size w w' := by
  have HF := Aside0.mk (fits_calls w none 0 [] A1 c1 ops (Kd.C_nil _ _) (Nat.le_refl _) hr1 hc1 (by decide) (by omega) (by simp only [bulkF]; omega))
  have HR1 := Aside0.mk hr1
  have HGD := Aside0.mk hg
  clear hr1 hg hb1
  cases hfit : fitsB [] ops with
  | false =>
    rw [hfit] at HF
    clear hfit
    go_enter Try.func4, Try.ntmps4
    go_wp2_with fail
    refine HF.out.mono ?_
    rintro e w1 ⟨rfl, ⟨⟨nd, rfl⟩⟩⟩
    go_wp2
    go_ret
    exact ⟨rfl, pw_below_drewN (Below.refl _ _) _⟩
  | true =>
    rw [hfit] at HF
    clear hfit
    go_enter Try.func4, Try.ntmps4
    go_wp2_with fail
    refine HF.out.mono ?_
    rintro e w1 ⟨rfl, ⟨⟨nd, rfl⟩⟩⟩
    go_wp2_with fail
    refine (new0_calls _).mono ?_
    rintro e w2 ⟨p, rfl, hP, hB⟩
    have HB2 := Aside0.mk ((pw_below_drewN (Below.refl w.heap.size w) nd).trans hB)
    have HPR := Aside0.mk hP
    have HX0 := Aside0.mk (show ∀ k, From (w.drewN nd).heap.size w2 k → w.heap.size ≤ k from fun k hk => hk.1)
    clear hP hB
    go_wp2_with fail
    refine (num_calls _ _).mono ?_
    rintro e w3 ⟨rfl, ⟨⟨nd2, rfl⟩⟩⟩
    go_wp2_with fail
    refine (works_calls _ p _ (HPR.out.below (pw_below_drewN (Below.refl _ _) nd2))).mono ?_
    rintro e w4 ⟨rfl, hs⟩
    have HSI := Aside0.mk (show SureI w w4 p ops.length 0 from SureI.step HB2.out (pw_below_drewN (Below.refl _ _) nd2) HX0.out hs ok_empty (Below.refl _ _) (Nat.zero_le _))
    clear hs HPR
    go_wp2
    go_loopw [5] (fun iv wr => SureE w p ops.length iv wr) (fun iv _ => ops.length - (intOf iv).toNat)
    case atStart => exact ⟨0, rfl, HSI.out.le, HSI.out.bel.trans ((show Below w4.heap.size w4 _ by repeat (with_reducible first | exact Below.refl _ _ | apply below_drew | apply pw_below_drewN)).mono HSI.out.bel.size), by
      obtain ⟨X, s, h1, h2, h3⟩ := HSI.out.pr
      exact ⟨X, s, h1.below (by repeat (with_reducible first | exact Below.refl _ _ | apply below_drew | apply pw_below_drewN)), h2, h3⟩⟩
    case round =>
      obtain ⟨i, rfl, hle, hbel, X, s, hP, ok, hX⟩ := hrel
      by_cases hlt : i < ops.length
      · obtain ⟨ad, A5, c5, A6, c6, rfl, hcell, hin⟩ := op_at HR1.out hlt
        obtain ⟨d0, d1, d2, d3, d4, d5, d6⟩ := hcell wr hbel
        have HG := Aside0.mk (HGD.out _ (List.getElem_mem hlt))
        generalize ops[i] = o at *
        have HIN := Aside0.mk hin
        have HB := Aside0.mk hbel
        have HP := Aside0.mk hP
        have HOK := Aside0.mk ok
        have HX := Aside0.mk hX
        have hbz := hbel.size
        clear hcell hin hbel hP ok hX
        by_cases h10 : o.f0 = 10
        · have hne : (o.f0 != 10) = false := by rw [h10]; rfl
          have HC1 := Aside0.mk (fun (W : World) (hw : Below wr.heap.size wr W) => files_calls W p X s (HP.out.below hw) HOK.out)
          clear h10
          have HGB := Aside0.mk (heap_alloc_new wr (.cells #[.int .i64 o.f0, .int .i64 o.f1, .string o.f2, .int .i64 o.f3, .int .i64 o.f4, .slice A5 o.f5.length c5, .slice A6 o.f6.length c6] 41))
          have HB1 := Aside0.mk (below_alloc (Below.refl wr.heap.size wr) (.cells #[.int .i64 o.f0, .int .i64 o.f1, .string o.f2, .int .i64 o.f3, .int .i64 o.f4, .slice A5 o.f5.length c5, .slice A6 o.f6.length c6] 41))
          have HGL := Aside0.mk (show wr.heap.size < (wr.alloc (.cells #[.int .i64 o.f0, .int .i64 o.f1, .string o.f2, .int .i64 o.f3, .int .i64 o.f4, .slice A5 o.f5.length c5, .slice A6 o.f6.length c6] 41)).heap.size by rw [World.size_alloc']; omega)
          have HXN := Aside0.mk (show ¬ X wr.heap.size from fun hx => Nat.lt_irrefl _ (HP.out.bd _ hx))
          have HKL := Aside0.mk HG.out.k
          go_wp2_with fail
          refine (HC1.out _ HB1.out).mono ?_
          rintro e w2 ⟨v2, rfl, r2, b2⟩
          obtain ⟨A2, c2, rfl, hc2, _⟩ := Kd.R_reads r2
          have HR2 := Aside0.mk r2
          have HB2 := Aside0.mk b2
          have HC2 := Aside0.mk hc2
          have hg2 := blk_upd HGB.out (Upd.of_below b2 (fun _ => False)) (fun h => h)
          have g0 := blk_cell hg2 0
          have g1 := blk_cell hg2 1
          have g2 := blk_cell hg2 2
          have g3 := blk_cell hg2 3
          have g4 := blk_cell hg2 4
          have g5 := blk_cell hg2 5
          have g6 := blk_cell hg2 6
          have fg0 := blk_frozen hg2 0
          have fg1 := blk_frozen hg2 1
          have fg2 := blk_frozen hg2 2
          have fg3 := blk_frozen hg2 3
          have fg4 := blk_frozen hg2 4
          have fg5 := blk_frozen hg2 5
          have fg6 := blk_frozen hg2 6
          simp only [List.getElem?_toArray, List.getElem?_cons_succ, List.getElem?_cons_zero] at g0 g1 g2 g3 g4 g5 g6
          have HG2 := Aside0.mk hg2
          have HBW := Aside0.mk (HB1.out.trans (b2.mono HB1.out.size))
          have hbw2 := HB.out.trans (HBW.out.mono hbz)
          have HST := Aside0.mk (restart_calls w2 p X s A6 c6 o.f6 (HP.out.below HBW.out) HOK.out (fun w' hu => (HIN.out w2 hbw2).r6 w' (hu.below hbw2.size HX.out)))
          rw [files67_len] at hc2 ⊢
          clear r2 b2 hg2 hbw2 hc2 HC1
          go_wp2_with fail
          refine HST.out.mono ?_
          rintro e w3 ⟨rfl, hs⟩
          have hg3 := blk_upd HG2.out hs.2 HXN.out
          have k0 := blk_cell hg3 0
          have k1 := blk_cell hg3 1
          have k2 := blk_cell hg3 2
          have k3 := blk_cell hg3 3
          have k4 := blk_cell hg3 4
          have k5 := blk_cell hg3 5
          have k6 := blk_cell hg3 6
          have fk0 := blk_frozen hg3 0
          have fk1 := blk_frozen hg3 1
          have fk2 := blk_frozen hg3 2
          have fk3 := blk_frozen hg3 3
          have fk4 := blk_frozen hg3 4
          have fk5 := blk_frozen hg3 5
          have fk6 := blk_frozen hg3 6
          simp only [List.getElem?_toArray, List.getElem?_cons_succ, List.getElem?_cons_zero] at k0 k1 k2 k3 k4 k5 k6
          have HT3 := Aside0.mk (PStep.early HP.out HBW.out hs)
          have HR3 := Aside0.mk (files_keep HR2.out hs.2 (fun k hk => Nat.lt_trans (HP.out.bd k hk) HGL.out))
          have HG3 := Aside0.mk hg3
          have HOK1 := Aside0.mk (HOK.out.restart o.f6)
          have HSV := Aside0.mk (surv_restart HOK.out o.f6)
          have HLE := Aside0.mk (restart_len s o.f6)
          have HUP := Aside0.mk (restart_up s o.f6)
          clear hs hg3 HR2 HST
          go_wp2
          generalize s.restart o.f6 = s1 at *
          refine start_ (n := 7) (S := fun w' => w'.cell? ⟨wr.heap.size, 6, none⟩ = some (.slice A6 o.f6.length c6)) (ds := [5]) #[false, false, false, false, false, false, false] (by kernel_rfl) rfl rfl (k6) (fun hHeld => ?_)
          refine zq 0 (some 48) ?_
          refine zq 1 (some 49) ?_
          refine zq 3 (some 51) ?_
          refine zu 4 (some 52) hHeld ?_
          refine one_ (i := 2) (N := some 50) #[true, true, true, true, true, false, false] rfl rfl (by kernel_rfl) (by decide) (fun K hK => ?_)
          refine goes_ Try.func18 (by kernel_rfl) rfl #[.pointer (some ⟨p, 0, none⟩)] (by rfl) rfl rfl (by simp only [List.map_toArray, List.map_cons, List.map_nil]; rfl) ?_
          refine (files_calls _ p _ s1 (HT3.out.1.below (below_drew (Below.refl _ _))) HOK1.out).mono ?_
          rintro e w4 ⟨v4, rfl, r4, b4⟩
          obtain ⟨A4, c4, rfl, hc4, hC4⟩ := Kd.R_reads r4
          rw [files67_len, HLE.out]
          refine ⟨_, rfl, ?_⟩
          have HT4 := Aside0.mk ((HT3.out.then_below (below_drew (Below.refl _ _))).then_below b4)
          have hg4 := blk_upd (blk_drew HG3.out) (Upd.of_below b4 (fun _ => False)) (fun h => h)
          have x0 := blk_cell hg4 0
          have x1 := blk_cell hg4 1
          have x2 := blk_cell hg4 2
          have x3 := blk_cell hg4 3
          have x4 := blk_cell hg4 4
          have x5 := blk_cell hg4 5
          have x6 := blk_cell hg4 6
          have fx0 := blk_frozen hg4 0
          have fx1 := blk_frozen hg4 1
          have fx2 := blk_frozen hg4 2
          have fx3 := blk_frozen hg4 3
          have fx4 := blk_frozen hg4 4
          have fx5 := blk_frozen hg4 5
          have fx6 := blk_frozen hg4 6
          simp only [List.getElem?_toArray, List.getElem?_cons_succ, List.getElem?_cons_zero] at x0 x1 x2 x3 x4 x5 x6
          have HC4 := Aside0.mk hC4
          have HLC4 := Aside0.mk hc4
          have HCK := Aside0.mk (Kd.C_below (Kd.C_drew (Kd.R_reads' HR3.out).2.2) b4)
          clear r4 b4 hC4 hc4 hg4
          refine hK.out _ _ (x6) (fun hHeld => ?_)
          clear hK K
          refine norm_ (a' := ?_) ?_ ?_
          rotate_left
          · show Act.put _ (some 50) _ = _
            simp only [Act.put, zla, zlb, zlc, i64_w, i32_w]
            rfl
          refine last_ (i := 5) (N := some 53) #[true, true, true, true, true, true, false] rfl rfl (by kernel_rfl) (by decide) (fun K hK => ?_)
          refine goes_ Try.func25 (by kernel_rfl) rfl #[.slice A2 s.all.length c2, .slice A4 s.all.length c4, .slice A6 o.f6.length c6] (by rfl) rfl rfl (by simp only [List.map_toArray, List.map_cons, List.map_nil]; rfl) ?_
          have hb4 := HB.out.trans (HT4.out.2.below hbz HX.out)
          refine (survives_n _ A2 c2 (files67 s) HCK.out HC2.out A4 c4 (files67 s1) HC4.out HLC4.out A6 c6 o.f6 ((HIN.out w4 hb4).r6 w4 (Below.refl _ _)) (HIN.out w4 hb4).l6 (by rw [files67_len]; have := HOK.out.few; omega) HKL.out (files67_len _) ((files67_len _).trans HLE.out) HSV.out).mono ?_
          rintro e w5 ⟨rfl, b5⟩
          refine ⟨_, rfl, ?_⟩
          have HT5 := Aside0.mk (HT4.out.then_below b5)
          clear b5 hb4
          refine hK.out _ _ ?_
          clear hK K
          refine norm_ (a' := ?_) ?_ ?_
          rotate_left
          · show Act.put _ (some 53) _ = _
            simp only [Act.put, zla, zlb, zlc, i64_w, i32_w]
            rfl
          refine zq 6 (some 54) ?_
          refine done_ (by kernel_rfl) ?_
          have HLS := Aside0.mk (list_calls w5 p _ s1 HT5.out.1 HOK1.out)
          rw [up_list HUP.out.1] at HLS
          go_wp2_with fail
          refine HLS.out.mono ?_
          rintro e w6 ⟨v6, rfl, r6, b6⟩
          obtain ⟨A6_, c6_, rfl, _, _⟩ := Kd.R_reads r6
          rw [show (namesOf s1.all).length = s.all.length from (List.length_map _).trans HLE.out]
          have HT6 := Aside0.mk (HT5.out.then_below b6)
          clear r6 b6
          go_wp2_with fail
          refine (num_calls _ _).mono ?_
          rintro e w7 ⟨rfl, ⟨⟨nd3, rfl⟩⟩⟩
          have HT7 := Aside0.mk (HT6.out.then_below (pw_below_drewN (Below.refl _ _) nd3))
          have HSY := Aside0.mk (sync_calls _ p _ s1 nm12 HT7.out.1 HOK1.out)
          go_wp2_with fail
          refine HSY.out.mono ?_
          rintro e w8 ⟨rfl, hs⟩
          obtain ⟨hr, hl2⟩ := up_sync HUP.out.1 HUP.out.2.1 HUP.out.2.2
          have HOK2 := Aside0.mk (HOK1.out.sync nm12)
          have HL2 := Aside0.mk (hl2.trans HLE.out)
          have HT8 := Aside0.mk (HT7.out.trans hs)
          clear hs hl2 HSY
          generalize (s1.sync nm12).1 = s2 at *
          generalize (s1.sync nm12).2 = r at *
          go_wp2_with fail
          refine (num_calls _ _).mono ?_
          rintro e w9 ⟨rfl, ⟨⟨nd4, rfl⟩⟩⟩
          have HT9 := Aside0.mk (HT8.out.then_below (pw_below_drewN (Below.refl _ _) nd4))
          have HC9 := Aside0.mk (files_calls _ p _ s2 HT9.out.1 HOK2.out)
          rcases hr with rfl | rfl
          · go_wp2_with fail
            refine HC9.out.mono ?_
            rintro e w10 ⟨v10, rfl, r10, b10⟩
            obtain ⟨A10, c10, rfl, _, _⟩ := Kd.R_reads r10
            rw [files67_len, HL2.out]
            have HT10 := Aside0.mk (HT9.out.then_below b10)
            clear r10 b10
            go_wp2
            go_roundw
            case rel => exact ⟨i + 1, by simp, SureI.step HB.out (W := wr) (Below.refl _ _) HX.out HT10.out HOK2.out (by repeat (with_reducible first | exact Below.refl _ _ | apply below_drew | apply pw_below_drewN)) hlt⟩
            case measure => simp [intOf]; omega
          · go_wp2_with fail
            refine HC9.out.mono ?_
            rintro e w10 ⟨v10, rfl, r10, b10⟩
            obtain ⟨A10, c10, rfl, _, _⟩ := Kd.R_reads r10
            rw [files67_len, HL2.out]
            have HT10 := Aside0.mk (HT9.out.then_below b10)
            clear r10 b10
            go_wp2
            go_roundw
            case rel => exact ⟨i + 1, by simp, SureI.step HB.out (W := wr) (Below.refl _ _) HX.out HT10.out HOK2.out (by repeat (with_reducible first | exact Below.refl _ _ | apply below_drew | apply pw_below_drewN)) hlt⟩
            case measure => simp [intOf]; omega
        · have hne : (o.f0 != 10) = true := by simpa using h10
          have HPL := Aside0.mk (fun (W : World) (hw : Below wr.heap.size wr W) => does_calls W p w.heap.size X s o A5 c5 A6 c6 (HP.out.below hw) HOK.out (Nat.le_trans hbz hw.size) HX.out (HIN.out W (HB.out.trans (hw.mono hbz))) HG.out.g)
          clear h10
          go_wp2_with fail
          refine (HPL.out _ ?hw).mono ?_
          case hw => repeat (with_reducible first | exact Below.refl _ _ | apply below_drew | apply pw_below_drewN | apply below_alloc')
          rintro e w5 ⟨rfl, hs⟩
          have HS := Aside0.mk hs
          clear hs
          go_wp2
          go_roundw
          case rel => exact ⟨i + 1, by simp, SureI.step HB.out (W := _) (by repeat (with_reducible first | exact Below.refl _ _ | apply below_drew | apply pw_below_drewN | apply below_alloc')) HX.out HS.out (HOK.out.op HG.out.g) (by repeat (with_reducible first | exact Below.refl _ _ | apply below_drew | apply pw_below_drewN)) hlt⟩
          case measure => simp [intOf]; omega
      · have hi : i = ops.length := by omega
        subst hi
        have HB := Aside0.mk hbel
        clear hbel hP ok hX
        go_wp2
        go_ret
        exact ⟨rfl, by repeat (with_reducible first | exact HB.out | apply below_drew | apply pw_below_drewN)⟩
end Go.Proofs.Ytfholpajdkjbbaa.DK
