/- The reference's disk: Restart; conditions: those in each theorem. -/
import Derived.Test.YtfholpajdkjbbaaQeGc
import Derived.Test.YtfholpajdkjbbaaQePb
namespace Go.Proofs.Ytfholpajdkjbbaa.DK
open Go.Proofs.Ytfholpajdkjbbaa.PD
open Go.RowKit Go.Proofs.YtfholpajdkjbbaaW.PrintWords Go.Proofs.YtfholpajdkjbbaaW.PrintLast Go.Proofs.YtfholpajdkjbbaaW.PrintMore Go.Proofs.Ytfholpajdkjbbaa.Mo
set_option linter.unusedVariables false
set_option linter.unusedSimpArgs false
theorem C_cut {w : World} {A : Option Addr} {xs : List Int} {m : Nat} (h : (Kd.int .u8).C w A xs.length xs) (hm : m ≤ xs.length) : (Kd.int .u8).C w A m (xs.take m) := by
  have := Kd.C_take h hm
  rw [show (xs.take m).length = m by rw [List.length_take]; omega] at this
  exact this
structure RBack (w2 wr : World) (p : Nat) (X : Nat → Prop) (s : St) (keep : List Int) (i : Nat) : Prop where
  le : i ≤ s.all.length
  st : RStep p X w2 wr { s.fall with all := part s.all keep i }
def RBackE (w2 : World) (p : Nat) (X : Nat → Prop) (s : St) (keep : List Int) (iv : Value) (wr : World) : Prop := ∃ i : Nat, iv = .int .i64 i ∧ RBack w2 wr p X s keep i
set_option maxHeartbeats 8000000 in
set_option maxRecDepth 100000 in
theorem rrestart_calls (w : World) (p : Nat) (X : Nat → Prop) (s : St) (K : Option Addr) (ck : Nat) (keep : List Int) (h : RefD w p X s) (ok : Ok s) (hS : StaysI X w K keep) :
    Calls Try.prog 74 #[.pointer (some ⟨p, 0, none⟩), .slice K keep.length ck] w fun e w' => e = .returned (.tuple #[]) ∧ RStep p X w w' (s.restart keep) := by
  have HC := Aside0.mk (rfall_calls w p X s h)
  have OK := Aside0.mk ok
  have HS := Aside0.mk hS
  have hlen : s.all.length ≤ 400 := ok.few
  have ND := Aside0.mk (sorted_nodup ok.sorted)
  clear h ok hS
  go_enter Try.func74, Try.ntmps74
  go_wp2_with fail
  refine HC.out.mono ?_
  rintro e w1 ⟨rfl, h1⟩
  have H1 := Aside0.mk h1
  clear h1
  go_wp2
  go_loopw [4] (fun iv wr => RBackE w1 p (More X w w1) s keep iv wr) (fun iv _ => s.all.length - (intOf iv).toNat)
  case atStart => exact ⟨0, rfl, Nat.zero_le _, by rw [part_zero]; exact RStep.refl H1.out.1⟩
  case round =>
    obtain ⟨i, rfl, hb⟩ := hrel
    have HBK := Aside0.mk hb
    obtain ⟨⟨av, rv, a, hR⟩, hU⟩ := hb.st
    have hpl : (part s.all keep i).length = s.all.length := part_len _ _ _
    by_cases hlt : i < s.all.length
    · have hi : i < (part s.all keep i).length := by rw [hpl]; exact hlt
      obtain ⟨g, cav, A1, c1, A2, c2, ho⟩ := hR.open_ i hi
      have hfi : (part s.all keep i)[i] = s.all[i] := part_at s.all keep i hlt
      have hnext := part_next s.all ND.out keep i hlt
      have hsm := OK.out.small _ (List.getElem_mem hlt)
      simp only [hfi] at ho
      have hkp := HS.out wr (H1.out.2.more hU)
      generalize s.all[i] = f at *
      have HO := Aside0.mk ho
      have HNX := Aside0.mk hnext
      have HSM := Aside0.mk hsm
      have hp := ho.head
      dsimp only at hp
      rw [hpl] at hp
      have HP := Aside0.mk hp
      have m0 := blk_cell hp 0
      have m1 := blk_cell hp 1
      have m2 := blk_cell hp 2
      have m3 := blk_cell hp 3
      have m4 := blk_cell hp 4
      have fm0 := blk_frozen hp 0
      have fm1 := blk_frozen hp 1
      have fm2 := blk_frozen hp 2
      have fm3 := blk_frozen hp 3
      have fm4 := blk_frozen hp 4
      simp only [List.getElem?_toArray, List.getElem?_cons_succ, List.getElem?_cons_zero] at m0 m1 m2 m3 m4
      have k0 := ho.k0
      have k1 := ho.k1
      have k2 := ho.k2
      have fk1 := ho.f1
      have fk2 := ho.f2
      have hne := ho.ne
      have hl2 := ho.l2
      have hll : f.loose.length ≤ 65536 := by unfold Mo.F.len at hsm; omega
      clear hp ho hR hU hnext hb hi hfi hpl hsm
      by_cases hk0 : keep.length = 0
      · have HK := Aside0.mk (show St.keepOf keep i = 0 by unfold St.keepOf; rw [if_pos hk0])
        have hkl : ¬ ((0 : Int) < (keep.length : Int)) := by omega
        have HTK := Aside0.mk (show f.loose.take 0 = f.loose.take (St.keepOf keep i).toNat by rw [HK.out]; rfl)
        have h0z : (0 : Int) ≤ c2 := by omega
        clear hkp hk0
        go_wp2
        refine start_ (n := 27) (S := fun w' => w'.cell? ⟨p, 0, none⟩ = some (.slice (some ⟨g, 0, none⟩) s.all.length cav) ∧ w'.cell? ⟨g, i * 3 + 1, none⟩ = some (.slice A1 f.sure.length c1) ∧ w'.cell? ⟨g, i * 3 + 2, none⟩ = some (.slice A2 f.loose.length c2)) (ds := [26]) #[false, false, false, false, false, false, false, false, false, false, false, false, false, false, false, false, false, false, false, false, false, false, false, false, false, false, false] (by kernel_rfl) rfl rfl ⟨m0, k1, k2⟩ (fun hHeld => ?_)
        refine zq 0 (some 38) ?_
        refine zq 1 (some 39) ?_
        refine zq 2 (some 40) ?_
        refine zq 4 (some 42) ?_
        refine zq 5 (some 43) ?_
        refine zq 6 (some 44) ?_
        refine zq 7 (some 45) ?_
        refine zq 9 (some 47) ?_
        refine zq 13 (some 51) ?_
        refine zq 14 (some 52) ?_
        refine zq 15 (some 53) ?_
        refine zq 17 (some 55) ?_
        refine zq 21 (some 59) ?_
        refine zu 3 (some 41) hHeld ?_
        refine zu 8 (some 46) hHeld ?_
        refine zq 10 (some 48) ?_
        refine zq 11 (some 49) ?_
        refine zu 12 (some 50) hHeld ?_
        refine zu 16 (some 54) hHeld ?_
        refine zq 18 (some 56) ?_
        refine zq 19 (some 57) ?_
        refine zu 20 (some 58) hHeld ?_
        refine zq 22 (some 60) ?_
        refine one_ (i := 23) (N := some 61) #[true, true, true, true, true, true, true, true, true, true, true, true, true, true, true, true, true, true, true, true, true, true, true, true, false, false, false] rfl rfl (by kernel_rfl) (by decide) (fun K hK => ?_)
        refine Kd.R_append_rows_step (Kd.int .u8) (w0 := wr.drew) 0 (by rfl) (.tmp 50) (.tmp 60) 38 5 (.int .u8 0) 1 rfl Try.underlying38 PD.info5 rfl (by decide) (by decide) _ f.sure (f.loose.take 0) _ _ _ (fun _ => True) (fun _ => False) rfl rfl HO.out.drew.r1 (C_cut (m := 0) HO.out.drew.q2 (by omega)) (fun _ _ h => h) (fun _ h => h.elim) (fun _ _ => trivial) (Below.refl _ _) (Nat.zero_le _) (by have := HSM.out; unfold Mo.F.len at this; omega) ?_
        intro v1 w4 ho hb hg hat
        obtain ⟨A5, c5, rfl, hc5, _⟩ := Kd.R_reads ho
        generalize hn1 : (f.sure ++ f.loose.take 0).length = n1 at ho hat hc5 ⊢
        obtain ⟨hp4, ht4, hr4, e0, e1, e2, fe0, fe1, fe2⟩ := HO.out.drew.grown1 false hg
        dsimp only at hp4
        rw [part_len] at hp4
        have HP4 := Aside0.mk hp4
        have n0 := blk_cell hp4 0
        have n1 := blk_cell hp4 1
        have n2 := blk_cell hp4 2
        have n3 := blk_cell hp4 3
        have n4 := blk_cell hp4 4
        have fn0 := blk_frozen hp4 0
        have fn1 := blk_frozen hp4 1
        have fn2 := blk_frozen hp4 2
        have fn3 := blk_frozen hp4 3
        have fn4 := blk_frozen hp4 4
        simp only [List.getElem?_toArray, List.getElem?_cons_succ, List.getElem?_cons_zero] at n0 n1 n2 n3 n4
        have H4 := Aside0.mk ho
        have HG := Aside0.mk hg
        have HAT := Aside0.mk hat
        have HT4 := Aside0.mk ht4
        clear ho hb hg hat hn1 hp4 ht4 hr4 hc5 k0 k1 k2 fk1 fk2 m0 m1 m2 m3 m4 fm0 fm1 fm2 fm3 fm4
        refine hK.out _ _ ⟨n0, e1, e2⟩ (fun hHeld => ?_)
        clear hK K
        refine norm_ (a' := ?_) ?_ ?_
        rotate_left
        · show Act.put _ (some 61) _ = _
          simp only [Act.put, zla, zlb, zlc, i64_w, i32_w]
          rfl
        refine zq 24 (some 62) ?_
        refine zq 25 (some 63) ?_
        refine last_ (i := 26) (N := none) #[true, true, true, true, true, true, true, true, true, true, true, true, true, true, true, true, true, true, true, true, true, true, true, true, true, true, true] rfl rfl (by kernel_rfl) (by decide) (fun K hK => ?_)
        refine skip_ (w1 := ?_) (by rfl) rfl ?_ ?_
        rotate_left
        · go_simp
          rfl
        refine hK.out _ _ ?_
        clear hK K
        refine done_ (by kernel_rfl) ?_
        have hx := HO.out.drew.two (w4 := w4) (Y := fun k => (Value.slice A1 f.sure.length c1).ownBlock = some k) ((Upd.refl _ _).grown HG.out (fun k hk => .inl hk)) (fun k _ hk => .inl hk) HT4.out (fun f => St.F.kept f (St.keepOf keep i)) (fun _ => rfl) ⟨A5, _, c5⟩ Sl.nil (by show Row _ _ (f.sure ++ f.loose.take (St.keepOf keep i).toNat); rw [← HTK.out]; exact H4.out) (Kd.R_nil _ _ _ _ _) (fun k _ hk => by cases hk) (fun b k hk => by
          cases b
          · rcases HAT.out with h1 | ⟨b5, h1, h2⟩
            · exact .inl (.inl (h1 ▸ hk))
            · have e9 := h1.symm.trans hk
              injection e9 with e9
              exact .inr (e9 ▸ h2)
          · cases hk)
        have HD := Aside0.mk (show RBack w1 _ p (More X w w1) s keep (i + 1) from ⟨hlt, by
          rw [← HNX.out]
          exact RStep.trans HBK.out.st (RStep.of_drew hx)⟩)
        clear hx
        go_wp2
        go_roundw
        case rel => exact ⟨i + 1, by simp, HD.out⟩
        case measure => simp [intOf]; omega
      · obtain ⟨m, hm⟩ : ∃ m : Nat, m = i % keep.length := ⟨_, rfl⟩
        have hm1 : m < keep.length := by rw [hm]; exact Nat.mod_lt _ (by omega)
        have hr : Int.tmod (i : Int) (keep.length : Int) = (m : Int) := by rw [Int.tmod_eq_emod_of_nonneg (by omega), hm]; exact (Int.natCast_emod _ _).symm
        obtain ⟨ad, rfl, hkc⟩ := (Kd.reads_of_C (d := (0 : Int)) (h1 := fun _ => rfl) hkp).at_ (m : Int) (by omega) (by omega)
        have HK := Aside0.mk (show St.keepOf keep i = max (rdOf (0 : Int) keep (m : Int)) 0 by unfold St.keepOf; rw [if_neg hk0, ← hm]; rfl)
        rw [Int.toNat_natCast] at hkc
        generalize rdOf (0 : Int) keep (m : Int) = y at *
        obtain ⟨z, hz⟩ : ∃ z : Int, z = min (max y 0) f.loose.length := ⟨_, rfl⟩
        have hz0 : 0 ≤ z := by omega
        have hz1 : z ≤ f.loose.length := by omega
        have hzc : z ≤ (c2 : Int) := by omega
        have HTK := Aside0.mk (show f.loose.take z.toNat = f.loose.take (St.keepOf keep i).toNat by
          rw [HK.out]
          rcases Int.le_total (max y 0) f.loose.length with h1 | h1
          · rw [show z = max y 0 by omega]
          · rw [List.take_of_length_le (by omega), List.take_of_length_le (by omega)])
        have hz2 := hz.symm
        clear hkp hm hz
        go_wp2
        refine start_ (n := 19) (S := fun w' => w'.cell? ⟨p, 0, none⟩ = some (.slice (some ⟨g, 0, none⟩) s.all.length cav) ∧ w'.cell? ⟨g, i * 3 + 2, none⟩ = some (.slice A2 f.loose.length c2) ∧ w'.cell? (ad.add m) = some (.int .i64 y)) (ds := []) #[false, false, false, false, false, false, false, false, false, false, false, false, false, false, false, false, false, false, false] (by kernel_rfl) rfl rfl ⟨m0, k2, hkc⟩ (fun hHeld => ?_)
        refine zp 0 (some 20) ?_ rfl rfl (by kernel_rfl) (fun _ _ _ h => h) (by rfl) ?_ ?_ ?_ ?_ ?_
        rotate_left; · (intro w'; go_simp; with_reducible rfl)
        rotate_left 2; · (simp only [Act.put, zla, zlb, zlc, i64_w, i32_w, hr, hz2]; rfl)
        refine zp 1 (some 21) ?_ rfl rfl (by kernel_rfl) (fun _ _ _ h => h) (by rfl) ?_ ?_ ?_ ?_ ?_
        rotate_left; · (intro w'; go_simp; with_reducible rfl)
        rotate_left 2; · (simp only [Act.put, zla, zlb, zlc, i64_w, i32_w, hr, hz2]; rfl)
        refine zp 2 (some 22) ?_ rfl rfl (by kernel_rfl) (fun _ _ _ h => h) (by rfl) ?_ ?_ ?_ ?_ ?_
        rotate_left; · (intro w'; go_simp; with_reducible rfl)
        rotate_left 2; · (simp only [Act.put, zla, zlb, zlc, i64_w, i32_w, hr, hz2]; rfl)
        refine zp 3 (some 23) ?_ rfl rfl (by kernel_rfl) (fun _ _ _ h => h) (by rfl) ?_ ?_ ?_ ?_ ?_
        rotate_left; · (intro w'; go_simp; with_reducible rfl)
        rotate_left 2; · (simp only [Act.put, zla, zlb, zlc, i64_w, i32_w, hr, hz2]; rfl)
        refine zp 4 (some 24) ?_ rfl rfl (by kernel_rfl) (fun _ _ _ h => h) (by rfl) ?_ ?_ ?_ ?_ ?_
        rotate_left; · (intro w'; go_simp; with_reducible rfl)
        rotate_left 2; · (simp only [Act.put, zla, zlb, zlc, i64_w, i32_w, hr, hz2]; rfl)
        refine zp 5 (some 25) ?_ rfl rfl (by kernel_rfl) (fun _ _ _ h => h) (by rfl) ?_ ?_ ?_ ?_ ?_
        rotate_left; · (intro w'; go_simp; with_reducible rfl)
        rotate_left 2; · (simp only [Act.put, zla, zlb, zlc, i64_w, i32_w, hr, hz2]; rfl)
        refine zp 8 (some 28) ?_ rfl rfl (by kernel_rfl) (fun _ _ _ h => h) (by rfl) ?_ ?_ ?_ ?_ ?_
        rotate_left; · (intro w'; go_simp; with_reducible rfl)
        rotate_left 2; · (simp only [Act.put, zla, zlb, zlc, i64_w, i32_w, hr, hz2]; rfl)
        refine zp 9 (some 29) ?_ rfl rfl (by kernel_rfl) (fun _ _ _ h => h) (by rfl) ?_ ?_ ?_ ?_ ?_
        rotate_left; · (intro w'; go_simp; with_reducible rfl)
        rotate_left 2; · (simp only [Act.put, zla, zlb, zlc, i64_w, i32_w, hr, hz2]; rfl)
        refine zp 10 (some 30) ?_ rfl rfl (by kernel_rfl) (fun _ _ _ h => h) (by rfl) ?_ ?_ ?_ ?_ ?_
        rotate_left; · (intro w'; go_simp; with_reducible rfl)
        rotate_left 2; · (simp only [Act.put, zla, zlb, zlc, i64_w, i32_w, hr, hz2]; rfl)
        refine zp 12 (some 32) ?_ rfl rfl (by kernel_rfl) (fun _ _ _ h => h) (by rfl) ?_ ?_ ?_ ?_ ?_
        rotate_left; · (intro w'; go_simp; with_reducible rfl)
        rotate_left 2; · (simp only [Act.put, zla, zlb, zlc, i64_w, i32_w, hr, hz2]; rfl)
        refine zt 6 (some 26) ?_ rfl rfl (by kernel_rfl) (fun _ _ _ h => h) (by rfl) ?_ hHeld ?_ ?_ ?_ ?_
        rotate_left; · (rintro w' ⟨s0, s1, s2⟩; go_simp; with_reducible rfl)
        rotate_left 2; · (simp only [Act.put, zla, zlb, zlc, i64_w, i32_w, hr, hz2]; rfl)
        refine zp 7 (some 27) ?_ rfl rfl (by kernel_rfl) (fun _ _ _ h => h) (by rfl) ?_ ?_ ?_ ?_ ?_
        rotate_left; · (intro w'; go_simp; with_reducible rfl)
        rotate_left 2; · (simp only [Act.put, zla, zlb, zlc, i64_w, i32_w, hr, hz2]; rfl)
        refine zt 11 (some 31) ?_ rfl rfl (by kernel_rfl) (fun _ _ _ h => h) (by rfl) ?_ hHeld ?_ ?_ ?_ ?_
        rotate_left; · (rintro w' ⟨s0, s1, s2⟩; go_simp; with_reducible rfl)
        rotate_left 2; · (simp only [Act.put, zla, zlb, zlc, i64_w, i32_w, hr, hz2]; rfl)
        refine zp 13 (some 33) ?_ rfl rfl (by kernel_rfl) (fun _ _ _ h => h) (by rfl) ?_ ?_ ?_ ?_ ?_
        rotate_left; · (intro w'; go_simp; with_reducible rfl)
        rotate_left 2; · (simp only [Act.put, zla, zlb, zlc, i64_w, i32_w, hr, hz2]; rfl)
        refine zp 14 (some 34) ?_ rfl rfl (by kernel_rfl) (fun _ _ _ h => h) (by rfl) ?_ ?_ ?_ ?_ ?_
        rotate_left; · (intro w'; go_simp; with_reducible rfl)
        rotate_left 2; · (simp only [Act.put, zla, zlb, zlc, i64_w, i32_w, hr, hz2]; rfl)
        refine zt 15 (some 35) ?_ rfl rfl (by kernel_rfl) (fun _ _ _ h => h) (by rfl) ?_ hHeld ?_ ?_ ?_ ?_
        rotate_left; · (rintro w' ⟨s0, s1, s2⟩; go_simp; with_reducible rfl)
        rotate_left 2; · (simp only [Act.put, zla, zlb, zlc, i64_w, i32_w, hr, hz2]; rfl)
        refine zp 16 (some 36) ?_ rfl rfl (by kernel_rfl) (fun _ _ _ h => h) (by rfl) ?_ ?_ ?_ ?_ ?_
        rotate_left; · (intro w'; go_simp; with_reducible rfl)
        rotate_left 2; · (simp only [Act.put, zla, zlb, zlc, i64_w, i32_w, hr, hz2]; rfl)
        refine zp 17 (some 37) ?_ rfl rfl (by kernel_rfl) (fun _ _ _ h => h) (by rfl) ?_ ?_ ?_ ?_ ?_
        rotate_left; · (intro w'; go_simp; with_reducible rfl)
        rotate_left 2; · (simp only [Act.put, zla, zlb, zlc, i64_w, i32_w, hr, hz2]; rfl)
        refine zp 18 (some 5) ?_ rfl rfl (by kernel_rfl) (fun _ _ _ h => h) (by rfl) ?_ ?_ ?_ ?_ ?_
        rotate_left; · (intro w'; go_simp; with_reducible rfl)
        rotate_left 2; · (simp only [Act.put, zla, zlb, zlc, i64_w, i32_w, hr, hz2]; rfl)
        refine done_ (by kernel_rfl) ?_
        go_wp2
        refine start_ (n := 27) (S := fun w' => w'.cell? ⟨p, 0, none⟩ = some (.slice (some ⟨g, 0, none⟩) s.all.length cav) ∧ w'.cell? ⟨g, i * 3 + 1, none⟩ = some (.slice A1 f.sure.length c1) ∧ w'.cell? ⟨g, i * 3 + 2, none⟩ = some (.slice A2 f.loose.length c2)) (ds := [26]) #[false, false, false, false, false, false, false, false, false, false, false, false, false, false, false, false, false, false, false, false, false, false, false, false, false, false, false] (by kernel_rfl) rfl rfl ⟨m0, k1, k2⟩ (fun hHeld => ?_)
        refine zq 0 (some 38) ?_
        refine zq 1 (some 39) ?_
        refine zq 2 (some 40) ?_
        refine zq 4 (some 42) ?_
        refine zq 5 (some 43) ?_
        refine zq 6 (some 44) ?_
        refine zq 7 (some 45) ?_
        refine zq 9 (some 47) ?_
        refine zq 13 (some 51) ?_
        refine zq 14 (some 52) ?_
        refine zq 15 (some 53) ?_
        refine zq 17 (some 55) ?_
        refine zq 21 (some 59) ?_
        refine zu 3 (some 41) hHeld ?_
        refine zu 8 (some 46) hHeld ?_
        refine zq 10 (some 48) ?_
        refine zq 11 (some 49) ?_
        refine zu 12 (some 50) hHeld ?_
        refine zu 16 (some 54) hHeld ?_
        refine zq 18 (some 56) ?_
        refine zq 19 (some 57) ?_
        refine zu 20 (some 58) hHeld ?_
        refine zq 22 (some 60) ?_
        refine one_ (i := 23) (N := some 61) #[true, true, true, true, true, true, true, true, true, true, true, true, true, true, true, true, true, true, true, true, true, true, true, true, false, false, false] rfl rfl (by kernel_rfl) (by decide) (fun K hK => ?_)
        refine Kd.R_append_rows_step (Kd.int .u8) (w0 := wr.drew.drew) 0 (by rfl) (.tmp 50) (.tmp 60) 38 5 (.int .u8 0) 1 rfl Try.underlying38 PD.info5 rfl (by decide) (by decide) _ f.sure (f.loose.take z.toNat) _ _ _ (fun _ => True) (fun _ => False) rfl rfl HO.out.drew.drew.r1 (C_cut (m := z.toNat) HO.out.drew.drew.q2 (by omega)) (fun _ _ h => h) (fun _ h => h.elim) (fun _ _ => trivial) (Below.refl _ _) (Nat.zero_le _) (by have := HSM.out; unfold Mo.F.len at this; omega) ?_
        intro v1 w4 ho hb hg hat
        obtain ⟨A5, c5, rfl, hc5, _⟩ := Kd.R_reads ho
        generalize hn1 : (f.sure ++ f.loose.take z.toNat).length = n1 at ho hat hc5 ⊢
        obtain ⟨hp4, ht4, hr4, e0, e1, e2, fe0, fe1, fe2⟩ := HO.out.drew.drew.grown1 false hg
        dsimp only at hp4
        rw [part_len] at hp4
        have HP4 := Aside0.mk hp4
        have n0 := blk_cell hp4 0
        have n1 := blk_cell hp4 1
        have n2 := blk_cell hp4 2
        have n3 := blk_cell hp4 3
        have n4 := blk_cell hp4 4
        have fn0 := blk_frozen hp4 0
        have fn1 := blk_frozen hp4 1
        have fn2 := blk_frozen hp4 2
        have fn3 := blk_frozen hp4 3
        have fn4 := blk_frozen hp4 4
        simp only [List.getElem?_toArray, List.getElem?_cons_succ, List.getElem?_cons_zero] at n0 n1 n2 n3 n4
        have H4 := Aside0.mk ho
        have HG := Aside0.mk hg
        have HAT := Aside0.mk hat
        have HT4 := Aside0.mk ht4
        clear ho hb hg hat hn1 hp4 ht4 hr4 hc5 k0 k1 k2 fk1 fk2 m0 m1 m2 m3 m4 fm0 fm1 fm2 fm3 fm4
        refine hK.out _ _ ⟨n0, e1, e2⟩ (fun hHeld => ?_)
        clear hK K
        refine norm_ (a' := ?_) ?_ ?_
        rotate_left
        · show Act.put _ (some 61) _ = _
          simp only [Act.put, zla, zlb, zlc, i64_w, i32_w]
          rfl
        refine zq 24 (some 62) ?_
        refine zq 25 (some 63) ?_
        refine last_ (i := 26) (N := none) #[true, true, true, true, true, true, true, true, true, true, true, true, true, true, true, true, true, true, true, true, true, true, true, true, true, true, true] rfl rfl (by kernel_rfl) (by decide) (fun K hK => ?_)
        refine skip_ (w1 := ?_) (by rfl) rfl ?_ ?_
        rotate_left
        · go_simp
          rfl
        refine hK.out _ _ ?_
        clear hK K
        refine done_ (by kernel_rfl) ?_
        have hx := HO.out.drew.drew.two (w4 := w4) (Y := fun k => (Value.slice A1 f.sure.length c1).ownBlock = some k) ((Upd.refl _ _).grown HG.out (fun k hk => .inl hk)) (fun k _ hk => .inl hk) HT4.out (fun f => St.F.kept f (St.keepOf keep i)) (fun _ => rfl) ⟨A5, _, c5⟩ Sl.nil (by show Row _ _ (f.sure ++ f.loose.take (St.keepOf keep i).toNat); rw [← HTK.out]; exact H4.out) (Kd.R_nil _ _ _ _ _) (fun k _ hk => by cases hk) (fun b k hk => by
          cases b
          · rcases HAT.out with h1 | ⟨b5, h1, h2⟩
            · exact .inl (.inl (h1 ▸ hk))
            · have e9 := h1.symm.trans hk
              injection e9 with e9
              exact .inr (e9 ▸ h2)
          · cases hk)
        have HD := Aside0.mk (show RBack w1 _ p (More X w w1) s keep (i + 1) from ⟨hlt, by
          rw [← HNX.out]
          exact RStep.trans HBK.out.st (RStep.of_drew (RStep.of_drew hx))⟩)
        clear hx
        go_wp2
        go_roundw
        case rel => exact ⟨i + 1, by simp, HD.out⟩
        case measure => simp [intOf]; omega
    · have hi : i = s.all.length := by have := hb.le; omega
      subst hi
      have HR := Aside0.mk hR
      have hp := hR.head
      have hav := hR.files.len
      obtain ⟨A, n, c⟩ := av
      dsimp only at hav hp
      rw [hpl] at hav
      subst hav
      unfold Sl.v at hp
      dsimp only at hp
      have c0 := blk_cell hp 0
      have c1 := blk_cell hp 1
      have c2 := blk_cell hp 2
      have c3 := blk_cell hp 3
      have c4 := blk_cell hp 4
      have fc0 := blk_frozen hp 0
      have fc1 := blk_frozen hp 1
      have fc2 := blk_frozen hp 2
      have fc3 := blk_frozen hp 3
      have fc4 := blk_frozen hp 4
      simp only [List.getElem?_toArray, List.getElem?_cons_succ, List.getElem?_cons_zero] at c0 c1 c2 c3 c4
      have hlt2 := blk_lt hp
      have HP := Aside0.mk hp
      clear hR hU hp hb hpl
      go_wp2
      first | go_end0 | ((try simp only [Exit.inBlock, Exit.then]); refine bodyPost_ret (results_none rfl _ _ _) rfl ?_)
      refine ⟨rfl, RStep.trans H1.out (RStep.trans HBK.out.st ?_)⟩
      exact HR.out.put (s' := s.restart keep) (part_all s.all keep).symm ((Upd.refl _ wr).set1 1 _) ((by simp only [heap_set, heap_drewN, heap_drew, heap_alloc_lt _ _ _ hlt2, HP.out, Option.map_some] <;> rfl)) (fun hf => absurd rfl hf)
end Go.Proofs.Ytfholpajdkjbbaa.DK
