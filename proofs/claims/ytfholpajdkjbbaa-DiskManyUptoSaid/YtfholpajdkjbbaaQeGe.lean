/- Parts Re, Rf of this work, in one text. -/
import Derived.Test.YtfholpajdkjbbaaQeGd
import Derived.Test.YtfholpajdkjbbaaQeGa
import Derived.Test.YtfholpajdkjbbaaQePa
/- The reference's disk: Spoil; conditions: those in each theorem. -/
namespace Go.Proofs.Ytfholpajdkjbbaa.DK
open Go.Proofs.Ytfholpajdkjbbaa.PD
open Go.RowKit Go.Proofs.YtfholpajdkjbbaaW.PrintWords Go.Proofs.YtfholpajdkjbbaaW.PrintLast Go.Proofs.YtfholpajdkjbbaaW.PrintMore Go.Proofs.Ytfholpajdkjbbaa.Mo
set_option linter.unusedVariables false
set_option linter.unusedSimpArgs false
/-- One byte of a file's row is another. -/
theorem FileAt.byte {w : World} {p : Nat} {X : Nat → Prop} {s : St} {av : Sl} {rv : Bool → ByteArray → Sl} {a : Int} {i : Nat} {f : F} {g cav : Nat} {A1 : Option Addr} {c1 : Nat} {A2 : Option Addr} {c2 : Nat} (h : FileAt w p X s av rv a i f g cav A1 c1 A2 c2) (b : Bool) (q z : Nat) (v : Int)
    (hq : (if b then A2 else A1) = some ⟨q, 0, none⟩) (G : F → F) (hG : ∀ x, (G x).name = x.name) (h1 : fpart b (G f) = (fpart b f).set z v) (h2 : fpart (!b) (G f) = fpart (!b) f) :
    RStep p X w (w.setCell ⟨q, z, none⟩ (.int .u8 v)) { s with all := upd f.name G s.all } := by
  have hfi := h.hf h.hi
  have hb1 : (Value.slice A1 f.sure.length c1) = (rv false f.name).v := by rw [h.s1]; rfl
  have hb2 : (Value.slice A2 f.loose.length c2) = (rv true f.name).v := by rw [h.s2]; rfl
  have hown : (rv b f.name).v.ownBlock = some q := by
    cases b
    · rw [← hb1, show A1 = some ⟨q, 0, none⟩ from hq]; rfl
    · rw [← hb2, show A2 = some ⟨q, 0, none⟩ from hq]; rfl
  have hm : f ∈ s.all := by rw [← hfi]; exact List.getElem_mem h.hi
  have hrow1 : Row (w.setCell ⟨q, z, none⟩ (.int .u8 v)) (rv b f.name).v ((fpart b f).set z v) := by
    cases b
    · have hr := h.r1
      rw [show A1 = some ⟨q, 0, none⟩ from hq] at hr
      have := (Kd.R_put hr (z : Int) v).1
      rw [Int.toNat_natCast] at this
      rw [← hb1, show A1 = some ⟨q, 0, none⟩ from hq]
      exact this
    · have hr := h.r2
      rw [show A2 = some ⟨q, 0, none⟩ from hq] at hr
      have := (Kd.R_put hr (z : Int) v).1
      rw [Int.toNat_natCast] at this
      rw [← hb2, show A2 = some ⟨q, 0, none⟩ from hq]
      exact this
  have hrow2 : Row (w.setCell ⟨q, z, none⟩ (.int .u8 v)) (rv (!b) f.name).v (fpart (!b) f) :=
    (h.disk.files.row f hm (!b)).same (fun k hk => Below.heap_setCell _ _ _ _ (fun e => h.disk.files.di f hm f hm (!b) b (fun e2 => by cases b <;> cases e2) k hk (by rw [hown, e])))
  have hout := h.disk.files.outer
  have hqo : ∀ k, av.v.ownBlock = some k → k ≠ q := fun k hk e => outer_row hout (h.disk.files.row f hm b) hk (by rw [hown, e])
  have ho2 : kT.R 86 (w.setCell ⟨q, z, none⟩ (.int .u8 v)) 0 (fun _ => True) av.v (s.all.map (tri rv)) := Kd.R_mono (Kd.R_step (Kd.R_tight rfl hout) (fun k hk _ => Below.heap_setCell _ _ _ _ (hqo k hk.symm))) (fun _ _ => trivial)
  have := h.disk.slot' i h.hi G hG (fun c => rv c f.name) (Y := fun k => k = q) (fun c => by
      rw [hfi]
      by_cases e : c = b
      · subst e; rw [h1]; exact hrow1
      · have e : c = !b := by cases b <;> cases c <;> simp_all
        subst e; rw [h2]; exact hrow2) (h.disk.files.di f hm f hm false true (fun h => nomatch h)) (fun c k hk => .inl ⟨c, by rw [hfi]; exact hk⟩) ((Upd.refl (fun k => k = q) w).set1 z _)
      (fun k _ e => .inr ⟨b, by rw [hfi, hown, e]⟩) (by
        rw [hfi]
        have hi' : i < (s.all.map (tri rv)).length := by rw [List.length_map]; exact h.hi
        rw [show (⟨f.name, rv false f.name, rv true f.name⟩ : Tri) = (s.all.map (tri rv))[i] by rw [List.getElem_map, hfi]; rfl, List.set_getElem_self hi']
        exact ho2)
  rw [hfi] at this
  exact this
theorem u8_pow (y : Int) (h0 : 0 ≤ y) (h1 : y < 8) : IntKind.u8.wrap (2 ^ y.toNat) = 2 ^ y.toNat := by
  obtain ⟨y', rfl⟩ := Int.eq_ofNat_of_zero_le h0
  have : y' < 8 := by omega
  rw [Int.toNat_natCast]
  have h2 : ∀ n : Fin 8, IntKind.u8.wrap (2 ^ n.val) = 2 ^ n.val := by decide
  exact h2 ⟨y', this⟩
set_option maxHeartbeats 4000000 in
set_option maxRecDepth 100000 in
theorem rspoil_calls (w : World) (p : Nat) (X : Nat → Prop) (s : St) (nm : ByteArray) (bit : Int) (hbit : bit ≤ 9223372036854775807) (h : RefD w p X s) (ok : Ok s) : Calls Try.prog 75 #[.pointer (some ⟨p, 0, none⟩), .string nm, .int .i64 bit] w fun e w' => e = .returned (.bool (s.spoil nm bit).2) ∧ RStep p X w w' (s.spoil nm bit).1 := by
  have HFD := Aside0.mk (rfind_calls w p X s nm h ok)
  have H := Aside0.mk h
  unfold St.spoil
  cases hf : find s.all nm with
  | none =>
    have HF := Aside0.mk hf
    clear hf h
    dsimp only
    go_enter Try.func75, Try.ntmps75
    go_wp2_with fail
    refine HFD.out.mono ?_
    rintro e w1 ⟨r, rfl, rfl, hfd⟩
    unfold Found at hfd
    rw [HF.out] at hfd
    have hfd : r = -1 := hfd
    subst hfd
    go_wp2
    go_ret
    exact ⟨rfl, RStep.refl H.out⟩
  | some f =>
    have HF := Aside0.mk hf
    have hsm := ok.small f (find_some hf).1
    have hsl : f.sure.length + f.loose.length ≤ 65536 := hsm
    have hfl : (f.len : Int) = f.sure.length + f.loose.length := by unfold Mo.F.len; omega
    dsimp only
    rw [hfl]
    obtain ⟨av, rv, a, hR⟩ := h
    have HR := Aside0.mk hR
    clear hf hR hsm hfl
    by_cases hb0 : bit < 0
    · rw [if_pos (.inl hb0)]
      go_enter Try.func75, Try.ntmps75
      go_wp2_with fail
      refine HFD.out.mono ?_
      rintro e w1 ⟨r, rfl, rfl, hfd⟩
      obtain ⟨i, rfl, hi, hfi⟩ := find_idx hfd HF.out
      obtain ⟨g, cav, A1, c1, A2, c2, ho⟩ := HR.out.open_ i hi
      rw [hfi] at ho
      have HO := Aside0.mk ho
      have hp := ho.head
      have m0 := blk_cell hp 0
      have m1 := blk_cell hp 1
      have m2 := blk_cell hp 2
      have m3 := blk_cell hp 3
      have m4 := blk_cell hp 4
      have fm0 := blk_frozen hp 0
      have fm1 := blk_frozen hp 1
      have fm2 := blk_frozen hp 2
      have fm3 := blk_frozen hp 3
      have fm4 := blk_frozen hp 4
      simp only [List.getElem?_toArray, List.getElem?_cons_succ, List.getElem?_cons_zero] at m0 m1 m2 m3 m4
      have k0 := ho.k0
      have k1 := ho.k1
      have k2 := ho.k2
      clear hfd hfi hp ho
      go_wp2
      go_ret
      exact ⟨rfl, RStep.refl H.out⟩
    · have hb1 : 0 ≤ bit := by omega
      have hq : Int.tdiv bit 8 = bit / 8 := by rw [Int.tdiv_eq_ediv_of_nonneg hb1]
      have hr : Int.tmod bit 8 = bit % 8 := by rw [Int.tmod_eq_emod_of_nonneg hb1]
      have hz0 : 0 ≤ bit / 8 := by omega
      have hz1 : bit / 8 ≤ 1152921504606846975 := by omega
      have hy0 : 0 ≤ bit % 8 := by omega
      have hy1 : bit % 8 < 8 := by omega
      have hyb := u8_pow (bit % 8) hy0 hy1
      generalize bit / 8 = z at *
      generalize bit % 8 = y at *
      have hwz : wrap64 z = z := w64 (by omega) (by omega)
      have hwy : wrap64 y = y := w64 (by omega) (by omega)
      have hwd : wrap64 (z - f.sure.length) = z - f.sure.length := w64 (by omega) (by omega)
      by_cases hb : (f.sure.length : Int) + f.loose.length ≤ z
      · rw [if_pos (.inr hb)]
        go_enter Try.func75, Try.ntmps75
        go_wp2_with fail
        refine HFD.out.mono ?_
        rintro e w1 ⟨r, rfl, rfl, hfd⟩
        obtain ⟨i, rfl, hi, hfi⟩ := find_idx hfd HF.out
        obtain ⟨g, cav, A1, c1, A2, c2, ho⟩ := HR.out.open_ i hi
        rw [hfi] at ho
        have HO := Aside0.mk ho
        have hp := ho.head
        have m0 := blk_cell hp 0
        have m1 := blk_cell hp 1
        have m2 := blk_cell hp 2
        have m3 := blk_cell hp 3
        have m4 := blk_cell hp 4
        have fm0 := blk_frozen hp 0
        have fm1 := blk_frozen hp 1
        have fm2 := blk_frozen hp 2
        have fm3 := blk_frozen hp 3
        have fm4 := blk_frozen hp 4
        simp only [List.getElem?_toArray, List.getElem?_cons_succ, List.getElem?_cons_zero] at m0 m1 m2 m3 m4
        have k0 := ho.k0
        have k1 := ho.k1
        have k2 := ho.k2
        clear hfd hfi hp ho
        go_wp2
        go_ret
        exact ⟨rfl, RStep.refl H.out⟩
      · rw [if_neg (fun h => h.elim hb0 hb)]
        by_cases hs : z < f.sure.length
        · skip
          go_enter Try.func75, Try.ntmps75
          go_wp2_with fail
          refine HFD.out.mono ?_
          rintro e w1 ⟨r, rfl, rfl, hfd⟩
          obtain ⟨i, rfl, hi, hfi⟩ := find_idx hfd HF.out
          obtain ⟨g, cav, A1, c1, A2, c2, ho⟩ := HR.out.open_ i hi
          rw [hfi] at ho
          have HO := Aside0.mk ho
          have hp := ho.head
          have m0 := blk_cell hp 0
          have m1 := blk_cell hp 1
          have m2 := blk_cell hp 2
          have m3 := blk_cell hp 3
          have m4 := blk_cell hp 4
          have fm0 := blk_frozen hp 0
          have fm1 := blk_frozen hp 1
          have fm2 := blk_frozen hp 2
          have fm3 := blk_frozen hp 3
          have fm4 := blk_frozen hp 4
          simp only [List.getElem?_toArray, List.getElem?_cons_succ, List.getElem?_cons_zero] at m0 m1 m2 m3 m4
          have k0 := ho.k0
          have k1 := ho.k1
          have k2 := ho.k2
          obtain ⟨q, hqA⟩ : ∃ q, A1 = some ⟨q, 0, none⟩ := by
            obtain ⟨q, cap, e, _⟩ := Kd.R_form ho.r1 (by omega)
            injection e with e _ _
            exact ⟨q, e⟩
          have hrow := ho.r1
          rw [hqA] at hrow k1
          have HQA := Aside0.mk hqA
          obtain ⟨hcell, hfro⟩ := Kd.R_cell (0 : Int) hrow z (by omega) (by omega)
          have hzn : (z).toNat < f.sure.length := by omega
          clear hfd hfi hp ho hrow hqA
          go_wp2
          refine start_ (n := 24) (S := fun w' => w'.cell? ⟨p, 0, none⟩ = some (.slice (some ⟨g, 0, none⟩) s.all.length cav) ∧ w'.cell? ⟨g, i * 3 + 1, none⟩ = some (.slice (some ⟨q, 0, none⟩) f.sure.length c1) ∧ w'.cell? ⟨q, z.toNat, none⟩ = some (.int .u8 (rdOf (0 : Int) f.sure z)) ∧ w'.frozen? ⟨q, z.toNat, none⟩ = false) (ds := [23]) #[false, false, false, false, false, false, false, false, false, false, false, false, false, false, false, false, false, false, false, false, false, false, false, false] (by kernel_rfl) rfl rfl ⟨m0, k1, hcell, hfro⟩ (fun hHeld => ?_)
          refine zp 0 (some 37) ?_ rfl rfl (by kernel_rfl) (fun _ _ _ h => h) (by rfl) ?_ ?_ ?_ ?_ ?_
          rotate_left; · (intro w'; go_simp; with_reducible rfl)
          rotate_left 2; · (simp only [Act.put, zla, zlb, zlc, i64_w, i32_w, hwz, hwy]; rfl)
          refine zp 1 (some 38) ?_ rfl rfl (by kernel_rfl) (fun _ _ _ h => h) (by rfl) ?_ ?_ ?_ ?_ ?_
          rotate_left; · (intro w'; go_simp; with_reducible rfl)
          rotate_left 2; · (simp only [Act.put, zla, zlb, zlc, i64_w, i32_w, hwz, hwy]; rfl)
          refine zp 2 (some 39) ?_ rfl rfl (by kernel_rfl) (fun _ _ _ h => h) (by rfl) ?_ ?_ ?_ ?_ ?_
          rotate_left; · (intro w'; go_simp; with_reducible rfl)
          rotate_left 2; · (simp only [Act.put, zla, zlb, zlc, i64_w, i32_w, hwz, hwy]; rfl)
          refine zp 4 (some 41) ?_ rfl rfl (by kernel_rfl) (fun _ _ _ h => h) (by rfl) ?_ ?_ ?_ ?_ ?_
          rotate_left; · (intro w'; go_simp; with_reducible rfl)
          rotate_left 2; · (simp only [Act.put, zla, zlb, zlc, i64_w, i32_w, hwz, hwy]; rfl)
          refine zp 8 (some 45) ?_ rfl rfl (by kernel_rfl) (fun _ _ _ h => h) (by rfl) ?_ ?_ ?_ ?_ ?_
          rotate_left; · (intro w'; go_simp; with_reducible rfl)
          rotate_left 2; · (simp only [Act.put, zla, zlb, zlc, i64_w, i32_w, hwz, hwy]; rfl)
          refine zp 9 (some 46) ?_ rfl rfl (by kernel_rfl) (fun _ _ _ h => h) (by rfl) ?_ ?_ ?_ ?_ ?_
          rotate_left; · (intro w'; go_simp; with_reducible rfl)
          rotate_left 2; · (simp only [Act.put, zla, zlb, zlc, i64_w, i32_w, hwz, hwy]; rfl)
          refine zp 10 (some 47) ?_ rfl rfl (by kernel_rfl) (fun _ _ _ h => h) (by rfl) ?_ ?_ ?_ ?_ ?_
          rotate_left; · (intro w'; go_simp; with_reducible rfl)
          rotate_left 2; · (simp only [Act.put, zla, zlb, zlc, i64_w, i32_w, hwz, hwy]; rfl)
          refine zp 11 (some 48) ?_ rfl rfl (by kernel_rfl) (fun _ _ _ h => h) (by rfl) ?_ ?_ ?_ ?_ ?_
          rotate_left; · (intro w'; go_simp; with_reducible rfl)
          rotate_left 2; · (simp only [Act.put, zla, zlb, zlc, i64_w, i32_w, hwz, hwy]; rfl)
          refine zp 13 (some 50) ?_ rfl rfl (by kernel_rfl) (fun _ _ _ h => h) (by rfl) ?_ ?_ ?_ ?_ ?_
          rotate_left; · (intro w'; go_simp; with_reducible rfl)
          rotate_left 2; · (simp only [Act.put, zla, zlb, zlc, i64_w, i32_w, hwz, hwy]; rfl)
          refine zp 17 (some 54) ?_ rfl rfl (by kernel_rfl) (fun _ _ _ h => h) (by rfl) ?_ ?_ ?_ ?_ ?_
          rotate_left; · (intro w'; go_simp; with_reducible rfl)
          rotate_left 2; · (simp only [Act.put, zla, zlb, zlc, i64_w, i32_w, hwz, hwy]; rfl)
          refine zp 20 (some 57) ?_ rfl rfl (by kernel_rfl) (fun _ _ _ h => h) (by rfl) ?_ ?_ ?_ ?_ ?_
          rotate_left; · (intro w'; go_simp; with_reducible rfl)
          rotate_left 2; · (simp only [Act.put, zla, zlb, zlc, i64_w, i32_w, hwz, hwy]; rfl)
          refine zt 3 (some 40) ?_ rfl rfl (by kernel_rfl) (fun _ _ _ h => h) (by rfl) ?_ hHeld ?_ ?_ ?_ ?_
          rotate_left; · (rintro w' ⟨s0, s1, s2, s3⟩; go_simp; with_reducible rfl)
          rotate_left 2; · (simp only [Act.put, zla, zlb, zlc, i64_w, i32_w, hwz, hwy]; rfl)
          refine zp 5 (some 42) ?_ rfl rfl (by kernel_rfl) (fun _ _ _ h => h) (by rfl) ?_ ?_ ?_ ?_ ?_
          rotate_left; · (intro w'; go_simp; with_reducible rfl)
          rotate_left 2; · (simp only [Act.put, zla, zlb, zlc, i64_w, i32_w, hwz, hwy]; rfl)
          refine zp 6 (some 43) ?_ rfl rfl (by kernel_rfl) (fun _ _ _ h => h) (by rfl) ?_ ?_ ?_ ?_ ?_
          rotate_left; · (intro w'; go_simp; with_reducible rfl)
          rotate_left 2; · (simp only [Act.put, zla, zlb, zlc, i64_w, i32_w, hwz, hwy]; rfl)
          refine zt 7 (some 44) ?_ rfl rfl (by kernel_rfl) (fun _ _ _ h => h) (by rfl) ?_ hHeld ?_ ?_ ?_ ?_
          rotate_left; · (rintro w' ⟨s0, s1, s2, s3⟩; go_simp; with_reducible rfl)
          rotate_left 2; · (simp only [Act.put, zla, zlb, zlc, i64_w, i32_w, hwz, hwy]; rfl)
          refine zt 12 (some 49) ?_ rfl rfl (by kernel_rfl) (fun _ _ _ h => h) (by rfl) ?_ hHeld ?_ ?_ ?_ ?_
          rotate_left; · (rintro w' ⟨s0, s1, s2, s3⟩; go_simp; with_reducible rfl)
          rotate_left 2; · (simp only [Act.put, zla, zlb, zlc, i64_w, i32_w, hwz, hwy]; rfl)
          refine zp 14 (some 51) ?_ rfl rfl (by kernel_rfl) (fun _ _ _ h => h) (by rfl) ?_ ?_ ?_ ?_ ?_
          rotate_left; · (intro w'; go_simp; with_reducible rfl)
          rotate_left 2; · (simp only [Act.put, zla, zlb, zlc, i64_w, i32_w, hwz, hwy]; rfl)
          refine zp 15 (some 52) ?_ rfl rfl (by kernel_rfl) (fun _ _ _ h => h) (by rfl) ?_ ?_ ?_ ?_ ?_
          rotate_left; · (intro w'; go_simp; with_reducible rfl)
          rotate_left 2; · (simp only [Act.put, zla, zlb, zlc, i64_w, i32_w, hwz, hwy]; rfl)
          refine zt 16 (some 53) ?_ rfl rfl (by kernel_rfl) (fun _ _ _ h => h) (by rfl) ?_ hHeld ?_ ?_ ?_ ?_
          rotate_left; · (rintro w' ⟨s0, s1, s2, s3⟩; go_simp; with_reducible rfl)
          rotate_left 2; · (simp only [Act.put, zla, zlb, zlc, i64_w, i32_w, hwz, hwy]; rfl)
          refine zp 18 (some 55) ?_ rfl rfl (by kernel_rfl) (fun _ _ _ h => h) (by rfl) ?_ ?_ ?_ ?_ ?_
          rotate_left; · (intro w'; go_simp; with_reducible rfl)
          rotate_left 2; · (simp only [Act.put, zla, zlb, zlc, i64_w, i32_w, hwz, hwy]; rfl)
          refine zt 19 (some 56) ?_ rfl rfl (by kernel_rfl) (fun _ _ _ h => h) (by rfl) ?_ hHeld ?_ ?_ ?_ ?_
          rotate_left; · (rintro w' ⟨s0, s1, s2, s3⟩; go_simp; with_reducible rfl)
          rotate_left 2; · (simp only [Act.put, zla, zlb, zlc, i64_w, i32_w, hwz, hwy]; rfl)
          refine zp 21 (some 58) ?_ rfl rfl (by kernel_rfl) (fun _ _ _ h => h) (by rfl) ?_ ?_ ?_ ?_ ?_
          rotate_left; · (intro w'; go_simp; with_reducible rfl)
          rotate_left 2; · (simp only [Act.put, zla, zlb, zlc, i64_w, i32_w, hwz, hwy]; rfl)
          refine zp 22 (some 59) ?_ rfl rfl (by kernel_rfl) (fun _ _ _ h => h) (by rfl) ?_ ?_ ?_ ?_ ?_
          rotate_left; · (intro w'; go_simp; with_reducible rfl)
          rotate_left 2; · (simp only [Act.put, zla, zlb, zlc, i64_w, i32_w, hwz, hwy]; rfl)
          refine last_ (i := 23) (N := none) #[true, true, true, true, true, true, true, true, true, true, true, true, true, true, true, true, true, true, true, true, true, true, true, true] rfl rfl (by kernel_rfl) (by decide) (fun K hK => ?_)
          refine skip_ (w1 := ?_) (by rfl) rfl ?_ ?_
          rotate_left
          · go_simp
            rfl
          refine hK.out _ _ ?_
          clear hK K
          refine done_ (by kernel_rfl) ?_
          go_wp2
          go_ret
          refine ⟨rfl, ?_⟩
          try rw [hyb]
          have hx := HO.out.byte false q z.toNat (bits BinOp.xor IntKind.u8 (rdOf (0 : Int) f.sure z) (2 ^ y.toNat)) HQA.out (fun f => St.F.spoilt f z.toNat (2 ^ y.toNat)) (fun f => spoilt_name f _ _) (by
            simp only [St.F.spoilt, fpart]
            rw [if_pos (by omega)]
            rfl) (by
            simp only [St.F.spoilt, fpart]
            rw [if_pos (by omega)]
            rfl)
          rw [(find_some HF.out).2] at hx
          exact RStep.then_below hx (below_drew (Below.refl _ _))
        · skip
          go_enter Try.func75, Try.ntmps75
          go_wp2_with fail
          refine HFD.out.mono ?_
          rintro e w1 ⟨r, rfl, rfl, hfd⟩
          obtain ⟨i, rfl, hi, hfi⟩ := find_idx hfd HF.out
          obtain ⟨g, cav, A1, c1, A2, c2, ho⟩ := HR.out.open_ i hi
          rw [hfi] at ho
          have HO := Aside0.mk ho
          have hp := ho.head
          have m0 := blk_cell hp 0
          have m1 := blk_cell hp 1
          have m2 := blk_cell hp 2
          have m3 := blk_cell hp 3
          have m4 := blk_cell hp 4
          have fm0 := blk_frozen hp 0
          have fm1 := blk_frozen hp 1
          have fm2 := blk_frozen hp 2
          have fm3 := blk_frozen hp 3
          have fm4 := blk_frozen hp 4
          simp only [List.getElem?_toArray, List.getElem?_cons_succ, List.getElem?_cons_zero] at m0 m1 m2 m3 m4
          have k0 := ho.k0
          have k1 := ho.k1
          have k2 := ho.k2
          obtain ⟨q, hqA⟩ : ∃ q, A2 = some ⟨q, 0, none⟩ := by
            obtain ⟨q, cap, e, _⟩ := Kd.R_form ho.r2 (by omega)
            injection e with e _ _
            exact ⟨q, e⟩
          have hrow := ho.r2
          rw [hqA] at hrow k2
          have HQA := Aside0.mk hqA
          obtain ⟨hcell, hfro⟩ := Kd.R_cell (0 : Int) hrow (z - f.sure.length) (by omega) (by omega)
          have hzn : ((z - f.sure.length)).toNat < f.loose.length := by omega
          clear hfd hfi hp ho hrow hqA
          obtain ⟨z2, hz2⟩ : ∃ z2 : Int, z - f.sure.length = z2 := ⟨_, rfl⟩
          have HZ2 := Aside0.mk hz2
          have hz3 : 0 ≤ z2 := by omega
          have hz4 : z2 < f.loose.length := by omega
          rw [hz2] at hcell hfro hzn
          have hwd2 : wrap64 (z - f.sure.length) = z2 := hwd.trans hz2
          clear hz2 hwd
          go_wp2
          refine start_ (n := 28) (S := fun w' => w'.cell? ⟨p, 0, none⟩ = some (.slice (some ⟨g, 0, none⟩) s.all.length cav) ∧ w'.cell? ⟨g, i * 3 + 2, none⟩ = some (.slice (some ⟨q, 0, none⟩) f.loose.length c2) ∧ w'.cell? ⟨q, z2.toNat, none⟩ = some (.int .u8 (rdOf (0 : Int) f.loose z2)) ∧ w'.frozen? ⟨q, z2.toNat, none⟩ = false) (ds := [27]) #[false, false, false, false, false, false, false, false, false, false, false, false, false, false, false, false, false, false, false, false, false, false, false, false, false, false, false, false] (by kernel_rfl) rfl rfl ⟨m0, k2, hcell, hfro⟩ (fun hHeld => ?_)
          refine zp 0 (some 73) ?_ rfl rfl (by kernel_rfl) (fun _ _ _ h => h) (by rfl) ?_ ?_ ?_ ?_ ?_
          rotate_left; · (intro w'; go_simp; with_reducible rfl)
          rotate_left 2; · (simp only [Act.put, zla, zlb, zlc, i64_w, i32_w, hwz, hwy, hwd2]; rfl)
          refine zp 1 (some 74) ?_ rfl rfl (by kernel_rfl) (fun _ _ _ h => h) (by rfl) ?_ ?_ ?_ ?_ ?_
          rotate_left; · (intro w'; go_simp; with_reducible rfl)
          rotate_left 2; · (simp only [Act.put, zla, zlb, zlc, i64_w, i32_w, hwz, hwy, hwd2]; rfl)
          refine zp 2 (some 75) ?_ rfl rfl (by kernel_rfl) (fun _ _ _ h => h) (by rfl) ?_ ?_ ?_ ?_ ?_
          rotate_left; · (intro w'; go_simp; with_reducible rfl)
          rotate_left 2; · (simp only [Act.put, zla, zlb, zlc, i64_w, i32_w, hwz, hwy, hwd2]; rfl)
          refine zp 4 (some 77) ?_ rfl rfl (by kernel_rfl) (fun _ _ _ h => h) (by rfl) ?_ ?_ ?_ ?_ ?_
          rotate_left; · (intro w'; go_simp; with_reducible rfl)
          rotate_left 2; · (simp only [Act.put, zla, zlb, zlc, i64_w, i32_w, hwz, hwy, hwd2]; rfl)
          refine zp 8 (some 81) ?_ rfl rfl (by kernel_rfl) (fun _ _ _ h => h) (by rfl) ?_ ?_ ?_ ?_ ?_
          rotate_left; · (intro w'; go_simp; with_reducible rfl)
          rotate_left 2; · (simp only [Act.put, zla, zlb, zlc, i64_w, i32_w, hwz, hwy, hwd2]; rfl)
          refine zp 9 (some 82) ?_ rfl rfl (by kernel_rfl) (fun _ _ _ h => h) (by rfl) ?_ ?_ ?_ ?_ ?_
          rotate_left; · (intro w'; go_simp; with_reducible rfl)
          rotate_left 2; · (simp only [Act.put, zla, zlb, zlc, i64_w, i32_w, hwz, hwy, hwd2]; rfl)
          refine zp 10 (some 83) ?_ rfl rfl (by kernel_rfl) (fun _ _ _ h => h) (by rfl) ?_ ?_ ?_ ?_ ?_
          rotate_left; · (intro w'; go_simp; with_reducible rfl)
          rotate_left 2; · (simp only [Act.put, zla, zlb, zlc, i64_w, i32_w, hwz, hwy, hwd2]; rfl)
          refine zp 11 (some 84) ?_ rfl rfl (by kernel_rfl) (fun _ _ _ h => h) (by rfl) ?_ ?_ ?_ ?_ ?_
          rotate_left; · (intro w'; go_simp; with_reducible rfl)
          rotate_left 2; · (simp only [Act.put, zla, zlb, zlc, i64_w, i32_w, hwz, hwy, hwd2]; rfl)
          refine zp 12 (some 85) ?_ rfl rfl (by kernel_rfl) (fun _ _ _ h => h) (by rfl) ?_ ?_ ?_ ?_ ?_
          rotate_left; · (intro w'; go_simp; with_reducible rfl)
          rotate_left 2; · (simp only [Act.put, zla, zlb, zlc, i64_w, i32_w, hwz, hwy, hwd2]; rfl)
          refine zp 13 (some 86) ?_ rfl rfl (by kernel_rfl) (fun _ _ _ h => h) (by rfl) ?_ ?_ ?_ ?_ ?_
          rotate_left; · (intro w'; go_simp; with_reducible rfl)
          rotate_left 2; · (simp only [Act.put, zla, zlb, zlc, i64_w, i32_w, hwz, hwy, hwd2]; rfl)
          refine zp 15 (some 88) ?_ rfl rfl (by kernel_rfl) (fun _ _ _ h => h) (by rfl) ?_ ?_ ?_ ?_ ?_
          rotate_left; · (intro w'; go_simp; with_reducible rfl)
          rotate_left 2; · (simp only [Act.put, zla, zlb, zlc, i64_w, i32_w, hwz, hwy, hwd2]; rfl)
          refine zp 19 (some 92) ?_ rfl rfl (by kernel_rfl) (fun _ _ _ h => h) (by rfl) ?_ ?_ ?_ ?_ ?_
          rotate_left; · (intro w'; go_simp; with_reducible rfl)
          rotate_left 2; · (simp only [Act.put, zla, zlb, zlc, i64_w, i32_w, hwz, hwy, hwd2]; rfl)
          refine zp 20 (some 93) ?_ rfl rfl (by kernel_rfl) (fun _ _ _ h => h) (by rfl) ?_ ?_ ?_ ?_ ?_
          rotate_left; · (intro w'; go_simp; with_reducible rfl)
          rotate_left 2; · (simp only [Act.put, zla, zlb, zlc, i64_w, i32_w, hwz, hwy, hwd2]; rfl)
          refine zp 21 (some 94) ?_ rfl rfl (by kernel_rfl) (fun _ _ _ h => h) (by rfl) ?_ ?_ ?_ ?_ ?_
          rotate_left; · (intro w'; go_simp; with_reducible rfl)
          rotate_left 2; · (simp only [Act.put, zla, zlb, zlc, i64_w, i32_w, hwz, hwy, hwd2]; rfl)
          refine zp 24 (some 97) ?_ rfl rfl (by kernel_rfl) (fun _ _ _ h => h) (by rfl) ?_ ?_ ?_ ?_ ?_
          rotate_left; · (intro w'; go_simp; with_reducible rfl)
          rotate_left 2; · (simp only [Act.put, zla, zlb, zlc, i64_w, i32_w, hwz, hwy, hwd2]; rfl)
          refine zt 3 (some 76) ?_ rfl rfl (by kernel_rfl) (fun _ _ _ h => h) (by rfl) ?_ hHeld ?_ ?_ ?_ ?_
          rotate_left; · (rintro w' ⟨s0, s1, s2, s3⟩; go_simp; with_reducible rfl)
          rotate_left 2; · (simp only [Act.put, zla, zlb, zlc, i64_w, i32_w, hwz, hwy, hwd2]; rfl)
          refine zp 5 (some 78) ?_ rfl rfl (by kernel_rfl) (fun _ _ _ h => h) (by rfl) ?_ ?_ ?_ ?_ ?_
          rotate_left; · (intro w'; go_simp; with_reducible rfl)
          rotate_left 2; · (simp only [Act.put, zla, zlb, zlc, i64_w, i32_w, hwz, hwy, hwd2]; rfl)
          refine zp 6 (some 79) ?_ rfl rfl (by kernel_rfl) (fun _ _ _ h => h) (by rfl) ?_ ?_ ?_ ?_ ?_
          rotate_left; · (intro w'; go_simp; with_reducible rfl)
          rotate_left 2; · (simp only [Act.put, zla, zlb, zlc, i64_w, i32_w, hwz, hwy, hwd2]; rfl)
          refine zt 7 (some 80) ?_ rfl rfl (by kernel_rfl) (fun _ _ _ h => h) (by rfl) ?_ hHeld ?_ ?_ ?_ ?_
          rotate_left; · (rintro w' ⟨s0, s1, s2, s3⟩; go_simp; with_reducible rfl)
          rotate_left 2; · (simp only [Act.put, zla, zlb, zlc, i64_w, i32_w, hwz, hwy, hwd2]; rfl)
          refine zt 14 (some 87) ?_ rfl rfl (by kernel_rfl) (fun _ _ _ h => h) (by rfl) ?_ hHeld ?_ ?_ ?_ ?_
          rotate_left; · (rintro w' ⟨s0, s1, s2, s3⟩; go_simp; with_reducible rfl)
          rotate_left 2; · (simp only [Act.put, zla, zlb, zlc, i64_w, i32_w, hwz, hwy, hwd2]; rfl)
          refine zp 16 (some 89) ?_ rfl rfl (by kernel_rfl) (fun _ _ _ h => h) (by rfl) ?_ ?_ ?_ ?_ ?_
          rotate_left; · (intro w'; go_simp; with_reducible rfl)
          rotate_left 2; · (simp only [Act.put, zla, zlb, zlc, i64_w, i32_w, hwz, hwy, hwd2]; rfl)
          refine zp 17 (some 90) ?_ rfl rfl (by kernel_rfl) (fun _ _ _ h => h) (by rfl) ?_ ?_ ?_ ?_ ?_
          rotate_left; · (intro w'; go_simp; with_reducible rfl)
          rotate_left 2; · (simp only [Act.put, zla, zlb, zlc, i64_w, i32_w, hwz, hwy, hwd2]; rfl)
          refine zt 18 (some 91) ?_ rfl rfl (by kernel_rfl) (fun _ _ _ h => h) (by rfl) ?_ hHeld ?_ ?_ ?_ ?_
          rotate_left; · (rintro w' ⟨s0, s1, s2, s3⟩; go_simp; with_reducible rfl)
          rotate_left 2; · (simp only [Act.put, zla, zlb, zlc, i64_w, i32_w, hwz, hwy, hwd2]; rfl)
          refine zp 22 (some 95) ?_ rfl rfl (by kernel_rfl) (fun _ _ _ h => h) (by rfl) ?_ ?_ ?_ ?_ ?_
          rotate_left; · (intro w'; go_simp; with_reducible rfl)
          rotate_left 2; · (simp only [Act.put, zla, zlb, zlc, i64_w, i32_w, hwz, hwy, hwd2]; rfl)
          refine zt 23 (some 96) ?_ rfl rfl (by kernel_rfl) (fun _ _ _ h => h) (by rfl) ?_ hHeld ?_ ?_ ?_ ?_
          rotate_left; · (rintro w' ⟨s0, s1, s2, s3⟩; go_simp; with_reducible rfl)
          rotate_left 2; · (simp only [Act.put, zla, zlb, zlc, i64_w, i32_w, hwz, hwy, hwd2]; rfl)
          refine zp 25 (some 98) ?_ rfl rfl (by kernel_rfl) (fun _ _ _ h => h) (by rfl) ?_ ?_ ?_ ?_ ?_
          rotate_left; · (intro w'; go_simp; with_reducible rfl)
          rotate_left 2; · (simp only [Act.put, zla, zlb, zlc, i64_w, i32_w, hwz, hwy, hwd2]; rfl)
          refine zp 26 (some 99) ?_ rfl rfl (by kernel_rfl) (fun _ _ _ h => h) (by rfl) ?_ ?_ ?_ ?_ ?_
          rotate_left; · (intro w'; go_simp; with_reducible rfl)
          rotate_left 2; · (simp only [Act.put, zla, zlb, zlc, i64_w, i32_w, hwz, hwy, hwd2]; rfl)
          refine last_ (i := 27) (N := none) #[true, true, true, true, true, true, true, true, true, true, true, true, true, true, true, true, true, true, true, true, true, true, true, true, true, true, true, true] rfl rfl (by kernel_rfl) (by decide) (fun K hK => ?_)
          refine skip_ (w1 := ?_) (by rfl) rfl ?_ ?_
          rotate_left
          · go_simp
            rfl
          refine hK.out _ _ ?_
          clear hK K
          refine done_ (by kernel_rfl) ?_
          go_wp2
          go_ret
          refine ⟨rfl, ?_⟩
          try rw [hyb]
          have hx := HO.out.byte true q z2.toNat (bits BinOp.xor IntKind.u8 (rdOf (0 : Int) f.loose z2) (2 ^ y.toNat)) HQA.out (fun f => St.F.spoilt f z.toNat (2 ^ y.toNat)) (fun f => spoilt_name f _ _) (by
            simp only [St.F.spoilt, fpart]
            rw [if_neg (by omega), show z2.toNat = z.toNat - f.sure.length by have := HZ2.out; omega]
            unfold rdOf
            rw [show z2.toNat = z.toNat - f.sure.length by have := HZ2.out; omega]
            rfl) (by
            simp only [St.F.spoilt, fpart]
            rw [if_neg (by omega)]
            rfl)
          rw [(find_some HF.out).2] at hx
          exact RStep.then_below hx (below_drew (Below.refl _ _))
end Go.Proofs.Ytfholpajdkjbbaa.DK
/- The reference's disk: New; conditions: those in each theorem. -/
namespace Go.Proofs.Ytfholpajdkjbbaa.DK
open Go.Proofs.Ytfholpajdkjbbaa.PD
open Go.RowKit Go.Proofs.YtfholpajdkjbbaaW.PrintWords Go.Proofs.YtfholpajdkjbbaaW.PrintLast Go.Proofs.YtfholpajdkjbbaaW.PrintMore Go.Proofs.Ytfholpajdkjbbaa.Mo
set_option linter.unusedVariables false
set_option linter.unusedSimpArgs false
def RNewPost (w : World) (o : Option St) (e : Ending) (w' : World) : Prop :=
  match o with
  | none => e = .returned (.tuple #[.pointer none, .int .i64 105]) ∧ Below w.heap.size w w'
  | some st => ∃ p, e = .returned (.tuple #[.pointer (some ⟨p, 0, none⟩), .int .i64 0]) ∧ RefD w' p (From w.heap.size w') st ∧ Below w.heap.size w w'
structure RBuild (w wr : World) (p : Nat) (l : List S67) (i : Nat) (acc : List F) : Prop where
  le : i ≤ l.length
  go : newGo ((l.take i).map of67) [] = some acc
  prog : RefD wr p (From w.heap.size wr) (stOf acc)
  ok : Ok (stOf acc)
  bel : Below w.heap.size w wr
  len : acc.length = i
def RBuildE (w : World) (p : Nat) (l : List S67) (iv : Value) (wr : World) : Prop := ∃ (i : Nat) (acc : List F), iv = .int .i64 i ∧ RBuild w wr p l i acc
theorem refd_empty (w : World) : RefD (w.alloc (.cells #[.slice none 0 0, .bool false, .int .i64 (-1), .int .i64 0, .int .i64 0] 84)) w.heap.size (From w.heap.size (w.alloc (.cells #[.slice none 0 0, .bool false, .int .i64 (-1), .int .i64 0, .int .i64 0] 84))) (stOf []) :=
  ⟨Sl.nil, fun _ _ => Sl.nil, 0, heap_alloc_new w _, fun _ => rfl, ⟨Nat.le_refl _, by simp⟩, fun k hk => hk.2, ⟨Kd.R_nil _ _ _ _ _, fun _ h => (by cases h), fun _ h => (by cases h), List.nodup_nil, fun k hk => (by cases hk), fun _ h => (by cases h)⟩⟩
theorem rnew_put {w wr W1 w10 w15 : World} {p : Nat} {l : List S67} {i : Nat} {x : S67} {acc : List F} {t1 t2 av av' : Sl} {rv : Bool → ByteArray → Sl} {a : Int} (hB : RBuild w wr p l i acc) (hxi : l[i]? = some x) (hl : l.length ≤ 400)
    (hna : isName x.f0 = true) (hfi : find (stOf acc).all x.f0 = none) (hft : fits (of67 x) acc = true) (h3 : ¬ 65536 < x.f1.length) (hwr : wr.heap.size ≤ W1.heap.size) (hbw : Below w.heap.size w W1) (hq : RDisk w10 p (From w.heap.size wr) (stOf acc) av rv a) (hb10 : Below W1.heap.size W1 w10)
    (h1 : (Kd.int .u8).R 5 w10 W1.heap.size (fun _ => True) t1.v (newF (of67 x)).sure) (h2 : (Kd.int .u8).R 5 w10 W1.heap.size (fun _ => True) t2.v (newF (of67 x)).loose) (hd : Dis t1.v t2.v)
    (ho : ∀ k, av'.v.ownBlock = some k → w10.heap.size ≤ k) (hT : kT.R 86 w15 0 (fun _ => True) av'.v ((put (newF (of67 x)) (stOf acc).all).map (fun y => if y.name = (newF (of67 x)).name then ⟨(newF (of67 x)).name, t1, t2⟩ else tri rv y))) (hu : Upd (fun k => k = p) w10 w15)
    (hp : w15.heap[p]? = some (.cells #[av'.v, .bool (stOf acc).down, .int .i64 (stOf acc).left, .int .i64 a, .int .i64 (stOf acc).fails] 84 (0, 0))) : RBuild w w15 p l (i + 1) (put (newF (of67 x)) acc) := by
  obtain ⟨hlt, _⟩ := List.getElem?_eq_some_iff.1 hxi
  have hnm : x.f0 ∉ namesOf (stOf acc).all := find_none hfi
  have hs := hu.size
  have hs10 := hb10.size
  have hsw := hbw.size
  have hn1 : ∀ k, t1.v.ownBlock = some k → From w.heap.size w15 k ∧ ¬ From w.heap.size wr k := fun k hk => by
    have h4 := Kd.R_base h1 k hk
    have h5 := Kd.R_lt h1 k hk
    exact ⟨⟨by omega, by omega⟩, fun h => by have := h.2; omega⟩
  have hn2 : ∀ k, t2.v.ownBlock = some k → From w.heap.size w15 k ∧ ¬ From w.heap.size wr k := fun k hk => by
    have h4 := Kd.R_base h2 k hk
    have h5 := Kd.R_lt h2 k hk
    exact ⟨⟨by omega, by omega⟩, fun h => by have := h.2; omega⟩
  have hfin := rput_done hq (newF (of67 x)) hnm t1 t2 hT hu hp (Kd.R_lower h1 (Nat.zero_le _)) (Kd.R_lower h2 (Nat.zero_le _)) hd (X' := From w.heap.size w15) (fun k hk => ⟨hk.1, by have := hk.2; omega⟩) hn1 hn2 (fun k hk => ⟨by have := ho k hk; omega, Kd.R_lt hT k hk⟩) (fun k hk => hk.2)
  have hdata : (newF (of67 x)).data = x.f1 := by simp only [newF, of67, F.data, List.take_append_drop]
  refine ⟨hlt, new_step hxi hB.go hft, ⟨_, _, _, hfin⟩, ?_, ?_, ?_⟩
  · refine hB.ok.put (newF (of67 x)) hna hnm ?_ ?_
    · have := congrArg List.length hdata
      rw [data_length] at this
      omega
    · show acc.length < 400
      rw [hB.len]; omega
  · exact (hbw.trans (hb10.mono hbw.size)).trans (hu.below (by omega) (fun k e => by have := hq.xp.1; omega))
  · rw [(put_perm _ acc).length_eq, List.length_cons, hB.len]
set_option maxHeartbeats 8000000 in
set_option maxRecDepth 100000 in
theorem rnew_calls (w : World) (A : Option Addr) (c : Nat) (l : List S67) (hr : k67.C w A l.length l) (hc : l.length ≤ c) (hd : ∀ x ∈ l, x.f1.length ≤ 2 ^ 40 ∧ -9223372036854775808 ≤ x.f2 ∧ x.f2 ≤ 9223372036854775807) :
    Calls Try.prog 39 #[.slice A l.length c] w (RNewPost w (St.new (l.map of67))) := by
  unfold St.new
  rw [List.length_map]
  by_cases h400 : 400 < l.length
  · rw [if_pos h400]
    clear hr
    go_enter Try.func39, Try.ntmps39
    go_wp2
    go_ret2
    exact ⟨rfl, below_alloc (Below.refl _ _) _⟩
  · rw [if_neg h400]
    have HR := Aside0.mk hr
    have HD := Aside0.mk hd
    have H0 := Aside0.mk (refd_empty w)
    clear hr hd
    go_enter Try.func39, Try.ntmps39
    go_wp2
    go_loopw [5] (fun iv wr => RBuildE w w.heap.size l iv wr) (fun iv _ => l.length - (intOf iv).toNat)
    case atStart => exact ⟨0, [], rfl, Nat.zero_le _, rfl, H0.out, ok_empty, below_alloc (Below.refl _ _) _, rfl⟩
    case round =>
      obtain ⟨i, acc, rfl, hb⟩ := hrel
      have HB := Aside0.mk hb
      by_cases hlt : i < l.length
      · obtain ⟨ad, A1, c1, eA, ca, cb, cc, hc1, hC1⟩ := at_T67 (Kd.C_below HR.out hb.bel) (i : Int) (by omega) (by omega)
        rw [rd67_nat l i hlt] at ca cb cc hc1 hC1
        have HX := Aside0.mk (HD.out _ (List.getElem_mem hlt))
        have HXI := Aside0.mk (show l[i]? = some l[i] from List.getElem?_eq_getElem hlt)
        generalize l[i] = x at *
        simp only [Int.toNat_natCast] at ca cb cc
        subst eA
        have HC0 := Aside0.mk hC1
        have HX1 := HX.out.1
        have HX2 := HX.out.2.1
        have HX3 := HX.out.2.2
        clear hb hC1
        cases hna : isName x.f0 with
        | false =>
          have HNA := Aside0.mk hna
          have HFT := Aside0.mk (show fits (of67 x) acc = false by unfold fits of67; rw [hna]; rfl)
          clear hna
          have HC1 := Aside0.mk (Kd.C_alloc HC0.out (.cells #[.string x.f0, .slice A1 x.f1.length c1, .int .i64 x.f2] 67))
          have HPW := Aside0.mk (HB.out.prog.below (below_alloc (Below.refl _ _) (.cells #[.string x.f0, .slice A1 x.f1.length c1, .int .i64 x.f2] 67)))
          have HBW := Aside0.mk (below_alloc HB.out.bel (.cells #[.string x.f0, .slice A1 x.f1.length c1, .int .i64 x.f2] 67))
          have HNW := Aside0.mk (heap_alloc_new wr (.cells #[.string x.f0, .slice A1 x.f1.length c1, .int .i64 x.f2] 67))
          have HSW := Aside0.mk (World.size_alloc' wr (.cells #[.string x.f0, .slice A1 x.f1.length c1, .int .i64 x.f2] 67))
          go_wp2_with fail
          generalize wr.alloc (.cells #[.string x.f0, .slice A1 x.f1.length c1, .int .i64 x.f2] 67) = W0 at *
          generalize hb6 : wr.heap.size = b6 at *
          have HB6 := Aside0.mk hb6
          clear hb6 ca cb cc
          have hnew := HNW.out
          have x0 := blk_cell hnew 0
          have x1 := blk_cell hnew 1
          have x2 := blk_cell hnew 2
          have fx0 := blk_frozen hnew 0
          have fx1 := blk_frozen hnew 1
          have fx2 := blk_frozen hnew 2
          simp only [List.getElem?_toArray, List.getElem?_cons_succ, List.getElem?_cons_zero] at x0 x1 x2
          clear hnew
          refine (rnamed_calls x.f0 false HNA.out _).mono ?_
          rintro e w7 ⟨rfl, ⟨⟨nd, rfl⟩⟩⟩
          go_wp2
          go_ret2
          rw [show newGo (l.map of67) [] = none from new_fail HXI.out HB.out.go HFT.out]
          exact ⟨rfl, by repeat (with_reducible first | exact HBW.out | apply pw_below_drewN | apply below_drew)⟩
        | true =>
          have HNA := Aside0.mk hna
          cases hfi : find acc x.f0 with
          | some fo =>
            have HFI := Aside0.mk (show find (stOf acc).all x.f0 = some fo from hfi)
            have HFT := Aside0.mk (show fits (of67 x) acc = false by unfold fits of67; rw [hna, hfi]; rfl)
            clear hna hfi
            have HC1 := Aside0.mk (Kd.C_alloc HC0.out (.cells #[.string x.f0, .slice A1 x.f1.length c1, .int .i64 x.f2] 67))
            have HPW := Aside0.mk (HB.out.prog.below (below_alloc (Below.refl _ _) (.cells #[.string x.f0, .slice A1 x.f1.length c1, .int .i64 x.f2] 67)))
            have HBW := Aside0.mk (below_alloc HB.out.bel (.cells #[.string x.f0, .slice A1 x.f1.length c1, .int .i64 x.f2] 67))
            have HNW := Aside0.mk (heap_alloc_new wr (.cells #[.string x.f0, .slice A1 x.f1.length c1, .int .i64 x.f2] 67))
            have HSW := Aside0.mk (World.size_alloc' wr (.cells #[.string x.f0, .slice A1 x.f1.length c1, .int .i64 x.f2] 67))
            go_wp2_with fail
            generalize wr.alloc (.cells #[.string x.f0, .slice A1 x.f1.length c1, .int .i64 x.f2] 67) = W0 at *
            generalize hb6 : wr.heap.size = b6 at *
            have HB6 := Aside0.mk hb6
            clear hb6 ca cb cc
            have hnew := HNW.out
            have x0 := blk_cell hnew 0
            have x1 := blk_cell hnew 1
            have x2 := blk_cell hnew 2
            have fx0 := blk_frozen hnew 0
            have fx1 := blk_frozen hnew 1
            have fx2 := blk_frozen hnew 2
            simp only [List.getElem?_toArray, List.getElem?_cons_succ, List.getElem?_cons_zero] at x0 x1 x2
            clear hnew
            refine (rnamed_calls x.f0 true HNA.out _).mono ?_
            rintro e w7 ⟨rfl, ⟨⟨nd, rfl⟩⟩⟩
            go_wp2_with fail
            have HP7 := Aside0.mk (HPW.out.below (pw_below_drewN (Below.refl _ _) nd))
            refine (rfind_calls _ _ _ _ x.f0 HP7.out HB.out.ok).mono ?_
            rintro e w8 ⟨rr, rfl, rfl, hfd⟩
            unfold Found at hfd
            rw [HFI.out] at hfd
            obtain ⟨ii, rfl, _⟩ := hfd
            go_wp2
            go_ret2
            rw [show newGo (l.map of67) [] = none from new_fail HXI.out HB.out.go HFT.out]
            exact ⟨rfl, by repeat (with_reducible first | exact HBW.out | apply pw_below_drewN | apply below_drew)⟩
          | none =>
            have HFI := Aside0.mk (show find (stOf acc).all x.f0 = none from hfi)
            by_cases h3 : 65536 < x.f1.length
            · have HFT := Aside0.mk (show fits (of67 x) acc = false by unfold fits of67; rw [hna, hfi]; simp; omega)
              clear hna hfi
              have HC1 := Aside0.mk (Kd.C_alloc HC0.out (.cells #[.string x.f0, .slice A1 x.f1.length c1, .int .i64 x.f2] 67))
              have HPW := Aside0.mk (HB.out.prog.below (below_alloc (Below.refl _ _) (.cells #[.string x.f0, .slice A1 x.f1.length c1, .int .i64 x.f2] 67)))
              have HBW := Aside0.mk (below_alloc HB.out.bel (.cells #[.string x.f0, .slice A1 x.f1.length c1, .int .i64 x.f2] 67))
              have HNW := Aside0.mk (heap_alloc_new wr (.cells #[.string x.f0, .slice A1 x.f1.length c1, .int .i64 x.f2] 67))
              have HSW := Aside0.mk (World.size_alloc' wr (.cells #[.string x.f0, .slice A1 x.f1.length c1, .int .i64 x.f2] 67))
              go_wp2_with fail
              generalize wr.alloc (.cells #[.string x.f0, .slice A1 x.f1.length c1, .int .i64 x.f2] 67) = W0 at *
              generalize hb6 : wr.heap.size = b6 at *
              have HB6 := Aside0.mk hb6
              clear hb6 ca cb cc
              have hnew := HNW.out
              have x0 := blk_cell hnew 0
              have x1 := blk_cell hnew 1
              have x2 := blk_cell hnew 2
              have fx0 := blk_frozen hnew 0
              have fx1 := blk_frozen hnew 1
              have fx2 := blk_frozen hnew 2
              simp only [List.getElem?_toArray, List.getElem?_cons_succ, List.getElem?_cons_zero] at x0 x1 x2
              clear hnew
              refine (rnamed_calls x.f0 true HNA.out _).mono ?_
              rintro e w7 ⟨rfl, ⟨⟨nd, rfl⟩⟩⟩
              go_wp2_with fail
              have HP7 := Aside0.mk (HPW.out.below (pw_below_drewN (Below.refl _ _) nd))
              refine (rfind_calls _ _ _ _ x.f0 HP7.out HB.out.ok).mono ?_
              rintro e w8 ⟨rr, rfl, rfl, hfd⟩
              unfold Found at hfd
              rw [HFI.out] at hfd
              have hfd : rr = -1 := hfd
              subst hfd
              go_wp2
              go_ret2
              rw [show newGo (l.map of67) [] = none from new_fail HXI.out HB.out.go HFT.out]
              exact ⟨rfl, by repeat (with_reducible first | exact HBW.out | apply pw_below_drewN | apply below_drew)⟩
            · by_cases h4 : x.f2 < 0
              · have HFT := Aside0.mk (show fits (of67 x) acc = false by unfold fits of67; rw [hna, hfi]; simp; omega)
                clear hna hfi
                have HC1 := Aside0.mk (Kd.C_alloc HC0.out (.cells #[.string x.f0, .slice A1 x.f1.length c1, .int .i64 x.f2] 67))
                have HPW := Aside0.mk (HB.out.prog.below (below_alloc (Below.refl _ _) (.cells #[.string x.f0, .slice A1 x.f1.length c1, .int .i64 x.f2] 67)))
                have HBW := Aside0.mk (below_alloc HB.out.bel (.cells #[.string x.f0, .slice A1 x.f1.length c1, .int .i64 x.f2] 67))
                have HNW := Aside0.mk (heap_alloc_new wr (.cells #[.string x.f0, .slice A1 x.f1.length c1, .int .i64 x.f2] 67))
                have HSW := Aside0.mk (World.size_alloc' wr (.cells #[.string x.f0, .slice A1 x.f1.length c1, .int .i64 x.f2] 67))
                go_wp2_with fail
                generalize wr.alloc (.cells #[.string x.f0, .slice A1 x.f1.length c1, .int .i64 x.f2] 67) = W0 at *
                generalize hb6 : wr.heap.size = b6 at *
                have HB6 := Aside0.mk hb6
                clear hb6 ca cb cc
                have hnew := HNW.out
                have x0 := blk_cell hnew 0
                have x1 := blk_cell hnew 1
                have x2 := blk_cell hnew 2
                have fx0 := blk_frozen hnew 0
                have fx1 := blk_frozen hnew 1
                have fx2 := blk_frozen hnew 2
                simp only [List.getElem?_toArray, List.getElem?_cons_succ, List.getElem?_cons_zero] at x0 x1 x2
                clear hnew
                refine (rnamed_calls x.f0 true HNA.out _).mono ?_
                rintro e w7 ⟨rfl, ⟨⟨nd, rfl⟩⟩⟩
                go_wp2_with fail
                have HP7 := Aside0.mk (HPW.out.below (pw_below_drewN (Below.refl _ _) nd))
                refine (rfind_calls _ _ _ _ x.f0 HP7.out HB.out.ok).mono ?_
                rintro e w8 ⟨rr, rfl, rfl, hfd⟩
                unfold Found at hfd
                rw [HFI.out] at hfd
                have hfd : rr = -1 := hfd
                subst hfd
                go_wp2
                go_ret2
                rw [show newGo (l.map of67) [] = none from new_fail HXI.out HB.out.go HFT.out]
                exact ⟨rfl, by repeat (with_reducible first | exact HBW.out | apply pw_below_drewN | apply below_drew)⟩
              · by_cases h5 : (x.f1.length : Int) < x.f2
                · have HFT := Aside0.mk (show fits (of67 x) acc = false by unfold fits of67; rw [hna, hfi]; simp; omega)
                  clear hna hfi
                  have HC1 := Aside0.mk (Kd.C_alloc HC0.out (.cells #[.string x.f0, .slice A1 x.f1.length c1, .int .i64 x.f2] 67))
                  have HPW := Aside0.mk (HB.out.prog.below (below_alloc (Below.refl _ _) (.cells #[.string x.f0, .slice A1 x.f1.length c1, .int .i64 x.f2] 67)))
                  have HBW := Aside0.mk (below_alloc HB.out.bel (.cells #[.string x.f0, .slice A1 x.f1.length c1, .int .i64 x.f2] 67))
                  have HNW := Aside0.mk (heap_alloc_new wr (.cells #[.string x.f0, .slice A1 x.f1.length c1, .int .i64 x.f2] 67))
                  have HSW := Aside0.mk (World.size_alloc' wr (.cells #[.string x.f0, .slice A1 x.f1.length c1, .int .i64 x.f2] 67))
                  go_wp2_with fail
                  generalize wr.alloc (.cells #[.string x.f0, .slice A1 x.f1.length c1, .int .i64 x.f2] 67) = W0 at *
                  generalize hb6 : wr.heap.size = b6 at *
                  have HB6 := Aside0.mk hb6
                  clear hb6 ca cb cc
                  have hnew := HNW.out
                  have x0 := blk_cell hnew 0
                  have x1 := blk_cell hnew 1
                  have x2 := blk_cell hnew 2
                  have fx0 := blk_frozen hnew 0
                  have fx1 := blk_frozen hnew 1
                  have fx2 := blk_frozen hnew 2
                  simp only [List.getElem?_toArray, List.getElem?_cons_succ, List.getElem?_cons_zero] at x0 x1 x2
                  clear hnew
                  refine (rnamed_calls x.f0 true HNA.out _).mono ?_
                  rintro e w7 ⟨rfl, ⟨⟨nd, rfl⟩⟩⟩
                  go_wp2_with fail
                  have HP7 := Aside0.mk (HPW.out.below (pw_below_drewN (Below.refl _ _) nd))
                  refine (rfind_calls _ _ _ _ x.f0 HP7.out HB.out.ok).mono ?_
                  rintro e w8 ⟨rr, rfl, rfl, hfd⟩
                  unfold Found at hfd
                  rw [HFI.out] at hfd
                  have hfd : rr = -1 := hfd
                  subst hfd
                  go_wp2
                  go_ret2
                  rw [show newGo (l.map of67) [] = none from new_fail HXI.out HB.out.go HFT.out]
                  exact ⟨rfl, by repeat (with_reducible first | exact HBW.out | apply pw_below_drewN | apply below_drew)⟩
                · have HFT := Aside0.mk (show fits (of67 x) acc = true by unfold fits of67; rw [hna, hfi]; simp; omega)
                  obtain ⟨fn, hfn⟩ : ∃ fn : Nat, x.f2 = fn := ⟨x.f2.toNat, by omega⟩
                  rw [hfn] at cc h4 h5
                  have HFN := Aside0.mk (show x.f2.toNat = fn by omega)
                  clear hna hfi hfn HX2 HX3
                  have HC1 := Aside0.mk (Kd.C_alloc HC0.out (.cells #[.string x.f0, .slice A1 x.f1.length c1, .int .i64 (fn : Int)] 67))
                  have HPW := Aside0.mk (HB.out.prog.below (below_alloc (Below.refl _ _) (.cells #[.string x.f0, .slice A1 x.f1.length c1, .int .i64 (fn : Int)] 67)))
                  have HBW := Aside0.mk (below_alloc HB.out.bel (.cells #[.string x.f0, .slice A1 x.f1.length c1, .int .i64 (fn : Int)] 67))
                  have HNW := Aside0.mk (heap_alloc_new wr (.cells #[.string x.f0, .slice A1 x.f1.length c1, .int .i64 (fn : Int)] 67))
                  have HSW := Aside0.mk (World.size_alloc' wr (.cells #[.string x.f0, .slice A1 x.f1.length c1, .int .i64 (fn : Int)] 67))
                  go_wp2_with fail
                  generalize wr.alloc (.cells #[.string x.f0, .slice A1 x.f1.length c1, .int .i64 (fn : Int)] 67) = W0 at *
                  generalize hb6 : wr.heap.size = b6 at *
                  have HB6 := Aside0.mk hb6
                  clear hb6 ca cb cc
                  have hnew := HNW.out
                  have x0 := blk_cell hnew 0
                  have x1 := blk_cell hnew 1
                  have x2 := blk_cell hnew 2
                  have fx0 := blk_frozen hnew 0
                  have fx1 := blk_frozen hnew 1
                  have fx2 := blk_frozen hnew 2
                  simp only [List.getElem?_toArray, List.getElem?_cons_succ, List.getElem?_cons_zero] at x0 x1 x2
                  clear hnew
                  refine (rnamed_calls x.f0 true HNA.out _).mono ?_
                  rintro e w7 ⟨rfl, ⟨⟨nd, rfl⟩⟩⟩
                  go_wp2_with fail
                  have HP7 := Aside0.mk (HPW.out.below (pw_below_drewN (Below.refl _ _) nd))
                  refine (rfind_calls _ _ _ _ x.f0 HP7.out HB.out.ok).mono ?_
                  rintro e w8 ⟨rr, rfl, rfl, hfd⟩
                  unfold Found at hfd
                  rw [HFI.out] at hfd
                  have hfd : rr = -1 := hfd
                  subst hfd
                  go_wp2
                  refine start_ (n := 16) (S := fun w' => w'.cell? ⟨b6, 0, none⟩ = some (.string x.f0) ∧ w'.cell? ⟨b6, 1, none⟩ = some (.slice A1 x.f1.length c1) ∧ w'.cell? ⟨b6, 2, none⟩ = some (.int .i64 fn)) (ds := [15]) #[false, false, false, false, false, false, false, false, false, false, false, false, false, false, false, false] (by kernel_rfl) rfl rfl ⟨x0, x1, x2⟩ (fun hHeld => ?_)
                  refine zq 0 (some 52) ?_
                  refine zq 1 (some 53) ?_
                  refine zq 3 (some 55) ?_
                  refine zq 5 (some 57) ?_
                  refine zq 8 (some 60) ?_
                  refine zq 10 (some 62) ?_
                  refine zq 12 (some 64) ?_
                  refine zu 2 (some 54) hHeld ?_
                  refine zu 4 (some 56) hHeld ?_
                  refine zu 6 (some 58) hHeld ?_
                  refine zu 9 (some 61) hHeld ?_
                  refine zu 11 (some 63) hHeld ?_
                  refine one_ (i := 7) (N := some 59) #[true, true, true, true, true, true, true, true, true, true, true, true, true, false, false, false] rfl rfl (by kernel_rfl) (by decide) (fun K hK => ?_)
                  refine goes_ Try.func42 (by kernel_rfl) rfl #[.slice A1 x.f1.length c1, .int .i64 0, .int .i64 fn] (by rfl) rfl rfl (by simp only [List.map_toArray, List.map_cons, List.map_nil]; rfl) ?_
                  refine (fresh_calls _ A1 c1 x.f1 0 fn (Nat.zero_le _) (by omega) (by omega) (Kd.C_drew (Kd.C_drewN HC1.out nd)) hc1).mono ?_
                  rintro e w9 ⟨v9, rfl, r9, b9⟩
                  rw [List.drop_zero] at r9
                  obtain ⟨A9, c9, rfl, _, _⟩ := Kd.R_reads r9
                  generalize (x.f1.take fn).length = n9 at r9 ⊢
                  refine ⟨_, rfl, ?_⟩
                  have R9 := Aside0.mk r9
                  have B9 := Aside0.mk b9
                  have hn9 := blk_upd (show (W0.drewN nd).drew.heap[b6]? = some (.cells #[.string x.f0, .slice A1 x.f1.length c1, .int .i64 fn] 67 (0, 0)) from HNW.out) (Upd.of_below b9 (fun _ => False)) (fun h => h)
                  have HN9 := Aside0.mk hn9
                  have y0 := blk_cell hn9 0
                  have y1 := blk_cell hn9 1
                  have y2 := blk_cell hn9 2
                  have fy0 := blk_frozen hn9 0
                  have fy1 := blk_frozen hn9 1
                  have fy2 := blk_frozen hn9 2
                  simp only [List.getElem?_toArray, List.getElem?_cons_succ, List.getElem?_cons_zero] at y0 y1 y2
                  clear r9 b9 hn9
                  refine hK.out _ _ ⟨y0, y1, y2⟩ (fun hHeld => ?_)
                  clear hK K
                  refine norm_ (a' := ?_) ?_ ?_
                  rotate_left
                  · show Act.put _ (some 59) _ = _
                    simp only [Act.put, zla, zlb, zlc, i64_w, i32_w]
                    rfl
                  refine one_ (i := 13) (N := some 65) #[true, true, true, true, true, true, true, true, true, true, true, true, true, true, false, false] rfl rfl (by kernel_rfl) (by decide) (fun K hK => ?_)
                  refine goes_ Try.func42 (by kernel_rfl) rfl #[.slice A1 x.f1.length c1, .int .i64 fn, .int .i64 x.f1.length] (by rfl) rfl rfl (by simp only [List.map_toArray, List.map_cons, List.map_nil]; rfl) ?_
                  refine (fresh_calls w9 A1 c1 x.f1 fn x.f1.length (by omega) (Nat.le_refl _) (by omega) (Kd.C_below (Kd.C_drew (Kd.C_drewN HC1.out nd)) B9.out) hc1).mono ?_
                  rintro e w10 ⟨v10, rfl, r10, b10⟩
                  rw [List.take_length] at r10
                  obtain ⟨A10, c10, rfl, _, _⟩ := Kd.R_reads r10
                  generalize (x.f1.drop fn).length = n10 at r10 ⊢
                  refine ⟨_, rfl, ?_⟩
                  have R10 := Aside0.mk r10
                  have B10 := Aside0.mk b10
                  have hn10 := blk_upd HN9.out (Upd.of_below b10 (fun _ => False)) (fun h => h)
                  have z0 := blk_cell hn10 0
                  have z1 := blk_cell hn10 1
                  have z2 := blk_cell hn10 2
                  have fz0 := blk_frozen hn10 0
                  have fz1 := blk_frozen hn10 1
                  have fz2 := blk_frozen hn10 2
                  simp only [List.getElem?_toArray, List.getElem?_cons_succ, List.getElem?_cons_zero] at z0 z1 z2
                  clear r10 b10 hn10
                  refine hK.out _ _ ⟨z0, z1, z2⟩ (fun hHeld => ?_)
                  clear hK K
                  refine norm_ (a' := ?_) ?_ ?_
                  rotate_left
                  · show Act.put _ (some 65) _ = _
                    simp only [Act.put, zla, zlb, zlc, i64_w, i32_w]
                    rfl
                  refine zq 14 (some 66) ?_
                  refine last_ (i := 15) (N := some 67) #[true, true, true, true, true, true, true, true, true, true, true, true, true, true, true, true] rfl rfl (by kernel_rfl) (by decide) (fun K hK => ?_)
                  have hB10 : Below (W0.drewN nd).drew.heap.size (W0.drewN nd).drew w10 := B9.out.trans (B10.out.mono B9.out.size)
                  obtain ⟨av, rv, a, hq⟩ := (show RefD (W0.drewN nd).drew w.heap.size (From w.heap.size wr) (stOf acc) from HP7.out.below (below_drew (Below.refl _ _))).below hB10
                  have HQ := Aside0.mk hq
                  have HB10 := Aside0.mk hB10
                  clear hq hB10
                  refine goes_ Try.func59 (by kernel_rfl) rfl #[.pointer (some ⟨w.heap.size, 0, none⟩), .agg #[.string x.f0, .slice A9 n9 c9, .slice A10 n10 c10]] (by rfl) rfl rfl (by simp only [List.map_toArray, List.map_cons, List.map_nil]; rfl) ?_
                  refine (rput_raw w10 w.heap.size _ (stOf acc) av rv a HQ.out (by show acc.length ≤ 400; rw [HB.out.len]; omega) (newF (of67 x)) (find_none HFI.out) A9 n9 c9 A10 n10 c10).mono ?_
                  rintro e w15 ⟨rfl, av', g1, g2, g3, g4⟩
                  refine ⟨_, rfl, ?_⟩
                  refine hK.out _ _ ?_
                  clear hK K
                  refine norm_ (a' := ?_) ?_ ?_
                  rotate_left
                  · show Act.put _ (some 67) _ = _
                    simp only [Act.put, zla, zlb, zlc, i64_w, i32_w]
                    rfl
                  refine done_ (by kernel_rfl) ?_
                  have HD2 := Aside0.mk (rnew_put HB.out HXI.out (by omega) HNA.out HFI.out HFT.out h3 (show wr.heap.size ≤ (W0.drewN nd).drew.heap.size from by rw [HB6.out]; exact (by rw [show (W0.drewN nd).drew.heap.size = W0.heap.size from rfl, HSW.out]; omega)) (show Below w.heap.size w (W0.drewN nd).drew from below_drew (pw_below_drewN HBW.out _)) HQ.out HB10.out (t1 := ⟨A9, n9, c9⟩) (t2 := ⟨A10, n10, c10⟩) (by show (Kd.int .u8).R 5 w10 _ _ _ (x.f1.take x.f2.toNat); rw [HFN.out]; exact Kd.R_below R9.out (show Below w9.heap.size w9 w10 from B10.out)) (by show (Kd.int .u8).R 5 w10 _ _ _ (x.f1.drop x.f2.toNat); rw [HFN.out]; exact Kd.R_lower R10.out B9.out.size) (fun k hk hk2 => by have e1 := Kd.R_lt R9.out k hk; have e2 := Kd.R_base R10.out k hk2; omega) g1 g2 g3 g4)
                  clear g1 g2 g3 g4
                  go_wp2
                  go_roundw
                  case rel => exact ⟨i + 1, _, rfl, HD2.out⟩
                  case measure => simp [intOf]; omega
      · have hi : i = l.length := by have := hb.le; omega
        subst hi
        have hgo := hb.go
        rw [List.take_length] at hgo
        have HG := Aside0.mk hgo
        clear hb hgo
        go_wp2
        go_ret2
        rw [HG.out]
        exact ⟨_, rfl, HB.out.prog, HB.out.bel⟩
end Go.Proofs.Ytfholpajdkjbbaa.DK
