/- survives, where it holds; conditions: those in each theorem. -/
import Derived.Test.YtfholpajdkjbbaaQdLk
namespace Go.Proofs.Ytfholpajdkjbbaa.DK
open Go.Proofs.Ytfholpajdkjbbaa.PD
open Go.RowKit Go.Proofs.YtfholpajdkjbbaaW.PrintWords Go.Proofs.YtfholpajdkjbbaaW.PrintLast Go.Proofs.YtfholpajdkjbbaaW.PrintMore Go.Proofs.Ytfholpajdkjbbaa.Mo
set_option linter.unusedVariables false
set_option linter.unusedSimpArgs false
theorem file_at {w : World} {A : Option Addr} {l : List S67} (h : Kd.C k67 w A l.length l) {i : Nat} (hi : i < l.length) : ∃ ad A1 c1, A = some ad ∧
    (∀ wr, Below w.heap.size w wr → wr.cell? (ad.add (i * 3)) = some (.string l[i].f0) ∧ wr.cell? ⟨(ad.add (i * 3)).block, (ad.add (i * 3)).off + 1, none⟩ = some (.slice A1 l[i].f1.length c1) ∧ wr.cell? ⟨(ad.add (i * 3)).block, (ad.add (i * 3)).off + 2, none⟩ = some (.int .i64 l[i].f2)) ∧
    l[i].f1.length ≤ c1 ∧ ∀ wr, Below w.heap.size w wr → (Kd.int .u8).C wr A1 l[i].f1.length l[i].f1 := by
  have h1 := at_T67 h (i : Int) (by omega) (by omega)
  rw [rd67_nat l i hi] at h1
  obtain ⟨ad, A1, c1, e, d0, d1, d2, l5, g5⟩ := h1
  simp only [Int.toNat_natCast] at d0 d1 d2
  exact ⟨ad, A1, c1, e, fun wr hb => ⟨cell_old hb d0, cell_old hb d1, cell_old hb d2⟩, l5, fun wr hb => Kd.C_below g5 hb⟩
theorem below_alloc' {w0 w : World} (h : Below w0.heap.size w0 w) (o : Obj) : Below w0.heap.size w0 (w.alloc o) := below_alloc h o
/-- File a is what survives of b, as keep has it for file i. -/
structure Surv (keep : List Int) (i : Nat) (b a : S67) : Prop where
  nm : a.f0 = b.f0
  s0 : 0 ≤ b.f2
  s1 : b.f2 ≤ b.f1.length
  sm : b.f1.length ≤ 65536
  n : a.f2 = b.f2 + min (St.keepOf keep i) ((b.f1.length : Int) - b.f2)
  d : a.f1 = b.f1.take a.f2.toNat
theorem same_n {n : Nat} {l : List Int} (hn : l.length = n) (w : World) (A0 : Option Addr) (c0 : Nat) (A1 : Option Addr) (c1 : Nat) (hr0 : (Kd.int .u8).C w A0 l.length l) (hc0 : l.length ≤ c0) (hr1 : (Kd.int .u8).C w A1 l.length l) (hc1 : l.length ≤ c1) (h0 : l.length < 2 ^ 62) :
    Calls Try.prog 37 #[.slice A0 n c0, .slice A1 n c1] w fun e w' => e = .returned (.bool true) ∧ Drawn0 w w' := by
  subst hn
  exact same_same w A0 c0 l A1 c1 hr0 hc0 hr1 hc1 h0
structure SvI (w wr : World) (n i : Nat) : Prop where
  le : i ≤ n
  bel : Below w.heap.size w wr
def SvE (w : World) (n : Nat) (iv : Value) (wr : World) : Prop := ∃ i : Nat, iv = .int .i64 i ∧ SvI w wr n i
set_option maxHeartbeats 8000000 in
set_option maxRecDepth 100000 in
theorem survives_calls (w : World) (A : Option Addr) (c : Nat) (l : List S67) (hr : k67.C w A l.length l) (hc : l.length ≤ c) (A' : Option Addr) (c' : Nat) (l' : List S67) (hr' : k67.C w A' l'.length l') (hc' : l'.length ≤ c')
    (K : Option Addr) (ck : Nat) (keep : List Int) (hk : (Kd.int .i64).C w K keep.length keep) (hck : keep.length ≤ ck) (hl : l.length ≤ 1000) (hkl : keep.length ≤ 2 ^ 40) (hlen : l'.length = l.length) (hs : ∀ i b a, l[i]? = some b → l'[i]? = some a → Surv keep i b a) :
    Calls Try.prog 25 #[.slice A l.length c, .slice A' l'.length c', .slice K keep.length ck] w fun e w' => e = .returned (.bool true) ∧ Below w.heap.size w w' := by
  have HR := Aside0.mk hr
  have HR' := Aside0.mk hr'
  have HK := Aside0.mk hk
  have HS := Aside0.mk hs
  have HLN := Aside0.mk hlen
  rw [hlen] at hc' ⊢
  clear hr hr' hk hs hlen
  go_enter Try.func25, Try.ntmps25
  go_wp2
  go_loopw [7] (fun iv wr => SvE w l.length iv wr) (fun iv _ => l.length - (intOf iv).toNat)
  case atStart => exact ⟨0, rfl, Nat.zero_le _, Below.refl _ _⟩
  case round =>
    obtain ⟨i, rfl, hle, hbel⟩ := hrel
    have HB := Aside0.mk hbel
    by_cases hlt : i < l.length
    · obtain ⟨ad, A1, c1, rfl, hcell, hc1, hC1⟩ := file_at HR.out hlt
      obtain ⟨d0, d1, d2⟩ := hcell wr hbel
      obtain ⟨ad', A2, c2, rfl, hcell', hc2, hC2⟩ := file_at HR'.out (show i < l'.length by rw [HLN.out]; exact hlt)
      obtain ⟨e0, e1, e2⟩ := hcell' wr hbel
      have hlt' : i < l'.length := by rw [HLN.out]; exact hlt
      have hsv := HS.out i l[i] l'[i] (List.getElem?_eq_getElem hlt) (List.getElem?_eq_getElem hlt')
      have HC1 := Aside0.mk hC1
      have HC2 := Aside0.mk hC2
      clear hcell hC1 hC2
      generalize l[i] = b at *
      generalize hx : l'[i] = a at *
      obtain ⟨bn, bd, bs⟩ := b
      obtain ⟨an, adt, az⟩ := a
      obtain ⟨rfl, hs0, hs1, hsm, hn, hdt⟩ := hsv
      dsimp only at *
      subst hdt
      obtain ⟨i5, hi5, hz5_⟩ := Option.map_eq_some_iff.1 PD.info5
      have hz5 : i5.size = 1 := (Prod.mk.inj (Prod.mk.inj hz5_).2).1
      clear hz5_
      obtain ⟨z, hz⟩ : ∃ z : Int, z = min (St.keepOf keep i) ((bd.length : Int) - bs) := ⟨_, rfl⟩
      have hk9 : 0 ≤ St.keepOf keep i := by unfold St.keepOf; split <;> omega
      have hz0 : 0 ≤ z := by omega
      have hz1 : bs + z ≤ bd.length := by omega
      obtain rfl : az = bs + z := by rw [hn, hz]
      have hlt8 : (bd.take (bs + z).toNat).length = (bs + z).toNat := by rw [List.length_take]; omega
      obtain ⟨hcut, _, hle⟩ := print_take_int (k := .u8) 38 5 Try.underlying38 hi5 hz5 A1 c1 bd (bs + z) (by omega) hz1 hc1
      rw [hlt8] at hcut hcell'
      have hw1 : wrap64 ((bd.length : Int) - bs) = (bd.length : Int) - bs := w64 (by omega) (by omega)
      have hw2 : wrap64 (bs + z) = bs + z := w64 (by omega) (by omega)
      have hnc : bs + z ≤ (c1 : Int) := by omega
      obtain ⟨q0, q1, q2⟩ := hcell' (wr.alloc (.cells #[.string an, .slice A1 bd.length c1, .int .i64 bs] 67)) (below_alloc' hbel _)
      have hg1 := blk_alloc (heap_alloc_new wr (.cells #[.string an, .slice A1 bd.length c1, .int .i64 bs] 67)) (.cells #[.string an, .slice A2 (bs + z).toNat c2, .int .i64 (bs + z)] 67)
      have hg2 := heap_alloc_new (wr.alloc (.cells #[.string an, .slice A1 bd.length c1, .int .i64 bs] 67)) (.cells #[.string an, .slice A2 (bs + z).toNat c2, .int .i64 (bs + z)] 67)
      rw [World.size_alloc'] at hg2
      have x0 := blk_cell hg1 0
      have x1 := blk_cell hg1 1
      have x2 := blk_cell hg1 2
      have fx0 := blk_frozen hg1 0
      have fx1 := blk_frozen hg1 1
      have fx2 := blk_frozen hg1 2
      simp only [List.getElem?_toArray, List.getElem?_cons_succ, List.getElem?_cons_zero] at x0 x1 x2
      have y0 := blk_cell hg2 0
      have y1 := blk_cell hg2 1
      have y2 := blk_cell hg2 2
      have fy0 := blk_frozen hg2 0
      have fy1 := blk_frozen hg2 1
      have fy2 := blk_frozen hg2 2
      simp only [List.getElem?_toArray, List.getElem?_cons_succ, List.getElem?_cons_zero] at y0 y1 y2
      have HQ := Aside0.mk hle
      have HL8 := Aside0.mk hlt8
      clear hg1 hg2 hcell' hn hle hlt8 e0 e1 e2
      by_cases hk0 : keep.length = 0
      · have hkk : ¬ ((0 : Int) < (keep.length : Int)) := by omega
        have hm0 : min (0 : Int) ((bd.length : Int) - bs) = z := by rw [hz]; unfold St.keepOf; rw [if_pos hk0]
        clear hk0 hbel hz hk9
        go_wp2
        refine start_ (n := 21) (S := fun w' => w'.cell? ⟨wr.heap.size, 0, none⟩ = some (.string an) ∧ w'.cell? ⟨wr.heap.size, 1, none⟩ = some (.slice A1 bd.length c1) ∧ w'.cell? ⟨wr.heap.size, 2, none⟩ = some (.int .i64 bs) ∧ w'.cell? ⟨wr.heap.size + 1, 0, none⟩ = some (.string an) ∧ w'.cell? ⟨wr.heap.size + 1, 1, none⟩ = some (.slice A2 (bs + z).toNat c2) ∧ w'.cell? ⟨wr.heap.size + 1, 2, none⟩ = some (.int .i64 (bs + z))) (ds := [18]) #[false, false, false, false, false, false, false, false, false, false, false, false, false, false, false, false, false, false, false, false, false] (by kernel_rfl) rfl rfl ⟨x0, x1, x2, y0, y1, y2⟩ (fun hHeld => ?_)
        refine zq 0 (some 55) ?_
        refine zq 2 (some 57) ?_
        refine zu 1 (some 56) hHeld ?_
        refine zu 3 (some 58) hHeld ?_
        refine zq 4 (some 59) ?_
        refine zq 5 (some 60) ?_
        refine zq 6 (some 61) ?_
        refine zq 8 (some 63) ?_
        refine zu 7 (some 62) hHeld ?_
        refine zq 9 (some 64) ?_
        refine zq 10 (some 65) ?_
        refine zq 11 (some 66) ?_
        refine zq 12 (some 67) ?_
        refine zq 14 (some 69) ?_
        refine zq 16 (some 71) ?_
        refine zu 13 (some 68) hHeld ?_
        refine zu 15 (some 70) hHeld ?_
        refine zq 17 (some 72) ?_
        refine last_ (i := 18) (N := some 73) #[true, true, true, true, true, true, true, true, true, true, true, true, true, true, true, true, true, true, true, false, false] rfl rfl (by kernel_rfl) (by decide) (fun K hK => ?_)
        refine goes_ Try.func37 (by kernel_rfl) rfl #[.slice A2 (bs + z).toNat c2, .slice A1 (bs + z).toNat c1] (by rfl) rfl rfl (by simp only [List.map_toArray, List.map_cons, List.map_nil]; rfl) ?_
        refine (same_n HL8.out _ A2 c2 A1 c1 (HC2.out _ (by repeat (with_reducible first | exact HB.out | apply below_drew | apply pw_below_drewN | apply below_alloc'))) hc2 (Kd.C_take (HC1.out _ (by repeat (with_reducible first | exact HB.out | apply below_drew | apply pw_below_drewN | apply below_alloc'))) (by omega)) HQ.out (by rw [HL8.out]; omega)).mono ?_
        rintro e w5 ⟨rfl, ⟨⟨nd, rfl⟩⟩⟩
        refine ⟨_, rfl, ?_⟩
        refine hK.out _ _ ?_
        clear hK K
        refine norm_ (a' := ?_) ?_ ?_
        rotate_left
        · show Act.put _ (some 73) _ = _
          simp only [Act.put, zla, zlb, zlc, i64_w, i32_w]
          rfl
        refine zq 19 (some 74) ?_
        refine zq 20 (some 75) ?_
        refine done_ (by kernel_rfl) ?_
        go_wp2
        go_roundw
        case rel => exact ⟨i + 1, by simp, hlt, (by repeat (with_reducible first | exact HB.out | apply below_drew | apply pw_below_drewN | apply below_alloc'))⟩
        case measure => simp [intOf]; omega
      · obtain ⟨m, hm⟩ : ∃ m : Nat, m = i % keep.length := ⟨_, rfl⟩
        have hm1 : m < keep.length := by rw [hm]; exact Nat.mod_lt _ (by omega)
        have hkk : (0 : Int) < (keep.length : Int) := by omega
        have hr : Int.tmod (i : Int) (keep.length : Int) = (m : Int) := by rw [Int.tmod_eq_emod_of_nonneg (by omega), hm]; exact (Int.natCast_emod _ _).symm
        obtain ⟨adk, rfl, hkc⟩ := (Kd.reads_of_C (d := (0 : Int)) (h1 := fun _ => rfl) (Kd.C_below HK.out (w1 := wr.alloc (.cells #[.string an, .slice A1 bd.length c1, .int .i64 bs] 67)) (below_alloc' hbel _))).at_ (m : Int) (by omega) (by omega)
        have hky : St.keepOf keep i = max (rdOf (0 : Int) keep (m : Int)) 0 := by unfold St.keepOf; rw [if_neg hk0, ← hm]; rfl
        rw [Int.toNat_natCast] at hkc
        rw [hky] at hz hk9
        clear hky
        generalize rdOf (0 : Int) keep (m : Int) = y at *
        have hm0 : min (max y 0) ((bd.length : Int) - bs) = z := hz.symm
        clear hk0 hbel hz hk9 hm
        go_wp2
        refine start_ (n := 21) (S := fun w' => w'.cell? ⟨wr.heap.size, 0, none⟩ = some (.string an) ∧ w'.cell? ⟨wr.heap.size, 1, none⟩ = some (.slice A1 bd.length c1) ∧ w'.cell? ⟨wr.heap.size, 2, none⟩ = some (.int .i64 bs) ∧ w'.cell? ⟨wr.heap.size + 1, 0, none⟩ = some (.string an) ∧ w'.cell? ⟨wr.heap.size + 1, 1, none⟩ = some (.slice A2 (bs + z).toNat c2) ∧ w'.cell? ⟨wr.heap.size + 1, 2, none⟩ = some (.int .i64 (bs + z))) (ds := [18]) #[false, false, false, false, false, false, false, false, false, false, false, false, false, false, false, false, false, false, false, false, false] (by kernel_rfl) rfl rfl ⟨x0, x1, x2, y0, y1, y2⟩ (fun hHeld => ?_)
        refine zq 0 (some 55) ?_
        refine zq 2 (some 57) ?_
        refine zu 1 (some 56) hHeld ?_
        refine zu 3 (some 58) hHeld ?_
        refine zq 4 (some 59) ?_
        refine zq 5 (some 60) ?_
        refine zq 6 (some 61) ?_
        refine zq 8 (some 63) ?_
        refine zu 7 (some 62) hHeld ?_
        refine zq 9 (some 64) ?_
        refine zq 10 (some 65) ?_
        refine zq 11 (some 66) ?_
        refine zq 12 (some 67) ?_
        refine zq 14 (some 69) ?_
        refine zq 16 (some 71) ?_
        refine zu 13 (some 68) hHeld ?_
        refine zu 15 (some 70) hHeld ?_
        refine zq 17 (some 72) ?_
        refine last_ (i := 18) (N := some 73) #[true, true, true, true, true, true, true, true, true, true, true, true, true, true, true, true, true, true, true, false, false] rfl rfl (by kernel_rfl) (by decide) (fun K hK => ?_)
        refine goes_ Try.func37 (by kernel_rfl) rfl #[.slice A2 (bs + z).toNat c2, .slice A1 (bs + z).toNat c1] (by rfl) rfl rfl (by simp only [List.map_toArray, List.map_cons, List.map_nil]; rfl) ?_
        refine (same_n HL8.out _ A2 c2 A1 c1 (HC2.out _ (by repeat (with_reducible first | exact HB.out | apply below_drew | apply pw_below_drewN | apply below_alloc'))) hc2 (Kd.C_take (HC1.out _ (by repeat (with_reducible first | exact HB.out | apply below_drew | apply pw_below_drewN | apply below_alloc'))) (by omega)) HQ.out (by rw [HL8.out]; omega)).mono ?_
        rintro e w5 ⟨rfl, ⟨⟨nd, rfl⟩⟩⟩
        refine ⟨_, rfl, ?_⟩
        refine hK.out _ _ ?_
        clear hK K
        refine norm_ (a' := ?_) ?_ ?_
        rotate_left
        · show Act.put _ (some 73) _ = _
          simp only [Act.put, zla, zlb, zlc, i64_w, i32_w]
          rfl
        refine zq 19 (some 74) ?_
        refine zq 20 (some 75) ?_
        refine done_ (by kernel_rfl) ?_
        go_wp2
        go_roundw
        case rel => exact ⟨i + 1, by simp, hlt, (by repeat (with_reducible first | exact HB.out | apply below_drew | apply pw_below_drewN | apply below_alloc'))⟩
        case measure => simp [intOf]; omega
    · have hi : i = l.length := by omega
      subst hi
      go_wp2
      go_ret
      exact ⟨rfl, by repeat (with_reducible first | exact HB.out | apply below_drew | apply pw_below_drewN)⟩
end Go.Proofs.Ytfholpajdkjbbaa.DK
