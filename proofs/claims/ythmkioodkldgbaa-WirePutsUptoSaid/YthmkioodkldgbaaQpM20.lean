/- eddyref2.parts, Encode; conditions: those in each theorem. -/
import Derived.Test.YthmkioodkldgbaaQpM19
import Derived.Test.YthmkioodkldgbaaQpM10
namespace Go.Proofs.Ythmkioodkldgbaa.DK
open Go.Proofs.Ythmkioodkldgbaa.PD
open Go.RowKit Go.Proofs.YthmkioodkldgbaaW.PrintWords Go.Proofs.YthmkioodkldgbaaW.PrintLast Go.Proofs.YthmkioodkldgbaaW.PrintMore
set_option linter.unusedVariables false
set_option linter.unusedSimpArgs false
set_option maxRecDepth 100000
/-- A part's bytes. -/
def encP (p : S204) : List Int := (p.f0 % 256) :: (if p.f0 = 1 then grp (zz p.f1) else if p.f0 = 2 then ((p.f2.size : Int) % 256) :: bytesOf p.f2 else if p.f0 = 3 then [p.f3 % 256] else [])
mutual
theorem flat_enc : ∀ (v : S25) (d : Int) (xs : List S204), (flatM v d xs).2 = 0 → ∃ ps, (flatM v d xs).1 = xs ++ ps ∧ ps.flatMap encP = encM v ∧ ∀ p ∈ ps, 0 ≤ p.f0 ∧ p.f0 ≤ 3
 | ⟨k, n, t, l⟩, d, xs, h => by
  rw [flatM_eq] at h ⊢
  rw [encM_eq]
  dsimp only at h ⊢
  split at h
  ·simp at h
  split at h
  ·simp at h
  split at h
  ·simp at h
  split at h
  ·simp at h
  split at h
  ·simp at h
  split at h
  ·simp at h
  rename_i h1 h2 h3 h4 h5 h6
  rw [if_neg h1, if_neg h2, if_neg h3, if_neg h4, if_neg h5, if_neg h6]
  obtain ⟨ps, e, he, hp⟩ := flatL_enc l (d + 1) (xs ++ [⟨k, n, t, l.length⟩]) h
  refine ⟨⟨k, n, t, l.length⟩ :: ps, by rw [e, List.append_assoc]; rfl, ?_, fun p hp' => ?_⟩
  ·rw [List.flatMap_cons, he]
   unfold encP
   dsimp only
   have hl : ¬ k = 3 → l = [] := fun hk => by
    rcases l with _ | ⟨x, l⟩
    ·rfl
    ·exact absurd (Or.inr (Or.inr ⟨by simp, hk⟩)) h3
   by_cases c1 : k = 1
   ·rw [if_pos c1, if_pos c1, hl (by omega), encL_nil, c1]
    simp
   by_cases c2 : k = 2
   ·rw [if_neg c1, if_neg c1, if_pos c2, if_pos c2, hl (by omega), encL_nil, c2]
    simp
   by_cases c3 : k = 3
   ·rw [if_neg c1, if_neg c1, if_neg c2, if_neg c2, if_pos c3, if_pos c3, c3]
    rfl
   ·rw [if_neg c1, if_neg c1, if_neg c2, if_neg c2, if_neg c3, if_neg c3, hl c3, encL_nil]
    have : k = 0 := by omega
    rw [this]
    rfl
  ·rcases List.mem_cons.1 hp' with rfl | hp'
   ·dsimp only; omega
   ·exact hp p hp'
theorem flatL_enc : ∀ (l : List S25) (d : Int) (xs : List S204), (flatL l d xs).2 = 0 → ∃ ps, (flatL l d xs).1 = xs ++ ps ∧ ps.flatMap encP = encL l ∧ ∀ p ∈ ps, 0 ≤ p.f0 ∧ p.f0 ≤ 3
 | [], d, xs, _ => ⟨[], by rw [flatL_nil]; simp, by rw [encL_nil]; rfl, fun p hp => by simp at hp⟩
 | x :: l, d, xs, h => by
  rw [flatL_cons] at h ⊢
  split at h
  ·rename_i hz; exact absurd h hz
  ·rename_i hz
   rw [if_neg hz]
   obtain ⟨ps, e, he, hp⟩ := flat_enc x d xs (by omega)
   obtain ⟨qs, e2, he2, hp2⟩ := flatL_enc l d _ h
   refine ⟨ps ++ qs, by rw [e2, e, List.append_assoc], by rw [List.flatMap_append, he, he2, encL_cons], fun p hp' => ?_⟩
   rcases List.mem_append.1 hp' with h | h
   ·exact hp p h
   ·exact hp2 p h
end
mutual
theorem flat_ok : ∀ (v : S25) (d : Int) (xs : List S204), okS v → (∀ p ∈ xs, -9223372036854775808 ≤ p.f1 ∧ p.f1 ≤ 9223372036854775807) → ∀ p ∈ (flatM v d xs).1, -9223372036854775808 ≤ p.f1 ∧ p.f1 ≤ 9223372036854775807
 | ⟨k, n, t, l⟩, d, xs, ho, hx => by
  rw [okS_eq] at ho
  rw [flatM_eq]
  dsimp only at ho ⊢
  split
  ·exact hx
  split
  ·exact hx
  split
  ·exact hx
  split
  ·exact hx
  split
  ·exact hx
  split
  ·exact hx
  ·refine flatL_ok l (d + 1) _ ho.2.2 (fun p hp => ?_)
   rcases List.mem_append.1 hp with h | h
   ·exact hx p h
   ·rcases List.mem_singleton.1 h with rfl
    exact ho.2.1
theorem flatL_ok : ∀ (l : List S25) (d : Int) (xs : List S204), okL l → (∀ p ∈ xs, -9223372036854775808 ≤ p.f1 ∧ p.f1 ≤ 9223372036854775807) → ∀ p ∈ (flatL l d xs).1, -9223372036854775808 ≤ p.f1 ∧ p.f1 ≤ 9223372036854775807
 | [], d, xs, _, hx => by rw [flatL_nil]; exact hx
 | x :: l, d, xs, ho, hx => by
  rw [okL] at ho
  rw [flatL_cons]
  split
  ·exact flat_ok x d xs ho.1 hx
  ·exact flatL_ok l d _ ho.2 (flat_ok x d xs ho.1 hx)
end
/-- A value's parts. -/
def partsM (v : S25) : List S204 := (flatM v 0 []).1
set_option maxHeartbeats 4000000 in
theorem parts_calls (v : S25) (w : World) (A : Option Addr) (c : Nat) (hr : k25.C w A v.f3.length v.f3) (hc : v.f3.length ≤ c) (hk : (chk v 0 0).2 = 0) :
  Calls Try.prog 136 #[.agg #[.int .i64 v.f0, .int .i64 v.f1, .string v.f2, .slice A v.f3.length c]] w fun e w' => ∃ u, e = .returned u ∧ k204.R 204 w' w.heap.size (fun _ => True) u (partsM v) ∧ Below w.heap.size w w' := by
 have hf : (flatM v 0 []).2 = 0 := (flat_chk v 0 [] (by decide)).1.trans hk
 have HF := Aside0.mk hf
 have HV := Aside0.mk (ValIn.now hr hc)
 clear hr hf hk
 go_enter Try.func136, Try.ntmps136
 go_wp2_with fail
 refine (flat_calls w.heap.size _ v (Nat.le_refl _) w _ (.slice none 0 0) [] A c 0 (Kd.R_nil _ _ _ _ _) (fun k e => by simp [Value.ownBlock] at e) (HV.out.below (below_alloc (Below.refl _ _) _)) (by decide) (by omega) (by omega) (by simp)).mono ?_
 rintro e w1 ⟨u, rfl, ho, hu, -⟩
 have HB := Aside0.mk (show Below w.heap.size w w1 from (below_alloc (Below.refl _ _) _).trans (hu.below (by simp) (fun k e => by simp [Value.ownBlock] at e)))
 have HO := Aside0.mk ho
 clear hu ho
 rw [HF.out]
 go_wp2
 go_ret
 exact ⟨u, rfl, HO.out, HB.out⟩
structure EncI2 (b : Nat) (w : World) (u : Value) (ps : List S204) (zs : List Int) (v : Value) (i : Nat) (ys : List Int) (wr : World) : Prop where
 le : i ≤ ps.length
 row : R5 b wr v ys
 up : U5 b w wr
 eq : ys ++ (ps.drop i).flatMap encP = zs
def EncE2 (b : Nat) (w : World) (u : Value) (ps : List S204) (zs : List Int) (v iv : Value) (wr : World) : Prop := ∃ (i : Nat) (ys : List Int), iv = .int .i64 i ∧ EncI2 b w u ps zs v i ys wr
theorem r204_u5 {b b0 : Nat} {w w' : World} {u : Value} {xs : List S204} (h : k204.R 204 w b0 (fun _ => True) u xs) (hu : U5 b w w') : k204.R 204 w' b0 (fun _ => True) u xs :=
 r204_same h (fun k hk => by obtain ⟨cs, hc⟩ := Kd.R_typed h k hk; exact (hu.blk hc (by decide)).trans hc.symm)
set_option maxHeartbeats 8000000 in
theorem rEncode_calls (v : S25) (w : World) (A : Option Addr) (c : Nat) (hr : k25.C w A v.f3.length v.f3) (hc : v.f3.length ≤ c) (hk : okV v) :
  Calls Try.prog 112 #[.agg #[.int .i64 v.f0, .int .i64 v.f1, .string v.f2, .slice A v.f3.length c]] w (Bytes5 w (encM v)) := by
 have HC := Aside0.mk (fun (W : World) (hb : Below w.heap.size w W) => parts_calls v W A c (Kd.C_below hr hb) hc hk.2)
 have hf : (flatM v 0 []).2 = 0 := (flat_chk v 0 [] (by decide)).1.trans hk.2
 obtain ⟨ps, hps, henc, hkind⟩ := flat_enc v 0 [] hf
 have hps' : partsM v = ps := hps
 have hok := flat_ok v 0 [] hk.1 (by simp)
 rw [hps, List.nil_append] at hok
 have hlen := okV_len hk
 have h12 : ps.length ≤ 12 := by have := (flatM_le v 0 []).2 (by simp); rw [hps, List.nil_append] at this; exact this
 rw [hps'] at HC
 rw [← henc] at hlen ⊢
 have HKD := Aside0.mk hkind
 have HOK := Aside0.mk hok
 clear hr hk hf hps hps' henc hkind hok
 unfold Bytes5
 go_enter Try.func112, Try.ntmps112
 go_wp2_with fail
 refine (HC.out _ ?hw).mono ?_
 case hw => repeat (with_reducible first | exact Below.refl _ _ | apply below_drew | apply pw_below_drewN | apply below_alloc)
 rintro e w1 ⟨u, rfl, ho, hb⟩
 have HB := Aside0.mk (show Below w.heap.size w w1 from (below_alloc (Below.refl _ _) _).trans (hb.mono (by simp)))
 have hw1 : w.heap.size ≤ w1.heap.size := HB.out.size
 have HO := Aside0.mk ho
 obtain ⟨AU, cu, rfl, hcu, -⟩ := Kd.R_reads ho
 have hu204 := Try.underlying204
 clear hb ho HC
 go_wp2
 go_loopw [4, 5] (fun v iv wr => EncE2 w.heap.size w1 (.slice AU ps.length cu) ps (ps.flatMap encP) v iv wr) (fun _ iv _ => ps.length - (intOf iv).toNat)
 case atStart => exact ⟨0, [], rfl, Nat.zero_le _, R5.nil _ _, U5.refl _ _, rfl⟩
 case round =>
  obtain ⟨i, ys, rfl, hle, hrow, hup, heq⟩ := hrel
  have HRW := Aside0.mk hrow
  have HUP := Aside0.mk hup
  have hbr : w.heap.size ≤ wr.heap.size := Nat.le_trans hw1 hup.size
  clear hrow hup
  by_cases hlt : i < ps.length
  ·have hat : ∀ W : World, U5 w.heap.size w1 W → ∃ ad, AU = some ad ∧ W.cell? (ad.add (i * 4)) = some (.int .i64 ps[i].f0) ∧ W.cell? ⟨(ad.add (i * 4)).block, (ad.add (i * 4)).off + 1, none⟩ = some (.int .i64 ps[i].f1) ∧ W.cell? ⟨(ad.add (i * 4)).block, (ad.add (i * 4)).off + 2, none⟩ = some (.string ps[i].f2) ∧ W.cell? ⟨(ad.add (i * 4)).block, (ad.add (i * 4)).off + 3, none⟩ = some (.int .i64 ps[i].f3) := fun W hW => by
    obtain ⟨_, _, he, _, hC⟩ := Kd.R_reads (r204_u5 HO.out hW)
    injection he with e1 e2 e3
    subst e1
    obtain ⟨ad, e, d0, d1, d2, d3⟩ := at_T204 hC (i : Int) (by omega) (by omega)
    rw [show rd_T204 ps (i : Int) = ps[i] from getD_nat ps _ i hlt] at d0 d1 d2 d3
    simp only [Int.toNat_natCast] at d0 d1 d2 d3
    exact ⟨ad, e, d0, d1, d2, d3⟩
   obtain ⟨ad, rfl, d0, d1, d2, d3⟩ := hat wr HUP.out
   have CELLS0 := Aside0.mk (fun (W : World) (hW : U5 w.heap.size w1 W) => (hat W hW).elim (fun ad' h => (Option.some.inj h.1) ▸ h.2))
   clear hat
   have hK := HKD.out ps[i] (List.getElem_mem hlt)
   have hX := HOK.out ps[i] (List.getElem_mem hlt)
   rw [List.drop_eq_getElem_cons hlt, List.flatMap_cons, ← List.append_assoc] at heq
   generalize ps[i] = p at *
   have hly : (ys ++ encP p).length ≤ 312 := by rw [← heq] at hlen; simp only [List.length_append] at hlen ⊢; omega
   obtain ⟨k, n, t, m⟩ := p
   dsimp only at d0 d1 d2 d3 hK hX
   have hk4 : k = 0 ∨ k = 1 ∨ k = 2 ∨ k = 3 := by omega
   have HEQ := Aside0.mk heq
   have HLY := Aside0.mk hly
   clear heq hly hK
   rcases hk4 with rfl | rfl | rfl | rfl
   ·skip
    go_wp2_with (first | (at_builtin; refine app1 rfl (.tmp 15) (.tmp 22) rfl _ (ys) (0) rfl (by first | (go_simp; done) | (go_simp; rfl)) HRW.out hbr (by have h := HLY.out; simp [encP] at h ⊢; omega) ?_; intro v2 w2 h1 h2; (have HR2 := Aside0.mk h1); (have HU2 := Aside0.mk (HUP.out.trans h2)); (have hb2 : w.heap.size ≤ w2.heap.size := Nat.le_trans hw1 HU2.out.size); (have HC2 := Aside0.mk (CELLS0.out _ HU2.out)); (obtain ⟨x02, x12, x22, x32⟩ := HC2.out); clear h1 h2))
    go_roundw
    case rel => exact ⟨i + 1, _, by simp, hlt, HR2.out, HU2.out, by have h := HEQ.out; simpa [encP] using h⟩
    case measure => simp [intOf]; omega
   ·skip
    by_cases hneg : n < 0
    ·skip
     have e1 : IntKind.u64.wrap (-1 - n) = -1 - n := by rw [wrap_u64]; omega
     have e2 : IntKind.u64.wrap (2 * (-1 - n)) = 2 * (-1 - n) := by rw [wrap_u64]; omega
     have e3 : IntKind.u64.wrap (2 * (-1 - n) + 1) = 2 * (-1 - n) + 1 := by rw [wrap_u64]; omega
     have HZ := Aside0.mk (show (2 * (-1 - n) + 1 : Int) = zz n by unfold zz; rw [if_pos hneg]; omega)
     have HZ0 := Aside0.mk (show 0 ≤ zz n ∧ zz n ≤ 18446744073709551615 by unfold zz; rw [if_pos hneg]; omega)
     go_wp2_with (first | (at_builtin; refine app1 rfl (.tmp 15) (.tmp 22) rfl _ (ys) (1) rfl (by first | (go_simp; done) | (go_simp; rfl)) HRW.out hbr (by have h := HLY.out; simp [encP] at h ⊢; omega) ?_; intro v2 w2 h1 h2; (have HR2 := Aside0.mk h1); (have HU2 := Aside0.mk (HUP.out.trans h2)); (have hb2 : w.heap.size ≤ w2.heap.size := Nat.le_trans hw1 HU2.out.size); (have HC2 := Aside0.mk (CELLS0.out _ HU2.out)); (obtain ⟨x02, x12, x22, x32⟩ := HC2.out); clear h1 h2))
     obtain ⟨wo, rfl⟩ : ∃ wo : World, wo = wr := ⟨_, rfl⟩
     have HT : Aside0 (ys ++ [1] ++ grp (zz n) = ys ++ encP ⟨1, n, t, m⟩) := ⟨by simp [encP]⟩
     clear x02 x12 x22 x32
     go_loopw [4, 6] (fun u mv W => NumE .u64 18446744073709551615 w.heap.size w1 (ys ++ encP ⟨1, n, t, m⟩) u mv W) (fun _ mv _ => (intOf mv).toNat)
     case atStart => exact ⟨zz n, _, by first | rfl | (rw [HZ.out]), HZ0.out.1, HZ0.out.2, HR2.out, HU2.out, HT.out⟩
     case round =>
      obtain ⟨y, zs, rfl, hy0, hy9, hR, hU, he⟩ := hrel
      have HR := Aside0.mk hR
      have HU := Aside0.mk hU
      have HE := Aside0.mk he
      have hlz : zs.length + 1 ≤ 140737488355328 := by
       have h := HLY.out
       rw [← he] at h
       have : 1 ≤ (grp y).length := by unfold grp; rw [grpN]; split <;> simp
       simp only [List.length_append] at h; omega
      have hsz : w.heap.size ≤ wr.heap.size := Nat.le_trans hw1 hU.size
      clear hR hU he
      by_cases hlt2 : 128 ≤ y
      ·have hm : (y % 128 + 128) % 256 = y % 128 + 128 := by omega
       go_wp2_with (at_builtin; refine app1 rfl (.tmp 55) (.tmp 60) rfl _ zs (y % 128 + 128) rfl (by first | (go_simp; done) | (go_simp; rfl)) HR.out hsz hlz ?_; intro v5 w5 h1 h2; (have HR5 := Aside0.mk h1); (have HU5 := Aside0.mk (HU.out.trans h2)); clear h1 h2)
       go_roundw
       case rel => exact ⟨y / 128, _, by simp, by omega, by omega, HR5.out, HU5.out, by rw [List.append_assoc, ← HE.out, grp_high hlt2]; rfl⟩
       case measure => simp [intOf]; omega
      ·have hy : y % 256 = y := by omega
       have hg := grp_low hy0 hlt2
       have HG := Aside0.mk hg
       clear hg
       go_wp2_with (at_builtin; refine app1 rfl (.tmp 64) (.tmp 67) rfl _ zs y rfl (by first | (go_simp; done) | (go_simp; rfl)) HR.out hsz hlz ?_; intro v5 w5 h1 h2; (have HR5 := Aside0.mk h1); (have HU5 := Aside0.mk (HU.out.trans h2)); clear h1 h2)
       have hfin : zs ++ [y] = ys ++ encP ⟨1, n, t, m⟩ := by rw [← HG.out]; exact HE.out
       have HFIN := Aside0.mk hfin
       clear hfin
       go_roundw
       case rel => exact ⟨i + 1, _, by simp, hlt, HR5.out, HU5.out, by rw [HFIN.out]; exact HEQ.out⟩
       case measure => simp [intOf]; omega
    ·skip
     have hn : ¬ n < 0 := hneg
     have e1 : IntKind.u64.wrap n = n := by rw [wrap_u64]; omega
     have e2 : IntKind.u64.wrap (2 * n) = 2 * n := by rw [wrap_u64]; omega
     have HZ := Aside0.mk (show (2 * n : Int) = zz n by unfold zz; rw [if_neg hneg])
     have HZ0 := Aside0.mk (show 0 ≤ zz n ∧ zz n ≤ 18446744073709551615 by unfold zz; rw [if_neg hneg]; omega)
     go_wp2_with (first | (at_builtin; refine app1 rfl (.tmp 15) (.tmp 22) rfl _ (ys) (1) rfl (by first | (go_simp; done) | (go_simp; rfl)) HRW.out hbr (by have h := HLY.out; simp [encP] at h ⊢; omega) ?_; intro v2 w2 h1 h2; (have HR2 := Aside0.mk h1); (have HU2 := Aside0.mk (HUP.out.trans h2)); (have hb2 : w.heap.size ≤ w2.heap.size := Nat.le_trans hw1 HU2.out.size); (have HC2 := Aside0.mk (CELLS0.out _ HU2.out)); (obtain ⟨x02, x12, x22, x32⟩ := HC2.out); clear h1 h2))
     obtain ⟨wo, rfl⟩ : ∃ wo : World, wo = wr := ⟨_, rfl⟩
     have HT : Aside0 (ys ++ [1] ++ grp (zz n) = ys ++ encP ⟨1, n, t, m⟩) := ⟨by simp [encP]⟩
     clear x02 x12 x22 x32
     go_loopw [4, 6] (fun u mv W => NumE .u64 18446744073709551615 w.heap.size w1 (ys ++ encP ⟨1, n, t, m⟩) u mv W) (fun _ mv _ => (intOf mv).toNat)
     case atStart => exact ⟨zz n, _, by first | rfl | (rw [HZ.out]), HZ0.out.1, HZ0.out.2, HR2.out, HU2.out, HT.out⟩
     case round =>
      obtain ⟨y, zs, rfl, hy0, hy9, hR, hU, he⟩ := hrel
      have HR := Aside0.mk hR
      have HU := Aside0.mk hU
      have HE := Aside0.mk he
      have hlz : zs.length + 1 ≤ 140737488355328 := by
       have h := HLY.out
       rw [← he] at h
       have : 1 ≤ (grp y).length := by unfold grp; rw [grpN]; split <;> simp
       simp only [List.length_append] at h; omega
      have hsz : w.heap.size ≤ wr.heap.size := Nat.le_trans hw1 hU.size
      clear hR hU he
      by_cases hlt2 : 128 ≤ y
      ·have hm : (y % 128 + 128) % 256 = y % 128 + 128 := by omega
       go_wp2_with (at_builtin; refine app1 rfl (.tmp 55) (.tmp 60) rfl _ zs (y % 128 + 128) rfl (by first | (go_simp; done) | (go_simp; rfl)) HR.out hsz hlz ?_; intro v5 w5 h1 h2; (have HR5 := Aside0.mk h1); (have HU5 := Aside0.mk (HU.out.trans h2)); clear h1 h2)
       go_roundw
       case rel => exact ⟨y / 128, _, by simp, by omega, by omega, HR5.out, HU5.out, by rw [List.append_assoc, ← HE.out, grp_high hlt2]; rfl⟩
       case measure => simp [intOf]; omega
      ·have hy : y % 256 = y := by omega
       have hg := grp_low hy0 hlt2
       have HG := Aside0.mk hg
       clear hg
       go_wp2_with (at_builtin; refine app1 rfl (.tmp 64) (.tmp 67) rfl _ zs y rfl (by first | (go_simp; done) | (go_simp; rfl)) HR.out hsz hlz ?_; intro v5 w5 h1 h2; (have HR5 := Aside0.mk h1); (have HU5 := Aside0.mk (HU.out.trans h2)); clear h1 h2)
       have hfin : zs ++ [y] = ys ++ encP ⟨1, n, t, m⟩ := by rw [← HG.out]; exact HE.out
       have HFIN := Aside0.mk hfin
       clear hfin
       go_roundw
       case rel => exact ⟨i + 1, _, by simp, hlt, HR5.out, HU5.out, by rw [HFIN.out]; exact HEQ.out⟩
       case measure => simp [intOf]; omega
   ·skip
    go_wp2_with (first | (at_builtin; refine app1 rfl (.tmp 15) (.tmp 22) rfl _ (ys) (2) rfl (by first | (go_simp; done) | (go_simp; rfl)) HRW.out hbr (by have h := HLY.out; simp [encP] at h ⊢; omega) ?_; intro v2 w2 h1 h2; (have HR2 := Aside0.mk h1); (have HU2 := Aside0.mk (HUP.out.trans h2)); (have hb2 : w.heap.size ≤ w2.heap.size := Nat.le_trans hw1 HU2.out.size); (have HC2 := Aside0.mk (CELLS0.out _ HU2.out)); (obtain ⟨x02, x12, x22, x32⟩ := HC2.out); clear h1 h2) | (at_builtin; refine app1 rfl (.tmp 71) (.tmp 79) rfl _ (ys ++ [2]) ((t.size : Int) % 256) rfl (by first | (go_simp; done) | (go_simp; rfl)) HR2.out hb2 (by have h := HLY.out; simp [encP] at h ⊢; omega) ?_; intro v3 w3 h1 h2; (have HR3 := Aside0.mk h1); (have HU3 := Aside0.mk (HU2.out.trans h2)); (have hb3 : w.heap.size ≤ w3.heap.size := Nat.le_trans hw1 HU3.out.size); (have HC3 := Aside0.mk (CELLS0.out _ HU3.out)); (obtain ⟨x03, x13, x23, x33⟩ := HC3.out); clear h1 h2) | (at_builtin; refine appStr rfl (.tmp 81) (.tmp 86) rfl v3 _ t rfl rfl HR3.out hb3 (by have h := HLY.out; simp [encP] at h ⊢; have := bytesOf_length t; omega) ?_; intro v4 w4 h1 h2; (have HR4 := Aside0.mk h1); (have HU4 := Aside0.mk (HU3.out.trans h2)); clear h1 h2))
    go_roundw
    case rel => exact ⟨i + 1, _, by simp, hlt, HR4.out, HU4.out, by have h := HEQ.out; simpa [encP] using h⟩
    case measure => simp [intOf]; omega
   ·skip
    go_wp2_with (first | (at_builtin; refine app1 rfl (.tmp 15) (.tmp 22) rfl _ (ys) (3) rfl (by first | (go_simp; done) | (go_simp; rfl)) HRW.out hbr (by have h := HLY.out; simp [encP] at h ⊢; omega) ?_; intro v2 w2 h1 h2; (have HR2 := Aside0.mk h1); (have HU2 := Aside0.mk (HUP.out.trans h2)); (have hb2 : w.heap.size ≤ w2.heap.size := Nat.le_trans hw1 HU2.out.size); (have HC2 := Aside0.mk (CELLS0.out _ HU2.out)); (obtain ⟨x02, x12, x22, x32⟩ := HC2.out); clear h1 h2) | (at_builtin; refine app1 rfl (.tmp 90) (.tmp 97) rfl _ (ys ++ [3]) (m % 256) rfl (by first | (go_simp; done) | (go_simp; rfl)) HR2.out hb2 (by have h := HLY.out; simp [encP] at h ⊢; omega) ?_; intro v3 w3 h1 h2; (have HR3 := Aside0.mk h1); (have HU3 := Aside0.mk (HU2.out.trans h2)); (have hb3 : w.heap.size ≤ w3.heap.size := Nat.le_trans hw1 HU3.out.size); (have HC3 := Aside0.mk (CELLS0.out _ HU3.out)); (obtain ⟨x03, x13, x23, x33⟩ := HC3.out); clear h1 h2))
    go_roundw
    case rel => exact ⟨i + 1, _, by simp, hlt, HR3.out, HU3.out, by have h := HEQ.out; simpa [encP] using h⟩
    case measure => simp [intOf]; omega
  ·have hi : i = ps.length := by omega
   rw [hi, List.drop_length, List.flatMap_nil, List.append_nil] at heq
   have hir : ¬ (i : Int) < (ps.length : Int) := by omega
   have HEQ := Aside0.mk heq
   clear heq hi
   go_wp2
   go_ret
   exact ⟨_, rfl, by have h := HRW.out; rwa [HEQ.out] at h, HB.out.trans (HUP.out.below hw1)⟩
end Go.Proofs.Ythmkioodkldgbaa.DK
/- The forms as trees; what a form lays down out of a bag; conditions: those in each theorem. (Plain Lean.) -/
namespace Go.Proofs.Ythmkioodkldgbaa.DK
open Go.Proofs.Ythmkioodkldgbaa.PD
open Go.RowKit Go.Proofs.YthmkioodkldgbaaW.PrintWords Go.Proofs.YthmkioodkldgbaaW.PrintLast Go.Proofs.YthmkioodkldgbaaW.PrintMore
set_option linter.unusedVariables false
/-- A form: a capital letter, a key, a value, a word, a number (its letter), a list (do its keys rise? the letter of its bound, what each is). -/
inductive Form where
 | mark (c : Int)
 | key
 | val
 | word
 | num (c : Int)
 | list (rise : Bool) (c : Int) (fs : List Form)
mutual
/-- A form's text. -/
def Form.str : Form → List Int
 | .mark c => [c]
 | .key => [107]
 | .val => [118]
 | .word => [119]
 | .num c => [c]
 | .list r c fs => (if r then 60 else 91) :: c :: (strs fs ++ [if r then 62 else 93])
def strs : List Form → List Int
 | [] => []
 | f :: fs => f.str ++ strs fs
end
mutual
/-- Its letters are such. -/
def Form.Ok : Form → Prop
 | .mark c => 65 ≤ c ∧ c ≤ 90
 | .key => True
 | .val => True
 | .word => True
 | .num c => 97 ≤ c ∧ c ≤ 122 ∧ c ≠ 107 ∧ c ≠ 118 ∧ c ≠ 119
 | .list r c fs => (97 ≤ c ∧ c ≤ 122 ∧ c ≠ 118 ∧ c ≠ 119) ∧ OkF fs
def OkF : List Form → Prop
 | [] => True
 | f :: fs => f.Ok ∧ OkF fs
end
/-- What is left in a bag. -/
structure Left where
 n : List Int
 k : List ByteArray
 v : List S25
def iter (g : Left → Option (List Int × Left)) : Nat → Left → Option (List Int × Left)
 | 0, st => some ([], st)
 | m + 1, st => (g st).bind fun r => (iter g m r.2).bind fun q => some (r.1 ++ q.1, q.2)
noncomputable instance (v : S25) : Decidable (okV v) := Classical.propDecidable _
mutual
/-- What a form lays down, and what is left then. -/
noncomputable def Form.wr : Form → Left → Option (List Int × Left)
 | .mark c, st => some ([c], st)
 | .key, st => match st.k with
  | [] => none
  | x :: l => if x.size ≤ 140737488355328 then some (keyB x, { st with k := l }) else none
 | .val, st => match st.v with
  | [] => none
  | x :: l => if okV x then some (encM x, { st with v := l }) else none
 | .word, st => match st.n with
  | [] => none
  | x :: l => if 0 ≤ x ∧ x ≤ 4294967295 then some (Go.Proofs.Ythmkioodkldgbaa.DK.word x, { st with n := l }) else none
 | .num c, st => match st.n with
  | [] => none
  | x :: l => if 0 ≤ x ∧ x ≤ 9223372036854775807 then some (grp x, { st with n := l }) else none
 | .list r c fs, st => match st.n with
  | [] => none
  | x :: l => if 0 ≤ x ∧ x ≤ 9223372036854775807 then (iter (wrs fs) x.toNat { st with n := l }).bind fun q => some (grp x ++ q.1, q.2) else none
noncomputable def wrs : List Form → Left → Option (List Int × Left)
 | [], st => some ([], st)
 | f :: fs, st => (f.wr st).bind fun r => (wrs fs r.2).bind fun q => some (r.1 ++ q.1, q.2)
end
/-- A text's scan passes over a form. -/
theorem scan_letter (z c : Int) (l : List Int) (d k : Int) (h : c ≠ 91 ∧ c ≠ 60 ∧ c ≠ 93 ∧ c ≠ 62) : scan z (c :: l) d k = scan z l d (k + 1) := by
 rw [scan, if_neg (by omega), if_neg (by omega)]
mutual
theorem scan_form : ∀ (f : Form) (hf : f.Ok) (z : Int) (l : List Int) (d k : Int), 0 < d → scan z (f.str ++ l) d k = scan z l d (k + f.str.length)
 | .mark c, hf, z, l, d, k, hd => by
  rw [Form.Ok] at hf
  rw [Form.str]
  exact scan_letter z c l d k (by omega)
 | .key, hf, z, l, d, k, hd => by rw [Form.str]; exact scan_letter z 107 l d k (by omega)
 | .val, hf, z, l, d, k, hd => by rw [Form.str]; exact scan_letter z 118 l d k (by omega)
 | .word, hf, z, l, d, k, hd => by rw [Form.str]; exact scan_letter z 119 l d k (by omega)
 | .num c, hf, z, l, d, k, hd => by
  rw [Form.Ok] at hf
  rw [Form.str]
  exact scan_letter z c l d k (by omega)
 | .list r c fs, hf, z, l, d, k, hd => by
  rw [Form.Ok] at hf
  rw [Form.str]
  simp only [List.cons_append, List.append_assoc, List.nil_append]
  rw [scan, if_pos (by cases r <;> simp), scan_letter _ _ _ _ _ (by omega), scan_forms fs hf.2 z _ (d + 1) _ (by omega), scan, if_neg (by cases r <;> simp), if_pos (by cases r <;> simp), if_neg (by omega)]
  congr 1
  ·omega
  ·simp only [List.length_cons, List.length_append, List.length_nil]; omega
theorem scan_forms : ∀ (fs : List Form) (hf : OkF fs) (z : Int) (l : List Int) (d k : Int), 0 < d → scan z (strs fs ++ l) d k = scan z l d (k + (strs fs).length)
 | [], hf, z, l, d, k, hd => by rw [strs]; simp
 | f :: fs, hf, z, l, d, k, hd => by
  rw [OkF] at hf
  rw [strs, List.append_assoc, scan_form f hf.1 z _ d k hd, scan_forms fs hf.2 z l d _ hd]
  congr 1
  simp only [List.length_append]
  omega
end
/-- Where a list's bracket closes. -/
theorem scan_list (r : Bool) (c : Int) (fs : List Form) (hf : (Form.list r c fs).Ok) (z : Int) (l : List Int) (k : Int) : scan z ((Form.list r c fs).str ++ l) 0 k = k + 2 + (strs fs).length := by
 rw [Form.Ok] at hf
 rw [Form.str]
 simp only [List.cons_append, List.append_assoc, List.nil_append]
 rw [scan, if_pos (by cases r <;> simp), scan_letter _ _ _ _ _ (by omega), scan_forms fs hf.2 z _ (0 + 1) _ (by omega), scan, if_neg (by cases r <;> simp), if_pos (by cases r <;> simp), if_pos (by omega)]
 omega
end Go.Proofs.Ythmkioodkldgbaa.DK
