/- DiskNews; conditions: those in each theorem. -/
import Derived.Test.YtfholpajdkjbbaaQaLa
import Derived.Test.YtfholpajdkjbbaaQaLb
import Derived.Test.YtfholpajdkjbbaaQaPDx3
namespace Go.Proofs.Ytfholpajdkjbbaa.DK
open Go.Proofs.Ytfholpajdkjbbaa.PD
open Go.RowKit Go.Proofs.YtfholpajdkjbbaaW.PrintWords Go.Proofs.YtfholpajdkjbbaaW.PrintLast Go.Proofs.YtfholpajdkjbbaaW.PrintMore Go.Proofs.Ytfholpajdkjbbaa.Mo
set_option linter.unusedVariables false
set_option linter.unusedSimpArgs false
theorem newGo_ok : ∀ (fs : List (ByteArray × List Int × Int)) (acc r : List F), Ok (stOf acc) → acc.length + fs.length ≤ 400 → newGo fs acc = some r → Ok (stOf r)
  | [], acc, r, h, _, e => by
    have : acc = r := Option.some.inj e
    exact this ▸ h
  | x :: fs, acc, r, h, hl, e => by
    unfold newGo at e
    by_cases hf : fits x acc = true
    · rw [if_pos hf] at e
      unfold fits at hf
      simp only [Bool.and_eq_true, decide_eq_true_eq] at hf
      obtain ⟨⟨⟨⟨h1, h2⟩, h3⟩, h4⟩, h5⟩ := hf
      have hnm : (newF x).name ∉ namesOf (stOf acc).all := find_none (by cases hq : find acc x.1 with | none => exact hq | some f => rw [hq] at h2; cases h2)
      have hdl := data_length (newF x)
      have hdata : (newF x).data = x.2.1 := by simp only [newF, F.data, List.take_append_drop]
      rw [hdata] at hdl
      rw [List.length_cons] at hl
      refine newGo_ok fs _ r (h.put (newF x) h1 hnm (by omega) (show acc.length < 400 by omega)) ?_ e
      show (put (newF x) acc).length + fs.length ≤ 400
      rw [(put_perm _ acc).length_eq, List.length_cons]
      omega
    · rw [if_neg hf] at e
      cases e
theorem new_ok {fs : List (ByteArray × List Int × Int)} {st : St} (h : St.new fs = some st) : Ok st := by
  unfold St.new at h
  split at h
  · cases h
  · rename_i h1
    cases hg : newGo fs [] with
    | none => rw [hg] at h; cases h
    | some r =>
      rw [hg] at h
      have : (⟨r, false, -1, 0, 0⟩ : St) = st := Option.some.inj h
      exact this ▸ newGo_ok fs [] r ok_empty (by rw [List.length_nil]; omega) hg
theorem fits_calls (w : World) (A0 : Option Addr) (c0 : Nat) (l0 : List S67) (A1 : Option Addr) (c1 : Nat) (l1 : List S41) (hr0 : k67.C w A0 l0.length l0) (hc0 : l0.length ≤ c0) (hr1 : k41.C w A1 l1.length l1) (hc1 : l1.length ≤ c1)
    (h0 : l0.length < 2 ^ 40) (h1 : l1.length < 2 ^ 40) (hb : bulkF l0 + bulkO l1 < 2 ^ 60) : Calls Try.prog 15 #[.slice A0 l0.length c0, .slice A1 l1.length c1] w fun e w' => e = .returned (.bool (fitsB l0 l1)) ∧ Drawn0 w w' := by
  obtain ⟨k, hk⟩ := Ev.rounds (fits_f l0 l1 h1 h0 hb)
  exact PD.eddylaw10_fits.calls k A0 c0 l0 A1 c1 l1 _ w hr0 hc0 hr1 hc1 hk
open Classical in
theorem alike_calls (w : World) (A0 : Option Addr) (c0 : Nat) (l0 : List S67) (A1 : Option Addr) (c1 : Nat) (l1 : List S67) (hr0 : k67.C w A0 l0.length l0) (hc0 : l0.length ≤ c0) (hr1 : k67.C w A1 l1.length l1) (hc1 : l1.length ≤ c1)
    (h0 : l0.length < 2 ^ 62) (hd : ∀ x ∈ l0, x.f1.length < 2 ^ 62) : Calls Try.prog 17 #[.slice A0 l0.length c0, .slice A1 l1.length c1] w fun e w' => e = .returned (.bool (decide (l0 = l1))) ∧ Below w.heap.size w w' := by
  obtain ⟨k, hk⟩ := Ev.rounds (alike_f l0 l1 h0 hd)
  exact PD.eddylaw10_alike.calls k A0 c0 l0 A1 c1 l1 _ w hr0 hc0 hr1 hc1 hk
theorem alike_same (w : World) (A0 : Option Addr) (c0 : Nat) (l : List S67) (A1 : Option Addr) (c1 : Nat) (hr0 : k67.C w A0 l.length l) (hc0 : l.length ≤ c0) (hr1 : k67.C w A1 l.length l) (hc1 : l.length ≤ c1)
    (h0 : l.length < 2 ^ 62) (hd : ∀ x ∈ l, x.f1.length < 2 ^ 62) : Calls Try.prog 17 #[.slice A0 l.length c0, .slice A1 l.length c1] w fun e w' => e = .returned (.bool true) ∧ Below w.heap.size w w' := by
  classical
  refine (alike_calls w A0 c0 l A1 c1 l hr0 hc0 hr1 hc1 h0 hd).mono fun e w' h => ⟨h.1.trans ?_, h.2⟩
  simp
theorem files67_small {s : St} (ok : Ok s) : ∀ x ∈ files67 s, x.f1.length < 2 ^ 62 := fun x hx => by
  unfold files67 St.files at hx
  rw [List.map_map] at hx
  obtain ⟨f, hf, rfl⟩ := List.mem_map.1 hx
  have := ok.small f hf
  show f.data.length < 2 ^ 62
  rw [data_length]
  omega
set_option maxHeartbeats 4000000 in
set_option maxRecDepth 100000 in
theorem news_calls (w : World) (A : Option Addr) (c : Nat) (l : List S67) (hr : k67.C w A l.length l) (hc : l.length ≤ c) (hl : l.length < 2 ^ 31) (hb : bulkF l < 2 ^ 40) (hd : ∀ x ∈ l, -9223372036854775808 ≤ x.f2 ∧ x.f2 ≤ 9223372036854775807) :
    Calls Try.prog 3 #[.slice A l.length c] w fun e w' => e = .returned (.bool true) ∧ Below w.heap.size w w' := by
  have HF := Aside0.mk (fits_calls w A c l none 0 [] hr hc (Kd.C_nil _ _) (Nat.le_refl _) (by omega) (by decide) (by simp only [bulkO]; omega))
  have HD := Aside0.mk (show ∀ x ∈ l, x.f1.length ≤ 2 ^ 40 ∧ -9223372036854775808 ≤ x.f2 ∧ x.f2 ≤ 9223372036854775807 from fun x hx => ⟨by have := bulkF_mem hx; omega, hd x hx⟩)
  have HR := Aside0.mk hr
  clear hr hd
  cases hfit : fitsB l [] with
  | false =>
    rw [hfit] at HF
    clear hfit
    go_enter Try.func3, Try.ntmps3
    go_wp2_with (go_at_call 15; refine HF.out.mono ?_; rintro e w1 ⟨rfl, ⟨⟨nd, rfl⟩⟩⟩)
    go_ret
    exact ⟨rfl, pw_below_drewN (Below.refl _ _) _⟩
  | true =>
    rw [hfit] at HF
    clear hfit
    have HBG := Aside0.mk (fun (W : World) (b : Nat) (h1 : W.heap[b]? = some (.cells #[.pointer none, .pointer none] 28 (0, 0))) (h2 : k67.C W A l.length l) => begin_calls W b h1 A c l h2 hc hl HD.out)
    cases hs : St.new (l.map of67) with
    | none =>
      rw [hs] at HBG
      unfold BeginPost at HBG
      clear hs
      go_enter Try.func3, Try.ntmps3
      go_wp2_with fail
      refine HF.out.mono ?_
      rintro e w1 ⟨rfl, ⟨⟨nd, rfl⟩⟩⟩
      go_wp2_with fail
      refine (HBG.out ((w.drewN nd).alloc (.cells #[.pointer none, .pointer none] 28)) w.heap.size (heap_alloc_new (w.drewN nd) _) (Kd.C_alloc (Kd.C_drewN HR.out nd) _)).mono ?_
      rintro e w2 ⟨rfl, hu, hb2⟩
      have m0 := blk_cell hb2 0
      have m1 := blk_cell hb2 1
      have fm0 := blk_frozen hb2 0
      have fm1 := blk_frozen hb2 1
      simp only [List.getElem?_toArray, List.getElem?_cons_succ, List.getElem?_cons_zero] at m0 m1
      have HBL2 := Aside0.mk ((below_alloc (pw_below_drewN (Below.refl w.heap.size w) nd) (.cells #[.pointer none, .pointer none] 28)).trans (hu.below (B := w.heap.size) (by rw [World.size_alloc']; show w.heap.size ≤ w.heap.size + 1; omega) (fun k e => by omega)))
      clear hu hb2
      go_wp2
      refine start_ (n := 19) (S := fun w' => w'.cell? ⟨w.heap.size, 0, none⟩ = some (.pointer none)) (ds := []) #[false, false, false, false, false, false, false, false, false, false, false, false, false, false, false, false, false, false, false] (by kernel_rfl) rfl rfl (m0) (fun hHeld => ?_)
      refine pure_ (i := 0) (N := some 13) (v := ?_) (a' := ?_) #[true, false, false, false, false, false, false, false, false, false, false, false, false, false, false, false, false, false, false] rfl rfl (by kernel_rfl) (fun _ _ _ h => h) (Or.inl ⟨by rfl, ?_⟩) ?_ ?_
      rotate_left
      · intro w'
        go_simp
        with_reducible rfl
      rotate_left
      · simp only [Act.put, List.setIfInBounds_toArray, List.set_cons_zero, List.set_cons_succ, i64_w, i32_w]
        rfl
      refine pure_ (i := 1) (N := some 14) (v := ?_) (a' := ?_) #[true, true, false, false, false, false, false, false, false, false, false, false, false, false, false, false, false, false, false] rfl rfl (by kernel_rfl) (fun _ _ _ h => h) (Or.inl ⟨by rfl, ?_⟩) ?_ ?_
      rotate_left
      · intro w'
        go_simp
        with_reducible rfl
      rotate_left
      · simp only [Act.put, List.setIfInBounds_toArray, List.set_cons_zero, List.set_cons_succ, i64_w, i32_w]
        rfl
      refine pure_ (i := 2) (N := some 15) (v := ?_) (a' := ?_) #[true, true, true, false, false, false, false, false, false, false, false, false, false, false, false, false, false, false, false] rfl rfl (by kernel_rfl) (fun _ _ _ h => h) (Or.inl ⟨by rfl, ?_⟩) ?_ ?_
      rotate_left
      · intro w'
        go_simp
        with_reducible rfl
      rotate_left
      · simp only [Act.put, List.setIfInBounds_toArray, List.set_cons_zero, List.set_cons_succ, i64_w, i32_w]
        rfl
      refine take_ (i := 3) (N := some 16) (v := ?_) (a' := ?_) #[true, true, true, true, false, false, false, false, false, false, false, false, false, false, false, false, false, false, false] rfl rfl (by kernel_rfl) (fun _ _ _ h => h) (Or.inl ⟨by rfl, ?_⟩) hHeld ?_ ?_
      rotate_left
      · intro w' s0
        go_simp
        with_reducible rfl
      rotate_left
      · simp only [Act.put, List.setIfInBounds_toArray, List.set_cons_zero, List.set_cons_succ, i64_w, i32_w]
        rfl
      refine pure_ (i := 4) (N := some 17) (v := ?_) (a' := ?_) #[true, true, true, true, true, false, false, false, false, false, false, false, false, false, false, false, false, false, false] rfl rfl (by kernel_rfl) (fun _ _ _ h => h) (Or.inl ⟨by rfl, ?_⟩) ?_ ?_
      rotate_left
      · intro w'
        go_simp
        with_reducible rfl
      rotate_left
      · simp only [Act.put, List.setIfInBounds_toArray, List.set_cons_zero, List.set_cons_succ, i64_w, i32_w]
        rfl
      refine pure_ (i := 5) (N := some 18) (v := ?_) (a' := ?_) #[true, true, true, true, true, true, false, false, false, false, false, false, false, false, false, false, false, false, false] rfl rfl (by kernel_rfl) (fun _ _ _ h => h) (Or.inl ⟨by rfl, ?_⟩) ?_ ?_
      rotate_left
      · intro w'
        go_simp
        with_reducible rfl
      rotate_left
      · simp only [Act.put, List.setIfInBounds_toArray, List.set_cons_zero, List.set_cons_succ, i64_w, i32_w]
        rfl
      refine pure_ (i := 6) (N := some 19) (v := undef) (a' := ?_) #[true, true, true, true, true, true, true, false, false, false, false, false, false, false, false, false, false, false, false] rfl rfl (by kernel_rfl) (fun _ _ _ h => h) (Or.inr ⟨by rfl, rfl⟩) ?_ ?_
      rotate_left
      · simp only [Act.put, List.setIfInBounds_toArray, List.set_cons_zero, List.set_cons_succ, i64_w, i32_w]
        rfl
      refine pure_ (i := 7) (N := some 20) (v := undef) (a' := ?_) #[true, true, true, true, true, true, true, true, false, false, false, false, false, false, false, false, false, false, false] rfl rfl (by kernel_rfl) (fun _ _ _ h => h) (Or.inr ⟨by rfl, rfl⟩) ?_ ?_
      rotate_left
      · simp only [Act.put, List.setIfInBounds_toArray, List.set_cons_zero, List.set_cons_succ, i64_w, i32_w]
        rfl
      refine pure_ (i := 8) (N := some 21) (v := undef) (a' := ?_) #[true, true, true, true, true, true, true, true, true, false, false, false, false, false, false, false, false, false, false] rfl rfl (by kernel_rfl) (fun _ _ _ h => h) (Or.inr ⟨by rfl, rfl⟩) ?_ ?_
      rotate_left
      · simp only [Act.put, List.setIfInBounds_toArray, List.set_cons_zero, List.set_cons_succ, i64_w, i32_w]
        rfl
      refine pure_ (i := 9) (N := some 22) (v := undef) (a' := ?_) #[true, true, true, true, true, true, true, true, true, true, false, false, false, false, false, false, false, false, false] rfl rfl (by kernel_rfl) (fun _ _ _ h => h) (Or.inr ⟨by rfl, rfl⟩) ?_ ?_
      rotate_left
      · simp only [Act.put, List.setIfInBounds_toArray, List.set_cons_zero, List.set_cons_succ, i64_w, i32_w]
        rfl
      refine pure_ (i := 10) (N := some 23) (v := undef) (a' := ?_) #[true, true, true, true, true, true, true, true, true, true, true, false, false, false, false, false, false, false, false] rfl rfl (by kernel_rfl) (fun _ _ _ h => h) (Or.inr ⟨by rfl, rfl⟩) ?_ ?_
      rotate_left
      · simp only [Act.put, List.setIfInBounds_toArray, List.set_cons_zero, List.set_cons_succ, i64_w, i32_w]
        rfl
      refine pure_ (i := 11) (N := some 24) (v := undef) (a' := ?_) #[true, true, true, true, true, true, true, true, true, true, true, true, false, false, false, false, false, false, false] rfl rfl (by kernel_rfl) (fun _ _ _ h => h) (Or.inr ⟨by rfl, rfl⟩) ?_ ?_
      rotate_left
      · simp only [Act.put, List.setIfInBounds_toArray, List.set_cons_zero, List.set_cons_succ, i64_w, i32_w]
        rfl
      refine pure_ (i := 12) (N := some 25) (v := undef) (a' := ?_) #[true, true, true, true, true, true, true, true, true, true, true, true, true, false, false, false, false, false, false] rfl rfl (by kernel_rfl) (fun _ _ _ h => h) (Or.inr ⟨by rfl, rfl⟩) ?_ ?_
      rotate_left
      · simp only [Act.put, List.setIfInBounds_toArray, List.set_cons_zero, List.set_cons_succ, i64_w, i32_w]
        rfl
      refine pure_ (i := 13) (N := some 26) (v := undef) (a' := ?_) #[true, true, true, true, true, true, true, true, true, true, true, true, true, true, false, false, false, false, false] rfl rfl (by kernel_rfl) (fun _ _ _ h => h) (Or.inr ⟨by rfl, rfl⟩) ?_ ?_
      rotate_left
      · simp only [Act.put, List.setIfInBounds_toArray, List.set_cons_zero, List.set_cons_succ, i64_w, i32_w]
        rfl
      refine pure_ (i := 14) (N := some 27) (v := undef) (a' := ?_) #[true, true, true, true, true, true, true, true, true, true, true, true, true, true, true, false, false, false, false] rfl rfl (by kernel_rfl) (fun _ _ _ h => h) (Or.inr ⟨by rfl, rfl⟩) ?_ ?_
      rotate_left
      · simp only [Act.put, List.setIfInBounds_toArray, List.set_cons_zero, List.set_cons_succ, i64_w, i32_w]
        rfl
      refine pure_ (i := 15) (N := some 28) (v := undef) (a' := ?_) #[true, true, true, true, true, true, true, true, true, true, true, true, true, true, true, true, false, false, false] rfl rfl (by kernel_rfl) (fun _ _ _ h => h) (Or.inr ⟨by rfl, rfl⟩) ?_ ?_
      rotate_left
      · simp only [Act.put, List.setIfInBounds_toArray, List.set_cons_zero, List.set_cons_succ, i64_w, i32_w]
        rfl
      refine pure_ (i := 16) (N := some 29) (v := undef) (a' := ?_) #[true, true, true, true, true, true, true, true, true, true, true, true, true, true, true, true, true, false, false] rfl rfl (by kernel_rfl) (fun _ _ _ h => h) (Or.inr ⟨by rfl, rfl⟩) ?_ ?_
      rotate_left
      · simp only [Act.put, List.setIfInBounds_toArray, List.set_cons_zero, List.set_cons_succ, i64_w, i32_w]
        rfl
      refine pure_ (i := 17) (N := some 30) (v := ?_) (a' := ?_) #[true, true, true, true, true, true, true, true, true, true, true, true, true, true, true, true, true, true, false] rfl rfl (by kernel_rfl) (fun _ _ _ h => h) (Or.inl ⟨by rfl, ?_⟩) ?_ ?_
      rotate_left
      · intro w'
        go_simp
        with_reducible rfl
      rotate_left
      · simp only [Act.put, List.setIfInBounds_toArray, List.set_cons_zero, List.set_cons_succ, i64_w, i32_w]
        rfl
      refine pure_ (i := 18) (N := some 2) (v := ?_) (a' := ?_) #[true, true, true, true, true, true, true, true, true, true, true, true, true, true, true, true, true, true, true] rfl rfl (by kernel_rfl) (fun _ _ _ h => h) (Or.inl ⟨by rfl, ?_⟩) ?_ ?_
      rotate_left
      · intro w'
        go_simp
        with_reducible rfl
      rotate_left
      · simp only [Act.put, List.setIfInBounds_toArray, List.set_cons_zero, List.set_cons_succ, i64_w, i32_w]
        rfl
      refine done_ (by kernel_rfl) ?_
      go_wp2
      go_ret
      exact ⟨rfl, by repeat (with_reducible first | exact HBL2.out | apply below_drew | apply pw_below_drewN)⟩
    | some st =>
      rw [hs] at HBG
      unfold BeginPost at HBG
      have OK := Aside0.mk (new_ok hs)
      clear hs
      go_enter Try.func3, Try.ntmps3
      go_wp2_with fail
      refine HF.out.mono ?_
      rintro e w1 ⟨rfl, ⟨⟨nd, rfl⟩⟩⟩
      go_wp2_with fail
      refine (HBG.out ((w.drewN nd).alloc (.cells #[.pointer none, .pointer none] 28)) w.heap.size (heap_alloc_new (w.drewN nd) _) (Kd.C_alloc (Kd.C_drewN HR.out nd) _)).mono ?_
      rintro e w2 ⟨rfl, hu, X1, X2, ⟨⟨p1, p2, hb2, hP, hQ⟩, _, _, _⟩, _⟩
      have HP := Aside0.mk hP
      have HQ := Aside0.mk hQ
      have HB2 := Aside0.mk hb2
      have m0 := blk_cell hb2 0
      have m1 := blk_cell hb2 1
      have fm0 := blk_frozen hb2 0
      have fm1 := blk_frozen hb2 1
      simp only [List.getElem?_toArray, List.getElem?_cons_succ, List.getElem?_cons_zero] at m0 m1
      have HBL2 := Aside0.mk ((below_alloc (pw_below_drewN (Below.refl w.heap.size w) nd) (.cells #[.pointer none, .pointer none] 28)).trans (hu.below (B := w.heap.size) (by rw [World.size_alloc']; show w.heap.size ≤ w.heap.size + 1; omega) (fun k e => by omega)))
      clear hu hb2 hP hQ
      go_wp2
      refine start_ (n := 19) (S := fun w' => w'.cell? ⟨w.heap.size, 0, none⟩ = some (.pointer (some ⟨p1, 0, none⟩)) ∧ w'.cell? ⟨w.heap.size, 1, none⟩ = some (.pointer (some ⟨p2, 0, none⟩))) (ds := [16]) #[false, false, false, false, false, false, false, false, false, false, false, false, false, false, false, false, false, false, false] (by kernel_rfl) rfl rfl ⟨m0, m1⟩ (fun hHeld => ?_)
      refine pure_ (i := 0) (N := some 13) (v := ?_) (a' := ?_) #[true, false, false, false, false, false, false, false, false, false, false, false, false, false, false, false, false, false, false] rfl rfl (by kernel_rfl) (fun _ _ _ h => h) (Or.inl ⟨by rfl, ?_⟩) ?_ ?_
      rotate_left
      · intro w'
        go_simp
        with_reducible rfl
      rotate_left
      · simp only [Act.put, List.setIfInBounds_toArray, List.set_cons_zero, List.set_cons_succ, i64_w, i32_w]
        rfl
      refine pure_ (i := 1) (N := some 14) (v := ?_) (a' := ?_) #[true, true, false, false, false, false, false, false, false, false, false, false, false, false, false, false, false, false, false] rfl rfl (by kernel_rfl) (fun _ _ _ h => h) (Or.inl ⟨by rfl, ?_⟩) ?_ ?_
      rotate_left
      · intro w'
        go_simp
        with_reducible rfl
      rotate_left
      · simp only [Act.put, List.setIfInBounds_toArray, List.set_cons_zero, List.set_cons_succ, i64_w, i32_w]
        rfl
      refine pure_ (i := 2) (N := some 15) (v := ?_) (a' := ?_) #[true, true, true, false, false, false, false, false, false, false, false, false, false, false, false, false, false, false, false] rfl rfl (by kernel_rfl) (fun _ _ _ h => h) (Or.inl ⟨by rfl, ?_⟩) ?_ ?_
      rotate_left
      · intro w'
        go_simp
        with_reducible rfl
      rotate_left
      · simp only [Act.put, List.setIfInBounds_toArray, List.set_cons_zero, List.set_cons_succ, i64_w, i32_w]
        rfl
      refine take_ (i := 3) (N := some 16) (v := ?_) (a' := ?_) #[true, true, true, true, false, false, false, false, false, false, false, false, false, false, false, false, false, false, false] rfl rfl (by kernel_rfl) (fun _ _ _ h => h) (Or.inl ⟨by rfl, ?_⟩) hHeld ?_ ?_
      rotate_left
      · rintro w' ⟨s0, s1⟩
        go_simp
        with_reducible rfl
      rotate_left
      · simp only [Act.put, List.setIfInBounds_toArray, List.set_cons_zero, List.set_cons_succ, i64_w, i32_w]
        rfl
      refine pure_ (i := 4) (N := some 17) (v := ?_) (a' := ?_) #[true, true, true, true, true, false, false, false, false, false, false, false, false, false, false, false, false, false, false] rfl rfl (by kernel_rfl) (fun _ _ _ h => h) (Or.inl ⟨by rfl, ?_⟩) ?_ ?_
      rotate_left
      · intro w'
        go_simp
        with_reducible rfl
      rotate_left
      · simp only [Act.put, List.setIfInBounds_toArray, List.set_cons_zero, List.set_cons_succ, i64_w, i32_w]
        rfl
      refine pure_ (i := 5) (N := some 18) (v := ?_) (a' := ?_) #[true, true, true, true, true, true, false, false, false, false, false, false, false, false, false, false, false, false, false] rfl rfl (by kernel_rfl) (fun _ _ _ h => h) (Or.inl ⟨by rfl, ?_⟩) ?_ ?_
      rotate_left
      · intro w'
        go_simp
        with_reducible rfl
      rotate_left
      · simp only [Act.put, List.setIfInBounds_toArray, List.set_cons_zero, List.set_cons_succ, i64_w, i32_w]
        rfl
      refine pure_ (i := 6) (N := some 19) (v := ?_) (a' := ?_) #[true, true, true, true, true, true, true, false, false, false, false, false, false, false, false, false, false, false, false] rfl rfl (by kernel_rfl) (fun _ _ _ h => h) (Or.inl ⟨by rfl, ?_⟩) ?_ ?_
      rotate_left
      · intro w'
        go_simp
        with_reducible rfl
      rotate_left
      · simp only [Act.put, List.setIfInBounds_toArray, List.set_cons_zero, List.set_cons_succ, i64_w, i32_w]
        rfl
      refine pure_ (i := 7) (N := some 20) (v := ?_) (a' := ?_) #[true, true, true, true, true, true, true, true, false, false, false, false, false, false, false, false, false, false, false] rfl rfl (by kernel_rfl) (fun _ _ _ h => h) (Or.inl ⟨by rfl, ?_⟩) ?_ ?_
      rotate_left
      · intro w'
        go_simp
        with_reducible rfl
      rotate_left
      · simp only [Act.put, List.setIfInBounds_toArray, List.set_cons_zero, List.set_cons_succ, i64_w, i32_w]
        rfl
      refine pure_ (i := 8) (N := some 21) (v := ?_) (a' := ?_) #[true, true, true, true, true, true, true, true, true, false, false, false, false, false, false, false, false, false, false] rfl rfl (by kernel_rfl) (fun _ _ _ h => h) (Or.inl ⟨by rfl, ?_⟩) ?_ ?_
      rotate_left
      · intro w'
        go_simp
        with_reducible rfl
      rotate_left
      · simp only [Act.put, List.setIfInBounds_toArray, List.set_cons_zero, List.set_cons_succ, i64_w, i32_w]
        rfl
      refine pure_ (i := 11) (N := some 24) (v := ?_) (a' := ?_) #[true, true, true, true, true, true, true, true, true, false, false, true, false, false, false, false, false, false, false] rfl rfl (by kernel_rfl) (fun _ _ _ h => h) (Or.inl ⟨by rfl, ?_⟩) ?_ ?_
      rotate_left
      · intro w'
        go_simp
        with_reducible rfl
      rotate_left
      · simp only [Act.put, List.setIfInBounds_toArray, List.set_cons_zero, List.set_cons_succ, i64_w, i32_w]
        rfl
      refine pure_ (i := 12) (N := some 25) (v := ?_) (a' := ?_) #[true, true, true, true, true, true, true, true, true, false, false, true, true, false, false, false, false, false, false] rfl rfl (by kernel_rfl) (fun _ _ _ h => h) (Or.inl ⟨by rfl, ?_⟩) ?_ ?_
      rotate_left
      · intro w'
        go_simp
        with_reducible rfl
      rotate_left
      · simp only [Act.put, List.setIfInBounds_toArray, List.set_cons_zero, List.set_cons_succ, i64_w, i32_w]
        rfl
      refine pure_ (i := 13) (N := some 26) (v := ?_) (a' := ?_) #[true, true, true, true, true, true, true, true, true, false, false, true, true, true, false, false, false, false, false] rfl rfl (by kernel_rfl) (fun _ _ _ h => h) (Or.inl ⟨by rfl, ?_⟩) ?_ ?_
      rotate_left
      · intro w'
        go_simp
        with_reducible rfl
      rotate_left
      · simp only [Act.put, List.setIfInBounds_toArray, List.set_cons_zero, List.set_cons_succ, i64_w, i32_w]
        rfl
      refine take_ (i := 9) (N := some 22) (v := ?_) (a' := ?_) #[true, true, true, true, true, true, true, true, true, true, false, true, true, true, false, false, false, false, false] rfl rfl (by kernel_rfl) (fun _ _ _ h => h) (Or.inl ⟨by rfl, ?_⟩) hHeld ?_ ?_
      rotate_left
      · rintro w' ⟨s0, s1⟩
        go_simp
        with_reducible rfl
      rotate_left
      · simp only [Act.put, List.setIfInBounds_toArray, List.set_cons_zero, List.set_cons_succ, i64_w, i32_w]
        rfl
      refine take_ (i := 14) (N := some 27) (v := ?_) (a' := ?_) #[true, true, true, true, true, true, true, true, true, true, false, true, true, true, true, false, false, false, false] rfl rfl (by kernel_rfl) (fun _ _ _ h => h) (Or.inl ⟨by rfl, ?_⟩) hHeld ?_ ?_
      rotate_left
      · rintro w' ⟨s0, s1⟩
        go_simp
        with_reducible rfl
      rotate_left
      · simp only [Act.put, List.setIfInBounds_toArray, List.set_cons_zero, List.set_cons_succ, i64_w, i32_w]
        rfl
      refine one_ (i := 10) (N := some 23) #[true, true, true, true, true, true, true, true, true, true, true, true, true, true, true, false, false, false, false] rfl rfl (by kernel_rfl) (by decide) (fun K hK => ?_)
      refine goes_ Try.func18 (by kernel_rfl) rfl #[.pointer (some ⟨p1, 0, none⟩)] (by rfl) rfl rfl (by simp only [List.map_toArray, List.map_cons, List.map_nil]; rfl) ?_
      refine (files_calls w2.drew p1 X1 st (HP.out.below (below_drew (Below.refl _ _))) OK.out).mono ?_
      rintro e w3 ⟨v3, rfl, r3, b3⟩
      obtain ⟨A3, c3, rfl, hc3, hC3⟩ := Kd.R_reads r3
      refine ⟨_, rfl, ?_⟩
      have HC3 := Aside0.mk hC3
      have B3 := Aside0.mk b3
      have hb3 := blk_upd (show w2.drew.heap[w.heap.size]? = _ from HB2.out) (Upd.of_below b3 (fun _ => False)) (fun h => h)
      have HB3 := Aside0.mk hb3
      have n0 := blk_cell hb3 0
      have n1 := blk_cell hb3 1
      have fn0 := blk_frozen hb3 0
      have fn1 := blk_frozen hb3 1
      simp only [List.getElem?_toArray, List.getElem?_cons_succ, List.getElem?_cons_zero] at n0 n1
      clear r3 hC3 b3 hb3
      refine hK.out _ _ ⟨n0, n1⟩ (fun hHeld => ?_)
      clear hK K
      refine norm_ (a' := ?_) ?_ ?_
      rotate_left
      · show Act.put _ (some 23) _ = _
        simp only [Act.put, List.setIfInBounds_toArray, List.set_cons_zero, List.set_cons_succ, i64_w, i32_w]
        rfl
      refine one_ (i := 15) (N := some 28) #[true, true, true, true, true, true, true, true, true, true, true, true, true, true, true, true, false, false, false] rfl rfl (by kernel_rfl) (by decide) (fun K hK => ?_)
      refine goes_ Try.func19 (by kernel_rfl) rfl #[.pointer (some ⟨p2, 0, none⟩)] (by rfl) rfl rfl (by simp only [List.map_toArray, List.map_cons, List.map_nil]; rfl) ?_
      refine (rfiles_calls w3 p2 X2 st ((HQ.out.below (below_drew (Below.refl _ _))).below B3.out) OK.out).mono ?_
      rintro e w4 ⟨v4, rfl, r4, b4⟩
      obtain ⟨A4, c4, rfl, hc4, hC4⟩ := Kd.R_reads r4
      refine ⟨_, rfl, ?_⟩
      have HC4 := Aside0.mk hC4
      have B4 := Aside0.mk b4
      have hb4 := blk_upd HB3.out (Upd.of_below b4 (fun _ => False)) (fun h => h)
      have q0 := blk_cell hb4 0
      have q1 := blk_cell hb4 1
      have fq0 := blk_frozen hb4 0
      have fq1 := blk_frozen hb4 1
      simp only [List.getElem?_toArray, List.getElem?_cons_succ, List.getElem?_cons_zero] at q0 q1
      clear r4 hC4 b4 hb4
      refine hK.out _ _ ⟨q0, q1⟩ (fun hHeld => ?_)
      clear hK K
      refine norm_ (a' := ?_) ?_ ?_
      rotate_left
      · show Act.put _ (some 28) _ = _
        simp only [Act.put, List.setIfInBounds_toArray, List.set_cons_zero, List.set_cons_succ, i64_w, i32_w]
        rfl
      refine last_ (i := 16) (N := some 29) #[true, true, true, true, true, true, true, true, true, true, true, true, true, true, true, true, true, false, false] rfl rfl (by kernel_rfl) (by decide) (fun K hK => ?_)
      refine goes_ Try.func17 (by kernel_rfl) rfl #[.slice A3 (files67 st).length c3, .slice A4 (files67 st).length c4] (by rfl) rfl rfl (by simp only [List.map_toArray, List.map_cons, List.map_nil]; rfl) ?_
      refine (alike_same w4 A3 c3 (files67 st) A4 c4 (Kd.C_below HC3.out B4.out) hc3 HC4.out hc4 (by rw [files67_len]; have := OK.out.few; omega) (files67_small OK.out)).mono ?_
      rintro e w5 ⟨rfl, b5⟩
      refine ⟨_, rfl, ?_⟩
      have HB5 := Aside0.mk ((((below_drew HBL2.out).trans (B3.out.mono HBL2.out.size)).trans (B4.out.mono (Nat.le_trans HBL2.out.size B3.out.size))).trans (b5.mono (Nat.le_trans HBL2.out.size (Nat.le_trans B3.out.size B4.out.size))))
      clear b5
      refine hK.out _ _ ?_
      clear hK K
      refine norm_ (a' := ?_) ?_ ?_
      rotate_left
      · show Act.put _ (some 29) _ = _
        simp only [Act.put, List.setIfInBounds_toArray, List.set_cons_zero, List.set_cons_succ, i64_w, i32_w]
        rfl
      refine pure_ (i := 17) (N := some 30) (v := ?_) (a' := ?_) #[true, true, true, true, true, true, true, true, true, true, true, true, true, true, true, true, true, true, false] rfl rfl (by kernel_rfl) (fun _ _ _ h => h) (Or.inl ⟨by rfl, ?_⟩) ?_ ?_
      rotate_left
      · intro w'
        go_simp
        with_reducible rfl
      rotate_left
      · simp only [Act.put, List.setIfInBounds_toArray, List.set_cons_zero, List.set_cons_succ, i64_w, i32_w]
        rfl
      refine pure_ (i := 18) (N := some 2) (v := ?_) (a' := ?_) #[true, true, true, true, true, true, true, true, true, true, true, true, true, true, true, true, true, true, true] rfl rfl (by kernel_rfl) (fun _ _ _ h => h) (Or.inl ⟨by rfl, ?_⟩) ?_ ?_
      rotate_left
      · intro w'
        go_simp
        with_reducible rfl
      rotate_left
      · simp only [Act.put, List.setIfInBounds_toArray, List.set_cons_zero, List.set_cons_succ, i64_w, i32_w]
        rfl
      refine done_ (by kernel_rfl) ?_
      go_wp2
      go_ret
      exact ⟨rfl, by repeat (with_reducible first | exact HB5.out | apply below_drew | apply pw_below_drewN)⟩
end Go.Proofs.Ytfholpajdkjbbaa.DK
