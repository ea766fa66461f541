/- The reference's disk: Append; conditions: those in each theorem. -/
import Derived.Test.YtfholpajdkjbbaaQeGd
namespace Go.Proofs.Ytfholpajdkjbbaa.DK
open Go.Proofs.Ytfholpajdkjbbaa.PD
open Go.RowKit Go.Proofs.YtfholpajdkjbbaaW.PrintWords Go.Proofs.YtfholpajdkjbbaaW.PrintLast Go.Proofs.YtfholpajdkjbbaaW.PrintMore Go.Proofs.Ytfholpajdkjbbaa.Mo
set_option linter.unusedVariables false
set_option linter.unusedSimpArgs false
theorem FileAt.x2 {w : World} {p : Nat} {X : Nat → Prop} {s : St} {av : Sl} {rv : Bool → ByteArray → Sl} {a : Int} {i : Nat} {f : F} {g cav : Nat} {A1 : Option Addr} {c1 : Nat} {A2 : Option Addr} {c2 : Nat} (h : FileAt w p X s av rv a i f g cav A1 c1 A2 c2) {k : Nat} (hk : (Value.slice A2 f.loose.length c2).ownBlock = some k) : X k :=
  h.disk.files.xr _ (List.getElem_mem h.hi) true k (by rw [h.hf h.hi, h.s2]; exact hk)
set_option maxHeartbeats 8000000 in
set_option maxRecDepth 100000 in
theorem rappend_calls (w : World) (p : Nat) (X : Nat → Prop) (s : St) (nm : ByteArray) (A : Option Addr) (c : Nat) (data : List Int) (h : RefD w p X s) (ok : Ok s) (hS : Stays X w A data) (hc : data.length ≤ c) (hl : data.length ≤ 2 ^ 40) :
    Calls Try.prog 38 #[.pointer (some ⟨p, 0, none⟩), .string nm, .slice A data.length c] w fun e w' => e = .returned (.int .i64 (s.append nm data).2) ∧ RStep p X w w' (s.append nm data).1 := by
  have HM := Aside0.mk (rahead_calls w p X s nm true h ok)
  have HS := Aside0.mk hS
  have ok1 := ok.ahead nm true
  have ha1 := ahead_all s nm true
  unfold St.append
  by_cases hc0 : (s.ahead nm true).2 ≠ 0
  · rw [if_pos hc0]
    generalize s.ahead nm true = r at *
    obtain ⟨s1, c1⟩ := r
    dsimp only at *
    have hb1 : (c1 == 0) = false := by simpa using hc0
    have hb2 : (c1 != 0) = true := by simpa using hc0
    clear hc0 hS h
    go_enter Try.func38, Try.ntmps38
    go_wp2_with (go_at_call 56; refine HM.out.mono ?_; rintro e w1 ⟨rfl, hP⟩)
    go_ret
    exact ⟨rfl, hP⟩
  · rw [if_neg hc0]
    have hc1 : (s.ahead nm true).2 = 0 := by omega
    rw [hc1] at HM
    rw [← full_all ha1]
    generalize (s.ahead nm true).1 = s1 at *
    clear hc0 hc1 hS h ok
    have OK1 := Aside0.mk ok1
    have HFD := Aside0.mk (fun w1 (h1 : RefD w1 p (More X w w1) s1) => rfind_calls w1 p (More X w w1) s1 nm h1 ok1)
    have hfew := ok1.few
    clear ok1 ha1
    cases hf : find s1.all nm with
    | none =>
      have HF := Aside0.mk hf
      by_cases hfull : s1.full nm data = true
      · rw [if_pos hfull]
        unfold St.full at hfull
        rw [hf] at hfull
        clear hf
        simp only [Bool.or_eq_true, decide_eq_true_eq] at hfull
        by_cases h65 : 65536 < data.length
        · skip
          clear hfull
          go_enter Try.func38, Try.ntmps38
          go_wp2_with fail
          refine HM.out.mono ?_
          rintro e w1 ⟨rfl, h1⟩
          have H1 := Aside0.mk h1
          go_wp2_with fail
          refine (HFD.out w1 h1.1).mono ?_
          rintro e w2 ⟨r, rfl, rfl, hfd⟩
          obtain ⟨⟨av, rv, a, hR⟩, hU⟩ := h1
          unfold Found at hfd
          rw [HF.out] at hfd
          have hfd : r = -1 := hfd
          subst hfd
          have HR := Aside0.mk hR
          have hp := hR.head
          have hn := hR.files.len
          rw [show av.v = .slice av.A s1.all.length av.c by unfold Sl.v; rw [hn]] at hp
          have m0 := blk_cell hp 0
          have m1 := blk_cell hp 1
          have m2 := blk_cell hp 2
          have m3 := blk_cell hp 3
          have m4 := blk_cell hp 4
          have fm0 := blk_frozen hp 0
          have fm1 := blk_frozen hp 1
          have fm2 := blk_frozen hp 2
          have fm3 := blk_frozen hp 3
          have fm4 := blk_frozen hp 4
          simp only [List.getElem?_toArray, List.getElem?_cons_succ, List.getElem?_cons_zero] at m0 m1 m2 m3 m4
          clear hR hU hp hn
          go_wp2
          go_ret
          exact ⟨rfl, H1.out⟩
        · have h400 : 400 ≤ s1.all.length := by omega
          clear hfull
          go_enter Try.func38, Try.ntmps38
          go_wp2_with fail
          refine HM.out.mono ?_
          rintro e w1 ⟨rfl, h1⟩
          have H1 := Aside0.mk h1
          go_wp2_with fail
          refine (HFD.out w1 h1.1).mono ?_
          rintro e w2 ⟨r, rfl, rfl, hfd⟩
          obtain ⟨⟨av, rv, a, hR⟩, hU⟩ := h1
          unfold Found at hfd
          rw [HF.out] at hfd
          have hfd : r = -1 := hfd
          subst hfd
          have HR := Aside0.mk hR
          have hp := hR.head
          have hn := hR.files.len
          rw [show av.v = .slice av.A s1.all.length av.c by unfold Sl.v; rw [hn]] at hp
          have m0 := blk_cell hp 0
          have m1 := blk_cell hp 1
          have m2 := blk_cell hp 2
          have m3 := blk_cell hp 3
          have m4 := blk_cell hp 4
          have fm0 := blk_frozen hp 0
          have fm1 := blk_frozen hp 1
          have fm2 := blk_frozen hp 2
          have fm3 := blk_frozen hp 3
          have fm4 := blk_frozen hp 4
          simp only [List.getElem?_toArray, List.getElem?_cons_succ, List.getElem?_cons_zero] at m0 m1 m2 m3 m4
          clear hR hU hp hn
          go_wp2
          go_ret
          exact ⟨rfl, H1.out⟩
      · rw [if_neg hfull]
        unfold St.full at hfull
        rw [hf] at hfull
        clear hf
        simp only [Bool.or_eq_true, decide_eq_true_eq, not_or] at hfull
        obtain ⟨h65, h400⟩ := hfull
        by_cases hy : (s1.pays ((data.length : Int) + 1)).2 = true
        · rw [if_pos hy]
          have HPY0 := Aside0.mk (fun w2 (h1 : RefD w2 p (More X w w2) s1) => rpays_calls w2 p (More X w w2) s1 ((data.length : Int) + 1) h1 OK1.out (by omega))
          rw [hy] at HPY0
          clear hy
          go_enter Try.func38, Try.ntmps38
          go_wp2_with fail
          refine HM.out.mono ?_
          rintro e w1 ⟨rfl, h1⟩
          have H1 := Aside0.mk h1
          go_wp2_with fail
          refine (HFD.out w1 h1.1).mono ?_
          rintro e w2 ⟨r, rfl, rfl, hfd⟩
          obtain ⟨⟨av, rv, a, hR⟩, hU⟩ := h1
          unfold Found at hfd
          rw [HF.out] at hfd
          have hfd : r = -1 := hfd
          subst hfd
          have HR := Aside0.mk hR
          have hp := hR.head
          have hn := hR.files.len
          rw [show av.v = .slice av.A s1.all.length av.c by unfold Sl.v; rw [hn]] at hp
          have m0 := blk_cell hp 0
          have m1 := blk_cell hp 1
          have m2 := blk_cell hp 2
          have m3 := blk_cell hp 3
          have m4 := blk_cell hp 4
          have fm0 := blk_frozen hp 0
          have fm1 := blk_frozen hp 1
          have fm2 := blk_frozen hp 2
          have fm3 := blk_frozen hp 3
          have fm4 := blk_frozen hp 4
          simp only [List.getElem?_toArray, List.getElem?_cons_succ, List.getElem?_cons_zero] at m0 m1 m2 m3 m4
          clear hR hU hp hn
          go_wp2
          refine start_ (n := 27) (S := fun w' => True) (ds := []) #[false, false, false, false, false, false, false, false, false, false, false, false, false, false, false, false, false, false, false, false, false, false, false, false, false, false, false] (by kernel_rfl) rfl rfl trivial (fun hHeld => ?_)
          refine zq 0 (some 37) ?_
          refine zq 1 (some 38) ?_
          refine zq 2 (some 39) ?_
          refine pure_ (i := 3) (N := some 40) (v := undef) (a' := ?_) #[true, true, true, true, false, false, false, false, false, false, false, false, false, false, false, false, false, false, false, false, false, false, false, false, false, false, false] rfl rfl (by kernel_rfl) (fun _ _ _ h => h) (Or.inr ⟨by rfl, rfl⟩) ?_ ?_
          rotate_left
          · simp only [Act.put, zla, zlb, zlc, i64_w, i32_w]
            rfl
          refine pure_ (i := 4) (N := some 41) (v := undef) (a' := ?_) #[true, true, true, true, true, false, false, false, false, false, false, false, false, false, false, false, false, false, false, false, false, false, false, false, false, false, false] rfl rfl (by kernel_rfl) (fun _ _ _ h => h) (Or.inr ⟨by rfl, rfl⟩) ?_ ?_
          rotate_left
          · simp only [Act.put, zla, zlb, zlc, i64_w, i32_w]
            rfl
          refine pure_ (i := 5) (N := some 42) (v := undef) (a' := ?_) #[true, true, true, true, true, true, false, false, false, false, false, false, false, false, false, false, false, false, false, false, false, false, false, false, false, false, false] rfl rfl (by kernel_rfl) (fun _ _ _ h => h) (Or.inr ⟨by rfl, rfl⟩) ?_ ?_
          rotate_left
          · simp only [Act.put, zla, zlb, zlc, i64_w, i32_w]
            rfl
          refine pure_ (i := 6) (N := some 43) (v := undef) (a' := ?_) #[true, true, true, true, true, true, true, false, false, false, false, false, false, false, false, false, false, false, false, false, false, false, false, false, false, false, false] rfl rfl (by kernel_rfl) (fun _ _ _ h => h) (Or.inr ⟨by rfl, rfl⟩) ?_ ?_
          rotate_left
          · simp only [Act.put, zla, zlb, zlc, i64_w, i32_w]
            rfl
          refine pure_ (i := 7) (N := some 44) (v := undef) (a' := ?_) #[true, true, true, true, true, true, true, true, false, false, false, false, false, false, false, false, false, false, false, false, false, false, false, false, false, false, false] rfl rfl (by kernel_rfl) (fun _ _ _ h => h) (Or.inr ⟨by rfl, rfl⟩) ?_ ?_
          rotate_left
          · simp only [Act.put, zla, zlb, zlc, i64_w, i32_w]
            rfl
          refine pure_ (i := 8) (N := some 45) (v := undef) (a' := ?_) #[true, true, true, true, true, true, true, true, true, false, false, false, false, false, false, false, false, false, false, false, false, false, false, false, false, false, false] rfl rfl (by kernel_rfl) (fun _ _ _ h => h) (Or.inr ⟨by rfl, rfl⟩) ?_ ?_
          rotate_left
          · simp only [Act.put, zla, zlb, zlc, i64_w, i32_w]
            rfl
          refine pure_ (i := 9) (N := some 46) (v := undef) (a' := ?_) #[true, true, true, true, true, true, true, true, true, true, false, false, false, false, false, false, false, false, false, false, false, false, false, false, false, false, false] rfl rfl (by kernel_rfl) (fun _ _ _ h => h) (Or.inr ⟨by rfl, rfl⟩) ?_ ?_
          rotate_left
          · simp only [Act.put, zla, zlb, zlc, i64_w, i32_w]
            rfl
          refine pure_ (i := 10) (N := some 47) (v := undef) (a' := ?_) #[true, true, true, true, true, true, true, true, true, true, true, false, false, false, false, false, false, false, false, false, false, false, false, false, false, false, false] rfl rfl (by kernel_rfl) (fun _ _ _ h => h) (Or.inr ⟨by rfl, rfl⟩) ?_ ?_
          rotate_left
          · simp only [Act.put, zla, zlb, zlc, i64_w, i32_w]
            rfl
          refine pure_ (i := 11) (N := some 48) (v := undef) (a' := ?_) #[true, true, true, true, true, true, true, true, true, true, true, true, false, false, false, false, false, false, false, false, false, false, false, false, false, false, false] rfl rfl (by kernel_rfl) (fun _ _ _ h => h) (Or.inr ⟨by rfl, rfl⟩) ?_ ?_
          rotate_left
          · simp only [Act.put, zla, zlb, zlc, i64_w, i32_w]
            rfl
          refine pure_ (i := 12) (N := some 49) (v := undef) (a' := ?_) #[true, true, true, true, true, true, true, true, true, true, true, true, true, false, false, false, false, false, false, false, false, false, false, false, false, false, false] rfl rfl (by kernel_rfl) (fun _ _ _ h => h) (Or.inr ⟨by rfl, rfl⟩) ?_ ?_
          rotate_left
          · simp only [Act.put, zla, zlb, zlc, i64_w, i32_w]
            rfl
          refine pure_ (i := 13) (N := some 50) (v := undef) (a' := ?_) #[true, true, true, true, true, true, true, true, true, true, true, true, true, true, false, false, false, false, false, false, false, false, false, false, false, false, false] rfl rfl (by kernel_rfl) (fun _ _ _ h => h) (Or.inr ⟨by rfl, rfl⟩) ?_ ?_
          rotate_left
          · simp only [Act.put, zla, zlb, zlc, i64_w, i32_w]
            rfl
          refine pure_ (i := 14) (N := some 51) (v := undef) (a' := ?_) #[true, true, true, true, true, true, true, true, true, true, true, true, true, true, true, false, false, false, false, false, false, false, false, false, false, false, false] rfl rfl (by kernel_rfl) (fun _ _ _ h => h) (Or.inr ⟨by rfl, rfl⟩) ?_ ?_
          rotate_left
          · simp only [Act.put, zla, zlb, zlc, i64_w, i32_w]
            rfl
          refine pure_ (i := 15) (N := some 52) (v := undef) (a' := ?_) #[true, true, true, true, true, true, true, true, true, true, true, true, true, true, true, true, false, false, false, false, false, false, false, false, false, false, false] rfl rfl (by kernel_rfl) (fun _ _ _ h => h) (Or.inr ⟨by rfl, rfl⟩) ?_ ?_
          rotate_left
          · simp only [Act.put, zla, zlb, zlc, i64_w, i32_w]
            rfl
          refine pure_ (i := 16) (N := some 53) (v := undef) (a' := ?_) #[true, true, true, true, true, true, true, true, true, true, true, true, true, true, true, true, true, false, false, false, false, false, false, false, false, false, false] rfl rfl (by kernel_rfl) (fun _ _ _ h => h) (Or.inr ⟨by rfl, rfl⟩) ?_ ?_
          rotate_left
          · simp only [Act.put, zla, zlb, zlc, i64_w, i32_w]
            rfl
          refine pure_ (i := 17) (N := some 54) (v := undef) (a' := ?_) #[true, true, true, true, true, true, true, true, true, true, true, true, true, true, true, true, true, true, false, false, false, false, false, false, false, false, false] rfl rfl (by kernel_rfl) (fun _ _ _ h => h) (Or.inr ⟨by rfl, rfl⟩) ?_ ?_
          rotate_left
          · simp only [Act.put, zla, zlb, zlc, i64_w, i32_w]
            rfl
          refine pure_ (i := 18) (N := some 55) (v := undef) (a' := ?_) #[true, true, true, true, true, true, true, true, true, true, true, true, true, true, true, true, true, true, true, false, false, false, false, false, false, false, false] rfl rfl (by kernel_rfl) (fun _ _ _ h => h) (Or.inr ⟨by rfl, rfl⟩) ?_ ?_
          rotate_left
          · simp only [Act.put, zla, zlb, zlc, i64_w, i32_w]
            rfl
          refine pure_ (i := 19) (N := some 56) (v := undef) (a' := ?_) #[true, true, true, true, true, true, true, true, true, true, true, true, true, true, true, true, true, true, true, true, false, false, false, false, false, false, false] rfl rfl (by kernel_rfl) (fun _ _ _ h => h) (Or.inr ⟨by rfl, rfl⟩) ?_ ?_
          rotate_left
          · simp only [Act.put, zla, zlb, zlc, i64_w, i32_w]
            rfl
          refine pure_ (i := 20) (N := some 57) (v := undef) (a' := ?_) #[true, true, true, true, true, true, true, true, true, true, true, true, true, true, true, true, true, true, true, true, true, false, false, false, false, false, false] rfl rfl (by kernel_rfl) (fun _ _ _ h => h) (Or.inr ⟨by rfl, rfl⟩) ?_ ?_
          rotate_left
          · simp only [Act.put, zla, zlb, zlc, i64_w, i32_w]
            rfl
          refine pure_ (i := 21) (N := some 58) (v := undef) (a' := ?_) #[true, true, true, true, true, true, true, true, true, true, true, true, true, true, true, true, true, true, true, true, true, true, false, false, false, false, false] rfl rfl (by kernel_rfl) (fun _ _ _ h => h) (Or.inr ⟨by rfl, rfl⟩) ?_ ?_
          rotate_left
          · simp only [Act.put, zla, zlb, zlc, i64_w, i32_w]
            rfl
          refine pure_ (i := 22) (N := some 59) (v := undef) (a' := ?_) #[true, true, true, true, true, true, true, true, true, true, true, true, true, true, true, true, true, true, true, true, true, true, true, false, false, false, false] rfl rfl (by kernel_rfl) (fun _ _ _ h => h) (Or.inr ⟨by rfl, rfl⟩) ?_ ?_
          rotate_left
          · simp only [Act.put, zla, zlb, zlc, i64_w, i32_w]
            rfl
          refine pure_ (i := 23) (N := some 60) (v := undef) (a' := ?_) #[true, true, true, true, true, true, true, true, true, true, true, true, true, true, true, true, true, true, true, true, true, true, true, true, false, false, false] rfl rfl (by kernel_rfl) (fun _ _ _ h => h) (Or.inr ⟨by rfl, rfl⟩) ?_ ?_
          rotate_left
          · simp only [Act.put, zla, zlb, zlc, i64_w, i32_w]
            rfl
          refine pure_ (i := 24) (N := some 61) (v := undef) (a' := ?_) #[true, true, true, true, true, true, true, true, true, true, true, true, true, true, true, true, true, true, true, true, true, true, true, true, true, false, false] rfl rfl (by kernel_rfl) (fun _ _ _ h => h) (Or.inr ⟨by rfl, rfl⟩) ?_ ?_
          rotate_left
          · simp only [Act.put, zla, zlb, zlc, i64_w, i32_w]
            rfl
          refine pure_ (i := 25) (N := some 62) (v := undef) (a' := ?_) #[true, true, true, true, true, true, true, true, true, true, true, true, true, true, true, true, true, true, true, true, true, true, true, true, true, true, false] rfl rfl (by kernel_rfl) (fun _ _ _ h => h) (Or.inr ⟨by rfl, rfl⟩) ?_ ?_
          rotate_left
          · simp only [Act.put, zla, zlb, zlc, i64_w, i32_w]
            rfl
          refine zq 26 (some 63) ?_
          refine done_ (by kernel_rfl) ?_
          have H1d := Aside0.mk (RStep.then_below H1.out (show Below w2.heap.size w2 w2.drew from below_drew (Below.refl _ _)))
          go_wp2_with fail
          refine (HPY0.out w2.drew H1d.out.1).mono ?_
          rintro e w3 ⟨rfl, h3⟩
          have H3 := Aside0.mk (RStep.trans H1d.out h3)
          clear h3
          obtain ⟨S1, hS1⟩ : ∃ S1, S1 = (s1.pays ((data.length : Int) + 1)).1 := ⟨_, rfl⟩
          have HS1 := Aside0.mk hS1
          rw [← hS1] at H3
          have HA2 := Aside0.mk (show S1.all = s1.all by rw [hS1]; exact pays_all _ _)
          clear hS1 m0 m1 m2 m3 m4 fm0 fm1 fm2 fm3 fm4
          obtain ⟨n, hn⟩ : ∃ n : Nat, n = data.length := ⟨_, rfl⟩
          have hnd : n ≤ data.length := by omega
          have HNN := Aside0.mk hn
          have hnm : nm ∉ namesOf S1.all := by rw [HA2.out]; exact find_none HF.out
          obtain ⟨av3, rv3, a3, hR3⟩ := H3.out.1
          have HR3 := Aside0.mk hR3
          have HNM := Aside0.mk hnm
          clear hR3 hnm
          go_wp2_with fail
          refine (rput_raw w3 p (More X w w3) S1 av3 rv3 a3 HR3.out (by rw [HA2.out]; exact hfew) ⟨nm, [], []⟩ HNM.out none 0 0 none 0 0).mono ?_
          rintro e w4 ⟨rfl, av4, g1, g2, g3, g4⟩
          have hR4 := rput_done HR3.out ⟨nm, [], []⟩ HNM.out Sl.nil Sl.nil g2 g3 g4 (Kd.R_nil _ _ _ _ _) (Kd.R_nil _ _ _ _ _) (fun k hk => by cases hk) (X' := More (More X w w3) w3 w4) (fun _ h => .inl h) (fun k hk => by cases hk) (fun k hk => by cases hk) (fun k hk => .inr ⟨g1 k hk, Kd.R_lt g2 k hk⟩) (bd_more HR3.out.bd g3.size)
          have H4 := Aside0.mk (RStep.trans H3.out ⟨⟨_, _, _, hR4⟩, g3.mono (fun k _ e => e ▸ HR3.out.xp)⟩)
          clear hR4 g1 g2 g3 g4
          obtain ⟨S, hS⟩ : ∃ S : St, S = { S1 with all := put ⟨nm, [], []⟩ S1.all } := ⟨_, rfl⟩
          rw [← hS] at H4
          have HSD := Aside0.mk hS
          clear hS
          obtain ⟨av5, rv5, a5, hR5⟩ := H4.out.1
          have HR5 := Aside0.mk hR5
          have HFS := Aside0.mk (show find S.all nm = some ⟨nm, [], []⟩ from find_of_mem (f := ⟨nm, [], []⟩) hR5.files.nd (by rw [HSD.out]; exact mem_put.2 (.inl rfl)))
          clear hR5
          go_wp2_with fail
          refine (rfind_ctx w4 p (More X w w4) S nm av5 rv5 a5 HR5.out (by rw [HSD.out]; show (put _ S1.all).length ≤ _; rw [(put_perm _ _).length_eq, List.length_cons, HA2.out]; omega)).mono ?_
          rintro e w5 ⟨r, rfl, rfl, hfd⟩
          obtain ⟨i, rfl, hi2, hfi2⟩ := find_idx hfd HFS.out
          have HST := H4
          have HN2 := Aside0.mk (show (S.all[i]).name = nm by rw [hfi2])
          have HSZ := Aside0.mk (show (S.all[i]).loose.length + data.length ≤ 65536 by rw [hfi2]; show 0 + data.length ≤ 65536; omega)
          have HFIN := Aside0.mk (show (s1.pays ((data.length : Int) + 1)).1.lay nm data = ({ S with all := laid nm (data.take n) S.all } : St) from by rw [lay_none (show find (s1.pays ((data.length : Int) + 1)).1.all nm = none by rw [pays_all]; exact HF.out), HNN.out, List.take_length, HSD.out, HS1.out]; rfl)
          clear hfd hfi2
          clear hc
          go_wp2
          go_loopw [12] (fun iv wr => LaysE w5 p (More X w w5) S nm data n iv wr) (fun iv _ => n - (intOf iv).toNat)
          case atStart => exact ⟨0, rfl, Nat.zero_le _, by rw [List.take_zero, laid_nil]; exact RStep.refl HST.out.1⟩
          case round =>
            obtain ⟨j, rfl, hb⟩ := hrel
            have HB := Aside0.mk hb
            by_cases hlt : j < n
            · obtain ⟨⟨av5, rv5, a5, hR5⟩, hU5⟩ := hb.st
              obtain ⟨hil, hfi⟩ := laid_at nm (data.take j) S.all i hi2 HN2.out
              obtain ⟨g5, cav5, B1, d1, B2, d2, ho⟩ := hR5.open_ i hil
              rw [show ({ S with all := laid nm (data.take j) S.all } : St).all[i] = { S.all[i] with loose := (S.all[i]).loose ++ data.take j } from hfi] at ho
              have hdat := HS.out wr (HST.out.2.more hU5)
              obtain ⟨adD, rfl, hcell⟩ := (Kd.reads_of_C (d := (0 : Int)) (h1 := fun _ => rfl) hdat).at_ (j : Int) (by omega) (by omega)
              rw [Int.toNat_natCast] at hcell
              have HTK := Aside0.mk (show data.take (j + 1) = data.take j ++ [rdOf (0 : Int) data (j : Int)] from by rw [take_snoc' data j (by omega)]; congr 2; unfold rdOf; rw [Int.toNat_natCast, List.getD_eq_getElem?_getD, List.getElem?_eq_getElem (by omega)]; rfl)
              have hfn : ({ S.all[i] with loose := (S.all[i]).loose ++ data.take j } : F).name = nm := HN2.out
              have hfz : ({ S.all[i] with loose := (S.all[i]).loose ++ data.take j } : F).loose.length ≤ 65536 := by have := HSZ.out; simp only [List.length_append, List.length_take]; omega
              generalize ({ S.all[i] with loose := (S.all[i]).loose ++ data.take j } : F) = f5 at *
              generalize hxe : rdOf (0 : Int) data (j : Int) = x at *
              have HXE := Aside0.mk hxe
              clear hxe
              have HO5 := Aside0.mk ho
              have HFN := Aside0.mk hfn
              have hp := ho.head
              dsimp only at hp
              have m0 := blk_cell hp 0
              have m1 := blk_cell hp 1
              have m2 := blk_cell hp 2
              have m3 := blk_cell hp 3
              have m4 := blk_cell hp 4
              have fm0 := blk_frozen hp 0
              have fm1 := blk_frozen hp 1
              have fm2 := blk_frozen hp 2
              have fm3 := blk_frozen hp 3
              have fm4 := blk_frozen hp 4
              simp only [List.getElem?_toArray, List.getElem?_cons_succ, List.getElem?_cons_zero] at m0 m1 m2 m3 m4
              have k2 := ho.k2
              have hne5 := ho.ne
              have hjd : j < data.length := by omega
              clear hb hR5 hU5 ho hdat hfi hfn hp
              go_wp2
              refine start_ (n := 22) (S := fun w' => w'.cell? ⟨p, 0, none⟩ = some (.slice (some ⟨g5, 0, none⟩) (laid nm (data.take j) S.all).length cav5) ∧ w'.cell? ⟨g5, i * 3 + 2, none⟩ = some (.slice B2 f5.loose.length d2) ∧ w'.cell? (adD.add j) = some (.int .u8 x)) (ds := [21]) #[false, false, false, false, false, false, false, false, false, false, false, false, false, false, false, false, false, false, false, false, false, false] (by kernel_rfl) rfl rfl ⟨m0, k2, hcell⟩ (fun hHeld => ?_)
              refine zq 0 (some 91) ?_
              refine zq 1 (some 92) ?_
              refine zq 2 (some 93) ?_
              refine zq 4 (some 95) ?_
              refine zq 5 (some 96) ?_
              refine zq 6 (some 97) ?_
              refine zq 7 (some 98) ?_
              refine zq 9 (some 100) ?_
              refine zq 13 (some 104) ?_
              refine zq 14 (some 105) ?_
              refine zq 15 (some 106) ?_
              refine zu 3 (some 94) hHeld ?_
              refine zu 8 (some 99) hHeld ?_
              refine zq 10 (some 101) ?_
              refine zq 11 (some 102) ?_
              refine zu 12 (some 103) hHeld ?_
              refine zu 16 (some 107) hHeld ?_
              refine one_ (i := 17) (N := some 108) #[true, true, true, true, true, true, true, true, true, true, true, true, true, true, true, true, true, true, false, false, false, false] rfl rfl (by kernel_rfl) (by decide) (fun K hK => ?_)
              refine value_ (w1 := ?_) (v := ?_) (by rfl) rfl ?_ ?_
              rotate_left 2
              · go_simp
                constructor
                · rfl
                · rfl
              refine hK.out _ _ ⟨pw_cell_below (below_alloc (Below.refl _ _) _) hHeld.1, pw_cell_below (below_alloc (Below.refl _ _) _) hHeld.2.1, pw_cell_below (below_alloc (Below.refl _ _) _) hHeld.2.2⟩ (fun hHeld => ?_)
              clear hK K
              refine norm_ (a' := ?_) ?_ ?_
              rotate_left
              · show Act.put _ (some 108) _ = _
                simp only [Act.put, zla, zlb, zlc, i64_w, i32_w]
                rfl
              refine one_ (i := 18) (N := some 109) #[true, true, true, true, true, true, true, true, true, true, true, true, true, true, true, true, true, true, true, false, false, false] rfl rfl (by kernel_rfl) (by decide) (fun K hK => ?_)
              refine Kd.R_append_step (Kd.int .u8) (w0 := wr.drew) (W := wr.drew) 0 (by rfl) (.tmp 103) (.tmp 108) 38 5 (.int .u8 0) 1 rfl Try.underlying38 PD.info5 rfl (by decide) (by decide) (.slice B2 f5.loose.length d2) f5.loose x [.int .u8 x] (fun _ => True) (fun _ => False) rfl rfl rfl (fun _ hk => hk.elim) (fun _ _ => trivial) HO5.out.drew.r2 (Below.refl _ _) (Nat.zero_le _) (by omega) ?_
              intro v1 w4 ho hb hg hat
              obtain ⟨A5, c5, rfl, hc5, _⟩ := Kd.R_reads ho
              generalize hn1 : (f5.loose ++ [x]).length = n1 at ho hat hc5 ⊢
              obtain ⟨hp4, ht4, hr4, e0, e1, e2, fe0, fe1, fe2⟩ := HO5.out.drew.grown1 true hg
              have H4 := Aside0.mk ho
              have HG := Aside0.mk hg
              have HAT := Aside0.mk hat
              have HT4 := Aside0.mk ht4
              have HR4 := Aside0.mk hr4
              have hU4 : Upd (More X w wr) wr w4 := ((Upd.refl _ wr).drew).grown hg (fun k hk => .inl ((More.trans HST.out.2.size HB.out.st.2.size k).1 (HO5.out.drew.x2 hk)))
              obtain ⟨ad4, ea4, hcell4⟩ := (Kd.reads_of_C (d := (0 : Int)) (h1 := fun _ => rfl) (HS.out w4 ((HST.out.2.more HB.out.st.2).more hU4))).at_ (j : Int) (by omega) (by omega)
              rw [Int.toNat_natCast, HXE.out, ← Option.some.inj ea4] at hcell4
              have n0 := blk_cell hp4 0
              simp only [List.getElem?_toArray, List.getElem?_cons_succ, List.getElem?_cons_zero] at n0
              clear hU4 ea4
              clear ho hb hg hat hn1 hp4 ht4 hr4 hc5 k2 m0 m1 m2 m3 m4 fm0 fm1 fm2 fm3 fm4 e0 e1 fe0 fe1
              refine hK.out _ _ ⟨n0, e2, hcell4⟩ (fun hHeld => ?_)
              clear hK K
              refine norm_ (a' := ?_) ?_ ?_
              rotate_left
              · show Act.put _ (some 109) _ = _
                simp only [Act.put, zla, zlb, zlc, i64_w, i32_w]
                rfl
              refine zq 19 (some 110) ?_
              refine zq 20 (some 111) ?_
              refine last_ (i := 21) (N := none) #[true, true, true, true, true, true, true, true, true, true, true, true, true, true, true, true, true, true, true, true, true, true] rfl rfl (by kernel_rfl) (by decide) (fun K hK => ?_)
              refine skip_ (w1 := ?_) (by rfl) rfl ?_ ?_
              rotate_left
              · go_simp
                rfl
              refine hK.out _ _ ?_
              clear hK K
              refine done_ (by kernel_rfl) ?_
              have hx := HO5.out.drew.loose2 (w4 := w4) (Y := fun k => (Value.slice B2 f5.loose.length d2).ownBlock = some k) ((Upd.refl _ _).grown HG.out (fun k hk => .inl hk)) (fun k _ hk => hk) HT4.out (fun f => { f with loose := f.loose ++ [x] }) (fun _ => rfl) rfl ⟨A5, _, c5⟩ HR4.out H4.out (fun k hk => by
                rcases HAT.out with h1 | ⟨b5, h1, h2⟩
                · exact .inl (h1 ▸ hk)
                · have e9 := h1.symm.trans hk
                  injection e9 with e9
                  exact .inr (e9 ▸ h2))
              rw [HFN.out] at hx
              have HD := Aside0.mk (show Lays w5 _ p (More X w w5) S nm data n (j + 1) from ⟨hlt, by
                rw [HTK.out, ← laid_snoc]
                exact RStep.trans HB.out.st (RStep.of_drew hx)⟩)
              clear hx
              go_wp2
              go_roundw
              case rel => exact ⟨j + 1, by simp, HD.out⟩
              case measure => simp [intOf]; omega
            · have hj : j = n := by have := hb.le; omega
              subst hj
              have HL := Aside0.mk (RStep.trans HST.out hb.st)
              clear hb
              go_wp2
              go_ret
              refine ⟨rfl, ?_⟩
              have hx := HL.out
              rw [← HFIN.out] at hx
              exact hx
        · rw [if_neg hy]
          have HPY0 := Aside0.mk (fun w2 (h1 : RefD w2 p (More X w w2) s1) => rpays_calls w2 p (More X w w2) s1 ((data.length : Int) + 1) h1 OK1.out (by omega))
          rw [show (s1.pays ((data.length : Int) + 1)).2 = false by simpa using hy] at HPY0
          have PN := Aside0.mk (pays_no hy)
          rw [show (s1.pays ((data.length : Int) + 1)).1 = s1 by rw [PN.out.2.2]] at HPY0
          obtain ⟨nL, hnL⟩ : ∃ nL : Nat, s1.left = nL := ⟨s1.left.toNat, by have := PN.out.1; omega⟩
          have HNL := Aside0.mk hnL
          have hnl2 : nL ≤ data.length := by have := PN.out.2.1; omega
          clear hnL
          clear hy
          go_enter Try.func38, Try.ntmps38
          go_wp2_with fail
          refine HM.out.mono ?_
          rintro e w1 ⟨rfl, h1⟩
          have H1 := Aside0.mk h1
          go_wp2_with fail
          refine (HFD.out w1 h1.1).mono ?_
          rintro e w2 ⟨r, rfl, rfl, hfd⟩
          obtain ⟨⟨av, rv, a, hR⟩, hU⟩ := h1
          unfold Found at hfd
          rw [HF.out] at hfd
          have hfd : r = -1 := hfd
          subst hfd
          have HR := Aside0.mk hR
          have hp := hR.head
          have hn := hR.files.len
          rw [show av.v = .slice av.A s1.all.length av.c by unfold Sl.v; rw [hn]] at hp
          rw [HNL.out] at hp
          have m0 := blk_cell hp 0
          have m1 := blk_cell hp 1
          have m2 := blk_cell hp 2
          have m3 := blk_cell hp 3
          have m4 := blk_cell hp 4
          have fm0 := blk_frozen hp 0
          have fm1 := blk_frozen hp 1
          have fm2 := blk_frozen hp 2
          have fm3 := blk_frozen hp 3
          have fm4 := blk_frozen hp 4
          simp only [List.getElem?_toArray, List.getElem?_cons_succ, List.getElem?_cons_zero] at m0 m1 m2 m3 m4
          clear hR hU hp hn
          go_wp2
          refine start_ (n := 27) (S := fun w' => True) (ds := []) #[false, false, false, false, false, false, false, false, false, false, false, false, false, false, false, false, false, false, false, false, false, false, false, false, false, false, false] (by kernel_rfl) rfl rfl trivial (fun hHeld => ?_)
          refine zq 0 (some 37) ?_
          refine zq 1 (some 38) ?_
          refine zq 2 (some 39) ?_
          refine pure_ (i := 3) (N := some 40) (v := undef) (a' := ?_) #[true, true, true, true, false, false, false, false, false, false, false, false, false, false, false, false, false, false, false, false, false, false, false, false, false, false, false] rfl rfl (by kernel_rfl) (fun _ _ _ h => h) (Or.inr ⟨by rfl, rfl⟩) ?_ ?_
          rotate_left
          · simp only [Act.put, zla, zlb, zlc, i64_w, i32_w]
            rfl
          refine pure_ (i := 4) (N := some 41) (v := undef) (a' := ?_) #[true, true, true, true, true, false, false, false, false, false, false, false, false, false, false, false, false, false, false, false, false, false, false, false, false, false, false] rfl rfl (by kernel_rfl) (fun _ _ _ h => h) (Or.inr ⟨by rfl, rfl⟩) ?_ ?_
          rotate_left
          · simp only [Act.put, zla, zlb, zlc, i64_w, i32_w]
            rfl
          refine pure_ (i := 5) (N := some 42) (v := undef) (a' := ?_) #[true, true, true, true, true, true, false, false, false, false, false, false, false, false, false, false, false, false, false, false, false, false, false, false, false, false, false] rfl rfl (by kernel_rfl) (fun _ _ _ h => h) (Or.inr ⟨by rfl, rfl⟩) ?_ ?_
          rotate_left
          · simp only [Act.put, zla, zlb, zlc, i64_w, i32_w]
            rfl
          refine pure_ (i := 6) (N := some 43) (v := undef) (a' := ?_) #[true, true, true, true, true, true, true, false, false, false, false, false, false, false, false, false, false, false, false, false, false, false, false, false, false, false, false] rfl rfl (by kernel_rfl) (fun _ _ _ h => h) (Or.inr ⟨by rfl, rfl⟩) ?_ ?_
          rotate_left
          · simp only [Act.put, zla, zlb, zlc, i64_w, i32_w]
            rfl
          refine pure_ (i := 7) (N := some 44) (v := undef) (a' := ?_) #[true, true, true, true, true, true, true, true, false, false, false, false, false, false, false, false, false, false, false, false, false, false, false, false, false, false, false] rfl rfl (by kernel_rfl) (fun _ _ _ h => h) (Or.inr ⟨by rfl, rfl⟩) ?_ ?_
          rotate_left
          · simp only [Act.put, zla, zlb, zlc, i64_w, i32_w]
            rfl
          refine pure_ (i := 8) (N := some 45) (v := undef) (a' := ?_) #[true, true, true, true, true, true, true, true, true, false, false, false, false, false, false, false, false, false, false, false, false, false, false, false, false, false, false] rfl rfl (by kernel_rfl) (fun _ _ _ h => h) (Or.inr ⟨by rfl, rfl⟩) ?_ ?_
          rotate_left
          · simp only [Act.put, zla, zlb, zlc, i64_w, i32_w]
            rfl
          refine pure_ (i := 9) (N := some 46) (v := undef) (a' := ?_) #[true, true, true, true, true, true, true, true, true, true, false, false, false, false, false, false, false, false, false, false, false, false, false, false, false, false, false] rfl rfl (by kernel_rfl) (fun _ _ _ h => h) (Or.inr ⟨by rfl, rfl⟩) ?_ ?_
          rotate_left
          · simp only [Act.put, zla, zlb, zlc, i64_w, i32_w]
            rfl
          refine pure_ (i := 10) (N := some 47) (v := undef) (a' := ?_) #[true, true, true, true, true, true, true, true, true, true, true, false, false, false, false, false, false, false, false, false, false, false, false, false, false, false, false] rfl rfl (by kernel_rfl) (fun _ _ _ h => h) (Or.inr ⟨by rfl, rfl⟩) ?_ ?_
          rotate_left
          · simp only [Act.put, zla, zlb, zlc, i64_w, i32_w]
            rfl
          refine pure_ (i := 11) (N := some 48) (v := undef) (a' := ?_) #[true, true, true, true, true, true, true, true, true, true, true, true, false, false, false, false, false, false, false, false, false, false, false, false, false, false, false] rfl rfl (by kernel_rfl) (fun _ _ _ h => h) (Or.inr ⟨by rfl, rfl⟩) ?_ ?_
          rotate_left
          · simp only [Act.put, zla, zlb, zlc, i64_w, i32_w]
            rfl
          refine pure_ (i := 12) (N := some 49) (v := undef) (a' := ?_) #[true, true, true, true, true, true, true, true, true, true, true, true, true, false, false, false, false, false, false, false, false, false, false, false, false, false, false] rfl rfl (by kernel_rfl) (fun _ _ _ h => h) (Or.inr ⟨by rfl, rfl⟩) ?_ ?_
          rotate_left
          · simp only [Act.put, zla, zlb, zlc, i64_w, i32_w]
            rfl
          refine pure_ (i := 13) (N := some 50) (v := undef) (a' := ?_) #[true, true, true, true, true, true, true, true, true, true, true, true, true, true, false, false, false, false, false, false, false, false, false, false, false, false, false] rfl rfl (by kernel_rfl) (fun _ _ _ h => h) (Or.inr ⟨by rfl, rfl⟩) ?_ ?_
          rotate_left
          · simp only [Act.put, zla, zlb, zlc, i64_w, i32_w]
            rfl
          refine pure_ (i := 14) (N := some 51) (v := undef) (a' := ?_) #[true, true, true, true, true, true, true, true, true, true, true, true, true, true, true, false, false, false, false, false, false, false, false, false, false, false, false] rfl rfl (by kernel_rfl) (fun _ _ _ h => h) (Or.inr ⟨by rfl, rfl⟩) ?_ ?_
          rotate_left
          · simp only [Act.put, zla, zlb, zlc, i64_w, i32_w]
            rfl
          refine pure_ (i := 15) (N := some 52) (v := undef) (a' := ?_) #[true, true, true, true, true, true, true, true, true, true, true, true, true, true, true, true, false, false, false, false, false, false, false, false, false, false, false] rfl rfl (by kernel_rfl) (fun _ _ _ h => h) (Or.inr ⟨by rfl, rfl⟩) ?_ ?_
          rotate_left
          · simp only [Act.put, zla, zlb, zlc, i64_w, i32_w]
            rfl
          refine pure_ (i := 16) (N := some 53) (v := undef) (a' := ?_) #[true, true, true, true, true, true, true, true, true, true, true, true, true, true, true, true, true, false, false, false, false, false, false, false, false, false, false] rfl rfl (by kernel_rfl) (fun _ _ _ h => h) (Or.inr ⟨by rfl, rfl⟩) ?_ ?_
          rotate_left
          · simp only [Act.put, zla, zlb, zlc, i64_w, i32_w]
            rfl
          refine pure_ (i := 17) (N := some 54) (v := undef) (a' := ?_) #[true, true, true, true, true, true, true, true, true, true, true, true, true, true, true, true, true, true, false, false, false, false, false, false, false, false, false] rfl rfl (by kernel_rfl) (fun _ _ _ h => h) (Or.inr ⟨by rfl, rfl⟩) ?_ ?_
          rotate_left
          · simp only [Act.put, zla, zlb, zlc, i64_w, i32_w]
            rfl
          refine pure_ (i := 18) (N := some 55) (v := undef) (a' := ?_) #[true, true, true, true, true, true, true, true, true, true, true, true, true, true, true, true, true, true, true, false, false, false, false, false, false, false, false] rfl rfl (by kernel_rfl) (fun _ _ _ h => h) (Or.inr ⟨by rfl, rfl⟩) ?_ ?_
          rotate_left
          · simp only [Act.put, zla, zlb, zlc, i64_w, i32_w]
            rfl
          refine pure_ (i := 19) (N := some 56) (v := undef) (a' := ?_) #[true, true, true, true, true, true, true, true, true, true, true, true, true, true, true, true, true, true, true, true, false, false, false, false, false, false, false] rfl rfl (by kernel_rfl) (fun _ _ _ h => h) (Or.inr ⟨by rfl, rfl⟩) ?_ ?_
          rotate_left
          · simp only [Act.put, zla, zlb, zlc, i64_w, i32_w]
            rfl
          refine pure_ (i := 20) (N := some 57) (v := undef) (a' := ?_) #[true, true, true, true, true, true, true, true, true, true, true, true, true, true, true, true, true, true, true, true, true, false, false, false, false, false, false] rfl rfl (by kernel_rfl) (fun _ _ _ h => h) (Or.inr ⟨by rfl, rfl⟩) ?_ ?_
          rotate_left
          · simp only [Act.put, zla, zlb, zlc, i64_w, i32_w]
            rfl
          refine pure_ (i := 21) (N := some 58) (v := undef) (a' := ?_) #[true, true, true, true, true, true, true, true, true, true, true, true, true, true, true, true, true, true, true, true, true, true, false, false, false, false, false] rfl rfl (by kernel_rfl) (fun _ _ _ h => h) (Or.inr ⟨by rfl, rfl⟩) ?_ ?_
          rotate_left
          · simp only [Act.put, zla, zlb, zlc, i64_w, i32_w]
            rfl
          refine pure_ (i := 22) (N := some 59) (v := undef) (a' := ?_) #[true, true, true, true, true, true, true, true, true, true, true, true, true, true, true, true, true, true, true, true, true, true, true, false, false, false, false] rfl rfl (by kernel_rfl) (fun _ _ _ h => h) (Or.inr ⟨by rfl, rfl⟩) ?_ ?_
          rotate_left
          · simp only [Act.put, zla, zlb, zlc, i64_w, i32_w]
            rfl
          refine pure_ (i := 23) (N := some 60) (v := undef) (a' := ?_) #[true, true, true, true, true, true, true, true, true, true, true, true, true, true, true, true, true, true, true, true, true, true, true, true, false, false, false] rfl rfl (by kernel_rfl) (fun _ _ _ h => h) (Or.inr ⟨by rfl, rfl⟩) ?_ ?_
          rotate_left
          · simp only [Act.put, zla, zlb, zlc, i64_w, i32_w]
            rfl
          refine pure_ (i := 24) (N := some 61) (v := undef) (a' := ?_) #[true, true, true, true, true, true, true, true, true, true, true, true, true, true, true, true, true, true, true, true, true, true, true, true, true, false, false] rfl rfl (by kernel_rfl) (fun _ _ _ h => h) (Or.inr ⟨by rfl, rfl⟩) ?_ ?_
          rotate_left
          · simp only [Act.put, zla, zlb, zlc, i64_w, i32_w]
            rfl
          refine pure_ (i := 25) (N := some 62) (v := undef) (a' := ?_) #[true, true, true, true, true, true, true, true, true, true, true, true, true, true, true, true, true, true, true, true, true, true, true, true, true, true, false] rfl rfl (by kernel_rfl) (fun _ _ _ h => h) (Or.inr ⟨by rfl, rfl⟩) ?_ ?_
          rotate_left
          · simp only [Act.put, zla, zlb, zlc, i64_w, i32_w]
            rfl
          refine zq 26 (some 63) ?_
          refine done_ (by kernel_rfl) ?_
          have H1d := Aside0.mk (RStep.then_below H1.out (show Below w2.heap.size w2 w2.drew from below_drew (Below.refl _ _)))
          go_wp2_with fail
          refine (HPY0.out w2.drew H1d.out.1).mono ?_
          rintro e w3 ⟨rfl, h3⟩
          have H3 := Aside0.mk (RStep.trans H1d.out h3)
          clear h3
          obtain ⟨S1, hS1⟩ : ∃ S1, S1 = s1 := ⟨_, rfl⟩
          have HS1 := Aside0.mk hS1
          rw [← hS1] at H3
          have HA2 := Aside0.mk (show S1.all = s1.all by rw [hS1])
          clear hS1 m0 m1 m2 m3 m4 fm0 fm1 fm2 fm3 fm4
          obtain ⟨n, hn⟩ : ∃ n : Nat, n = nL := ⟨_, rfl⟩
          have hnd : n ≤ data.length := by omega
          have HNN := Aside0.mk hn
          have hnm : nm ∉ namesOf S1.all := by rw [HA2.out]; exact find_none HF.out
          obtain ⟨av3, rv3, a3, hR3⟩ := H3.out.1
          have HR3 := Aside0.mk hR3
          have HNM := Aside0.mk hnm
          clear hR3 hnm
          go_wp2_with fail
          refine (rput_raw w3 p (More X w w3) S1 av3 rv3 a3 HR3.out (by rw [HA2.out]; exact hfew) ⟨nm, [], []⟩ HNM.out none 0 0 none 0 0).mono ?_
          rintro e w4 ⟨rfl, av4, g1, g2, g3, g4⟩
          have hR4 := rput_done HR3.out ⟨nm, [], []⟩ HNM.out Sl.nil Sl.nil g2 g3 g4 (Kd.R_nil _ _ _ _ _) (Kd.R_nil _ _ _ _ _) (fun k hk => by cases hk) (X' := More (More X w w3) w3 w4) (fun _ h => .inl h) (fun k hk => by cases hk) (fun k hk => by cases hk) (fun k hk => .inr ⟨g1 k hk, Kd.R_lt g2 k hk⟩) (bd_more HR3.out.bd g3.size)
          have H4 := Aside0.mk (RStep.trans H3.out ⟨⟨_, _, _, hR4⟩, g3.mono (fun k _ e => e ▸ HR3.out.xp)⟩)
          clear hR4 g1 g2 g3 g4
          obtain ⟨S, hS⟩ : ∃ S : St, S = { S1 with all := put ⟨nm, [], []⟩ S1.all } := ⟨_, rfl⟩
          rw [← hS] at H4
          have HSD := Aside0.mk hS
          clear hS
          obtain ⟨av5, rv5, a5, hR5⟩ := H4.out.1
          have HR5 := Aside0.mk hR5
          have HFS := Aside0.mk (show find S.all nm = some ⟨nm, [], []⟩ from find_of_mem (f := ⟨nm, [], []⟩) hR5.files.nd (by rw [HSD.out]; exact mem_put.2 (.inl rfl)))
          clear hR5
          go_wp2_with fail
          refine (rfind_ctx w4 p (More X w w4) S nm av5 rv5 a5 HR5.out (by rw [HSD.out]; show (put _ S1.all).length ≤ _; rw [(put_perm _ _).length_eq, List.length_cons, HA2.out]; omega)).mono ?_
          rintro e w5 ⟨r, rfl, rfl, hfd⟩
          obtain ⟨i, rfl, hi2, hfi2⟩ := find_idx hfd HFS.out
          have HST := H4
          have HN2 := Aside0.mk (show (S.all[i]).name = nm by rw [hfi2])
          have HSZ := Aside0.mk (show (S.all[i]).loose.length + data.length ≤ 65536 by rw [hfi2]; show 0 + data.length ≤ 65536; omega)
          have HFIN := Aside0.mk (show (s1.lay nm (data.take s1.left.toNat)).fall = ({ S with all := laid nm (data.take n) S.all } : St).fall from by rw [lay_none HF.out, HNN.out, HNL.out, Int.toNat_natCast, HSD.out, HS1.out]; rfl)
          clear hfd hfi2
          clear hc
          go_wp2
          go_loopw [12] (fun iv wr => LaysE w5 p (More X w w5) S nm data n iv wr) (fun iv _ => n - (intOf iv).toNat)
          case atStart => exact ⟨0, rfl, Nat.zero_le _, by rw [List.take_zero, laid_nil]; exact RStep.refl HST.out.1⟩
          case round =>
            obtain ⟨j, rfl, hb⟩ := hrel
            have HB := Aside0.mk hb
            by_cases hlt : j < n
            · obtain ⟨⟨av5, rv5, a5, hR5⟩, hU5⟩ := hb.st
              obtain ⟨hil, hfi⟩ := laid_at nm (data.take j) S.all i hi2 HN2.out
              obtain ⟨g5, cav5, B1, d1, B2, d2, ho⟩ := hR5.open_ i hil
              rw [show ({ S with all := laid nm (data.take j) S.all } : St).all[i] = { S.all[i] with loose := (S.all[i]).loose ++ data.take j } from hfi] at ho
              have hdat := HS.out wr (HST.out.2.more hU5)
              obtain ⟨adD, rfl, hcell⟩ := (Kd.reads_of_C (d := (0 : Int)) (h1 := fun _ => rfl) hdat).at_ (j : Int) (by omega) (by omega)
              rw [Int.toNat_natCast] at hcell
              have HTK := Aside0.mk (show data.take (j + 1) = data.take j ++ [rdOf (0 : Int) data (j : Int)] from by rw [take_snoc' data j (by omega)]; congr 2; unfold rdOf; rw [Int.toNat_natCast, List.getD_eq_getElem?_getD, List.getElem?_eq_getElem (by omega)]; rfl)
              have hfn : ({ S.all[i] with loose := (S.all[i]).loose ++ data.take j } : F).name = nm := HN2.out
              have hfz : ({ S.all[i] with loose := (S.all[i]).loose ++ data.take j } : F).loose.length ≤ 65536 := by have := HSZ.out; simp only [List.length_append, List.length_take]; omega
              generalize ({ S.all[i] with loose := (S.all[i]).loose ++ data.take j } : F) = f5 at *
              generalize hxe : rdOf (0 : Int) data (j : Int) = x at *
              have HXE := Aside0.mk hxe
              clear hxe
              have HO5 := Aside0.mk ho
              have HFN := Aside0.mk hfn
              have hp := ho.head
              dsimp only at hp
              have m0 := blk_cell hp 0
              have m1 := blk_cell hp 1
              have m2 := blk_cell hp 2
              have m3 := blk_cell hp 3
              have m4 := blk_cell hp 4
              have fm0 := blk_frozen hp 0
              have fm1 := blk_frozen hp 1
              have fm2 := blk_frozen hp 2
              have fm3 := blk_frozen hp 3
              have fm4 := blk_frozen hp 4
              simp only [List.getElem?_toArray, List.getElem?_cons_succ, List.getElem?_cons_zero] at m0 m1 m2 m3 m4
              have k2 := ho.k2
              have hne5 := ho.ne
              have hjd : j < data.length := by omega
              clear hb hR5 hU5 ho hdat hfi hfn hp
              go_wp2
              refine start_ (n := 22) (S := fun w' => w'.cell? ⟨p, 0, none⟩ = some (.slice (some ⟨g5, 0, none⟩) (laid nm (data.take j) S.all).length cav5) ∧ w'.cell? ⟨g5, i * 3 + 2, none⟩ = some (.slice B2 f5.loose.length d2) ∧ w'.cell? (adD.add j) = some (.int .u8 x)) (ds := [21]) #[false, false, false, false, false, false, false, false, false, false, false, false, false, false, false, false, false, false, false, false, false, false] (by kernel_rfl) rfl rfl ⟨m0, k2, hcell⟩ (fun hHeld => ?_)
              refine zq 0 (some 91) ?_
              refine zq 1 (some 92) ?_
              refine zq 2 (some 93) ?_
              refine zq 4 (some 95) ?_
              refine zq 5 (some 96) ?_
              refine zq 6 (some 97) ?_
              refine zq 7 (some 98) ?_
              refine zq 9 (some 100) ?_
              refine zq 13 (some 104) ?_
              refine zq 14 (some 105) ?_
              refine zq 15 (some 106) ?_
              refine zu 3 (some 94) hHeld ?_
              refine zu 8 (some 99) hHeld ?_
              refine zq 10 (some 101) ?_
              refine zq 11 (some 102) ?_
              refine zu 12 (some 103) hHeld ?_
              refine zu 16 (some 107) hHeld ?_
              refine one_ (i := 17) (N := some 108) #[true, true, true, true, true, true, true, true, true, true, true, true, true, true, true, true, true, true, false, false, false, false] rfl rfl (by kernel_rfl) (by decide) (fun K hK => ?_)
              refine value_ (w1 := ?_) (v := ?_) (by rfl) rfl ?_ ?_
              rotate_left 2
              · go_simp
                constructor
                · rfl
                · rfl
              refine hK.out _ _ ⟨pw_cell_below (below_alloc (Below.refl _ _) _) hHeld.1, pw_cell_below (below_alloc (Below.refl _ _) _) hHeld.2.1, pw_cell_below (below_alloc (Below.refl _ _) _) hHeld.2.2⟩ (fun hHeld => ?_)
              clear hK K
              refine norm_ (a' := ?_) ?_ ?_
              rotate_left
              · show Act.put _ (some 108) _ = _
                simp only [Act.put, zla, zlb, zlc, i64_w, i32_w]
                rfl
              refine one_ (i := 18) (N := some 109) #[true, true, true, true, true, true, true, true, true, true, true, true, true, true, true, true, true, true, true, false, false, false] rfl rfl (by kernel_rfl) (by decide) (fun K hK => ?_)
              refine Kd.R_append_step (Kd.int .u8) (w0 := wr.drew) (W := wr.drew) 0 (by rfl) (.tmp 103) (.tmp 108) 38 5 (.int .u8 0) 1 rfl Try.underlying38 PD.info5 rfl (by decide) (by decide) (.slice B2 f5.loose.length d2) f5.loose x [.int .u8 x] (fun _ => True) (fun _ => False) rfl rfl rfl (fun _ hk => hk.elim) (fun _ _ => trivial) HO5.out.drew.r2 (Below.refl _ _) (Nat.zero_le _) (by omega) ?_
              intro v1 w4 ho hb hg hat
              obtain ⟨A5, c5, rfl, hc5, _⟩ := Kd.R_reads ho
              generalize hn1 : (f5.loose ++ [x]).length = n1 at ho hat hc5 ⊢
              obtain ⟨hp4, ht4, hr4, e0, e1, e2, fe0, fe1, fe2⟩ := HO5.out.drew.grown1 true hg
              have H4 := Aside0.mk ho
              have HG := Aside0.mk hg
              have HAT := Aside0.mk hat
              have HT4 := Aside0.mk ht4
              have HR4 := Aside0.mk hr4
              have hU4 : Upd (More X w wr) wr w4 := ((Upd.refl _ wr).drew).grown hg (fun k hk => .inl ((More.trans HST.out.2.size HB.out.st.2.size k).1 (HO5.out.drew.x2 hk)))
              obtain ⟨ad4, ea4, hcell4⟩ := (Kd.reads_of_C (d := (0 : Int)) (h1 := fun _ => rfl) (HS.out w4 ((HST.out.2.more HB.out.st.2).more hU4))).at_ (j : Int) (by omega) (by omega)
              rw [Int.toNat_natCast, HXE.out, ← Option.some.inj ea4] at hcell4
              have n0 := blk_cell hp4 0
              simp only [List.getElem?_toArray, List.getElem?_cons_succ, List.getElem?_cons_zero] at n0
              clear hU4 ea4
              clear ho hb hg hat hn1 hp4 ht4 hr4 hc5 k2 m0 m1 m2 m3 m4 fm0 fm1 fm2 fm3 fm4 e0 e1 fe0 fe1
              refine hK.out _ _ ⟨n0, e2, hcell4⟩ (fun hHeld => ?_)
              clear hK K
              refine norm_ (a' := ?_) ?_ ?_
              rotate_left
              · show Act.put _ (some 109) _ = _
                simp only [Act.put, zla, zlb, zlc, i64_w, i32_w]
                rfl
              refine zq 19 (some 110) ?_
              refine zq 20 (some 111) ?_
              refine last_ (i := 21) (N := none) #[true, true, true, true, true, true, true, true, true, true, true, true, true, true, true, true, true, true, true, true, true, true] rfl rfl (by kernel_rfl) (by decide) (fun K hK => ?_)
              refine skip_ (w1 := ?_) (by rfl) rfl ?_ ?_
              rotate_left
              · go_simp
                rfl
              refine hK.out _ _ ?_
              clear hK K
              refine done_ (by kernel_rfl) ?_
              have hx := HO5.out.drew.loose2 (w4 := w4) (Y := fun k => (Value.slice B2 f5.loose.length d2).ownBlock = some k) ((Upd.refl _ _).grown HG.out (fun k hk => .inl hk)) (fun k _ hk => hk) HT4.out (fun f => { f with loose := f.loose ++ [x] }) (fun _ => rfl) rfl ⟨A5, _, c5⟩ HR4.out H4.out (fun k hk => by
                rcases HAT.out with h1 | ⟨b5, h1, h2⟩
                · exact .inl (h1 ▸ hk)
                · have e9 := h1.symm.trans hk
                  injection e9 with e9
                  exact .inr (e9 ▸ h2))
              rw [HFN.out] at hx
              have HD := Aside0.mk (show Lays w5 _ p (More X w w5) S nm data n (j + 1) from ⟨hlt, by
                rw [HTK.out, ← laid_snoc]
                exact RStep.trans HB.out.st (RStep.of_drew hx)⟩)
              clear hx
              go_wp2
              go_roundw
              case rel => exact ⟨j + 1, by simp, HD.out⟩
              case measure => simp [intOf]; omega
            · have hj : j = n := by have := hb.le; omega
              subst hj
              have HL := Aside0.mk (RStep.trans HST.out hb.st)
              clear hb
              go_wp2_with fail
              refine (rfall_calls wr p (More X w wr) _ HL.out.1).mono ?_
              rintro e w9 ⟨rfl, h9⟩
              have H9 := Aside0.mk (RStep.trans HL.out h9)
              clear h9
              go_wp2
              go_ret
              refine ⟨rfl, ?_⟩
              have hx := H9.out
              rw [← HFIN.out] at hx
              exact hx
    | some f =>
      have HF := Aside0.mk hf
      have hfl := OK1.out.small f (find_some hf).1
      have hsl : f.sure.length + f.loose.length ≤ 65536 := hfl
      by_cases hfull : s1.full nm data = true
      · rw [if_pos hfull]
        unfold St.full at hfull
        rw [hf] at hfull
        clear hf
        simp only [decide_eq_true_eq] at hfull
        have hfu : 65536 < f.sure.length + f.loose.length + data.length := hfull
        clear hfull hfl
        go_enter Try.func38, Try.ntmps38
        go_wp2_with fail
        refine HM.out.mono ?_
        rintro e w1 ⟨rfl, h1⟩
        have H1 := Aside0.mk h1
        go_wp2_with fail
        refine (HFD.out w1 h1.1).mono ?_
        rintro e w2 ⟨r, rfl, rfl, hfd⟩
        obtain ⟨⟨av, rv, a, hR⟩, hU⟩ := h1
        obtain ⟨i, rfl, hi, hfi⟩ := find_idx hfd HF.out
        obtain ⟨g, cav, A1, c1, A2, c2, ho⟩ := hR.open_ i hi
        rw [hfi] at ho
        have HO := Aside0.mk ho
        have HR := Aside0.mk hR
        have HFI := Aside0.mk hfi
        have HFD2 := Aside0.mk hfd
        have hp := ho.head
        have k0 := ho.k0
        have k1 := ho.k1
        have k2 := ho.k2
        have m0 := blk_cell hp 0
        have m1 := blk_cell hp 1
        have m2 := blk_cell hp 2
        have m3 := blk_cell hp 3
        have m4 := blk_cell hp 4
        have fm0 := blk_frozen hp 0
        have fm1 := blk_frozen hp 1
        have fm2 := blk_frozen hp 2
        have fm3 := blk_frozen hp 3
        have fm4 := blk_frozen hp 4
        simp only [List.getElem?_toArray, List.getElem?_cons_succ, List.getElem?_cons_zero] at m0 m1 m2 m3 m4
        clear hR hU hp ho hfi hfd
        have hw1 : wrap64 ((f.sure.length : Int) + f.loose.length) = (f.sure.length : Int) + f.loose.length := w64 (by omega) (by omega)
        have hw2 : wrap64 ((f.sure.length : Int) + f.loose.length + data.length) = (f.sure.length : Int) + f.loose.length + data.length := w64 (by omega) (by omega)
        have hd9 : decide ((65536 : Int) < (f.sure.length : Int) + f.loose.length + data.length) = true := by simp; omega
        go_wp2
        refine start_ (n := 27) (S := fun w' => w'.cell? ⟨p, 0, none⟩ = some (.slice (some ⟨g, 0, none⟩) s1.all.length cav) ∧ w'.cell? ⟨g, i * 3 + 1, none⟩ = some (.slice A1 f.sure.length c1) ∧ w'.cell? ⟨g, i * 3 + 2, none⟩ = some (.slice A2 f.loose.length c2)) (ds := []) #[false, false, false, false, false, false, false, false, false, false, false, false, false, false, false, false, false, false, false, false, false, false, false, false, false, false, false] (by kernel_rfl) rfl rfl ⟨m0, k1, k2⟩ (fun hHeld => ?_)
        refine zp 0 (some 37) ?_ rfl rfl (by kernel_rfl) (fun _ _ _ h => h) (by rfl) ?_ ?_ ?_ ?_ ?_
        rotate_left; · (intro w'; go_simp; with_reducible rfl)
        rotate_left 2; · (simp only [Act.put, zla, zlb, zlc, i64_w, i32_w, hw1, hw2, hd9]; rfl)
        refine zp 1 (some 38) ?_ rfl rfl (by kernel_rfl) (fun _ _ _ h => h) (by rfl) ?_ ?_ ?_ ?_ ?_
        rotate_left; · (intro w'; go_simp; with_reducible rfl)
        rotate_left 2; · (simp only [Act.put, zla, zlb, zlc, i64_w, i32_w, hw1, hw2, hd9]; rfl)
        refine zp 2 (some 39) ?_ rfl rfl (by kernel_rfl) (fun _ _ _ h => h) (by rfl) ?_ ?_ ?_ ?_ ?_
        rotate_left; · (intro w'; go_simp; with_reducible rfl)
        rotate_left 2; · (simp only [Act.put, zla, zlb, zlc, i64_w, i32_w, hw1, hw2, hd9]; rfl)
        refine zp 3 (some 40) ?_ rfl rfl (by kernel_rfl) (fun _ _ _ h => h) (by rfl) ?_ ?_ ?_ ?_ ?_
        rotate_left; · (intro w'; go_simp; with_reducible rfl)
        rotate_left 2; · (simp only [Act.put, zla, zlb, zlc, i64_w, i32_w, hw1, hw2, hd9]; rfl)
        refine zp 4 (some 41) ?_ rfl rfl (by kernel_rfl) (fun _ _ _ h => h) (by rfl) ?_ ?_ ?_ ?_ ?_
        rotate_left; · (intro w'; go_simp; with_reducible rfl)
        rotate_left 2; · (simp only [Act.put, zla, zlb, zlc, i64_w, i32_w, hw1, hw2, hd9]; rfl)
        refine zp 5 (some 42) ?_ rfl rfl (by kernel_rfl) (fun _ _ _ h => h) (by rfl) ?_ ?_ ?_ ?_ ?_
        rotate_left; · (intro w'; go_simp; with_reducible rfl)
        rotate_left 2; · (simp only [Act.put, zla, zlb, zlc, i64_w, i32_w, hw1, hw2, hd9]; rfl)
        refine zp 7 (some 44) ?_ rfl rfl (by kernel_rfl) (fun _ _ _ h => h) (by rfl) ?_ ?_ ?_ ?_ ?_
        rotate_left; · (intro w'; go_simp; with_reducible rfl)
        rotate_left 2; · (simp only [Act.put, zla, zlb, zlc, i64_w, i32_w, hw1, hw2, hd9]; rfl)
        refine zp 12 (some 49) ?_ rfl rfl (by kernel_rfl) (fun _ _ _ h => h) (by rfl) ?_ ?_ ?_ ?_ ?_
        rotate_left; · (intro w'; go_simp; with_reducible rfl)
        rotate_left 2; · (simp only [Act.put, zla, zlb, zlc, i64_w, i32_w, hw1, hw2, hd9]; rfl)
        refine zp 13 (some 50) ?_ rfl rfl (by kernel_rfl) (fun _ _ _ h => h) (by rfl) ?_ ?_ ?_ ?_ ?_
        rotate_left; · (intro w'; go_simp; with_reducible rfl)
        rotate_left 2; · (simp only [Act.put, zla, zlb, zlc, i64_w, i32_w, hw1, hw2, hd9]; rfl)
        refine zp 14 (some 51) ?_ rfl rfl (by kernel_rfl) (fun _ _ _ h => h) (by rfl) ?_ ?_ ?_ ?_ ?_
        rotate_left; · (intro w'; go_simp; with_reducible rfl)
        rotate_left 2; · (simp only [Act.put, zla, zlb, zlc, i64_w, i32_w, hw1, hw2, hd9]; rfl)
        refine zp 16 (some 53) ?_ rfl rfl (by kernel_rfl) (fun _ _ _ h => h) (by rfl) ?_ ?_ ?_ ?_ ?_
        rotate_left; · (intro w'; go_simp; with_reducible rfl)
        rotate_left 2; · (simp only [Act.put, zla, zlb, zlc, i64_w, i32_w, hw1, hw2, hd9]; rfl)
        refine zp 22 (some 59) ?_ rfl rfl (by kernel_rfl) (fun _ _ _ h => h) (by rfl) ?_ ?_ ?_ ?_ ?_
        rotate_left; · (intro w'; go_simp; with_reducible rfl)
        rotate_left 2; · (simp only [Act.put, zla, zlb, zlc, i64_w, i32_w, hw1, hw2, hd9]; rfl)
        refine zp 23 (some 60) ?_ rfl rfl (by kernel_rfl) (fun _ _ _ h => h) (by rfl) ?_ ?_ ?_ ?_ ?_
        rotate_left; · (intro w'; go_simp; with_reducible rfl)
        rotate_left 2; · (simp only [Act.put, zla, zlb, zlc, i64_w, i32_w, hw1, hw2, hd9]; rfl)
        refine zt 6 (some 43) ?_ rfl rfl (by kernel_rfl) (fun _ _ _ h => h) (by rfl) ?_ hHeld ?_ ?_ ?_ ?_
        rotate_left; · (rintro w' ⟨s0, s1, s2⟩; go_simp; with_reducible rfl)
        rotate_left 2; · (simp only [Act.put, zla, zlb, zlc, i64_w, i32_w, hw1, hw2, hd9]; rfl)
        refine zp 8 (some 45) ?_ rfl rfl (by kernel_rfl) (fun _ _ _ h => h) (by rfl) ?_ ?_ ?_ ?_ ?_
        rotate_left; · (intro w'; go_simp; with_reducible rfl)
        rotate_left 2; · (simp only [Act.put, zla, zlb, zlc, i64_w, i32_w, hw1, hw2, hd9]; rfl)
        refine zp 9 (some 46) ?_ rfl rfl (by kernel_rfl) (fun _ _ _ h => h) (by rfl) ?_ ?_ ?_ ?_ ?_
        rotate_left; · (intro w'; go_simp; with_reducible rfl)
        rotate_left 2; · (simp only [Act.put, zla, zlb, zlc, i64_w, i32_w, hw1, hw2, hd9]; rfl)
        refine zt 10 (some 47) ?_ rfl rfl (by kernel_rfl) (fun _ _ _ h => h) (by rfl) ?_ hHeld ?_ ?_ ?_ ?_
        rotate_left; · (rintro w' ⟨s0, s1, s2⟩; go_simp; with_reducible rfl)
        rotate_left 2; · (simp only [Act.put, zla, zlb, zlc, i64_w, i32_w, hw1, hw2, hd9]; rfl)
        refine zp 11 (some 48) ?_ rfl rfl (by kernel_rfl) (fun _ _ _ h => h) (by rfl) ?_ ?_ ?_ ?_ ?_
        rotate_left; · (intro w'; go_simp; with_reducible rfl)
        rotate_left 2; · (simp only [Act.put, zla, zlb, zlc, i64_w, i32_w, hw1, hw2, hd9]; rfl)
        refine zt 15 (some 52) ?_ rfl rfl (by kernel_rfl) (fun _ _ _ h => h) (by rfl) ?_ hHeld ?_ ?_ ?_ ?_
        rotate_left; · (rintro w' ⟨s0, s1, s2⟩; go_simp; with_reducible rfl)
        rotate_left 2; · (simp only [Act.put, zla, zlb, zlc, i64_w, i32_w, hw1, hw2, hd9]; rfl)
        refine zp 17 (some 54) ?_ rfl rfl (by kernel_rfl) (fun _ _ _ h => h) (by rfl) ?_ ?_ ?_ ?_ ?_
        rotate_left; · (intro w'; go_simp; with_reducible rfl)
        rotate_left 2; · (simp only [Act.put, zla, zlb, zlc, i64_w, i32_w, hw1, hw2, hd9]; rfl)
        refine zp 18 (some 55) ?_ rfl rfl (by kernel_rfl) (fun _ _ _ h => h) (by rfl) ?_ ?_ ?_ ?_ ?_
        rotate_left; · (intro w'; go_simp; with_reducible rfl)
        rotate_left 2; · (simp only [Act.put, zla, zlb, zlc, i64_w, i32_w, hw1, hw2, hd9]; rfl)
        refine zt 19 (some 56) ?_ rfl rfl (by kernel_rfl) (fun _ _ _ h => h) (by rfl) ?_ hHeld ?_ ?_ ?_ ?_
        rotate_left; · (rintro w' ⟨s0, s1, s2⟩; go_simp; with_reducible rfl)
        rotate_left 2; · (simp only [Act.put, zla, zlb, zlc, i64_w, i32_w, hw1, hw2, hd9]; rfl)
        refine zp 20 (some 57) ?_ rfl rfl (by kernel_rfl) (fun _ _ _ h => h) (by rfl) ?_ ?_ ?_ ?_ ?_
        rotate_left; · (intro w'; go_simp; with_reducible rfl)
        rotate_left 2; · (simp only [Act.put, zla, zlb, zlc, i64_w, i32_w, hw1, hw2, hd9]; rfl)
        refine zp 21 (some 58) ?_ rfl rfl (by kernel_rfl) (fun _ _ _ h => h) (by rfl) ?_ ?_ ?_ ?_ ?_
        rotate_left; · (intro w'; go_simp; with_reducible rfl)
        rotate_left 2; · (simp only [Act.put, zla, zlb, zlc, i64_w, i32_w, hw1, hw2, hd9]; rfl)
        refine zp 24 (some 61) ?_ rfl rfl (by kernel_rfl) (fun _ _ _ h => h) (by rfl) ?_ ?_ ?_ ?_ ?_
        rotate_left; · (intro w'; go_simp; with_reducible rfl)
        rotate_left 2; · (simp only [Act.put, zla, zlb, zlc, i64_w, i32_w, hw1, hw2, hd9]; rfl)
        refine zp 25 (some 62) ?_ rfl rfl (by kernel_rfl) (fun _ _ _ h => h) (by rfl) ?_ ?_ ?_ ?_ ?_
        rotate_left; · (intro w'; go_simp; with_reducible rfl)
        rotate_left 2; · (simp only [Act.put, zla, zlb, zlc, i64_w, i32_w, hw1, hw2, hd9]; rfl)
        refine zp 26 (some 63) ?_ rfl rfl (by kernel_rfl) (fun _ _ _ h => h) (by rfl) ?_ ?_ ?_ ?_ ?_
        rotate_left; · (intro w'; go_simp; with_reducible rfl)
        rotate_left 2; · (simp only [Act.put, zla, zlb, zlc, i64_w, i32_w, hw1, hw2, hd9]; rfl)
        refine done_ (by kernel_rfl) ?_
        go_wp2
        go_ret
        exact ⟨rfl, RStep.then_below H1.out (below_drew (Below.refl _ _))⟩
      · rw [if_neg hfull]
        unfold St.full at hfull
        rw [hf] at hfull
        clear hf
        simp only [decide_eq_true_eq] at hfull
        have hfu : ¬ 65536 < f.sure.length + f.loose.length + data.length := hfull
        clear hfull hfl
        by_cases hy : (s1.pays ((data.length : Int) + 1)).2 = true
        · rw [if_pos hy]
          have HPY0 := Aside0.mk (fun w2 (h1 : RefD w2 p (More X w w2) s1) => rpays_calls w2 p (More X w w2) s1 ((data.length : Int) + 1) h1 OK1.out (by omega))
          rw [hy] at HPY0
          clear hy
          go_enter Try.func38, Try.ntmps38
          go_wp2_with fail
          refine HM.out.mono ?_
          rintro e w1 ⟨rfl, h1⟩
          have H1 := Aside0.mk h1
          go_wp2_with fail
          refine (HFD.out w1 h1.1).mono ?_
          rintro e w2 ⟨r, rfl, rfl, hfd⟩
          obtain ⟨⟨av, rv, a, hR⟩, hU⟩ := h1
          obtain ⟨i, rfl, hi, hfi⟩ := find_idx hfd HF.out
          obtain ⟨g, cav, A1, c1, A2, c2, ho⟩ := hR.open_ i hi
          rw [hfi] at ho
          have HO := Aside0.mk ho
          have HR := Aside0.mk hR
          have HFI := Aside0.mk hfi
          have HFD2 := Aside0.mk hfd
          have hp := ho.head
          have k0 := ho.k0
          have k1 := ho.k1
          have k2 := ho.k2
          have m0 := blk_cell hp 0
          have m1 := blk_cell hp 1
          have m2 := blk_cell hp 2
          have m3 := blk_cell hp 3
          have m4 := blk_cell hp 4
          have fm0 := blk_frozen hp 0
          have fm1 := blk_frozen hp 1
          have fm2 := blk_frozen hp 2
          have fm3 := blk_frozen hp 3
          have fm4 := blk_frozen hp 4
          simp only [List.getElem?_toArray, List.getElem?_cons_succ, List.getElem?_cons_zero] at m0 m1 m2 m3 m4
          clear hR hU hp ho hfi hfd
          have hw1 : wrap64 ((f.sure.length : Int) + f.loose.length) = (f.sure.length : Int) + f.loose.length := w64 (by omega) (by omega)
          have hw2 : wrap64 ((f.sure.length : Int) + f.loose.length + data.length) = (f.sure.length : Int) + f.loose.length + data.length := w64 (by omega) (by omega)
          have hd9 : decide ((65536 : Int) < (f.sure.length : Int) + f.loose.length + data.length) = false := by simp; omega
          skip
          go_wp2
          refine start_ (n := 27) (S := fun w' => w'.cell? ⟨p, 0, none⟩ = some (.slice (some ⟨g, 0, none⟩) s1.all.length cav) ∧ w'.cell? ⟨g, i * 3 + 1, none⟩ = some (.slice A1 f.sure.length c1) ∧ w'.cell? ⟨g, i * 3 + 2, none⟩ = some (.slice A2 f.loose.length c2)) (ds := []) #[false, false, false, false, false, false, false, false, false, false, false, false, false, false, false, false, false, false, false, false, false, false, false, false, false, false, false] (by kernel_rfl) rfl rfl ⟨m0, k1, k2⟩ (fun hHeld => ?_)
          refine zp 0 (some 37) ?_ rfl rfl (by kernel_rfl) (fun _ _ _ h => h) (by rfl) ?_ ?_ ?_ ?_ ?_
          rotate_left; · (intro w'; go_simp; with_reducible rfl)
          rotate_left 2; · (simp only [Act.put, zla, zlb, zlc, i64_w, i32_w, hw1, hw2, hd9]; rfl)
          refine zp 1 (some 38) ?_ rfl rfl (by kernel_rfl) (fun _ _ _ h => h) (by rfl) ?_ ?_ ?_ ?_ ?_
          rotate_left; · (intro w'; go_simp; with_reducible rfl)
          rotate_left 2; · (simp only [Act.put, zla, zlb, zlc, i64_w, i32_w, hw1, hw2, hd9]; rfl)
          refine zp 2 (some 39) ?_ rfl rfl (by kernel_rfl) (fun _ _ _ h => h) (by rfl) ?_ ?_ ?_ ?_ ?_
          rotate_left; · (intro w'; go_simp; with_reducible rfl)
          rotate_left 2; · (simp only [Act.put, zla, zlb, zlc, i64_w, i32_w, hw1, hw2, hd9]; rfl)
          refine zp 3 (some 40) ?_ rfl rfl (by kernel_rfl) (fun _ _ _ h => h) (by rfl) ?_ ?_ ?_ ?_ ?_
          rotate_left; · (intro w'; go_simp; with_reducible rfl)
          rotate_left 2; · (simp only [Act.put, zla, zlb, zlc, i64_w, i32_w, hw1, hw2, hd9]; rfl)
          refine zp 4 (some 41) ?_ rfl rfl (by kernel_rfl) (fun _ _ _ h => h) (by rfl) ?_ ?_ ?_ ?_ ?_
          rotate_left; · (intro w'; go_simp; with_reducible rfl)
          rotate_left 2; · (simp only [Act.put, zla, zlb, zlc, i64_w, i32_w, hw1, hw2, hd9]; rfl)
          refine zp 5 (some 42) ?_ rfl rfl (by kernel_rfl) (fun _ _ _ h => h) (by rfl) ?_ ?_ ?_ ?_ ?_
          rotate_left; · (intro w'; go_simp; with_reducible rfl)
          rotate_left 2; · (simp only [Act.put, zla, zlb, zlc, i64_w, i32_w, hw1, hw2, hd9]; rfl)
          refine zp 7 (some 44) ?_ rfl rfl (by kernel_rfl) (fun _ _ _ h => h) (by rfl) ?_ ?_ ?_ ?_ ?_
          rotate_left; · (intro w'; go_simp; with_reducible rfl)
          rotate_left 2; · (simp only [Act.put, zla, zlb, zlc, i64_w, i32_w, hw1, hw2, hd9]; rfl)
          refine zp 12 (some 49) ?_ rfl rfl (by kernel_rfl) (fun _ _ _ h => h) (by rfl) ?_ ?_ ?_ ?_ ?_
          rotate_left; · (intro w'; go_simp; with_reducible rfl)
          rotate_left 2; · (simp only [Act.put, zla, zlb, zlc, i64_w, i32_w, hw1, hw2, hd9]; rfl)
          refine zp 13 (some 50) ?_ rfl rfl (by kernel_rfl) (fun _ _ _ h => h) (by rfl) ?_ ?_ ?_ ?_ ?_
          rotate_left; · (intro w'; go_simp; with_reducible rfl)
          rotate_left 2; · (simp only [Act.put, zla, zlb, zlc, i64_w, i32_w, hw1, hw2, hd9]; rfl)
          refine zp 14 (some 51) ?_ rfl rfl (by kernel_rfl) (fun _ _ _ h => h) (by rfl) ?_ ?_ ?_ ?_ ?_
          rotate_left; · (intro w'; go_simp; with_reducible rfl)
          rotate_left 2; · (simp only [Act.put, zla, zlb, zlc, i64_w, i32_w, hw1, hw2, hd9]; rfl)
          refine zp 16 (some 53) ?_ rfl rfl (by kernel_rfl) (fun _ _ _ h => h) (by rfl) ?_ ?_ ?_ ?_ ?_
          rotate_left; · (intro w'; go_simp; with_reducible rfl)
          rotate_left 2; · (simp only [Act.put, zla, zlb, zlc, i64_w, i32_w, hw1, hw2, hd9]; rfl)
          refine zp 22 (some 59) ?_ rfl rfl (by kernel_rfl) (fun _ _ _ h => h) (by rfl) ?_ ?_ ?_ ?_ ?_
          rotate_left; · (intro w'; go_simp; with_reducible rfl)
          rotate_left 2; · (simp only [Act.put, zla, zlb, zlc, i64_w, i32_w, hw1, hw2, hd9]; rfl)
          refine zp 23 (some 60) ?_ rfl rfl (by kernel_rfl) (fun _ _ _ h => h) (by rfl) ?_ ?_ ?_ ?_ ?_
          rotate_left; · (intro w'; go_simp; with_reducible rfl)
          rotate_left 2; · (simp only [Act.put, zla, zlb, zlc, i64_w, i32_w, hw1, hw2, hd9]; rfl)
          refine zt 6 (some 43) ?_ rfl rfl (by kernel_rfl) (fun _ _ _ h => h) (by rfl) ?_ hHeld ?_ ?_ ?_ ?_
          rotate_left; · (rintro w' ⟨s0, s1, s2⟩; go_simp; with_reducible rfl)
          rotate_left 2; · (simp only [Act.put, zla, zlb, zlc, i64_w, i32_w, hw1, hw2, hd9]; rfl)
          refine zp 8 (some 45) ?_ rfl rfl (by kernel_rfl) (fun _ _ _ h => h) (by rfl) ?_ ?_ ?_ ?_ ?_
          rotate_left; · (intro w'; go_simp; with_reducible rfl)
          rotate_left 2; · (simp only [Act.put, zla, zlb, zlc, i64_w, i32_w, hw1, hw2, hd9]; rfl)
          refine zp 9 (some 46) ?_ rfl rfl (by kernel_rfl) (fun _ _ _ h => h) (by rfl) ?_ ?_ ?_ ?_ ?_
          rotate_left; · (intro w'; go_simp; with_reducible rfl)
          rotate_left 2; · (simp only [Act.put, zla, zlb, zlc, i64_w, i32_w, hw1, hw2, hd9]; rfl)
          refine zt 10 (some 47) ?_ rfl rfl (by kernel_rfl) (fun _ _ _ h => h) (by rfl) ?_ hHeld ?_ ?_ ?_ ?_
          rotate_left; · (rintro w' ⟨s0, s1, s2⟩; go_simp; with_reducible rfl)
          rotate_left 2; · (simp only [Act.put, zla, zlb, zlc, i64_w, i32_w, hw1, hw2, hd9]; rfl)
          refine zp 11 (some 48) ?_ rfl rfl (by kernel_rfl) (fun _ _ _ h => h) (by rfl) ?_ ?_ ?_ ?_ ?_
          rotate_left; · (intro w'; go_simp; with_reducible rfl)
          rotate_left 2; · (simp only [Act.put, zla, zlb, zlc, i64_w, i32_w, hw1, hw2, hd9]; rfl)
          refine zt 15 (some 52) ?_ rfl rfl (by kernel_rfl) (fun _ _ _ h => h) (by rfl) ?_ hHeld ?_ ?_ ?_ ?_
          rotate_left; · (rintro w' ⟨s0, s1, s2⟩; go_simp; with_reducible rfl)
          rotate_left 2; · (simp only [Act.put, zla, zlb, zlc, i64_w, i32_w, hw1, hw2, hd9]; rfl)
          refine zp 17 (some 54) ?_ rfl rfl (by kernel_rfl) (fun _ _ _ h => h) (by rfl) ?_ ?_ ?_ ?_ ?_
          rotate_left; · (intro w'; go_simp; with_reducible rfl)
          rotate_left 2; · (simp only [Act.put, zla, zlb, zlc, i64_w, i32_w, hw1, hw2, hd9]; rfl)
          refine zp 18 (some 55) ?_ rfl rfl (by kernel_rfl) (fun _ _ _ h => h) (by rfl) ?_ ?_ ?_ ?_ ?_
          rotate_left; · (intro w'; go_simp; with_reducible rfl)
          rotate_left 2; · (simp only [Act.put, zla, zlb, zlc, i64_w, i32_w, hw1, hw2, hd9]; rfl)
          refine zt 19 (some 56) ?_ rfl rfl (by kernel_rfl) (fun _ _ _ h => h) (by rfl) ?_ hHeld ?_ ?_ ?_ ?_
          rotate_left; · (rintro w' ⟨s0, s1, s2⟩; go_simp; with_reducible rfl)
          rotate_left 2; · (simp only [Act.put, zla, zlb, zlc, i64_w, i32_w, hw1, hw2, hd9]; rfl)
          refine zp 20 (some 57) ?_ rfl rfl (by kernel_rfl) (fun _ _ _ h => h) (by rfl) ?_ ?_ ?_ ?_ ?_
          rotate_left; · (intro w'; go_simp; with_reducible rfl)
          rotate_left 2; · (simp only [Act.put, zla, zlb, zlc, i64_w, i32_w, hw1, hw2, hd9]; rfl)
          refine zp 21 (some 58) ?_ rfl rfl (by kernel_rfl) (fun _ _ _ h => h) (by rfl) ?_ ?_ ?_ ?_ ?_
          rotate_left; · (intro w'; go_simp; with_reducible rfl)
          rotate_left 2; · (simp only [Act.put, zla, zlb, zlc, i64_w, i32_w, hw1, hw2, hd9]; rfl)
          refine zp 24 (some 61) ?_ rfl rfl (by kernel_rfl) (fun _ _ _ h => h) (by rfl) ?_ ?_ ?_ ?_ ?_
          rotate_left; · (intro w'; go_simp; with_reducible rfl)
          rotate_left 2; · (simp only [Act.put, zla, zlb, zlc, i64_w, i32_w, hw1, hw2, hd9]; rfl)
          refine zp 25 (some 62) ?_ rfl rfl (by kernel_rfl) (fun _ _ _ h => h) (by rfl) ?_ ?_ ?_ ?_ ?_
          rotate_left; · (intro w'; go_simp; with_reducible rfl)
          rotate_left 2; · (simp only [Act.put, zla, zlb, zlc, i64_w, i32_w, hw1, hw2, hd9]; rfl)
          refine zp 26 (some 63) ?_ rfl rfl (by kernel_rfl) (fun _ _ _ h => h) (by rfl) ?_ ?_ ?_ ?_ ?_
          rotate_left; · (intro w'; go_simp; with_reducible rfl)
          rotate_left 2; · (simp only [Act.put, zla, zlb, zlc, i64_w, i32_w, hw1, hw2, hd9]; rfl)
          refine done_ (by kernel_rfl) ?_
          have H1d := Aside0.mk (RStep.then_below H1.out (show Below w2.heap.size w2 w2.drew from below_drew (Below.refl _ _)))
          go_wp2_with fail
          refine (HPY0.out w2.drew H1d.out.1).mono ?_
          rintro e w3 ⟨rfl, h3⟩
          have H3 := Aside0.mk (RStep.trans H1d.out h3)
          clear h3
          obtain ⟨S1, hS1⟩ : ∃ S1, S1 = (s1.pays ((data.length : Int) + 1)).1 := ⟨_, rfl⟩
          have HS1 := Aside0.mk hS1
          rw [← hS1] at H3
          have HA2 := Aside0.mk (show S1.all = s1.all by rw [hS1]; exact pays_all _ _)
          clear hS1 m0 m1 m2 m3 m4 fm0 fm1 fm2 fm3 fm4 k0 k1 k2
          obtain ⟨n, hn⟩ : ∃ n : Nat, n = data.length := ⟨_, rfl⟩
          have hnd : n ≤ data.length := by omega
          have HNN := Aside0.mk hn
          obtain ⟨S, hS⟩ : ∃ S, S = S1 := ⟨_, rfl⟩
          rw [← hS] at H3 HA2 HS1
          have HST := H3
          have hi2 : i < S.all.length := by rw [HA2.out]; exact hi
          have HN2 := Aside0.mk (show (S.all[i]).name = nm by simp only [HA2.out, HFI.out]; exact (find_some HF.out).2)
          have HSZ := Aside0.mk (show (S.all[i]).loose.length + data.length ≤ 65536 by simp only [HA2.out, HFI.out]; omega)
          have HFIN := Aside0.mk (show (s1.pays ((data.length : Int) + 1)).1.lay nm data = ({ S with all := laid nm (data.take n) S.all } : St) from by rw [HS1.out]; rw [lay_upd (show find (s1.pays ((data.length : Int) + 1)).1.all nm = some f by rw [pays_all]; exact HF.out), HNN.out, List.take_length]; rfl)
          skip
          clear hS
          skip
          skip
          clear hc
          go_wp2
          go_loopw [12] (fun iv wr => LaysE w3 p (More X w w3) S nm data n iv wr) (fun iv _ => n - (intOf iv).toNat)
          case atStart => exact ⟨0, rfl, Nat.zero_le _, by rw [List.take_zero, laid_nil]; exact RStep.refl HST.out.1⟩
          case round =>
            obtain ⟨j, rfl, hb⟩ := hrel
            have HB := Aside0.mk hb
            by_cases hlt : j < n
            · obtain ⟨⟨av5, rv5, a5, hR5⟩, hU5⟩ := hb.st
              obtain ⟨hil, hfi⟩ := laid_at nm (data.take j) S.all i hi2 HN2.out
              obtain ⟨g5, cav5, B1, d1, B2, d2, ho⟩ := hR5.open_ i hil
              rw [show ({ S with all := laid nm (data.take j) S.all } : St).all[i] = { S.all[i] with loose := (S.all[i]).loose ++ data.take j } from hfi] at ho
              have hdat := HS.out wr (HST.out.2.more hU5)
              obtain ⟨adD, rfl, hcell⟩ := (Kd.reads_of_C (d := (0 : Int)) (h1 := fun _ => rfl) hdat).at_ (j : Int) (by omega) (by omega)
              rw [Int.toNat_natCast] at hcell
              have HTK := Aside0.mk (show data.take (j + 1) = data.take j ++ [rdOf (0 : Int) data (j : Int)] from by rw [take_snoc' data j (by omega)]; congr 2; unfold rdOf; rw [Int.toNat_natCast, List.getD_eq_getElem?_getD, List.getElem?_eq_getElem (by omega)]; rfl)
              have hfn : ({ S.all[i] with loose := (S.all[i]).loose ++ data.take j } : F).name = nm := HN2.out
              have hfz : ({ S.all[i] with loose := (S.all[i]).loose ++ data.take j } : F).loose.length ≤ 65536 := by have := HSZ.out; simp only [List.length_append, List.length_take]; omega
              generalize ({ S.all[i] with loose := (S.all[i]).loose ++ data.take j } : F) = f5 at *
              generalize hxe : rdOf (0 : Int) data (j : Int) = x at *
              have HXE := Aside0.mk hxe
              clear hxe
              have HO5 := Aside0.mk ho
              have HFN := Aside0.mk hfn
              have hp := ho.head
              dsimp only at hp
              have m0 := blk_cell hp 0
              have m1 := blk_cell hp 1
              have m2 := blk_cell hp 2
              have m3 := blk_cell hp 3
              have m4 := blk_cell hp 4
              have fm0 := blk_frozen hp 0
              have fm1 := blk_frozen hp 1
              have fm2 := blk_frozen hp 2
              have fm3 := blk_frozen hp 3
              have fm4 := blk_frozen hp 4
              simp only [List.getElem?_toArray, List.getElem?_cons_succ, List.getElem?_cons_zero] at m0 m1 m2 m3 m4
              have k2 := ho.k2
              have hne5 := ho.ne
              have hjd : j < data.length := by omega
              clear hb hR5 hU5 ho hdat hfi hfn hp
              go_wp2
              refine start_ (n := 22) (S := fun w' => w'.cell? ⟨p, 0, none⟩ = some (.slice (some ⟨g5, 0, none⟩) (laid nm (data.take j) S.all).length cav5) ∧ w'.cell? ⟨g5, i * 3 + 2, none⟩ = some (.slice B2 f5.loose.length d2) ∧ w'.cell? (adD.add j) = some (.int .u8 x)) (ds := [21]) #[false, false, false, false, false, false, false, false, false, false, false, false, false, false, false, false, false, false, false, false, false, false] (by kernel_rfl) rfl rfl ⟨m0, k2, hcell⟩ (fun hHeld => ?_)
              refine zq 0 (some 91) ?_
              refine zq 1 (some 92) ?_
              refine zq 2 (some 93) ?_
              refine zq 4 (some 95) ?_
              refine zq 5 (some 96) ?_
              refine zq 6 (some 97) ?_
              refine zq 7 (some 98) ?_
              refine zq 9 (some 100) ?_
              refine zq 13 (some 104) ?_
              refine zq 14 (some 105) ?_
              refine zq 15 (some 106) ?_
              refine zu 3 (some 94) hHeld ?_
              refine zu 8 (some 99) hHeld ?_
              refine zq 10 (some 101) ?_
              refine zq 11 (some 102) ?_
              refine zu 12 (some 103) hHeld ?_
              refine zu 16 (some 107) hHeld ?_
              refine one_ (i := 17) (N := some 108) #[true, true, true, true, true, true, true, true, true, true, true, true, true, true, true, true, true, true, false, false, false, false] rfl rfl (by kernel_rfl) (by decide) (fun K hK => ?_)
              refine value_ (w1 := ?_) (v := ?_) (by rfl) rfl ?_ ?_
              rotate_left 2
              · go_simp
                constructor
                · rfl
                · rfl
              refine hK.out _ _ ⟨pw_cell_below (below_alloc (Below.refl _ _) _) hHeld.1, pw_cell_below (below_alloc (Below.refl _ _) _) hHeld.2.1, pw_cell_below (below_alloc (Below.refl _ _) _) hHeld.2.2⟩ (fun hHeld => ?_)
              clear hK K
              refine norm_ (a' := ?_) ?_ ?_
              rotate_left
              · show Act.put _ (some 108) _ = _
                simp only [Act.put, zla, zlb, zlc, i64_w, i32_w]
                rfl
              refine one_ (i := 18) (N := some 109) #[true, true, true, true, true, true, true, true, true, true, true, true, true, true, true, true, true, true, true, false, false, false] rfl rfl (by kernel_rfl) (by decide) (fun K hK => ?_)
              refine Kd.R_append_step (Kd.int .u8) (w0 := wr.drew) (W := wr.drew) 0 (by rfl) (.tmp 103) (.tmp 108) 38 5 (.int .u8 0) 1 rfl Try.underlying38 PD.info5 rfl (by decide) (by decide) (.slice B2 f5.loose.length d2) f5.loose x [.int .u8 x] (fun _ => True) (fun _ => False) rfl rfl rfl (fun _ hk => hk.elim) (fun _ _ => trivial) HO5.out.drew.r2 (Below.refl _ _) (Nat.zero_le _) (by omega) ?_
              intro v1 w4 ho hb hg hat
              obtain ⟨A5, c5, rfl, hc5, _⟩ := Kd.R_reads ho
              generalize hn1 : (f5.loose ++ [x]).length = n1 at ho hat hc5 ⊢
              obtain ⟨hp4, ht4, hr4, e0, e1, e2, fe0, fe1, fe2⟩ := HO5.out.drew.grown1 true hg
              have H4 := Aside0.mk ho
              have HG := Aside0.mk hg
              have HAT := Aside0.mk hat
              have HT4 := Aside0.mk ht4
              have HR4 := Aside0.mk hr4
              have hU4 : Upd (More X w wr) wr w4 := ((Upd.refl _ wr).drew).grown hg (fun k hk => .inl ((More.trans HST.out.2.size HB.out.st.2.size k).1 (HO5.out.drew.x2 hk)))
              obtain ⟨ad4, ea4, hcell4⟩ := (Kd.reads_of_C (d := (0 : Int)) (h1 := fun _ => rfl) (HS.out w4 ((HST.out.2.more HB.out.st.2).more hU4))).at_ (j : Int) (by omega) (by omega)
              rw [Int.toNat_natCast, HXE.out, ← Option.some.inj ea4] at hcell4
              have n0 := blk_cell hp4 0
              simp only [List.getElem?_toArray, List.getElem?_cons_succ, List.getElem?_cons_zero] at n0
              clear hU4 ea4
              clear ho hb hg hat hn1 hp4 ht4 hr4 hc5 k2 m0 m1 m2 m3 m4 fm0 fm1 fm2 fm3 fm4 e0 e1 fe0 fe1
              refine hK.out _ _ ⟨n0, e2, hcell4⟩ (fun hHeld => ?_)
              clear hK K
              refine norm_ (a' := ?_) ?_ ?_
              rotate_left
              · show Act.put _ (some 109) _ = _
                simp only [Act.put, zla, zlb, zlc, i64_w, i32_w]
                rfl
              refine zq 19 (some 110) ?_
              refine zq 20 (some 111) ?_
              refine last_ (i := 21) (N := none) #[true, true, true, true, true, true, true, true, true, true, true, true, true, true, true, true, true, true, true, true, true, true] rfl rfl (by kernel_rfl) (by decide) (fun K hK => ?_)
              refine skip_ (w1 := ?_) (by rfl) rfl ?_ ?_
              rotate_left
              · go_simp
                rfl
              refine hK.out _ _ ?_
              clear hK K
              refine done_ (by kernel_rfl) ?_
              have hx := HO5.out.drew.loose2 (w4 := w4) (Y := fun k => (Value.slice B2 f5.loose.length d2).ownBlock = some k) ((Upd.refl _ _).grown HG.out (fun k hk => .inl hk)) (fun k _ hk => hk) HT4.out (fun f => { f with loose := f.loose ++ [x] }) (fun _ => rfl) rfl ⟨A5, _, c5⟩ HR4.out H4.out (fun k hk => by
                rcases HAT.out with h1 | ⟨b5, h1, h2⟩
                · exact .inl (h1 ▸ hk)
                · have e9 := h1.symm.trans hk
                  injection e9 with e9
                  exact .inr (e9 ▸ h2))
              rw [HFN.out] at hx
              have HD := Aside0.mk (show Lays w3 _ p (More X w w3) S nm data n (j + 1) from ⟨hlt, by
                rw [HTK.out, ← laid_snoc]
                exact RStep.trans HB.out.st (RStep.of_drew hx)⟩)
              clear hx
              go_wp2
              go_roundw
              case rel => exact ⟨j + 1, by simp, HD.out⟩
              case measure => simp [intOf]; omega
            · have hj : j = n := by have := hb.le; omega
              subst hj
              have HL := Aside0.mk (RStep.trans HST.out hb.st)
              clear hb
              go_wp2
              go_ret
              refine ⟨rfl, ?_⟩
              have hx := HL.out
              rw [← HFIN.out] at hx
              exact hx
        · rw [if_neg hy]
          have HPY0 := Aside0.mk (fun w2 (h1 : RefD w2 p (More X w w2) s1) => rpays_calls w2 p (More X w w2) s1 ((data.length : Int) + 1) h1 OK1.out (by omega))
          rw [show (s1.pays ((data.length : Int) + 1)).2 = false by simpa using hy] at HPY0
          have PN := Aside0.mk (pays_no hy)
          rw [show (s1.pays ((data.length : Int) + 1)).1 = s1 by rw [PN.out.2.2]] at HPY0
          obtain ⟨nL, hnL⟩ : ∃ nL : Nat, s1.left = nL := ⟨s1.left.toNat, by have := PN.out.1; omega⟩
          have HNL := Aside0.mk hnL
          have hnl2 : nL ≤ data.length := by have := PN.out.2.1; omega
          clear hnL
          clear hy
          go_enter Try.func38, Try.ntmps38
          go_wp2_with fail
          refine HM.out.mono ?_
          rintro e w1 ⟨rfl, h1⟩
          have H1 := Aside0.mk h1
          go_wp2_with fail
          refine (HFD.out w1 h1.1).mono ?_
          rintro e w2 ⟨r, rfl, rfl, hfd⟩
          obtain ⟨⟨av, rv, a, hR⟩, hU⟩ := h1
          obtain ⟨i, rfl, hi, hfi⟩ := find_idx hfd HF.out
          obtain ⟨g, cav, A1, c1, A2, c2, ho⟩ := hR.open_ i hi
          rw [hfi] at ho
          have HO := Aside0.mk ho
          have HR := Aside0.mk hR
          have HFI := Aside0.mk hfi
          have HFD2 := Aside0.mk hfd
          have hp := ho.head
          have k0 := ho.k0
          have k1 := ho.k1
          have k2 := ho.k2
          rw [HNL.out] at hp
          have m0 := blk_cell hp 0
          have m1 := blk_cell hp 1
          have m2 := blk_cell hp 2
          have m3 := blk_cell hp 3
          have m4 := blk_cell hp 4
          have fm0 := blk_frozen hp 0
          have fm1 := blk_frozen hp 1
          have fm2 := blk_frozen hp 2
          have fm3 := blk_frozen hp 3
          have fm4 := blk_frozen hp 4
          simp only [List.getElem?_toArray, List.getElem?_cons_succ, List.getElem?_cons_zero] at m0 m1 m2 m3 m4
          clear hR hU hp ho hfi hfd
          have hw1 : wrap64 ((f.sure.length : Int) + f.loose.length) = (f.sure.length : Int) + f.loose.length := w64 (by omega) (by omega)
          have hw2 : wrap64 ((f.sure.length : Int) + f.loose.length + data.length) = (f.sure.length : Int) + f.loose.length + data.length := w64 (by omega) (by omega)
          have hd9 : decide ((65536 : Int) < (f.sure.length : Int) + f.loose.length + data.length) = false := by simp; omega
          skip
          go_wp2
          refine start_ (n := 27) (S := fun w' => w'.cell? ⟨p, 0, none⟩ = some (.slice (some ⟨g, 0, none⟩) s1.all.length cav) ∧ w'.cell? ⟨g, i * 3 + 1, none⟩ = some (.slice A1 f.sure.length c1) ∧ w'.cell? ⟨g, i * 3 + 2, none⟩ = some (.slice A2 f.loose.length c2)) (ds := []) #[false, false, false, false, false, false, false, false, false, false, false, false, false, false, false, false, false, false, false, false, false, false, false, false, false, false, false] (by kernel_rfl) rfl rfl ⟨m0, k1, k2⟩ (fun hHeld => ?_)
          refine zp 0 (some 37) ?_ rfl rfl (by kernel_rfl) (fun _ _ _ h => h) (by rfl) ?_ ?_ ?_ ?_ ?_
          rotate_left; · (intro w'; go_simp; with_reducible rfl)
          rotate_left 2; · (simp only [Act.put, zla, zlb, zlc, i64_w, i32_w, hw1, hw2, hd9]; rfl)
          refine zp 1 (some 38) ?_ rfl rfl (by kernel_rfl) (fun _ _ _ h => h) (by rfl) ?_ ?_ ?_ ?_ ?_
          rotate_left; · (intro w'; go_simp; with_reducible rfl)
          rotate_left 2; · (simp only [Act.put, zla, zlb, zlc, i64_w, i32_w, hw1, hw2, hd9]; rfl)
          refine zp 2 (some 39) ?_ rfl rfl (by kernel_rfl) (fun _ _ _ h => h) (by rfl) ?_ ?_ ?_ ?_ ?_
          rotate_left; · (intro w'; go_simp; with_reducible rfl)
          rotate_left 2; · (simp only [Act.put, zla, zlb, zlc, i64_w, i32_w, hw1, hw2, hd9]; rfl)
          refine zp 3 (some 40) ?_ rfl rfl (by kernel_rfl) (fun _ _ _ h => h) (by rfl) ?_ ?_ ?_ ?_ ?_
          rotate_left; · (intro w'; go_simp; with_reducible rfl)
          rotate_left 2; · (simp only [Act.put, zla, zlb, zlc, i64_w, i32_w, hw1, hw2, hd9]; rfl)
          refine zp 4 (some 41) ?_ rfl rfl (by kernel_rfl) (fun _ _ _ h => h) (by rfl) ?_ ?_ ?_ ?_ ?_
          rotate_left; · (intro w'; go_simp; with_reducible rfl)
          rotate_left 2; · (simp only [Act.put, zla, zlb, zlc, i64_w, i32_w, hw1, hw2, hd9]; rfl)
          refine zp 5 (some 42) ?_ rfl rfl (by kernel_rfl) (fun _ _ _ h => h) (by rfl) ?_ ?_ ?_ ?_ ?_
          rotate_left; · (intro w'; go_simp; with_reducible rfl)
          rotate_left 2; · (simp only [Act.put, zla, zlb, zlc, i64_w, i32_w, hw1, hw2, hd9]; rfl)
          refine zp 7 (some 44) ?_ rfl rfl (by kernel_rfl) (fun _ _ _ h => h) (by rfl) ?_ ?_ ?_ ?_ ?_
          rotate_left; · (intro w'; go_simp; with_reducible rfl)
          rotate_left 2; · (simp only [Act.put, zla, zlb, zlc, i64_w, i32_w, hw1, hw2, hd9]; rfl)
          refine zp 12 (some 49) ?_ rfl rfl (by kernel_rfl) (fun _ _ _ h => h) (by rfl) ?_ ?_ ?_ ?_ ?_
          rotate_left; · (intro w'; go_simp; with_reducible rfl)
          rotate_left 2; · (simp only [Act.put, zla, zlb, zlc, i64_w, i32_w, hw1, hw2, hd9]; rfl)
          refine zp 13 (some 50) ?_ rfl rfl (by kernel_rfl) (fun _ _ _ h => h) (by rfl) ?_ ?_ ?_ ?_ ?_
          rotate_left; · (intro w'; go_simp; with_reducible rfl)
          rotate_left 2; · (simp only [Act.put, zla, zlb, zlc, i64_w, i32_w, hw1, hw2, hd9]; rfl)
          refine zp 14 (some 51) ?_ rfl rfl (by kernel_rfl) (fun _ _ _ h => h) (by rfl) ?_ ?_ ?_ ?_ ?_
          rotate_left; · (intro w'; go_simp; with_reducible rfl)
          rotate_left 2; · (simp only [Act.put, zla, zlb, zlc, i64_w, i32_w, hw1, hw2, hd9]; rfl)
          refine zp 16 (some 53) ?_ rfl rfl (by kernel_rfl) (fun _ _ _ h => h) (by rfl) ?_ ?_ ?_ ?_ ?_
          rotate_left; · (intro w'; go_simp; with_reducible rfl)
          rotate_left 2; · (simp only [Act.put, zla, zlb, zlc, i64_w, i32_w, hw1, hw2, hd9]; rfl)
          refine zp 22 (some 59) ?_ rfl rfl (by kernel_rfl) (fun _ _ _ h => h) (by rfl) ?_ ?_ ?_ ?_ ?_
          rotate_left; · (intro w'; go_simp; with_reducible rfl)
          rotate_left 2; · (simp only [Act.put, zla, zlb, zlc, i64_w, i32_w, hw1, hw2, hd9]; rfl)
          refine zp 23 (some 60) ?_ rfl rfl (by kernel_rfl) (fun _ _ _ h => h) (by rfl) ?_ ?_ ?_ ?_ ?_
          rotate_left; · (intro w'; go_simp; with_reducible rfl)
          rotate_left 2; · (simp only [Act.put, zla, zlb, zlc, i64_w, i32_w, hw1, hw2, hd9]; rfl)
          refine zt 6 (some 43) ?_ rfl rfl (by kernel_rfl) (fun _ _ _ h => h) (by rfl) ?_ hHeld ?_ ?_ ?_ ?_
          rotate_left; · (rintro w' ⟨s0, s1, s2⟩; go_simp; with_reducible rfl)
          rotate_left 2; · (simp only [Act.put, zla, zlb, zlc, i64_w, i32_w, hw1, hw2, hd9]; rfl)
          refine zp 8 (some 45) ?_ rfl rfl (by kernel_rfl) (fun _ _ _ h => h) (by rfl) ?_ ?_ ?_ ?_ ?_
          rotate_left; · (intro w'; go_simp; with_reducible rfl)
          rotate_left 2; · (simp only [Act.put, zla, zlb, zlc, i64_w, i32_w, hw1, hw2, hd9]; rfl)
          refine zp 9 (some 46) ?_ rfl rfl (by kernel_rfl) (fun _ _ _ h => h) (by rfl) ?_ ?_ ?_ ?_ ?_
          rotate_left; · (intro w'; go_simp; with_reducible rfl)
          rotate_left 2; · (simp only [Act.put, zla, zlb, zlc, i64_w, i32_w, hw1, hw2, hd9]; rfl)
          refine zt 10 (some 47) ?_ rfl rfl (by kernel_rfl) (fun _ _ _ h => h) (by rfl) ?_ hHeld ?_ ?_ ?_ ?_
          rotate_left; · (rintro w' ⟨s0, s1, s2⟩; go_simp; with_reducible rfl)
          rotate_left 2; · (simp only [Act.put, zla, zlb, zlc, i64_w, i32_w, hw1, hw2, hd9]; rfl)
          refine zp 11 (some 48) ?_ rfl rfl (by kernel_rfl) (fun _ _ _ h => h) (by rfl) ?_ ?_ ?_ ?_ ?_
          rotate_left; · (intro w'; go_simp; with_reducible rfl)
          rotate_left 2; · (simp only [Act.put, zla, zlb, zlc, i64_w, i32_w, hw1, hw2, hd9]; rfl)
          refine zt 15 (some 52) ?_ rfl rfl (by kernel_rfl) (fun _ _ _ h => h) (by rfl) ?_ hHeld ?_ ?_ ?_ ?_
          rotate_left; · (rintro w' ⟨s0, s1, s2⟩; go_simp; with_reducible rfl)
          rotate_left 2; · (simp only [Act.put, zla, zlb, zlc, i64_w, i32_w, hw1, hw2, hd9]; rfl)
          refine zp 17 (some 54) ?_ rfl rfl (by kernel_rfl) (fun _ _ _ h => h) (by rfl) ?_ ?_ ?_ ?_ ?_
          rotate_left; · (intro w'; go_simp; with_reducible rfl)
          rotate_left 2; · (simp only [Act.put, zla, zlb, zlc, i64_w, i32_w, hw1, hw2, hd9]; rfl)
          refine zp 18 (some 55) ?_ rfl rfl (by kernel_rfl) (fun _ _ _ h => h) (by rfl) ?_ ?_ ?_ ?_ ?_
          rotate_left; · (intro w'; go_simp; with_reducible rfl)
          rotate_left 2; · (simp only [Act.put, zla, zlb, zlc, i64_w, i32_w, hw1, hw2, hd9]; rfl)
          refine zt 19 (some 56) ?_ rfl rfl (by kernel_rfl) (fun _ _ _ h => h) (by rfl) ?_ hHeld ?_ ?_ ?_ ?_
          rotate_left; · (rintro w' ⟨s0, s1, s2⟩; go_simp; with_reducible rfl)
          rotate_left 2; · (simp only [Act.put, zla, zlb, zlc, i64_w, i32_w, hw1, hw2, hd9]; rfl)
          refine zp 20 (some 57) ?_ rfl rfl (by kernel_rfl) (fun _ _ _ h => h) (by rfl) ?_ ?_ ?_ ?_ ?_
          rotate_left; · (intro w'; go_simp; with_reducible rfl)
          rotate_left 2; · (simp only [Act.put, zla, zlb, zlc, i64_w, i32_w, hw1, hw2, hd9]; rfl)
          refine zp 21 (some 58) ?_ rfl rfl (by kernel_rfl) (fun _ _ _ h => h) (by rfl) ?_ ?_ ?_ ?_ ?_
          rotate_left; · (intro w'; go_simp; with_reducible rfl)
          rotate_left 2; · (simp only [Act.put, zla, zlb, zlc, i64_w, i32_w, hw1, hw2, hd9]; rfl)
          refine zp 24 (some 61) ?_ rfl rfl (by kernel_rfl) (fun _ _ _ h => h) (by rfl) ?_ ?_ ?_ ?_ ?_
          rotate_left; · (intro w'; go_simp; with_reducible rfl)
          rotate_left 2; · (simp only [Act.put, zla, zlb, zlc, i64_w, i32_w, hw1, hw2, hd9]; rfl)
          refine zp 25 (some 62) ?_ rfl rfl (by kernel_rfl) (fun _ _ _ h => h) (by rfl) ?_ ?_ ?_ ?_ ?_
          rotate_left; · (intro w'; go_simp; with_reducible rfl)
          rotate_left 2; · (simp only [Act.put, zla, zlb, zlc, i64_w, i32_w, hw1, hw2, hd9]; rfl)
          refine zp 26 (some 63) ?_ rfl rfl (by kernel_rfl) (fun _ _ _ h => h) (by rfl) ?_ ?_ ?_ ?_ ?_
          rotate_left; · (intro w'; go_simp; with_reducible rfl)
          rotate_left 2; · (simp only [Act.put, zla, zlb, zlc, i64_w, i32_w, hw1, hw2, hd9]; rfl)
          refine done_ (by kernel_rfl) ?_
          have H1d := Aside0.mk (RStep.then_below H1.out (show Below w2.heap.size w2 w2.drew from below_drew (Below.refl _ _)))
          go_wp2_with fail
          refine (HPY0.out w2.drew H1d.out.1).mono ?_
          rintro e w3 ⟨rfl, h3⟩
          have H3 := Aside0.mk (RStep.trans H1d.out h3)
          clear h3
          obtain ⟨S1, hS1⟩ : ∃ S1, S1 = s1 := ⟨_, rfl⟩
          have HS1 := Aside0.mk hS1
          rw [← hS1] at H3
          have HA2 := Aside0.mk (show S1.all = s1.all by rw [hS1])
          clear hS1 m0 m1 m2 m3 m4 fm0 fm1 fm2 fm3 fm4 k0 k1 k2
          obtain ⟨n, hn⟩ : ∃ n : Nat, n = nL := ⟨_, rfl⟩
          have hnd : n ≤ data.length := by omega
          have HNN := Aside0.mk hn
          obtain ⟨S, hS⟩ : ∃ S, S = S1 := ⟨_, rfl⟩
          rw [← hS] at H3 HA2 HS1
          have HST := H3
          have hi2 : i < S.all.length := by rw [HA2.out]; exact hi
          have HN2 := Aside0.mk (show (S.all[i]).name = nm by simp only [HA2.out, HFI.out]; exact (find_some HF.out).2)
          have HSZ := Aside0.mk (show (S.all[i]).loose.length + data.length ≤ 65536 by simp only [HA2.out, HFI.out]; omega)
          have HFIN := Aside0.mk (show (s1.lay nm (data.take s1.left.toNat)).fall = ({ S with all := laid nm (data.take n) S.all } : St).fall from by rw [HS1.out]; rw [lay_upd HF.out, HNN.out, HNL.out, Int.toNat_natCast]; rfl)
          skip
          clear hS
          skip
          skip
          clear hc
          go_wp2
          go_loopw [12] (fun iv wr => LaysE w3 p (More X w w3) S nm data n iv wr) (fun iv _ => n - (intOf iv).toNat)
          case atStart => exact ⟨0, rfl, Nat.zero_le _, by rw [List.take_zero, laid_nil]; exact RStep.refl HST.out.1⟩
          case round =>
            obtain ⟨j, rfl, hb⟩ := hrel
            have HB := Aside0.mk hb
            by_cases hlt : j < n
            · obtain ⟨⟨av5, rv5, a5, hR5⟩, hU5⟩ := hb.st
              obtain ⟨hil, hfi⟩ := laid_at nm (data.take j) S.all i hi2 HN2.out
              obtain ⟨g5, cav5, B1, d1, B2, d2, ho⟩ := hR5.open_ i hil
              rw [show ({ S with all := laid nm (data.take j) S.all } : St).all[i] = { S.all[i] with loose := (S.all[i]).loose ++ data.take j } from hfi] at ho
              have hdat := HS.out wr (HST.out.2.more hU5)
              obtain ⟨adD, rfl, hcell⟩ := (Kd.reads_of_C (d := (0 : Int)) (h1 := fun _ => rfl) hdat).at_ (j : Int) (by omega) (by omega)
              rw [Int.toNat_natCast] at hcell
              have HTK := Aside0.mk (show data.take (j + 1) = data.take j ++ [rdOf (0 : Int) data (j : Int)] from by rw [take_snoc' data j (by omega)]; congr 2; unfold rdOf; rw [Int.toNat_natCast, List.getD_eq_getElem?_getD, List.getElem?_eq_getElem (by omega)]; rfl)
              have hfn : ({ S.all[i] with loose := (S.all[i]).loose ++ data.take j } : F).name = nm := HN2.out
              have hfz : ({ S.all[i] with loose := (S.all[i]).loose ++ data.take j } : F).loose.length ≤ 65536 := by have := HSZ.out; simp only [List.length_append, List.length_take]; omega
              generalize ({ S.all[i] with loose := (S.all[i]).loose ++ data.take j } : F) = f5 at *
              generalize hxe : rdOf (0 : Int) data (j : Int) = x at *
              have HXE := Aside0.mk hxe
              clear hxe
              have HO5 := Aside0.mk ho
              have HFN := Aside0.mk hfn
              have hp := ho.head
              dsimp only at hp
              have m0 := blk_cell hp 0
              have m1 := blk_cell hp 1
              have m2 := blk_cell hp 2
              have m3 := blk_cell hp 3
              have m4 := blk_cell hp 4
              have fm0 := blk_frozen hp 0
              have fm1 := blk_frozen hp 1
              have fm2 := blk_frozen hp 2
              have fm3 := blk_frozen hp 3
              have fm4 := blk_frozen hp 4
              simp only [List.getElem?_toArray, List.getElem?_cons_succ, List.getElem?_cons_zero] at m0 m1 m2 m3 m4
              have k2 := ho.k2
              have hne5 := ho.ne
              have hjd : j < data.length := by omega
              clear hb hR5 hU5 ho hdat hfi hfn hp
              go_wp2
              refine start_ (n := 22) (S := fun w' => w'.cell? ⟨p, 0, none⟩ = some (.slice (some ⟨g5, 0, none⟩) (laid nm (data.take j) S.all).length cav5) ∧ w'.cell? ⟨g5, i * 3 + 2, none⟩ = some (.slice B2 f5.loose.length d2) ∧ w'.cell? (adD.add j) = some (.int .u8 x)) (ds := [21]) #[false, false, false, false, false, false, false, false, false, false, false, false, false, false, false, false, false, false, false, false, false, false] (by kernel_rfl) rfl rfl ⟨m0, k2, hcell⟩ (fun hHeld => ?_)
              refine zq 0 (some 91) ?_
              refine zq 1 (some 92) ?_
              refine zq 2 (some 93) ?_
              refine zq 4 (some 95) ?_
              refine zq 5 (some 96) ?_
              refine zq 6 (some 97) ?_
              refine zq 7 (some 98) ?_
              refine zq 9 (some 100) ?_
              refine zq 13 (some 104) ?_
              refine zq 14 (some 105) ?_
              refine zq 15 (some 106) ?_
              refine zu 3 (some 94) hHeld ?_
              refine zu 8 (some 99) hHeld ?_
              refine zq 10 (some 101) ?_
              refine zq 11 (some 102) ?_
              refine zu 12 (some 103) hHeld ?_
              refine zu 16 (some 107) hHeld ?_
              refine one_ (i := 17) (N := some 108) #[true, true, true, true, true, true, true, true, true, true, true, true, true, true, true, true, true, true, false, false, false, false] rfl rfl (by kernel_rfl) (by decide) (fun K hK => ?_)
              refine value_ (w1 := ?_) (v := ?_) (by rfl) rfl ?_ ?_
              rotate_left 2
              · go_simp
                constructor
                · rfl
                · rfl
              refine hK.out _ _ ⟨pw_cell_below (below_alloc (Below.refl _ _) _) hHeld.1, pw_cell_below (below_alloc (Below.refl _ _) _) hHeld.2.1, pw_cell_below (below_alloc (Below.refl _ _) _) hHeld.2.2⟩ (fun hHeld => ?_)
              clear hK K
              refine norm_ (a' := ?_) ?_ ?_
              rotate_left
              · show Act.put _ (some 108) _ = _
                simp only [Act.put, zla, zlb, zlc, i64_w, i32_w]
                rfl
              refine one_ (i := 18) (N := some 109) #[true, true, true, true, true, true, true, true, true, true, true, true, true, true, true, true, true, true, true, false, false, false] rfl rfl (by kernel_rfl) (by decide) (fun K hK => ?_)
              refine Kd.R_append_step (Kd.int .u8) (w0 := wr.drew) (W := wr.drew) 0 (by rfl) (.tmp 103) (.tmp 108) 38 5 (.int .u8 0) 1 rfl Try.underlying38 PD.info5 rfl (by decide) (by decide) (.slice B2 f5.loose.length d2) f5.loose x [.int .u8 x] (fun _ => True) (fun _ => False) rfl rfl rfl (fun _ hk => hk.elim) (fun _ _ => trivial) HO5.out.drew.r2 (Below.refl _ _) (Nat.zero_le _) (by omega) ?_
              intro v1 w4 ho hb hg hat
              obtain ⟨A5, c5, rfl, hc5, _⟩ := Kd.R_reads ho
              generalize hn1 : (f5.loose ++ [x]).length = n1 at ho hat hc5 ⊢
              obtain ⟨hp4, ht4, hr4, e0, e1, e2, fe0, fe1, fe2⟩ := HO5.out.drew.grown1 true hg
              have H4 := Aside0.mk ho
              have HG := Aside0.mk hg
              have HAT := Aside0.mk hat
              have HT4 := Aside0.mk ht4
              have HR4 := Aside0.mk hr4
              have hU4 : Upd (More X w wr) wr w4 := ((Upd.refl _ wr).drew).grown hg (fun k hk => .inl ((More.trans HST.out.2.size HB.out.st.2.size k).1 (HO5.out.drew.x2 hk)))
              obtain ⟨ad4, ea4, hcell4⟩ := (Kd.reads_of_C (d := (0 : Int)) (h1 := fun _ => rfl) (HS.out w4 ((HST.out.2.more HB.out.st.2).more hU4))).at_ (j : Int) (by omega) (by omega)
              rw [Int.toNat_natCast, HXE.out, ← Option.some.inj ea4] at hcell4
              have n0 := blk_cell hp4 0
              simp only [List.getElem?_toArray, List.getElem?_cons_succ, List.getElem?_cons_zero] at n0
              clear hU4 ea4
              clear ho hb hg hat hn1 hp4 ht4 hr4 hc5 k2 m0 m1 m2 m3 m4 fm0 fm1 fm2 fm3 fm4 e0 e1 fe0 fe1
              refine hK.out _ _ ⟨n0, e2, hcell4⟩ (fun hHeld => ?_)
              clear hK K
              refine norm_ (a' := ?_) ?_ ?_
              rotate_left
              · show Act.put _ (some 109) _ = _
                simp only [Act.put, zla, zlb, zlc, i64_w, i32_w]
                rfl
              refine zq 19 (some 110) ?_
              refine zq 20 (some 111) ?_
              refine last_ (i := 21) (N := none) #[true, true, true, true, true, true, true, true, true, true, true, true, true, true, true, true, true, true, true, true, true, true] rfl rfl (by kernel_rfl) (by decide) (fun K hK => ?_)
              refine skip_ (w1 := ?_) (by rfl) rfl ?_ ?_
              rotate_left
              · go_simp
                rfl
              refine hK.out _ _ ?_
              clear hK K
              refine done_ (by kernel_rfl) ?_
              have hx := HO5.out.drew.loose2 (w4 := w4) (Y := fun k => (Value.slice B2 f5.loose.length d2).ownBlock = some k) ((Upd.refl _ _).grown HG.out (fun k hk => .inl hk)) (fun k _ hk => hk) HT4.out (fun f => { f with loose := f.loose ++ [x] }) (fun _ => rfl) rfl ⟨A5, _, c5⟩ HR4.out H4.out (fun k hk => by
                rcases HAT.out with h1 | ⟨b5, h1, h2⟩
                · exact .inl (h1 ▸ hk)
                · have e9 := h1.symm.trans hk
                  injection e9 with e9
                  exact .inr (e9 ▸ h2))
              rw [HFN.out] at hx
              have HD := Aside0.mk (show Lays w3 _ p (More X w w3) S nm data n (j + 1) from ⟨hlt, by
                rw [HTK.out, ← laid_snoc]
                exact RStep.trans HB.out.st (RStep.of_drew hx)⟩)
              clear hx
              go_wp2
              go_roundw
              case rel => exact ⟨j + 1, by simp, HD.out⟩
              case measure => simp [intOf]; omega
            · have hj : j = n := by have := hb.le; omega
              subst hj
              have HL := Aside0.mk (RStep.trans HST.out hb.st)
              clear hb
              go_wp2_with fail
              refine (rfall_calls wr p (More X w wr) _ HL.out.1).mono ?_
              rintro e w9 ⟨rfl, h9⟩
              have H9 := Aside0.mk (RStep.trans HL.out h9)
              clear h9
              go_wp2
              go_ret
              refine ⟨rfl, ?_⟩
              have hx := H9.out
              rw [← HFIN.out] at hx
              exact hx
end Go.Proofs.Ytfholpajdkjbbaa.DK
