/- Parts R5, R6, R7, R8, R9, Ra, Rb, Rc of this work, in one text. -/
import Derived.Test.YtfholpajdkjbbaaQeGc
import Derived.Test.YtfholpajdkjbbaaQeGb
import Derived.Test.YtfholpajdkjbbaaQePa
/- The reference's disk: Read; conditions: those in each theorem. -/
namespace Go.Proofs.Ytfholpajdkjbbaa.DK
open Go.Proofs.Ytfholpajdkjbbaa.PD
open Go.RowKit Go.Proofs.YtfholpajdkjbbaaW.PrintWords Go.Proofs.YtfholpajdkjbbaaW.PrintLast Go.Proofs.YtfholpajdkjbbaaW.PrintMore Go.Proofs.Ytfholpajdkjbbaa.Mo
set_option linter.unusedVariables false
set_option linter.unusedSimpArgs false
theorem fresh_calls (w : World) (A : Option Addr) (c : Nat) (l : List Int) (a b : Nat) (hab : a ≤ b) (hb : b ≤ l.length) (hl : l.length < 140737488355328) (hr : (Kd.int .u8).C w A l.length l) (hc : l.length ≤ c) :
    Calls Try.prog 42 #[.slice A l.length c, .int .i64 a, .int .i64 b] w fun e w' => ∃ v, e = .returned v ∧ (Kd.int .u8).R 5 w' w.heap.size (fun _ => True) v ((l.take b).drop a) ∧ Below w.heap.size w w' := by
  obtain ⟨k, hk⟩ := Ev.rounds (fresh_f l a b hab hb hl)
  exact PD.eddyref10_fresh.calls k A c l a b _ w hr hc hk
theorem Upd.stays {w w' : World} {p : Nat} {o : Obj} (h : Upd (fun k => k = p) w w') (h1 : w.heap[p]? = some o) (h2 : w'.heap[p]? = some o) : Below w.heap.size w w' :=
  ⟨h.os, h.tape, h.output, h.size, fun k hk => by
    by_cases e : k = p
    · subst e; exact h2.trans h1.symm
    · exact h.same k hk e⟩
theorem rahead_reads (w : World) (p : Nat) (X : Nat → Prop) (s : St) (nm : ByteArray) (av : Sl) (rv : Bool → ByteArray → Sl) (a : Int) (h : RDisk w p X s av rv a) (ok : Ok s) :
    Calls Try.prog 56 #[.pointer (some ⟨p, 0, none⟩), .string nm, .bool false] w fun e w' => e = .returned (.int .i64 (s.ahead nm false).2) ∧ Below w.heap.size w w' := by
  refine (rahead_raw w p _ _ false _ a _ nm h.head (fun hf => by rw [h.aft hf]; exact ok.a0) (fun hf => by rw [h.aft hf]; exact ok.a1) ok.f0 ok.f1).mono fun e w' hh => ?_
  unfold St.ahead
  by_cases h1 : isName nm = false
  · rw [if_pos h1] at hh ⊢
    exact ⟨hh.1, hh.2.1.stays h.head hh.2.2⟩
  · rw [if_neg h1] at hh ⊢
    by_cases h2 : s.down = true
    · rw [if_pos h2] at hh ⊢
      exact ⟨hh.1, hh.2.1.stays h.head hh.2.2⟩
    · rw [if_neg h2, if_pos (.inl rfl)] at hh
      rw [if_neg h2, if_pos (.inl rfl)]
      exact ⟨hh.1, hh.2.1.stays h.head hh.2.2⟩
set_option maxHeartbeats 4000000 in
set_option maxRecDepth 100000 in
theorem rread_calls (w : World) (p : Nat) (X : Nat → Prop) (s : St) (nm : ByteArray) (h : RefD w p X s) (ok : Ok s) :
    Calls Try.prog 68 #[.pointer (some ⟨p, 0, none⟩), .string nm] w fun e w' => ∃ v, e = .returned (.tuple #[v, .int .i64 (s.read nm).2]) ∧ (Kd.int .u8).R 5 w' w.heap.size (fun _ => True) v (s.read nm).1 ∧ Below w.heap.size w w' := by
  obtain ⟨av, rv, a, h⟩ := h
  have HM := Aside0.mk (rahead_reads w p X s nm av rv a h ok)
  have H := Aside0.mk h
  have HFD := Aside0.mk (fun w1 (h1 : RDisk w1 p X s av rv a) => rfind_ctx w1 p X s nm av rv a h1 (by have := ok.few; omega))
  unfold St.read
  by_cases hc : (s.ahead nm false).2 ≠ 0
  · rw [if_pos hc]
    generalize (s.ahead nm false).2 = c at HM hc
    have hb1 : (c == 0) = false := by simpa using hc
    have hb2 : (c != 0) = true := by simpa using hc
    clear hc h
    go_enter Try.func68, Try.ntmps68
    go_wp2_with (go_at_call 56; refine HM.out.mono ?_; rintro e w1 ⟨rfl, hB⟩)
    go_ret2
    exact ⟨_, rfl, Kd.R_nil _ _ _ _ _, hB⟩
  · rw [if_neg hc]
    have h0 : (s.ahead nm false).2 = 0 := by omega
    rw [h0] at HM
    clear hc h0 h
    cases hf : find s.all nm with
    | none =>
      have HF := Aside0.mk hf
      clear hf
      dsimp only
      go_enter Try.func68, Try.ntmps68
      go_wp2_with fail
      refine HM.out.mono ?_
      rintro e w1 ⟨rfl, hB⟩
      have HB := Aside0.mk hB
      clear hB
      go_wp2_with fail
      refine (HFD.out w1 (H.out.upd (Upd.of_below HB.out (fun _ => False)) (fun _ _ h => h))).mono ?_
      rintro e w2 ⟨r, rfl, rfl, hfd⟩
      unfold Found at hfd
      rw [HF.out] at hfd
      have hfd : r = -1 := hfd
      subst hfd
      go_wp2
      go_ret2
      exact ⟨_, rfl, Kd.R_nil _ _ _ _ _, HB.out⟩
    | some f =>
      have HF := Aside0.mk hf
      have HSM := Aside0.mk (ok.small f (find_some hf).1)
      clear hf
      dsimp only
      go_enter Try.func68, Try.ntmps68
      go_wp2_with fail
      refine HM.out.mono ?_
      rintro e w1 ⟨rfl, hB⟩
      have HB := Aside0.mk hB
      have HR1 := Aside0.mk (H.out.upd (Upd.of_below HB.out (fun _ => False)) (fun _ _ h => h))
      clear hB
      go_wp2_with fail
      refine (HFD.out w1 HR1.out).mono ?_
      rintro e w2 ⟨r, rfl, rfl, hfd⟩
      obtain ⟨i, rfl, hi, hfi⟩ := find_idx hfd HF.out
      obtain ⟨g, cav, A1, c1, A2, c2, ho⟩ := HR1.out.open_ i hi
      rw [hfi] at ho
      have HO := Aside0.mk ho
      have hp := ho.head
      have m0 := blk_cell hp 0
      have m1 := blk_cell hp 1
      have m2 := blk_cell hp 2
      have m3 := blk_cell hp 3
      have m4 := blk_cell hp 4
      have fm0 := blk_frozen hp 0
      have fm1 := blk_frozen hp 1
      have fm2 := blk_frozen hp 2
      have fm3 := blk_frozen hp 3
      have fm4 := blk_frozen hp 4
      simp only [List.getElem?_toArray, List.getElem?_cons_succ, List.getElem?_cons_zero] at m0 m1 m2 m3 m4
      have k0 := ho.k0
      have k1 := ho.k1
      have k2 := ho.k2
      have hl1 := ho.l1
      have hsl : f.sure.length + f.loose.length ≤ 65536 := HSM.out
      clear hfd hfi hp ho
      go_wp2
      refine start_ (n := 19) (S := fun w' => w'.cell? ⟨p, 0, none⟩ = some (.slice (some ⟨g, 0, none⟩) s.all.length cav) ∧ w'.cell? ⟨g, i * 3 + 1, none⟩ = some (.slice A1 f.sure.length c1)) (ds := [17, 18]) #[false, false, false, false, false, false, false, false, false, false, false, false, false, false, false, false, false, false, false] (by kernel_rfl) rfl rfl ⟨m0, k1⟩ (fun hHeld => ?_)
      refine zq 0 (some 20) ?_
      refine zq 1 (some 21) ?_
      refine zq 2 (some 22) ?_
      refine zq 4 (some 24) ?_
      refine zq 8 (some 28) ?_
      refine zq 9 (some 29) ?_
      refine zq 10 (some 30) ?_
      refine zq 12 (some 32) ?_
      refine zu 3 (some 23) hHeld ?_
      refine zq 5 (some 25) ?_
      refine zq 6 (some 26) ?_
      refine zu 7 (some 27) hHeld ?_
      refine zu 11 (some 31) hHeld ?_
      refine zq 13 (some 33) ?_
      refine zq 14 (some 34) ?_
      refine zu 15 (some 35) hHeld ?_
      refine zq 16 (some 36) ?_
      refine last_ (i := 17) (N := some 37) #[true, true, true, true, true, true, true, true, true, true, true, true, true, true, true, true, true, true, false] rfl rfl (by kernel_rfl) (by decide) (fun K hK => ?_)
      refine goes_ Try.func42 (by kernel_rfl) rfl #[.slice A1 f.sure.length c1, .int .i64 0, .int .i64 f.sure.length] (by rfl) rfl rfl (by simp only [List.map_toArray, List.map_cons, List.map_nil]; rfl) ?_
      refine (fresh_calls _ A1 c1 f.sure 0 f.sure.length (Nat.zero_le _) (Nat.le_refl _) (by omega) HO.out.drew.q1 hl1).mono ?_
      rintro e w6 ⟨v6, rfl, r6, b6⟩
      rw [List.drop_zero, List.take_length] at r6
      obtain ⟨A6, c6, rfl, _, _⟩ := Kd.R_reads r6
      refine ⟨_, rfl, ?_⟩
      have hr6 := HO.out.disk.upd (Upd.of_below (show Below w2.heap.size w2 w6 from ⟨b6.os, b6.tape, b6.output, b6.size, b6.block⟩) (fun _ => False)) (fun _ _ h => h)
      have B6 := Aside0.mk b6
      have R6 := Aside0.mk r6
      clear b6 r6 m0 m1 m2 m3 m4 fm0 fm1 fm2 fm3 fm4 k0 k1 k2
      have hp6 := hr6.head
      rw [HO.out.hav] at hp6
      have n0 := blk_cell hp6 0
      have n1 := blk_cell hp6 1
      have n2 := blk_cell hp6 2
      have n3 := blk_cell hp6 3
      have n4 := blk_cell hp6 4
      have fn0 := blk_frozen hp6 0
      have fn1 := blk_frozen hp6 1
      have fn2 := blk_frozen hp6 2
      have fn3 := blk_frozen hp6 3
      have fn4 := blk_frozen hp6 4
      simp only [List.getElem?_toArray, List.getElem?_cons_succ, List.getElem?_cons_zero] at n0 n1 n2 n3 n4
      have k62 : w6.cell? ⟨g, i * 3 + 2, none⟩ = some (.slice A2 f.loose.length c2) := (World.cell?_of_block (B6.out.block g HO.out.lt)).trans HO.out.k2
      clear hr6 hp6
      refine hK.out _ _ ?_
      clear hK K
      refine norm_ (a' := ?_) ?_ ?_
      rotate_left
      · show Act.put _ (some 37) _ = _
        simp only [Act.put, zla, zlb, zlc, i64_w, i32_w]
        rfl
      refine zq 18 (some 8) ?_
      refine done_ (by kernel_rfl) ?_
      go_wp2_with (first | ((with_reducible refine gate_builtin (b := .append) (xs := #[.tmp 38, .tmp 46]) rfl ?_); at_builtin; refine Kd.R_append_rows (Kd.int .u8) (w0 := w) w.heap.size rfl (.tmp 38) (.tmp 46) 38 5 (.int .u8 0) 1 rfl Try.underlying38 PD.info5 rfl (by decide) (by omega) _ f.sure f.loose _ _ _ (fun _ => True) (fun _ => False) rfl rfl ?aO ?aR (fun _ _ h => h) (fun _ h => h.elim) ?aF ?aB ?aS ?aL ?_; (case aR => exact Kd.C_below HO.out.drew.q2 B6.out); (case aB => exact HB.out.trans (show Below w.heap.size w2 w6 from ⟨B6.out.os, B6.out.tape, B6.out.output, B6.out.size, fun k hk => B6.out.block k (Nat.lt_of_lt_of_le hk HB.out.size)⟩)); (case aF => exact fun _ _ => trivial); (case aS => exact Nat.le_trans HB.out.size B6.out.size); (case aL => omega); (case aO => exact Kd.R_lower R6.out HB.out.size); intro v1 w7 ho hb hg hat; have n0_ := Aside0.mk hb; have n1_ := Aside0.mk ho; clear ho hb hg hat))
      go_ret2
      exact ⟨_, rfl, n1_.out, n0_.out⟩
end Go.Proofs.Ytfholpajdkjbbaa.DK
/- The reference's disk: List, Files; conditions: those in each theorem. -/
namespace Go.Proofs.Ytfholpajdkjbbaa.DK
open Go.Proofs.Ytfholpajdkjbbaa.PD
open Go.RowKit Go.Proofs.YtfholpajdkjbbaaW.PrintWords Go.Proofs.YtfholpajdkjbbaaW.PrintLast Go.Proofs.YtfholpajdkjbbaaW.PrintMore Go.Proofs.Ytfholpajdkjbbaa.Mo
set_option linter.unusedVariables false
set_option linter.unusedSimpArgs false
structure RTell (w wr : World) (l : List F) (v : Value) (i : Nat) : Prop where
  le : i ≤ l.length
  row : Kd.string.R 9 wr w.heap.size (fun _ => True) v ((namesOf l).take i)
  bel : Below w.heap.size w wr
def RTellE (w : World) (l : List F) (v iv : Value) (wr : World) : Prop := ∃ i : Nat, iv = .int .i64 i ∧ RTell w wr l v i
set_option maxHeartbeats 4000000 in
set_option maxRecDepth 100000 in
theorem rlist_calls (w : World) (p : Nat) (X : Nat → Prop) (s : St) (h : RefD w p X s) (ok : Ok s) : Calls Try.prog 69 #[.pointer (some ⟨p, 0, none⟩)] w fun e w' => ∃ v, e = .returned (.tuple #[v, .int .i64 s.list.2]) ∧ Kd.string.R 9 w' w.heap.size (fun _ => True) v s.list.1 ∧ Below w.heap.size w w' := by
  obtain ⟨av, rv, a, h⟩ := h
  have hp := h.head
  have H := Aside0.mk h
  have hlen : s.all.length ≤ 400 := ok.few
  unfold St.list
  by_cases hd : s.down = true
  · rw [if_pos hd]
    rw [hd] at hp
    have c0 := blk_cell hp 0
    have c1 := blk_cell hp 1
    have c2 := blk_cell hp 2
    have c3 := blk_cell hp 3
    have c4 := blk_cell hp 4
    have fc0 := blk_frozen hp 0
    have fc1 := blk_frozen hp 1
    have fc2 := blk_frozen hp 2
    have fc3 := blk_frozen hp 3
    have fc4 := blk_frozen hp 4
    simp only [List.getElem?_toArray, List.getElem?_cons_succ, List.getElem?_cons_zero] at c0 c1 c2 c3 c4
    clear hp hd h
    go_enter Try.func69, Try.ntmps69
    go_wp2
    go_ret2
    exact ⟨_, rfl, Kd.R_nil _ _ _ _ _, Below.refl _ _⟩
  · rw [if_neg hd]
    rw [show s.down = false by simpa using hd] at hp
    have c0 := blk_cell hp 0
    have c1 := blk_cell hp 1
    have c2 := blk_cell hp 2
    have c3 := blk_cell hp 3
    have c4 := blk_cell hp 4
    have fc0 := blk_frozen hp 0
    have fc1 := blk_frozen hp 1
    have fc2 := blk_frozen hp 2
    have fc3 := blk_frozen hp 3
    have fc4 := blk_frozen hp 4
    simp only [List.getElem?_toArray, List.getElem?_cons_succ, List.getElem?_cons_zero] at c0 c1 c2 c3 c4
    clear hp hd h
    go_enter Try.func69, Try.ntmps69
    go_wp2
    go_loopw [4, 5] (fun v iv wr => RTellE w s.all v iv wr) (fun _ iv _ => s.all.length - (intOf iv).toNat)
    case atStart => exact ⟨0, rfl, Nat.zero_le _, Kd.R_nil _ _ _ _ _, Below.refl _ _⟩
    case round =>
      clear fc0 fc1 fc2 fc3 fc4 c0 c1 c2 c3 c4
      obtain ⟨i, rfl, ht⟩ := hrel
      have HT := Aside0.mk ht
      have hR := H.out.upd (Upd.of_below ht.bel (fun _ => False)) (fun _ _ h => h)
      by_cases hlt : i < s.all.length
      · obtain ⟨g, cav, A1, c1, A2, c2, ho⟩ := hR.open_ i hlt
        have HTK := Aside0.mk (take_snoc' (namesOf s.all) i (by rw [List.length_map]; exact hlt))
        rw [List.getElem_map] at HTK
        have HRN := Aside0.mk ht.row
        have HBL := Aside0.mk ht.bel
        generalize s.all[i] = f at *
        have hp := ho.head
        have m0 := blk_cell hp 0
        have m1 := blk_cell hp 1
        have m2 := blk_cell hp 2
        have m3 := blk_cell hp 3
        have m4 := blk_cell hp 4
        have fm0 := blk_frozen hp 0
        have fm1 := blk_frozen hp 1
        have fm2 := blk_frozen hp 2
        have fm3 := blk_frozen hp 3
        have fm4 := blk_frozen hp 4
        simp only [List.getElem?_toArray, List.getElem?_cons_succ, List.getElem?_cons_zero] at m0 m1 m2 m3 m4
        have k0 := ho.k0
        clear hR ht ho hp
        go_wp2_with (first | ((with_reducible refine gate_builtin (b := .append) (xs := #[.tmp 19, .tmp 28]) rfl ?_); at_builtin; refine Kd.R_append Kd.string (w0 := w) w.heap.size rfl (.tmp 19) (.tmp 28) 45 9 (.string ⟨#[]⟩) 16 rfl Try.underlying45 info9 rfl (by decide) (by omega) _ ((namesOf s.all).take i) f.name [.string f.name] (fun _ => True) (fun _ => False) rfl rfl ?aP (fun _ hk => hk.elim) ?aF ?aO ?aB ?aS ?aL ?_; (case aP => exact rfl); (case aF => exact (fun _ _ => trivial)); (case aO => exact HRN.out); (case aB => exact HBL.out); (case aS => exact HBL.out.size); (case aL => rw [List.length_take]; omega); intro v9 w9 ho hb hg hat; have HO := Aside0.mk ho; have HB9 := Aside0.mk hb; clear ho hb hg hat))
        have HX := Aside0.mk (show RTell w w9 s.all v9 (i + 1) from ⟨hlt, by rw [HTK.out]; exact HO.out, HB9.out⟩)
        go_roundw
        case rel => exact ⟨i + 1, by simp, HX.out⟩
        case measure => simp [intOf]; omega
      · have hi : i = s.all.length := by have := ht.le; omega
        subst hi
        have h2 := ht.row
        rw [List.take_of_length_le (by rw [List.length_map]; exact Nat.le_refl _)] at h2
        have HR2 := Aside0.mk h2
        have hp := hR.head
        have hn := hR.files.len
        obtain ⟨A, n, c⟩ := av
        dsimp only at hn
        subst hn
        unfold Sl.v at hp
        dsimp only at hp
        have c0 := blk_cell hp 0
        have c1 := blk_cell hp 1
        have c2 := blk_cell hp 2
        have c3 := blk_cell hp 3
        have c4 := blk_cell hp 4
        have fc0 := blk_frozen hp 0
        have fc1 := blk_frozen hp 1
        have fc2 := blk_frozen hp 2
        have fc3 := blk_frozen hp 3
        have fc4 := blk_frozen hp 4
        simp only [List.getElem?_toArray, List.getElem?_cons_succ, List.getElem?_cons_zero] at c0 c1 c2 c3 c4
        clear ht h2 hR hp
        go_wp2
        go_ret2
        exact ⟨_, rfl, HR2.out, HT.out.bel⟩
end Go.Proofs.Ytfholpajdkjbbaa.DK
/- The reference's disk: Files; conditions: those in each theorem. -/
namespace Go.Proofs.Ytfholpajdkjbbaa.DK
open Go.Proofs.Ytfholpajdkjbbaa.PD
open Go.RowKit Go.Proofs.YtfholpajdkjbbaaW.PrintWords Go.Proofs.YtfholpajdkjbbaaW.PrintLast Go.Proofs.YtfholpajdkjbbaaW.PrintMore Go.Proofs.Ytfholpajdkjbbaa.Mo
set_option linter.unusedVariables false
set_option linter.unusedSimpArgs false
structure RF (w wr : World) (s : St) (v : Value) (i : Nat) : Prop where
  le : i ≤ s.all.length
  row : k67.R 67 wr w.heap.size (fun _ => True) v ((files67 s).take i)
  bel : Below w.heap.size w wr
def RFE (w : World) (s : St) (v iv : Value) (wr : World) : Prop := ∃ i : Nat, iv = .int .i64 i ∧ RF w wr s v i
set_option maxHeartbeats 4000000 in
set_option maxRecDepth 100000 in
theorem rfiles_calls (w : World) (p : Nat) (X : Nat → Prop) (s : St) (h : RefD w p X s) (ok : Ok s) : Calls Try.prog 19 #[.pointer (some ⟨p, 0, none⟩)] w fun e w' => ∃ v, e = .returned v ∧ k67.R 67 w' w.heap.size (fun _ => True) v (files67 s) ∧ Below w.heap.size w w' := by
  obtain ⟨av, rv, a, h⟩ := h
  have H := Aside0.mk h
  have OK := Aside0.mk ok
  have hlen : s.all.length ≤ 400 := ok.few
  clear h ok
  go_enter Try.func19, Try.ntmps19
  go_wp2
  go_loopw [3, 4] (fun v iv wr => RFE w s v iv wr) (fun _ iv _ => s.all.length - (intOf iv).toNat)
  case atStart => exact ⟨0, rfl, Nat.zero_le _, Kd.R_nil _ _ _ _ _, Below.refl _ _⟩
  case round =>
    obtain ⟨i, rfl, ht⟩ := hrel
    have HT := Aside0.mk ht
    have hR := H.out.upd (Upd.of_below ht.bel (fun _ => False)) (fun _ _ h => h)
    by_cases hlt : i < s.all.length
    · obtain ⟨g, cav, A1, c1, A2, c2, ho⟩ := hR.open_ i hlt
      have HAT := Aside0.mk (files67_at s i hlt)
      have hsm := OK.out.small _ (List.getElem_mem hlt)
      have HRN := Aside0.mk ht.row
      have HBL := Aside0.mk ht.bel
      generalize s.all[i] = f at *
      have hsl : f.sure.length + f.loose.length ≤ 65536 := hsm
      have HO := Aside0.mk ho
      have hp := ho.head
      have m0 := blk_cell hp 0
      have m1 := blk_cell hp 1
      have m2 := blk_cell hp 2
      have m3 := blk_cell hp 3
      have m4 := blk_cell hp 4
      have fm0 := blk_frozen hp 0
      have fm1 := blk_frozen hp 1
      have fm2 := blk_frozen hp 2
      have fm3 := blk_frozen hp 3
      have fm4 := blk_frozen hp 4
      simp only [List.getElem?_toArray, List.getElem?_cons_succ, List.getElem?_cons_zero] at m0 m1 m2 m3 m4
      have k0 := ho.k0
      have k1 := ho.k1
      have k2 := ho.k2
      have hl1 := ho.l1
      clear hR ht ho hp hsm
      go_wp2_with fail
      have HNW := Aside0.mk (heap_alloc_new wr (.cells #[.string f.name, .slice A1 f.sure.length c1, .slice A2 f.loose.length c2] 86))
      have HBW := Aside0.mk (below_alloc HBL.out (.cells #[.string f.name, .slice A1 f.sure.length c1, .slice A2 f.loose.length c2] 86))
      have HQ1 := Aside0.mk (Kd.C_alloc HO.out.q1 (.cells #[.string f.name, .slice A1 f.sure.length c1, .slice A2 f.loose.length c2] 86))
      have HQ2 := Aside0.mk (Kd.C_alloc HO.out.q2 (.cells #[.string f.name, .slice A1 f.sure.length c1, .slice A2 f.loose.length c2] 86))
      have HRW := Aside0.mk (Kd.R_alloc HRN.out (.cells #[.string f.name, .slice A1 f.sure.length c1, .slice A2 f.loose.length c2] 86))
      have HSZ5 := Aside0.mk (World.size_alloc' wr (.cells #[.string f.name, .slice A1 f.sure.length c1, .slice A2 f.loose.length c2] 86))
      clear k0 k1 k2 m0 m1 m2 m3 m4 fm0 fm1 fm2 fm3 fm4
      have HSZ := Aside0.mk (Nat.le_refl wr.heap.size)
      have HLT := Aside0.mk (fun k => Kd.R_lt HRN.out k)
      generalize wr.alloc (.cells #[.string f.name, .slice A1 f.sure.length c1, .slice A2 f.loose.length c2] 86) = W5 at *
      generalize wr.heap.size = b5 at *
      refine (fresh_calls W5 A1 c1 f.sure 0 f.sure.length (Nat.zero_le _) (Nat.le_refl _) (by omega) HQ1.out hl1).mono ?_
      rintro e w6 ⟨v6, rfl, r6, b6⟩
      rw [List.drop_zero, List.take_length] at r6
      have hn6 := blk_upd HNW.out (Upd.of_below b6 (fun _ => False)) (fun h => h)
      have HN6 := Aside0.mk hn6
      have x0 := blk_cell hn6 0
      have x1 := blk_cell hn6 1
      have x2 := blk_cell hn6 2
      have fx0 := blk_frozen hn6 0
      have fx1 := blk_frozen hn6 1
      have fx2 := blk_frozen hn6 2
      simp only [List.getElem?_toArray, List.getElem?_cons_succ, List.getElem?_cons_zero] at x0 x1 x2
      have R6 := Aside0.mk r6
      have B6 := Aside0.mk b6
      clear r6 b6 hn6
      go_wp2_with (first | ((with_reducible refine gate_builtin (b := .append) (xs := #[.tmp 29, .tmp 31]) rfl ?_); at_builtin; refine Kd.R_append_rows (Kd.int .u8) (w0 := W5) W5.heap.size rfl (.tmp 29) (.tmp 31) 38 5 (.int .u8 0) 1 rfl Try.underlying38 PD.info5 rfl (by decide) (by omega) _ f.sure f.loose _ _ _ (fun _ => True) (fun _ => False) rfl rfl ?aO ?aR (fun _ _ h => h) (fun _ h => h.elim) ?aF ?aB ?aS ?aL ?_; (case aR => exact Kd.C_below HQ2.out B6.out); (case aB => exact B6.out); (case aF => exact fun _ _ => trivial); (case aS => exact B6.out.size); (case aL => omega); (case aO => exact R6.out); intro v7 w7 ho hb hg hat; have r7 := ho; obtain ⟨A7, c7, rfl, hc7, _⟩ := Kd.R_reads r7; generalize hn1 : (f.sure ++ f.loose).length = n1 at r7 hat hc7 ⊢; have HN1 := Aside0.mk hn1; have B7 := Aside0.mk hb; have R7 := Aside0.mk r7; have hn7 := blk_upd HNW.out (Upd.of_below hb (fun _ => False)) (fun h => h); have y0 := blk_cell hn7 0; have y1 := blk_cell hn7 1; have y2 := blk_cell hn7 2; simp only [List.getElem?_toArray, List.getElem?_cons_succ, List.getElem?_cons_zero] at y0 y1 y2; clear ho hb hg hat r7 hc7 hn7 hn1) | ((with_reducible refine gate_builtin (b := .append) (xs := #[.tmp 33, .tmp 41]) rfl ?_); at_builtin; refine Kd.R_append k67 (w0 := w) w.heap.size rfl (.tmp 33) (.tmp 41) 22 67 (.agg #[(.string ⟨#[]⟩), (.slice none 0 0), (.int .i64 0)]) 48 rfl Try.underlying22 info67 rfl (by decide) (by omega) _ ((files67 s).take i) ⟨f.name, f.data, (f.sure.length : Int)⟩ [.string f.name, .slice A7 n1 c7, .int .i64 f.sure.length] (fun _ => True) (fun k => b5 ≤ k) rfl rfl ?bP ?bK ?bF ?bO ?bB ?bS ?bL ?_; (case bP => exact k67_mkM w7 w.heap.size _ ⟨f.name, f.data, (f.sure.length : Int)⟩ (Kd.R_lower (Kd.R_mono (Kd.R_bound R7.out) (fun k hk => Nat.le_trans (by have := HSZ5.out; omega) hk.2.1)) HBW.out.size)); (case bK => exact fun k hk => ⟨trivial, fun e => absurd (HLT.out k e.symm) (Nat.not_lt.2 hk)⟩); (case bF => exact (fun _ _ => trivial)); (case bO => exact Kd.R_below HRW.out B7.out); (case bB => exact HBW.out.trans (B7.out.mono HBW.out.size)); (case bS => exact Nat.le_trans HBW.out.size B7.out.size); (case bL => rw [List.length_take]; omega); intro v9 w9 ho hb hg hat; have HO9 := Aside0.mk ho; have HB9 := Aside0.mk hb; clear ho hb hg hat))
      have HX := Aside0.mk (show RF w w9 s v9 (i + 1) from ⟨hlt, by rw [take_snoc' _ i (by rw [files67_len]; exact hlt), HAT.out]; exact HO9.out, HB9.out⟩)
      go_roundw
      case rel => exact ⟨i + 1, by simp, HX.out⟩
      case measure => simp [intOf]; omega
    · have hi : i = s.all.length := by have := ht.le; omega
      subst hi
      have h2 := ht.row
      rw [List.take_of_length_le (by rw [files67_len]; exact Nat.le_refl _)] at h2
      have HR2 := Aside0.mk h2
      have hp := hR.head
      have hn := hR.files.len
      obtain ⟨A, n, c⟩ := av
      dsimp only at hn
      subst hn
      unfold Sl.v at hp
      dsimp only at hp
      have c0 := blk_cell hp 0
      have c1 := blk_cell hp 1
      have c2 := blk_cell hp 2
      have c3 := blk_cell hp 3
      have c4 := blk_cell hp 4
      have fc0 := blk_frozen hp 0
      have fc1 := blk_frozen hp 1
      have fc2 := blk_frozen hp 2
      have fc3 := blk_frozen hp 3
      have fc4 := blk_frozen hp 4
      simp only [List.getElem?_toArray, List.getElem?_cons_succ, List.getElem?_cons_zero] at c0 c1 c2 c3 c4
      clear ht h2 hR hp
      go_wp2
      go_ret
      exact ⟨_, rfl, HR2.out, HT.out.bel⟩
end Go.Proofs.Ytfholpajdkjbbaa.DK
/- The reference's disk: put; conditions: those in each theorem. -/
namespace Go.Proofs.Ytfholpajdkjbbaa.DK
open Go.Proofs.Ytfholpajdkjbbaa.PD
open Go.RowKit Go.Proofs.YtfholpajdkjbbaaW.PrintWords Go.Proofs.YtfholpajdkjbbaaW.PrintLast Go.Proofs.YtfholpajdkjbbaaW.PrintMore Go.Proofs.Ytfholpajdkjbbaa.Mo
set_option linter.unusedVariables false
set_option linter.unusedSimpArgs false
theorem info86 : (Try.prog.info? 86).map (fun i => (i.zero, i.size, i.bytes)) = some (some (.agg #[(.string ⟨#[]⟩), (.slice none 0 0), (.slice none 0 0)]), 3, 64) := by kernel_rfl
theorem FileAt.below {w w' : World} {p : Nat} {X : Nat → Prop} {s : St} {av : Sl} {rv : Bool → ByteArray → Sl} {a : Int} {i : Nat} {f : F} {g cav : Nat} {A1 : Option Addr} {c1 : Nat} {A2 : Option Addr} {c2 : Nat} (h : FileAt w p X s av rv a i f g cav A1 c1 A2 c2) (hb : Below w.heap.size w w') : FileAt w' p X s av rv a i f g cav A1 c1 A2 c2 :=
  have hc : ∀ o, w'.cell? ⟨g, o, none⟩ = w.cell? ⟨g, o, none⟩ := fun o => World.cell?_of_block (hb.block g h.lt)
  have hf : ∀ o, w'.frozen? ⟨g, o, none⟩ = w.frozen? ⟨g, o, none⟩ := fun o => World.frozen?_of_block (hb.block g h.lt)
  ⟨h.disk.upd (Upd.of_below hb (fun _ => False)) (fun _ _ h => h), h.hi, h.hf, h.hA, h.hav, h.ne, Nat.lt_of_lt_of_le h.lt hb.size, h.s1, h.s2, h.l1, h.l2, Kd.R_below h.r1 hb, Kd.R_below h.r2 hb, Kd.C_below h.q1 hb, Kd.C_below h.q2 hb, h.di, blk_upd h.head (Upd.of_below hb (fun _ => False)) (fun h => h),
    (hc _).trans h.k0, (hc _).trans h.k1, (hc _).trans h.k2, (hf _).trans h.f0, (hf _).trans h.f1, (hf _).trans h.f2⟩
theorem bytesLess_lt' : ∀ (x y : List UInt8), Op.bytesLess x y = decide (x < y)
  | [], [] => (decide_eq_false (List.not_lt_nil _)).symm
  | _ :: _, [] => (decide_eq_false (List.not_lt_nil _)).symm
  | [], _ :: _ => (decide_eq_true (List.nil_lt_cons _ _)).symm
  | a :: x, b :: y => by
    rw [Op.bytesLess, bytesLess_lt' x y]
    rw [show decide (a :: x < b :: y) = decide (a < b ∨ a = b ∧ x < y) from decide_eq_decide.2 List.cons_lt_cons_iff]
    by_cases h1 : a < b <;> by_cases h2 : a = b <;> by_cases h3 : x < y <;> simp [h1, h2, h3]
theorem bytesLess_lt (a b : ByteArray) : Op.bytesLess a.toList b.toList = lt a b := by
  rw [bytesLess_lt', ByteArray.toList_eq, ByteArray.toList_eq]
  rfl
/-- One round of putting f in: has it been laid down, what lies there. -/
def ins (f : F) (r : Bool × List F) (g : F) : Bool × List F := if r.1 = false ∧ lt f.name g.name = true then (true, r.2 ++ [f, g]) else (r.1, r.2 ++ [g])
theorem ins_done (f : F) : ∀ (l acc : List F), l.foldl (ins f) (true, acc) = (true, acc ++ l)
  | [], acc => by rw [List.append_nil]; rfl
  | g :: l, acc => by
    rw [List.foldl_cons, show ins f (true, acc) g = (true, acc ++ [g]) from if_neg (fun h => nomatch h.1), ins_done f l, List.append_assoc]
    rfl
theorem ins_put (f : F) : ∀ (l acc : List F), (if (l.foldl (ins f) (false, acc)).1 = true then (l.foldl (ins f) (false, acc)).2 else (l.foldl (ins f) (false, acc)).2 ++ [f]) = acc ++ put f l
  | [], acc => rfl
  | g :: l, acc => by
    rw [List.foldl_cons]
    unfold put
    by_cases h : lt f.name g.name = true
    · rw [show ins f (false, acc) g = (true, acc ++ [f, g]) from if_pos ⟨rfl, h⟩, ins_done, if_pos h]
      simp
    · rw [show ins f (false, acc) g = (false, acc ++ [g]) from if_neg (fun h2 => h h2.2), if_neg h, ins_put f l (acc ++ [g]), List.append_assoc]
      rfl
structure Puts (w3 wr : World) (l : List F) (T : F → Tri) (f : F) (i : Nat) (d : Bool) (acc : List F) (v : Value) : Prop where
  le : i ≤ l.length
  run : (l.take i).foldl (ins f) (false, []) = (d, acc)
  row : kT.R 86 wr w3.heap.size (fun _ => True) v (acc.map T)
  bel : Below w3.heap.size w3 wr
  small : acc.length ≤ 2 * i
def PutsE (w3 : World) (l : List F) (T : F → Tri) (f : F) (v dv iv : Value) (wr : World) : Prop := ∃ (i : Nat) (d : Bool) (acc : List F), iv = .int .i64 i ∧ dv = .bool d ∧ Puts w3 wr l T f i d acc v
theorem put_end {w W : World} {p base : Nat} {m0 : Value} {dn : Bool} {l a fl : Int} {av' : Sl} {L : List Tri} (h0 : Below w.heap.size w W) (hrow : kT.R 86 W base (fun _ => True) av'.v L) (hbase : w.heap.size ≤ base)
    (hp : w.heap[p]? = some (.cells #[m0, .bool dn, .int .i64 l, .int .i64 a, .int .i64 fl] 84 (0, 0))) :
    (∀ k, av'.v.ownBlock = some k → w.heap.size ≤ k) ∧ kT.R 86 (W.setCell ⟨p, 0, none⟩ av'.v) 0 (fun _ => True) av'.v L ∧ Upd (fun k => k = p) w (W.setCell ⟨p, 0, none⟩ av'.v) ∧
      (W.setCell ⟨p, 0, none⟩ av'.v).heap[p]? = some (.cells #[av'.v, .bool dn, .int .i64 l, .int .i64 a, .int .i64 fl] 84 (0, 0)) := by
  have hlt := blk_lt hp
  refine ⟨fun k hk => Nat.le_trans hbase (Kd.R_base hrow k hk), Kd.R_lower (Kd.R_mono (Kd.R_step (Kd.R_bound hrow) (fun k hk _ => Below.heap_setCell _ _ _ _ (fun e => ?_))) (fun _ _ => trivial)) (Nat.zero_le _), (Upd.of_below h0 _).set1 0 _, ?_⟩
  · have h1 := hk.2.1
    subst e
    omega
  · rw [heap_set, h0.block p hlt, hp]
    rfl
set_option maxHeartbeats 8000000 in
set_option maxRecDepth 100000 in
theorem rput_raw (w : World) (p : Nat) (X : Nat → Prop) (s : St) (av : Sl) (rv : Bool → ByteArray → Sl) (a : Int) (h : RDisk w p X s av rv a) (hl : s.all.length ≤ 400) (f : F) (hnm : f.name ∉ namesOf s.all) (A1 : Option Addr) (n1 c1 : Nat) (A2 : Option Addr) (n2 c2 : Nat) :
    Calls Try.prog 59 #[.pointer (some ⟨p, 0, none⟩), .agg #[.string f.name, .slice A1 n1 c1, .slice A2 n2 c2]] w fun e w' => e = .returned (.tuple #[]) ∧ ∃ av' : Sl, (∀ k, av'.v.ownBlock = some k → w.heap.size ≤ k) ∧
      kT.R 86 w' 0 (fun _ => True) av'.v ((put f s.all).map (fun x => if x.name = f.name then ⟨f.name, ⟨A1, n1, c1⟩, ⟨A2, n2, c2⟩⟩ else tri rv x)) ∧ Upd (fun k => k = p) w w' ∧
      w'.heap[p]? = some (.cells #[av'.v, .bool s.down, .int .i64 s.left, .int .i64 a, .int .i64 s.fails] 84 (0, 0)) := by
  have H := Aside0.mk h
  have HNM := Aside0.mk hnm
  obtain ⟨T, hT⟩ : ∃ T : F → Tri, T = fun x => if x.name = f.name then ⟨f.name, ⟨A1, n1, c1⟩, ⟨A2, n2, c2⟩⟩ else tri rv x := ⟨_, rfl⟩
  have HT := Aside0.mk hT
  rw [← hT]
  clear h hnm hT
  go_enter Try.func59, Try.ntmps59
  go_wp2
  go_loopw [4, 5, 6] (fun v dv iv wr => PutsE (w.alloc (.cells #[.string f.name, .slice A1 n1 c1, .slice A2 n2 c2] 86)) s.all T f v dv iv wr) (fun _ _ iv _ => s.all.length - (intOf iv).toNat)
  case atStart => exact ⟨0, false, [], rfl, rfl, Nat.zero_le _, rfl, Kd.R_nil _ _ _ _ _, Below.refl _ _, Nat.zero_le _⟩
  case round =>
    obtain ⟨i, d, acc, rfl, rfl, hb⟩ := hrel
    have HB := Aside0.mk hb
    have HW := Aside0.mk (World.size_alloc' w (.cells #[.string f.name, .slice A1 n1 c1, .slice A2 n2 c2] 86))
    have hbw : Below w.heap.size w wr := (below_alloc (Below.refl _ _) _).trans (hb.bel.mono (by rw [HW.out]; omega))
    have hR := H.out.upd (Upd.of_below hbw (fun _ => False)) (fun _ _ h => h)
    have hn3 : wr.heap[w.heap.size]? = some (.cells #[.string f.name, .slice A1 n1 c1, .slice A2 n2 c2] 86 (0, 0)) := (hb.bel.block w.heap.size (by rw [HW.out]; omega)).trans (heap_alloc_new w _)
    have HBW := Aside0.mk hbw
    by_cases hlt : i < s.all.length
    · obtain ⟨g, cav, B1, d1, B2, d2, ho0⟩ := H.out.open_ i hlt
      have HTK := Aside0.mk (take_snoc' s.all i hlt)
      have HNE := Aside0.mk (show (s.all[i]).name ≠ f.name from fun e => HNM.out (by rw [← e]; exact List.mem_map_of_mem (List.getElem_mem hlt)))
      generalize s.all[i] = y at *
      have HO0 := Aside0.mk ho0
      have HTY := Aside0.mk (show T y = ⟨y.name, ⟨B1, y.sure.length, d1⟩, ⟨B2, y.loose.length, d2⟩⟩ by rw [HT.out]; dsimp only; rw [if_neg HNE.out]; unfold tri; rw [ho0.s1, ho0.s2])
      have HTF := Aside0.mk (show T f = ⟨f.name, ⟨A1, n1, c1⟩, ⟨A2, n2, c2⟩⟩ by rw [HT.out]; dsimp only; rw [if_pos rfl])
      have ho := ho0.below hbw
      have x0 := blk_cell hn3 0
      have x1 := blk_cell hn3 1
      have x2 := blk_cell hn3 2
      have fx0 := blk_frozen hn3 0
      have fx1 := blk_frozen hn3 1
      have fx2 := blk_frozen hn3 2
      simp only [List.getElem?_toArray, List.getElem?_cons_succ, List.getElem?_cons_zero] at x0 x1 x2
      have hp := ho.head
      have m0 := blk_cell hp 0
      have m1 := blk_cell hp 1
      have m2 := blk_cell hp 2
      have m3 := blk_cell hp 3
      have m4 := blk_cell hp 4
      have fm0 := blk_frozen hp 0
      have fm1 := blk_frozen hp 1
      have fm2 := blk_frozen hp 2
      have fm3 := blk_frozen hp 3
      have fm4 := blk_frozen hp 4
      simp only [List.getElem?_toArray, List.getElem?_cons_succ, List.getElem?_cons_zero] at m0 m1 m2 m3 m4
      have k0 := ho.k0
      have k1 := ho.k1
      have k2 := ho.k2
      have HRN := Aside0.mk hb.row
      have HBE := Aside0.mk hb.bel
      have hsl := hb.small
      have hrun := hb.run
      have HRUN := Aside0.mk hrun
      clear hbw hR hb hp ho hn3 ho0 hrun
      cases d with
      | true =>
        go_wp2
        refine start_ (n := 15) (S := fun w' => w'.cell? ⟨w.heap.size, 0, none⟩ = some (.string f.name) ∧ w'.cell? ⟨p, 0, none⟩ = some (.slice (some ⟨g, 0, none⟩) s.all.length cav) ∧ w'.cell? ⟨g, i * 3, none⟩ = some (.string y.name)) (ds := []) #[false, false, false, false, false, false, false, false, false, false, false, false, false, false, false] (by kernel_rfl) rfl rfl ⟨x0, m0, k0⟩ (fun hHeld => ?_)
        refine zq 0 (some 16) ?_
        refine zq 1 (some 17) ?_
        refine zq 2 (some 18) ?_
        refine pure_ (i := 3) (N := some 19) (v := undef) (a' := ?_) #[true, true, true, true, false, false, false, false, false, false, false, false, false, false, false] rfl rfl (by kernel_rfl) (fun _ _ _ h => h) (Or.inr ⟨by rfl, rfl⟩) ?_ ?_
        rotate_left
        · simp only [Act.put, zla, zlb, zlc, i64_w, i32_w]
          rfl
        refine pure_ (i := 4) (N := some 20) (v := undef) (a' := ?_) #[true, true, true, true, true, false, false, false, false, false, false, false, false, false, false] rfl rfl (by kernel_rfl) (fun _ _ _ h => h) (Or.inr ⟨by rfl, rfl⟩) ?_ ?_
        rotate_left
        · simp only [Act.put, zla, zlb, zlc, i64_w, i32_w]
          rfl
        refine pure_ (i := 5) (N := some 21) (v := undef) (a' := ?_) #[true, true, true, true, true, true, false, false, false, false, false, false, false, false, false] rfl rfl (by kernel_rfl) (fun _ _ _ h => h) (Or.inr ⟨by rfl, rfl⟩) ?_ ?_
        rotate_left
        · simp only [Act.put, zla, zlb, zlc, i64_w, i32_w]
          rfl
        refine pure_ (i := 6) (N := some 22) (v := undef) (a' := ?_) #[true, true, true, true, true, true, true, false, false, false, false, false, false, false, false] rfl rfl (by kernel_rfl) (fun _ _ _ h => h) (Or.inr ⟨by rfl, rfl⟩) ?_ ?_
        rotate_left
        · simp only [Act.put, zla, zlb, zlc, i64_w, i32_w]
          rfl
        refine pure_ (i := 7) (N := some 23) (v := undef) (a' := ?_) #[true, true, true, true, true, true, true, true, false, false, false, false, false, false, false] rfl rfl (by kernel_rfl) (fun _ _ _ h => h) (Or.inr ⟨by rfl, rfl⟩) ?_ ?_
        rotate_left
        · simp only [Act.put, zla, zlb, zlc, i64_w, i32_w]
          rfl
        refine pure_ (i := 8) (N := some 24) (v := undef) (a' := ?_) #[true, true, true, true, true, true, true, true, true, false, false, false, false, false, false] rfl rfl (by kernel_rfl) (fun _ _ _ h => h) (Or.inr ⟨by rfl, rfl⟩) ?_ ?_
        rotate_left
        · simp only [Act.put, zla, zlb, zlc, i64_w, i32_w]
          rfl
        refine pure_ (i := 9) (N := some 25) (v := undef) (a' := ?_) #[true, true, true, true, true, true, true, true, true, true, false, false, false, false, false] rfl rfl (by kernel_rfl) (fun _ _ _ h => h) (Or.inr ⟨by rfl, rfl⟩) ?_ ?_
        rotate_left
        · simp only [Act.put, zla, zlb, zlc, i64_w, i32_w]
          rfl
        refine pure_ (i := 10) (N := some 26) (v := undef) (a' := ?_) #[true, true, true, true, true, true, true, true, true, true, true, false, false, false, false] rfl rfl (by kernel_rfl) (fun _ _ _ h => h) (Or.inr ⟨by rfl, rfl⟩) ?_ ?_
        rotate_left
        · simp only [Act.put, zla, zlb, zlc, i64_w, i32_w]
          rfl
        refine pure_ (i := 11) (N := some 27) (v := undef) (a' := ?_) #[true, true, true, true, true, true, true, true, true, true, true, true, false, false, false] rfl rfl (by kernel_rfl) (fun _ _ _ h => h) (Or.inr ⟨by rfl, rfl⟩) ?_ ?_
        rotate_left
        · simp only [Act.put, zla, zlb, zlc, i64_w, i32_w]
          rfl
        refine pure_ (i := 12) (N := some 28) (v := undef) (a' := ?_) #[true, true, true, true, true, true, true, true, true, true, true, true, true, false, false] rfl rfl (by kernel_rfl) (fun _ _ _ h => h) (Or.inr ⟨by rfl, rfl⟩) ?_ ?_
        rotate_left
        · simp only [Act.put, zla, zlb, zlc, i64_w, i32_w]
          rfl
        refine pure_ (i := 13) (N := some 29) (v := undef) (a' := ?_) #[true, true, true, true, true, true, true, true, true, true, true, true, true, true, false] rfl rfl (by kernel_rfl) (fun _ _ _ h => h) (Or.inr ⟨by rfl, rfl⟩) ?_ ?_
        rotate_left
        · simp only [Act.put, zla, zlb, zlc, i64_w, i32_w]
          rfl
        refine zq 14 (some 30) ?_
        refine done_ (by kernel_rfl) ?_
        go_wp2_with (first | ((with_reducible refine gate_builtin (b := .append) (xs := #[.tmp 35, .tmp 43]) rfl ?_); at_builtin; refine Kd.R_append kT (w0 := (w.alloc (.cells #[.string f.name, .slice A1 n1 c1, .slice A2 n2 c2] 86))) (W := wr.drew) ((w.alloc (.cells #[.string f.name, .slice A1 n1 c1, .slice A2 n2 c2] 86))).heap.size rfl (.tmp 35) (.tmp 43) 82 86 (.agg #[(.string ⟨#[]⟩), (.slice none 0 0), (.slice none 0 0)]) 64 rfl Try.underlying82 info86 rfl (by decide) (by omega) u4 (acc.map T) (T y) [.string y.name, .slice B1 y.sure.length d1, .slice B2 y.loose.length d2] (fun _ => True) (fun _ => False) rfl rfl ?a1P (fun _ hk => hk.elim) ?a1F ?a1O ?a1B ?a1S ?a1L ?_; (case a1P => exact kT_M.2 (congrArg Tri.cells HTY.out).symm); (case a1F => exact (fun _ _ => trivial)); (case a1O => exact (by repeat (with_reducible first | exact HRN.out | apply Kd.R_drew | apply Kd.R_drewN))); (case a1B => exact (by repeat (with_reducible first | exact HBE.out | apply below_drew | apply pw_below_drewN))); (case a1S => exact (show ((w.alloc (.cells #[.string f.name, .slice A1 n1 c1, .slice A2 n2 c2] 86))).heap.size ≤ _ from (HBE.out).size)); (case a1L => simp only [List.length_append, List.length_map, List.length_singleton, List.length_cons, List.length_nil]; omega); intro v8 w8 ho hb hg hat; have HO8 := Aside0.mk ho; have HB8 := Aside0.mk hb; clear ho hb hg hat))
        have HX := Aside0.mk (show Puts (w.alloc (.cells #[.string f.name, .slice A1 n1 c1, .slice A2 n2 c2] 86)) w8 s.all T f (i + 1) true (acc ++ [y]) v8 from ⟨hlt, by rw [HTK.out, List.foldl_append, HRUN.out]; exact (show ins f (true, acc) y = _ from if_neg (fun h => nomatch h.1)), by have := HO8.out; simpa only [List.map_append, List.map_cons, List.map_nil, List.append_assoc, List.cons_append, List.nil_append] using this, HB8.out, by simp only [List.length_append, List.length_cons, List.length_nil]; omega⟩)
        go_roundw
        case rel => exact ⟨i + 1, true, _, by simp, rfl, HX.out⟩
        case measure => simp [intOf]; omega
      | false =>
        by_cases hx : lt f.name y.name = true
        · have HX0 := Aside0.mk hx
          have hbl : Op.bytesLess f.name.toList y.name.toList = true := by rw [bytesLess_lt]; exact hx
          clear hx
          go_wp2
          refine start_ (n := 15) (S := fun w' => w'.cell? ⟨w.heap.size, 0, none⟩ = some (.string f.name) ∧ w'.cell? ⟨p, 0, none⟩ = some (.slice (some ⟨g, 0, none⟩) s.all.length cav) ∧ w'.cell? ⟨g, i * 3, none⟩ = some (.string y.name)) (ds := []) #[false, false, false, false, false, false, false, false, false, false, false, false, false, false, false] (by kernel_rfl) rfl rfl ⟨x0, m0, k0⟩ (fun hHeld => ?_)
          refine zp 0 (some 16) ?_ rfl rfl (by kernel_rfl) (fun _ _ _ h => h) (by rfl) ?_ ?_ ?_ ?_ ?_
          rotate_left; · (intro w'; go_simp; with_reducible rfl)
          rotate_left 2; · (simp only [Act.put, zla, zlb, zlc, i64_w, i32_w, hbl]; rfl)
          refine zp 1 (some 17) ?_ rfl rfl (by kernel_rfl) (fun _ _ _ h => h) (by rfl) ?_ ?_ ?_ ?_ ?_
          rotate_left; · (intro w'; go_simp; with_reducible rfl)
          rotate_left 2; · (simp only [Act.put, zla, zlb, zlc, i64_w, i32_w, hbl]; rfl)
          refine zp 2 (some 18) ?_ rfl rfl (by kernel_rfl) (fun _ _ _ h => h) (by rfl) ?_ ?_ ?_ ?_ ?_
          rotate_left; · (intro w'; go_simp; with_reducible rfl)
          rotate_left 2; · (simp only [Act.put, zla, zlb, zlc, i64_w, i32_w, hbl]; rfl)
          refine zp 3 (some 19) ?_ rfl rfl (by kernel_rfl) (fun _ _ _ h => h) (by rfl) ?_ ?_ ?_ ?_ ?_
          rotate_left; · (intro w'; go_simp; with_reducible rfl)
          rotate_left 2; · (simp only [Act.put, zla, zlb, zlc, i64_w, i32_w, hbl]; rfl)
          refine zp 5 (some 21) ?_ rfl rfl (by kernel_rfl) (fun _ _ _ h => h) (by rfl) ?_ ?_ ?_ ?_ ?_
          rotate_left; · (intro w'; go_simp; with_reducible rfl)
          rotate_left 2; · (simp only [Act.put, zla, zlb, zlc, i64_w, i32_w, hbl]; rfl)
          refine zp 6 (some 22) ?_ rfl rfl (by kernel_rfl) (fun _ _ _ h => h) (by rfl) ?_ ?_ ?_ ?_ ?_
          rotate_left; · (intro w'; go_simp; with_reducible rfl)
          rotate_left 2; · (simp only [Act.put, zla, zlb, zlc, i64_w, i32_w, hbl]; rfl)
          refine zp 7 (some 23) ?_ rfl rfl (by kernel_rfl) (fun _ _ _ h => h) (by rfl) ?_ ?_ ?_ ?_ ?_
          rotate_left; · (intro w'; go_simp; with_reducible rfl)
          rotate_left 2; · (simp only [Act.put, zla, zlb, zlc, i64_w, i32_w, hbl]; rfl)
          refine zp 9 (some 25) ?_ rfl rfl (by kernel_rfl) (fun _ _ _ h => h) (by rfl) ?_ ?_ ?_ ?_ ?_
          rotate_left; · (intro w'; go_simp; with_reducible rfl)
          rotate_left 2; · (simp only [Act.put, zla, zlb, zlc, i64_w, i32_w, hbl]; rfl)
          refine zt 4 (some 20) ?_ rfl rfl (by kernel_rfl) (fun _ _ _ h => h) (by rfl) ?_ hHeld ?_ ?_ ?_ ?_
          rotate_left; · (rintro w' ⟨s0, s1, s2⟩; go_simp; with_reducible rfl)
          rotate_left 2; · (simp only [Act.put, zla, zlb, zlc, i64_w, i32_w, hbl]; rfl)
          refine zt 8 (some 24) ?_ rfl rfl (by kernel_rfl) (fun _ _ _ h => h) (by rfl) ?_ hHeld ?_ ?_ ?_ ?_
          rotate_left; · (rintro w' ⟨s0, s1, s2⟩; go_simp; with_reducible rfl)
          rotate_left 2; · (simp only [Act.put, zla, zlb, zlc, i64_w, i32_w, hbl]; rfl)
          refine zp 10 (some 26) ?_ rfl rfl (by kernel_rfl) (fun _ _ _ h => h) (by rfl) ?_ ?_ ?_ ?_ ?_
          rotate_left; · (intro w'; go_simp; with_reducible rfl)
          rotate_left 2; · (simp only [Act.put, zla, zlb, zlc, i64_w, i32_w, hbl]; rfl)
          refine zp 11 (some 27) ?_ rfl rfl (by kernel_rfl) (fun _ _ _ h => h) (by rfl) ?_ ?_ ?_ ?_ ?_
          rotate_left; · (intro w'; go_simp; with_reducible rfl)
          rotate_left 2; · (simp only [Act.put, zla, zlb, zlc, i64_w, i32_w, hbl]; rfl)
          refine zt 12 (some 28) ?_ rfl rfl (by kernel_rfl) (fun _ _ _ h => h) (by rfl) ?_ hHeld ?_ ?_ ?_ ?_
          rotate_left; · (rintro w' ⟨s0, s1, s2⟩; go_simp; with_reducible rfl)
          rotate_left 2; · (simp only [Act.put, zla, zlb, zlc, i64_w, i32_w, hbl]; rfl)
          refine zp 13 (some 29) ?_ rfl rfl (by kernel_rfl) (fun _ _ _ h => h) (by rfl) ?_ ?_ ?_ ?_ ?_
          rotate_left; · (intro w'; go_simp; with_reducible rfl)
          rotate_left 2; · (simp only [Act.put, zla, zlb, zlc, i64_w, i32_w, hbl]; rfl)
          refine zp 14 (some 30) ?_ rfl rfl (by kernel_rfl) (fun _ _ _ h => h) (by rfl) ?_ ?_ ?_ ?_ ?_
          rotate_left; · (intro w'; go_simp; with_reducible rfl)
          rotate_left 2; · (simp only [Act.put, zla, zlb, zlc, i64_w, i32_w, hbl]; rfl)
          refine done_ (by kernel_rfl) ?_
          go_wp2_with (first | ((with_reducible refine gate_builtin (b := .append) (xs := #[.tmp 31, .tmp 33]) rfl ?_); at_builtin; refine Kd.R_append kT (w0 := (w.alloc (.cells #[.string f.name, .slice A1 n1 c1, .slice A2 n2 c2] 86))) (W := wr.drew) ((w.alloc (.cells #[.string f.name, .slice A1 n1 c1, .slice A2 n2 c2] 86))).heap.size rfl (.tmp 31) (.tmp 33) 82 86 (.agg #[(.string ⟨#[]⟩), (.slice none 0 0), (.slice none 0 0)]) 64 rfl Try.underlying82 info86 rfl (by decide) (by omega) u4 (acc.map T) (T f) [.string f.name, .slice A1 n1 c1, .slice A2 n2 c2] (fun _ => True) (fun _ => False) rfl rfl ?a1P (fun _ hk => hk.elim) ?a1F ?a1O ?a1B ?a1S ?a1L ?_; (case a1P => exact kT_M.2 (congrArg Tri.cells HTF.out).symm); (case a1F => exact (fun _ _ => trivial)); (case a1O => exact (by repeat (with_reducible first | exact HRN.out | apply Kd.R_drew | apply Kd.R_drewN))); (case a1B => exact (by repeat (with_reducible first | exact HBE.out | apply below_drew | apply pw_below_drewN))); (case a1S => exact (show ((w.alloc (.cells #[.string f.name, .slice A1 n1 c1, .slice A2 n2 c2] 86))).heap.size ≤ _ from (HBE.out).size)); (case a1L => simp only [List.length_append, List.length_map, List.length_singleton, List.length_cons, List.length_nil]; omega); intro v7 w7 ho hb hg hat; have HO7 := Aside0.mk ho; have HB7 := Aside0.mk hb; clear ho hb hg hat; have hn9 := (HB7.out.block w.heap.size (by rw [HW.out]; omega)).trans (heap_alloc_new w _); have y0 := blk_cell hn9 0; have y1 := blk_cell hn9 1; have y2 := blk_cell hn9 2; simp only [List.getElem?_toArray, List.getElem?_cons_succ, List.getElem?_cons_zero] at y0 y1 y2; have ho7 := HO0.out.below ((below_alloc (Below.refl _ _) _).trans (HB7.out.mono (by rw [HW.out]; omega))); have hp7 := ho7.head; have z0 := blk_cell hp7 0; simp only [List.getElem?_toArray, List.getElem?_cons_succ, List.getElem?_cons_zero] at z0; have q0 := ho7.k0; have q1 := ho7.k1; have q2 := ho7.k2; have HR7 := Aside0.mk (show kT.R 86 w7 (w.alloc (.cells #[.string f.name, .slice A1 n1 c1, .slice A2 n2 c2] 86)).heap.size (fun _ => True) v7 ((acc ++ [f]).map T) by rw [List.map_append]; exact HO7.out); clear hn9 ho7 hp7) | ((with_reducible refine gate_builtin (b := .append) (xs := #[.tmp 35, .tmp 43]) rfl ?_); at_builtin; refine Kd.R_append kT (w0 := (w.alloc (.cells #[.string f.name, .slice A1 n1 c1, .slice A2 n2 c2] 86))) (W := w7) ((w.alloc (.cells #[.string f.name, .slice A1 n1 c1, .slice A2 n2 c2] 86))).heap.size rfl (.tmp 35) (.tmp 43) 82 86 (.agg #[(.string ⟨#[]⟩), (.slice none 0 0), (.slice none 0 0)]) 64 rfl Try.underlying82 info86 rfl (by decide) (by omega) v7 ((acc ++ [f]).map T) (T y) [.string y.name, .slice B1 y.sure.length d1, .slice B2 y.loose.length d2] (fun _ => True) (fun _ => False) rfl rfl ?a2P (fun _ hk => hk.elim) ?a2F ?a2O ?a2B ?a2S ?a2L ?_; (case a2P => exact kT_M.2 (congrArg Tri.cells HTY.out).symm); (case a2F => exact (fun _ _ => trivial)); (case a2O => exact (by repeat (with_reducible first | exact HR7.out | apply Kd.R_drew | apply Kd.R_drewN))); (case a2B => exact (by repeat (with_reducible first | exact HB7.out | apply below_drew | apply pw_below_drewN))); (case a2S => exact (show ((w.alloc (.cells #[.string f.name, .slice A1 n1 c1, .slice A2 n2 c2] 86))).heap.size ≤ _ from (HB7.out).size)); (case a2L => simp only [List.length_append, List.length_map, List.length_singleton, List.length_cons, List.length_nil]; omega); intro v8 w8 ho hb hg hat; have HO8 := Aside0.mk ho; have HB8 := Aside0.mk hb; clear ho hb hg hat))
          have HX := Aside0.mk (show Puts (w.alloc (.cells #[.string f.name, .slice A1 n1 c1, .slice A2 n2 c2] 86)) w8 s.all T f (i + 1) true (acc ++ [f] ++ [y]) v8 from ⟨hlt, by rw [HTK.out, List.foldl_append, HRUN.out]; exact (show ins f (false, acc) y = _ from by rw [List.append_assoc]; exact if_pos ⟨rfl, HX0.out⟩), by have := HO8.out; simpa only [List.map_append, List.map_cons, List.map_nil, List.append_assoc, List.cons_append, List.nil_append] using this, HB8.out, by simp only [List.length_append, List.length_cons, List.length_nil]; omega⟩)
          go_roundw
          case rel => exact ⟨i + 1, true, _, by simp, rfl, HX.out⟩
          case measure => simp [intOf]; omega
        · have HX0 := Aside0.mk hx
          have hbl : Op.bytesLess f.name.toList y.name.toList = false := by rw [bytesLess_lt]; simpa using hx
          clear hx
          go_wp2
          refine start_ (n := 15) (S := fun w' => w'.cell? ⟨w.heap.size, 0, none⟩ = some (.string f.name) ∧ w'.cell? ⟨p, 0, none⟩ = some (.slice (some ⟨g, 0, none⟩) s.all.length cav) ∧ w'.cell? ⟨g, i * 3, none⟩ = some (.string y.name)) (ds := []) #[false, false, false, false, false, false, false, false, false, false, false, false, false, false, false] (by kernel_rfl) rfl rfl ⟨x0, m0, k0⟩ (fun hHeld => ?_)
          refine zp 0 (some 16) ?_ rfl rfl (by kernel_rfl) (fun _ _ _ h => h) (by rfl) ?_ ?_ ?_ ?_ ?_
          rotate_left; · (intro w'; go_simp; with_reducible rfl)
          rotate_left 2; · (simp only [Act.put, zla, zlb, zlc, i64_w, i32_w, hbl]; rfl)
          refine zp 1 (some 17) ?_ rfl rfl (by kernel_rfl) (fun _ _ _ h => h) (by rfl) ?_ ?_ ?_ ?_ ?_
          rotate_left; · (intro w'; go_simp; with_reducible rfl)
          rotate_left 2; · (simp only [Act.put, zla, zlb, zlc, i64_w, i32_w, hbl]; rfl)
          refine zp 2 (some 18) ?_ rfl rfl (by kernel_rfl) (fun _ _ _ h => h) (by rfl) ?_ ?_ ?_ ?_ ?_
          rotate_left; · (intro w'; go_simp; with_reducible rfl)
          rotate_left 2; · (simp only [Act.put, zla, zlb, zlc, i64_w, i32_w, hbl]; rfl)
          refine zp 3 (some 19) ?_ rfl rfl (by kernel_rfl) (fun _ _ _ h => h) (by rfl) ?_ ?_ ?_ ?_ ?_
          rotate_left; · (intro w'; go_simp; with_reducible rfl)
          rotate_left 2; · (simp only [Act.put, zla, zlb, zlc, i64_w, i32_w, hbl]; rfl)
          refine zp 5 (some 21) ?_ rfl rfl (by kernel_rfl) (fun _ _ _ h => h) (by rfl) ?_ ?_ ?_ ?_ ?_
          rotate_left; · (intro w'; go_simp; with_reducible rfl)
          rotate_left 2; · (simp only [Act.put, zla, zlb, zlc, i64_w, i32_w, hbl]; rfl)
          refine zp 6 (some 22) ?_ rfl rfl (by kernel_rfl) (fun _ _ _ h => h) (by rfl) ?_ ?_ ?_ ?_ ?_
          rotate_left; · (intro w'; go_simp; with_reducible rfl)
          rotate_left 2; · (simp only [Act.put, zla, zlb, zlc, i64_w, i32_w, hbl]; rfl)
          refine zp 7 (some 23) ?_ rfl rfl (by kernel_rfl) (fun _ _ _ h => h) (by rfl) ?_ ?_ ?_ ?_ ?_
          rotate_left; · (intro w'; go_simp; with_reducible rfl)
          rotate_left 2; · (simp only [Act.put, zla, zlb, zlc, i64_w, i32_w, hbl]; rfl)
          refine zp 9 (some 25) ?_ rfl rfl (by kernel_rfl) (fun _ _ _ h => h) (by rfl) ?_ ?_ ?_ ?_ ?_
          rotate_left; · (intro w'; go_simp; with_reducible rfl)
          rotate_left 2; · (simp only [Act.put, zla, zlb, zlc, i64_w, i32_w, hbl]; rfl)
          refine zt 4 (some 20) ?_ rfl rfl (by kernel_rfl) (fun _ _ _ h => h) (by rfl) ?_ hHeld ?_ ?_ ?_ ?_
          rotate_left; · (rintro w' ⟨s0, s1, s2⟩; go_simp; with_reducible rfl)
          rotate_left 2; · (simp only [Act.put, zla, zlb, zlc, i64_w, i32_w, hbl]; rfl)
          refine zt 8 (some 24) ?_ rfl rfl (by kernel_rfl) (fun _ _ _ h => h) (by rfl) ?_ hHeld ?_ ?_ ?_ ?_
          rotate_left; · (rintro w' ⟨s0, s1, s2⟩; go_simp; with_reducible rfl)
          rotate_left 2; · (simp only [Act.put, zla, zlb, zlc, i64_w, i32_w, hbl]; rfl)
          refine zp 10 (some 26) ?_ rfl rfl (by kernel_rfl) (fun _ _ _ h => h) (by rfl) ?_ ?_ ?_ ?_ ?_
          rotate_left; · (intro w'; go_simp; with_reducible rfl)
          rotate_left 2; · (simp only [Act.put, zla, zlb, zlc, i64_w, i32_w, hbl]; rfl)
          refine zp 11 (some 27) ?_ rfl rfl (by kernel_rfl) (fun _ _ _ h => h) (by rfl) ?_ ?_ ?_ ?_ ?_
          rotate_left; · (intro w'; go_simp; with_reducible rfl)
          rotate_left 2; · (simp only [Act.put, zla, zlb, zlc, i64_w, i32_w, hbl]; rfl)
          refine zt 12 (some 28) ?_ rfl rfl (by kernel_rfl) (fun _ _ _ h => h) (by rfl) ?_ hHeld ?_ ?_ ?_ ?_
          rotate_left; · (rintro w' ⟨s0, s1, s2⟩; go_simp; with_reducible rfl)
          rotate_left 2; · (simp only [Act.put, zla, zlb, zlc, i64_w, i32_w, hbl]; rfl)
          refine zp 13 (some 29) ?_ rfl rfl (by kernel_rfl) (fun _ _ _ h => h) (by rfl) ?_ ?_ ?_ ?_ ?_
          rotate_left; · (intro w'; go_simp; with_reducible rfl)
          rotate_left 2; · (simp only [Act.put, zla, zlb, zlc, i64_w, i32_w, hbl]; rfl)
          refine zp 14 (some 30) ?_ rfl rfl (by kernel_rfl) (fun _ _ _ h => h) (by rfl) ?_ ?_ ?_ ?_ ?_
          rotate_left; · (intro w'; go_simp; with_reducible rfl)
          rotate_left 2; · (simp only [Act.put, zla, zlb, zlc, i64_w, i32_w, hbl]; rfl)
          refine done_ (by kernel_rfl) ?_
          go_wp2_with (first | ((with_reducible refine gate_builtin (b := .append) (xs := #[.tmp 35, .tmp 43]) rfl ?_); at_builtin; refine Kd.R_append kT (w0 := (w.alloc (.cells #[.string f.name, .slice A1 n1 c1, .slice A2 n2 c2] 86))) (W := wr.drew) ((w.alloc (.cells #[.string f.name, .slice A1 n1 c1, .slice A2 n2 c2] 86))).heap.size rfl (.tmp 35) (.tmp 43) 82 86 (.agg #[(.string ⟨#[]⟩), (.slice none 0 0), (.slice none 0 0)]) 64 rfl Try.underlying82 info86 rfl (by decide) (by omega) u4 (acc.map T) (T y) [.string y.name, .slice B1 y.sure.length d1, .slice B2 y.loose.length d2] (fun _ => True) (fun _ => False) rfl rfl ?a1P (fun _ hk => hk.elim) ?a1F ?a1O ?a1B ?a1S ?a1L ?_; (case a1P => exact kT_M.2 (congrArg Tri.cells HTY.out).symm); (case a1F => exact (fun _ _ => trivial)); (case a1O => exact (by repeat (with_reducible first | exact HRN.out | apply Kd.R_drew | apply Kd.R_drewN))); (case a1B => exact (by repeat (with_reducible first | exact HBE.out | apply below_drew | apply pw_below_drewN))); (case a1S => exact (show ((w.alloc (.cells #[.string f.name, .slice A1 n1 c1, .slice A2 n2 c2] 86))).heap.size ≤ _ from (HBE.out).size)); (case a1L => simp only [List.length_append, List.length_map, List.length_singleton, List.length_cons, List.length_nil]; omega); intro v8 w8 ho hb hg hat; have HO8 := Aside0.mk ho; have HB8 := Aside0.mk hb; clear ho hb hg hat))
          have HX := Aside0.mk (show Puts (w.alloc (.cells #[.string f.name, .slice A1 n1 c1, .slice A2 n2 c2] 86)) w8 s.all T f (i + 1) false (acc ++ [y]) v8 from ⟨hlt, by rw [HTK.out, List.foldl_append, HRUN.out]; exact (show ins f (false, acc) y = _ from if_neg (fun h => HX0.out h.2)), by have := HO8.out; simpa only [List.map_append, List.map_cons, List.map_nil, List.append_assoc, List.cons_append, List.nil_append] using this, HB8.out, by simp only [List.length_append, List.length_cons, List.length_nil]; omega⟩)
          go_roundw
          case rel => exact ⟨i + 1, false, _, by simp, rfl, HX.out⟩
          case measure => simp [intOf]; omega
    · have hi : i = s.all.length := by have := hb.le; omega
      subst hi
      have hp := hR.head
      have hn := hR.files.len
      rw [show av.v = .slice av.A s.all.length av.c by unfold Sl.v; rw [hn]] at hp
      have m0 := blk_cell hp 0
      have m1 := blk_cell hp 1
      have m2 := blk_cell hp 2
      have m3 := blk_cell hp 3
      have m4 := blk_cell hp 4
      have fm0 := blk_frozen hp 0
      have fm1 := blk_frozen hp 1
      have fm2 := blk_frozen hp 2
      have fm3 := blk_frozen hp 3
      have fm4 := blk_frozen hp 4
      simp only [List.getElem?_toArray, List.getElem?_cons_succ, List.getElem?_cons_zero] at m0 m1 m2 m3 m4
      have x0 := blk_cell hn3 0
      have x1 := blk_cell hn3 1
      have x2 := blk_cell hn3 2
      have fx0 := blk_frozen hn3 0
      have fx1 := blk_frozen hn3 1
      have fx2 := blk_frozen hn3 2
      simp only [List.getElem?_toArray, List.getElem?_cons_succ, List.getElem?_cons_zero] at x0 x1 x2
      have hltp := blk_lt hp
      have HP := Aside0.mk hp
      have HRN := Aside0.mk hb.row
      have hrun := hb.run
      rw [List.take_length] at hrun
      have HFIN := Aside0.mk (ins_put f s.all [])
      rw [hrun] at HFIN
      have hsl := hb.small
      have hpl := blk_lt H.out.head
      have HTF := Aside0.mk (show T f = ⟨f.name, ⟨A1, n1, c1⟩, ⟨A2, n2, c2⟩⟩ by rw [HT.out]; dsimp only; rw [if_pos rfl])
      have HBE := Aside0.mk hb.bel
      obtain ⟨V, nV, cV, hV⟩ : ∃ A n c, u4 = Value.slice A n c := by
        obtain ⟨A, c, h1, _⟩ := Kd.R_reads hb.row
        exact ⟨A, _, c, h1⟩
      subst hV
      clear hb hR hp hn3 hrun hbw
      cases d with
      | true =>
        go_wp2
        first | go_end0 | ((try simp only [Exit.inBlock, Exit.then]); refine bodyPost_ret (results_none rfl _ _ _) rfl ?_)
        have hx := put_end (av' := ⟨V, nV, cV⟩) HBW.out HRN.out (by rw [HW.out]; omega) H.out.head
        rw [show acc = put f s.all from HFIN.out] at hx
        exact ⟨rfl, ⟨V, nV, cV⟩, hx⟩
      | false =>
        go_wp2_with (first | ((with_reducible refine gate_builtin (b := .append) (xs := #[.tmp 47, .tmp 49]) rfl ?_); at_builtin; refine Kd.R_append kT (w0 := (w.alloc (.cells #[.string f.name, .slice A1 n1 c1, .slice A2 n2 c2] 86))) (W := wr) ((w.alloc (.cells #[.string f.name, .slice A1 n1 c1, .slice A2 n2 c2] 86))).heap.size rfl (.tmp 47) (.tmp 49) 82 86 (.agg #[(.string ⟨#[]⟩), (.slice none 0 0), (.slice none 0 0)]) 64 rfl Try.underlying82 info86 rfl (by decide) (by omega) (.slice V nV cV) (acc.map T) (T f) [.string f.name, .slice A1 n1 c1, .slice A2 n2 c2] (fun _ => True) (fun _ => False) rfl rfl ?a3P (fun _ hk => hk.elim) ?a3F ?a3O ?a3B ?a3S ?a3L ?_; (case a3P => exact kT_M.2 (congrArg Tri.cells HTF.out).symm); (case a3F => exact (fun _ _ => trivial)); (case a3O => exact (by repeat (with_reducible first | exact HRN.out | apply Kd.R_drew | apply Kd.R_drewN))); (case a3B => exact (by repeat (with_reducible first | exact HBE.out | apply below_drew | apply pw_below_drewN))); (case a3S => exact (show ((w.alloc (.cells #[.string f.name, .slice A1 n1 c1, .slice A2 n2 c2] 86))).heap.size ≤ _ from (HBE.out).size)); (case a3L => simp only [List.length_append, List.length_map, List.length_singleton, List.length_cons, List.length_nil]; omega); intro v8 w8 ho hb hg hat; have HO8 := Aside0.mk ho; have HB8 := Aside0.mk hb; clear ho hb hg hat; obtain ⟨V9, c9, he9, _, _⟩ := Kd.R_reads HO8.out; subst he9; have hn9 := HO8.out; have hp9 := (HB8.out.block p (by rw [HW.out]; omega)).trans ((heap_alloc_lt w _ p hpl).trans H.out.head); have z0 := blk_cell hp9 0; have fz0 := blk_frozen hp9 0; simp only [List.getElem?_toArray, List.getElem?_cons_succ, List.getElem?_cons_zero] at z0; clear hn9 hp9))
        first | go_end0 | ((try simp only [Exit.inBlock, Exit.then]); refine bodyPost_ret (results_none rfl _ _ _) rfl ?_)
        have hx := put_end (av' := ⟨V9, acc.length + 1, c9⟩) ((below_alloc (Below.refl _ _) _).trans (HB8.out.mono (by rw [HW.out]; omega))) (by have := HO8.out; rw [show (acc.map T ++ [T f]).length = acc.length + 1 by simp] at this; exact this) (by rw [HW.out]; omega) H.out.head
        rw [show acc.map T ++ [T f] = (put f s.all).map T by rw [← show acc ++ [f] = put f s.all from HFIN.out, List.map_append]; rfl] at hx
        exact ⟨rfl, ⟨V9, acc.length + 1, c9⟩, hx⟩
end Go.Proofs.Ytfholpajdkjbbaa.DK
/- The reference's disk: a file put in, one taken out; conditions: those in each theorem. -/
namespace Go.Proofs.Ytfholpajdkjbbaa.DK
open Go.Proofs.Ytfholpajdkjbbaa.PD
open Go.RowKit Go.Proofs.YtfholpajdkjbbaaW.PrintWords Go.Proofs.YtfholpajdkjbbaaW.PrintLast Go.Proofs.YtfholpajdkjbbaaW.PrintMore Go.Proofs.Ytfholpajdkjbbaa.Mo
set_option linter.unusedVariables false
set_option linter.unusedSimpArgs false
theorem rput_done {w w' : World} {p : Nat} {X X' : Nat → Prop} {s : St} {av av' : Sl} {rv : Bool → ByteArray → Sl} {a : Int} (h : RDisk w p X s av rv a) (f : F) (hnm : f.name ∉ namesOf s.all) (t1 t2 : Sl)
    (hT : kT.R 86 w' 0 (fun _ => True) av'.v ((put f s.all).map (fun x => if x.name = f.name then ⟨f.name, t1, t2⟩ else tri rv x))) (hu : Upd (fun k => k = p) w w')
    (hp : w'.heap[p]? = some (.cells #[av'.v, .bool s.down, .int .i64 s.left, .int .i64 a, .int .i64 s.fails] 84 (0, 0))) (h1 : Row w t1.v f.sure) (h2 : Row w t2.v f.loose) (hd : Dis t1.v t2.v)
    (hX : ∀ k, X k → X' k) (hx1 : ∀ k, t1.v.ownBlock = some k → X' k ∧ ¬ X k) (hx2 : ∀ k, t2.v.ownBlock = some k → X' k ∧ ¬ X k) (hxo : ∀ k, av'.v.ownBlock = some k → X' k) (hbd : ∀ k, X' k → k < w'.heap.size) :
    RDisk w' p X' { s with all := put f s.all } av' (fun b n => if n = f.name then (if b then t2 else t1) else rv b n) a := by
  have hpr : ∀ (t : Sl) (xs : List Int), Row w t.v xs → t.v.ownBlock ≠ some p := fun t xs hr e => by
    obtain ⟨c, hc⟩ := hr.typed e
    exact blk_ne hc h.head (by decide) rfl
  refine ⟨hp, h.aft, hX p h.xp, hbd, ?_⟩
  refine h.files.gen2 (Y := fun k => k = p) ?_ f.name (fun b => if b then t2 else t1) (fun x hx hne => ?_) (fun x hx he b => ?_) hd (fun b g hg hne c k hk hk2 => ?_) hu (fun x hx b k hk e => h.ne_row hx b (e ▸ hk)) ?_ hX (fun b k hk => ?_) hxo
  · have hperm := (put_perm f s.all).map (·.name)
    exact hperm.nodup_iff.2 (List.nodup_cons.2 ⟨hnm, h.files.nd⟩)
  · rcases mem_put.1 hx with rfl | hx
    · exact absurd rfl hne
    · exact hx
  · have : x = f := by
      rcases mem_put.1 hx with e | hx
      · exact e
      · exact absurd (List.mem_map_of_mem (f := (·.name)) hx) (he ▸ hnm)
    subst this
    cases b
    · exact h1.upd hu (fun k hk e => hpr t1 _ h1 (e ▸ hk))
    · exact h2.upd hu (fun k hk e => hpr t2 _ h2 (e ▸ hk))
  · have hgm : g ∈ s.all := by
      rcases mem_put.1 hg with rfl | hg
      · exact absurd rfl hne
      · exact hg
    have hxk := h.files.xr g hgm c k hk2
    cases b
    · exact (hx1 k hk).2 hxk
    · exact (hx2 k hk).2 hxk
  · refine (List.map_congr_left (fun x _ => ?_)) ▸ hT
    by_cases e : x.name = f.name
    · simp only [if_pos e, tri, e]
      rfl
    · simp only [if_neg e, tri]
  · cases b
    · exact (hx1 k hk).1
    · exact (hx2 k hk).1
theorem remove_done {w w' : World} {p : Nat} {X X' : Nat → Prop} {s : St} {av av' : Sl} {rv : Bool → ByteArray → Sl} {a : Int} (h : RDisk w p X s av rv a) (l' : List F) (hl : l'.Sublist s.all)
    (hT : kT.R 86 w' 0 (fun _ => True) av'.v (l'.map (tri rv))) (hu : Upd (fun k => k = p) w w')
    (hp : w'.heap[p]? = some (.cells #[av'.v, .bool s.down, .int .i64 s.left, .int .i64 a, .int .i64 s.fails] 84 (0, 0)))
    (hX : ∀ k, X k → X' k) (hxo : ∀ k, av'.v.ownBlock = some k → X' k) (hbd : ∀ k, X' k → k < w'.heap.size) :
    RDisk w' p X' { s with all := l' } av' rv a :=
  ⟨hp, h.aft, hX p h.xp, hbd, ⟨hT, fun f hf b => (h.files.row f (hl.subset hf) b).upd hu (fun k hk e => h.ne_row (hl.subset hf) b (e ▸ hk)), fun f hf g hg => h.files.di f (hl.subset hf) g (hl.subset hg), (hl.map _).nodup h.files.nd, hxo, fun f hf b k hk => hX k (h.files.xr f (hl.subset hf) b k hk)⟩⟩
end Go.Proofs.Ytfholpajdkjbbaa.DK
/- The reference's disk: Remove; conditions: those in each theorem. -/
namespace Go.Proofs.Ytfholpajdkjbbaa.DK
open Go.Proofs.Ytfholpajdkjbbaa.PD
open Go.RowKit Go.Proofs.YtfholpajdkjbbaaW.PrintWords Go.Proofs.YtfholpajdkjbbaaW.PrintLast Go.Proofs.YtfholpajdkjbbaaW.PrintMore Go.Proofs.Ytfholpajdkjbbaa.Mo
set_option linter.unusedVariables false
set_option linter.unusedSimpArgs false
def without (nm : ByteArray) (l : List F) : List F := l.filter fun f => decide (f.name ≠ nm)
theorem without_snoc (nm : ByteArray) (l : List F) (y : F) : without nm (l ++ [y]) = if y.name = nm then without nm l else without nm l ++ [y] := by
  unfold without
  rw [List.filter_append]
  by_cases h : y.name = nm
  · rw [if_pos h, List.filter_cons_of_neg (by simp [h])]
    exact List.append_nil _
  · rw [if_neg h, List.filter_cons_of_pos (by simp [h])]
    rfl
structure Drops (w3 wr : World) (l : List F) (T : F → Tri) (nm : ByteArray) (i : Nat) (v : Value) : Prop where
  le : i ≤ l.length
  row : kT.R 86 wr w3.heap.size (fun _ => True) v ((without nm (l.take i)).map T)
  bel : Below w3.heap.size w3 wr
  small : (without nm (l.take i)).length ≤ i
def DropsE (w3 : World) (l : List F) (T : F → Tri) (nm : ByteArray) (v iv : Value) (wr : World) : Prop := ∃ i : Nat, iv = .int .i64 i ∧ Drops w3 wr l T nm i v
set_option maxHeartbeats 8000000 in
set_option maxRecDepth 100000 in
theorem rremove_calls (w : World) (p : Nat) (X : Nat → Prop) (s : St) (nm : ByteArray) (h : RefD w p X s) (ok : Ok s) : Calls Try.prog 67 #[.pointer (some ⟨p, 0, none⟩), .string nm] w fun e w' => e = .returned (.int .i64 (s.remove nm).2) ∧ RStep p X w w' (s.remove nm).1 := by
  have HT := Aside0.mk (rthere_calls w p X s nm h ok)
  unfold TherePost at HT
  unfold St.remove St.change
  by_cases hc0 : (s.there nm).2 ≠ 0
  · rw [if_pos hc0]
    generalize s.there nm = r at *
    obtain ⟨s1, c1⟩ := r
    dsimp only at *
    have hb1 : (c1 == 0) = false := by simpa using hc0
    have hb2 : (c1 != 0) = true := by simpa using hc0
    clear hc0 h ok
    go_enter Try.func67, Try.ntmps67
    go_wp2_with (go_at_call 78; refine HT.out.mono ?_; rintro e w1 ⟨i, rfl, hP, _⟩)
    go_ret
    exact ⟨rfl, hP⟩
  · rw [if_neg hc0]
    have hc1 : (s.there nm).2 = 0 := by omega
    obtain ⟨f, hf⟩ := there_find hc1
    have HF := Aside0.mk hf
    have hall := there_all s nm
    have hfew := ok.few
    rw [hc1] at HT
    generalize (s.there nm).1 = s1 at *
    have HALL := Aside0.mk hall
    rw [← hall] at hfew
    clear hc0 hc1 h ok hf hall
    go_enter Try.func67, Try.ntmps67
    go_wp2_with fail
    refine HT.out.mono ?_
    rintro e w1 ⟨r, rfl, h1, hfd⟩
    obtain ⟨i0, rfl, hi0, hfi⟩ := find_idx (hfd (by trivial)) HF.out
    have hnmf := (find_some HF.out).2
    have H1 := Aside0.mk h1
    obtain ⟨⟨av, rv, a, hR⟩, hU⟩ := h1
    have hi : i0 < s1.all.length := by rw [HALL.out]; exact hi0
    have HI0 := Aside0.mk (show ∀ (j : Nat) (hj : j < s1.all.length), (s1.all[j]).name = nm ↔ j = i0 from fun j hj => by
      have e0 : (s1.all[i0]).name = nm := by simp only [HALL.out, hfi]; exact hnmf
      refine ⟨fun e => ?_, fun e => by subst e; exact e0⟩
      have hp := List.pairwise_map.1 hR.files.nd
      rcases Nat.lt_trichotomy j i0 with hji | hji | hji
      · exact absurd (e.trans e0.symm) (List.pairwise_iff_getElem.1 hp j i0 hj hi hji)
      · exact hji
      · exact absurd (e0.trans e.symm) (List.pairwise_iff_getElem.1 hp i0 j hi hj hji))
    have H := Aside0.mk hR
    have hi0l : i0 ≤ 400 := by omega
    clear hfd hfi hnmf hR hU hi hi0
    go_wp2
    go_loopw [7, 8] (fun v iv wr => DropsE w1 s1.all (tri rv) nm v iv wr) (fun _ iv _ => s1.all.length - (intOf iv).toNat)
    case atStart => exact ⟨0, rfl, Nat.zero_le _, Kd.R_nil _ _ _ _ _, Below.refl _ _, Nat.zero_le _⟩
    case round =>
      obtain ⟨i, rfl, hb⟩ := hrel
      have HB := Aside0.mk hb
      by_cases hlt : i < s1.all.length
      · obtain ⟨g, cav, B1, d1, B2, d2, ho0⟩ := H.out.open_ i hlt
        have HTK := Aside0.mk (take_snoc' s1.all i hlt)
        have HII := Aside0.mk (HI0.out i hlt)
        generalize s1.all[i] = y at *
        have HTY := Aside0.mk (show tri rv y = ⟨y.name, ⟨B1, y.sure.length, d1⟩, ⟨B2, y.loose.length, d2⟩⟩ by unfold tri; rw [ho0.s1, ho0.s2])
        have ho := ho0.below hb.bel
        have hp := ho.head
        have m0 := blk_cell hp 0
        have m1 := blk_cell hp 1
        have m2 := blk_cell hp 2
        have m3 := blk_cell hp 3
        have m4 := blk_cell hp 4
        have fm0 := blk_frozen hp 0
        have fm1 := blk_frozen hp 1
        have fm2 := blk_frozen hp 2
        have fm3 := blk_frozen hp 3
        have fm4 := blk_frozen hp 4
        simp only [List.getElem?_toArray, List.getElem?_cons_succ, List.getElem?_cons_zero] at m0 m1 m2 m3 m4
        have k0 := ho.k0
        have k1 := ho.k1
        have k2 := ho.k2
        have HRN := Aside0.mk hb.row
        have HBE := Aside0.mk hb.bel
        have hsl := hb.small
        clear hb hp ho ho0
        by_cases hii : i = i0
        · have HD := Aside0.mk (show Drops w1 wr s1.all (tri rv) nm (i + 1) u7 from ⟨hlt, by rw [HTK.out, without_snoc, if_pos (HII.out.2 hii)]; exact HRN.out, HBE.out, by rw [HTK.out, without_snoc, if_pos (HII.out.2 hii)]; omega⟩)
          have hb1 : ((i : Int) == (i0 : Int)) = true := by rw [hii]; simp
          have hb2 : ((i : Int) != (i0 : Int)) = false := by rw [hii]; simp
          clear hii
          go_wp2
          go_roundw
          case rel => exact ⟨i + 1, by simp, HD.out⟩
          case measure => simp [intOf]; omega
        · have hb1 : ((i : Int) == (i0 : Int)) = false := by simp; omega
          have hb2 : ((i : Int) != (i0 : Int)) = true := by simp; omega
          have HNI := Aside0.mk (show ¬ y.name = nm from fun e => hii (HII.out.1 e))
          clear hii
          go_wp2_with (first | ((with_reducible refine gate_builtin (b := .append) (xs := #[.tmp 30, .tmp 38]) rfl ?_); at_builtin; refine Kd.R_append kT (w0 := w1) (W := wr) w1.heap.size rfl (.tmp 30) (.tmp 38) 82 86 (.agg #[(.string ⟨#[]⟩), (.slice none 0 0), (.slice none 0 0)]) 64 rfl Try.underlying82 info86 rfl (by decide) (by omega) u7 ((without nm (s1.all.take i)).map (tri rv)) (tri rv y) [.string y.name, .slice B1 y.sure.length d1, .slice B2 y.loose.length d2] (fun _ => True) (fun _ => False) rfl rfl ?aP (fun _ hk => hk.elim) ?aF ?aO ?aB ?aS ?aL ?_; (case aP => exact kT_M.2 (congrArg Tri.cells HTY.out).symm); (case aF => exact (fun _ _ => trivial)); (case aO => exact HRN.out); (case aB => exact HBE.out); (case aS => exact HBE.out.size); (case aL => simp only [List.length_map]; omega); intro v8 w8 ho hb hg hat; have HO8 := Aside0.mk ho; have HB8 := Aside0.mk hb; clear ho hb hg hat))
          have HD := Aside0.mk (show Drops w1 w8 s1.all (tri rv) nm (i + 1) v8 from ⟨hlt, by rw [HTK.out, without_snoc, if_neg HNI.out, List.map_append]; exact HO8.out, HB8.out, by rw [HTK.out, without_snoc, if_neg HNI.out, List.length_append]; exact Nat.succ_le_succ hsl⟩)
          go_roundw
          case rel => exact ⟨i + 1, by simp, HD.out⟩
          case measure => simp [intOf]; omega
      · have hi : i = s1.all.length := by have := hb.le; omega
        subst hi
        have hR := H.out.upd (Upd.of_below hb.bel (fun _ => False)) (fun _ _ h => h)
        have hp := hR.head
        have hn := hR.files.len
        rw [show av.v = .slice av.A s1.all.length av.c by unfold Sl.v; rw [hn]] at hp
        have m0 := blk_cell hp 0
        have m1 := blk_cell hp 1
        have m2 := blk_cell hp 2
        have m3 := blk_cell hp 3
        have m4 := blk_cell hp 4
        have fm0 := blk_frozen hp 0
        have fm1 := blk_frozen hp 1
        have fm2 := blk_frozen hp 2
        have fm3 := blk_frozen hp 3
        have fm4 := blk_frozen hp 4
        simp only [List.getElem?_toArray, List.getElem?_cons_succ, List.getElem?_cons_zero] at m0 m1 m2 m3 m4
        have hr := hb.row
        rw [List.take_length] at hr
        have HRN := Aside0.mk hr
        have HBE := Aside0.mk hb.bel
        obtain ⟨V, nV, cV, hV⟩ : ∃ A n c, u7 = Value.slice A n c := by
          obtain ⟨A, c, h1, _⟩ := Kd.R_reads hb.row
          exact ⟨A, _, c, h1⟩
        subst hV
        clear hb hR hp hr
        go_wp2
        go_ret
        obtain ⟨x1, x2, x3, x4⟩ := put_end (av' := ⟨V, nV, cV⟩) HBE.out HRN.out (Nat.le_refl _) H.out.head
        refine ⟨rfl, RStep.trans H1.out ⟨⟨_, _, _, remove_done H.out (without nm s1.all) List.filter_sublist x2 x3 x4 (fun _ h => .inl h) (fun k hk => .inr ⟨x1 k hk, Kd.R_lt x2 k hk⟩) (bd_more H.out.bd x3.size)⟩, x3.mono (fun k _ e => e ▸ H.out.xp)⟩⟩
end Go.Proofs.Ytfholpajdkjbbaa.DK
/- The reference's disk: Trim; conditions: those in each theorem. -/
namespace Go.Proofs.Ytfholpajdkjbbaa.DK
open Go.Proofs.Ytfholpajdkjbbaa.PD
open Go.RowKit Go.Proofs.YtfholpajdkjbbaaW.PrintWords Go.Proofs.YtfholpajdkjbbaaW.PrintLast Go.Proofs.YtfholpajdkjbbaaW.PrintMore Go.Proofs.Ytfholpajdkjbbaa.Mo
set_option linter.unusedVariables false
set_option linter.unusedSimpArgs false
/-- A file's three cells are stored anew. -/
theorem FileAt.three {w w4 : World} {p : Nat} {X Y : Nat → Prop} {s : St} {av : Sl} {rv : Bool → ByteArray → Sl} {a : Int} {i : Nat} {f : F} {g cav : Nat} {A1 : Option Addr} {c1 : Nat} {A2 : Option Addr} {c2 : Nat} (h : FileAt w p X s av rv a i f g cav A1 c1 A2 c2)
    (hu : Upd Y w w4) (hY : ∀ k, k < w.heap.size → Y k → (Value.slice A1 f.sure.length c1).ownBlock = some k ∨ (Value.slice A2 f.loose.length c2).ownBlock = some k) (ht : kT.R 86 w4 0 (fun _ => True) av.v (s.all.map (tri rv)))
    (G : F → F) (hG : ∀ x, (G x).name = x.name) (t1 t2 : Sl) (h1 : Row w4 t1.v (G f).sure) (h2 : Row w4 t2.v (G f).loose) (hd : Dis t1.v t2.v)
    (hv : ∀ (b : Bool) k, (if b then t2 else t1).v.ownBlock = some k → ((Value.slice A1 f.sure.length c1).ownBlock = some k ∨ (Value.slice A2 f.loose.length c2).ownBlock = some k) ∨ w.heap.size ≤ k) :
    RStep p X w (((w4.setCell ⟨g, i * 3, none⟩ (.string f.name)).setCell ⟨g, i * 3 + 1, none⟩ t1.v).setCell ⟨g, i * 3 + 2, none⟩ t2.v) { s with all := upd f.name G s.all } := by
  have hgo : av.v.ownBlock = some g := by rw [h.hav]; rfl
  have hrw : ∀ (t : Sl) (xs : List Int), Row w4 t.v xs → Row (w4.setCell ⟨g, i * 3, none⟩ (.string f.name)) t.v xs := fun t xs hr => hr.same (fun k hk => by
    have hne : k ≠ g := fun e => outer_row ht hr (by rw [e]; exact hgo) hk
    rw [Below.heap_setCell _ _ _ _ hne])
  have hfi := h.hf h.hi
  have ho0 := outer_set ht h.hA i (by rw [List.length_map]; exact h.hi) 0 (.string f.name) (tri rv f) (by decide) (by rw [List.getElem_map, hfi]; rfl)
  rw [show (s.all.map (tri rv)).set i (tri rv f) = s.all.map (tri rv) from by
    have hi' : i < (s.all.map (tri rv)).length := by rw [List.length_map]; exact h.hi
    rw [show tri rv f = (s.all.map (tri rv))[i] by rw [List.getElem_map, hfi]]
    exact List.set_getElem_self hi'] at ho0
  exact h.two2 (w4 := w4.setCell ⟨g, i * 3, none⟩ (.string f.name)) (Y := fun k => Y k ∨ k = g) (hu.trans ((Upd.refl (fun k => k = g) w4).set1 (i * 3) _) (fun _ h => .inl h) (fun _ _ h => .inr h)) (fun k hk hy => hy.elim (fun h => .inl (hY k hk h)) .inr) ho0 G hG t1 t2 (hrw t1 _ h1) (hrw t2 _ h2) hd hv
set_option maxHeartbeats 4000000 in
set_option maxRecDepth 100000 in
theorem rtrim_calls (w : World) (p : Nat) (X : Nat → Prop) (s : St) (nm : ByteArray) (size : Int) (h : RefD w p X s) (ok : Ok s) (hsz : size ≤ 9223372036854775807) : Calls Try.prog 66 #[.pointer (some ⟨p, 0, none⟩), .string nm, .int .i64 size] w fun e w' => e = .returned (.int .i64 (s.trim nm size).2) ∧ RStep p X w w' (s.trim nm size).1 := by
  have HT := Aside0.mk (rthere_calls w p X s nm h ok)
  unfold TherePost at HT
  unfold St.trim St.change
  by_cases hc0 : (s.there nm).2 ≠ 0
  · rw [if_pos hc0]
    generalize s.there nm = r at *
    obtain ⟨s1, c1⟩ := r
    dsimp only at *
    have hb1 : (c1 == 0) = false := by simpa using hc0
    have hb2 : (c1 != 0) = true := by simpa using hc0
    clear hc0 h ok
    go_enter Try.func66, Try.ntmps66
    go_wp2_with (go_at_call 78; refine HT.out.mono ?_; rintro e w1 ⟨i, rfl, hP, _⟩)
    go_ret
    exact ⟨rfl, hP⟩
  · rw [if_neg hc0]
    have hc1 : (s.there nm).2 = 0 := by omega
    obtain ⟨f, hf⟩ := there_find hc1
    have HF := Aside0.mk hf
    have hall := there_all s nm
    have hsm := ok.small f (find_some hf).1
    have HSM := Aside0.mk hsm
    rw [hc1] at HT
    generalize (s.there nm).1 = s1 at *
    have HALL := Aside0.mk hall
    clear hc0 hc1 h ok hf hall
    go_enter Try.func66, Try.ntmps66
    go_wp2_with fail
    refine HT.out.mono ?_
    rintro e w1 ⟨r, rfl, h1, hfd⟩
    obtain ⟨i, rfl, hi0, hfi⟩ := find_idx (hfd (by trivial)) HF.out
    have hnmf := (find_some HF.out).2
    have H1 := Aside0.mk h1
    obtain ⟨⟨av, rv, a, hR⟩, hU⟩ := h1
    have hi : i < s1.all.length := by rw [HALL.out]; exact hi0
    obtain ⟨g, cav, A1, c1, A2, c2, ho⟩ := hR.open_ i hi
    rw [show s1.all[i] = f by simp only [HALL.out]; exact hfi] at ho
    have HO := Aside0.mk ho
    have hp := ho.head
    have m0 := blk_cell hp 0
    have m1 := blk_cell hp 1
    have m2 := blk_cell hp 2
    have m3 := blk_cell hp 3
    have m4 := blk_cell hp 4
    have fm0 := blk_frozen hp 0
    have fm1 := blk_frozen hp 1
    have fm2 := blk_frozen hp 2
    have fm3 := blk_frozen hp 3
    have fm4 := blk_frozen hp 4
    simp only [List.getElem?_toArray, List.getElem?_cons_succ, List.getElem?_cons_zero] at m0 m1 m2 m3 m4
    have k0 := ho.k0
    have k1 := ho.k1
    have k2 := ho.k2
    have fk1 := ho.f1
    have fk2 := ho.f2
    have hne := ho.ne
    clear hfd hfi hnmf hR hU hp ho
    obtain ⟨m, hm⟩ : ∃ m : Nat, max size 0 = (m : Int) := ⟨size.toNat, by omega⟩
    have HMS := Aside0.mk (show size.toNat = m by omega)
    have HSX := Aside0.mk (show (m : Int) ≤ 9223372036854775807 by omega)
    have hsl : f.sure.length + f.loose.length ≤ 65536 := HSM.out
    have hl1 := HO.out.l1
    have hl2 := HO.out.l2
    clear hsm
    have HSZ := Aside0.mk (World.size_alloc' w1 (.cells #[.string f.name, .slice A1 f.sure.length c1, .slice A2 f.loose.length c2] 86))
    have HNW := Aside0.mk (heap_alloc_new w1 (.cells #[.string f.name, .slice A1 f.sure.length c1, .slice A2 f.loose.length c2] 86))
    have HBW := Aside0.mk (below_alloc (Below.refl w1.heap.size w1) (.cells #[.string f.name, .slice A1 f.sure.length c1, .slice A2 f.loose.length c2] 86))
    by_cases hA : m < f.sure.length
    · go_wp2_with fail
      clear k0 k1 k2 fk1 fk2 m0 m1 m2 m3 m4 fm0 fm1 fm2 fm3 fm4
      generalize w1.alloc (.cells #[.string f.name, .slice A1 f.sure.length c1, .slice A2 f.loose.length c2] 86) = W5 at *
      generalize hb9 : w1.heap.size = b9 at *
      have HB9 := Aside0.mk hb9
      clear hb9
      refine (fresh_calls W5 A1 c1 f.sure 0 m (Nat.zero_le _) (by omega) (by omega) (Kd.C_below HO.out.q1 (by rw [HB9.out]; exact HBW.out)) hl1).mono ?_
      rintro e w6 ⟨v6, rfl, r6, b6⟩
      rw [List.drop_zero] at r6
      obtain ⟨A6, c6, rfl, hc6, _⟩ := Kd.R_reads r6
      rw [show (f.sure.take m).length = m by rw [List.length_take]; omega] at r6 hc6 ⊢
      have hn6 := blk_upd HNW.out (Upd.of_below b6 (fun _ => False)) (fun h => h)
      have HN6 := Aside0.mk hn6
      have y0 := blk_cell hn6 0
      have y1 := blk_cell hn6 1
      have y2 := blk_cell hn6 2
      have fy0 := blk_frozen hn6 0
      have fy1 := blk_frozen hn6 1
      have fy2 := blk_frozen hn6 2
      simp only [List.getElem?_toArray, List.getElem?_cons_succ, List.getElem?_cons_zero] at y0 y1 y2
      have hlt6 := blk_lt hn6
      have HL6 := Aside0.mk hlt6
      have R6 := Aside0.mk r6
      have B6 := Aside0.mk b6
      clear r6 b6 hn6
      go_wp2
      have HN10 := Aside0.mk (show ((w6.setCell ⟨b9, 1, none⟩ (.slice A6 m c6)).setCell ⟨b9, 2, none⟩ (.slice none 0 0)).heap[b9]? = some (.cells #[.string f.name, .slice A6 m c6, .slice none 0 0] 86 (0, 0)) from (by simp only [heap_set, heap_drewN, heap_drew, heap_alloc_lt _ _ _ HL6.out, HN6.out, Option.map_some] <;> rfl))
      clear fy0 fy1 fy2 y0 y1 y2
      have HB10 := Aside0.mk (show Below b9 w1 ((w6.setCell ⟨b9, 1, none⟩ (.slice A6 m c6)).setCell ⟨b9, 2, none⟩ (.slice none 0 0)) from (((Upd.of_below (show Below w1.heap.size w1 w6 from by rw [HB9.out]; exact HBW.out.trans (B6.out.mono (by rw [HSZ.out]; omega))) (fun _ => False)).setN (p := b9) (by rw [HB9.out]; omega) 1 (.slice A6 m c6)).setN (p := b9) (by rw [HB9.out]; omega) 2 (.slice none 0 0)).below (by rw [HB9.out]; omega) (fun _ h => h.elim))
      have hn10 : (((w6.setCell ⟨b9, 1, none⟩ (.slice A6 m c6)).setCell ⟨b9, 2, none⟩ (.slice none 0 0))).heap[b9]? = some (.cells #[.string f.name, (.slice A6 m c6), (.slice none 0 0)] 86 (0, 0)) := HN10.out
      have ho10 := HO.out.below (by rw [HB9.out]; exact HB10.out)
      have HO10 := Aside0.mk ho10
      have x0 := blk_cell hn10 0
      have x1 := blk_cell hn10 1
      have x2 := blk_cell hn10 2
      have fx0 := blk_frozen hn10 0
      have fx1 := blk_frozen hn10 1
      have fx2 := blk_frozen hn10 2
      simp only [List.getElem?_toArray, List.getElem?_cons_succ, List.getElem?_cons_zero] at x0 x1 x2
      have hp10 := ho10.head
      have n0 := blk_cell hp10 0
      have n1 := blk_cell hp10 1
      have n2 := blk_cell hp10 2
      have n3 := blk_cell hp10 3
      have n4 := blk_cell hp10 4
      have fn0 := blk_frozen hp10 0
      have fn1 := blk_frozen hp10 1
      have fn2 := blk_frozen hp10 2
      have fn3 := blk_frozen hp10 3
      have fn4 := blk_frozen hp10 4
      simp only [List.getElem?_toArray, List.getElem?_cons_succ, List.getElem?_cons_zero] at n0 n1 n2 n3 n4
      have q0 := ho10.k0
      have q1 := ho10.k1
      have q2 := ho10.k2
      have e0 := ho10.f0
      have e1 := ho10.f1
      have e2 := ho10.f2
      have R1 := Aside0.mk (show Row ((w6.setCell ⟨b9, 1, none⟩ (.slice A6 m c6)).setCell ⟨b9, 2, none⟩ (.slice none 0 0)) (.slice A6 m c6) (f.sure.take size.toNat) from by rw [HMS.out]; exact (Row.upd (Kd.R_lower R6.out (Nat.zero_le _)) (((Upd.refl (fun k => k = b9) w6).set1 1 _).set1 2 _) (fun k hk e => by have := Kd.R_base R6.out k hk; rw [HSZ.out] at this; omega)))
      have R2 := Aside0.mk (show Row ((w6.setCell ⟨b9, 1, none⟩ (.slice A6 m c6)).setCell ⟨b9, 2, none⟩ (.slice none 0 0)) (.slice none 0 0) (f.loose.take (size.toNat - f.sure.length)) from by rw [HMS.out]; exact (by rw [show m - f.sure.length = 0 by omega]; exact Kd.R_nil _ _ _ _ _))
      clear hn10 ho10 hp10
      generalize ((w6.setCell ⟨b9, 1, none⟩ (.slice A6 m c6)).setCell ⟨b9, 2, none⟩ (.slice none 0 0)) = w10 at *
      refine start_ (n := 8) (S := fun w' => w'.cell? ⟨p, 0, none⟩ = some (.slice (some ⟨g, 0, none⟩) s1.all.length cav) ∧ w'.cell? ⟨b9, 0, none⟩ = some (.string f.name) ∧ w'.cell? ⟨b9, 1, none⟩ = some (.slice A6 m c6) ∧ w'.cell? ⟨b9, 2, none⟩ = some (.slice none 0 0)) (ds := [7]) #[false, false, false, false, false, false, false, false] (by kernel_rfl) rfl rfl ⟨n0, x0, x1, x2⟩ (fun hHeld => ?_)
      refine zq 0 (some 57) ?_
      refine zq 1 (some 58) ?_
      refine zq 2 (some 59) ?_
      refine zq 4 (some 61) ?_
      refine zu 3 (some 60) hHeld ?_
      refine zu 5 (some 62) hHeld ?_
      refine zq 6 (some 63) ?_
      refine last_ (i := 7) (N := none) #[true, true, true, true, true, true, true, true] rfl rfl (by kernel_rfl) (by decide) (fun K hK => ?_)
      refine skip_ (w1 := ?_) (by rfl) rfl ?_ ?_
      rotate_left
      · go_simp
        rfl
      refine hK.out _ _ ?_
      clear hK K
      refine done_ (by kernel_rfl) ?_
      go_wp2
      go_ret
      refine ⟨rfl, ?_⟩
      have hx := HO.out.three (w4 := w10.drew) (Y := fun _ => False) ((Upd.of_below (by rw [HB9.out]; exact HB10.out) _).drew) (fun k _ hk => hk.elim) (Kd.R_drew HO10.out.disk.files.outer) (fun f => { f with sure := f.sure.take size.toNat, loose := f.loose.take (size.toNat - f.sure.length) }) (fun _ => rfl) ⟨A6, m, c6⟩ Sl.nil (Kd.R_drew R1.out) (Kd.R_drew R2.out) (fun k _ hk => by cases hk) (fun b k hk => by
      cases b
      · exact .inr (by rw [HB9.out]; have := Kd.R_base R6.out k hk; rw [HSZ.out] at this; omega)
      · cases hk)
      rw [← (find_some HF.out).2]
      exact RStep.trans H1.out hx
    · by_cases hB : m - f.sure.length < f.loose.length
      · obtain ⟨kk, hkk⟩ : ∃ kk : Nat, kk = m - f.sure.length := ⟨_, rfl⟩
        have hk2 : (m : Int) - f.sure.length = (kk : Int) := by omega
        have hk3 : wrap64 ((m : Int) - f.sure.length) = (kk : Int) := by rw [hk2]; exact w64 (by omega) (by omega)
        have hB2 : kk < f.loose.length := by omega
        have HKK := Aside0.mk hkk
        clear hkk hB
        go_wp2_with fail
        clear k0 k1 k2 fk1 fk2 m0 m1 m2 m3 m4 fm0 fm1 fm2 fm3 fm4
        generalize w1.alloc (.cells #[.string f.name, .slice A1 f.sure.length c1, .slice A2 f.loose.length c2] 86) = W5 at *
        generalize hb9 : w1.heap.size = b9 at *
        have HB9 := Aside0.mk hb9
        clear hb9
        refine (fresh_calls W5 A2 c2 f.loose 0 kk (Nat.zero_le _) (by omega) (by omega) (Kd.C_below HO.out.q2 (by rw [HB9.out]; exact HBW.out)) hl2).mono ?_
        rintro e w6 ⟨v6, rfl, r6, b6⟩
        rw [List.drop_zero] at r6
        obtain ⟨A6, c6, rfl, hc6, _⟩ := Kd.R_reads r6
        rw [show (f.loose.take kk).length = kk by rw [List.length_take]; omega] at r6 hc6 ⊢
        have hn6 := blk_upd HNW.out (Upd.of_below b6 (fun _ => False)) (fun h => h)
        have HN6 := Aside0.mk hn6
        have y0 := blk_cell hn6 0
        have y1 := blk_cell hn6 1
        have y2 := blk_cell hn6 2
        have fy0 := blk_frozen hn6 0
        have fy1 := blk_frozen hn6 1
        have fy2 := blk_frozen hn6 2
        simp only [List.getElem?_toArray, List.getElem?_cons_succ, List.getElem?_cons_zero] at y0 y1 y2
        have hlt6 := blk_lt hn6
        have HL6 := Aside0.mk hlt6
        have R6 := Aside0.mk r6
        have B6 := Aside0.mk b6
        clear r6 b6 hn6
        go_wp2
        have HN10 := Aside0.mk (show (w6.setCell ⟨b9, 2, none⟩ (.slice A6 kk c6)).heap[b9]? = some (.cells #[.string f.name, .slice A1 f.sure.length c1, .slice A6 kk c6] 86 (0, 0)) from (by simp only [heap_set, heap_drewN, heap_drew, heap_alloc_lt _ _ _ HL6.out, HN6.out, Option.map_some] <;> rfl))
        clear fy0 fy1 fy2 y0 y1 y2
        have HU10 := Aside0.mk ((Upd.of_below (show Below w1.heap.size w1 w6 from by rw [HB9.out]; exact HBW.out.trans (B6.out.mono (by rw [HSZ.out]; omega))) (fun _ => False)).setN (p := b9) (by rw [HB9.out]; omega) 2 (.slice A6 kk c6))
        have HB10 := Aside0.mk (show Below b9 w1 (w6.setCell ⟨b9, 2, none⟩ (.slice A6 kk c6)) from HU10.out.below (by rw [HB9.out]; omega) (fun _ h => h.elim))
        have hn10 : ((w6.setCell ⟨b9, 2, none⟩ (.slice A6 kk c6))).heap[b9]? = some (.cells #[.string f.name, (.slice A1 f.sure.length c1), (.slice A6 kk c6)] 86 (0, 0)) := HN10.out
        have ho10 := HO.out.below (by rw [HB9.out]; exact HB10.out)
        have HO10 := Aside0.mk ho10
        have x0 := blk_cell hn10 0
        have x1 := blk_cell hn10 1
        have x2 := blk_cell hn10 2
        have fx0 := blk_frozen hn10 0
        have fx1 := blk_frozen hn10 1
        have fx2 := blk_frozen hn10 2
        simp only [List.getElem?_toArray, List.getElem?_cons_succ, List.getElem?_cons_zero] at x0 x1 x2
        have hp10 := ho10.head
        have n0 := blk_cell hp10 0
        have n1 := blk_cell hp10 1
        have n2 := blk_cell hp10 2
        have n3 := blk_cell hp10 3
        have n4 := blk_cell hp10 4
        have fn0 := blk_frozen hp10 0
        have fn1 := blk_frozen hp10 1
        have fn2 := blk_frozen hp10 2
        have fn3 := blk_frozen hp10 3
        have fn4 := blk_frozen hp10 4
        simp only [List.getElem?_toArray, List.getElem?_cons_succ, List.getElem?_cons_zero] at n0 n1 n2 n3 n4
        have q0 := ho10.k0
        have q1 := ho10.k1
        have q2 := ho10.k2
        have e0 := ho10.f0
        have e1 := ho10.f1
        have e2 := ho10.f2
        have R1 := Aside0.mk (show Row (w6.setCell ⟨b9, 2, none⟩ (.slice A6 kk c6)) (.slice A1 f.sure.length c1) (f.sure.take size.toNat) from by rw [HMS.out]; exact (by rw [List.take_of_length_le (by omega)]; exact HO.out.r1.upd HU10.out (fun _ _ h => h)))
        have R2 := Aside0.mk (show Row (w6.setCell ⟨b9, 2, none⟩ (.slice A6 kk c6)) (.slice A6 kk c6) (f.loose.take (size.toNat - f.sure.length)) from by rw [HMS.out]; exact (by rw [← HKK.out]; exact (Row.upd (Kd.R_lower R6.out (Nat.zero_le _)) ((Upd.refl (fun k => k = b9) w6).set1 2 _) (fun k hk e => by have := Kd.R_base R6.out k hk; rw [HSZ.out] at this; omega))))
        clear hn10 ho10 hp10
        generalize (w6.setCell ⟨b9, 2, none⟩ (.slice A6 kk c6)) = w10 at *
        refine start_ (n := 8) (S := fun w' => w'.cell? ⟨p, 0, none⟩ = some (.slice (some ⟨g, 0, none⟩) s1.all.length cav) ∧ w'.cell? ⟨b9, 0, none⟩ = some (.string f.name) ∧ w'.cell? ⟨b9, 1, none⟩ = some (.slice A1 f.sure.length c1) ∧ w'.cell? ⟨b9, 2, none⟩ = some (.slice A6 kk c6)) (ds := [7]) #[false, false, false, false, false, false, false, false] (by kernel_rfl) rfl rfl ⟨n0, x0, x1, x2⟩ (fun hHeld => ?_)
        refine zq 0 (some 57) ?_
        refine zq 1 (some 58) ?_
        refine zq 2 (some 59) ?_
        refine zq 4 (some 61) ?_
        refine zu 3 (some 60) hHeld ?_
        refine zu 5 (some 62) hHeld ?_
        refine zq 6 (some 63) ?_
        refine last_ (i := 7) (N := none) #[true, true, true, true, true, true, true, true] rfl rfl (by kernel_rfl) (by decide) (fun K hK => ?_)
        refine skip_ (w1 := ?_) (by rfl) rfl ?_ ?_
        rotate_left
        · go_simp
          rfl
        refine hK.out _ _ ?_
        clear hK K
        refine done_ (by kernel_rfl) ?_
        go_wp2
        go_ret
        refine ⟨rfl, ?_⟩
        have hx := HO.out.three (w4 := w10.drew) (Y := fun _ => False) ((Upd.of_below (by rw [HB9.out]; exact HB10.out) _).drew) (fun k _ hk => hk.elim) (Kd.R_drew HO10.out.disk.files.outer) (fun f => { f with sure := f.sure.take size.toNat, loose := f.loose.take (size.toNat - f.sure.length) }) (fun _ => rfl) ⟨A1, f.sure.length, c1⟩ ⟨A6, kk, c6⟩ (Kd.R_drew R1.out) (Kd.R_drew R2.out) (fun k hk hk2 => by have h1 := HO.out.r1.lt hk; have h2 := Kd.R_base R6.out k hk2; rw [HSZ.out] at h2; rw [HB9.out] at h1; omega) (fun b k hk => by
      cases b
      · exact .inl (.inl hk)
      · exact .inr (by rw [HB9.out]; have := Kd.R_base R6.out k hk; rw [HSZ.out] at this; omega))
        rw [← (find_some HF.out).2]
        exact RStep.trans H1.out hx
      · have hC : ¬ ((m : Int) - f.sure.length < f.loose.length) := by omega
        have hk3 : wrap64 ((m : Int) - f.sure.length) = (m : Int) - f.sure.length := w64 (by omega) (by have := HSX.out; omega)
        go_wp2
        clear k0 k1 k2 fk1 fk2 m0 m1 m2 m3 m4 fm0 fm1 fm2 fm3 fm4
        generalize w1.alloc (.cells #[.string f.name, .slice A1 f.sure.length c1, .slice A2 f.loose.length c2] 86) = W5 at *
        generalize hb9 : w1.heap.size = b9 at *
        have HB9 := Aside0.mk hb9
        clear hb9
        have HN10 := HNW
        have HB10 := Aside0.mk (show Below b9 w1 W5 from HBW.out)
        have hn10 : (W5).heap[b9]? = some (.cells #[.string f.name, (.slice A1 f.sure.length c1), (.slice A2 f.loose.length c2)] 86 (0, 0)) := HN10.out
        have ho10 := HO.out.below (by rw [HB9.out]; exact HB10.out)
        have HO10 := Aside0.mk ho10
        have x0 := blk_cell hn10 0
        have x1 := blk_cell hn10 1
        have x2 := blk_cell hn10 2
        have fx0 := blk_frozen hn10 0
        have fx1 := blk_frozen hn10 1
        have fx2 := blk_frozen hn10 2
        simp only [List.getElem?_toArray, List.getElem?_cons_succ, List.getElem?_cons_zero] at x0 x1 x2
        have hp10 := ho10.head
        have n0 := blk_cell hp10 0
        have n1 := blk_cell hp10 1
        have n2 := blk_cell hp10 2
        have n3 := blk_cell hp10 3
        have n4 := blk_cell hp10 4
        have fn0 := blk_frozen hp10 0
        have fn1 := blk_frozen hp10 1
        have fn2 := blk_frozen hp10 2
        have fn3 := blk_frozen hp10 3
        have fn4 := blk_frozen hp10 4
        simp only [List.getElem?_toArray, List.getElem?_cons_succ, List.getElem?_cons_zero] at n0 n1 n2 n3 n4
        have q0 := ho10.k0
        have q1 := ho10.k1
        have q2 := ho10.k2
        have e0 := ho10.f0
        have e1 := ho10.f1
        have e2 := ho10.f2
        have R1 := Aside0.mk (show Row W5 (.slice A1 f.sure.length c1) (f.sure.take size.toNat) from by rw [HMS.out]; exact (by rw [List.take_of_length_le (by omega)]; exact HO.out.r1.upd (Upd.of_below (by rw [HB9.out]; exact HBW.out) (fun _ => False)) (fun _ _ h => h)))
        have R2 := Aside0.mk (show Row W5 (.slice A2 f.loose.length c2) (f.loose.take (size.toNat - f.sure.length)) from by rw [HMS.out]; exact (by rw [List.take_of_length_le (by omega)]; exact HO.out.r2.upd (Upd.of_below (by rw [HB9.out]; exact HBW.out) (fun _ => False)) (fun _ _ h => h)))
        clear hn10 ho10 hp10
        generalize W5 = w10 at *
        refine start_ (n := 8) (S := fun w' => w'.cell? ⟨p, 0, none⟩ = some (.slice (some ⟨g, 0, none⟩) s1.all.length cav) ∧ w'.cell? ⟨b9, 0, none⟩ = some (.string f.name) ∧ w'.cell? ⟨b9, 1, none⟩ = some (.slice A1 f.sure.length c1) ∧ w'.cell? ⟨b9, 2, none⟩ = some (.slice A2 f.loose.length c2)) (ds := [7]) #[false, false, false, false, false, false, false, false] (by kernel_rfl) rfl rfl ⟨n0, x0, x1, x2⟩ (fun hHeld => ?_)
        refine zq 0 (some 57) ?_
        refine zq 1 (some 58) ?_
        refine zq 2 (some 59) ?_
        refine zq 4 (some 61) ?_
        refine zu 3 (some 60) hHeld ?_
        refine zu 5 (some 62) hHeld ?_
        refine zq 6 (some 63) ?_
        refine last_ (i := 7) (N := none) #[true, true, true, true, true, true, true, true] rfl rfl (by kernel_rfl) (by decide) (fun K hK => ?_)
        refine skip_ (w1 := ?_) (by rfl) rfl ?_ ?_
        rotate_left
        · go_simp
          rfl
        refine hK.out _ _ ?_
        clear hK K
        refine done_ (by kernel_rfl) ?_
        go_wp2
        go_ret
        refine ⟨rfl, ?_⟩
        have hx := HO.out.three (w4 := w10.drew) (Y := fun _ => False) ((Upd.of_below (by rw [HB9.out]; exact HB10.out) _).drew) (fun k _ hk => hk.elim) (Kd.R_drew HO10.out.disk.files.outer) (fun f => { f with sure := f.sure.take size.toNat, loose := f.loose.take (size.toNat - f.sure.length) }) (fun _ => rfl) ⟨A1, f.sure.length, c1⟩ ⟨A2, f.loose.length, c2⟩ (Kd.R_drew R1.out) (Kd.R_drew R2.out) HO.out.di (fun b k hk => by
      cases b
      · exact .inl (.inl hk)
      · exact .inl (.inr hk))
        rw [← (find_some HF.out).2]
        exact RStep.trans H1.out hx
end Go.Proofs.Ytfholpajdkjbbaa.DK
/- The reference's disk: Append; conditions: those in each theorem. -/
namespace Go.Proofs.Ytfholpajdkjbbaa.DK
open Go.Proofs.Ytfholpajdkjbbaa.PD
open Go.RowKit Go.Proofs.YtfholpajdkjbbaaW.PrintWords Go.Proofs.YtfholpajdkjbbaaW.PrintLast Go.Proofs.YtfholpajdkjbbaaW.PrintMore Go.Proofs.Ytfholpajdkjbbaa.Mo
set_option linter.unusedVariables false
set_option linter.unusedSimpArgs false
/-- File i's loose row is stored anew. -/
theorem FileAt.loose2 {w w4 : World} {p : Nat} {X Y : Nat → Prop} {s : St} {av : Sl} {rv : Bool → ByteArray → Sl} {a : Int} {i : Nat} {f : F} {g cav : Nat} {A1 : Option Addr} {c1 : Nat} {A2 : Option Addr} {c2 : Nat} (h : FileAt w p X s av rv a i f g cav A1 c1 A2 c2)
    (hu : Upd Y w w4) (hY : ∀ k, k < w.heap.size → Y k → (Value.slice A2 f.loose.length c2).ownBlock = some k) (ht : kT.R 86 w4 0 (fun _ => True) av.v (s.all.map (tri rv)))
    (G : F → F) (hG : ∀ x, (G x).name = x.name) (hGs : (G f).sure = f.sure) (t2 : Sl) (h1 : Row w4 (.slice A1 f.sure.length c1) f.sure) (h2 : Row w4 t2.v (G f).loose)
    (hv : ∀ k, t2.v.ownBlock = some k → (Value.slice A2 f.loose.length c2).ownBlock = some k ∨ w.heap.size ≤ k) :
    RStep p X w (w4.setCell ⟨g, i * 3 + 2, none⟩ t2.v) { s with all := upd f.name G s.all } := by
  have hfi := h.hf h.hi
  have hb1 : (Value.slice A1 f.sure.length c1) = (rv false (s.all[i]'h.hi).name).v := by rw [hfi, h.s1]; rfl
  have hb2 : (Value.slice A2 f.loose.length c2) = (rv true (s.all[i]'h.hi).name).v := by rw [hfi, h.s2]; rfl
  have ho2 := outer_set ht h.hA i (by rw [List.length_map]; exact h.hi) 2 t2.v ⟨f.name, ⟨A1, f.sure.length, c1⟩, t2⟩ (by decide) (by rw [List.getElem_map, hfi]; unfold tri; rw [h.s1]; rfl)
  have hgo : av.v.ownBlock = some g := by rw [h.hav]; rfl
  have hrw : ∀ (v : Value) (xs : List Int), Row w4 v xs → Row (w4.setCell ⟨g, i * 3 + 2, none⟩ t2.v) v xs := fun v xs hr => hr.same (fun k hk => by
    have hne : k ≠ g := fun e => outer_row ht hr (by rw [e]; exact hgo) hk
    rw [Below.heap_setCell _ _ _ _ hne])
  have := h.disk.slot' i h.hi G hG (fun b => if b then t2 else ⟨A1, f.sure.length, c1⟩) (Y := fun k => Y k ∨ k = g) (fun b => by
      rw [hfi]
      cases b
      · show Row _ (Value.slice A1 f.sure.length c1) (G f).sure
        rw [hGs]
        exact hrw _ _ h1
      · exact hrw t2.v _ h2) (fun k hk hk2 => by
        have hk : (Value.slice A1 f.sure.length c1).ownBlock = some k := hk
        rcases hv k hk2 with h3 | h3
        · exact h.di k hk h3
        · exact absurd (h.r1.lt hk) (Nat.not_lt.2 h3)) (fun b k hk => by
        cases b
        · exact .inl ⟨false, by rw [← hb1]; exact hk⟩
        · rcases hv k hk with h3 | h3
          · exact .inl ⟨true, by rw [← hb2]; exact h3⟩
          · exact .inr h3) (hu.trans ((Upd.refl (fun k => k = g) w4).set1 (i * 3 + 2) t2.v) (fun _ h => .inl h) (fun _ _ h => .inr h))
      (fun k hk hy => hy.elim (fun h1 => .inr ⟨true, by rw [← hb2]; exact hY k hk h1⟩) (fun e => .inl (by rw [e]; exact hgo))) (by rw [hfi]; exact ho2)
  rw [hfi] at this
  exact this
def laid (nm : ByteArray) (data : List Int) (l : List F) : List F := upd nm (fun f => { f with loose := f.loose ++ data }) l
theorem laid_nil (nm : ByteArray) (l : List F) : laid nm [] l = l := by
  unfold laid Mo.upd
  refine (List.map_congr_left (fun f _ => ?_)).trans (List.map_id l)
  split
  · show (⟨f.name, f.sure, f.loose ++ []⟩ : F) = f
    rw [List.append_nil]
  · rfl
theorem laid_snoc (nm : ByteArray) (data : List Int) (x : Int) (l : List F) : upd nm (fun f => { f with loose := f.loose ++ [x] }) (laid nm data l) = laid nm (data ++ [x]) l := by
  unfold laid Mo.upd
  rw [List.map_map]
  refine List.map_congr_left (fun f _ => ?_)
  by_cases h : f.name = nm
  · simp only [Function.comp, if_pos h, List.append_assoc]
  · simp only [Function.comp, if_neg h]
theorem laid_at (nm : ByteArray) (data : List Int) (l : List F) (i : Nat) (hi : i < l.length) (hn : (l[i]).name = nm) : ∃ h : i < (laid nm data l).length, (laid nm data l)[i] = { l[i] with loose := (l[i]).loose ++ data } := by
  refine ⟨by unfold laid Mo.upd; rw [List.length_map]; exact hi, ?_⟩
  unfold laid Mo.upd
  rw [List.getElem_map, if_pos hn]
structure Lays (w2 wr : World) (p : Nat) (X : Nat → Prop) (s2 : St) (nm : ByteArray) (data : List Int) (n j : Nat) : Prop where
  le : j ≤ n
  st : RStep p X w2 wr { s2 with all := laid nm (data.take j) s2.all }
def LaysE (w2 : World) (p : Nat) (X : Nat → Prop) (s2 : St) (nm : ByteArray) (data : List Int) (n : Nat) (iv : Value) (wr : World) : Prop := ∃ j : Nat, iv = .int .i64 j ∧ Lays w2 wr p X s2 nm data n j
end Go.Proofs.Ytfholpajdkjbbaa.DK
