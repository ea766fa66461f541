/- DiskWhole: a disk that came up is what Files tells; conditions: those in each theorem. -/
import Derived.Test.YtfholpajdkjbbaaQdLs
import Derived.Test.YtfholpajdkjbbaaQdOb
namespace Go.Proofs.Ytfholpajdkjbbaa.DK
open Go.Proofs.Ytfholpajdkjbbaa.PD
open Go.RowKit Go.Proofs.YtfholpajdkjbbaaW.PrintWords Go.Proofs.YtfholpajdkjbbaaW.PrintLast Go.Proofs.YtfholpajdkjbbaaW.PrintMore Go.Proofs.Ytfholpajdkjbbaa.Mo
set_option linter.unusedVariables false
set_option linter.unusedSimpArgs false
/-- Two disks of the program, apart from one another, in memory made since w0. -/
def Duo (w0 w : World) (p1 p2 : Nat) (s1 s2 : St) : Prop :=
  Below w0.heap.size w0 w ∧ ∃ X1 X2, Prog w p1 X1 s1 ∧ Prog w p2 X2 s2 ∧ Ok s1 ∧ Ok s2 ∧ (∀ k, X1 k → ¬ X2 k) ∧ ∀ k, X1 k ∨ X2 k → w0.heap.size ≤ k
theorem Duo.swap {w0 w : World} {p1 p2 : Nat} {s1 s2 : St} (h : Duo w0 w p1 p2 s1 s2) : Duo w0 w p2 p1 s2 s1 := by
  obtain ⟨hb, X1, X2, h1, h2, h3, h4, h5, h6⟩ := h
  exact ⟨hb, X2, X1, h2, h1, h4, h3, fun k a b => h5 k b a, fun k hk => h6 k hk.symm⟩
theorem Duo.below {w0 w w' : World} {p1 p2 : Nat} {s1 s2 : St} (h : Duo w0 w p1 p2 s1 s2) (hb : Below w.heap.size w w') : Duo w0 w' p1 p2 s1 s2 := by
  obtain ⟨h0, X1, X2, h1, h2, h3, h4, h5, h6⟩ := h
  exact ⟨h0.trans (hb.mono h0.size), X1, X2, h1.below hb, h2.below hb, h3, h4, h5, h6⟩
theorem Duo.open_ {w0 w : World} {p1 p2 : Nat} {s1 s2 : St} (h : Duo w0 w p1 p2 s1 s2) :
    Below w0.heap.size w0 w ∧ ∃ X1, Prog w p1 X1 s1 ∧ Ok s1 ∧ (∀ k, X1 k → w0.heap.size ≤ k) ∧ ∀ w' s, PStep p1 X1 w w' s → Ok s → Duo w0 w' p1 p2 s s2 := by
  obtain ⟨hb, X1, X2, h1, h2, h3, h4, h5, h6⟩ := h
  refine ⟨hb, X1, h1, h3, fun k hk => h6 k (.inl hk), fun w' s hs ok => ⟨hb.trans (hs.2.below hb.size (fun k hk => h6 k (.inl hk))), More X1 w w', X2, hs.1, h2.upd hs.2 (fun k a b => h5 k b a), ok, h4, fun k hk h2k => hk.elim (fun hk => h5 k hk h2k) (fun hk => absurd (h2.bd k h2k) (Nat.not_lt.2 hk.1)), fun k hk => ?_⟩⟩
  rcases hk with (hk | hk) | hk
  · exact h6 k (.inl hk)
  · exact Nat.le_trans hb.size hk.1
  · exact h6 k (.inr hk)
/-- Two disks since w0, in blocks of Z and new ones. -/
def DT (w0 w : World) (Z : Nat → Prop) (p1 p2 : Nat) (s1 s2 : St) : Prop :=
  Upd Z w0 w ∧ ∃ X1 X2, Prog w p1 X1 s1 ∧ Prog w p2 X2 s2 ∧ Ok s1 ∧ Ok s2 ∧ (∀ k, X1 k → ¬ X2 k) ∧ ∀ k, X1 k ∨ X2 k → More Z w0 w k
theorem Duo.box {w wr W : World} {p1 p2 : Nat} {s1 s2 : St} (h : Duo w wr p1 p2 s1 s2) (hb : Below wr.heap.size wr W) : ∃ Z, DT W W Z p1 p2 s1 s2 ∧ (∀ k, Z k → w.heap.size ≤ k) ∧ ∀ k, Z k → k < wr.heap.size := by
  obtain ⟨h0, X1, X2, h1, h2, h3, h4, h5, h6⟩ := h
  exact ⟨fun k => X1 k ∨ X2 k, ⟨Upd.refl _ _, X1, X2, h1.below hb, h2.below hb, h3, h4, h5, fun k hk => .inl hk⟩, h6, fun k hk => hk.elim (h1.bd k) (h2.bd k)⟩
theorem DT.back {w W w' : World} {Z : Nat → Prop} {p1 p2 : Nat} {s1 s2 : St} (h : DT W w' Z p1 p2 s1 s2) (hb : Below w.heap.size w W) (hz : ∀ k, Z k → w.heap.size ≤ k) : Duo w w' p1 p2 s1 s2 := by
  obtain ⟨hu, X1, X2, h1, h2, h3, h4, h5, h6⟩ := h
  exact ⟨hb.trans (hu.below hb.size hz), X1, X2, h1, h2, h3, h4, h5, fun k hk => (h6 k hk).elim (hz k) (fun h => Nat.le_trans hb.size h.1)⟩
theorem DT.swap {w0 w : World} {Z : Nat → Prop} {p1 p2 : Nat} {s1 s2 : St} (h : DT w0 w Z p1 p2 s1 s2) : DT w0 w Z p2 p1 s2 s1 := by
  obtain ⟨hu, X1, X2, h1, h2, h3, h4, h5, h6⟩ := h
  exact ⟨hu, X2, X1, h2, h1, h4, h3, fun k a b => h5 k b a, fun k hk => h6 k hk.symm⟩
theorem DT.below {w0 w w' : World} {Z : Nat → Prop} {p1 p2 : Nat} {s1 s2 : St} (h : DT w0 w Z p1 p2 s1 s2) (hb : Below w.heap.size w w') : DT w0 w' Z p1 p2 s1 s2 := by
  obtain ⟨hu, X1, X2, h1, h2, h3, h4, h5, h6⟩ := h
  exact ⟨hu.seq (Upd.of_below hb _), X1, X2, h1.below hb, h2.below hb, h3, h4, h5, fun k hk => (h6 k hk).elim .inl (fun h => .inr ⟨h.1, Nat.lt_of_lt_of_le h.2 hb.size⟩)⟩
theorem DT.open_ {w0 w : World} {Z : Nat → Prop} {p1 p2 : Nat} {s1 s2 : St} (h : DT w0 w Z p1 p2 s1 s2) :
    ∃ X1, Prog w p1 X1 s1 ∧ Ok s1 ∧ (∀ k, X1 k → Z k ∨ w0.heap.size ≤ k) ∧ ∀ w' s, PStep p1 X1 w w' s → Ok s → DT w0 w' Z p1 p2 s s2 := by
  obtain ⟨hu, X1, X2, h1, h2, h3, h4, h5, h6⟩ := h
  have hx : ∀ k, X1 k → Z k ∨ w0.heap.size ≤ k := fun k hk => (h6 k (.inl hk)).elim .inl (fun h => .inr h.1)
  refine ⟨X1, h1, h3, hx, fun w' s hs ok => ⟨hu.seq (hs.2.mono (fun k _ hk => hx k hk)), More X1 w w', X2, hs.1, h2.upd hs.2 (fun k a b => h5 k b a), ok, h4, fun k hk h2k => hk.elim (fun hk => h5 k hk h2k) (fun hk => absurd (h2.bd k h2k) (Nat.not_lt.2 hk.1)), fun k hk => ?_⟩⟩
  rcases hk with (hk | hk) | hk
  · exact (h6 k (.inl hk)).elim .inl (fun h => .inr ⟨h.1, Nat.lt_of_lt_of_le h.2 hs.2.size⟩)
  · exact .inr ⟨Nat.le_trans hu.size hk.1, hk.2⟩
  · exact (h6 k (.inr hk)).elim .inl (fun h => .inr ⟨h.1, Nat.lt_of_lt_of_le h.2 hs.2.size⟩)
theorem does_dt {w0 w : World} {B : Nat} {Z : Nat → Prop} {p1 p2 : Nat} {s1 s2 : St} (h : DT w0 w Z p1 p2 s1 s2) (o : S41) (A5 : Option Addr) (c5 : Nat) (A6 : Option Addr) (c6 : Nat) (hB : B ≤ w0.heap.size) (hZ : ∀ k, Z k → B ≤ k) (hin : OpIn w0 B o.f5 A5 c5 o.f6 A6 c6) (g : Mo.Good o) :
    Calls Try.prog 23 #[.pointer (some ⟨p1, 0, none⟩), .agg #[.int .i64 o.f0, .int .i64 o.f1, .string o.f2, .int .i64 o.f3, .int .i64 o.f4, .slice A5 o.f5.length c5, .slice A6 o.f6.length c6]] w fun e w' => e = .returned (.int .i64 (s1.op o).2) ∧ DT w0 w' Z p1 p2 (s1.op o).1 s2 := by
  obtain ⟨X1, hP, ok, hX, hn⟩ := h.open_
  refine (does_calls w p1 B X1 s1 o A5 c5 A6 c6 hP ok (Nat.le_trans hB h.1.size) (fun k hk => (hX k hk).elim (hZ k) (fun h => Nat.le_trans hB h)) (hin.below (h.1.below hB hZ)) g).mono ?_
  rintro e w' ⟨rfl, hs⟩
  exact ⟨rfl, hn _ _ hs (ok.op g)⟩
theorem files_dt {w0 w : World} {Z : Nat → Prop} {p1 p2 : Nat} {s1 s2 : St} (h : DT w0 w Z p1 p2 s1 s2) :
    Calls Try.prog 18 #[.pointer (some ⟨p1, 0, none⟩)] w fun e w' => ∃ A c, e = .returned (.slice A (files67 s1).length c) ∧ (files67 s1).length ≤ c ∧ k67.C w' A (files67 s1).length (files67 s1) ∧ Below w.heap.size w w' := by
  obtain ⟨X1, hP, ok, hX, hn⟩ := h.open_
  refine (files_calls w p1 X1 s1 hP ok).mono ?_
  rintro e w' ⟨v, rfl, r, b⟩
  obtain ⟨A, c, rfl, h1, h2⟩ := Kd.R_reads r
  exact ⟨A, c, rfl, h1, h2, b⟩
theorem read_dt {w0 w : World} {Z : Nat → Prop} {p1 p2 : Nat} {s1 s2 : St} (h : DT w0 w Z p1 p2 s1 s2) (nm : ByteArray) :
    Calls Try.prog 36 #[.pointer (some ⟨p1, 0, none⟩), .string nm] w fun e w' => ∃ A c, e = .returned (.tuple #[.slice A (s1.read nm).1.length c, .int .i64 (s1.read nm).2]) ∧ (s1.read nm).1.length ≤ c ∧ (Kd.int .u8).C w' A (s1.read nm).1.length (s1.read nm).1 ∧ Below w.heap.size w w' := by
  obtain ⟨X1, hP, ok, hX, hn⟩ := h.open_
  refine (read_calls w p1 X1 s1 nm hP ok).mono ?_
  rintro e w' ⟨v, rfl, r, b⟩
  obtain ⟨A, c, rfl, h1, h2⟩ := Kd.R_reads r
  exact ⟨A, c, rfl, h1, h2, b⟩
theorem DT.ok1 {w0 w : World} {Z : Nat → Prop} {p1 p2 : Nat} {s1 s2 : St} (h : DT w0 w Z p1 p2 s1 s2) : Ok s1 := by
  obtain ⟨_, _, h, _⟩ := h.open_
  exact h
theorem alike_st {s : St} (ok : Ok s) (w : World) (A0 : Option Addr) (c0 : Nat) (A1 : Option Addr) (c1 : Nat) (hr0 : k67.C w A0 (files67 s).length (files67 s)) (hc0 : (files67 s).length ≤ c0) (hr1 : k67.C w A1 (files67 s).length (files67 s)) (hc1 : (files67 s).length ≤ c1) :
    Calls Try.prog 17 #[.slice A0 (files67 s).length c0, .slice A1 (files67 s).length c1] w fun e w' => e = .returned (.bool true) ∧ Below w.heap.size w w' :=
  alike_same w A0 c0 (files67 s) A1 c1 hr0 hc0 hr1 hc1 (by rw [files67_len]; have := ok.few; omega) (files67_small ok)
theorem files_duo {w0 w : World} {p1 p2 : Nat} {s1 s2 : St} (h : Duo w0 w p1 p2 s1 s2) :
    Calls Try.prog 18 #[.pointer (some ⟨p1, 0, none⟩)] w fun e w' => ∃ A c, e = .returned (.slice A (files67 s1).length c) ∧ (files67 s1).length ≤ c ∧ k67.C w' A (files67 s1).length (files67 s1) ∧ Below w.heap.size w w' ∧ Duo w0 w' p1 p2 s1 s2 := by
  obtain ⟨hb, X1, hP, ok, hX, hn⟩ := h.open_
  refine (files_calls w p1 X1 s1 hP ok).mono ?_
  rintro e w' ⟨v, rfl, r, b⟩
  obtain ⟨A, c, rfl, h1, h2⟩ := Kd.R_reads r
  exact ⟨A, c, rfl, h1, h2, b, h.below b⟩
theorem of67_to67 (s : St) : (files67 s).map of67 = s.files := by
  unfold files67
  rw [List.map_map]
  refine (List.map_congr_left (fun x _ => ?_)).trans (List.map_id _)
  obtain ⟨a, b, c⟩ := x
  rfl
def WholeE (w : World) (p1 p2 n : Nat) (iv : Value) (wr : World) : Prop := ∃ (i : Nat) (s : St), iv = .int .i64 i ∧ i ≤ n ∧ Duo w wr p1 p2 s s
theorem Duo.ok1 {w0 w : World} {p1 p2 : Nat} {s1 s2 : St} (h : Duo w0 w p1 p2 s1 s2) : Ok s1 := by
  obtain ⟨_, _, _, h, _⟩ := h.open_
  exact h
theorem Duo.bel {w0 w : World} {p1 p2 : Nat} {s1 s2 : St} (h : Duo w0 w p1 p2 s1 s2) : Below w0.heap.size w0 w := h.1
theorem new_files {s : St} (ok : Ok s) (hd : s.down = false) (hl : s.left = -1) (ha : s.after = 0) (hf : s.fails = 0) (w : World) (A : Option Addr) (c : Nat) (hr : k67.C w A (files67 s).length (files67 s)) (hc : (files67 s).length ≤ c) :
    Calls Try.prog 20 #[.slice A (files67 s).length c] w fun e w' => ∃ p, e = .returned (.tuple #[.pointer (some ⟨p, 0, none⟩), .int .i64 0]) ∧ Prog w' p (From w.heap.size w') s ∧ Below w.heap.size w w' := by
  have h := new_calls w A c (files67 s) hr hc (fun x hx => by
    unfold files67 St.files at hx
    rw [List.map_map] at hx
    obtain ⟨f, hf, rfl⟩ := List.mem_map.1 hx
    have h1 := ok.small f hf
    have h2 := data_length f
    have h3 : f.len = f.sure.length + f.loose.length := rfl
    have h4 : f.data.length ≤ 2 ^ 40 ∧ -9223372036854775808 ≤ (f.sure.length : Int) ∧ (f.sure.length : Int) ≤ 9223372036854775807 := ⟨by omega, by omega, by omega⟩
    exact h4)
  rw [of67_to67, new_of ok hd hl ha hf] at h
  exact h
set_option maxHeartbeats 16000000 in
set_option maxRecDepth 100000 in
theorem whole_calls (w : World) (A1 : Option Addr) (c1 : Nat) (ops : List S41) (hr1 : k41.C w A1 ops.length ops) (hc1 : ops.length ≤ c1) (hl1 : ops.length ≤ 1048576) (hb1 : bulkO ops ≤ 1048576) (hg : ∀ o ∈ ops, GoodK o)
    (K : Option Addr) (ck : Nat) (keep : List Int) (hk : (Kd.int .i64).C w K keep.length keep) (hck : keep.length ≤ ck) (hkl : keep.length ≤ 1048576)
    (A2 : Option Addr) (c2 : Nat) (then_ : List S41) (hr2 : k41.C w A2 then_.length then_) (hc2 : then_.length ≤ c2) (hl2 : then_.length ≤ 1048576) (hb2 : bulkO then_ ≤ 1048576) (hg2 : ∀ o ∈ then_, GoodK o) :
    Calls Try.prog 13 #[.slice A1 ops.length c1, .slice K keep.length ck, .slice A2 then_.length c2] w fun e w' => e = .returned (.bool true) ∧ Below w.heap.size w w' := by
  have HF := Aside0.mk (fits_calls w none 0 [] A1 c1 ops (Kd.C_nil _ _) (Nat.le_refl _) hr1 hc1 (by decide) (by omega) (by simp only [bulkF]; omega))
  have HF2 := Aside0.mk (fun nd => fits_calls (w.drewN nd) none 0 [] A2 c2 then_ (Kd.C_nil _ _) (Nat.le_refl _) (Kd.C_drewN hr2 nd) hc2 (by decide) (by omega) (by simp only [bulkF]; omega))
  have HR1 := Aside0.mk hr1
  have HR2 := Aside0.mk hr2
  have HGD := Aside0.mk hg
  have HGD2 := Aside0.mk hg2
  have HKP := Aside0.mk hk
  clear hr1 hg hb1 hr2 hg2 hb2 hk
  cases hfit : fitsB [] ops with
  | false =>
    rw [hfit] at HF
    clear hfit
    go_enter Try.func13, Try.ntmps13
    go_wp2_with fail
    refine HF.out.mono ?_
    rintro e w1 ⟨rfl, ⟨⟨nd, rfl⟩⟩⟩
    go_wp2
    go_ret
    exact ⟨rfl, pw_below_drewN (Below.refl _ _) _⟩
  | true =>
    rw [hfit] at HF
    clear hfit
    cases hfit : fitsB [] then_ with
    | false =>
      rw [hfit] at HF2
      clear hfit
      go_enter Try.func13, Try.ntmps13
      go_wp2_with fail
      refine HF.out.mono ?_
      rintro e w1 ⟨rfl, ⟨⟨nd, rfl⟩⟩⟩
      go_wp2_with fail
      refine (HF2.out nd).mono ?_
      rintro e w1 ⟨rfl, ⟨⟨nd2, rfl⟩⟩⟩
      go_wp2
      go_ret
      exact ⟨rfl, by repeat (with_reducible first | exact Below.refl _ _ | apply below_drew | apply pw_below_drewN)⟩
    | true =>
      rw [hfit] at HF2
      clear hfit
      go_enter Try.func13, Try.ntmps13
      go_wp2_with fail
      refine HF.out.mono ?_
      rintro e w1 ⟨rfl, ⟨⟨nd, rfl⟩⟩⟩
      go_wp2_with fail
      refine (HF2.out nd).mono ?_
      rintro e w1 ⟨rfl, ⟨⟨nd2, rfl⟩⟩⟩
      go_wp2_with fail
      refine (new0_calls _).mono ?_
      rintro e w2 ⟨p, rfl, hP, hB⟩
      have HB2 := Aside0.mk ((show Below w.heap.size w _ by repeat (with_reducible first | exact Below.refl _ _ | apply below_drew | apply pw_below_drewN)).trans hB)
      have HPR := Aside0.mk hP
      have HX0 := Aside0.mk (show ∀ k, From w.heap.size w2 k → w.heap.size ≤ k from fun k hk => hk.1)
      clear hP hB
      go_wp2_with fail
      refine (num_calls _ _).mono ?_
      rintro e w3 ⟨rfl, ⟨⟨nd3, rfl⟩⟩⟩
      go_wp2_with fail
      refine (works_calls _ p _ (HPR.out.below (pw_below_drewN (Below.refl _ _) nd3))).mono ?_
      rintro e w4 ⟨rfl, hs⟩
      have HSI := Aside0.mk (show SureI w w4 p ops.length 0 from SureI.step HB2.out (pw_below_drewN (Below.refl _ _) nd3) HX0.out hs ok_empty (Below.refl _ _) (Nat.zero_le _))
      clear hs HPR
      go_wp2
      go_loopw [9] (fun iv wr => SureE w p ops.length iv wr) (fun iv _ => ops.length - (intOf iv).toNat)
      case atStart => exact ⟨0, rfl, HSI.out.le, HSI.out.bel.trans ((show Below w4.heap.size w4 _ by repeat (with_reducible first | exact Below.refl _ _ | apply below_drew | apply pw_below_drewN)).mono HSI.out.bel.size), by
        obtain ⟨X, s, h1, h2, h3⟩ := HSI.out.pr
        exact ⟨X, s, h1.below (by repeat (with_reducible first | exact Below.refl _ _ | apply below_drew | apply pw_below_drewN)), h2, h3⟩⟩
      case round =>
        obtain ⟨i, rfl, hle, hbel, X, s, hP, ok, hX⟩ := hrel
        by_cases hlt : i < ops.length
        · obtain ⟨ad, A5, c5, A6, c6, rfl, hcell, hin⟩ := op_at HR1.out hlt
          obtain ⟨d0, d1, d2, d3, d4, d5, d6⟩ := hcell wr hbel
          have HG := Aside0.mk (HGD.out _ (List.getElem_mem hlt))
          generalize ops[i] = o at *
          have HIN := Aside0.mk hin
          have HB := Aside0.mk hbel
          have HP := Aside0.mk hP
          have HOK := Aside0.mk ok
          have HX := Aside0.mk hX
          have hbz := hbel.size
          have HPL := Aside0.mk (fun (W : World) (hw : Below wr.heap.size wr W) => does_calls W p w.heap.size X s o A5 c5 A6 c6 (hP.below hw) ok (Nat.le_trans hbz hw.size) hX (hin W (hbel.trans (hw.mono hbz))) HG.out.g)
          clear hcell hin hbel hP ok hX
          go_wp2_with fail
          refine (HPL.out _ ?hw).mono ?_
          case hw => repeat (with_reducible first | exact Below.refl _ _ | apply below_drew | apply pw_below_drewN | apply below_alloc')
          rintro e w5 ⟨rfl, hs⟩
          have HS := Aside0.mk hs
          clear hs
          go_wp2
          go_roundw
          case rel => exact ⟨i + 1, by simp, SureI.step HB.out (W := _) (by repeat (with_reducible first | exact Below.refl _ _ | apply below_drew | apply pw_below_drewN | apply below_alloc')) HX.out HS.out (HOK.out.op HG.out.g) (by repeat (with_reducible first | exact Below.refl _ _ | apply below_drew | apply pw_below_drewN)) hlt⟩
          case measure => simp [intOf]; omega
        · have hi : i = ops.length := by omega
          subst hi
          have HB := Aside0.mk hbel
          have HP := Aside0.mk hP
          have HOK := Aside0.mk ok
          have HX := Aside0.mk hX
          have hbz := hbel.size
          have HST := Aside0.mk (restart_calls wr p X s K ck keep hP ok (fun w' hu => Kd.C_below HKP.out (hbel.trans (hu.below hbz hX))))
          clear hbel hP ok hX
          go_wp2_with fail
          refine HST.out.mono ?_
          rintro e w5 ⟨rfl, hs⟩
          have HS := Aside0.mk hs
          have HOK1 := Aside0.mk (HOK.out.restart keep)
          clear hs HST
          have hup : (s.restart keep).down = false ∧ (s.restart keep).left = -1 ∧ (s.restart keep).after = 0 ∧ (s.restart keep).fails = 0 := ⟨rfl, rfl, rfl, rfl⟩
          have HUP := Aside0.mk hup
          clear hup
          generalize s.restart keep = s1 at *
          have HFL := Aside0.mk (files_calls w5 p _ s1 HS.out.1 HOK1.out)
          go_wp2_with fail
          refine HFL.out.mono ?_
          rintro e w6 ⟨v6, rfl, r6, b6⟩
          obtain ⟨A6, c6, rfl, hc6, hC6⟩ := Kd.R_reads r6
          have HS6 := Aside0.mk (HS.out.then_below b6)
          have HNW := Aside0.mk (new_files HOK1.out HUP.out.1 HUP.out.2.1 HUP.out.2.2.1 HUP.out.2.2.2 w6 A6 c6 hC6 hc6)
          clear r6 b6 hC6 hc6
          go_wp2_with fail
          refine HNW.out.mono ?_
          rintro e w7 ⟨p2, rfl, hP2, b7⟩
          have hbw6 := HB.out.trans (HS6.out.2.below hbz HX.out)
          have HDU := Aside0.mk (show Duo w w7 p p2 s1 s1 from ⟨hbw6.trans (b7.mono hbw6.size), _, _, HS6.out.1.below b7, hP2, HOK1.out, HOK1.out, fun k h1 h2 => absurd (HS6.out.1.bd k h1) (Nat.not_lt.2 h2.1), fun k hk => hk.elim (fun hk => hk.elim (HX.out k) (fun hk => Nat.le_trans hbz hk.1)) (fun hk => Nat.le_trans hbw6.size hk.1)⟩)
          clear hP2 b7 hbw6
          go_wp2_with fail
          refine (num_calls _ _).mono ?_
          rintro e w8 ⟨rfl, ⟨⟨nd4, rfl⟩⟩⟩
          go_wp2
          go_loopw [12] (fun iv wr => WholeE w p p2 then_.length iv wr) (fun iv _ => then_.length - (intOf iv).toNat)
          case atStart => exact ⟨0, s1, rfl, Nat.zero_le _, HDU.out.below (by repeat (with_reducible first | exact Below.refl _ _ | apply below_drew | apply pw_below_drewN))⟩
          clear HDU HUP HOK1 HS HS6 HX HOK HP HB hbz hle hlt HR1 HGD HSI HX0 HB2 HF HF2 HKP
          case round =>
            obtain ⟨i, s, rfl, hle, hdu⟩ := hrel
            by_cases hlt : i < then_.length
            · obtain ⟨ad, A5, c5, A6, c6, rfl, hcell, hin⟩ := op_at HR2.out hlt
              obtain ⟨d0, d1, d2, d3, d4, d5, d6⟩ := hcell _ hdu.bel
              have HG := Aside0.mk (HGD2.out _ (List.getElem_mem hlt))
              generalize then_[i] = o at *
              have hbx := below_alloc (Below.refl _ _) (w := wr) (.cells #[.int .i64 o.f0, .int .i64 o.f1, .string o.f2, .int .i64 o.f3, .int .i64 o.f4, .slice A5 o.f5.length c5, .slice A6 o.f6.length c6] 41)
              have HGB := Aside0.mk (heap_alloc_new wr (.cells #[.int .i64 o.f0, .int .i64 o.f1, .string o.f2, .int .i64 o.f3, .int .i64 o.f4, .slice A5 o.f5.length c5, .slice A6 o.f6.length c6] 41))
              have hbw := hdu.bel.trans (hbx.mono hdu.bel.size)
              obtain ⟨Z, hdt, hZ, hZl⟩ := hdu.box hbx
              have HZN := Aside0.mk (show ¬ Z wr.heap.size from fun hz => Nat.lt_irrefl _ (hZl _ hz))
              have HIN := Aside0.mk (hin _ hbw)
              have HBW := Aside0.mk hbw
              have hbz := hbw.size
              have HDT := Aside0.mk hdt
              have HZ := Aside0.mk hZ
              have hgb := HGB.out
              have g0 := blk_cell hgb 0
              have g1 := blk_cell hgb 1
              have g2 := blk_cell hgb 2
              have g3 := blk_cell hgb 3
              have g4 := blk_cell hgb 4
              have g5 := blk_cell hgb 5
              have g6 := blk_cell hgb 6
              have fg0 := blk_frozen hgb 0
              have fg1 := blk_frozen hgb 1
              have fg2 := blk_frozen hgb 2
              have fg3 := blk_frozen hgb 3
              have fg4 := blk_frozen hgb 4
              have fg5 := blk_frozen hgb 5
              have fg6 := blk_frozen hgb 6
              simp only [List.getElem?_toArray, List.getElem?_cons_succ, List.getElem?_cons_zero] at g0 g1 g2 g3 g4 g5 g6
              clear hbx hbw hdt hZ hZl hdu hcell hin hgb
              by_cases h12 : o.f0 = 12
              · have b1 : (o.f0 == 12) = true := beq_iff_eq.2 h12
                have b2 : (o.f0 == 5) = false := by rw [h12]; rfl
                clear h12
                go_wp2
                refine start_ (n := 7) (S := fun w' => w'.cell? ⟨wr.heap.size, 0, none⟩ = some (.int .i64 o.f0) ∧ w'.cell? ⟨wr.heap.size, 1, none⟩ = some (.int .i64 o.f1) ∧ w'.cell? ⟨wr.heap.size, 2, none⟩ = some (.string o.f2) ∧ w'.cell? ⟨wr.heap.size, 3, none⟩ = some (.int .i64 o.f3) ∧ w'.cell? ⟨wr.heap.size, 4, none⟩ = some (.int .i64 o.f4) ∧ w'.cell? ⟨wr.heap.size, 5, none⟩ = some (.slice A5 o.f5.length c5) ∧ w'.cell? ⟨wr.heap.size, 6, none⟩ = some (.slice A6 o.f6.length c6)) (ds := [5]) #[false, false, false, false, false, false, false] (by kernel_rfl) rfl rfl ⟨g0, g1, g2, g3, g4, g5, g6⟩ (fun hHeld => ?_)
                refine zq 0 (some 76) ?_
                refine zq 3 (some 79) ?_
                refine zu 1 (some 77) hHeld ?_
                refine zu 4 (some 80) hHeld ?_
                refine one_ (i := 2) (N := some 78) #[true, true, true, true, true, false, false] rfl rfl (by kernel_rfl) (by decide) (fun K hK => ?_)
                refine goes_ Try.func23 (by kernel_rfl) rfl #[.pointer (some ⟨p, 0, none⟩), .agg #[.int .i64 o.f0, .int .i64 o.f1, .string o.f2, .int .i64 o.f3, .int .i64 o.f4, .slice A5 o.f5.length c5, .slice A6 o.f6.length c6]] (by rfl) rfl rfl (by simp only [List.map_toArray, List.map_cons, List.map_nil]; rfl) ?_
                refine (does_dt (HDT.out.below (below_drew (Below.refl _ _))) o A5 c5 A6 c6 hbz HZ.out HIN.out HG.out.g).mono ?_
                rintro e w2 ⟨rfl, hd2⟩
                refine ⟨_, rfl, ?_⟩
                have HD2 := Aside0.mk (hd2)
                have hg2 := blk_upd HGB.out hd2.1 HZN.out
                have x0 := blk_cell hg2 0
                have x1 := blk_cell hg2 1
                have x2 := blk_cell hg2 2
                have x3 := blk_cell hg2 3
                have x4 := blk_cell hg2 4
                have x5 := blk_cell hg2 5
                have x6 := blk_cell hg2 6
                have fx0 := blk_frozen hg2 0
                have fx1 := blk_frozen hg2 1
                have fx2 := blk_frozen hg2 2
                have fx3 := blk_frozen hg2 3
                have fx4 := blk_frozen hg2 4
                have fx5 := blk_frozen hg2 5
                have fx6 := blk_frozen hg2 6
                simp only [List.getElem?_toArray, List.getElem?_cons_succ, List.getElem?_cons_zero] at x0 x1 x2 x3 x4 x5 x6
                clear hd2 hg2
                refine hK.out _ _ ⟨x0, x1, x2, x3, x4, x5, x6⟩ (fun hHeld => ?_)
                clear hK K
                refine norm_ (a' := ?_) ?_ ?_
                rotate_left
                · show Act.put _ (some 78) _ = _
                  simp only [Act.put, zla, zlb, zlc, i64_w, i32_w]
                  rfl
                refine last_ (i := 5) (N := some 81) #[true, true, true, true, true, true, false] rfl rfl (by kernel_rfl) (by decide) (fun K hK => ?_)
                refine goes_ Try.func23 (by kernel_rfl) rfl #[.pointer (some ⟨p2, 0, none⟩), .agg #[.int .i64 o.f0, .int .i64 o.f1, .string o.f2, .int .i64 o.f3, .int .i64 o.f4, .slice A5 o.f5.length c5, .slice A6 o.f6.length c6]] (by rfl) rfl rfl (by simp only [List.map_toArray, List.map_cons, List.map_nil]; rfl) ?_
                refine (does_dt (HD2.out.swap) o A5 c5 A6 c6 hbz HZ.out HIN.out HG.out.g).mono ?_
                rintro e w3 ⟨rfl, hd3⟩
                refine ⟨_, rfl, ?_⟩
                have HD3 := Aside0.mk (hd3.swap)
                have hg3 := blk_upd HGB.out hd3.1 HZN.out
                have y0 := blk_cell hg3 0
                have y1 := blk_cell hg3 1
                have y2 := blk_cell hg3 2
                have y3 := blk_cell hg3 3
                have y4 := blk_cell hg3 4
                have y5 := blk_cell hg3 5
                have y6 := blk_cell hg3 6
                have fy0 := blk_frozen hg3 0
                have fy1 := blk_frozen hg3 1
                have fy2 := blk_frozen hg3 2
                have fy3 := blk_frozen hg3 3
                have fy4 := blk_frozen hg3 4
                have fy5 := blk_frozen hg3 5
                have fy6 := blk_frozen hg3 6
                simp only [List.getElem?_toArray, List.getElem?_cons_succ, List.getElem?_cons_zero] at y0 y1 y2 y3 y4 y5 y6
                clear hd3 hg3
                refine hK.out _ _ ?_
                clear hK K
                refine norm_ (a' := ?_) ?_ ?_
                rotate_left
                · show Act.put _ (some 81) _ = _
                  simp only [Act.put, zla, zlb, zlc, i64_w, i32_w]
                  rfl
                refine zq 6 (some 82) ?_
                refine done_ (by kernel_rfl) ?_
                generalize (s.op o).1 = s' at *
                generalize (s.op o).2 = r at *
                go_wp2_with fail
                refine (files_dt HD3.out).mono ?_
                rintro e w4 ⟨A4, c4, rfl, hc4, hC4, b4⟩
                have HD4 := Aside0.mk (HD3.out.below b4)
                have HC4 := Aside0.mk hC4
                clear hC4 b4
                go_wp2_with fail
                refine (files_dt HD4.out.swap).mono ?_
                rintro e w5 ⟨A5_, c5_, rfl, hc5, hC5, b5⟩
                have HD5 := Aside0.mk (HD4.out.below b5)
                have HC5 := Aside0.mk hC5
                have HC45 := Aside0.mk (Kd.C_below HC4.out b5)
                clear hC5 b5
                go_wp2_with fail
                refine (alike_st HD5.out.ok1 _ A4 c4 A5_ c5_ HC45.out hc4 HC5.out hc5).mono ?_
                rintro e w6 ⟨rfl, b6⟩
                have HD6 := Aside0.mk (HD5.out.below b6)
                have hg6 := blk_upd HGB.out HD6.out.1 HZN.out
                have z0 := blk_cell hg6 0
                have z1 := blk_cell hg6 1
                have z2 := blk_cell hg6 2
                have z3 := blk_cell hg6 3
                have z4 := blk_cell hg6 4
                have z5 := blk_cell hg6 5
                have z6 := blk_cell hg6 6
                have fz0 := blk_frozen hg6 0
                have fz1 := blk_frozen hg6 1
                have fz2 := blk_frozen hg6 2
                have fz3 := blk_frozen hg6 3
                have fz4 := blk_frozen hg6 4
                have fz5 := blk_frozen hg6 5
                have fz6 := blk_frozen hg6 6
                simp only [List.getElem?_toArray, List.getElem?_cons_succ, List.getElem?_cons_zero] at z0 z1 z2 z3 z4 z5 z6
                clear b6 hg6
                go_wp2
                go_roundw
                case rel => exact ⟨i + 1, s', by simp, hlt, (HD6.out.below (by repeat (with_reducible first | exact Below.refl _ _ | apply below_drew | apply pw_below_drewN))).back HBW.out HZ.out⟩
                case measure => simp [intOf]; omega
              · have b1 : (o.f0 == 12) = false := beq_eq_false_iff_ne.2 h12
                clear h12
                by_cases h5 : o.f0 = 5
                · have b2 : (o.f0 == 5) = true := beq_iff_eq.2 h5
                  clear h5
                  go_wp2
                  refine start_ (n := 7) (S := fun w' => w'.cell? ⟨wr.heap.size, 0, none⟩ = some (.int .i64 o.f0) ∧ w'.cell? ⟨wr.heap.size, 1, none⟩ = some (.int .i64 o.f1) ∧ w'.cell? ⟨wr.heap.size, 2, none⟩ = some (.string o.f2) ∧ w'.cell? ⟨wr.heap.size, 3, none⟩ = some (.int .i64 o.f3) ∧ w'.cell? ⟨wr.heap.size, 4, none⟩ = some (.int .i64 o.f4) ∧ w'.cell? ⟨wr.heap.size, 5, none⟩ = some (.slice A5 o.f5.length c5) ∧ w'.cell? ⟨wr.heap.size, 6, none⟩ = some (.slice A6 o.f6.length c6)) (ds := [5]) #[false, false, false, false, false, false, false] (by kernel_rfl) rfl rfl ⟨g0, g1, g2, g3, g4, g5, g6⟩ (fun hHeld => ?_)
                  refine zq 0 (some 76) ?_
                  refine zq 3 (some 79) ?_
                  refine zu 1 (some 77) hHeld ?_
                  refine zu 4 (some 80) hHeld ?_
                  refine one_ (i := 2) (N := some 78) #[true, true, true, true, true, false, false] rfl rfl (by kernel_rfl) (by decide) (fun K hK => ?_)
                  refine goes_ Try.func23 (by kernel_rfl) rfl #[.pointer (some ⟨p, 0, none⟩), .agg #[.int .i64 o.f0, .int .i64 o.f1, .string o.f2, .int .i64 o.f3, .int .i64 o.f4, .slice A5 o.f5.length c5, .slice A6 o.f6.length c6]] (by rfl) rfl rfl (by simp only [List.map_toArray, List.map_cons, List.map_nil]; rfl) ?_
                  refine (does_dt (HDT.out.below (below_drew (Below.refl _ _))) o A5 c5 A6 c6 hbz HZ.out HIN.out HG.out.g).mono ?_
                  rintro e w2 ⟨rfl, hd2⟩
                  refine ⟨_, rfl, ?_⟩
                  have HD2 := Aside0.mk (hd2)
                  have hg2 := blk_upd HGB.out hd2.1 HZN.out
                  have x0 := blk_cell hg2 0
                  have x1 := blk_cell hg2 1
                  have x2 := blk_cell hg2 2
                  have x3 := blk_cell hg2 3
                  have x4 := blk_cell hg2 4
                  have x5 := blk_cell hg2 5
                  have x6 := blk_cell hg2 6
                  have fx0 := blk_frozen hg2 0
                  have fx1 := blk_frozen hg2 1
                  have fx2 := blk_frozen hg2 2
                  have fx3 := blk_frozen hg2 3
                  have fx4 := blk_frozen hg2 4
                  have fx5 := blk_frozen hg2 5
                  have fx6 := blk_frozen hg2 6
                  simp only [List.getElem?_toArray, List.getElem?_cons_succ, List.getElem?_cons_zero] at x0 x1 x2 x3 x4 x5 x6
                  clear hd2 hg2
                  refine hK.out _ _ ⟨x0, x1, x2, x3, x4, x5, x6⟩ (fun hHeld => ?_)
                  clear hK K
                  refine norm_ (a' := ?_) ?_ ?_
                  rotate_left
                  · show Act.put _ (some 78) _ = _
                    simp only [Act.put, zla, zlb, zlc, i64_w, i32_w]
                    rfl
                  refine last_ (i := 5) (N := some 81) #[true, true, true, true, true, true, false] rfl rfl (by kernel_rfl) (by decide) (fun K hK => ?_)
                  refine goes_ Try.func23 (by kernel_rfl) rfl #[.pointer (some ⟨p2, 0, none⟩), .agg #[.int .i64 o.f0, .int .i64 o.f1, .string o.f2, .int .i64 o.f3, .int .i64 o.f4, .slice A5 o.f5.length c5, .slice A6 o.f6.length c6]] (by rfl) rfl rfl (by simp only [List.map_toArray, List.map_cons, List.map_nil]; rfl) ?_
                  refine (does_dt (HD2.out.swap) o A5 c5 A6 c6 hbz HZ.out HIN.out HG.out.g).mono ?_
                  rintro e w3 ⟨rfl, hd3⟩
                  refine ⟨_, rfl, ?_⟩
                  have HD3 := Aside0.mk (hd3.swap)
                  have hg3 := blk_upd HGB.out hd3.1 HZN.out
                  have y0 := blk_cell hg3 0
                  have y1 := blk_cell hg3 1
                  have y2 := blk_cell hg3 2
                  have y3 := blk_cell hg3 3
                  have y4 := blk_cell hg3 4
                  have y5 := blk_cell hg3 5
                  have y6 := blk_cell hg3 6
                  have fy0 := blk_frozen hg3 0
                  have fy1 := blk_frozen hg3 1
                  have fy2 := blk_frozen hg3 2
                  have fy3 := blk_frozen hg3 3
                  have fy4 := blk_frozen hg3 4
                  have fy5 := blk_frozen hg3 5
                  have fy6 := blk_frozen hg3 6
                  simp only [List.getElem?_toArray, List.getElem?_cons_succ, List.getElem?_cons_zero] at y0 y1 y2 y3 y4 y5 y6
                  clear hd3 hg3
                  refine hK.out _ _ ?_
                  clear hK K
                  refine norm_ (a' := ?_) ?_ ?_
                  rotate_left
                  · show Act.put _ (some 81) _ = _
                    simp only [Act.put, zla, zlb, zlc, i64_w, i32_w]
                    rfl
                  refine zq 6 (some 82) ?_
                  refine done_ (by kernel_rfl) ?_
                  generalize (s.op o).1 = s' at *
                  generalize (s.op o).2 = r at *
                  go_wp2_with fail
                  refine (read_dt HD3.out o.f2).mono ?_
                  rintro e w4 ⟨A4, c4, rfl, hc4, hC4, b4⟩
                  have HD4 := Aside0.mk (HD3.out.below b4)
                  have HC4 := Aside0.mk hC4
                  have hg4 := blk_upd HGB.out HD4.out.1 HZN.out
                  have z0 := blk_cell hg4 0
                  have z1 := blk_cell hg4 1
                  have z2 := blk_cell hg4 2
                  have z3 := blk_cell hg4 3
                  have z4 := blk_cell hg4 4
                  have z5 := blk_cell hg4 5
                  have z6 := blk_cell hg4 6
                  have fz0 := blk_frozen hg4 0
                  have fz1 := blk_frozen hg4 1
                  have fz2 := blk_frozen hg4 2
                  have fz3 := blk_frozen hg4 3
                  have fz4 := blk_frozen hg4 4
                  have fz5 := blk_frozen hg4 5
                  have fz6 := blk_frozen hg4 6
                  simp only [List.getElem?_toArray, List.getElem?_cons_succ, List.getElem?_cons_zero] at z0 z1 z2 z3 z4 z5 z6
                  clear hC4 b4 hg4
                  go_wp2_with fail
                  refine (read_dt HD4.out.swap o.f2).mono ?_
                  rintro e w5 ⟨A5_, c5_, rfl, hc5, hC5, b5⟩
                  have HD5 := Aside0.mk (HD4.out.below b5)
                  have HC5 := Aside0.mk hC5
                  have HC45 := Aside0.mk (Kd.C_below HC4.out b5)
                  clear hC5 b5
                  go_wp2_with fail
                  refine (same_same _ A4 c4 (s'.read o.f2).1 A5_ c5_ HC45.out hc4 HC5.out hc5 (read_small HD5.out.ok1 o.f2)).mono ?_
                  rintro e w6 ⟨rfl, ⟨⟨nd6, rfl⟩⟩⟩
                  have HD6 := Aside0.mk (HD5.out.below (pw_below_drewN (Below.refl _ _) nd6))
                  go_wp2
                  go_roundw
                  case rel => exact ⟨i + 1, s', by simp, hlt, (HD6.out.below (by repeat (with_reducible first | exact Below.refl _ _ | apply below_drew | apply pw_below_drewN))).back HBW.out HZ.out⟩
                  case measure => simp [intOf]; omega
                · have b2 : (o.f0 == 5) = false := beq_eq_false_iff_ne.2 h5
                  clear h5
                  go_wp2
                  refine start_ (n := 7) (S := fun w' => w'.cell? ⟨wr.heap.size, 0, none⟩ = some (.int .i64 o.f0) ∧ w'.cell? ⟨wr.heap.size, 1, none⟩ = some (.int .i64 o.f1) ∧ w'.cell? ⟨wr.heap.size, 2, none⟩ = some (.string o.f2) ∧ w'.cell? ⟨wr.heap.size, 3, none⟩ = some (.int .i64 o.f3) ∧ w'.cell? ⟨wr.heap.size, 4, none⟩ = some (.int .i64 o.f4) ∧ w'.cell? ⟨wr.heap.size, 5, none⟩ = some (.slice A5 o.f5.length c5) ∧ w'.cell? ⟨wr.heap.size, 6, none⟩ = some (.slice A6 o.f6.length c6)) (ds := [5]) #[false, false, false, false, false, false, false] (by kernel_rfl) rfl rfl ⟨g0, g1, g2, g3, g4, g5, g6⟩ (fun hHeld => ?_)
                  refine zq 0 (some 76) ?_
                  refine zq 3 (some 79) ?_
                  refine zu 1 (some 77) hHeld ?_
                  refine zu 4 (some 80) hHeld ?_
                  refine one_ (i := 2) (N := some 78) #[true, true, true, true, true, false, false] rfl rfl (by kernel_rfl) (by decide) (fun K hK => ?_)
                  refine goes_ Try.func23 (by kernel_rfl) rfl #[.pointer (some ⟨p, 0, none⟩), .agg #[.int .i64 o.f0, .int .i64 o.f1, .string o.f2, .int .i64 o.f3, .int .i64 o.f4, .slice A5 o.f5.length c5, .slice A6 o.f6.length c6]] (by rfl) rfl rfl (by simp only [List.map_toArray, List.map_cons, List.map_nil]; rfl) ?_
                  refine (does_dt (HDT.out.below (below_drew (Below.refl _ _))) o A5 c5 A6 c6 hbz HZ.out HIN.out HG.out.g).mono ?_
                  rintro e w2 ⟨rfl, hd2⟩
                  refine ⟨_, rfl, ?_⟩
                  have HD2 := Aside0.mk (hd2)
                  have hg2 := blk_upd HGB.out hd2.1 HZN.out
                  have x0 := blk_cell hg2 0
                  have x1 := blk_cell hg2 1
                  have x2 := blk_cell hg2 2
                  have x3 := blk_cell hg2 3
                  have x4 := blk_cell hg2 4
                  have x5 := blk_cell hg2 5
                  have x6 := blk_cell hg2 6
                  have fx0 := blk_frozen hg2 0
                  have fx1 := blk_frozen hg2 1
                  have fx2 := blk_frozen hg2 2
                  have fx3 := blk_frozen hg2 3
                  have fx4 := blk_frozen hg2 4
                  have fx5 := blk_frozen hg2 5
                  have fx6 := blk_frozen hg2 6
                  simp only [List.getElem?_toArray, List.getElem?_cons_succ, List.getElem?_cons_zero] at x0 x1 x2 x3 x4 x5 x6
                  clear hd2 hg2
                  refine hK.out _ _ ⟨x0, x1, x2, x3, x4, x5, x6⟩ (fun hHeld => ?_)
                  clear hK K
                  refine norm_ (a' := ?_) ?_ ?_
                  rotate_left
                  · show Act.put _ (some 78) _ = _
                    simp only [Act.put, zla, zlb, zlc, i64_w, i32_w]
                    rfl
                  refine last_ (i := 5) (N := some 81) #[true, true, true, true, true, true, false] rfl rfl (by kernel_rfl) (by decide) (fun K hK => ?_)
                  refine goes_ Try.func23 (by kernel_rfl) rfl #[.pointer (some ⟨p2, 0, none⟩), .agg #[.int .i64 o.f0, .int .i64 o.f1, .string o.f2, .int .i64 o.f3, .int .i64 o.f4, .slice A5 o.f5.length c5, .slice A6 o.f6.length c6]] (by rfl) rfl rfl (by simp only [List.map_toArray, List.map_cons, List.map_nil]; rfl) ?_
                  refine (does_dt (HD2.out.swap) o A5 c5 A6 c6 hbz HZ.out HIN.out HG.out.g).mono ?_
                  rintro e w3 ⟨rfl, hd3⟩
                  refine ⟨_, rfl, ?_⟩
                  have HD3 := Aside0.mk (hd3.swap)
                  have hg3 := blk_upd HGB.out hd3.1 HZN.out
                  have y0 := blk_cell hg3 0
                  have y1 := blk_cell hg3 1
                  have y2 := blk_cell hg3 2
                  have y3 := blk_cell hg3 3
                  have y4 := blk_cell hg3 4
                  have y5 := blk_cell hg3 5
                  have y6 := blk_cell hg3 6
                  have fy0 := blk_frozen hg3 0
                  have fy1 := blk_frozen hg3 1
                  have fy2 := blk_frozen hg3 2
                  have fy3 := blk_frozen hg3 3
                  have fy4 := blk_frozen hg3 4
                  have fy5 := blk_frozen hg3 5
                  have fy6 := blk_frozen hg3 6
                  simp only [List.getElem?_toArray, List.getElem?_cons_succ, List.getElem?_cons_zero] at y0 y1 y2 y3 y4 y5 y6
                  clear hd3 hg3
                  refine hK.out _ _ ?_
                  clear hK K
                  refine norm_ (a' := ?_) ?_ ?_
                  rotate_left
                  · show Act.put _ (some 81) _ = _
                    simp only [Act.put, zla, zlb, zlc, i64_w, i32_w]
                    rfl
                  refine zq 6 (some 82) ?_
                  refine done_ (by kernel_rfl) ?_
                  generalize (s.op o).1 = s' at *
                  generalize (s.op o).2 = r at *
                  go_wp2
                  go_roundw
                  case rel => exact ⟨i + 1, s', by simp, hlt, (HD3.out.below (by repeat (with_reducible first | exact Below.refl _ _ | apply below_drew | apply pw_below_drewN))).back HBW.out HZ.out⟩
                  case measure => simp [intOf]; omega
            · have hi : i = then_.length := by omega
              subst hi
              have HD := Aside0.mk hdu
              clear hdu
              go_wp2_with fail
              refine (files_duo HD.out).mono ?_
              rintro e w4 ⟨A4, c4, rfl, hc4, hC4, b4, hd4⟩
              have HC4 := Aside0.mk hC4
              have HD4 := Aside0.mk hd4
              clear hC4 b4 hd4
              go_wp2_with fail
              refine (files_duo HD4.out.swap).mono ?_
              rintro e w5 ⟨A5, c5, rfl, hc5, hC5, b5, hd5⟩
              have HC5 := Aside0.mk hC5
              have HD5 := Aside0.mk hd5
              have HC45 := Aside0.mk (Kd.C_below HC4.out b5)
              clear hC5 b5 hd5
              go_wp2_with fail
              refine (alike_st HD5.out.ok1 _ A4 c4 A5 c5 HC45.out hc4 HC5.out hc5).mono ?_
              rintro e w6 ⟨rfl, b6⟩
              have HD6 := Aside0.mk (HD5.out.below b6)
              clear b6
              go_wp2
              go_ret
              exact ⟨rfl, HD6.out.bel.trans ((show Below w6.heap.size w6 _ by repeat (with_reducible first | exact Below.refl _ _ | apply below_drew | apply pw_below_drewN)).mono HD6.out.bel.size)⟩
end Go.Proofs.Ytfholpajdkjbbaa.DK
