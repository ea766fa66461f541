/- Parts P5, P6, P7, Shelf, P8, P9 of this work, in one text. -/
import Derived.Test.YtfholpajdkjbbaaQeGa
import Derived.Test.YtfholpajdkjbbaaProg
import Derived.Shelf.Sort.Plain
import Derived.Shelf.Slices.In.SortNone
import Derived.Sort.OwnSorted
import Derived.Sort.KeysCollected
/- The program's disk: Append; conditions: those in each theorem. -/
namespace Go.Proofs.Ytfholpajdkjbbaa.DK
open Go.RowKit Go.Proofs.YtfholpajdkjbbaaW.PrintWords Go.Proofs.YtfholpajdkjbbaaW.PrintLast Go.Proofs.YtfholpajdkjbbaaW.PrintMore Go.Proofs.Ytfholpajdkjbbaa.Mo
set_option linter.unusedVariables false
set_option linter.unusedSimpArgs false
/-- A list of bytes that is read, whatever is written within X. -/
def Stays (X : Nat → Prop) (w : World) (A : Option Addr) (xs : List Int) : Prop := ∀ w', Upd X w w' → (Kd.int .u8).C w' A xs.length xs
theorem conv_more {p : Nat} {X : Nat → Prop} {w w1 w2 w3 : World} {s : St} (h1 : w.heap.size ≤ w1.heap.size) (h2 : w1.heap.size ≤ w2.heap.size) (h : PStep p (More (More X w w1) w1 w2) w2 w3 s) : PStep p (More X w w2) w2 w3 s :=
  ⟨h.1.mono (fun k hk => hk.elim (fun h => .inl ((More.trans h1 h2 k).1 h)) .inr) (fun k hk => h.1.bd k (hk.elim (fun h => .inl ((More.trans h1 h2 k).2 h)) .inr)), h.2.mono (fun k _ hk => (More.trans h1 h2 k).1 hk)⟩
theorem conv_more2 {p : Nat} {X : Nat → Prop} {w w1 w2 w3 w4 : World} {s : St} (h1 : w.heap.size ≤ w1.heap.size) (h2 : w1.heap.size ≤ w2.heap.size) (h3 : w2.heap.size ≤ w3.heap.size) (h : PStep p (More (More (More X w w1) w1 w2) w2 w3) w3 w4 s) : PStep p (More X w w3) w3 w4 s :=
  conv_more (Nat.le_trans h1 h2) h3 (conv_more (X := More X w w2) (w := w2) (w1 := w2) (w2 := w3) (Nat.le_refl _) h3 ⟨h.1.mono (fun k hk => by
    rcases hk with hk | hk
    · rcases hk with hk | hk
      · exact .inl (.inl (.inl ((More.trans h1 h2 k).1 hk)))
      · exact .inl (.inr hk)
    · exact .inr hk) (fun k hk => by
    refine h.1.bd k ?_
    rcases hk with hk | hk
    · rcases hk with hk | hk
      · rcases hk with hk | hk
        · exact .inl (.inl ((More.trans h1 h2 k).2 hk))
        · exact absurd hk.2 (Nat.not_lt.2 hk.1)
      · exact .inl (.inr hk)
    · exact .inr hk), h.2.mono (fun k _ hk => by
    rcases hk with hk | hk
    · exact .inl (.inl ((More.trans h1 h2 k).1 hk))
    · exact .inr hk)⟩)
set_option maxHeartbeats 4000000 in
set_option maxRecDepth 100000 in
theorem append_calls (w : World) (p : Nat) (X : Nat → Prop) (s : St) (nm : ByteArray) (A : Option Addr) (c : Nat) (data : List Int) (h : Prog w p X s) (ok : Ok s) (hS : Stays X w A data) (hc : data.length ≤ c) (hl : data.length ≤ 2 ^ 40) :
    Calls Try.prog 32 #[.pointer (some ⟨p, 0, none⟩), .string nm, .slice A data.length c] w fun e w' => e = .returned (.int .i64 (s.append nm data).2) ∧ PStep p X w w' (s.append nm data).1 := by
  have HM := Aside0.mk (may_calls w p X s nm true h ok)
  have HS := Aside0.mk hS
  have ok1 := ok.ahead nm true
  have ha1 := ahead_all s nm true
  unfold St.append
  by_cases hc0 : (s.ahead nm true).2 ≠ 0
  · rw [if_pos hc0]
    generalize s.ahead nm true = r at *
    obtain ⟨s1, c1⟩ := r
    dsimp only at *
    have hb1 : (c1 == 0) = false := by simpa using hc0
    have hb2 : (c1 != 0) = true := by simpa using hc0
    clear hc0 hS h
    go_enter Try.func32, Try.ntmps32
    go_wp2_with (go_at_call 53; refine HM.out.mono ?_; rintro e w1 ⟨rfl, hP⟩)
    go_ret
    exact ⟨rfl, hP⟩
  · rw [if_neg hc0]
    have hc1 : (s.ahead nm true).2 = 0 := by omega
    have hname := ahead_name hc1
    rw [hc1] at HM
    rw [← full_all ha1]
    generalize (s.ahead nm true).1 = s1 at *
    clear hc0 hc1 hS h
    have OK := Aside0.mk ok
    have OK1 := Aside0.mk ok1
    have HA := Aside0.mk ha1
    have HN := Aside0.mk hname
    clear ok ok1 ha1 hname
    cases hf : find s1.all nm with
    | none =>
      have HF := Aside0.mk hf
      by_cases hfull : s1.full nm data = true
      · rw [if_pos hfull]
        unfold St.full at hfull
        rw [hf] at hfull
        clear hf
        simp only [Bool.or_eq_true, decide_eq_true_eq] at hfull
        by_cases h400 : 400 ≤ s1.all.length
        · clear hfull
          go_enter Try.func32, Try.ntmps32
          go_wp2_with fail
          refine HM.out.mono ?_
          rintro e w1 ⟨rfl, ⟨mb, q, dv, h1⟩, hU⟩
          have H1 := Aside0.mk h1
          have HU := Aside0.mk hU
          have hp1 := h1.head
          unfold diskCells at hp1
          have c0 := blk_cell hp1 0
          have c1 := blk_cell hp1 1
          have c2 := blk_cell hp1 2
          have c3 := blk_cell hp1 3
          have c4 := blk_cell hp1 4
          have c5 := blk_cell hp1 5
          have fc0 := blk_frozen hp1 0
          have fc1 := blk_frozen hp1 1
          have fc2 := blk_frozen hp1 2
          have fc3 := blk_frozen hp1 3
          have fc4 := blk_frozen hp1 4
          have fc5 := blk_frozen hp1 5
          simp only [List.getElem?_toArray, List.getElem?_cons_succ, List.getElem?_cons_zero] at c0 c1 c2 c3 c4 c5
          clear hp1 hU HM
          have hlook := h1.see_none HF.out
          have hlen := h1.files.map.len
          rw [show (namesOf s1.all).length = s1.all.length from List.length_map _] at hlen
          clear h1
          go_wp2
          go_ret
          exact ⟨rfl, ⟨mb, q, dv, H1.out⟩, HU.out⟩
        · have h65 : 65536 < data.length := by omega
          clear hfull
          go_enter Try.func32, Try.ntmps32
          go_wp2_with fail
          refine HM.out.mono ?_
          rintro e w1 ⟨rfl, ⟨mb, q, dv, h1⟩, hU⟩
          have H1 := Aside0.mk h1
          have HU := Aside0.mk hU
          have hp1 := h1.head
          unfold diskCells at hp1
          have c0 := blk_cell hp1 0
          have c1 := blk_cell hp1 1
          have c2 := blk_cell hp1 2
          have c3 := blk_cell hp1 3
          have c4 := blk_cell hp1 4
          have c5 := blk_cell hp1 5
          have fc0 := blk_frozen hp1 0
          have fc1 := blk_frozen hp1 1
          have fc2 := blk_frozen hp1 2
          have fc3 := blk_frozen hp1 3
          have fc4 := blk_frozen hp1 4
          have fc5 := blk_frozen hp1 5
          simp only [List.getElem?_toArray, List.getElem?_cons_succ, List.getElem?_cons_zero] at c0 c1 c2 c3 c4 c5
          clear hp1 hU HM
          have hlook := h1.see_none HF.out
          have hlen := h1.files.map.len
          rw [show (namesOf s1.all).length = s1.all.length from List.length_map _] at hlen
          clear h1
          go_wp2
          go_ret
          exact ⟨rfl, ⟨mb, q, dv, H1.out⟩, HU.out⟩
      · rw [if_neg hfull]
        have HFU := Aside0.mk (Bool.eq_false_iff.2 hfull)
        unfold St.full at hfull
        rw [hf] at hfull
        clear hf
        simp only [Bool.or_eq_true, decide_eq_true_eq, not_or] at hfull
        obtain ⟨h65, h400⟩ := hfull
        by_cases hy : (s1.pays (data.length + 1)).2 = true
        · rw [if_pos hy]
          have HY := Aside0.mk hy
          have HA2 := Aside0.mk (pays_all s1 (data.length + 1))
          clear hy
          go_enter Try.func32, Try.ntmps32
          go_wp2_with fail
          refine HM.out.mono ?_
          rintro e w1 ⟨rfl, ⟨mb, q, dv, h1⟩, hU⟩
          have H1 := Aside0.mk h1
          have HU := Aside0.mk hU
          have hp1 := h1.head
          unfold diskCells at hp1
          have c0 := blk_cell hp1 0
          have c1 := blk_cell hp1 1
          have c2 := blk_cell hp1 2
          have c3 := blk_cell hp1 3
          have c4 := blk_cell hp1 4
          have c5 := blk_cell hp1 5
          have fc0 := blk_frozen hp1 0
          have fc1 := blk_frozen hp1 1
          have fc2 := blk_frozen hp1 2
          have fc3 := blk_frozen hp1 3
          have fc4 := blk_frozen hp1 4
          have fc5 := blk_frozen hp1 5
          simp only [List.getElem?_toArray, List.getElem?_cons_succ, List.getElem?_cons_zero] at c0 c1 c2 c3 c4 c5
          clear hp1 hU HM
          have hlook := h1.see_none HF.out
          have hlen := h1.files.map.len
          rw [show (namesOf s1.all).length = s1.all.length from List.length_map _] at hlen
          have HPY := Aside0.mk (pay_ctx w1 p (More X w w1) s1 (data.length + 1) mb q dv h1 OK1.out (by omega))
          rw [HY.out] at HPY
          simp only [↓reduceIte, Bool.false_eq_true] at HPY
          clear h1
          go_wp2_with fail
          refine HPY.out.mono ?_
          rintro e w2 ⟨rfl, h2, hU2⟩
          have H2 := Aside0.mk h2
          have HU2 := Aside0.mk hU2
          have hp2 := h2.head
          unfold diskCells at hp2
          have b0 := blk_cell hp2 0
          have b1 := blk_cell hp2 1
          have b2 := blk_cell hp2 2
          have b3 := blk_cell hp2 3
          have b4 := blk_cell hp2 4
          have b5 := blk_cell hp2 5
          have fb0 := blk_frozen hp2 0
          have fb1 := blk_frozen hp2 1
          have fb2 := blk_frozen hp2 2
          have fb3 := blk_frozen hp2 3
          have fb4 := blk_frozen hp2 4
          have fb5 := blk_frozen hp2 5
          simp only [List.getElem?_toArray, List.getElem?_cons_succ, List.getElem?_cons_zero] at b0 b1 b2 b3 b4 b5
          have hlt2 := blk_lt hp2
          generalize hs2 : (s1.pays (data.length + 1)).1 = s2 at *
          have HS2 := Aside0.mk hs2
          clear hs2 hp2 hU2 HPY
          have hnm : nm ∉ namesOf s2.all := by rw [HA2.out]; exact find_none HF.out
          obtain ⟨w3, hrun, hu3, hm3⟩ := MapAt.insert (w := w2.alloc (.cells #[.slice none 0 0, .int .i64 0] 81)) (h2.files.map.same (heap_alloc_lt _ _ _ h2.files.map.lt)) nm hnm w2.heap.size
          have hfile3 : w3.heap[w2.heap.size]? = some (.cells #[.slice none 0 0, .int .i64 0] 81 (0, 0)) := blk_upd (heap_alloc_new w2 _) hu3 (fun e => by have := h2.files.map.lt; omega)
          obtain ⟨h3, hU3⟩ := pdisk_add h2 ⟨nm, [], []⟩ hnm w2.heap.size (.slice none 0 0) (((Upd.refl _ w2).alloc _).trans hu3 (fun _ h => h) (fun _ _ h => h)) (Nat.le_refl _) hm3 hfile3 (Kd.R_nil _ _ _ _ _) (fun k hk => by simp [Value.ownBlock] at hk)
          have hf3 : (⟨nm, [], []⟩ : F) ∈ put ⟨nm, [], []⟩ s2.all := mem_put.2 (.inl rfl)
          obtain ⟨q3, hq3⟩ : ∃ q3 : ByteArray → Nat, q3 = (fun n => if n = nm then w2.heap.size else q n) := ⟨_, rfl⟩
          obtain ⟨dv3, hdv3⟩ : ∃ dv3 : ByteArray → Value, dv3 = (fun n => if n = nm then .slice none 0 0 else dv n) := ⟨_, rfl⟩
          have hqn : q3 nm = w2.heap.size := by rw [hq3]; exact if_pos rfl
          have hdn : dv3 nm = .slice none 0 0 := by rw [hdv3]; exact if_pos rfl
          rw [← hq3, ← hdv3] at h3
          have HLAY := Aside0.mk (lay_none (show find s2.all nm = none by rw [HA2.out]; exact HF.out) data)
          skip
          have HRW := Aside0.mk (show Row w3 (.slice none 0 0) ([] : List Int) from Kd.R_nil _ _ _ _ _)
          have hd0 := hfile3
          clear hq3 hdv3 hu3 hm3
          have hC := HS.out _ ((HU.out.more HU2.out).more (hU3.mono (fun b _ hb => (More.trans HU.out.size HU2.out.size b).1 hb)))
          have HDT := Aside0.mk hC
          have d0 := blk_cell hd0 0
          have d1 := blk_cell hd0 1
          have fd0 := blk_frozen hd0 0
          have fd1 := blk_frozen hd0 1
          simp only [List.getElem?_toArray, List.getElem?_cons_succ, List.getElem?_cons_zero] at d0 d1
          have HSZ := Aside0.mk (show ([] : List Int).length + data.length ≤ 2 ^ 41 by simp; omega)
          clear hd0 hC
          have H3 := Aside0.mk h3
          clear h3 h2
          go_wp2_with (((with_reducible refine gate_builtin (b := .append) (xs := #[.tmp 81, .tmp 82]) rfl ?_); at_builtin; refine Kd.R_append_rows (Kd.int .u8) (w0 := w3) 0 rfl (.tmp 81) (.tmp 82) 38 5 (.int .u8 0) 1 rfl Try.underlying38 PD.info5 rfl (by decide) (by omega) _ ([] : List Int) data _ _ _ (fun _ => True) (fun _ => False) rfl rfl HRW.out HDT.out (fun _ _ h => h) (fun _ h => h.elim) (fun _ _ => trivial) (Below.refl _ _) (Nat.zero_le _) (by have := HSZ.out; omega) ?_; intro v1 w4 ho hb hg hat; obtain ⟨A1, c1', rfl, _, _⟩ := Kd.R_reads ho; generalize hn1 : (([] : List Int) ++ data).length = n1 at ho hat ⊢; clear hn1; have hc4 := lay_cell H3.out hf3 (by rw [hdn]; exact hg); rw [hqn, hdn] at hc4; have e0 := blk_cell hc4 0; have fe0 := blk_frozen hc4 0; simp only [List.getElem?_toArray, List.getElem?_cons_succ, List.getElem?_cons_zero] at e0; have HO := Aside0.mk ho; have HG := Aside0.mk (show World.grownBy _ w4 ((Value.slice none 0 0)).ownBlock from hg); have HAT := Aside0.mk (show (Value.slice A1 n1 c1').ownBlock = ((Value.slice none 0 0)).ownBlock ∨ _ from hat); clear ho hb hg hat hc4))
          go_ret
          refine ⟨rfl, ?_⟩
          have hl3 := lay_done H3.out hf3 data HO.out (by rw [hdn]; exact HG.out) (by rw [hdn]; exact HAT.out)
          rw [hqn] at hl3
          rw [HS2.out, HLAY.out]
          exact PStep.trans (PStep.trans (PStep.trans ⟨⟨mb, q, dv, H1.out⟩, HU.out⟩ ⟨⟨mb, q, dv, H2.out⟩, HU2.out⟩) ((fun x => ⟨x.1.mono (fun _ h => h) (fun k hk => x.1.bd k hk), x.2⟩ ) (conv_more HU.out.size HU2.out.size ⟨⟨mb, q3, dv3, H3.out⟩, hU3⟩))) (conv_more2 HU.out.size HU2.out.size hU3.size hl3)
        · rw [if_neg hy]
          have HY := Aside0.mk (Bool.eq_false_iff.2 hy)
          have PN := Aside0.mk (pays_no hy)
          have HA2 := Aside0.mk (show s1.fall.all = s1.all from rfl)
          obtain ⟨i5, hi5, hz5_⟩ := Option.map_eq_some_iff.1 PD.info5
          have hz5 : i5.size = 1 := (Prod.mk.inj (Prod.mk.inj hz5_).2).1
          clear hy hz5_
          go_enter Try.func32, Try.ntmps32
          go_wp2_with fail
          refine HM.out.mono ?_
          rintro e w1 ⟨rfl, ⟨mb, q, dv, h1⟩, hU⟩
          have H1 := Aside0.mk h1
          have HU := Aside0.mk hU
          have hp1 := h1.head
          unfold diskCells at hp1
          have c0 := blk_cell hp1 0
          have c1 := blk_cell hp1 1
          have c2 := blk_cell hp1 2
          have c3 := blk_cell hp1 3
          have c4 := blk_cell hp1 4
          have c5 := blk_cell hp1 5
          have fc0 := blk_frozen hp1 0
          have fc1 := blk_frozen hp1 1
          have fc2 := blk_frozen hp1 2
          have fc3 := blk_frozen hp1 3
          have fc4 := blk_frozen hp1 4
          have fc5 := blk_frozen hp1 5
          simp only [List.getElem?_toArray, List.getElem?_cons_succ, List.getElem?_cons_zero] at c0 c1 c2 c3 c4 c5
          clear hp1 hU HM
          have hlook := h1.see_none HF.out
          have hlen := h1.files.map.len
          rw [show (namesOf s1.all).length = s1.all.length from List.length_map _] at hlen
          have HPY := Aside0.mk (pay_ctx w1 p (More X w w1) s1 (data.length + 1) mb q dv h1 OK1.out (by omega))
          rw [HY.out] at HPY
          simp only [↓reduceIte, Bool.false_eq_true] at HPY
          clear h1
          go_wp2_with fail
          refine HPY.out.mono ?_
          rintro e w2 ⟨rfl, h2, hU2⟩
          have H2 := Aside0.mk h2
          have HU2 := Aside0.mk hU2
          have hp2 := h2.head
          unfold diskCells at hp2
          have b0 := blk_cell hp2 0
          have b1 := blk_cell hp2 1
          have b2 := blk_cell hp2 2
          have b3 := blk_cell hp2 3
          have b4 := blk_cell hp2 4
          have b5 := blk_cell hp2 5
          have fb0 := blk_frozen hp2 0
          have fb1 := blk_frozen hp2 1
          have fb2 := blk_frozen hp2 2
          have fb3 := blk_frozen hp2 3
          have fb4 := blk_frozen hp2 4
          have fb5 := blk_frozen hp2 5
          simp only [List.getElem?_toArray, List.getElem?_cons_succ, List.getElem?_cons_zero] at b0 b1 b2 b3 b4 b5
          have hlt2 := blk_lt hp2
          generalize hs2 : s1.fall = s2 at *
          have HS2 := Aside0.mk hs2
          clear hs2 hp2 hU2 HPY
          have hnm : nm ∉ namesOf s2.all := by rw [HA2.out]; exact find_none HF.out
          obtain ⟨w3, hrun, hu3, hm3⟩ := MapAt.insert (w := w2.alloc (.cells #[.slice none 0 0, .int .i64 0] 81)) (h2.files.map.same (heap_alloc_lt _ _ _ h2.files.map.lt)) nm hnm w2.heap.size
          have hfile3 : w3.heap[w2.heap.size]? = some (.cells #[.slice none 0 0, .int .i64 0] 81 (0, 0)) := blk_upd (heap_alloc_new w2 _) hu3 (fun e => by have := h2.files.map.lt; omega)
          obtain ⟨h3, hU3⟩ := pdisk_add h2 ⟨nm, [], []⟩ hnm w2.heap.size (.slice none 0 0) (((Upd.refl _ w2).alloc _).trans hu3 (fun _ h => h) (fun _ _ h => h)) (Nat.le_refl _) hm3 hfile3 (Kd.R_nil _ _ _ _ _) (fun k hk => by simp [Value.ownBlock] at hk)
          have hf3 : (⟨nm, [], []⟩ : F) ∈ put ⟨nm, [], []⟩ s2.all := mem_put.2 (.inl rfl)
          obtain ⟨q3, hq3⟩ : ∃ q3 : ByteArray → Nat, q3 = (fun n => if n = nm then w2.heap.size else q n) := ⟨_, rfl⟩
          obtain ⟨dv3, hdv3⟩ : ∃ dv3 : ByteArray → Value, dv3 = (fun n => if n = nm then .slice none 0 0 else dv n) := ⟨_, rfl⟩
          have hqn : q3 nm = w2.heap.size := by rw [hq3]; exact if_pos rfl
          have hdn : dv3 nm = .slice none 0 0 := by rw [hdv3]; exact if_pos rfl
          rw [← hq3, ← hdv3] at h3
          have HLAY := Aside0.mk (lay_none (show find s2.all nm = none by rw [HA2.out]; exact HF.out) (data.take s1.left.toNat))
          skip
          have HRW := Aside0.mk (show Row w3 (.slice none 0 0) ([] : List Int) from Kd.R_nil _ _ _ _ _)
          have hd0 := hfile3
          clear hq3 hdv3 hu3 hm3
          have hC := HS.out _ ((HU.out.more HU2.out).more (hU3.mono (fun b _ hb => (More.trans HU.out.size HU2.out.size b).1 hb)))
          obtain ⟨hcut, hrd, hle⟩ := print_take_int (k := .u8) 38 5 Try.underlying38 hi5 hz5 A c data s1.left PN.out.1 (by have := PN.out.2.1; omega) hc
          have HDT := Aside0.mk (Kd.C_take hC (m := s1.left.toNat) (by have := PN.out.2.1; have := PN.out.1; omega))
          generalize hdc : data.take s1.left.toNat = dcut at *
          have HDC := Aside0.mk hdc
          have d0 := blk_cell hd0 0
          have d1 := blk_cell hd0 1
          have fd0 := blk_frozen hd0 0
          have fd1 := blk_frozen hd0 1
          simp only [List.getElem?_toArray, List.getElem?_cons_succ, List.getElem?_cons_zero] at d0 d1
          have HSZ := Aside0.mk (show ([] : List Int).length + dcut.length ≤ 2 ^ 41 by have h9 := congrArg List.length HDC.out; rw [List.length_take] at h9; simp; omega)
          clear hd0 hC
          clear hdc
          have H3 := Aside0.mk h3.drew
          have H30 := Aside0.mk h3
          clear h3 h2
          go_wp2
          refine start_ (n := 12) (S := fun w' => w'.cell? ⟨w2.heap.size, 0, none⟩ = some (Value.slice none 0 0)) (ds := [11]) #[false, false, false, false, false, false, false, false, false, false, false, false] (by kernel_rfl) rfl rfl (d0) (fun hHeld => ?_)
          refine zq 0 (some 66) ?_
          refine zq 1 (some 67) ?_
          refine zq 2 (some 68) ?_
          refine zq 3 (some 69) ?_
          refine zq 5 (some 71) ?_
          refine zq 6 (some 72) ?_
          refine zq 7 (some 73) ?_
          refine zu 4 (some 70) hHeld ?_
          refine one_ (i := 8) (N := some 74) #[true, true, true, true, true, true, true, true, true, false, false, false] rfl rfl (by kernel_rfl) (by decide) (fun K hK => ?_)
          refine Kd.R_append_rows_step (Kd.int .u8) (w0 := w3.drew) 0 (by rfl) (.tmp 70) (.tmp 73) 38 5 (.int .u8 0) 1 rfl Try.underlying38 PD.info5 rfl (by decide) (by decide) _ ([] : List Int) dcut _ _ _ (fun _ => True) (fun _ => False) rfl rfl (Kd.R_drew HRW.out) (Kd.C_drew HDT.out) (fun _ _ h => h) (fun _ h => h.elim) (fun _ _ => trivial) (Below.refl _ _) (Nat.zero_le _) (by have := HSZ.out; omega) ?_
          intro v1 w4 ho hb hg hat
          obtain ⟨A1, c1', rfl, _, _⟩ := Kd.R_reads ho
          generalize hn1 : (([] : List Int) ++ dcut).length = n1 at ho hat ⊢
          clear hn1
          have hc4 := lay_cell H3.out hf3 (by rw [hdn]; exact hg)
          rw [hqn, hdn] at hc4
          have e0 := blk_cell hc4 0
          have fe0 := blk_frozen hc4 0
          simp only [List.getElem?_toArray, List.getElem?_cons_succ, List.getElem?_cons_zero] at e0
          have HO := Aside0.mk ho
          have HG := Aside0.mk (show w3.drew.grownBy w4 ((Value.slice none 0 0)).ownBlock from hg)
          have HAT := Aside0.mk (show (Value.slice A1 n1 c1').ownBlock = ((Value.slice none 0 0)).ownBlock ∨ _ from hat)
          clear ho hb hg hat hc4
          refine hK.out _ _ (e0) (fun hHeld => ?_)
          clear hK K
          refine norm_ (a' := ?_) ?_ ?_
          rotate_left
          · show Act.put _ (some 74) _ = _
            simp only [Act.put, zla, zlb, zlc, i64_w, i32_w]
            rfl
          refine zq 9 (some 75) ?_
          refine zq 10 (some 76) ?_
          refine last_ (i := 11) (N := none) #[true, true, true, true, true, true, true, true, true, true, true, true] rfl rfl (by kernel_rfl) (by decide) (fun K hK => ?_)
          refine skip_ (w1 := ?_) (by rfl) rfl ?_ ?_
          rotate_left
          · go_simp
            rfl
          refine hK.out _ _ ?_
          clear hK K
          refine done_ (by kernel_rfl) ?_
          go_wp2
          go_ret
          refine ⟨rfl, ?_⟩
          have hl3 := PStep.trans (PStep.below ⟨_, _, _, H30.out⟩ (below_drew (Below.refl _ _))) ((fun x => ⟨x.1.mono (fun _ h => h.elim (fun h => .inl (.inl h)) .inr) (fun k hk => x.1.bd k (hk.elim (fun h => h.elim .inl (fun h2 => absurd h2.2 (Nat.not_lt.2 h2.1))) .inr)), x.2.mono (fun _ _ h => .inl h)⟩) (lay_done H3.out hf3 dcut HO.out (by rw [hdn]; exact HG.out) (by rw [hdn]; exact HAT.out)))
          rw [hqn] at hl3
          rw [lay_fall, HS2.out, HDC.out, HLAY.out]
          exact PStep.trans (PStep.trans (PStep.trans ⟨⟨mb, q, dv, H1.out⟩, HU.out⟩ ⟨⟨mb, q, dv, H2.out⟩, HU2.out⟩) ((fun x => ⟨x.1.mono (fun _ h => h) (fun k hk => x.1.bd k hk), x.2⟩ ) (conv_more HU.out.size HU2.out.size ⟨⟨mb, q3, dv3, H30.out⟩, hU3⟩))) (conv_more2 HU.out.size HU2.out.size hU3.size hl3)
    | some f =>
      have HF := Aside0.mk hf
      by_cases hfull : s1.full nm data = true
      · rw [if_pos hfull]
        unfold St.full at hfull
        rw [hf] at hfull
        clear hf
        simp only [decide_eq_true_eq] at hfull
        have hfl := OK1.out.small f (find_some HF.out).1
        go_enter Try.func32, Try.ntmps32
        go_wp2_with fail
        refine HM.out.mono ?_
        rintro e w1 ⟨rfl, ⟨mb, q, dv, h1⟩, hU⟩
        have H1 := Aside0.mk h1
        have HU := Aside0.mk hU
        have hp1 := h1.head
        unfold diskCells at hp1
        have c0 := blk_cell hp1 0
        have c1 := blk_cell hp1 1
        have c2 := blk_cell hp1 2
        have c3 := blk_cell hp1 3
        have c4 := blk_cell hp1 4
        have c5 := blk_cell hp1 5
        have fc0 := blk_frozen hp1 0
        have fc1 := blk_frozen hp1 1
        have fc2 := blk_frozen hp1 2
        have fc3 := blk_frozen hp1 3
        have fc4 := blk_frozen hp1 4
        have fc5 := blk_frozen hp1 5
        simp only [List.getElem?_toArray, List.getElem?_cons_succ, List.getElem?_cons_zero] at c0 c1 c2 c3 c4 c5
        clear hp1 hU HM
        have hlook := h1.see_some HF.out
        have hff := h1.files.file f (find_some HF.out).1
        obtain ⟨A9, c9, he9, hc9, _⟩ := Kd.R_reads (h1.files.row f (find_some HF.out).1)
        rw [he9, data_length] at hff
        have g0 := blk_cell hff 0
        have g1 := blk_cell hff 1
        have fg0 := blk_frozen hff 0
        have fg1 := blk_frozen hff 1
        simp only [List.getElem?_toArray, List.getElem?_cons_succ, List.getElem?_cons_zero] at g0 g1
        clear hff he9 hc9 h1
        go_wp2
        go_ret
        exact ⟨rfl, ⟨mb, q, dv, H1.out⟩, HU.out⟩
      · rw [if_neg hfull]
        have HFU := Aside0.mk (Bool.eq_false_iff.2 hfull)
        unfold St.full at hfull
        rw [hf] at hfull
        clear hf
        simp only [decide_eq_true_eq] at hfull
        have hfl := OK1.out.small f (find_some HF.out).1
        by_cases hy : (s1.pays (data.length + 1)).2 = true
        · rw [if_pos hy]
          have HY := Aside0.mk hy
          have HA2 := Aside0.mk (pays_all s1 (data.length + 1))
          clear hy
          go_enter Try.func32, Try.ntmps32
          go_wp2_with fail
          refine HM.out.mono ?_
          rintro e w1 ⟨rfl, ⟨mb, q, dv, h1⟩, hU⟩
          have H1 := Aside0.mk h1
          have HU := Aside0.mk hU
          have hp1 := h1.head
          unfold diskCells at hp1
          have c0 := blk_cell hp1 0
          have c1 := blk_cell hp1 1
          have c2 := blk_cell hp1 2
          have c3 := blk_cell hp1 3
          have c4 := blk_cell hp1 4
          have c5 := blk_cell hp1 5
          have fc0 := blk_frozen hp1 0
          have fc1 := blk_frozen hp1 1
          have fc2 := blk_frozen hp1 2
          have fc3 := blk_frozen hp1 3
          have fc4 := blk_frozen hp1 4
          have fc5 := blk_frozen hp1 5
          simp only [List.getElem?_toArray, List.getElem?_cons_succ, List.getElem?_cons_zero] at c0 c1 c2 c3 c4 c5
          clear hp1 hU HM
          have hlook := h1.see_some HF.out
          have hff := h1.files.file f (find_some HF.out).1
          obtain ⟨A9, c9, he9, hc9, _⟩ := Kd.R_reads (h1.files.row f (find_some HF.out).1)
          rw [he9, data_length] at hff
          have g0 := blk_cell hff 0
          have g1 := blk_cell hff 1
          have fg0 := blk_frozen hff 0
          have fg1 := blk_frozen hff 1
          simp only [List.getElem?_toArray, List.getElem?_cons_succ, List.getElem?_cons_zero] at g0 g1
          clear hff he9 hc9
          have HPY := Aside0.mk (pay_ctx w1 p (More X w w1) s1 (data.length + 1) mb q dv h1 OK1.out (by omega))
          rw [HY.out] at HPY
          simp only [↓reduceIte, Bool.false_eq_true] at HPY
          clear h1
          go_wp2_with fail
          refine HPY.out.mono ?_
          rintro e w2 ⟨rfl, h2, hU2⟩
          have H2 := Aside0.mk h2
          have HU2 := Aside0.mk hU2
          have hp2 := h2.head
          unfold diskCells at hp2
          have b0 := blk_cell hp2 0
          have b1 := blk_cell hp2 1
          have b2 := blk_cell hp2 2
          have b3 := blk_cell hp2 3
          have b4 := blk_cell hp2 4
          have b5 := blk_cell hp2 5
          have fb0 := blk_frozen hp2 0
          have fb1 := blk_frozen hp2 1
          have fb2 := blk_frozen hp2 2
          have fb3 := blk_frozen hp2 3
          have fb4 := blk_frozen hp2 4
          have fb5 := blk_frozen hp2 5
          simp only [List.getElem?_toArray, List.getElem?_cons_succ, List.getElem?_cons_zero] at b0 b1 b2 b3 b4 b5
          have hlt2 := blk_lt hp2
          generalize hs2 : (s1.pays (data.length + 1)).1 = s2 at *
          have HS2 := Aside0.mk hs2
          clear hs2 hp2 hU2 HPY
          have hf3 : f ∈ s2.all := by rw [HA2.out]; exact (find_some HF.out).1
          have h3 := h2
          have HLAY := Aside0.mk (lay_upd (show find s2.all nm = some f by rw [HA2.out]; exact HF.out) data)
          have HRW := Aside0.mk (h2.files.row f hf3)
          have hd0 := h2.files.file f hf3
          have hC := HS.out _ ((HU.out.more HU2.out).more (Upd.refl _ _))
          have HDT := Aside0.mk hC
          have d0 := blk_cell hd0 0
          have d1 := blk_cell hd0 1
          have fd0 := blk_frozen hd0 0
          have fd1 := blk_frozen hd0 1
          simp only [List.getElem?_toArray, List.getElem?_cons_succ, List.getElem?_cons_zero] at d0 d1
          have HSZ := Aside0.mk (show f.data.length + data.length ≤ 2 ^ 41 by have := data_length f; have := OK1.out.small f (by rw [← HA2.out]; exact hf3); omega)
          clear hd0 hC
          have H3 := Aside0.mk h3
          clear h3 h2
          go_wp2_with (((with_reducible refine gate_builtin (b := .append) (xs := #[.tmp 81, .tmp 82]) rfl ?_); at_builtin; refine Kd.R_append_rows (Kd.int .u8) (w0 := w2) 0 rfl (.tmp 81) (.tmp 82) 38 5 (.int .u8 0) 1 rfl Try.underlying38 PD.info5 rfl (by decide) (by omega) _ f.data data _ _ _ (fun _ => True) (fun _ => False) rfl rfl HRW.out HDT.out (fun _ _ h => h) (fun _ h => h.elim) (fun _ _ => trivial) (Below.refl _ _) (Nat.zero_le _) (by have := HSZ.out; omega) ?_; intro v1 w4 ho hb hg hat; obtain ⟨A1, c1', rfl, _, _⟩ := Kd.R_reads ho; generalize hn1 : (f.data ++ data).length = n1 at ho hat ⊢; clear hn1; have hc4 := lay_cell H3.out hf3 hg; have e0 := blk_cell hc4 0; have fe0 := blk_frozen hc4 0; simp only [List.getElem?_toArray, List.getElem?_cons_succ, List.getElem?_cons_zero] at e0; have HO := Aside0.mk ho; have HG := Aside0.mk (show World.grownBy _ w4 ((dv f.name)).ownBlock from hg); have HAT := Aside0.mk (show (Value.slice A1 n1 c1').ownBlock = ((dv f.name)).ownBlock ∨ _ from hat); clear ho hb hg hat hc4))
          go_ret
          refine ⟨rfl, ?_⟩
          have hl3 := lay_done H3.out hf3 data HO.out HG.out HAT.out
          rw [show ∀ g, upd f.name g s2.all = upd nm g s2.all from fun g => by rw [(find_some HF.out).2]] at hl3
          rw [HS2.out, HLAY.out]
          exact PStep.trans (PStep.trans ⟨⟨mb, q, dv, H1.out⟩, HU.out⟩ ⟨⟨mb, q, dv, H2.out⟩, HU2.out⟩) (conv_more HU.out.size HU2.out.size hl3)
        · rw [if_neg hy]
          have HY := Aside0.mk (Bool.eq_false_iff.2 hy)
          have PN := Aside0.mk (pays_no hy)
          have HA2 := Aside0.mk (show s1.fall.all = s1.all from rfl)
          obtain ⟨i5, hi5, hz5_⟩ := Option.map_eq_some_iff.1 PD.info5
          have hz5 : i5.size = 1 := (Prod.mk.inj (Prod.mk.inj hz5_).2).1
          clear hy hz5_
          go_enter Try.func32, Try.ntmps32
          go_wp2_with fail
          refine HM.out.mono ?_
          rintro e w1 ⟨rfl, ⟨mb, q, dv, h1⟩, hU⟩
          have H1 := Aside0.mk h1
          have HU := Aside0.mk hU
          have hp1 := h1.head
          unfold diskCells at hp1
          have c0 := blk_cell hp1 0
          have c1 := blk_cell hp1 1
          have c2 := blk_cell hp1 2
          have c3 := blk_cell hp1 3
          have c4 := blk_cell hp1 4
          have c5 := blk_cell hp1 5
          have fc0 := blk_frozen hp1 0
          have fc1 := blk_frozen hp1 1
          have fc2 := blk_frozen hp1 2
          have fc3 := blk_frozen hp1 3
          have fc4 := blk_frozen hp1 4
          have fc5 := blk_frozen hp1 5
          simp only [List.getElem?_toArray, List.getElem?_cons_succ, List.getElem?_cons_zero] at c0 c1 c2 c3 c4 c5
          clear hp1 hU HM
          have hlook := h1.see_some HF.out
          have hff := h1.files.file f (find_some HF.out).1
          obtain ⟨A9, c9, he9, hc9, _⟩ := Kd.R_reads (h1.files.row f (find_some HF.out).1)
          rw [he9, data_length] at hff
          have g0 := blk_cell hff 0
          have g1 := blk_cell hff 1
          have fg0 := blk_frozen hff 0
          have fg1 := blk_frozen hff 1
          simp only [List.getElem?_toArray, List.getElem?_cons_succ, List.getElem?_cons_zero] at g0 g1
          clear hff he9 hc9
          have HPY := Aside0.mk (pay_ctx w1 p (More X w w1) s1 (data.length + 1) mb q dv h1 OK1.out (by omega))
          rw [HY.out] at HPY
          simp only [↓reduceIte, Bool.false_eq_true] at HPY
          clear h1
          go_wp2_with fail
          refine HPY.out.mono ?_
          rintro e w2 ⟨rfl, h2, hU2⟩
          have H2 := Aside0.mk h2
          have HU2 := Aside0.mk hU2
          have hp2 := h2.head
          unfold diskCells at hp2
          have b0 := blk_cell hp2 0
          have b1 := blk_cell hp2 1
          have b2 := blk_cell hp2 2
          have b3 := blk_cell hp2 3
          have b4 := blk_cell hp2 4
          have b5 := blk_cell hp2 5
          have fb0 := blk_frozen hp2 0
          have fb1 := blk_frozen hp2 1
          have fb2 := blk_frozen hp2 2
          have fb3 := blk_frozen hp2 3
          have fb4 := blk_frozen hp2 4
          have fb5 := blk_frozen hp2 5
          simp only [List.getElem?_toArray, List.getElem?_cons_succ, List.getElem?_cons_zero] at b0 b1 b2 b3 b4 b5
          have hlt2 := blk_lt hp2
          generalize hs2 : s1.fall = s2 at *
          have HS2 := Aside0.mk hs2
          clear hs2 hp2 hU2 HPY
          have hf3 : f ∈ s2.all := by rw [HA2.out]; exact (find_some HF.out).1
          have h3 := h2
          have HLAY := Aside0.mk (lay_upd (show find s2.all nm = some f by rw [HA2.out]; exact HF.out) (data.take s1.left.toNat))
          have HRW := Aside0.mk (h2.files.row f hf3)
          have hd0 := h2.files.file f hf3
          have hC := HS.out _ ((HU.out.more HU2.out).more (Upd.refl _ _))
          obtain ⟨hcut, hrd, hle⟩ := print_take_int (k := .u8) 38 5 Try.underlying38 hi5 hz5 A c data s1.left PN.out.1 (by have := PN.out.2.1; omega) hc
          have HDT := Aside0.mk (Kd.C_take hC (m := s1.left.toNat) (by have := PN.out.2.1; have := PN.out.1; omega))
          generalize hdc : data.take s1.left.toNat = dcut at *
          have HDC := Aside0.mk hdc
          have d0 := blk_cell hd0 0
          have d1 := blk_cell hd0 1
          have fd0 := blk_frozen hd0 0
          have fd1 := blk_frozen hd0 1
          simp only [List.getElem?_toArray, List.getElem?_cons_succ, List.getElem?_cons_zero] at d0 d1
          have HSZ := Aside0.mk (show f.data.length + dcut.length ≤ 2 ^ 41 by have h9 := congrArg List.length HDC.out; rw [List.length_take] at h9; have := data_length f; have := OK1.out.small f (by rw [← HA2.out]; exact hf3); omega)
          clear hd0 hC
          clear hdc
          have H3 := Aside0.mk h3.drew
          have H30 := Aside0.mk h3
          clear h3 h2
          go_wp2
          refine start_ (n := 12) (S := fun w' => w'.cell? ⟨(q f.name), 0, none⟩ = some (dv f.name)) (ds := [11]) #[false, false, false, false, false, false, false, false, false, false, false, false] (by kernel_rfl) rfl rfl (d0) (fun hHeld => ?_)
          refine zq 0 (some 66) ?_
          refine zq 1 (some 67) ?_
          refine zq 2 (some 68) ?_
          refine zq 3 (some 69) ?_
          refine zq 5 (some 71) ?_
          refine zq 6 (some 72) ?_
          refine zq 7 (some 73) ?_
          refine zu 4 (some 70) hHeld ?_
          refine one_ (i := 8) (N := some 74) #[true, true, true, true, true, true, true, true, true, false, false, false] rfl rfl (by kernel_rfl) (by decide) (fun K hK => ?_)
          refine Kd.R_append_rows_step (Kd.int .u8) (w0 := w2.drew) 0 (by rfl) (.tmp 70) (.tmp 73) 38 5 (.int .u8 0) 1 rfl Try.underlying38 PD.info5 rfl (by decide) (by decide) _ f.data dcut _ _ _ (fun _ => True) (fun _ => False) rfl rfl (Kd.R_drew HRW.out) (Kd.C_drew HDT.out) (fun _ _ h => h) (fun _ h => h.elim) (fun _ _ => trivial) (Below.refl _ _) (Nat.zero_le _) (by have := HSZ.out; omega) ?_
          intro v1 w4 ho hb hg hat
          obtain ⟨A1, c1', rfl, _, _⟩ := Kd.R_reads ho
          generalize hn1 : (f.data ++ dcut).length = n1 at ho hat ⊢
          clear hn1
          have hc4 := lay_cell H3.out hf3 hg
          skip
          have e0 := blk_cell hc4 0
          have fe0 := blk_frozen hc4 0
          simp only [List.getElem?_toArray, List.getElem?_cons_succ, List.getElem?_cons_zero] at e0
          have HO := Aside0.mk ho
          have HG := Aside0.mk (show w2.drew.grownBy w4 ((dv f.name)).ownBlock from hg)
          have HAT := Aside0.mk (show (Value.slice A1 n1 c1').ownBlock = ((dv f.name)).ownBlock ∨ _ from hat)
          clear ho hb hg hat hc4
          refine hK.out _ _ (e0) (fun hHeld => ?_)
          clear hK K
          refine norm_ (a' := ?_) ?_ ?_
          rotate_left
          · show Act.put _ (some 74) _ = _
            simp only [Act.put, zla, zlb, zlc, i64_w, i32_w]
            rfl
          refine zq 9 (some 75) ?_
          refine zq 10 (some 76) ?_
          refine last_ (i := 11) (N := none) #[true, true, true, true, true, true, true, true, true, true, true, true] rfl rfl (by kernel_rfl) (by decide) (fun K hK => ?_)
          refine skip_ (w1 := ?_) (by rfl) rfl ?_ ?_
          rotate_left
          · go_simp
            rfl
          refine hK.out _ _ ?_
          clear hK K
          refine done_ (by kernel_rfl) ?_
          go_wp2
          go_ret
          refine ⟨rfl, ?_⟩
          have hl3 := PStep.trans (PStep.below ⟨_, _, _, H30.out⟩ (below_drew (Below.refl _ _))) ((fun x => ⟨x.1.mono (fun _ h => h.elim (fun h => .inl (.inl h)) .inr) (fun k hk => x.1.bd k (hk.elim (fun h => h.elim .inl (fun h2 => absurd h2.2 (Nat.not_lt.2 h2.1))) .inr)), x.2.mono (fun _ _ h => .inl h)⟩) (lay_done H3.out hf3 dcut HO.out HG.out HAT.out))
          rw [show ∀ g, upd f.name g s2.all = upd nm g s2.all from fun g => by rw [(find_some HF.out).2]] at hl3
          rw [lay_fall, HS2.out, HDC.out, HLAY.out]
          exact PStep.trans (PStep.trans ⟨⟨mb, q, dv, H1.out⟩, HU.out⟩ ⟨⟨mb, q, dv, H2.out⟩, HU2.out⟩) (conv_more HU.out.size HU2.out.size hl3)
end Go.Proofs.Ytfholpajdkjbbaa.DK
/- The program's disk: Sync, Trim, Remove, and change beneath them; conditions: those in each theorem. -/
namespace Go.Proofs.Ytfholpajdkjbbaa.DK
open Go.RowKit Go.Proofs.YtfholpajdkjbbaaW.PrintWords Go.Proofs.YtfholpajdkjbbaaW.PrintLast Go.Proofs.YtfholpajdkjbbaaW.PrintMore Go.Proofs.Ytfholpajdkjbbaa.Mo
set_option linter.unusedVariables false
set_option linter.unusedSimpArgs false
/-- What the function handed to change does. -/
def Does (k : Nat) (caps : Array Value) (w : World) (p : Nat) (X : Nat → Prop) (l : List F) (nm : ByteArray) (gm : List F → List F) : Prop :=
  ∀ w2 s2 mb q dv f, Upd X w w2 → PDisk w2 p (More X w w2) s2 mb q dv → s2.all = l → find l nm = some f → Calls Try.prog k (#[.pointer (some ⟨q f.name, 0, none⟩)] ++ caps) w2 fun e w' => e = .returned (.tuple #[]) ∧ PStep p (More X w w2) w2 w' { s2 with all := gm s2.all }
theorem Does.at_ {k : Nat} {caps : Array Value} {w : World} {p : Nat} {X : Nat → Prop} {l : List F} {nm : ByteArray} {gm : List F → List F} (h : Does k caps w p X l nm gm) {w1 w2 : World} {s2 : St} {mb : Nat} {q : ByteArray → Nat} {dv : ByteArray → Value} {f : F}
    (h1 : Upd X w w1) (h2 : Upd (More X w w1) w1 w2) (hd : PDisk w2 p (More (More X w w1) w1 w2) s2 mb q dv) (hl : s2.all = l) (hf : find l nm = some f) {args : Array Value} (ha : #[.pointer (some ⟨q f.name, 0, none⟩)] ++ caps = args) :
    Calls Try.prog k args w2 fun e w' => e = .returned (.tuple #[]) ∧ PStep p (More X w w2) w2 w' { s2 with all := gm s2.all } := by
  subst ha
  exact h w2 s2 mb q dv f (h1.more h2) (hd.mono (fun k hk => (More.trans h1.size h2.size k).1 hk) (fun k hk => hd.bd k ((More.trans h1.size h2.size k).2 hk))) hl hf
set_option maxHeartbeats 2000000 in
set_option maxRecDepth 100000 in
theorem change_sync (w : World) (p : Nat) (X : Nat → Prop) (s : St) (nm : ByteArray) (gm : List F → List F) (h : Prog w p X s) (ok : Ok s) (hD : Does 49 #[] w p X s.all nm gm) :
    Calls Try.prog 48 #[.pointer (some ⟨p, 0, none⟩), .string nm, .func (.func 49) #[] #[]] w fun e w' => e = .returned (.int .i64 (s.change nm gm).2) ∧ PStep p X w w' (s.change nm gm).1 := by
  have HM := Aside0.mk (may_calls w p X s nm true h ok)
  have ok1 := ok.ahead nm true
  have ha1 := ahead_all s nm true
  have HD := Aside0.mk hD
  by_cases hc0 : (s.ahead nm true).2 ≠ 0
  · rw [change_err hc0]
    generalize s.ahead nm true = r at *
    obtain ⟨s1, c1⟩ := r
    dsimp only at *
    have hb1 : (c1 == 0) = false := by simpa using hc0
    have hb2 : (c1 != 0) = true := by simpa using hc0
    clear hc0 h hD
    go_enter Try.func48, Try.ntmps48
    go_wp2_with (go_at_call 53; refine HM.out.mono ?_; rintro e w1 ⟨rfl, hP⟩)
    go_ret
    exact ⟨rfl, hP⟩
  · have hc1 : (s.ahead nm true).2 = 0 := by omega
    rw [hc1] at HM
    clear hc0 h hD
    have OK1 := Aside0.mk ok1
    have HA := Aside0.mk ha1
    clear ok ok1
    cases hf : find s.all nm with
    | none =>
      have HF := Aside0.mk hf
      rw [change_none hc1 hf]
      clear hf hc1
      generalize (s.ahead nm true).1 = s1 at *
      go_enter Try.func48, Try.ntmps48
      go_wp2_with fail
      refine HM.out.mono ?_
      rintro e w1 ⟨rfl, ⟨mb, q, dv, h1⟩, hU⟩
      have H1 := Aside0.mk h1
      have HU := Aside0.mk hU
      have hp1 := h1.head
      unfold diskCells at hp1
      have c0 := blk_cell hp1 0
      have c1 := blk_cell hp1 1
      have c2 := blk_cell hp1 2
      have c3 := blk_cell hp1 3
      have c4 := blk_cell hp1 4
      have c5 := blk_cell hp1 5
      have fc0 := blk_frozen hp1 0
      have fc1 := blk_frozen hp1 1
      have fc2 := blk_frozen hp1 2
      have fc3 := blk_frozen hp1 3
      have fc4 := blk_frozen hp1 4
      have fc5 := blk_frozen hp1 5
      simp only [List.getElem?_toArray, List.getElem?_cons_succ, List.getElem?_cons_zero] at c0 c1 c2 c3 c4 c5
      have hlook := h1.see_none (by rw [HA.out]; exact HF.out)
      clear hp1 hU HM h1
      go_wp2
      go_ret
      exact ⟨rfl, ⟨mb, q, dv, H1.out⟩, HU.out⟩
    | some f =>
      have HF := Aside0.mk hf
      by_cases hy : ((s.ahead nm true).1.pays 1).2 = true
      · rw [change_go hc1 hf hy]
        clear hf hc1
        generalize (s.ahead nm true).1 = s1 at *
        have HY := Aside0.mk hy
        have HA2 := Aside0.mk ((pays_all s1 1).trans ha1)
        clear hy ha1
        go_enter Try.func48, Try.ntmps48
        go_wp2_with fail
        refine HM.out.mono ?_
        rintro e w1 ⟨rfl, ⟨mb, q, dv, h1⟩, hU⟩
        have H1 := Aside0.mk h1
        have HU := Aside0.mk hU
        have hp1 := h1.head
        unfold diskCells at hp1
        have c0 := blk_cell hp1 0
        have c1 := blk_cell hp1 1
        have c2 := blk_cell hp1 2
        have c3 := blk_cell hp1 3
        have c4 := blk_cell hp1 4
        have c5 := blk_cell hp1 5
        have fc0 := blk_frozen hp1 0
        have fc1 := blk_frozen hp1 1
        have fc2 := blk_frozen hp1 2
        have fc3 := blk_frozen hp1 3
        have fc4 := blk_frozen hp1 4
        have fc5 := blk_frozen hp1 5
        simp only [List.getElem?_toArray, List.getElem?_cons_succ, List.getElem?_cons_zero] at c0 c1 c2 c3 c4 c5
        have hlook := h1.see_some (show find s1.all nm = some f by rw [HA.out]; exact HF.out)
        have HPY := Aside0.mk (pay_ctx w1 p (More X w w1) s1 1 mb q dv h1 OK1.out (by decide))
        rw [HY.out] at HPY
        simp only [↓reduceIte] at HPY
        clear hp1 hU HM h1
        go_wp2_with fail
        refine HPY.out.mono ?_
        rintro e w2 ⟨rfl, h2, hU2⟩
        have H2 := Aside0.mk h2
        have HU2 := Aside0.mk hU2
        have HDD := Aside0.mk (HD.out.at_ HU.out hU2 h2 HA2.out HF.out (args := #[.pointer (some ⟨q f.name, 0, none⟩)]) rfl)
        clear h2 hU2 HPY
        go_wp2_with fail
        refine HDD.out.mono ?_
        rintro e w3 ⟨rfl, hP3⟩
        have HP3 := Aside0.mk hP3
        clear hP3
        go_wp2
        go_ret
        refine ⟨rfl, ?_⟩
        exact PStep.trans (PStep.trans ⟨⟨mb, q, dv, H1.out⟩, HU.out⟩ ⟨⟨mb, q, dv, H2.out⟩, HU2.out⟩) HP3.out
      · rw [change_fall hc1 hf hy]
        clear hf hc1
        generalize (s.ahead nm true).1 = s1 at *
        have HY := Aside0.mk (Bool.eq_false_iff.2 hy)
        clear hy ha1
        go_enter Try.func48, Try.ntmps48
        go_wp2_with fail
        refine HM.out.mono ?_
        rintro e w1 ⟨rfl, ⟨mb, q, dv, h1⟩, hU⟩
        have H1 := Aside0.mk h1
        have HU := Aside0.mk hU
        have hp1 := h1.head
        unfold diskCells at hp1
        have c0 := blk_cell hp1 0
        have c1 := blk_cell hp1 1
        have c2 := blk_cell hp1 2
        have c3 := blk_cell hp1 3
        have c4 := blk_cell hp1 4
        have c5 := blk_cell hp1 5
        have fc0 := blk_frozen hp1 0
        have fc1 := blk_frozen hp1 1
        have fc2 := blk_frozen hp1 2
        have fc3 := blk_frozen hp1 3
        have fc4 := blk_frozen hp1 4
        have fc5 := blk_frozen hp1 5
        simp only [List.getElem?_toArray, List.getElem?_cons_succ, List.getElem?_cons_zero] at c0 c1 c2 c3 c4 c5
        have hlook := h1.see_some (show find s1.all nm = some f by rw [HA.out]; exact HF.out)
        have HPY := Aside0.mk (pay_ctx w1 p (More X w w1) s1 1 mb q dv h1 OK1.out (by decide))
        rw [HY.out] at HPY
        simp only [Bool.false_eq_true, ↓reduceIte] at HPY
        clear hp1 hU HM h1
        go_wp2_with fail
        refine HPY.out.mono ?_
        rintro e w2 ⟨rfl, h2, hU2⟩
        have H2 := Aside0.mk h2
        have HU2 := Aside0.mk hU2
        clear h2 hU2 HPY
        go_wp2
        go_ret
        exact ⟨rfl, PStep.trans ⟨⟨mb, q, dv, H1.out⟩, HU.out⟩ ⟨⟨mb, q, dv, H2.out⟩, HU2.out⟩⟩
set_option maxHeartbeats 2000000 in
set_option maxRecDepth 100000 in
theorem change_trim (w : World) (p : Nat) (X : Nat → Prop) (s : St) (nm : ByteArray) (gm : List F → List F) (b : Nat) (h : Prog w p X s) (ok : Ok s) (hD : Does 64 #[.pointer (some ⟨b, 0, none⟩)] w p X s.all nm gm) :
    Calls Try.prog 48 #[.pointer (some ⟨p, 0, none⟩), .string nm, .func (.func 64) #[] #[.pointer (some ⟨b, 0, none⟩)]] w fun e w' => e = .returned (.int .i64 (s.change nm gm).2) ∧ PStep p X w w' (s.change nm gm).1 := by
  have HM := Aside0.mk (may_calls w p X s nm true h ok)
  have ok1 := ok.ahead nm true
  have ha1 := ahead_all s nm true
  have HD := Aside0.mk hD
  by_cases hc0 : (s.ahead nm true).2 ≠ 0
  · rw [change_err hc0]
    generalize s.ahead nm true = r at *
    obtain ⟨s1, c1⟩ := r
    dsimp only at *
    have hb1 : (c1 == 0) = false := by simpa using hc0
    have hb2 : (c1 != 0) = true := by simpa using hc0
    clear hc0 h hD
    go_enter Try.func48, Try.ntmps48
    go_wp2_with (go_at_call 53; refine HM.out.mono ?_; rintro e w1 ⟨rfl, hP⟩)
    go_ret
    exact ⟨rfl, hP⟩
  · have hc1 : (s.ahead nm true).2 = 0 := by omega
    rw [hc1] at HM
    clear hc0 h hD
    have OK1 := Aside0.mk ok1
    have HA := Aside0.mk ha1
    clear ok ok1
    cases hf : find s.all nm with
    | none =>
      have HF := Aside0.mk hf
      rw [change_none hc1 hf]
      clear hf hc1
      generalize (s.ahead nm true).1 = s1 at *
      go_enter Try.func48, Try.ntmps48
      go_wp2_with fail
      refine HM.out.mono ?_
      rintro e w1 ⟨rfl, ⟨mb, q, dv, h1⟩, hU⟩
      have H1 := Aside0.mk h1
      have HU := Aside0.mk hU
      have hp1 := h1.head
      unfold diskCells at hp1
      have c0 := blk_cell hp1 0
      have c1 := blk_cell hp1 1
      have c2 := blk_cell hp1 2
      have c3 := blk_cell hp1 3
      have c4 := blk_cell hp1 4
      have c5 := blk_cell hp1 5
      have fc0 := blk_frozen hp1 0
      have fc1 := blk_frozen hp1 1
      have fc2 := blk_frozen hp1 2
      have fc3 := blk_frozen hp1 3
      have fc4 := blk_frozen hp1 4
      have fc5 := blk_frozen hp1 5
      simp only [List.getElem?_toArray, List.getElem?_cons_succ, List.getElem?_cons_zero] at c0 c1 c2 c3 c4 c5
      have hlook := h1.see_none (by rw [HA.out]; exact HF.out)
      clear hp1 hU HM h1
      go_wp2
      go_ret
      exact ⟨rfl, ⟨mb, q, dv, H1.out⟩, HU.out⟩
    | some f =>
      have HF := Aside0.mk hf
      by_cases hy : ((s.ahead nm true).1.pays 1).2 = true
      · rw [change_go hc1 hf hy]
        clear hf hc1
        generalize (s.ahead nm true).1 = s1 at *
        have HY := Aside0.mk hy
        have HA2 := Aside0.mk ((pays_all s1 1).trans ha1)
        clear hy ha1
        go_enter Try.func48, Try.ntmps48
        go_wp2_with fail
        refine HM.out.mono ?_
        rintro e w1 ⟨rfl, ⟨mb, q, dv, h1⟩, hU⟩
        have H1 := Aside0.mk h1
        have HU := Aside0.mk hU
        have hp1 := h1.head
        unfold diskCells at hp1
        have c0 := blk_cell hp1 0
        have c1 := blk_cell hp1 1
        have c2 := blk_cell hp1 2
        have c3 := blk_cell hp1 3
        have c4 := blk_cell hp1 4
        have c5 := blk_cell hp1 5
        have fc0 := blk_frozen hp1 0
        have fc1 := blk_frozen hp1 1
        have fc2 := blk_frozen hp1 2
        have fc3 := blk_frozen hp1 3
        have fc4 := blk_frozen hp1 4
        have fc5 := blk_frozen hp1 5
        simp only [List.getElem?_toArray, List.getElem?_cons_succ, List.getElem?_cons_zero] at c0 c1 c2 c3 c4 c5
        have hlook := h1.see_some (show find s1.all nm = some f by rw [HA.out]; exact HF.out)
        have HPY := Aside0.mk (pay_ctx w1 p (More X w w1) s1 1 mb q dv h1 OK1.out (by decide))
        rw [HY.out] at HPY
        simp only [↓reduceIte] at HPY
        clear hp1 hU HM h1
        go_wp2_with fail
        refine HPY.out.mono ?_
        rintro e w2 ⟨rfl, h2, hU2⟩
        have H2 := Aside0.mk h2
        have HU2 := Aside0.mk hU2
        have HDD := Aside0.mk (HD.out.at_ HU.out hU2 h2 HA2.out HF.out (args := #[.pointer (some ⟨q f.name, 0, none⟩), .pointer (some ⟨b, 0, none⟩)]) rfl)
        clear h2 hU2 HPY
        go_wp2_with fail
        refine HDD.out.mono ?_
        rintro e w3 ⟨rfl, hP3⟩
        have HP3 := Aside0.mk hP3
        clear hP3
        go_wp2
        go_ret
        refine ⟨rfl, ?_⟩
        exact PStep.trans (PStep.trans ⟨⟨mb, q, dv, H1.out⟩, HU.out⟩ ⟨⟨mb, q, dv, H2.out⟩, HU2.out⟩) HP3.out
      · rw [change_fall hc1 hf hy]
        clear hf hc1
        generalize (s.ahead nm true).1 = s1 at *
        have HY := Aside0.mk (Bool.eq_false_iff.2 hy)
        clear hy ha1
        go_enter Try.func48, Try.ntmps48
        go_wp2_with fail
        refine HM.out.mono ?_
        rintro e w1 ⟨rfl, ⟨mb, q, dv, h1⟩, hU⟩
        have H1 := Aside0.mk h1
        have HU := Aside0.mk hU
        have hp1 := h1.head
        unfold diskCells at hp1
        have c0 := blk_cell hp1 0
        have c1 := blk_cell hp1 1
        have c2 := blk_cell hp1 2
        have c3 := blk_cell hp1 3
        have c4 := blk_cell hp1 4
        have c5 := blk_cell hp1 5
        have fc0 := blk_frozen hp1 0
        have fc1 := blk_frozen hp1 1
        have fc2 := blk_frozen hp1 2
        have fc3 := blk_frozen hp1 3
        have fc4 := blk_frozen hp1 4
        have fc5 := blk_frozen hp1 5
        simp only [List.getElem?_toArray, List.getElem?_cons_succ, List.getElem?_cons_zero] at c0 c1 c2 c3 c4 c5
        have hlook := h1.see_some (show find s1.all nm = some f by rw [HA.out]; exact HF.out)
        have HPY := Aside0.mk (pay_ctx w1 p (More X w w1) s1 1 mb q dv h1 OK1.out (by decide))
        rw [HY.out] at HPY
        simp only [Bool.false_eq_true, ↓reduceIte] at HPY
        clear hp1 hU HM h1
        go_wp2_with fail
        refine HPY.out.mono ?_
        rintro e w2 ⟨rfl, h2, hU2⟩
        have H2 := Aside0.mk h2
        have HU2 := Aside0.mk hU2
        clear h2 hU2 HPY
        go_wp2
        go_ret
        exact ⟨rfl, PStep.trans ⟨⟨mb, q, dv, H1.out⟩, HU.out⟩ ⟨⟨mb, q, dv, H2.out⟩, HU2.out⟩⟩
set_option maxHeartbeats 2000000 in
set_option maxRecDepth 100000 in
theorem change_remove (w : World) (p : Nat) (X : Nat → Prop) (s : St) (nm : ByteArray) (gm : List F → List F) (b b2 : Nat) (h : Prog w p X s) (ok : Ok s) (hD : Does 63 #[.pointer (some ⟨b, 0, none⟩), .pointer (some ⟨b2, 0, none⟩)] w p X s.all nm gm) :
    Calls Try.prog 48 #[.pointer (some ⟨p, 0, none⟩), .string nm, .func (.func 63) #[] #[.pointer (some ⟨b, 0, none⟩), .pointer (some ⟨b2, 0, none⟩)]] w fun e w' => e = .returned (.int .i64 (s.change nm gm).2) ∧ PStep p X w w' (s.change nm gm).1 := by
  have HM := Aside0.mk (may_calls w p X s nm true h ok)
  have ok1 := ok.ahead nm true
  have ha1 := ahead_all s nm true
  have HD := Aside0.mk hD
  by_cases hc0 : (s.ahead nm true).2 ≠ 0
  · rw [change_err hc0]
    generalize s.ahead nm true = r at *
    obtain ⟨s1, c1⟩ := r
    dsimp only at *
    have hb1 : (c1 == 0) = false := by simpa using hc0
    have hb2 : (c1 != 0) = true := by simpa using hc0
    clear hc0 h hD
    go_enter Try.func48, Try.ntmps48
    go_wp2_with (go_at_call 53; refine HM.out.mono ?_; rintro e w1 ⟨rfl, hP⟩)
    go_ret
    exact ⟨rfl, hP⟩
  · have hc1 : (s.ahead nm true).2 = 0 := by omega
    rw [hc1] at HM
    clear hc0 h hD
    have OK1 := Aside0.mk ok1
    have HA := Aside0.mk ha1
    clear ok ok1
    cases hf : find s.all nm with
    | none =>
      have HF := Aside0.mk hf
      rw [change_none hc1 hf]
      clear hf hc1
      generalize (s.ahead nm true).1 = s1 at *
      go_enter Try.func48, Try.ntmps48
      go_wp2_with fail
      refine HM.out.mono ?_
      rintro e w1 ⟨rfl, ⟨mb, q, dv, h1⟩, hU⟩
      have H1 := Aside0.mk h1
      have HU := Aside0.mk hU
      have hp1 := h1.head
      unfold diskCells at hp1
      have c0 := blk_cell hp1 0
      have c1 := blk_cell hp1 1
      have c2 := blk_cell hp1 2
      have c3 := blk_cell hp1 3
      have c4 := blk_cell hp1 4
      have c5 := blk_cell hp1 5
      have fc0 := blk_frozen hp1 0
      have fc1 := blk_frozen hp1 1
      have fc2 := blk_frozen hp1 2
      have fc3 := blk_frozen hp1 3
      have fc4 := blk_frozen hp1 4
      have fc5 := blk_frozen hp1 5
      simp only [List.getElem?_toArray, List.getElem?_cons_succ, List.getElem?_cons_zero] at c0 c1 c2 c3 c4 c5
      have hlook := h1.see_none (by rw [HA.out]; exact HF.out)
      clear hp1 hU HM h1
      go_wp2
      go_ret
      exact ⟨rfl, ⟨mb, q, dv, H1.out⟩, HU.out⟩
    | some f =>
      have HF := Aside0.mk hf
      by_cases hy : ((s.ahead nm true).1.pays 1).2 = true
      · rw [change_go hc1 hf hy]
        clear hf hc1
        generalize (s.ahead nm true).1 = s1 at *
        have HY := Aside0.mk hy
        have HA2 := Aside0.mk ((pays_all s1 1).trans ha1)
        clear hy ha1
        go_enter Try.func48, Try.ntmps48
        go_wp2_with fail
        refine HM.out.mono ?_
        rintro e w1 ⟨rfl, ⟨mb, q, dv, h1⟩, hU⟩
        have H1 := Aside0.mk h1
        have HU := Aside0.mk hU
        have hp1 := h1.head
        unfold diskCells at hp1
        have c0 := blk_cell hp1 0
        have c1 := blk_cell hp1 1
        have c2 := blk_cell hp1 2
        have c3 := blk_cell hp1 3
        have c4 := blk_cell hp1 4
        have c5 := blk_cell hp1 5
        have fc0 := blk_frozen hp1 0
        have fc1 := blk_frozen hp1 1
        have fc2 := blk_frozen hp1 2
        have fc3 := blk_frozen hp1 3
        have fc4 := blk_frozen hp1 4
        have fc5 := blk_frozen hp1 5
        simp only [List.getElem?_toArray, List.getElem?_cons_succ, List.getElem?_cons_zero] at c0 c1 c2 c3 c4 c5
        have hlook := h1.see_some (show find s1.all nm = some f by rw [HA.out]; exact HF.out)
        have HPY := Aside0.mk (pay_ctx w1 p (More X w w1) s1 1 mb q dv h1 OK1.out (by decide))
        rw [HY.out] at HPY
        simp only [↓reduceIte] at HPY
        clear hp1 hU HM h1
        go_wp2_with fail
        refine HPY.out.mono ?_
        rintro e w2 ⟨rfl, h2, hU2⟩
        have H2 := Aside0.mk h2
        have HU2 := Aside0.mk hU2
        have HDD := Aside0.mk (HD.out.at_ HU.out hU2 h2 HA2.out HF.out (args := #[.pointer (some ⟨q f.name, 0, none⟩), .pointer (some ⟨b, 0, none⟩), .pointer (some ⟨b2, 0, none⟩)]) rfl)
        clear h2 hU2 HPY
        go_wp2_with fail
        refine HDD.out.mono ?_
        rintro e w3 ⟨rfl, hP3⟩
        have HP3 := Aside0.mk hP3
        clear hP3
        go_wp2
        go_ret
        refine ⟨rfl, ?_⟩
        exact PStep.trans (PStep.trans ⟨⟨mb, q, dv, H1.out⟩, HU.out⟩ ⟨⟨mb, q, dv, H2.out⟩, HU2.out⟩) HP3.out
      · rw [change_fall hc1 hf hy]
        clear hf hc1
        generalize (s.ahead nm true).1 = s1 at *
        have HY := Aside0.mk (Bool.eq_false_iff.2 hy)
        clear hy ha1
        go_enter Try.func48, Try.ntmps48
        go_wp2_with fail
        refine HM.out.mono ?_
        rintro e w1 ⟨rfl, ⟨mb, q, dv, h1⟩, hU⟩
        have H1 := Aside0.mk h1
        have HU := Aside0.mk hU
        have hp1 := h1.head
        unfold diskCells at hp1
        have c0 := blk_cell hp1 0
        have c1 := blk_cell hp1 1
        have c2 := blk_cell hp1 2
        have c3 := blk_cell hp1 3
        have c4 := blk_cell hp1 4
        have c5 := blk_cell hp1 5
        have fc0 := blk_frozen hp1 0
        have fc1 := blk_frozen hp1 1
        have fc2 := blk_frozen hp1 2
        have fc3 := blk_frozen hp1 3
        have fc4 := blk_frozen hp1 4
        have fc5 := blk_frozen hp1 5
        simp only [List.getElem?_toArray, List.getElem?_cons_succ, List.getElem?_cons_zero] at c0 c1 c2 c3 c4 c5
        have hlook := h1.see_some (show find s1.all nm = some f by rw [HA.out]; exact HF.out)
        have HPY := Aside0.mk (pay_ctx w1 p (More X w w1) s1 1 mb q dv h1 OK1.out (by decide))
        rw [HY.out] at HPY
        simp only [Bool.false_eq_true, ↓reduceIte] at HPY
        clear hp1 hU HM h1
        go_wp2_with fail
        refine HPY.out.mono ?_
        rintro e w2 ⟨rfl, h2, hU2⟩
        have H2 := Aside0.mk h2
        have HU2 := Aside0.mk hU2
        clear h2 hU2 HPY
        go_wp2
        go_ret
        exact ⟨rfl, PStep.trans ⟨⟨mb, q, dv, H1.out⟩, HU.out⟩ ⟨⟨mb, q, dv, H2.out⟩, HU2.out⟩⟩
end Go.Proofs.Ytfholpajdkjbbaa.DK
/- The program's disk: what Sync, Trim and Remove hand to change, and they themselves; conditions: those in each theorem. -/
namespace Go.Proofs.Ytfholpajdkjbbaa.DK
open Go.RowKit Go.Proofs.YtfholpajdkjbbaaW.PrintWords Go.Proofs.YtfholpajdkjbbaaW.PrintLast Go.Proofs.YtfholpajdkjbbaaW.PrintMore Go.Proofs.Ytfholpajdkjbbaa.Mo
set_option linter.unusedVariables false
set_option linter.unusedSimpArgs false
attribute [local go_sem] max2_int min2_int max_two min_two
set_option maxHeartbeats 1000000 in
theorem sync_does (w : World) (p : Nat) (X : Nat → Prop) (l : List F) (nm : ByteArray) (hl : ∀ f ∈ l, f.len ≤ 65536) : Does 49 #[] w p X l nm (upd nm fun f => { f with sure := f.sure ++ f.loose, loose := [] }) := by
  intro w2 s2 mb q dv f hu h2 ha hf
  have hfm : f ∈ s2.all := by rw [ha]; exact (find_some hf).1
  have hfile := h2.files.file f hfm
  have hrow := h2.files.row f hfm
  obtain ⟨A, c, he, hc, hC⟩ := Kd.R_reads hrow
  have hfl := hl f (by rw [← ha]; exact hfm)
  rw [he, data_length] at hfile
  have hlt := blk_lt hfile
  have H2 := Aside0.mk h2
  have HP := Aside0.mk hfile
  have HE := Aside0.mk he
  have HN := Aside0.mk (find_some hf).2
  have HR := Aside0.mk hrow
  have d0 := blk_cell hfile 0
  have d1 := blk_cell hfile 1
  have fd0 := blk_frozen hfile 0
  have fd1 := blk_frozen hfile 1
  simp only [List.getElem?_toArray, List.getElem?_cons_succ, List.getElem?_cons_zero] at d0 d1
  clear hfile hrow he hC h2 hf
  show Calls Try.prog 49 #[.pointer (some ⟨q f.name, 0, none⟩)] w2 _
  go_enter Try.func49, Try.ntmps49
  go_wp2
  all_goals (first | go_end0 | ((try simp only [Exit.inBlock, Exit.then]); refine bodyPost_ret (results_none rfl _ _ _) rfl ?_))
  refine ⟨rfl, ?_⟩
  rw [← HN.out]
  refine pdisk_change H2.out hfm (fun f => { f with sure := f.sure ++ f.loose, loose := [] }) (fun _ => rfl) (dv f.name) (Y := fun k => k = q f.name) ((Upd.refl _ w2).set1 1 _) (fun k _ hk => .inl hk) ?_ ?_ (fun k hk => .inl hk)
  · rw [HE.out, data_length]
    have : ((f.sure ++ f.loose).length : Int) = (f.len : Int) := by rw [List.length_append]; rfl
    dsimp only
    rw [this]
    exact (by simp only [heap_set, heap_drewN, heap_drew, heap_alloc_lt _ _ _ hlt, HP.out, Option.map_some] <;> rfl)
  · have : ({ f with sure := f.sure ++ f.loose, loose := [] } : F).data = f.data := List.append_nil _
    show Row _ _ ({ f with sure := f.sure ++ f.loose, loose := [] } : F).data
    rw [this]
    refine HR.out.same (fun k hk => Below.heap_setCell w2 _ _ k (fun e => ?_))
    obtain ⟨cells, hc2⟩ := HR.out.typed hk
    exact blk_ne hc2 HP.out (by decide) e
theorem sync_calls (w : World) (p : Nat) (X : Nat → Prop) (s : St) (nm : ByteArray) (h : Prog w p X s) (ok : Ok s) : Calls Try.prog 27 #[.pointer (some ⟨p, 0, none⟩), .string nm] w fun e w' => e = .returned (.int .i64 (s.sync nm).2) ∧ PStep p X w w' (s.sync nm).1 := by
  have HC := Aside0.mk (change_sync w p X s nm (upd nm fun f => { f with sure := f.sure ++ f.loose, loose := [] }) h ok (sync_does w p X s.all nm ok.small))
  go_enter Try.func27, Try.ntmps27
  go_wp2_with (go_at_call 48; refine HC.out.mono ?_; rintro e w1 ⟨rfl, hP⟩)
  go_ret
  exact ⟨rfl, hP⟩
theorem take_data (f : F) (n : Nat) : f.sure.take n ++ f.loose.take (n - f.sure.length) = f.data.take n := by
  unfold F.data
  rw [List.take_append]
theorem trim_done {w2 : World} {p mb : Nat} {q : ByteArray → Nat} {dv : ByteArray → Value} {X : Nat → Prop} {s2 : St} (h : PDisk w2 p X s2 mb q dv) {f : F} (hfm : f ∈ s2.all) (size : Int) {A : Option Addr} {c : Nat} (he : dv f.name = .slice A f.data.length c) {n m : Int} (hn : n = min (max size 0) f.len) (hm : m = min n f.sure.length) :
    PStep p X w2 ((w2.setCell ⟨q f.name, 0, none⟩ (.slice A n.toNat c)).setCell ⟨q f.name, 1, none⟩ (.int .i64 m)).drew { s2 with all := upd f.name (fun f => { f with sure := f.sure.take size.toNat, loose := f.loose.take (size.toNat - f.sure.length) }) s2.all } := by
  have hfile := h.files.file f hfm
  have hlt := blk_lt hfile
  have hrow := h.files.row f hfm
  rw [he] at hrow
  have hfl : f.len = f.sure.length + f.loose.length := rfl
  have hdl := data_length f
  have ht := Kd.R_take hrow (m := n.toNat) (by omega)
  have hd : ({ f with sure := f.sure.take size.toNat, loose := f.loose.take (size.toNat - f.sure.length) } : F).data = f.data.take n.toNat := by
    show f.sure.take size.toNat ++ f.loose.take (size.toNat - f.sure.length) = _
    rw [take_data]
    by_cases hs : size.toNat ≤ f.len
    · congr 1
      omega
    · rw [List.take_of_length_le (by omega), List.take_of_length_le (by omega)]
  refine PStep.then_below ?_ (below_drew (Below.refl _ _))
  refine pdisk_change h hfm (fun f => { f with sure := f.sure.take size.toNat, loose := f.loose.take (size.toNat - f.sure.length) }) (fun _ => rfl) (.slice A n.toNat c) (Y := fun k => k = q f.name) (((Upd.refl _ w2).set1 0 _).set1 1 _) (fun k _ hk => .inl hk) ?_ ?_ (fun k hk => .inl ?_)
  · have hl : ((f.sure.take size.toNat).length : Int) = m := by rw [List.length_take]; omega
    rw [heap_set, heap_set, hfile]
    show some (Obj.cells #[.slice A n.toNat c, .int .i64 m] 81 (0, 0)) = some (Obj.cells #[.slice A n.toNat c, .int .i64 ((f.sure.take size.toNat).length : Int)] 81 (0, 0))
    rw [hl]
  · show Row _ _ ({ f with sure := f.sure.take size.toNat, loose := f.loose.take (size.toNat - f.sure.length) } : F).data
    rw [hd]
    have ht2 : Row w2 (.slice A n.toNat c) (f.data.take n.toNat) := ht
    refine ht2.same (fun k hk => ?_)
    have hne : k ≠ q f.name := fun e => by
      obtain ⟨cells, hc2⟩ := ht2.typed hk
      exact blk_ne hc2 hfile (by decide) e
    rw [Below.heap_setCell _ _ _ _ hne, Below.heap_setCell _ _ _ _ hne]
  · rw [he]
    cases A with
    | none => cases hk
    | some a => exact hk
set_option maxHeartbeats 1000000 in
set_option maxRecDepth 100000 in
theorem trim_does (w : World) (p : Nat) (X : Nat → Prop) (l : List F) (nm : ByteArray) (size : Int) (b : Nat) (hl : ∀ f ∈ l, f.len ≤ 65536) (hb : w.heap[b]? = some (.cells #[.int .i64 size] 3 (0, 0))) (hx : ¬ X b) :
    Does 64 #[.pointer (some ⟨b, 0, none⟩)] w p X l nm (upd nm fun f => { f with sure := f.sure.take size.toNat, loose := f.loose.take (size.toNat - f.sure.length) }) := by
  intro w2 s2 mb q dv f hu h2 ha hf
  have hfm : f ∈ s2.all := by rw [ha]; exact (find_some hf).1
  have hfile := h2.files.file f hfm
  have hrow := h2.files.row f hfm
  obtain ⟨A, c, he, hc, hC⟩ := Kd.R_reads hrow
  have hfl := hl f (by rw [← ha]; exact hfm)
  have hb2 := blk_upd hb hu hx
  have hne : b ≠ q f.name := blk_ne hb2 hfile (by decide)
  rw [he, data_length] at hfile
  have hlt := blk_lt hfile
  have H2 := Aside0.mk h2
  have HP := Aside0.mk hfile
  have HE := Aside0.mk he
  have HN := Aside0.mk (find_some hf).2
  have HR := Aside0.mk hrow
  have d0 := blk_cell hfile 0
  have d1 := blk_cell hfile 1
  have fd0 := blk_frozen hfile 0
  have fd1 := blk_frozen hfile 1
  simp only [List.getElem?_toArray, List.getElem?_cons_succ, List.getElem?_cons_zero] at d0 d1
  have b0 := blk_cell hb2 0
  have fb0 := blk_frozen hb2 0
  simp only [List.getElem?_toArray, List.getElem?_cons_succ, List.getElem?_cons_zero] at b0
  obtain ⟨i5, hi5, hz5_⟩ := Option.map_eq_some_iff.1 PD.info5
  have hz5 : i5.size = 1 := (Prod.mk.inj (Prod.mk.inj hz5_).2).1
  have hfl2 := hfl
  clear hfile hrow h2 hf hz5_ hu hb hb2 ha hl
  obtain ⟨n, hn⟩ : ∃ n : Int, n = min (max size 0) f.len := ⟨_, rfl⟩
  have hn0 : 0 ≤ n := by omega
  have hn1 : n ≤ f.len := by omega
  obtain ⟨hcut, _, hle⟩ := print_take_int (k := .u8) 38 5 Try.underlying38 hi5 hz5 A c f.data n hn0 (by rw [data_length]; exact hn1) hc
  have hlen : (f.data.take n.toNat).length = n.toNat := by rw [List.length_take, data_length]; omega
  rw [data_length, hlen] at hcut
  have HM := Aside0.mk hn
  have HLE := Aside0.mk hlen
  show Calls Try.prog 64 #[.pointer (some ⟨q f.name, 0, none⟩), .pointer (some ⟨b, 0, none⟩)] w2 _
  clear he hC hle hlen hn
  have hv : (if (f.len : Int) < (if size < 0 then 0 else size) then (f.len : Int) else if size < 0 then 0 else size) = n := by
    have := HM.out
    split <;> split <;> omega
  go_enter Try.func64, Try.ntmps64
  go_wp2_with fail
  refine start_ (n := 9) (S := fun w' => w'.cell? ⟨b, 0, none⟩ = some (.int .i64 size) ∧ w'.cell? ⟨q f.name, 0, none⟩ = some (.slice A f.len c)) (ds := []) #[false, false, false, false, false, false, false, false, false] (by kernel_rfl) rfl rfl ⟨b0, d0⟩ (fun hHeld => ?_)
  refine zq 2 (some 6) ?_
  refine zq 3 (some 7) ?_
  refine zq 4 (some 8) ?_
  refine zu 0 (some 4) hHeld ?_
  refine zq 1 (some 5) ?_
  refine zu 5 (some 9) hHeld ?_
  refine zq 6 (some 10) ?_
  refine zq 7 (some 11) ?_
  refine zq 8 (some 3) ?_
  refine done_ (by kernel_rfl) ?_
  clear hv
  go_wp2_with fail
  all_goals (first | go_end0 | ((try simp only [Exit.inBlock, Exit.then]); refine bodyPost_ret (results_none rfl _ _ _) rfl ?_))
  all_goals (refine ⟨rfl, ?_⟩)
  all_goals (rw [← HN.out])
  all_goals (refine trim_done H2.out hfm size HE.out HM.out ?_)
  all_goals omega
theorem trim_calls (w : World) (p : Nat) (X : Nat → Prop) (s : St) (nm : ByteArray) (size : Int) (h : Prog w p X s) (ok : Ok s) : Calls Try.prog 45 #[.pointer (some ⟨p, 0, none⟩), .string nm, .int .i64 size] w fun e w' => e = .returned (.int .i64 (s.trim nm size).2) ∧ PStep p X w w' (s.trim nm size).1 := by
  have hbx : ¬ X w.heap.size := fun hx => Nat.lt_irrefl _ (h.bd _ hx)
  have h1 := h.below (below_alloc (Below.refl _ _) (.cells #[.int .i64 size] 3))
  have HC := Aside0.mk (change_trim _ p X s nm _ w.heap.size h1 ok (trim_does _ p X s.all nm size w.heap.size ok.small (heap_alloc_new w _) hbx))
  have HH := Aside0.mk h
  clear h h1
  go_enter Try.func45, Try.ntmps45
  go_wp2_with fail
  refine HC.out.mono ?_
  rintro e w1 ⟨rfl, hP⟩
  go_wp2
  go_ret
  exact ⟨rfl, PStep.trans (PStep.below HH.out (below_alloc (Below.refl _ _) _)) (PStep.more_ hP (by simp))⟩
set_option maxHeartbeats 1000000 in
theorem remove_does (w : World) (p : Nat) (X : Nat → Prop) (l : List F) (nm : ByteArray) (b b2 : Nat) (hb : w.heap[b]? = some (.cells #[.pointer (some ⟨p, 0, none⟩)] 25 (0, 0))) (hb2 : w.heap[b2]? = some (.cells #[.string nm] 9 (0, 0))) (hx : ¬ X b) (hx2 : ¬ X b2) :
    Does 63 #[.pointer (some ⟨b, 0, none⟩), .pointer (some ⟨b2, 0, none⟩)] w p X l nm (List.filter fun f => decide (f.name ≠ nm)) := by
  intro w2 s2 mb q dv f hu h2 ha hf
  have hc := blk_upd hb hu hx
  have hc2 := blk_upd hb2 hu hx2
  have hp := h2.head
  unfold diskCells at hp
  have hnm : nm ∈ namesOf s2.all := by rw [ha]; exact mem_names hf
  obtain ⟨w3, hrun, hu3, hm3⟩ := MapAt.erase (w := w2.drew) (h2.files.map.same rfl) nm hnm
  have H3 := Aside0.mk (pdisk_drop' h2.drew nm hu3 hm3)
  have H2 := Aside0.mk h2
  have c0 := blk_cell hp 0
  have c1 := blk_cell hp 1
  have c2 := blk_cell hp 2
  have c3 := blk_cell hp 3
  have c4 := blk_cell hp 4
  have c5 := blk_cell hp 5
  have fc0 := blk_frozen hp 0
  have fc1 := blk_frozen hp 1
  have fc2 := blk_frozen hp 2
  have fc3 := blk_frozen hp 3
  have fc4 := blk_frozen hp 4
  have fc5 := blk_frozen hp 5
  simp only [List.getElem?_toArray, List.getElem?_cons_succ, List.getElem?_cons_zero] at c0 c1 c2 c3 c4 c5
  have b0 := blk_cell hc 0
  have fb0 := blk_frozen hc 0
  simp only [List.getElem?_toArray, List.getElem?_cons_succ, List.getElem?_cons_zero] at b0
  have d0 := blk_cell hc2 0
  have fd0 := blk_frozen hc2 0
  simp only [List.getElem?_toArray, List.getElem?_cons_succ, List.getElem?_cons_zero] at d0
  clear hp hc hc2 h2 hu hb hb2 ha hf hu3 hm3
  show Calls Try.prog 63 #[.pointer (some ⟨q f.name, 0, none⟩), .pointer (some ⟨b, 0, none⟩), .pointer (some ⟨b2, 0, none⟩)] w2 _
  go_enter Try.func63, Try.ntmps63
  go_wp2_with fail
  refine start_ (n := 6) (S := fun w' => w'.cell? ⟨b, 0, none⟩ = some (.pointer (some ⟨p, 0, none⟩)) ∧ w'.cell? ⟨b2, 0, none⟩ = some (.string nm) ∧ w'.cell? ⟨p, 0, none⟩ = some (.map (some mb))) (ds := [5]) #[false, false, false, false, false, false] (by kernel_rfl) rfl rfl ⟨b0, d0, c0⟩ (fun hHeld => ?_)
  refine zu 0 (some 4) hHeld ?_
  refine zq 1 (some 5) ?_
  refine zq 2 (some 6) ?_
  refine zu 3 (some 7) hHeld ?_
  refine zu 4 (some 8) hHeld ?_
  refine last_ (i := 5) (N := none) #[true, true, true, true, true, true] rfl rfl (by kernel_rfl) (by decide) (fun K hK => ?_)
  refine value_ (w1 := w3) (v := .tuple #[]) (by rfl) rfl ?_ ?_
  · go_simp
  refine hK.out _ _ ?_
  clear hK K
  refine done_ (by kernel_rfl) ?_
  (first | go_end0 | ((try simp only [Exit.inBlock, Exit.then]); refine bodyPost_ret (results_none rfl _ _ _) rfl ?_))
  refine ⟨rfl, ?_⟩
  exact PStep.trans (PStep.below ⟨_, _, _, H2.out⟩ (below_drew (Below.refl _ _))) (PStep.more_ ⟨⟨_, _, _, H3.out.1⟩, H3.out.2⟩ (Nat.le_refl _))
theorem remove_calls (w : World) (p : Nat) (X : Nat → Prop) (s : St) (nm : ByteArray) (h : Prog w p X s) (ok : Ok s) : Calls Try.prog 44 #[.pointer (some ⟨p, 0, none⟩), .string nm] w fun e w' => e = .returned (.int .i64 (s.remove nm).2) ∧ PStep p X w w' (s.remove nm).1 := by
  have hbx : ¬ X w.heap.size := fun hx => Nat.lt_irrefl _ (h.bd _ hx)
  have hbx2 : ¬ X (w.heap.size + 1) := fun hx => by have := h.bd _ hx; omega
  have hB : Below w.heap.size w ((w.alloc (.cells #[.pointer (some ⟨p, 0, none⟩)] 25)).alloc (.cells #[.string nm] 9)) := below_alloc (below_alloc (Below.refl _ _) _) _
  have h1 := h.below hB
  have e1 : ((w.alloc (.cells #[.pointer (some ⟨p, 0, none⟩)] 25)).alloc (.cells #[.string nm] 9)).heap[w.heap.size + 1]? = some (.cells #[.string nm] 9 (0, 0)) := by
    have := heap_alloc_new (w.alloc (.cells #[.pointer (some ⟨p, 0, none⟩)] 25)) (.cells #[.string nm] 9)
    simpa using this
  have hC := change_remove _ p X s nm _ w.heap.size (w.heap.size + 1) h1 ok (remove_does _ p X s.all nm w.heap.size (w.heap.size + 1) (blk_alloc (heap_alloc_new w _) _) e1 hbx hbx2)
  rw [show s.change nm (List.filter fun f => decide (f.name ≠ nm)) = s.remove nm from rfl] at hC
  generalize s.remove nm = r at *
  have HC := Aside0.mk hC
  clear hC
  have HH := Aside0.mk h
  have HB := Aside0.mk hB
  clear h h1 hB e1
  go_enter Try.func44, Try.ntmps44
  go_wp2_with fail
  refine HC.out.mono ?_
  rintro e w1 ⟨rfl, hP⟩
  go_wp2
  go_ret
  exact ⟨rfl, PStep.trans (PStep.below HH.out HB.out) (PStep.more_ hP (by simp; omega))⟩
end Go.Proofs.Ytfholpajdkjbbaa.DK
/-
  DERIVED: THE SHELF's CONTRACTS AT THIS DUMP, IN PLAIN WORDS (tools/lay-plain.mjs out of 'YtfholpajdkjbbaaSh0.lean', which tools/lay-shelf.mjs wrote): THE SAME DECLARATIONS UNDER THE SAME NAMES: 'import', 'namespace', 'open', 'def', 'theorem' AND NOTHING ELSE: no command of the shelf's: FOR A HAND-IN. Each laying: the table of numbers ('.._ren') and one theorem, a field a fact of the dump's own or the kernel's comparison; each contract: ONE APPLICATION.
-/
namespace Go.Proofs
open Go.Shelf
def Try.lays190_ren : Go.Shelf.Ren := ⟨fun | 190 => 62 | 125 => 77 | 258 => 76 | 128 => 88 | 129 => 89 | 302 => 79 | 303 => 80 | 304 => 81 | 305 => 82 | 306 => 83 | 307 => 84 | 308 => 85 | 309 => 86 | 310 => 87 | 333 => 90 | 329 => 91 | 330 => 92 | 334 => 93 | 335 => 94 | 336 => 95 | 344 => 96 | n => n, fun | 31 => 45 | 9 => 9 | 3 => 3 | 46 => 110 | 0 => 0 | 51 => 122 | 53 => 124 | 4 => 4 | 183 => 114 | 182 => 113 | 131 => 119 | 5 => 5 | 218 => 125 | 222 => 129 | 228 => 131 | 229 => 92 | n => n, fun | n => n⟩
theorem Try.lays190 : Go.Proofs.Lays.n190 Try.prog Try.lays190_ren := {
  mixed := by kernel_rfl
  f125 := Try.func77.trans (congrArg some (by kernel_rfl))
  f128 := Try.func88.trans (congrArg some (by kernel_rfl))
  f129 := Try.func89.trans (congrArg some (by kernel_rfl))
  f190 := Try.func62.trans (congrArg some (by kernel_rfl))
  f258 := Try.func76.trans (congrArg some (by kernel_rfl))
  f302 := Try.func79.trans (congrArg some (by kernel_rfl))
  f303 := Try.func80.trans (congrArg some (by kernel_rfl))
  f304 := Try.func81.trans (congrArg some (by kernel_rfl))
  f305 := Try.func82.trans (congrArg some (by kernel_rfl))
  f306 := Try.func83.trans (congrArg some (by kernel_rfl))
  f307 := Try.func84.trans (congrArg some (by kernel_rfl))
  f308 := Try.func85.trans (congrArg some (by kernel_rfl))
  f309 := Try.func86.trans (congrArg some (by kernel_rfl))
  f310 := Try.func87.trans (congrArg some (by kernel_rfl))
  f329 := Try.func91.trans (congrArg some (by kernel_rfl))
  f330 := Try.func92.trans (congrArg some (by kernel_rfl))
  f333 := Try.func90.trans (congrArg some (by kernel_rfl))
  f334 := Try.func93.trans (congrArg some (by kernel_rfl))
  f335 := Try.func94.trans (congrArg some (by kernel_rfl))
  f336 := Try.func95.trans (congrArg some (by kernel_rfl))
  f344 := Try.func96.trans (congrArg some (by kernel_rfl))
  t0 := Try.underlying0
  a0 := Try.isAgg0
  z0 := Try.sizeOf0
  v0 := Try.zeroValue0
  t3 := Try.underlying3
  a3 := Try.isAgg3
  z3 := Try.sizeOf3
  v3 := Try.zeroValue3
  t4 := Try.underlying4
  a4 := Try.isAgg4
  z4 := Try.sizeOf4
  v4 := Try.zeroValue4
  t5 := Try.underlying5
  a5 := Try.isAgg5
  z5 := Try.sizeOf5
  v5 := Try.zeroValue5
  t9 := Try.underlying9
  a9 := Try.isAgg9
  z9 := Try.sizeOf9
  v9 := Try.zeroValue9
  t31 := Try.underlying45
  a31 := Try.isAgg45
  z31 := Try.sizeOf45
  v31 := Try.zeroValue45
  t46 := Try.underlying110
  a46 := Try.isAgg110
  z46 := Try.sizeOf110
  v46 := Try.zeroValue110
  t51 := Try.underlying122
  a51 := Try.isAgg122
  z51 := Try.sizeOf122
  v51 := Try.zeroValue122
  t53 := Try.underlying124
  a53 := Try.isAgg124
  z53 := Try.sizeOf124
  v53 := Try.zeroValue124
  t131 := Try.underlying119
  a131 := Try.isAgg119
  z131 := Try.sizeOf119
  v131 := Try.zeroValue119
  t182 := Try.underlying113
  a182 := Try.isAgg113
  z182 := Try.sizeOf113
  v182 := Try.zeroValue113
  t183 := Try.underlying114
  a183 := Try.isAgg114
  z183 := Try.sizeOf114
  v183 := Try.zeroValue114
  t218 := Try.underlying125
  a218 := Try.isAgg125
  z218 := Try.sizeOf125
  v218 := Try.zeroValue125
  t222 := Try.underlying129
  a222 := Try.isAgg129
  z222 := Try.sizeOf129
  v222 := Try.zeroValue129
  t228 := Try.underlying131
  a228 := Try.isAgg131
  z228 := Try.sizeOf131
  v228 := Try.zeroValue131
  t229 := Try.underlying92
  a229 := Try.isAgg92
  z229 := Try.sizeOf92
  v229 := Try.zeroValue92 }
end Go.Proofs
/- The program's disk: the sorted names; conditions: those in each theorem. -/
namespace Go.Proofs.Ytfholpajdkjbbaa.DK
open Go.RowKit Go.Proofs.YtfholpajdkjbbaaW.PrintWords Go.Proofs.YtfholpajdkjbbaaW.PrintLast Go.Proofs.YtfholpajdkjbbaaW.PrintMore Go.Proofs.Ytfholpajdkjbbaa.Mo
set_option linter.unusedVariables false
set_option linter.unusedSimpArgs false
theorem enc_data (b : ByteArray) : encStr b.data.toList = .string b := by
  cases b
  rfl
theorem sorted_eq {ns l0 : List ByteArray} (hp : ns.Perm l0) (hs : l0.Pairwise fun a b => lt a b = true) : (ns.map (·.data.toList)).mergeSort (fun x y => decide (x ≤ y)) = l0.map (·.data.toList) := by
  have h1 : (ns.map (·.data.toList)).mergeSort leB = (l0.map (·.data.toList)).mergeSort leB := mergeSort_of_perm (hp.map _)
  have h2 : (l0.map (·.data.toList)).mergeSort leB = l0.map (·.data.toList) := by
    refine List.mergeSort_of_pairwise (List.pairwise_map.2 (hs.imp (fun {a b} hab => ?_)))
    exact decide_eq_true (List.le_of_lt (of_decide_eq_true hab))
  exact h1.trans h2
theorem sort_calls (w : World) (v : Value) (ns l0 : List ByteArray) (base : Nat) (h : Kd.string.R 9 w base (fun _ => True) v ns) (hl : ns.length ≤ 2 ^ 40) (hp : ns.Perm l0) (hs : l0.Pairwise fun a b => lt a b = true) :
    Calls Try.prog 62 #[v] w fun e w' => e = .returned (.tuple #[]) ∧ Kd.string.R 9 w' base (fun _ => True) v l0 ∧ Upd (fun k => v.ownBlock = some k) w w' := by
  have ho : w.ownsRow base 9 1 v ns.length (ns.map Value.string) := Kd.own_of_R h
  obtain ⟨hil, hh⟩ := ho
  rcases hh with ⟨rfl, h0⟩ | ⟨g, cap, cur, rfl, hbase, hg, h1, h2, h3, h4⟩
  · have : ns = [] := List.eq_nil_of_length_eq_zero h0
    subst this
    obtain rfl : l0 = [] := hp.nil_eq.symm
    refine Calls.mono (show Calls Try.prog 62 #[.slice none 0 0] w fun e w' => e = .returned (.tuple #[]) ∧ w' = w from calls_of_every_depth fun D => AnyS.slices_Sort_string_none_in Try.lays190 D none 0 w) ?_
    rintro e w' ⟨rfl, rfl⟩
    exact ⟨rfl, Kd.R_nil _ _ _ _ _, Upd.refl _ _⟩
  · have e1 : ns.map Value.string = (ns.map (·.data.toList)).map encStr := by
      rw [List.map_map]
      exact List.map_congr_left (fun b _ => (enc_data b).symm)
    have hlen : (ns.map (·.data.toList)).length = ns.length := List.length_map _
    have hHolds := holds_of_block (ss := ns.map (·.data.toList)) hg (by rw [hlen, ← e1, ← h4, Nat.mul_one])
    have hC := Any.slices_Sort_string Try.lays190 g 0 cap (ns.map (·.data.toList)) w hHolds (blk_lt hg) (by rw [hlen]; omega)
    rw [hlen] at hC
    refine Calls.mono (show Calls Try.prog 62 #[.slice (some ⟨g, 0, none⟩) ns.length cap] w _ from hC) ?_
    rintro e w' ⟨rfl, k, os, rfl⟩
    rw [sorted_eq hp hs]
    refine ⟨rfl, ?_, ?_⟩
    · have ho2 := ownsRow_sorted (n := k) (os := os) (ss := ns.map (·.data.toList)) (ts := l0.map (·.data.toList)) (by rw [hlen, List.length_map, hp.length_eq]) hbase hg (by rw [hlen]; exact h1) h2 h3
      rw [hlen, hp.length_eq] at ho2
      have e2 : (l0.map (·.data.toList)).map encStr = l0.map Value.string := by
        rw [List.map_map]
        exact List.map_congr_left (fun b _ => enc_data b)
      rw [e2] at ho2
      rw [hp.length_eq]
      exact Kd.R_of_own ho2 (fun _ _ => trivial)
    · have hgr := grownBy_sorted (w := w) (g := g) (n := k) (os := os) (l0.map (·.data.toList)).toArray
      exact (Upd.refl _ w).grown hgr (fun b hb => .inl (by simpa [Value.ownBlock] using hb))
/-! ### what a range over the map has met -/
/-- The entries that were met, in their order, and their names. -/
structure Met (w : World) (it mb : Nat) (es : Array MapEntry) (clock : Nat) (sl : List MapEntry) : Prop where
  hit : w.heap[it]? = some (.mapIter (some mb) clock (sl.map (·.born)).toArray clock)
  hmb : w.heap[mb]? = some (.map es clock)
  nd : (sl.map (·.born)).Nodup
  sub : ∀ e ∈ sl, e ∈ es.toList
theorem next_run {w : World} {it mb : Nat} {es L : Array MapEntry} {clock since last : Nat} {seen : Array Nat} (hb : w.heap[it]? = some (.mapIter (some mb) since seen last)) (hm : w.heap[mb]? = some (.map es clock)) (T : TypeId)
    (h1 : (!seen.isEmpty && !es.isEmpty && es.all (·.born ≥ last)) = false) (h2 : es.filter (fun e => !seen.contains e.born) = L) (h3 : L.filter (·.born < since) = L) (h4 : L.filter (·.born ≥ since) = #[]) :
    (L = #[] ∧ (Instr.next (.pointer (some ⟨it, 0, none⟩)) false T).run Try.prog w = .ok (.tuple #[.bool false]) w) ∨
    ∃ e n, e ∈ L ∧ (Instr.next (.pointer (some ⟨it, 0, none⟩)) false T).run Try.prog w = .ok (.tuple #[.bool true, e.key, e.val]) (putObj (w.drewN n) it (.mapIter (some mb) since (seen.push e.born) clock)) := by
  have hgo : (Instr.next (.pointer (some ⟨it, 0, none⟩)) false T).run Try.prog w = ((do
      match ((if L.isEmpty then #[none] else #[]) ++ (L ++ #[]).map some)[← choose (.mapNext ((if L.isEmpty then #[none] else #[]) ++ (L ++ #[]).map some).size)]? with
      | some (some e) => do
        setObj it (.mapIter (some mb) since (seen.push e.born) clock)
        pure (.tuple #[.bool true, e.key, e.val])
      | some none => pure (.tuple #[.bool false])
      | none => stuck "Next: no such candidate" : Sem Value)).run Try.prog w := by
    unfold Instr.next
    simp only [getObj, Sem.run_bind, Sem.run, hb, hm, Result.andThen_ok]
    simp only [h1, h2, h3, h4, Bool.false_eq_true, if_false, Sem.run_bind]
    rfl
  have hput : ∀ (n : Nat) (e : MapEntry), ((do setObj it (.mapIter (some mb) since (seen.push e.born) clock); pure (.tuple #[.bool true, e.key, e.val]) : Sem Value)).run Try.prog (w.drewN n) = .ok (.tuple #[.bool true, e.key, e.val]) (putObj (w.drewN n) it (.mapIter (some mb) since (seen.push e.born) clock)) := by
    intro n e
    simp [setObj, Sem.run, hb, putObj]
  by_cases hL : L = #[]
  · left
    refine ⟨hL, ?_⟩
    rw [hgo, hL]
    simp [choose, Sem.run, Question.forced]
  · right
    have hs : 0 < L.size := by
      rcases Nat.eq_zero_or_pos L.size with h0 | h0
      · exact absurd (by simpa using h0) hL
      · exact h0
    have he : L.isEmpty = false := by simpa using hL
    have ea : ((if L.isEmpty then #[none] else #[]) ++ (L ++ #[]).map some : Array (Option MapEntry)) = L.map some := by rw [he]; simp
    rw [hgo, ea]
    have hch : ∃ i n, i < L.size ∧ (choose (.mapNext (L.map some).size)).run Try.prog w = .ok i (w.drewN n) := by
      by_cases h1 : (L.map some).size ≤ 1
      · exact ⟨0, 0, hs, by simp [choose, Sem.run, Question.forced] at h1 ⊢; simp [h1]; rfl⟩
      · refine ⟨w.tape w.drawn (.mapNext (L.map some).size) % (L.map some).size, 1, ?_, ?_⟩
        · have := Nat.mod_lt (w.tape w.drawn (.mapNext (L.map some).size)) (show 0 < (L.map some).size by omega)
          simpa using this
        · simp [choose, Sem.run, Question.forced, Question.cut] at h1 ⊢
          rw [if_neg (by omega)]
          rfl
    obtain ⟨i, n, hi, hc⟩ := hch
    refine ⟨L[i], n, Array.getElem_mem hi, ?_⟩
    simp only [Sem.run_bind] at hc ⊢
    rw [hc]
    simp only [Result.andThen_ok]
    rw [show (L.map some)[i]? = some (some L[i]) by simp [hi]]
    exact hput n L[i]
theorem born_inj {l : List MapEntry} (hn : (l.map (·.born)).Nodup) {a b : MapEntry} (ha : a ∈ l) (hb : b ∈ l) (h : a.born = b.born) : a = b := by
  induction l with
  | nil => cases ha
  | cons x l ih =>
    rw [List.map_cons, List.nodup_cons] at hn
    rcases List.mem_cons.1 ha with rfl | ha
    · rcases List.mem_cons.1 hb with rfl | hb
      · rfl
      · exact absurd (by rw [h]; exact List.mem_map_of_mem (f := (·.born)) hb) hn.1
    · rcases List.mem_cons.1 hb with hb | hb
      · exact absurd (by rw [← hb, ← h]; exact List.mem_map_of_mem (f := (·.born)) ha) hn.1
      · exact ih hn.2 ha hb
theorem entry_run {w : World} {it mb : Nat} {es : Array MapEntry} {clock since : Nat} {seen : Array Nat} {stamp : Nat} {e : MapEntry} (hb : w.heap[it]? = some (.mapIter (some mb) since seen clock)) (hm : w.heap[mb]? = some (.map es clock)) (hs : seen.back? = some stamp) (hf : es.find? (fun x => x.born == stamp) = some e) :
    (Instr.entry (.pointer (some ⟨it, 0, none⟩))).run Try.prog w = .ok (.tuple #[e.key, e.val]) w := by
  simp [Instr.entry, getObj, Sem.run, hb, hm, hs, hf]
theorem nodup_len : ∀ (l m : List Nat), l.Nodup → (∀ x ∈ l, x ∈ m) → l.length ≤ m.length
  | [], _, _, _ => Nat.zero_le _
  | x :: l, m, hn, hs => by
    obtain ⟨h1, h2⟩ := List.nodup_cons.1 hn
    have hx := hs x List.mem_cons_self
    have := nodup_len l (m.erase x) h2 (fun y hy => (List.mem_erase_of_ne (fun e => h1 (by rw [← e]; exact hy))).2 (hs y (List.mem_cons_of_mem _ hy)))
    rw [List.length_erase_of_mem hx] at this
    have h3 : 0 < m.length := List.length_pos_of_mem hx
    rw [List.length_cons]
    omega
theorem met_next {w : World} {it mb : Nat} {es : Array MapEntry} {clock : Nat} {sl : List MapEntry} (h : Met w it mb es clock sl) (hbn : (es.toList.map (·.born)).Nodup) (hc : ∀ e ∈ es.toList, e.born < clock) (hne : mb ≠ it) (T : TypeId) :
    ((∀ e ∈ es.toList, e ∈ sl) ∧ (Instr.next (.pointer (some ⟨it, 0, none⟩)) false T).run Try.prog w = .ok (.tuple #[.bool false]) w) ∨
    ∃ e w', e ∈ es.toList ∧ (Instr.next (.pointer (some ⟨it, 0, none⟩)) false T).run Try.prog w = .ok (.tuple #[.bool true, e.key, e.val]) w' ∧ Met w' it mb es clock (sl ++ [e]) ∧ Upd (fun k => k = it) w w' ∧ (Instr.entry (.pointer (some ⟨it, 0, none⟩))).run Try.prog w' = .ok (.tuple #[e.key, e.val]) w' := by
  have h1 : (!(sl.map (·.born)).toArray.isEmpty && !es.isEmpty && es.all (·.born ≥ clock)) = false := by
    by_cases he : es.isEmpty = true
    · simp [he]
    · have : es.all (·.born ≥ clock) = false := by
        rw [Bool.eq_false_iff]
        intro ha
        rw [Array.all_eq_true_iff_forall_mem] at ha
        have hs : 0 < es.size := by
          rcases Nat.eq_zero_or_pos es.size with h0 | h0
          · exact absurd (by simpa using h0) he
          · exact h0
        have h2 := ha es[0] (Array.getElem_mem hs)
        have h3 := hc es[0] (Array.getElem_mem_toList hs)
        simp at h2
        omega
      simp [this]
  have hmem : ∀ e, e ∈ es.filter (fun e => !(sl.map (·.born)).toArray.contains e.born) → e ∈ es.toList ∧ e.born ∉ sl.map (·.born) := by
    intro e he
    rw [Array.mem_filter] at he
    refine ⟨Array.mem_toList_iff.2 he.1, ?_⟩
    have := he.2
    simpa using this
  have h3 : (es.filter (fun e => !(sl.map (·.born)).toArray.contains e.born)).filter (·.born < clock) = es.filter (fun e => !(sl.map (·.born)).toArray.contains e.born) := by
    rw [Array.filter_eq_self]
    intro e he
    exact decide_eq_true (hc e (hmem e he).1)
  have h4 : (es.filter (fun e => !(sl.map (·.born)).toArray.contains e.born)).filter (·.born ≥ clock) = #[] := by
    rw [Array.filter_eq_empty_iff]
    intro e he
    have := hc e (hmem e he).1
    simp
    omega
  rcases next_run h.hit h.hmb T h1 rfl h3 h4 with ⟨hL, hr⟩ | ⟨e, n, he, hr⟩
  · left
    refine ⟨fun e he => ?_, hr⟩
    rw [Array.filter_eq_empty_iff] at hL
    have h5 := hL e (Array.mem_toList_iff.1 he)
    have h6 : e.born ∈ sl.map (·.born) := by
      simp only [Bool.not_eq_true', Bool.not_eq_false] at h5
      simpa using h5
    obtain ⟨e', he', hb⟩ := List.mem_map.1 h6
    rw [← born_inj hbn (h.sub e' he') he hb]
    exact he'
  · right
    obtain ⟨h5, h6⟩ := hmem e he
    have hsl : ((sl ++ [e]).map (·.born)).toArray = (sl.map (·.born)).toArray.push e.born := by simp
    have hit' : (putObj (w.drewN n) it (.mapIter (some mb) clock ((sl.map (·.born)).toArray.push e.born) clock)).heap[it]? = some (.mapIter (some mb) clock ((sl.map (·.born)).toArray.push e.born) clock) := putObj_at (w := w.drewN n) h.hit
    have hu : Upd (fun k => k = it) w (putObj (w.drewN n) it (.mapIter (some mb) clock ((sl.map (·.born)).toArray.push e.born) clock)) := ((Upd.refl _ w).drewN n).trans (putObj_upd _ _ _) (fun _ h => h) (fun _ _ h => h)
    have hmb' := blk_upd h.hmb hu hne
    refine ⟨e, _, h5, hr, ⟨by rw [hsl]; exact hit', hmb', ?_, ?_⟩, hu, ?_⟩
    · rw [List.map_append, List.nodup_append]
      exact ⟨h.nd, by simp, fun a ha b hb => by simp at hb; subst hb; intro e2; subst e2; exact h6 ha⟩
    · intro x hx
      rcases List.mem_append.1 hx with hx | hx
      · exact h.sub x hx
      · simp at hx
        subst hx
        exact h5
    · have hfind : es.find? (fun x => x.born == e.born) = some e := by
        rw [← Array.find?_toList]
        have hs : (es.toList.find? (fun x => x.born == e.born)).isSome := by
          rw [List.find?_isSome]
          exact ⟨e, h5, by simp⟩
        obtain ⟨x, hx⟩ := Option.isSome_iff_exists.1 hs
        have hx1 := List.mem_of_find?_eq_some hx
        have hx2 := List.find?_some hx
        rw [hx, born_inj hbn hx1 h5 (by simpa using hx2)]
      exact entry_run hit' hmb' (by simp) hfind
def sliceLen : Value → Nat
  | .slice _ n _ => n
  | _ => 0
/-- What is known while the names are collected. -/
structure Coll (w wr : World) (it mb : Nat) (es : Array MapEntry) (clock : Nat) (v : Value) (sl : List MapEntry) (ns : List ByteArray) : Prop where
  met : Met wr it mb es clock sl
  row : Kd.string.R 9 wr w.heap.size (fun _ => True) v ns
  keys : sl.map (·.key) = ns.map Value.string
  bel : Below w.heap.size w wr
def CollE (w : World) (it mb : Nat) (es : Array MapEntry) (clock : Nat) (v : Value) (wr : World) : Prop := ∃ sl ns, Coll w wr it mb es clock v sl ns
theorem coll_le {w wr : World} {it mb : Nat} {es : Array MapEntry} {clock : Nat} {v : Value} {sl : List MapEntry} {ns : List ByteArray} (h : Coll w wr it mb es clock v sl ns) (hbn : (es.toList.map (·.born)).Nodup) : ns.length ≤ es.size := by
  have h1 : sl.length = ns.length := by have := congrArg List.length h.keys; simpa using this
  have h3 := nodup_len _ _ h.met.nd (fun x hx => by
    obtain ⟨e, he, rfl⟩ := List.mem_map.1 hx
    exact List.mem_map_of_mem (f := (·.born)) (h.met.sub e he))
  simp at h3
  omega
theorem coll_full {w wr : World} {it mb : Nat} {es : Array MapEntry} {clock : Nat} {v : Value} {sl : List MapEntry} {ns l0 : List ByteArray} {q : ByteArray → Nat} (h : Coll w wr it mb es clock v sl ns) (hbn : (es.toList.map (·.born)).Nodup) (hall : ∀ e ∈ es.toList, e ∈ sl)
    (hperm : (es.toList.map fun e => (e.key, e.val)).Perm (l0.map (ent q))) : ns.Perm l0 := by
  have hsn : sl.Nodup := by
    have := h.met.nd
    unfold List.Nodup at this ⊢
    rw [List.pairwise_map] at this
    exact this.imp (fun hab e => hab (by rw [e]))
  have hen : es.toList.Nodup := by
    unfold List.Nodup at hbn ⊢
    rw [List.pairwise_map] at hbn
    exact hbn.imp (fun hab e => hab (by rw [e]))
  have h1 : sl.Perm es.toList := (List.perm_ext_iff_of_nodup hsn hen).2 (fun e => ⟨h.met.sub e, hall e⟩)
  have h2 : (ns.map Value.string).Perm (l0.map Value.string) := by
    rw [← h.keys]
    refine (h1.map _).trans ?_
    have h3 := hperm.map Prod.fst
    rw [List.map_map, List.map_map] at h3
    exact h3
  have h4 := h2.map (fun v => match v with | .string b => b | _ => ByteArray.empty)
  rw [List.map_map, List.map_map] at h4
  have e : ∀ l : List ByteArray, l.map ((fun v => match v with | .string b => b | _ => ByteArray.empty) ∘ Value.string) = l := fun l => by
    conv => rhs; rw [← List.map_id l]
    rfl
  rwa [e, e] at h4
theorem collect_step {w wr w2 w3 : World} {it mb : Nat} {es : Array MapEntry} {clock : Nat} {u3 v1 : Value} {sl : List MapEntry} {ns : List ByteArray} {e : MapEntry} {nm : ByteArray} (h : Coll w wr it mb es clock u3 sl ns) (hm : Met w2 it mb es clock (sl ++ [e])) (hk : e.key = .string nm)
    (hown : ∀ k, u3.ownBlock = some k → k ≠ it ∧ k ≠ mb) (hb : Below w.heap.size w w3) (ho : Kd.string.R 9 w3 w.heap.size (fun _ => True) v1 (ns ++ [nm])) (hg : w2.grownBy w3 u3.ownBlock) : CollE w it mb es clock v1 w3 ∧ Coll w w3 it mb es clock v1 (sl ++ [e]) (ns ++ [nm]) := by
  have hc : Coll w w3 it mb es clock v1 (sl ++ [e]) (ns ++ [nm]) :=
    ⟨⟨blk_grown hm.hit hg (fun e2 => (hown it e2.symm).1 rfl), blk_grown hm.hmb hg (fun e2 => (hown mb e2.symm).2 rfl), hm.nd, hm.sub⟩, ho, by rw [List.map_append, List.map_append, h.keys]; simp [hk], hb⟩
  exact ⟨⟨_, _, hc⟩, hc⟩
set_option maxHeartbeats 2000000 in
set_option maxRecDepth 100000 in
theorem names_calls (w : World) (p : Nat) (X : Nat → Prop) (s : St) (h : Prog w p X s) (ok : Ok s) : Calls Try.prog 40 #[.pointer (some ⟨p, 0, none⟩)] w fun e w' => ∃ v, e = .returned v ∧ Kd.string.R 9 w' w.heap.size (fun _ => True) v (namesOf s.all) ∧ Below w.heap.size w w' := by
  obtain ⟨mb, q, dv, h⟩ := h
  have hp := h.head
  unfold diskCells at hp
  obtain ⟨es, clock, hmb, hperm, hnd, hbn, hbc⟩ := h.files.map
  have hmlt := blk_lt hmb
  have hrange : (Instr.range 74 (.map (some mb))).run Try.prog w = .ok (.pointer (some ⟨w.heap.size, 0, none⟩)) (w.alloc (.mapIter (some mb) clock #[] clock)) := by
    simp [Instr.range, run_underlying Try.underlying74, getObj, newObj, Sem.run, hmb]
  have HC0 := Aside0.mk (show CollE w w.heap.size mb es clock (.slice none 0 0) (w.alloc (.mapIter (some mb) clock #[] clock)) from ⟨[], [], ⟨heap_alloc_new w _, blk_alloc hmb _, List.nodup_nil, fun _ h => by cases h⟩, Kd.R_nil _ _ _ _ _, rfl, below_alloc (Below.refl _ _) _⟩)
  have c0 := blk_cell hp 0
  have c1 := blk_cell hp 1
  have c2 := blk_cell hp 2
  have c3 := blk_cell hp 3
  have c4 := blk_cell hp 4
  have c5 := blk_cell hp 5
  have fc0 := blk_frozen hp 0
  have fc1 := blk_frozen hp 1
  have fc2 := blk_frozen hp 2
  have fc3 := blk_frozen hp 3
  have fc4 := blk_frozen hp 4
  have fc5 := blk_frozen hp 5
  simp only [List.getElem?_toArray, List.getElem?_cons_succ, List.getElem?_cons_zero] at c0 c1 c2 c3 c4 c5
  have HN := Aside0.mk hbn
  have HBC := Aside0.mk hbc
  have HPE := Aside0.mk hperm
  have HS := Aside0.mk ok.sorted
  have HSZ := Aside0.mk (show es.size ≤ 400 by have := hperm.length_eq; simp at this; have := ok.few; omega)
  clear hp hmb hperm hnd hbn hbc
  go_enter Try.func40, Try.ntmps40
  go_wp2
  go_loopw [3] (fun v wr => CollE w w.heap.size mb es clock v wr) (fun v _ => es.size - sliceLen v)
  case atStart => exact HC0.out
  case round =>
    obtain ⟨sl, ns, hc⟩ := hrel
    have hle := coll_le hc HN.out
    have hsn : sliceLen u3 = ns.length := by
      obtain ⟨A, c, e⟩ := Kd.R_slice hc.row
      rw [e]
      rfl
    have HCO := Aside0.mk hc
    have HLE := Aside0.mk hle
    have HSN := Aside0.mk hsn
    rcases met_next hc.met HN.out HBC.out (Nat.ne_of_lt hmlt) 0 with ⟨hall, hnext⟩ | ⟨e, w2, he, hnext, hmet, hupd, hentry⟩
    · have HPR := Aside0.mk (coll_full hc HN.out hall HPE.out)
      have hsort := sort_calls wr u3 ns (namesOf s.all) w.heap.size hc.row (by have := HSZ.out; omega) HPR.out (List.pairwise_map.2 HS.out)
      have HSO := Aside0.mk hsort
      clear hc hle hsn hall hsort
      go_wp2_with (go_at_call 62; refine HSO.out.mono ?_; rintro e w' ⟨rfl, hR, hU⟩)
      go_ret
      refine ⟨_, rfl, hR, HCO.out.bel.trans (hU.below (HCO.out.bel.size) (fun k hk => Kd.R_base HCO.out.row k hk))⟩
    · obtain ⟨nm, hkey⟩ : ∃ nm, e.key = .string nm := by
        obtain ⟨n, _, h1, _⟩ := ent_mem HPE.out he
        exact ⟨n, h1⟩
      rw [hkey] at hnext hentry
      have HME := Aside0.mk hmet
      have HUP := Aside0.mk hupd
      have HK := Aside0.mk hkey
      clear hc hle hsn hmet hupd he
      generalize e.val = ev at *
      have hown : ∀ k, u3.ownBlock = some k → k ≠ w.heap.size ∧ k ≠ mb := fun k hk => by
        obtain ⟨cells, hcl⟩ := Kd.R_typed HCO.out.row k hk
        constructor
        · rintro rfl
          rw [HCO.out.met.hit] at hcl
          cases hcl
        · rintro rfl
          rw [HCO.out.met.hmb] at hcl
          cases hcl
      have HOW := Aside0.mk hown
      have HRW := Aside0.mk (Kd.R_mono (Kd.R_move (Kd.R_tight rfl HCO.out.row) (w1 := w2) (fun k hk => HUP.out.same k (Kd.R_lt HCO.out.row k hk.symm) (hown k hk.symm).1)) (fun _ _ => trivial))
      clear hown
      have HBL := Aside0.mk (HCO.out.bel.trans (HUP.out.below HCO.out.bel.size (fun k hk => by rw [hk]; exact Nat.le_refl _)))
      go_wp2_with ((with_reducible refine gate_builtin (b := .append) (xs := #[.tmp 14, .tmp 16]) rfl ?_); at_builtin; refine Kd.R_append Kd.string (w0 := w) (W := w2) w.heap.size rfl (.tmp 14) (.tmp 16) 45 9 (.string ⟨#[]⟩) 16 rfl Try.underlying45 PD.info9 rfl (by decide) (by decide) u3 ns nm [.string nm] (fun _ => True) (fun _ => False) rfl rfl rfl (fun _ h => h.elim) (fun _ _ => trivial) HRW.out HBL.out HBL.out.size (by have := HLE.out; have := HSZ.out; omega) ?_; intro v1 w3 ho hb hg hat; have HO := Aside0.mk ho; have HBB := Aside0.mk hb; have HG := Aside0.mk hg; clear ho hb hg hat)
      go_roundw
      case rel => exact (collect_step HCO.out HME.out HK.out HOW.out HBB.out HO.out HG.out).1
      case measure =>
        have h1 := coll_le (collect_step HCO.out HME.out HK.out HOW.out HBB.out HO.out HG.out).2 HN.out
        have h2 := HSN.out
        have h3 : sliceLen v1 = (ns ++ [nm]).length := by
          obtain ⟨A, c, e⟩ := Kd.R_slice HO.out
          rw [e]
          rfl
        rw [List.length_append] at h1 h3
        simp at h1 h3 ⊢
        omega
end Go.Proofs.Ytfholpajdkjbbaa.DK
/- The program's disk: List, Files; conditions: those in each theorem. -/
namespace Go.Proofs.Ytfholpajdkjbbaa.DK
open Go.Proofs.Ytfholpajdkjbbaa.PD
open Go.RowKit Go.Proofs.YtfholpajdkjbbaaW.PrintWords Go.Proofs.YtfholpajdkjbbaaW.PrintLast Go.Proofs.YtfholpajdkjbbaaW.PrintMore Go.Proofs.Ytfholpajdkjbbaa.Mo
set_option linter.unusedVariables false
set_option linter.unusedSimpArgs false
set_option maxHeartbeats 1000000 in
theorem list_calls (w : World) (p : Nat) (X : Nat → Prop) (s : St) (h : Prog w p X s) (ok : Ok s) : Calls Try.prog 26 #[.pointer (some ⟨p, 0, none⟩)] w fun e w' => ∃ v, e = .returned (.tuple #[v, .int .i64 s.list.2]) ∧ Kd.string.R 9 w' w.heap.size (fun _ => True) v s.list.1 ∧ Below w.heap.size w w' := by
  have HN := Aside0.mk (names_calls w p X s h ok)
  obtain ⟨mb, q, dv, h⟩ := h
  have hp := h.head
  unfold diskCells at hp
  unfold St.list
  by_cases hd : s.down = true
  · rw [if_pos hd]
    rw [hd] at hp
    have c0 := blk_cell hp 0
    have c1 := blk_cell hp 1
    have c2 := blk_cell hp 2
    have c3 := blk_cell hp 3
    have c4 := blk_cell hp 4
    have c5 := blk_cell hp 5
    have fc0 := blk_frozen hp 0
    have fc1 := blk_frozen hp 1
    have fc2 := blk_frozen hp 2
    have fc3 := blk_frozen hp 3
    have fc4 := blk_frozen hp 4
    have fc5 := blk_frozen hp 5
    simp only [List.getElem?_toArray, List.getElem?_cons_succ, List.getElem?_cons_zero] at c0 c1 c2 c3 c4 c5
    clear hp hd
    go_enter Try.func26, Try.ntmps26
    go_wp2
    go_ret2
    exact ⟨_, rfl, Kd.R_nil _ _ _ _ _, Below.refl _ _⟩
  · rw [if_neg hd]
    rw [show s.down = false by simpa using hd] at hp
    have c0 := blk_cell hp 0
    have c1 := blk_cell hp 1
    have c2 := blk_cell hp 2
    have c3 := blk_cell hp 3
    have c4 := blk_cell hp 4
    have c5 := blk_cell hp 5
    have fc0 := blk_frozen hp 0
    have fc1 := blk_frozen hp 1
    have fc2 := blk_frozen hp 2
    have fc3 := blk_frozen hp 3
    have fc4 := blk_frozen hp 4
    have fc5 := blk_frozen hp 5
    simp only [List.getElem?_toArray, List.getElem?_cons_succ, List.getElem?_cons_zero] at c0 c1 c2 c3 c4 c5
    clear hp hd
    go_enter Try.func26, Try.ntmps26
    go_wp2_with (go_at_call 40; refine HN.out.mono ?_; rintro e w1 ⟨v, rfl, hR, hB⟩)
    go_ret2
    exact ⟨_, rfl, hR, hB⟩
/-! ### Files -/
def to67 (x : ByteArray × List Int × Int) : S67 := ⟨x.1, x.2.1, x.2.2⟩
def files67 (s : St) : List S67 := s.files.map to67
theorem files67_len (s : St) : (files67 s).length = s.all.length := by simp [files67, St.files]
theorem files67_at (s : St) (i : Nat) (h : i < s.all.length) : (files67 s)[i]'(by rw [files67_len]; exact h) = ⟨(s.all[i]).name, (s.all[i]).data, ((s.all[i]).sure.length : Int)⟩ := by
  simp [files67, St.files, to67]
/-- What is known while the files are told. -/
structure Tell (w wr : World) (s : St) (vN v : Value) (i : Nat) : Prop where
  le : i ≤ s.all.length
  row : k67.R 67 wr w.heap.size (fun _ => True) v ((files67 s).take i)
  nms : Kd.string.R 9 wr w.heap.size (fun _ => True) vN (namesOf s.all)
  bel : Below w.heap.size w wr
def TellE (w : World) (s : St) (vN v iv : Value) (wr : World) : Prop := ∃ i : Nat, iv = .int .i64 i ∧ Tell w wr s vN v i
set_option maxHeartbeats 4000000 in
set_option maxRecDepth 100000 in
theorem files_calls (w : World) (p : Nat) (X : Nat → Prop) (s : St) (h : Prog w p X s) (ok : Ok s) : Calls Try.prog 18 #[.pointer (some ⟨p, 0, none⟩)] w fun e w' => ∃ v, e = .returned v ∧ k67.R 67 w' w.heap.size (fun _ => True) v (files67 s) ∧ Below w.heap.size w w' := by
  have HN := Aside0.mk (names_calls w p X s h ok)
  have HH := Aside0.mk h
  have OK := Aside0.mk ok
  have hlen : s.all.length ≤ 400 := ok.few
  clear h ok
  go_enter Try.func18, Try.ntmps18
  go_wp2_with (go_at_call 40; refine HN.out.mono ?_; rintro e w1 ⟨v, rfl, hR, hB⟩; obtain ⟨A, c, rfl, hc, _⟩ := Kd.R_reads hR; rw [show (namesOf s.all).length = s.all.length from List.length_map _] at hR ⊢; have HR := Aside0.mk hR; have HB := Aside0.mk hB; clear hR hB hc)
  go_loopw [3, 10] (fun v iv wr => TellE w s (.slice A s.all.length c) v iv wr) (fun _ iv _ => s.all.length - (intOf iv).toNat)
  case atStart => exact ⟨0, rfl, Nat.zero_le _, Kd.R_nil _ _ _ _ _, HR.out, HB.out⟩
  case round =>
    obtain ⟨i, rfl, ht⟩ := hrel
    have HT := Aside0.mk ht
    by_cases hlt : i < s.all.length
    · obtain ⟨mb, q, dv, h0⟩ := HH.out
      have h1 := h0.upd (Y := fun _ => False) (Upd.of_below ht.bel _) (fun _ _ h => h)
      have hfm : s.all[i] ∈ s.all := List.getElem_mem hlt
      have hfind := find_of_mem h1.files.nodup hfm
      have hlook := h1.see_some hfind
      have hfile := h1.files.file _ hfm
      have hrow := h1.files.row _ hfm
      have hsm := OK.out.small _ hfm
      have hat := files67_at s i hlt
      have HAT := Aside0.mk hat
      obtain ⟨g, cap, he, _⟩ := Kd.R_form ht.nms (by rw [List.length_map]; omega)
      rw [show (namesOf s.all).length = s.all.length from List.length_map _] at he
      injection he with he h_ hcap
      subst he
      clear h_ hcap
      obtain ⟨hcell, _⟩ := Kd.R_celln ByteArray.empty ht.nms (i : Int) (by omega) (by omega)
      have hrd : rdOf ByteArray.empty (namesOf s.all) (i : Int) = (s.all[i]).name := by
        rw [rdB_nat _ i (by rw [List.length_map]; exact hlt), List.getElem_map]
      rw [hrd, Int.toNat_natCast] at hcell
      have hp1 := h1.head
      unfold diskCells at hp1
      have c0 := blk_cell hp1 0
      have c1 := blk_cell hp1 1
      have c2 := blk_cell hp1 2
      have c3 := blk_cell hp1 3
      have c4 := blk_cell hp1 4
      have c5 := blk_cell hp1 5
      have fc0 := blk_frozen hp1 0
      have fc1 := blk_frozen hp1 1
      have fc2 := blk_frozen hp1 2
      have fc3 := blk_frozen hp1 3
      have fc4 := blk_frozen hp1 4
      have fc5 := blk_frozen hp1 5
      simp only [List.getElem?_toArray, List.getElem?_cons_succ, List.getElem?_cons_zero] at c0 c1 c2 c3 c4 c5
      have d0 := blk_cell hfile 0
      have d1 := blk_cell hfile 1
      have fd0 := blk_frozen hfile 0
      have fd1 := blk_frozen hfile 1
      simp only [List.getElem?_toArray, List.getElem?_cons_succ, List.getElem?_cons_zero] at d0 d1
      obtain ⟨A2, c2, he2, _, _⟩ := Kd.R_reads hrow
      rw [he2] at d0 hrow
      have HRW := Aside0.mk hrow
      have HSM := Aside0.mk hsm
      have HQ := Aside0.mk h1
      have HCL := Aside0.mk (fun (W : World) (hW : Row W (.slice A2 (s.all[i]).data.length c2) (s.all[i]).data) => clone_row W _ _ hW (by rw [data_length]; omega))
      clear h0 h1 hfind hfile hrow hat ht hp1 he2 hrd
      generalize s.all[i] = f at *
      have HRN := Aside0.mk HT.out.row
      have HNM := Aside0.mk HT.out.nms
      have HBL := Aside0.mk HT.out.bel
      go_wp2
      refine start_ (n := 15) (S := fun w' => w'.cell? ⟨q f.name, 0, none⟩ = some (.slice A2 f.data.length c2) ∧ w'.cell? ⟨q f.name, 1, none⟩ = some (.int .i64 f.sure.length)) (ds := [13]) #[false, false, false, false, false, false, false, false, false, false, false, false, false, false, false] (by kernel_rfl) rfl rfl ⟨d0, d1⟩ (fun hHeld => ?_)
      refine zq 0 (some 20) ?_
      refine zq 1 (some 21) ?_
      refine zq 2 (some 22) ?_
      refine zq 3 (some 23) ?_
      refine zq 4 (some 24) ?_
      refine zq 7 (some 27) ?_
      refine zq 8 (some 28) ?_
      refine zq 9 (some 29) ?_
      refine zu 5 (some 25) hHeld ?_
      refine zu 10 (some 30) hHeld ?_
      refine one_ (i := 6) (N := some 26) #[true, true, true, true, true, true, true, true, true, true, true, false, false, false, false] rfl rfl (by kernel_rfl) (by decide) (fun K hK => ?_)
      refine goes_ Try.func41 (by kernel_rfl) rfl #[.slice A2 f.data.length c2] (by rfl) rfl rfl (by simp only [List.map_toArray, List.map_cons, List.map_nil]; rfl) ?_
      refine (HCL.out _ (Kd.R_drew HRW.out)).mono ?_
      rintro e w6 ⟨v6, rfl, r6, b6⟩
      obtain ⟨A6, c6, rfl, _, _⟩ := Kd.R_reads r6
      refine ⟨_, rfl, ?_⟩
      have B6 := Aside0.mk b6
      have R6 := Aside0.mk r6
      clear b6 r6
      refine hK.out _ _ ⟨pw_cell_below B6.out hHeld.1, pw_cell_below B6.out hHeld.2⟩ (fun hHeld => ?_)
      clear hK K
      refine norm_ (a' := ?_) ?_ ?_
      rotate_left
      · show Act.put _ (some 26) _ = _
        simp only [Act.put, zla, zlb, zlc, i64_w, i32_w]
        rfl
      refine zq 11 (some 31) ?_
      refine one_ (i := 12) (N := some 32) #[true, true, true, true, true, true, true, true, true, true, true, true, true, false, false] rfl rfl (by kernel_rfl) (by decide) (fun K hK => ?_)
      refine value_ (w1 := ?_) (v := ?_) (by rfl) rfl ?_ ?_
      rotate_left 2
      · go_simp
        constructor
        · rfl
        · rfl
      refine hK.out _ _ ⟨pw_cell_below (below_alloc (Below.refl _ _) _) hHeld.1, pw_cell_below (below_alloc (Below.refl _ _) _) hHeld.2⟩ (fun hHeld => ?_)
      clear hK K
      refine norm_ (a' := ?_) ?_ ?_
      rotate_left
      · show Act.put _ (some 32) _ = _
        simp only [Act.put, zla, zlb, zlc, i64_w, i32_w]
        rfl
      refine last_ (i := 13) (N := some 33) #[true, true, true, true, true, true, true, true, true, true, true, true, true, true, false] rfl rfl (by kernel_rfl) (by decide) (fun K hK => ?_)
      refine Kd.R_append_step k67 (w0 := w) (W := w6) w.heap.size (by rfl) (.tmp 20) (.tmp 32) 22 67 (.agg #[(.string ⟨#[]⟩), (.slice none 0 0), (.int .i64 0)]) 48 rfl Try.underlying22 info67 rfl (by decide) (by decide) u3 ((files67 s).take i) ⟨f.name, f.data, (f.sure.length : Int)⟩ [.string f.name, .slice A6 f.data.length c6, .int .i64 f.sure.length] (fun _ => True) (fun k => wr.heap.size ≤ k) rfl rfl (k67_mkM w6 w.heap.size _ _ (Kd.R_lower (Kd.R_mono (Kd.R_bound R6.out) (fun k hk => hk.2.1)) HBL.out.size)) (fun k hk => ⟨trivial, fun e => absurd (Kd.R_lt HRN.out k e.symm) (Nat.not_lt.2 hk)⟩) (fun _ _ => trivial) (Kd.R_below (Kd.R_drew HRN.out) B6.out) ((HBL.out.drew).trans (B6.out.mono HBL.out.size)) (Nat.le_trans HBL.out.size B6.out.size) (by rw [List.length_take]; omega) ?_
      intro v7 w7 ho hb hg hat7
      have HO := Aside0.mk ho
      have HB7 := Aside0.mk hb
      have HG := Aside0.mk (show w6.grownBy w7 u3.ownBlock from hg)
      clear ho hb hg hat7
      refine hK.out _ _ ?_
      clear hK K
      refine norm_ (a' := ?_) ?_ ?_
      rotate_left
      · show Act.put _ (some 33) _ = _
        simp only [Act.put, zla, zlb, zlc, i64_w, i32_w]
        rfl
      refine zq 14 (some 3) ?_
      refine done_ (by kernel_rfl) ?_
      go_wp2
      have HF7 := Aside0.mk (show Tell w w7 s (.slice (some ⟨g, 0, none⟩) s.all.length c) v7 (i + 1) from ⟨hlt, by rw [take_snoc' _ i (by rw [files67_len]; exact hlt), HAT.out]; exact HO.out, Kd.R_over' (Kd.R_below (Kd.R_drew HNM.out) B6.out) (fun k hk => Kd.R_typed (Kd.R_below (Kd.R_drew HRN.out) B6.out) k hk) (by decide) HG.out, HB7.out⟩)
      go_roundw
      case rel => exact ⟨i + 1, by simp, HF7.out⟩
      case measure => simp [intOf]; omega
    · have hi : i = s.all.length := by have := ht.le; omega
      subst hi
      have h2 := ht.row
      rw [List.take_of_length_le (by rw [files67_len]; exact Nat.le_refl _)] at h2
      have HR2 := Aside0.mk h2
      clear ht h2
      go_wp2
      go_ret
      exact ⟨_, rfl, HR2.out, HT.out.bel⟩
end Go.Proofs.Ytfholpajdkjbbaa.DK
