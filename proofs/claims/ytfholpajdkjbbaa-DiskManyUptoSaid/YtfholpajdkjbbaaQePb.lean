/- The program's disk: Restart; conditions: those in each theorem. -/
import Derived.Test.YtfholpajdkjbbaaQeGb
namespace Go.Proofs.Ytfholpajdkjbbaa.DK
open Go.Proofs.Ytfholpajdkjbbaa.PD
open Go.RowKit Go.Proofs.YtfholpajdkjbbaaW.PrintWords Go.Proofs.YtfholpajdkjbbaaW.PrintLast Go.Proofs.YtfholpajdkjbbaaW.PrintMore Go.Proofs.Ytfholpajdkjbbaa.Mo
set_option linter.unusedVariables false
set_option linter.unusedSimpArgs false
/-- The files, of which the first i are restarted. -/
def part (l : List F) (keep : List Int) (i : Nat) : List F := l.mapIdx fun j f => if j < i then St.F.kept f (St.keepOf keep j) else f
theorem part_len (l : List F) (keep : List Int) (i : Nat) : (part l keep i).length = l.length := by simp [part]
theorem part_zero (l : List F) (keep : List Int) : part l keep 0 = l := by
  refine List.ext_getElem (part_len _ _ _) (fun j h1 h2 => ?_)
  simp [part]
theorem part_all (l : List F) (keep : List Int) : part l keep l.length = l.mapIdx fun j f => St.F.kept f (St.keepOf keep j) := by
  refine List.ext_getElem (by simp [part]) (fun j h1 h2 => ?_)
  have : j < l.length := by simpa [part] using h1
  simp [part, this]
theorem part_at (l : List F) (keep : List Int) (i : Nat) (h : i < l.length) : (part l keep i)[i]'(by rw [part_len]; exact h) = l[i] := by simp [part]
theorem part_name (l : List F) (keep : List Int) (i j : Nat) (h : j < l.length) : ((part l keep i)[j]'(by rw [part_len]; exact h)).name = (l[j]).name := by
  simp only [part, List.getElem_mapIdx]
  split <;> rfl
theorem part_next (l : List F) (hn : (namesOf l).Nodup) (keep : List Int) (i : Nat) (h : i < l.length) : upd (l[i]).name (fun f => St.F.kept f (St.keepOf keep i)) (part l keep i) = part l keep (i + 1) := by
  refine List.ext_getElem (by simp [upd, part]) (fun j h1 h2 => ?_)
  have hj : j < l.length := by simpa [part] using h2
  have hnm := part_name l keep i j hj
  have hinj : (l[j]).name = (l[i]).name ↔ j = i := by
    refine ⟨fun e => ?_, fun e => by subst e; rfl⟩
    have hp := List.pairwise_map.1 hn
    rcases Nat.lt_trichotomy j i with hji | hji | hji
    · exact absurd e (List.pairwise_iff_getElem.1 hp j i hj h hji)
    · exact hji
    · exact absurd e.symm (List.pairwise_iff_getElem.1 hp i j h hj hji)
  simp only [upd, List.getElem_map, hnm, hinj]
  simp only [part, List.getElem_mapIdx]
  by_cases e : j = i
  · subst e
    simp
  · rw [if_neg e]
    have : (j < i + 1) ↔ j < i := by omega
    simp only [this]
theorem kept_take (f : F) (k : Int) (h : 0 ≤ k) : (St.F.kept f k).data = f.data.take (min k.toNat f.loose.length + f.sure.length) := by
  simp only [St.F.kept, F.data, List.append_nil]
  rw [List.take_append, List.take_of_length_le (by omega : f.sure.length ≤ _)]
  congr 1
  rw [Nat.add_sub_cancel]
  rcases Nat.le_total k.toNat f.loose.length with h1 | h1
  · rw [Nat.min_eq_left h1]
  · rw [Nat.min_eq_right h1, List.take_of_length_le h1, List.take_length]
theorem kept_sure (f : F) (k : Int) : (St.F.kept f k).sure.length = min k.toNat f.loose.length + f.sure.length := by
  simp only [St.F.kept, List.length_append, List.length_take]
  omega
theorem kept_done {wr w' : World} {p mb : Nat} {q : ByteArray → Nat} {dv : ByteArray → Value} {X : Nat → Prop} {s1 : St} (h : PDisk wr p X s1 mb q dv) {f : F} (hfm : f ∈ s1.all) {A : Option Addr} {c : Nat} (he : dv f.name = .slice A f.len c) {k n : Int} (hk : 0 ≤ k)
    (hn : n = min k f.loose.length + f.sure.length) (hu : Upd (fun b => b = q f.name) wr w') (hfile : w'.heap[q f.name]? = some (.cells #[.slice A n.toNat c, .int .i64 n] 81 (0, 0))) : PStep p X wr w' { s1 with all := upd f.name (fun f => St.F.kept f k) s1.all } := by
  have hrow := h.files.row f hfm
  have hfl : f.len = f.sure.length + f.loose.length := rfl
  have hn1 : n.toNat = min k.toNat f.loose.length + f.sure.length := by omega
  have hdl := data_length f
  have ht : Row wr (.slice A n.toNat c) (f.data.take n.toNat) := Kd.R_take (by rw [← he]; exact hrow) (by omega)
  refine pdisk_change h hfm (fun f => St.F.kept f k) (fun _ => rfl) (.slice A n.toNat c) (Y := fun b => b = q f.name) hu (fun b _ hb => .inl hb) ?_ ?_ (fun b hb => .inl ?_)
  · rw [hfile, kept_sure, ← hn1, Int.toNat_of_nonneg (by omega)]
  · rw [kept_take f k hk, ← hn1]
    exact ht.upd hu (fun b hb e => by
      subst e
      obtain ⟨cells, hc⟩ := ht.typed hb
      exact blk_ne hc (h.files.file f hfm) (by decide) rfl)
  · rw [he]
    cases A with
    | none => cases hb
    | some a => exact hb
/-- A list of numbers that is read, whatever is written within X. -/
def StaysI (X : Nat → Prop) (w : World) (A : Option Addr) (xs : List Int) : Prop := ∀ w', Upd X w w' → (Kd.int .i64).C w' A xs.length xs
structure Back (w2 wr : World) (p : Nat) (X : Nat → Prop) (s : St) (keep : List Int) (i : Nat) : Prop where
  le : i ≤ s.all.length
  st : PStep p X w2 wr { s.fall with all := part s.all keep i }
def BackE (w2 : World) (p : Nat) (X : Nat → Prop) (s : St) (keep : List Int) (iv : Value) (wr : World) : Prop := ∃ i : Nat, iv = .int .i64 i ∧ Back w2 wr p X s keep i
theorem PStep.more__ {p : Nat} {X : Nat → Prop} {w1 w2 w3 w4 : World} {s : St} (h : PStep p (More X w2 w3) w3 w4 s) (hs : w1.heap.size ≤ w2.heap.size) (hs2 : w2.heap.size ≤ w3.heap.size) : PStep p (More (More X w1 w2) w2 w3) w3 w4 s := by
  refine ⟨h.1.mono (fun k hk => hk.elim (fun h => .inl (h.elim (fun h => .inl (.inl h)) .inr)) .inr) (fun k hk => ?_), h.2.mono (fun k _ hk => hk.elim (fun h => .inl (.inl h)) .inr)⟩
  rcases hk with ((hx | hn) | hn) | hn
  · exact h.1.bd k (.inl (.inl hx))
  · exact Nat.lt_of_lt_of_le hn.2 (Nat.le_trans hs2 h.2.size)
  · exact h.1.bd k (.inl (.inr hn))
  · exact h.1.bd k (.inr hn)
set_option maxHeartbeats 8000000 in
set_option maxRecDepth 100000 in
theorem restart_calls (w : World) (p : Nat) (X : Nat → Prop) (s : St) (K : Option Addr) (ck : Nat) (keep : List Int) (h : Prog w p X s) (ok : Ok s) (hS : StaysI X w K keep) :
    Calls Try.prog 24 #[.pointer (some ⟨p, 0, none⟩), .slice K keep.length ck] w fun e w' => e = .returned (.tuple #[]) ∧ PStep p X w w' (s.restart keep) := by
  have HC := Aside0.mk (crash_calls w p X s h)
  have OK := Aside0.mk ok
  have HS := Aside0.mk hS
  have HN := Aside0.mk (fun w1 (h : PStep p X w w1 s.fall) => names_calls w1 p _ s.fall h.1 (by exact ok.fall))
  have hlen : s.all.length ≤ 400 := ok.few
  have ND := Aside0.mk (sorted_nodup ok.sorted)
  clear h ok hS
  go_enter Try.func24, Try.ntmps24
  go_wp2_with fail
  refine HC.out.mono ?_
  rintro e w1 ⟨rfl, h1⟩
  have H1 := Aside0.mk h1
  clear h1
  go_wp2_with fail
  refine (HN.out w1 H1.out).mono ?_
  rintro e w2 ⟨v, rfl, hR, hB⟩
  obtain ⟨A, c, rfl, hc, _⟩ := Kd.R_reads hR
  rw [show (namesOf s.fall.all).length = s.all.length from List.length_map _] at hR hc ⊢
  have HR := Aside0.mk hR
  have HB := Aside0.mk hB
  have H2 := Aside0.mk (PStep.below H1.out.1 hB)
  clear hR hB hc
  go_wp2
  go_loopw [13] (fun iv wr => BackE w2 p (More X w w1) s keep iv wr) (fun iv _ => s.all.length - (intOf iv).toNat)
  case atStart => exact ⟨0, rfl, Nat.zero_le _, by rw [part_zero]; exact PStep.refl (H1.out.1.below HB.out)⟩
  case round =>
    obtain ⟨i, rfl, hb⟩ := hrel
    have HBK := Aside0.mk hb
    by_cases hlt : i < s.all.length
    · obtain ⟨⟨mb, q, dv, h3⟩, hU⟩ := hb.st
      have hpl : i < (part s.all keep i).length := by rw [part_len]; exact hlt
      have hfm : s.all[i] ∈ part s.all keep i := by rw [← part_at s.all keep i hlt]; exact List.getElem_mem hpl
      have hsm := OK.out.small _ (List.getElem_mem hlt)
      have hnext := part_next s.all ND.out keep i hlt
      have hfind := find_of_mem h3.files.nodup hfm
      have hlook := h3.see_some hfind
      have hfile := h3.files.file _ hfm
      have hrow := h3.files.row _ hfm
      have hR2 : Kd.string.R 9 wr w1.heap.size (fun _ => True) (.slice A s.all.length c) (namesOf s.all) := Kd.R_move (Kd.R_mono (Kd.R_bound HR.out) (fun k hk => hk.2)) (fun k hk => hU.same k hk.2.1 (fun hx => absurd (bd_more H1.out.1.bd (Nat.le_refl _) k (.inl hx)) (Nat.not_lt.2 hk.1))) |> fun x => Kd.R_mono x (fun _ _ => trivial)
      obtain ⟨g, cap, he, _⟩ := Kd.R_form hR2 (by rw [List.length_map]; omega)
      rw [show (namesOf s.all).length = s.all.length from List.length_map _] at he
      injection he with he h_ hcap
      subst he
      clear h_ hcap
      obtain ⟨hcell, _⟩ := Kd.R_celln ByteArray.empty hR2 (i : Int) (by omega) (by omega)
      have hrd : rdOf ByteArray.empty (namesOf s.all) (i : Int) = (s.all[i]).name := by
        rw [rdB_nat _ i (by rw [List.length_map]; exact hlt), List.getElem_map]
      rw [hrd, Int.toNat_natCast] at hcell
      have hp := h3.head
      unfold diskCells at hp
      obtain ⟨A2, c2, he2, hc2, _⟩ := Kd.R_reads hrow
      rw [he2, data_length] at hfile
      rw [data_length] at he2
      have hlt2 := blk_lt hfile
      have HF := Aside0.mk hfile
      have m0 := blk_cell hp 0
      have m1 := blk_cell hp 1
      have m2 := blk_cell hp 2
      have m3 := blk_cell hp 3
      have m4 := blk_cell hp 4
      have m5 := blk_cell hp 5
      have fm0 := blk_frozen hp 0
      have fm1 := blk_frozen hp 1
      have fm2 := blk_frozen hp 2
      have fm3 := blk_frozen hp 3
      have fm4 := blk_frozen hp 4
      have fm5 := blk_frozen hp 5
      simp only [List.getElem?_toArray, List.getElem?_cons_succ, List.getElem?_cons_zero] at m0 m1 m2 m3 m4 m5
      have d0 := blk_cell hfile 0
      have d1 := blk_cell hfile 1
      have fd0 := blk_frozen hfile 0
      have fd1 := blk_frozen hfile 1
      simp only [List.getElem?_toArray, List.getElem?_cons_succ, List.getElem?_cons_zero] at d0 d1
      have hkp := HS.out wr (H1.out.2.more ((Upd.of_below HB.out _).trans hU (fun _ h => h) (fun _ _ h => h)))
      have HQ := Aside0.mk h3
      have HE := Aside0.mk he2
      have HNX := Aside0.mk hnext
      have hfl : s.all[i].len = s.all[i].sure.length + s.all[i].loose.length := rfl
      have HFM := Aside0.mk hfm
      clear h3 hfind hrow hR2 hp he2 hrd hb hpl hfm hnext hU hfile
      generalize s.all[i] = f at *
      obtain ⟨i5, hi5, hz5_⟩ := Option.map_eq_some_iff.1 PD.info5
      have hz5 : i5.size = 1 := (Prod.mk.inj (Prod.mk.inj hz5_).2).1
      clear hz5_
      by_cases hk0 : keep.length = 0
      · have HK := Aside0.mk (show St.keepOf keep i = 0 by unfold St.keepOf; rw [if_pos hk0])
        obtain ⟨n, hn⟩ : ∃ n : Int, n = f.sure.length := ⟨_, rfl⟩
        have hn0 : 0 ≤ n := by omega
        have hn1 : n ≤ f.len := by omega
        obtain ⟨hcut, _, hle⟩ := print_take_int (k := .u8) 38 5 Try.underlying38 hi5 hz5 A2 c2 f.data n hn0 (by rw [data_length]; exact hn1) hc2
        have hlen : (f.data.take n.toNat).length = n.toNat := by rw [List.length_take, data_length]; omega
        rw [data_length, hlen] at hcut
        have HM := Aside0.mk hn
        rw [← hn] at d1
        have hnc : n ≤ (c2 : Int) := by rw [data_length] at hc2; omega
        have hkl : ¬ ((0 : Int) < (keep.length : Int)) := by omega
        clear hkp hlen hle hn hk0 hfl
        go_wp2
        have hf9 : ((wr.setCell ⟨q f.name, 1, none⟩ (.int .i64 n))).heap[q f.name]? = some (.cells #[.slice A2 f.len c2, .int .i64 n] 81 (0, 0)) := by simp only [heap_set, heap_drew, HF.out, Option.map_some] <;> rfl
        have e0 := blk_cell hf9 0
        have e1 := blk_cell hf9 1
        have fe0 := blk_frozen hf9 0
        have fe1 := blk_frozen hf9 1
        simp only [List.getElem?_toArray, List.getElem?_cons_succ, List.getElem?_cons_zero] at e0 e1
        clear hf9
        refine start_ (n := 13) (S := fun w' => w'.cell? ⟨q f.name, 0, none⟩ = some (.slice A2 f.len c2) ∧ w'.cell? ⟨q f.name, 1, none⟩ = some (.int .i64 n)) (ds := [12]) #[false, false, false, false, false, false, false, false, false, false, false, false, false] (by kernel_rfl) rfl rfl ⟨e0, e1⟩ (fun hHeld => ?_)
        refine zq 0 (some 54) ?_
        refine zq 1 (some 55) ?_
        refine zq 2 (some 56) ?_
        refine zq 3 (some 57) ?_
        refine zq 5 (some 59) ?_
        refine zq 6 (some 60) ?_
        refine zq 7 (some 61) ?_
        refine zu 4 (some 58) hHeld ?_
        refine zu 8 (some 62) hHeld ?_
        refine zq 9 (some 63) ?_
        refine zq 10 (some 64) ?_
        refine zq 11 (some 65) ?_
        refine last_ (i := 12) (N := none) #[true, true, true, true, true, true, true, true, true, true, true, true, true] rfl rfl (by kernel_rfl) (by decide) (fun K hK => ?_)
        refine skip_ (w1 := ?_) (by rfl) rfl ?_ ?_
        rotate_left
        · go_simp
          rfl
        refine hK.out _ _ ?_
        clear hK K
        refine done_ (by kernel_rfl) ?_
        have HD := Aside0.mk (show Back w2 (((wr.setCell ⟨q f.name, 1, none⟩ (.int .i64 n))).drew.setCell ⟨q f.name, 0, none⟩ (.slice A2 n.toNat c2)) p (More X w w1) s keep (i + 1) from ⟨hlt, by
          have hd := kept_done (w' := (((wr.setCell ⟨q f.name, 1, none⟩ (.int .i64 n))).drew.setCell ⟨q f.name, 0, none⟩ (.slice A2 n.toNat c2))) HQ.out HFM.out HE.out (k := St.keepOf keep i) (by rw [HK.out]; omega) (n := n) (by have h1 := HK.out; have h2 := HM.out; omega) ((by repeat (with_reducible first | exact Upd.refl _ _ | apply Upd.set1 | apply Upd.alloc | apply Upd.drewN | apply Upd.drew))) (by simp only [heap_set, heap_drew, HF.out, Option.map_some] <;> rfl)
          rw [← HNX.out]
          exact PStep.trans HBK.out.st hd⟩)
        go_wp2
        go_roundw
        case rel => exact ⟨i + 1, by simp, HD.out⟩
        case measure => simp [intOf]; omega
      · obtain ⟨m, hm⟩ : ∃ m : Nat, m = i % keep.length := ⟨_, rfl⟩
        have hm1 : m < keep.length := by rw [hm]; exact Nat.mod_lt _ (by omega)
        have hr : Int.tmod (i : Int) (keep.length : Int) = (m : Int) := by rw [Int.tmod_eq_emod_of_nonneg (by omega), hm]; exact (Int.natCast_emod _ _).symm
        obtain ⟨ad, rfl, hkc⟩ := (Kd.reads_of_C (d := (0 : Int)) (h1 := fun _ => rfl) hkp).at_ (m : Int) (by omega) (by omega)
        have HK := Aside0.mk (show St.keepOf keep i = max (rdOf (0 : Int) keep (m : Int)) 0 by unfold St.keepOf; rw [if_neg hk0, ← hm]; rfl)
        rw [Int.toNat_natCast] at hkc
        generalize rdOf (0 : Int) keep (m : Int) = y at *
        obtain ⟨n, hn⟩ : ∃ n : Int, n = min (max y 0) f.loose.length + f.sure.length := ⟨_, rfl⟩
        have hn0 : 0 ≤ n := by omega
        have hn1 : n ≤ f.len := by omega
        obtain ⟨hcut, _, hle⟩ := print_take_int (k := .u8) 38 5 Try.underlying38 hi5 hz5 A2 c2 f.data n hn0 (by rw [data_length]; exact hn1) hc2
        have hlen : (f.data.take n.toNat).length = n.toNat := by rw [List.length_take, data_length]; omega
        rw [data_length, hlen] at hcut
        have HM := Aside0.mk hn
        have hnc : n ≤ (c2 : Int) := by rw [data_length] at hc2; omega
        have hw1 : wrap64 ((f.len : Int) - f.sure.length) = f.loose.length := by rw [hfl]; rw [w64 (by omega) (by omega)]; omega
        obtain ⟨z, hz⟩ : ∃ z : Int, z = min (max y 0) f.loose.length := ⟨_, rfl⟩
        have hw2 : wrap64 ((f.sure.length : Int) + z) = n := by rw [w64 (by omega) (by omega)]; omega
        have hz2 := hz.symm
        clear hkp hlen hle hn hm hfl hz
        go_wp2
        refine start_ (n := 20) (S := fun w' => w'.cell? ⟨q f.name, 0, none⟩ = some (.slice A2 f.len c2) ∧ w'.cell? ⟨q f.name, 1, none⟩ = some (.int .i64 f.sure.length) ∧ w'.cell? (ad.add m) = some (.int .i64 y)) (ds := []) #[false, false, false, false, false, false, false, false, false, false, false, false, false, false, false, false, false, false, false, false] (by kernel_rfl) rfl rfl ⟨d0, d1, hkc⟩ (fun hHeld => ?_)
        refine zp 0 (some 27) ?_ rfl rfl (by kernel_rfl) (fun _ _ _ h => h) (by rfl) ?_ ?_ ?_ ?_ ?_
        rotate_left; · (intro w'; go_simp; with_reducible rfl)
        rotate_left 2; · (simp only [Act.put, zla, zlb, zlc, i64_w, i32_w, hr, hw1, hz2]; rfl)
        refine zp 1 (some 28) ?_ rfl rfl (by kernel_rfl) (fun _ _ _ h => h) (by rfl) ?_ ?_ ?_ ?_ ?_
        rotate_left; · (intro w'; go_simp; with_reducible rfl)
        rotate_left 2; · (simp only [Act.put, zla, zlb, zlc, i64_w, i32_w, hr, hw1, hz2]; rfl)
        refine zp 2 (some 29) ?_ rfl rfl (by kernel_rfl) (fun _ _ _ h => h) (by rfl) ?_ ?_ ?_ ?_ ?_
        rotate_left; · (intro w'; go_simp; with_reducible rfl)
        rotate_left 2; · (simp only [Act.put, zla, zlb, zlc, i64_w, i32_w, hr, hw1, hz2]; rfl)
        refine zp 3 (some 30) ?_ rfl rfl (by kernel_rfl) (fun _ _ _ h => h) (by rfl) ?_ ?_ ?_ ?_ ?_
        rotate_left; · (intro w'; go_simp; with_reducible rfl)
        rotate_left 2; · (simp only [Act.put, zla, zlb, zlc, i64_w, i32_w, hr, hw1, hz2]; rfl)
        refine zp 4 (some 31) ?_ rfl rfl (by kernel_rfl) (fun _ _ _ h => h) (by rfl) ?_ ?_ ?_ ?_ ?_
        rotate_left; · (intro w'; go_simp; with_reducible rfl)
        rotate_left 2; · (simp only [Act.put, zla, zlb, zlc, i64_w, i32_w, hr, hw1, hz2]; rfl)
        refine zp 5 (some 32) ?_ rfl rfl (by kernel_rfl) (fun _ _ _ h => h) (by rfl) ?_ ?_ ?_ ?_ ?_
        rotate_left; · (intro w'; go_simp; with_reducible rfl)
        rotate_left 2; · (simp only [Act.put, zla, zlb, zlc, i64_w, i32_w, hr, hw1, hz2]; rfl)
        refine zp 8 (some 35) ?_ rfl rfl (by kernel_rfl) (fun _ _ _ h => h) (by rfl) ?_ ?_ ?_ ?_ ?_
        rotate_left; · (intro w'; go_simp; with_reducible rfl)
        rotate_left 2; · (simp only [Act.put, zla, zlb, zlc, i64_w, i32_w, hr, hw1, hz2]; rfl)
        refine zp 9 (some 36) ?_ rfl rfl (by kernel_rfl) (fun _ _ _ h => h) (by rfl) ?_ ?_ ?_ ?_ ?_
        rotate_left; · (intro w'; go_simp; with_reducible rfl)
        rotate_left 2; · (simp only [Act.put, zla, zlb, zlc, i64_w, i32_w, hr, hw1, hz2]; rfl)
        refine zp 10 (some 37) ?_ rfl rfl (by kernel_rfl) (fun _ _ _ h => h) (by rfl) ?_ ?_ ?_ ?_ ?_
        rotate_left; · (intro w'; go_simp; with_reducible rfl)
        rotate_left 2; · (simp only [Act.put, zla, zlb, zlc, i64_w, i32_w, hr, hw1, hz2]; rfl)
        refine zp 13 (some 40) ?_ rfl rfl (by kernel_rfl) (fun _ _ _ h => h) (by rfl) ?_ ?_ ?_ ?_ ?_
        rotate_left; · (intro w'; go_simp; with_reducible rfl)
        rotate_left 2; · (simp only [Act.put, zla, zlb, zlc, i64_w, i32_w, hr, hw1, hz2]; rfl)
        refine zp 14 (some 41) ?_ rfl rfl (by kernel_rfl) (fun _ _ _ h => h) (by rfl) ?_ ?_ ?_ ?_ ?_
        rotate_left; · (intro w'; go_simp; with_reducible rfl)
        rotate_left 2; · (simp only [Act.put, zla, zlb, zlc, i64_w, i32_w, hr, hw1, hz2]; rfl)
        refine zp 15 (some 42) ?_ rfl rfl (by kernel_rfl) (fun _ _ _ h => h) (by rfl) ?_ ?_ ?_ ?_ ?_
        rotate_left; · (intro w'; go_simp; with_reducible rfl)
        rotate_left 2; · (simp only [Act.put, zla, zlb, zlc, i64_w, i32_w, hr, hw1, hz2]; rfl)
        refine zt 6 (some 33) ?_ rfl rfl (by kernel_rfl) (fun _ _ _ h => h) (by rfl) ?_ hHeld ?_ ?_ ?_ ?_
        rotate_left; · (rintro w' ⟨s0, s1, s2⟩; go_simp; with_reducible rfl)
        rotate_left 2; · (simp only [Act.put, zla, zlb, zlc, i64_w, i32_w, hr, hw1, hz2]; rfl)
        refine zp 7 (some 34) ?_ rfl rfl (by kernel_rfl) (fun _ _ _ h => h) (by rfl) ?_ ?_ ?_ ?_ ?_
        rotate_left; · (intro w'; go_simp; with_reducible rfl)
        rotate_left 2; · (simp only [Act.put, zla, zlb, zlc, i64_w, i32_w, hr, hw1, hz2]; rfl)
        refine zt 11 (some 38) ?_ rfl rfl (by kernel_rfl) (fun _ _ _ h => h) (by rfl) ?_ hHeld ?_ ?_ ?_ ?_
        rotate_left; · (rintro w' ⟨s0, s1, s2⟩; go_simp; with_reducible rfl)
        rotate_left 2; · (simp only [Act.put, zla, zlb, zlc, i64_w, i32_w, hr, hw1, hz2]; rfl)
        refine zp 12 (some 39) ?_ rfl rfl (by kernel_rfl) (fun _ _ _ h => h) (by rfl) ?_ ?_ ?_ ?_ ?_
        rotate_left; · (intro w'; go_simp; with_reducible rfl)
        rotate_left 2; · (simp only [Act.put, zla, zlb, zlc, i64_w, i32_w, hr, hw1, hz2]; rfl)
        refine zt 16 (some 43) ?_ rfl rfl (by kernel_rfl) (fun _ _ _ h => h) (by rfl) ?_ hHeld ?_ ?_ ?_ ?_
        rotate_left; · (rintro w' ⟨s0, s1, s2⟩; go_simp; with_reducible rfl)
        rotate_left 2; · (simp only [Act.put, zla, zlb, zlc, i64_w, i32_w, hr, hw1, hz2]; rfl)
        refine zp 17 (some 44) ?_ rfl rfl (by kernel_rfl) (fun _ _ _ h => h) (by rfl) ?_ ?_ ?_ ?_ ?_
        rotate_left; · (intro w'; go_simp; with_reducible rfl)
        rotate_left 2; · (simp only [Act.put, zla, zlb, zlc, i64_w, i32_w, hr, hw1, hz2]; rfl)
        refine zp 18 (some 45) ?_ rfl rfl (by kernel_rfl) (fun _ _ _ h => h) (by rfl) ?_ ?_ ?_ ?_ ?_
        rotate_left; · (intro w'; go_simp; with_reducible rfl)
        rotate_left 2; · (simp only [Act.put, zla, zlb, zlc, i64_w, i32_w, hr, hw1, hz2]; rfl)
        refine zp 19 (some 7) ?_ rfl rfl (by kernel_rfl) (fun _ _ _ h => h) (by rfl) ?_ ?_ ?_ ?_ ?_
        rotate_left; · (intro w'; go_simp; with_reducible rfl)
        rotate_left 2; · (simp only [Act.put, zla, zlb, zlc, i64_w, i32_w, hr, hw1, hz2]; rfl)
        refine done_ (by kernel_rfl) ?_
        go_wp2
        have hf9 : ((wr.setCell ⟨q f.name, 1, none⟩ (.int .i64 n)).drew).heap[q f.name]? = some (.cells #[.slice A2 f.len c2, .int .i64 n] 81 (0, 0)) := by simp only [heap_set, heap_drew, HF.out, Option.map_some] <;> rfl
        have e0 := blk_cell hf9 0
        have e1 := blk_cell hf9 1
        have fe0 := blk_frozen hf9 0
        have fe1 := blk_frozen hf9 1
        simp only [List.getElem?_toArray, List.getElem?_cons_succ, List.getElem?_cons_zero] at e0 e1
        clear hf9
        refine start_ (n := 13) (S := fun w' => w'.cell? ⟨q f.name, 0, none⟩ = some (.slice A2 f.len c2) ∧ w'.cell? ⟨q f.name, 1, none⟩ = some (.int .i64 n)) (ds := [12]) #[false, false, false, false, false, false, false, false, false, false, false, false, false] (by kernel_rfl) rfl rfl ⟨e0, e1⟩ (fun hHeld => ?_)
        refine zq 0 (some 54) ?_
        refine zq 1 (some 55) ?_
        refine zq 2 (some 56) ?_
        refine zq 3 (some 57) ?_
        refine zq 5 (some 59) ?_
        refine zq 6 (some 60) ?_
        refine zq 7 (some 61) ?_
        refine zu 4 (some 58) hHeld ?_
        refine zu 8 (some 62) hHeld ?_
        refine zq 9 (some 63) ?_
        refine zq 10 (some 64) ?_
        refine zq 11 (some 65) ?_
        refine last_ (i := 12) (N := none) #[true, true, true, true, true, true, true, true, true, true, true, true, true] rfl rfl (by kernel_rfl) (by decide) (fun K hK => ?_)
        refine skip_ (w1 := ?_) (by rfl) rfl ?_ ?_
        rotate_left
        · go_simp
          rfl
        refine hK.out _ _ ?_
        clear hK K
        refine done_ (by kernel_rfl) ?_
        have HD := Aside0.mk (show Back w2 (((wr.setCell ⟨q f.name, 1, none⟩ (.int .i64 n)).drew).drew.setCell ⟨q f.name, 0, none⟩ (.slice A2 n.toNat c2)) p (More X w w1) s keep (i + 1) from ⟨hlt, by
          have hd := kept_done (w' := (((wr.setCell ⟨q f.name, 1, none⟩ (.int .i64 n)).drew).drew.setCell ⟨q f.name, 0, none⟩ (.slice A2 n.toNat c2))) HQ.out HFM.out HE.out (k := St.keepOf keep i) (by rw [HK.out]; omega) (n := n) (by have h1 := HK.out; have h2 := HM.out; omega) ((by repeat (with_reducible first | exact Upd.refl _ _ | apply Upd.set1 | apply Upd.alloc | apply Upd.drewN | apply Upd.drew))) (by simp only [heap_set, heap_drew, HF.out, Option.map_some] <;> rfl)
          rw [← HNX.out]
          exact PStep.trans HBK.out.st hd⟩)
        go_wp2
        go_roundw
        case rel => exact ⟨i + 1, by simp, HD.out⟩
        case measure => simp [intOf]; omega
    · have hi : i = s.all.length := by have := hb.le; omega
      subst hi
      obtain ⟨⟨mb, q, dv, h3⟩, hU⟩ := hb.st
      have H3 := Aside0.mk h3
      have HU := Aside0.mk hU
      have hp := h3.head
      unfold diskCells at hp
      have c0 := blk_cell hp 0
      have c1 := blk_cell hp 1
      have c2 := blk_cell hp 2
      have c3 := blk_cell hp 3
      have c4 := blk_cell hp 4
      have c5 := blk_cell hp 5
      have fc0 := blk_frozen hp 0
      have fc1 := blk_frozen hp 1
      have fc2 := blk_frozen hp 2
      have fc3 := blk_frozen hp 3
      have fc4 := blk_frozen hp 4
      have fc5 := blk_frozen hp 5
      simp only [List.getElem?_toArray, List.getElem?_cons_succ, List.getElem?_cons_zero] at c0 c1 c2 c3 c4 c5
      have hlt2 := blk_lt hp
      have HP := Aside0.mk hp
      clear h3 hU hp hb
      go_wp2
      first | go_end0 | ((try simp only [Exit.inBlock, Exit.then]); refine bodyPost_ret (results_none rfl _ _ _) rfl ?_)
      refine ⟨rfl, PStep.trans H1.out (PStep.trans (PStep.then_below (PStep.refl H1.out.1) HB.out) ?_)⟩
      exact PStep.trans (PStep.more_ HBK.out.st HB.out.size) ((H3.out.put (s' := s.restart keep) (part_all s.all keep).symm ((Upd.refl _ wr).set1 1 _) ((by simp only [heap_set, heap_drewN, heap_drew, heap_alloc_lt _ _ _ hlt2, HP.out, Option.map_some] <;> rfl))).more__ HB.out.size HBK.out.st.2.size)
end Go.Proofs.Ytfholpajdkjbbaa.DK
