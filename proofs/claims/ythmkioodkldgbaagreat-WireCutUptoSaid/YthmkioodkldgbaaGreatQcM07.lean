/- eddyref2.flat walked; conditions: those in each theorem. -/
import Derived.Test.YthmkioodkldgbaaGreatQcM06
namespace Go.Proofs.YthmkioodkldgbaaGreat.DK
open Go.Proofs.YthmkioodkldgbaaGreat.PD
open Go.RowKit Go.Proofs.YthmkioodkldgbaaGreatW.PrintWords Go.Proofs.YthmkioodkldgbaaGreatW.PrintLast Go.Proofs.YthmkioodkldgbaaGreatW.PrintMore
set_option linter.unusedVariables false
set_option linter.unusedSimpArgs false
structure FlatI (b0 : Nat) (w wr : World) (u0 : Value) (k m : Int) (t : ByteArray) (A : Option Addr) (c : Nat) (l : List S25) (d : Int) (r : List S204 × Int) (i : Nat) (u : Value) (xs : List S204) : Prop where
 le : i ≤ l.length
 box : wr.heap[w.heap.size]? = some (.cells #[.int .i64 k, .int .i64 m, .string t, .slice A l.length c] 24 (0, 0))
 own : k204.R 226 wr b0 (fun _ => True) u xs
 up : Upd (fun k => u0.ownBlock = some k) w wr
 at_ : u.ownBlock = u0.ownBlock ∨ ∃ b, u.ownBlock = some b ∧ w.heap.size ≤ b
 eq : flatL (l.drop i) d xs = r
 x12 : xs.length ≤ 12
def FlatE (b0 : Nat) (w : World) (u0 : Value) (k m : Int) (t : ByteArray) (A : Option Addr) (c : Nat) (l : List S25) (d : Int) (r : List S204 × Int) (lv iv : Value) (wr : World) : Prop := ∃ (i : Nat) (xs : List S204), iv = .int .i64 i ∧ FlatI b0 w wr u0 k m t A c l d r i lv xs
theorem at_trans {w0 w1 : World} {u0 u1 u2 : Value} (h : u1.ownBlock = u0.ownBlock ∨ ∃ b, u1.ownBlock = some b ∧ w0.heap.size ≤ b) (hle : w0.heap.size ≤ w1.heap.size) (k : u2.ownBlock = u1.ownBlock ∨ ∃ b, u2.ownBlock = some b ∧ w1.heap.size ≤ b) : u2.ownBlock = u0.ownBlock ∨ ∃ b, u2.ownBlock = some b ∧ w0.heap.size ≤ b := by
 rcases k with k | ⟨b, k, hb⟩
 ·rw [k]; exact h
 ·exact .inr ⟨b, k, Nat.le_trans hle hb⟩
theorem box_grown {b0 : Nat} {w w1 : World} {u : Value} {xs : List S204} {cs : Array Value} (ho : k204.R 226 w b0 (fun _ => True) u xs) (hg : (w.alloc (.cells cs 24)).grownBy w1 u.ownBlock) : w1.heap[w.heap.size]? = some (.cells cs 24 (0, 0)) :=
 (hg.block w.heap.size (by simp) (fun e => r204_ne (r204_below ho (below_alloc (Below.refl _ _) (.cells cs 24))) (heap_alloc_new w (.cells cs 24)) (show (24 : Nat) ≠ 226 by decide) e.symm)).trans (heap_alloc_new w _)
set_option maxHeartbeats 16000000 in
set_option maxRecDepth 100000 in
theorem flat_calls (b0 : Nat) (n : Nat) : ∀ (v : S25) (hn : SizeOf.sizeOf v ≤ n) (w0 w : World) (u : Value) (xs : List S204) (A : Option Addr) (c : Nat) (d : Int) (hu : k204.R 226 w b0 (fun _ => True) u xs) (hB : ∀ k, u.ownBlock = some k → w0.heap.size ≤ k) (hv : ValIn w0 w v.f3 A c) (hp1 : xs.length ≤ 12) (hd0 : 0 ≤ d) (hd3 : d ≤ 3) (hb0 : b0 ≤ w.heap.size),
  Calls Tryz.prog 151 #[.agg #[.int .i64 v.f0, .int .i64 v.f1, .string v.f2, .slice A v.f3.length c], .int .i64 d, u] w (FlatPost b0 w u (flatM v d xs)) := by
 induction n with
 | zero =>
  intro v hn
  obtain ⟨k, m, t, l⟩ := v
  simp at hn
 | succ n ih =>
  intro v hn w0 w u xs A c d hu hB hv hp1 hd0 hd3 hb0
  have HIH := Aside0.mk (fun (x : S25) (hx : x ∈ v.f3) => ih x (by have := size_mem hx; omega))
  have HV := Aside0.mk hv
  have HO := Aside0.mk hu
  have HBU := Aside0.mk hB
  rw [flatM_eq]
  obtain ⟨k, m, t, l⟩ := v
  dsimp only at HIH HV hv ⊢
  have hlen : l.length ≤ 9223372036854775807 := hv.r.2.1
  have hw2 := w64 (show -9223372036854775808 ≤ d + 1 by omega) (show d + 1 ≤ 9223372036854775807 by omega)
  have hu25 := Tryz.underlying24
  obtain ⟨AU, cu, rfl, hcu, -⟩ := Kd.R_reads hu
  clear hu hv hn ih hB
  unfold FlatPost
  by_cases c1 : 12 ≤ xs.length
  ·rw [if_pos c1]
   have c1i : (12 : Int) ≤ (xs.length : Int) := by omega
   go_enter Tryz.func151, Tryz.ntmps151
   go_wp2
   all_goals go_ret2
   all_goals exact ⟨_, rfl, r204_below HO.out (below_alloc (Below.refl _ _) _), (Upd.refl _ w).alloc _, .inl rfl⟩
  rw [if_neg c1]
  have c1i : ¬ (12 : Int) ≤ (xs.length : Int) := by omega
  by_cases hk1 : k < 0
  ·rw [if_pos (.inl hk1)]
   have e1 : (k != 1) = true := by simp; omega
   have e2 : (k != 2) = true := by simp; omega
   have e3 : (k != 3) = true := by simp; omega
   go_enter Tryz.func151, Tryz.ntmps151
   go_wp2
   all_goals go_ret2
   all_goals exact ⟨_, rfl, r204_below HO.out (below_alloc (Below.refl _ _) _), (Upd.refl _ w).alloc _, .inl rfl⟩
  by_cases hk2 : 3 < k
  ·rw [if_pos (.inr hk2)]
   have e1 : (k != 1) = true := by simp; omega
   have e2 : (k != 2) = true := by simp; omega
   have e3 : (k != 3) = true := by simp; omega
   go_enter Tryz.func151, Tryz.ntmps151
   go_wp2
   all_goals go_ret2
   all_goals exact ⟨_, rfl, r204_below HO.out (below_alloc (Below.refl _ _) _), (Upd.refl _ w).alloc _, .inl rfl⟩
  rw [if_neg (fun h => h.elim hk1 hk2)]
  have hk : k = 0 ∨ k = 1 ∨ k = 2 ∨ k = 3 := by omega
  clear hk1 hk2
  rcases hk with rfl | rfl | rfl | rfl
  ·skip
   by_cases hm : m = 0
   rotate_left
   ·rw [if_pos (.inl ⟨hm, by decide⟩)]
    go_enter Tryz.func151, Tryz.ntmps151
    go_wp2
    all_goals go_ret2
    all_goals exact ⟨_, rfl, r204_below HO.out (below_alloc (Below.refl _ _) _), (Upd.refl _ w).alloc _, .inl rfl⟩
   subst hm
   by_cases ht : t.toList = []
   rotate_left
   ·rw [if_pos (.inr (.inl ⟨ht, by decide⟩))]
    have hte : (!t.toList.isEmpty) = true := by simpa using ht
    clear ht
    go_enter Tryz.func151, Tryz.ntmps151
    go_wp2
    all_goals go_ret2
    all_goals exact ⟨_, rfl, r204_below HO.out (below_alloc (Below.refl _ _) _), (Upd.refl _ w).alloc _, .inl rfl⟩
   have hts := toList_size ht
   have hte : (!t.toList.isEmpty) = false := by simpa using ht
   have HT := Aside0.mk ht
   clear ht
   by_cases hl : 0 < l.length
   ·rw [if_pos (.inr (.inr ⟨hl, by decide⟩))]
    go_enter Tryz.func151, Tryz.ntmps151
    go_wp2
    all_goals go_ret2
    all_goals exact ⟨_, rfl, r204_below HO.out (below_alloc (Below.refl _ _) _), (Upd.refl _ w).alloc _, .inl rfl⟩
   rw [if_neg (fun h => h.elim (fun h => h.1 rfl) (fun h => h.elim (fun h => h.1 HT.out) (fun h => hl h.1)))]
   rw [if_neg (fun h => absurd h.1 (by decide))]
   rw [if_neg (show ¬ 24 < t.size by omega)]
   rw [if_neg (show ¬ 6 < l.length by omega)]
   obtain rfl : l = [] := List.length_eq_zero_iff.mp (by omega)
   go_enter Tryz.func151, Tryz.ntmps151
   go_wp2_with (first | ((with_reducible refine gate_builtin (b := .append) (xs := #[.tmp 79, .tmp 90]) rfl ?_); at_builtin; (refine Kd.R_append k204 (w0 := w) b0 rfl (.tmp 79) (.tmp 90) 221 226 (.agg #[(.int .i64 0), (.int .i64 0), (.string ⟨#[]⟩), (.int .i64 0)]) 40 rfl Tryz.underlying221 info204 rfl (by decide) (by omega) (.slice AU xs.length cu) xs (⟨0, 0, t, 0⟩ : S204) [.int .i64 0, .int .i64 0, .string t, .int .i64 0] (fun _ => True) (fun _ => False) rfl (by first | (go_simp; done) | (go_simp; rfl)) ?aP (fun _ hk => hk.elim) ?aF ?aO ?aB ?aS ?aL ?_; (case aP => exact k204_mkM _ _ _ (⟨0, 0, t, 0⟩ : S204)); (case aF => exact fun _ _ => trivial); (case aO => exact r204_below HO.out (below_alloc (Below.refl _ _) _)); (case aB => exact (below_alloc (Below.refl _ _) _).mono hb0); (case aS => exact Nat.le_trans hb0 (by simp)); (case aL => omega); (intro v1 w1 hO1 hb1 hg1 hat1; (have HO1 := Aside0.mk hO1); (have HU1 := Aside0.mk (((Upd.refl (fun k => (Value.slice AU xs.length cu).ownBlock = some k) w).alloc _).grown hg1 (fun k e => .inl e))); (have HA1 := Aside0.mk (at_trans (w0 := w) (.inl rfl) (by simp) hat1)); (have HBX1 := Aside0.mk (box_grown HO.out hg1); have hbx1 := HBX1.out); clear hO1 hb1 hg1 hat1))))
   go_loopw [2, 9] (fun lv iv wr => FlatE b0 w (.slice AU xs.length cu) 0 0 t A c [] (d + 1) (flatL [] (d + 1) (xs ++ [(⟨0, 0, t, 0⟩ : S204)])) lv iv wr) (fun lv iv _ => ([] : List S25).length - (intOf iv).toNat)
   case atStart => exact ⟨0, _, rfl, Nat.zero_le _, HBX1.out, HO1.out, HU1.out, HA1.out, rfl, by simp; omega⟩
   case round =>
    obtain ⟨i, ys, rfl, hle, hbox, hown, hup, hat, heq, h12⟩ := hrel
    obtain ⟨AY, cy, rfl, hcy, hRY⟩ := Kd.R_reads hown
    clear hRY
    have HBX := Aside0.mk hbox
    have HOW := Aside0.mk hown
    have HUP := Aside0.mk hup
    have HAT := Aside0.mk hat
    have hbl := blk_lt hbox
    have b3 : wr.cell? ⟨w.heap.size, 3, none⟩ = some (Value.slice A ([] : List S25).length c) := blk_cell hbox 3
    have hi : i = 0 := by simpa using hle
    subst hi
    rw [List.drop_nil, flatL_nil] at heq
    have HEQ := Aside0.mk heq
    clear heq hbox hown hup hat
    go_wp2
    go_ret2
    refine ⟨.slice AY ys.length cy, ?_, ?_, HUP.out, HAT.out⟩
    ·exact congrArg (fun r : List S204 × Int => Ending.returned (.tuple #[.slice AY ys.length cy, .int .i64 r.2])) HEQ.out
    ·exact (congrArg (fun r : List S204 × Int => k204.R 226 wr b0 (fun _ => True) (.slice AY ys.length cy) r.1) HEQ.out).mp HOW.out
  ·skip
   by_cases ht : t.toList = []
   rotate_left
   ·rw [if_pos (.inr (.inl ⟨ht, by decide⟩))]
    have hte : (!t.toList.isEmpty) = true := by simpa using ht
    clear ht
    go_enter Tryz.func151, Tryz.ntmps151
    go_wp2
    all_goals go_ret2
    all_goals exact ⟨_, rfl, r204_below HO.out (below_alloc (Below.refl _ _) _), (Upd.refl _ w).alloc _, .inl rfl⟩
   have hts := toList_size ht
   have hte : (!t.toList.isEmpty) = false := by simpa using ht
   have HT := Aside0.mk ht
   clear ht
   by_cases hl : 0 < l.length
   ·rw [if_pos (.inr (.inr ⟨hl, by decide⟩))]
    go_enter Tryz.func151, Tryz.ntmps151
    go_wp2
    all_goals go_ret2
    all_goals exact ⟨_, rfl, r204_below HO.out (below_alloc (Below.refl _ _) _), (Upd.refl _ w).alloc _, .inl rfl⟩
   rw [if_neg (fun h => h.elim (fun h => h.2 rfl) (fun h => h.elim (fun h => h.1 HT.out) (fun h => hl h.1)))]
   rw [if_neg (fun h => absurd h.1 (by decide))]
   rw [if_neg (show ¬ 24 < t.size by omega)]
   rw [if_neg (show ¬ 6 < l.length by omega)]
   by_cases hm : m = 0
   ·skip
    subst hm
    obtain rfl : l = [] := List.length_eq_zero_iff.mp (by omega)
    go_enter Tryz.func151, Tryz.ntmps151
    go_wp2_with (first | ((with_reducible refine gate_builtin (b := .append) (xs := #[.tmp 79, .tmp 90]) rfl ?_); at_builtin; (refine Kd.R_append k204 (w0 := w) b0 rfl (.tmp 79) (.tmp 90) 221 226 (.agg #[(.int .i64 0), (.int .i64 0), (.string ⟨#[]⟩), (.int .i64 0)]) 40 rfl Tryz.underlying221 info204 rfl (by decide) (by omega) (.slice AU xs.length cu) xs (⟨1, 0, t, 0⟩ : S204) [.int .i64 1, .int .i64 0, .string t, .int .i64 0] (fun _ => True) (fun _ => False) rfl (by first | (go_simp; done) | (go_simp; rfl)) ?aP (fun _ hk => hk.elim) ?aF ?aO ?aB ?aS ?aL ?_; (case aP => exact k204_mkM _ _ _ (⟨1, 0, t, 0⟩ : S204)); (case aF => exact fun _ _ => trivial); (case aO => exact r204_below HO.out (below_alloc (Below.refl _ _) _)); (case aB => exact (below_alloc (Below.refl _ _) _).mono hb0); (case aS => exact Nat.le_trans hb0 (by simp)); (case aL => omega); (intro v1 w1 hO1 hb1 hg1 hat1; (have HO1 := Aside0.mk hO1); (have HU1 := Aside0.mk (((Upd.refl (fun k => (Value.slice AU xs.length cu).ownBlock = some k) w).alloc _).grown hg1 (fun k e => .inl e))); (have HA1 := Aside0.mk (at_trans (w0 := w) (.inl rfl) (by simp) hat1)); (have HBX1 := Aside0.mk (box_grown HO.out hg1); have hbx1 := HBX1.out); clear hO1 hb1 hg1 hat1))))
    go_loopw [2, 9] (fun lv iv wr => FlatE b0 w (.slice AU xs.length cu) 1 0 t A c [] (d + 1) (flatL [] (d + 1) (xs ++ [(⟨1, 0, t, 0⟩ : S204)])) lv iv wr) (fun lv iv _ => ([] : List S25).length - (intOf iv).toNat)
    case atStart => exact ⟨0, _, rfl, Nat.zero_le _, HBX1.out, HO1.out, HU1.out, HA1.out, rfl, by simp; omega⟩
    case round =>
     obtain ⟨i, ys, rfl, hle, hbox, hown, hup, hat, heq, h12⟩ := hrel
     obtain ⟨AY, cy, rfl, hcy, hRY⟩ := Kd.R_reads hown
     clear hRY
     have HBX := Aside0.mk hbox
     have HOW := Aside0.mk hown
     have HUP := Aside0.mk hup
     have HAT := Aside0.mk hat
     have hbl := blk_lt hbox
     have b3 : wr.cell? ⟨w.heap.size, 3, none⟩ = some (Value.slice A ([] : List S25).length c) := blk_cell hbox 3
     have hi : i = 0 := by simpa using hle
     subst hi
     rw [List.drop_nil, flatL_nil] at heq
     have HEQ := Aside0.mk heq
     clear heq hbox hown hup hat
     go_wp2
     go_ret2
     refine ⟨.slice AY ys.length cy, ?_, ?_, HUP.out, HAT.out⟩
     ·exact congrArg (fun r : List S204 × Int => Ending.returned (.tuple #[.slice AY ys.length cy, .int .i64 r.2])) HEQ.out
     ·exact (congrArg (fun r : List S204 × Int => k204.R 226 wr b0 (fun _ => True) (.slice AY ys.length cy) r.1) HEQ.out).mp HOW.out
   ·skip
    obtain rfl : l = [] := List.length_eq_zero_iff.mp (by omega)
    go_enter Tryz.func151, Tryz.ntmps151
    go_wp2_with (first | ((with_reducible refine gate_builtin (b := .append) (xs := #[.tmp 79, .tmp 90]) rfl ?_); at_builtin; (refine Kd.R_append k204 (w0 := w) b0 rfl (.tmp 79) (.tmp 90) 221 226 (.agg #[(.int .i64 0), (.int .i64 0), (.string ⟨#[]⟩), (.int .i64 0)]) 40 rfl Tryz.underlying221 info204 rfl (by decide) (by omega) (.slice AU xs.length cu) xs (⟨1, m, t, 0⟩ : S204) [.int .i64 1, .int .i64 m, .string t, .int .i64 0] (fun _ => True) (fun _ => False) rfl (by first | (go_simp; done) | (go_simp; rfl)) ?aP (fun _ hk => hk.elim) ?aF ?aO ?aB ?aS ?aL ?_; (case aP => exact k204_mkM _ _ _ (⟨1, m, t, 0⟩ : S204)); (case aF => exact fun _ _ => trivial); (case aO => exact r204_below HO.out (below_alloc (Below.refl _ _) _)); (case aB => exact (below_alloc (Below.refl _ _) _).mono hb0); (case aS => exact Nat.le_trans hb0 (by simp)); (case aL => omega); (intro v1 w1 hO1 hb1 hg1 hat1; (have HO1 := Aside0.mk hO1); (have HU1 := Aside0.mk (((Upd.refl (fun k => (Value.slice AU xs.length cu).ownBlock = some k) w).alloc _).grown hg1 (fun k e => .inl e))); (have HA1 := Aside0.mk (at_trans (w0 := w) (.inl rfl) (by simp) hat1)); (have HBX1 := Aside0.mk (box_grown HO.out hg1); have hbx1 := HBX1.out); clear hO1 hb1 hg1 hat1))))
    go_loopw [2, 9] (fun lv iv wr => FlatE b0 w (.slice AU xs.length cu) 1 m t A c [] (d + 1) (flatL [] (d + 1) (xs ++ [(⟨1, m, t, 0⟩ : S204)])) lv iv wr) (fun lv iv _ => ([] : List S25).length - (intOf iv).toNat)
    case atStart => exact ⟨0, _, rfl, Nat.zero_le _, HBX1.out, HO1.out, HU1.out, HA1.out, rfl, by simp; omega⟩
    case round =>
     obtain ⟨i, ys, rfl, hle, hbox, hown, hup, hat, heq, h12⟩ := hrel
     obtain ⟨AY, cy, rfl, hcy, hRY⟩ := Kd.R_reads hown
     clear hRY
     have HBX := Aside0.mk hbox
     have HOW := Aside0.mk hown
     have HUP := Aside0.mk hup
     have HAT := Aside0.mk hat
     have hbl := blk_lt hbox
     have b3 : wr.cell? ⟨w.heap.size, 3, none⟩ = some (Value.slice A ([] : List S25).length c) := blk_cell hbox 3
     have hi : i = 0 := by simpa using hle
     subst hi
     rw [List.drop_nil, flatL_nil] at heq
     have HEQ := Aside0.mk heq
     clear heq hbox hown hup hat
     go_wp2
     go_ret2
     refine ⟨.slice AY ys.length cy, ?_, ?_, HUP.out, HAT.out⟩
     ·exact congrArg (fun r : List S204 × Int => Ending.returned (.tuple #[.slice AY ys.length cy, .int .i64 r.2])) HEQ.out
     ·exact (congrArg (fun r : List S204 × Int => k204.R 226 wr b0 (fun _ => True) (.slice AY ys.length cy) r.1) HEQ.out).mp HOW.out
  ·skip
   by_cases hm : m = 0
   rotate_left
   ·rw [if_pos (.inl ⟨hm, by decide⟩)]
    go_enter Tryz.func151, Tryz.ntmps151
    go_wp2
    all_goals go_ret2
    all_goals exact ⟨_, rfl, r204_below HO.out (below_alloc (Below.refl _ _) _), (Upd.refl _ w).alloc _, .inl rfl⟩
   subst hm
   by_cases hl : 0 < l.length
   ·rw [if_pos (.inr (.inr ⟨hl, by decide⟩))]
    go_enter Tryz.func151, Tryz.ntmps151
    go_wp2
    all_goals go_ret2
    all_goals exact ⟨_, rfl, r204_below HO.out (below_alloc (Below.refl _ _) _), (Upd.refl _ w).alloc _, .inl rfl⟩
   rw [if_neg (fun h => h.elim (fun h => h.1 rfl) (fun h => h.elim (fun h => h.2 rfl) (fun h => hl h.1)))]
   rw [if_neg (fun h => absurd h.1 (by decide))]
   by_cases h24 : 24 < t.size
   ·rw [if_pos h24]
    go_enter Tryz.func151, Tryz.ntmps151
    go_wp2
    all_goals go_ret2
    all_goals exact ⟨_, rfl, r204_below HO.out (below_alloc (Below.refl _ _) _), (Upd.refl _ w).alloc _, .inl rfl⟩
   rw [if_neg h24]
   rw [if_neg (show ¬ 6 < l.length by omega)]
   cases hte : (!t.toList.isEmpty)
   ·skip
    obtain rfl : l = [] := List.length_eq_zero_iff.mp (by omega)
    go_enter Tryz.func151, Tryz.ntmps151
    go_wp2_with (first | ((with_reducible refine gate_builtin (b := .append) (xs := #[.tmp 79, .tmp 90]) rfl ?_); at_builtin; (refine Kd.R_append k204 (w0 := w) b0 rfl (.tmp 79) (.tmp 90) 221 226 (.agg #[(.int .i64 0), (.int .i64 0), (.string ⟨#[]⟩), (.int .i64 0)]) 40 rfl Tryz.underlying221 info204 rfl (by decide) (by omega) (.slice AU xs.length cu) xs (⟨2, 0, t, 0⟩ : S204) [.int .i64 2, .int .i64 0, .string t, .int .i64 0] (fun _ => True) (fun _ => False) rfl (by first | (go_simp; done) | (go_simp; rfl)) ?aP (fun _ hk => hk.elim) ?aF ?aO ?aB ?aS ?aL ?_; (case aP => exact k204_mkM _ _ _ (⟨2, 0, t, 0⟩ : S204)); (case aF => exact fun _ _ => trivial); (case aO => exact r204_below HO.out (below_alloc (Below.refl _ _) _)); (case aB => exact (below_alloc (Below.refl _ _) _).mono hb0); (case aS => exact Nat.le_trans hb0 (by simp)); (case aL => omega); (intro v1 w1 hO1 hb1 hg1 hat1; (have HO1 := Aside0.mk hO1); (have HU1 := Aside0.mk (((Upd.refl (fun k => (Value.slice AU xs.length cu).ownBlock = some k) w).alloc _).grown hg1 (fun k e => .inl e))); (have HA1 := Aside0.mk (at_trans (w0 := w) (.inl rfl) (by simp) hat1)); (have HBX1 := Aside0.mk (box_grown HO.out hg1); have hbx1 := HBX1.out); clear hO1 hb1 hg1 hat1))))
    go_loopw [2, 9] (fun lv iv wr => FlatE b0 w (.slice AU xs.length cu) 2 0 t A c [] (d + 1) (flatL [] (d + 1) (xs ++ [(⟨2, 0, t, 0⟩ : S204)])) lv iv wr) (fun lv iv _ => ([] : List S25).length - (intOf iv).toNat)
    case atStart => exact ⟨0, _, rfl, Nat.zero_le _, HBX1.out, HO1.out, HU1.out, HA1.out, rfl, by simp; omega⟩
    case round =>
     obtain ⟨i, ys, rfl, hle, hbox, hown, hup, hat, heq, h12⟩ := hrel
     obtain ⟨AY, cy, rfl, hcy, hRY⟩ := Kd.R_reads hown
     clear hRY
     have HBX := Aside0.mk hbox
     have HOW := Aside0.mk hown
     have HUP := Aside0.mk hup
     have HAT := Aside0.mk hat
     have hbl := blk_lt hbox
     have b3 : wr.cell? ⟨w.heap.size, 3, none⟩ = some (Value.slice A ([] : List S25).length c) := blk_cell hbox 3
     have hi : i = 0 := by simpa using hle
     subst hi
     rw [List.drop_nil, flatL_nil] at heq
     have HEQ := Aside0.mk heq
     clear heq hbox hown hup hat
     go_wp2
     go_ret2
     refine ⟨.slice AY ys.length cy, ?_, ?_, HUP.out, HAT.out⟩
     ·exact congrArg (fun r : List S204 × Int => Ending.returned (.tuple #[.slice AY ys.length cy, .int .i64 r.2])) HEQ.out
     ·exact (congrArg (fun r : List S204 × Int => k204.R 226 wr b0 (fun _ => True) (.slice AY ys.length cy) r.1) HEQ.out).mp HOW.out
   ·skip
    obtain rfl : l = [] := List.length_eq_zero_iff.mp (by omega)
    go_enter Tryz.func151, Tryz.ntmps151
    go_wp2_with (first | ((with_reducible refine gate_builtin (b := .append) (xs := #[.tmp 79, .tmp 90]) rfl ?_); at_builtin; (refine Kd.R_append k204 (w0 := w) b0 rfl (.tmp 79) (.tmp 90) 221 226 (.agg #[(.int .i64 0), (.int .i64 0), (.string ⟨#[]⟩), (.int .i64 0)]) 40 rfl Tryz.underlying221 info204 rfl (by decide) (by omega) (.slice AU xs.length cu) xs (⟨2, 0, t, 0⟩ : S204) [.int .i64 2, .int .i64 0, .string t, .int .i64 0] (fun _ => True) (fun _ => False) rfl (by first | (go_simp; done) | (go_simp; rfl)) ?aP (fun _ hk => hk.elim) ?aF ?aO ?aB ?aS ?aL ?_; (case aP => exact k204_mkM _ _ _ (⟨2, 0, t, 0⟩ : S204)); (case aF => exact fun _ _ => trivial); (case aO => exact r204_below HO.out (below_alloc (Below.refl _ _) _)); (case aB => exact (below_alloc (Below.refl _ _) _).mono hb0); (case aS => exact Nat.le_trans hb0 (by simp)); (case aL => omega); (intro v1 w1 hO1 hb1 hg1 hat1; (have HO1 := Aside0.mk hO1); (have HU1 := Aside0.mk (((Upd.refl (fun k => (Value.slice AU xs.length cu).ownBlock = some k) w).alloc _).grown hg1 (fun k e => .inl e))); (have HA1 := Aside0.mk (at_trans (w0 := w) (.inl rfl) (by simp) hat1)); (have HBX1 := Aside0.mk (box_grown HO.out hg1); have hbx1 := HBX1.out); clear hO1 hb1 hg1 hat1))))
    go_loopw [2, 9] (fun lv iv wr => FlatE b0 w (.slice AU xs.length cu) 2 0 t A c [] (d + 1) (flatL [] (d + 1) (xs ++ [(⟨2, 0, t, 0⟩ : S204)])) lv iv wr) (fun lv iv _ => ([] : List S25).length - (intOf iv).toNat)
    case atStart => exact ⟨0, _, rfl, Nat.zero_le _, HBX1.out, HO1.out, HU1.out, HA1.out, rfl, by simp; omega⟩
    case round =>
     obtain ⟨i, ys, rfl, hle, hbox, hown, hup, hat, heq, h12⟩ := hrel
     obtain ⟨AY, cy, rfl, hcy, hRY⟩ := Kd.R_reads hown
     clear hRY
     have HBX := Aside0.mk hbox
     have HOW := Aside0.mk hown
     have HUP := Aside0.mk hup
     have HAT := Aside0.mk hat
     have hbl := blk_lt hbox
     have b3 : wr.cell? ⟨w.heap.size, 3, none⟩ = some (Value.slice A ([] : List S25).length c) := blk_cell hbox 3
     have hi : i = 0 := by simpa using hle
     subst hi
     rw [List.drop_nil, flatL_nil] at heq
     have HEQ := Aside0.mk heq
     clear heq hbox hown hup hat
     go_wp2
     go_ret2
     refine ⟨.slice AY ys.length cy, ?_, ?_, HUP.out, HAT.out⟩
     ·exact congrArg (fun r : List S204 × Int => Ending.returned (.tuple #[.slice AY ys.length cy, .int .i64 r.2])) HEQ.out
     ·exact (congrArg (fun r : List S204 × Int => k204.R 226 wr b0 (fun _ => True) (.slice AY ys.length cy) r.1) HEQ.out).mp HOW.out
  ·skip
   by_cases hm : m = 0
   rotate_left
   ·rw [if_pos (.inl ⟨hm, by decide⟩)]
    go_enter Tryz.func151, Tryz.ntmps151
    go_wp2
    all_goals go_ret2
    all_goals exact ⟨_, rfl, r204_below HO.out (below_alloc (Below.refl _ _) _), (Upd.refl _ w).alloc _, .inl rfl⟩
   subst hm
   by_cases ht : t.toList = []
   rotate_left
   ·rw [if_pos (.inr (.inl ⟨ht, by decide⟩))]
    have hte : (!t.toList.isEmpty) = true := by simpa using ht
    clear ht
    go_enter Tryz.func151, Tryz.ntmps151
    go_wp2
    all_goals go_ret2
    all_goals exact ⟨_, rfl, r204_below HO.out (below_alloc (Below.refl _ _) _), (Upd.refl _ w).alloc _, .inl rfl⟩
   have hts := toList_size ht
   have hte : (!t.toList.isEmpty) = false := by simpa using ht
   have HT := Aside0.mk ht
   clear ht
   rw [if_neg (fun h => h.elim (fun h => h.1 rfl) (fun h => h.elim (fun h => h.1 HT.out) (fun h => h.2 rfl)))]
   by_cases hd : 3 ≤ d
   ·rw [if_pos ⟨rfl, hd⟩]
    go_enter Tryz.func151, Tryz.ntmps151
    go_wp2
    all_goals go_ret2
    all_goals exact ⟨_, rfl, r204_below HO.out (below_alloc (Below.refl _ _) _), (Upd.refl _ w).alloc _, .inl rfl⟩
   rw [if_neg (fun h => hd h.2)]
   rw [if_neg (show ¬ 24 < t.size by omega)]
   by_cases h6 : 6 < l.length
   ·rw [if_pos h6]
    go_enter Tryz.func151, Tryz.ntmps151
    go_wp2
    all_goals go_ret2
    all_goals exact ⟨_, rfl, r204_below HO.out (below_alloc (Below.refl _ _) _), (Upd.refl _ w).alloc _, .inl rfl⟩
   rw [if_neg h6]
   by_cases hl : 0 < l.length
   ·skip
    go_enter Tryz.func151, Tryz.ntmps151
    go_wp2_with (first | ((with_reducible refine gate_builtin (b := .append) (xs := #[.tmp 79, .tmp 90]) rfl ?_); at_builtin; (refine Kd.R_append k204 (w0 := w) b0 rfl (.tmp 79) (.tmp 90) 221 226 (.agg #[(.int .i64 0), (.int .i64 0), (.string ⟨#[]⟩), (.int .i64 0)]) 40 rfl Tryz.underlying221 info204 rfl (by decide) (by omega) (.slice AU xs.length cu) xs (⟨3, 0, t, (l.length : Int)⟩ : S204) [.int .i64 3, .int .i64 0, .string t, .int .i64 (l.length : Int)] (fun _ => True) (fun _ => False) rfl (by first | (go_simp; done) | (go_simp; rfl)) ?aP (fun _ hk => hk.elim) ?aF ?aO ?aB ?aS ?aL ?_; (case aP => exact k204_mkM _ _ _ (⟨3, 0, t, (l.length : Int)⟩ : S204)); (case aF => exact fun _ _ => trivial); (case aO => exact r204_below HO.out (below_alloc (Below.refl _ _) _)); (case aB => exact (below_alloc (Below.refl _ _) _).mono hb0); (case aS => exact Nat.le_trans hb0 (by simp)); (case aL => omega); (intro v1 w1 hO1 hb1 hg1 hat1; (have HO1 := Aside0.mk hO1); (have HU1 := Aside0.mk (((Upd.refl (fun k => (Value.slice AU xs.length cu).ownBlock = some k) w).alloc _).grown hg1 (fun k e => .inl e))); (have HA1 := Aside0.mk (at_trans (w0 := w) (.inl rfl) (by simp) hat1)); (have HBX1 := Aside0.mk (box_grown HO.out hg1); have hbx1 := HBX1.out); clear hO1 hb1 hg1 hat1))))
    go_loopw [2, 9] (fun lv iv wr => FlatE b0 w (.slice AU xs.length cu) 3 0 t A c l (d + 1) (flatL l (d + 1) (xs ++ [(⟨3, 0, t, (l.length : Int)⟩ : S204)])) lv iv wr) (fun lv iv _ => l.length - (intOf iv).toNat)
    case atStart => exact ⟨0, _, rfl, Nat.zero_le _, HBX1.out, HO1.out, HU1.out, HA1.out, rfl, by simp; omega⟩
    case round =>
     obtain ⟨i, ys, rfl, hle, hbox, hown, hup, hat, heq, h12⟩ := hrel
     obtain ⟨AY, cy, rfl, hcy, hRY⟩ := Kd.R_reads hown
     clear hRY
     have HBX := Aside0.mk hbox
     have HOW := Aside0.mk hown
     have HUP := Aside0.mk hup
     have HAT := Aside0.mk hat
     have hbl := blk_lt hbox
     have b3 : wr.cell? ⟨w.heap.size, 3, none⟩ = some (Value.slice A l.length c) := blk_cell hbox 3
     by_cases hlt : i < l.length
     ·skip
      obtain ⟨ad, A3, c3, rfl, hcell, hvi⟩ := HV.out.at hlt
      have hdrop : l.drop i = l[i] :: l.drop (i + 1) := List.drop_eq_getElem_cons hlt
      have HX := Aside0.mk (List.getElem_mem hlt)
      have hub : Below w0.heap.size w wr := hup.below HV.out.b.size (fun q e => HBU.out q e)
      have hBi : ∀ k, (Value.slice AY ys.length cy).ownBlock = some k → w0.heap.size ≤ k := fun k e => hat.elim (fun h => HBU.out k (h ▸ e)) (fun ⟨b, hb, hle⟩ => by rw [hb] at e; injection e with e; have := HV.out.b.size; omega)
      obtain ⟨d0, d1, d2, d3⟩ := hcell wr hub
      rw [hdrop, flatL_cons] at heq
      have HEQ := Aside0.mk heq
      have HIX := Aside0.mk (fun (W : World) (hw : Below wr.heap.size wr W) => HIH.out l[i] HX.out w0 W (.slice AY ys.length cy) ys A3 c3 (d + 1) (r204_below HOW.out hw) hBi (hvi.below (hub.trans (hw.mono (Nat.le_trans HV.out.b.size hup.size)))) h12 (by omega) (by omega) (Nat.le_trans hb0 (Nat.le_trans hup.size hw.size)))
      have HGE := Aside0.mk (flatM_le l[i] (d + 1) ys)
      have HNE := Aside0.mk (r204_ne hown hbox (by decide))
      clear hcell hvi hub hbox hown hup hat hBi heq hdrop HIH
      generalize l[i] = x at *
      go_wp2_with fail
      refine (HIX.out _ ?hw).mono ?_
      case hw => repeat (with_reducible first | exact Below.refl _ _ | apply below_drew | apply pw_below_drewN | apply below_alloc)
      rintro e w5 ⟨u5, rfl, hO5, hu5, hat5⟩
      have HO5 := Aside0.mk hO5
      have HBX5 := Aside0.mk (blk_upd HBX.out hu5 HNE.out)
      have HU5 := Aside0.mk (HUP.out.seq (hu5.mono (fun b hb e => HAT.out.elim (fun h => .inl (h ▸ e)) (fun ⟨b', hb', hle'⟩ => .inr (by rw [hb'] at e; injection e with e; omega)))))
      have HAT5 := Aside0.mk (at_trans HAT.out HUP.out.size hat5)
      clear hO5 hu5 hat5
      by_cases hz : (flatM x (d + 1) ys).2 = 0
      ·have HE2 := Aside0.mk HEQ.out
       rw [if_neg (fun h => h hz)] at HE2
       rw [hz]
       clear hz
       go_wp2
       go_roundw
       case rel => exact ⟨i + 1, _, by simp, hlt, HBX5.out, HO5.out, HU5.out, HAT5.out, HE2.out, HGE.out.2 h12⟩
       case measure => simp [intOf]; omega
      ·have HE2 := Aside0.mk HEQ.out
       rw [if_pos hz] at HE2
       generalize flatM x (d + 1) ys = rr at *
       have hb : (rr.2 != 0) = true := by simpa using hz
       clear hz
       go_wp2
       go_ret2
       refine ⟨u5, ?_, ?_, HU5.out, HAT5.out⟩
       ·exact congrArg (fun r : List S204 × Int => Ending.returned (.tuple #[u5, .int .i64 r.2])) HE2.out
       ·exact (congrArg (fun r : List S204 × Int => k204.R 226 w5 b0 (fun _ => True) u5 r.1) HE2.out).mp HO5.out
     ·have hi : i = l.length := by omega
      rw [hi, List.drop_length, flatL_nil] at heq
      have hir : ¬ (i : Int) < (l.length : Int) := by omega
      have HEQ := Aside0.mk heq
      clear heq hbox hown hup hat
      go_wp2
      go_ret2
      refine ⟨.slice AY ys.length cy, ?_, ?_, HUP.out, HAT.out⟩
      ·exact congrArg (fun r : List S204 × Int => Ending.returned (.tuple #[.slice AY ys.length cy, .int .i64 r.2])) HEQ.out
      ·exact (congrArg (fun r : List S204 × Int => k204.R 226 wr b0 (fun _ => True) (.slice AY ys.length cy) r.1) HEQ.out).mp HOW.out
   ·skip
    obtain rfl : l = [] := List.length_eq_zero_iff.mp (by omega)
    go_enter Tryz.func151, Tryz.ntmps151
    go_wp2_with (first | ((with_reducible refine gate_builtin (b := .append) (xs := #[.tmp 79, .tmp 90]) rfl ?_); at_builtin; (refine Kd.R_append k204 (w0 := w) b0 rfl (.tmp 79) (.tmp 90) 221 226 (.agg #[(.int .i64 0), (.int .i64 0), (.string ⟨#[]⟩), (.int .i64 0)]) 40 rfl Tryz.underlying221 info204 rfl (by decide) (by omega) (.slice AU xs.length cu) xs (⟨3, 0, t, 0⟩ : S204) [.int .i64 3, .int .i64 0, .string t, .int .i64 0] (fun _ => True) (fun _ => False) rfl (by first | (go_simp; done) | (go_simp; rfl)) ?aP (fun _ hk => hk.elim) ?aF ?aO ?aB ?aS ?aL ?_; (case aP => exact k204_mkM _ _ _ (⟨3, 0, t, 0⟩ : S204)); (case aF => exact fun _ _ => trivial); (case aO => exact r204_below HO.out (below_alloc (Below.refl _ _) _)); (case aB => exact (below_alloc (Below.refl _ _) _).mono hb0); (case aS => exact Nat.le_trans hb0 (by simp)); (case aL => omega); (intro v1 w1 hO1 hb1 hg1 hat1; (have HO1 := Aside0.mk hO1); (have HU1 := Aside0.mk (((Upd.refl (fun k => (Value.slice AU xs.length cu).ownBlock = some k) w).alloc _).grown hg1 (fun k e => .inl e))); (have HA1 := Aside0.mk (at_trans (w0 := w) (.inl rfl) (by simp) hat1)); (have HBX1 := Aside0.mk (box_grown HO.out hg1); have hbx1 := HBX1.out); clear hO1 hb1 hg1 hat1))))
    go_loopw [2, 9] (fun lv iv wr => FlatE b0 w (.slice AU xs.length cu) 3 0 t A c [] (d + 1) (flatL [] (d + 1) (xs ++ [(⟨3, 0, t, 0⟩ : S204)])) lv iv wr) (fun lv iv _ => ([] : List S25).length - (intOf iv).toNat)
    case atStart => exact ⟨0, _, rfl, Nat.zero_le _, HBX1.out, HO1.out, HU1.out, HA1.out, rfl, by simp; omega⟩
    case round =>
     obtain ⟨i, ys, rfl, hle, hbox, hown, hup, hat, heq, h12⟩ := hrel
     obtain ⟨AY, cy, rfl, hcy, hRY⟩ := Kd.R_reads hown
     clear hRY
     have HBX := Aside0.mk hbox
     have HOW := Aside0.mk hown
     have HUP := Aside0.mk hup
     have HAT := Aside0.mk hat
     have hbl := blk_lt hbox
     have b3 : wr.cell? ⟨w.heap.size, 3, none⟩ = some (Value.slice A ([] : List S25).length c) := blk_cell hbox 3
     have hi : i = 0 := by simpa using hle
     subst hi
     rw [List.drop_nil, flatL_nil] at heq
     have HEQ := Aside0.mk heq
     clear heq hbox hown hup hat
     go_wp2
     go_ret2
     refine ⟨.slice AY ys.length cy, ?_, ?_, HUP.out, HAT.out⟩
     ·exact congrArg (fun r : List S204 × Int => Ending.returned (.tuple #[.slice AY ys.length cy, .int .i64 r.2])) HEQ.out
     ·exact (congrArg (fun r : List S204 × Int => k204.R 226 wr b0 (fun _ => True) (.slice AY ys.length cy) r.1) HEQ.out).mp HOW.out
end Go.Proofs.YthmkioodkldgbaaGreat.DK
/- eddyref2.Check; conditions: those in each theorem. -/
namespace Go.Proofs.YthmkioodkldgbaaGreat.PD
open Go.RowKit Go.Proofs.YthmkioodkldgbaaGreatW.PrintWords Go.Proofs.YthmkioodkldgbaaGreatW.PrintLast Go.Proofs.YthmkioodkldgbaaGreatW.PrintMore
open Go.Proofs.YthmkioodkldgbaaGreat.DK
set_option linter.unusedVariables false
set_option linter.unusedSimpArgs false
def eddyref2_Check.f (a0_0 a0_1 : Int) (a0_2 : ByteArray) (l0_3 : List S25) : Option Int := some (chk ⟨a0_0, a0_1, a0_2, l0_3⟩ 0 0).2
set_option maxHeartbeats 16000000 in
set_option maxRecDepth 100000 in
theorem eddyref2_Check.calls (a0_0 : Int) (a0_1 : Int) (a0_2 : ByteArray) (A0_3 : Option Addr) (c0_3 : Nat) (l0_3 : List (S25)) (r : Int) (w : World) (hr0_3 : Kd.C k25 w A0_3 l0_3.length l0_3) (hc0_3 : l0_3.length ≤ c0_3) (h : eddyref2_Check.f a0_0 a0_1 a0_2 l0_3 = some r) :
  Calls Tryz.prog 138 #[.agg #[.int .i64 a0_0, .int .i64 a0_1, .string a0_2, .slice A0_3 l0_3.length c0_3]] w fun e w' => e = .returned (.int .i64 r) ∧ Below w.heap.size w w' := by
 have HF := Aside0.mk (flat_chk ⟨a0_0, a0_1, a0_2, l0_3⟩ 0 [] (by decide)).1
 obtain rfl := Option.some.inj h
 have hu25 := Tryz.underlying24
 have HV := Aside0.mk (ValIn.now hr0_3 hc0_3)
 clear h hr0_3 hc0_3
 go_enter Tryz.func138, Tryz.ntmps138
 go_wp2_with fail
 refine (flat_calls 0 _ ⟨a0_0, a0_1, a0_2, l0_3⟩ (Nat.le_refl _) w _ (.slice none 0 0) [] A0_3 c0_3 0 (Kd.R_nil _ _ _ _ _) (fun k e => by simp [Value.ownBlock] at e) (HV.out.below (below_alloc (Below.refl _ _) _)) (by decide) (by omega) (by omega) (Nat.zero_le _)).mono ?_
 rintro e w1 ⟨u, rfl, ho, hu, -⟩
 have HB := Aside0.mk (show Below w.heap.size w w1 from (below_alloc (Below.refl _ _) _).trans (hu.below (by simp) (fun k e => by simp [Value.ownBlock] at e)))
 clear hu ho
 go_wp2
 go_ret
 exact ⟨by rw [HF.out]; rfl, HB.out⟩
end Go.Proofs.YthmkioodkldgbaaGreat.PD
/- The forms as trees; what a form lays down out of a bag; conditions: those in each theorem. (Plain Lean.) -/
namespace Go.Proofs.YthmkioodkldgbaaGreat.DK
open Go.Proofs.YthmkioodkldgbaaGreat.PD
open Go.RowKit Go.Proofs.YthmkioodkldgbaaGreatW.PrintWords Go.Proofs.YthmkioodkldgbaaGreatW.PrintLast Go.Proofs.YthmkioodkldgbaaGreatW.PrintMore
set_option linter.unusedVariables false
/-- A form: a capital letter, a key, a value, a word, a number (its letter), a list (do its keys rise? the letter of its bound, what each is). -/
inductive Form where
 | mark (c : Int)
 | key
 | val
 | word
 | num (c : Int)
 | list (rise : Bool) (c : Int) (fs : List Form)
mutual
/-- Its letters are such. -/
def Form.Ok : Form → Prop
 | .mark c => 65 ≤ c ∧ c ≤ 90
 | .key => True
 | .val => True
 | .word => True
 | .num c => 97 ≤ c ∧ c ≤ 122 ∧ c ≠ 107 ∧ c ≠ 118 ∧ c ≠ 119
 | .list r c fs => (97 ≤ c ∧ c ≤ 122 ∧ c ≠ 118 ∧ c ≠ 119) ∧ OkF fs
def OkF : List Form → Prop
 | [] => True
 | f :: fs => f.Ok ∧ OkF fs
end
/-- What is left in a bag. -/
structure Left where
 n : List Int
 k : List ByteArray
 v : List S25
def iter (g : Left → Option (List Int × Left)) : Nat → Left → Option (List Int × Left)
 | 0, st => some ([], st)
 | m + 1, st => (g st).bind fun r => (iter g m r.2).bind fun q => some (r.1 ++ q.1, q.2)
noncomputable instance (v : S25) : Decidable (okV v) := Classical.propDecidable _
mutual
/-- What a form lays down, and what is left then. -/
noncomputable def Form.wr : Form → Left → Option (List Int × Left)
 | .mark c, st => some ([c], st)
 | .key, st => match st.k with
  | [] => none
  | x :: l => if x.size ≤ 140737488355328 then some (keyB x, { st with k := l }) else none
 | .val, st => match st.v with
  | [] => none
  | x :: l => if okV x then some (encM x, { st with v := l }) else none
 | .word, st => match st.n with
  | [] => none
  | x :: l => if 0 ≤ x ∧ x ≤ 4294967295 then some (Go.Proofs.YthmkioodkldgbaaGreat.DK.word x, { st with n := l }) else none
 | .num c, st => match st.n with
  | [] => none
  | x :: l => if 0 ≤ x ∧ x ≤ 9223372036854775807 then some (grp x, { st with n := l }) else none
 | .list r c fs, st => match st.n with
  | [] => none
  | x :: l => if 0 ≤ x ∧ x ≤ 9223372036854775807 then (iter (wrs fs) x.toNat { st with n := l }).bind fun q => some (grp x ++ q.1, q.2) else none
noncomputable def wrs : List Form → Left → Option (List Int × Left)
 | [], st => some ([], st)
 | f :: fs, st => (f.wr st).bind fun r => (wrs fs r.2).bind fun q => some (r.1 ++ q.1, q.2)
end
end Go.Proofs.YthmkioodkldgbaaGreat.DK
