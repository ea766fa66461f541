/- value.valid, value.Encode, wire.putValue; conditions: those in each theorem. -/
import Derived.Test.YthmkioodkldgbaaGreatQcM05
namespace Go.Proofs.YthmkioodkldgbaaGreat.DK
open Go.Proofs.YthmkioodkldgbaaGreat.PD
open Go.RowKit Go.Proofs.YthmkioodkldgbaaGreatW.PrintWords Go.Proofs.YthmkioodkldgbaaGreatW.PrintLast Go.Proofs.YthmkioodkldgbaaGreatW.PrintMore
set_option linter.unusedVariables false
set_option linter.unusedSimpArgs false
set_option maxRecDepth 100000
theorem grp_len10 {n : Int} (h : n < 18446744073709551616) : (grp n).length ≤ 10 := grpN_len 9 n.toNat (by omega)
mutual
/-- How long a valid value's bytes are. -/
theorem encM_len : ∀ (v : S25) (d p : Int), okS v → (chk v d p).2 = 0 → ((encM v).length : Int) + 26 * p ≤ 26 * (chk v d p).1
 | ⟨k, n, t, l⟩, d, p, ho, h => by
  rw [okS_eq] at ho
  rw [chk_eq] at h ⊢
  rw [encM_eq]
  dsimp only at h ⊢ ho
  split at h
  ·simp at h
  split at h
  ·simp at h
  split at h
  ·simp at h
  split at h
  ·simp at h
  split at h
  ·simp at h
  split at h
  ·simp at h
  rename_i h1 h2 h3 h4 h5 h6
  rw [if_neg h1, if_neg h2, if_neg h3, if_neg h4, if_neg h5, if_neg h6]
  have hge := chkL_ge l (d + 1) (p + 1)
  split
  ·have h := grp_len10 (n := zz n) (by unfold zz; split <;> omega)
   simp only [List.length_cons]
   omega
  split
  ·have h := bytesOf_length t
   simp only [List.length_cons]
   omega
  split
  ·have hh := encL_len l (d + 1) (p + 1) ho.2.2 h
   simp only [List.length_cons]
   omega
  ·simp only [List.length_singleton]
   omega
theorem encL_len : ∀ (l : List S25) (d p : Int), okL l → (chkL l d p).2 = 0 → ((encL l).length : Int) + 26 * p ≤ 26 * (chkL l d p).1
 | [], d, p, _, _ => by rw [encL_nil, chkL_nil]; simp
 | x :: l, d, p, ho, h => by
  rw [okL] at ho
  rw [chkL_cons] at h ⊢
  rw [encL_cons]
  split at h
  ·rename_i hz
   exact absurd h hz
  ·rename_i hz
   rw [if_neg hz]
   have h1 := encM_len x d p ho.1 (by omega)
   have h2 := encL_len l d _ ho.2 h
   simp only [List.length_append]
   omega
end
/-- A value that the walk finds no fault in. -/
def okV (v : S25) : Prop := okS v ∧ (chk v 0 0).2 = 0
theorem okV_len {v : S25} (h : okV v) : (encM v).length ≤ 312 := by
 have h1 := encM_len v 0 0 h.1 h.2
 have h2 := (chk_ge v 0 0).2 h.2
 omega
set_option maxHeartbeats 4000000 in
theorem valid_calls (v : S25) (w : World) (A : Option Addr) (c : Nat) (hr : k25.C w A v.f3.length v.f3) (hc : v.f3.length ≤ c) (hk : (chk v 0 0).2 = 0) :
  Calls Tryz.prog 147 #[.agg #[.int .i64 v.f0, .int .i64 v.f1, .string v.f2, .slice A v.f3.length c]] w fun e w' => e = .returned (.agg #[.int .i64 v.f0, .int .i64 v.f1, .string v.f2, .slice A v.f3.length c]) ∧ Below w.heap.size w w' := by
 obtain ⟨k, m, t, l⟩ := v
 dsimp only at hr hc ⊢
 have HC := Aside0.mk (fun (W : World) (hb : Below w.heap.size w W) => value_Check.calls k m t A c l 0 W (Kd.C_below hr hb) hc (by unfold value_Check.f; rw [hk]))
 clear hr hk
 go_enter Tryz.func147, Tryz.ntmps147
 go_wp2_with fail
 refine (HC.out _ ?hw).mono ?_
 case hw => repeat (with_reducible first | exact Below.refl _ _ | apply below_drew | apply pw_below_drewN | apply below_alloc)
 rintro e w1 ⟨rfl, hb⟩
 have HB := Aside0.mk (show Below w.heap.size w w1 from (below_alloc (below_alloc (Below.refl _ _) _) _).trans (hb.mono (by simp; omega)))
 have hx1 := (hb.block w.heap.size (by simp; omega)).trans ((Below.heap_alloc _ _ _ (by simp)).trans (heap_alloc_new w (.cells #[.int .i64 k, .int .i64 m, .string t, .slice A l.length c] 24)))
 have hx2 := (hb.block (w.heap.size + 1) (by simp)).trans (new2 w _ _)
 have HX1 := Aside0.mk hx1
 have HX2 := Aside0.mk hx2
 have m0 := blk_cell hx1 0
 have m1 := blk_cell hx1 1
 have m2 := blk_cell hx1 2
 have m3 := blk_cell hx1 3
 have n0 := blk_cell hx2 0
 have n1 := blk_cell hx2 1
 have n2 := blk_cell hx2 2
 have n3 := blk_cell hx2 3
 have f0 := blk_frozen hx2 0
 have f1 := blk_frozen hx2 1
 have f2 := blk_frozen hx2 2
 have f3 := blk_frozen hx2 3
 simp only [List.getElem?_toArray, List.getElem?_cons_succ, List.getElem?_cons_zero] at m0 m1 m2 m3 n0 n1 n2 n3 f0 f1 f2 f3
 have hz : w.heap.size + 1 < w1.heap.size := blk_lt hx2
 clear hx1 hx2 hb
 go_wp2
 refine bodyPost_ret (results_single rfl (.cell (w.heap.size + 1) 24 #[.int .i64 k, .int .i64 m, .string t, .slice A l.length c] (0, 0) _ rfl (by simp only [heap_set, HX2.out, Option.map_some]; rfl) Tryz.underlying24 rfl (by kernel_rfl) .nil)) rfl ⟨rfl, ?_⟩
 exact ((((Below.setCell HB.out (by simp) _).setCell (by simp) _).setCell (by simp) _).setCell (by simp) _)
set_option maxHeartbeats 4000000 in
theorem Encode_calls (v : S25) (w : World) (A : Option Addr) (c : Nat) (hr : k25.C w A v.f3.length v.f3) (hc : v.f3.length ≤ c) (hk : okV v) :
  Calls Tryz.prog 131 #[.agg #[.int .i64 v.f0, .int .i64 v.f1, .string v.f2, .slice A v.f3.length c]] w (Bytes5 w (encM v)) := by
 have HC := Aside0.mk (fun (W : World) (hb : Below w.heap.size w W) => valid_calls v W A c (Kd.C_below hr hb) hc hk.2)
 have HV := Aside0.mk (ValIn.now hr hc)
 have hle := okV_len hk
 clear hr
 unfold Bytes5
 go_enter Tryz.func131, Tryz.ntmps131
 go_wp2_with fail
 refine (HC.out _ ?hw).mono ?_
 case hw => repeat (with_reducible first | exact Below.refl _ _ | apply below_drew | apply pw_below_drewN | apply below_alloc)
 rintro e w1 ⟨rfl, hb⟩
 have HB := Aside0.mk (show Below w.heap.size w w1 from (below_alloc (Below.refl _ _) _).trans (hb.mono (by simp)))
 clear hb
 go_wp2_with fail
 refine (encode_calls w.heap.size _ v (Nat.le_refl _) hk.1 w _ (.slice none 0 0) [] A c (R5.nil _ _) (Nat.le_refl _) HB.out.size (HV.out.below HB.out) (by simp; omega)).mono ?_
 rintro e w2 ⟨u, rfl, h1, h2⟩
 have HR := Aside0.mk h1
 have HU := Aside0.mk h2
 clear h1 h2
 go_wp2
 go_ret
 exact ⟨u, rfl, by have h := HR.out; rwa [List.nil_append] at h, HB.out.trans (HU.out.below HB.out.size)⟩
set_option maxHeartbeats 4000000 in
theorem putValue_calls (b : Nat) (w : World) (u : Value) (xs : List Int) (v : S25) (A : Option Addr) (c : Nat) (HO : R5 b w u xs) (hb : b ≤ w.heap.size) (hr : k25.C w A v.f3.length v.f3) (hc : v.f3.length ≤ c) (hk : okV v) (hl : (xs ++ encM v).length ≤ 140737488355328) :
  Calls Tryz.prog 99 #[u, .agg #[.int .i64 v.f0, .int .i64 v.f1, .string v.f2, .slice A v.f3.length c]] w (Ext b w (xs ++ encM v)) := by
 have HC := Aside0.mk (fun (W : World) (hb : Below w.heap.size w W) => Encode_calls v W A c (Kd.C_below hr hb) hc hk)
 have HR := Aside0.mk HO
 have hl2 : xs.length + (encM v).length ≤ 140737488355328 := by simpa using hl
 clear hr HO
 unfold Ext
 go_enter Tryz.func99, Tryz.ntmps99
 go_wp2_with fail
 refine (HC.out _ ?hw).mono ?_
 case hw => repeat (with_reducible first | exact Below.refl _ _ | apply below_drew | apply pw_below_drewN | apply below_alloc)
 rintro e w1 ⟨q, rfl, h1, h2⟩
 have HB := Aside0.mk (show Below w.heap.size w w1 from (below_alloc (Below.refl _ _) _).trans (h2.mono (by simp)))
 have HQ := Aside0.mk h1
 clear h1 h2
 go_wp2_with (at_builtin; refine appOwn rfl (.tmp 5) (.tmp 7) rfl u q xs (encM v) rfl rfl (HR.out.below HB.out) HQ.out (Nat.le_trans hb HB.out.size) hl2 ?_; intro v1 w2 h1 h2; (have HR1 := Aside0.mk h1); (have HU1 := Aside0.mk ((U5.of_below HB.out).trans h2)); clear h1 h2)
 go_ret
 exact ⟨v1, rfl, HR1.out, HU1.out⟩
end Go.Proofs.YthmkioodkldgbaaGreat.DK
/- wire.putList of every kind, putCell, putRecord, putState, putRecords; conditions: those in each theorem. -/
namespace Go.Proofs.YthmkioodkldgbaaGreat.DK
open Go.Proofs.YthmkioodkldgbaaGreat.PD
open Go.RowKit Go.Proofs.YthmkioodkldgbaaGreatW.PrintWords Go.Proofs.YthmkioodkldgbaaGreatW.PrintLast Go.Proofs.YthmkioodkldgbaaGreatW.PrintMore
set_option linter.unusedVariables false
set_option linter.unusedSimpArgs false
set_option maxRecDepth 100000
/-- A list's bytes: how many, then each. -/
def lst {α : Type} (f : α → List Int) (l : List α) : List Int := grp l.length ++ l.flatMap f
structure LstI {α : Type} (b : Nat) (w : World) (f : α → List Int) (l : List α) (zs : List Int) (u : Value) (i : Nat) (ys : List Int) (wr : World) : Prop where
 le : i ≤ l.length
 row : R5 b wr u ys
 up : U5 b w wr
 eq : ys ++ (l.drop i).flatMap f = zs
def LstE {α : Type} (b : Nat) (w : World) (f : α → List Int) (l : List α) (zs : List Int) (u iv : Value) (wr : World) : Prop := ∃ (i : Nat) (ys : List Int), iv = .int .i64 i ∧ LstI b w f l zs u i ys wr
theorem getD_nat {α : Type} (l : List α) (z : α) (i : Nat) (h : i < l.length) : l.getD (i : Int).toNat z = l[i] := by
 rw [Int.toNat_natCast, List.getD_eq_getElem?_getD, List.getElem?_eq_getElem h]
 rfl
/-- Read in an elder world; nothing that was there has changed since; written are blocks from b on alone. -/
def In {α : Type} (d : Kd α) (b : Nat) (w : World) (A : Option Addr) (l : List α) : Prop := ∃ w0 : World, w0.heap.size ≤ b ∧ d.C w0 A l.length l ∧ Below w0.heap.size w0 w
namespace In
variable {α : Type} {d : Kd α} {b : Nat} {w w1 : World} {A : Option Addr} {l : List α}
theorem C (h : In d b w A l) : d.C w A l.length l := by
 obtain ⟨w0, h0, hr, hb⟩ := h
 exact Kd.C_below hr hb
theorem mk (h : d.C w A l.length l) (hb : w.heap.size ≤ b) : In d b w A l := ⟨w, hb, h, Below.refl _ _⟩
theorem ext (h : In d b w A l) (hu : Below b w w1) : In d b w1 A l := by
 obtain ⟨w0, h0, hr, hb⟩ := h
 exact ⟨w0, h0, hr, hb.trans (hu.mono h0)⟩
theorem below (h : In d b w A l) (hu : Below w.heap.size w w1) : In d b w1 A l := by
 obtain ⟨w0, h0, hr, hb⟩ := h
 exact ⟨w0, h0, hr, hb.trans (hu.mono hb.size)⟩
theorem mono {b' : Nat} (h : In d b w A l) (hb : b ≤ b') : In d b' w A l := by
 obtain ⟨w0, h0, hr, h1⟩ := h
 exact ⟨w0, Nat.le_trans h0 hb, hr, h1⟩
theorem max (h : In d b w A l) : l.length ≤ 9223372036854775807 := h.C.2.1
end In
section
variable {b : Nat} {w : World} {A : Option Addr}
theorem In.at25 {l : List S25} (h : In k25 b w A l) {i : Nat} (hi : i < l.length) : ∃ ad A3 c3, A = some ad ∧ w.cell? (ad.add (i * 4)) = some (.int .i64 l[i].f0) ∧ w.cell? ⟨(ad.add (i * 4)).block, (ad.add (i * 4)).off + 1, none⟩ = some (.int .i64 l[i].f1) ∧ w.cell? ⟨(ad.add (i * 4)).block, (ad.add (i * 4)).off + 2, none⟩ = some (.string l[i].f2) ∧ w.cell? ⟨(ad.add (i * 4)).block, (ad.add (i * 4)).off + 3, none⟩ = some (.slice A3 l[i].f3.length c3) ∧ l[i].f3.length ≤ c3 ∧ In k25 b w A3 l[i].f3 := by
 obtain ⟨w0, h0, hr, hb⟩ := h
 have hat := at_T25 hr (i : Int) (by omega) (by omega)
 rw [show rd_T25 l (i : Int) = l[i] from getD_nat l _ i hi] at hat
 simp only [Int.toNat_natCast] at hat
 obtain ⟨ad, A3, c3, rfl, d0, d1, d2, d3, l3, g3⟩ := hat
 exact ⟨ad, A3, c3, rfl, pw_cell_below hb d0, pw_cell_below hb d1, pw_cell_below hb d2, pw_cell_below hb d3, l3, w0, h0, g3, hb⟩
theorem In.at121 {l : List S121} (h : In k121 b w A l) {i : Nat} (hi : i < l.length) : ∃ ad A1 c1, A = some ad ∧ w.cell? (ad.add (i * 2)) = some (.string l[i].f0) ∧ w.cell? ⟨(ad.add (i * 2)).block, (ad.add (i * 2)).off + 1, none⟩ = some (.slice A1 l[i].f1.length c1) ∧ l[i].f1.length ≤ c1 ∧ In k25 b w A1 l[i].f1 := by
 obtain ⟨w0, h0, hr, hb⟩ := h
 have hat := at_T121 hr (i : Int) (by omega) (by omega)
 rw [show rd_T121 l (i : Int) = l[i] from getD_nat l _ i hi] at hat
 simp only [Int.toNat_natCast] at hat
 obtain ⟨ad, A1, c1, rfl, d0, d1, l1, g1⟩ := hat
 exact ⟨ad, A1, c1, rfl, pw_cell_below hb d0, pw_cell_below hb d1, l1, w0, h0, g1, hb⟩
theorem In.at28 {l : List S28} (h : In k28 b w A l) {i : Nat} (hi : i < l.length) : ∃ ad A4 c4 A5 c5, A = some ad ∧ w.cell? (ad.add (i * 6)) = some (.string l[i].f0) ∧ w.cell? ⟨(ad.add (i * 6)).block, (ad.add (i * 6)).off + 1, none⟩ = some (.int .i64 l[i].f1.f0) ∧ w.cell? ⟨(ad.add (i * 6)).block, (ad.add (i * 6)).off + 2, none⟩ = some (.int .i64 l[i].f1.f1) ∧ w.cell? ⟨(ad.add (i * 6)).block, (ad.add (i * 6)).off + 3, none⟩ = some (.string l[i].f1.f2) ∧ w.cell? ⟨(ad.add (i * 6)).block, (ad.add (i * 6)).off + 4, none⟩ = some (.slice A4 l[i].f1.f3.length c4) ∧ w.cell? ⟨(ad.add (i * 6)).block, (ad.add (i * 6)).off + 5, none⟩ = some (.slice A5 l[i].f2.length c5) ∧ l[i].f1.f3.length ≤ c4 ∧ l[i].f2.length ≤ c5 ∧ In k25 b w A4 l[i].f1.f3 ∧ In (Kd.int .i64) b w A5 l[i].f2 := by
 obtain ⟨w0, h0, hr, hb⟩ := h
 have hat := at_T28 hr (i : Int) (by omega) (by omega)
 rw [show rd_T28 l (i : Int) = l[i] from getD_nat l _ i hi] at hat
 simp only [Int.toNat_natCast] at hat
 obtain ⟨ad, A4, c4, A5, c5, rfl, d0, d1, d2, d3, d4, d5, l4, g4, l5, g5⟩ := hat
 exact ⟨ad, A4, c4, A5, c5, rfl, pw_cell_below hb d0, pw_cell_below hb d1, pw_cell_below hb d2, pw_cell_below hb d3, pw_cell_below hb d4, pw_cell_below hb d5, l4, l5, ⟨w0, h0, g4, hb⟩, w0, h0, g5, hb⟩
theorem In.at108 {l : List S108} (h : In k108 b w A l) {i : Nat} (hi : i < l.length) : ∃ ad, A = some ad ∧ w.cell? (ad.add (i * 2)) = some (.int .i64 l[i].f0) ∧ w.cell? ⟨(ad.add (i * 2)).block, (ad.add (i * 2)).off + 1, none⟩ = some (.int .u32 l[i].f1) := by
 obtain ⟨w0, h0, hr, hb⟩ := h
 have hat := at_T108 hr (i : Int) (by omega) (by omega)
 rw [show rd_T108 l (i : Int) = l[i] from getD_nat l _ i hi] at hat
 simp only [Int.toNat_natCast] at hat
 obtain ⟨ad, rfl, d0, d1⟩ := hat
 exact ⟨ad, rfl, pw_cell_below hb d0, pw_cell_below hb d1⟩
theorem In.atSlice {α : Type} {d : Kd α} {e : Nat} {xs : List (List α)} (h : In (Kd.slice e d) b w A xs) {i : Nat} (hi : i < xs.length) : ∃ ad A1 c1, A = some ad ∧ w.cell? (ad.add i) = some (.slice A1 (xs[i]).length c1) ∧ (xs[i]).length ≤ c1 ∧ In d b w A1 xs[i] := by
 obtain ⟨w0, h0, hr, hb⟩ := h
 obtain ⟨ad, rfl, hc⟩ := hr.2.2 (by omega)
 obtain ⟨c, hs, ⟨A1, c1, rfl, hl, hr1⟩, hcell⟩ := hc i _ (List.getElem?_eq_getElem hi)
 have h1 := hcell 0 _ rfl
 exact ⟨ad, A1, c1, rfl, pw_cell_below hb (by simpa [Kd.slice] using h1), hl, w0, h0, hr1, hb⟩
theorem In.atInt {k : IntKind} {l : List Int} (h : In (Kd.int k) b w A l) {i : Nat} (hi : i < l.length) : ∃ ad, A = some ad ∧ w.cell? (ad.add i) = some (.int k l[i]) := by
 obtain ⟨ad, e, hc⟩ := Kd.at_int h.C (i : Int) (by omega) (by omega)
 rw [show rd l (i : Int) = l[i] from getD_nat l _ i hi, Int.toNat_natCast] at hc
 exact ⟨ad, e, hc⟩
theorem In.atString {l : List ByteArray} (h : In Kd.string b w A l) {i : Nat} (hi : i < l.length) : ∃ ad, A = some ad ∧ w.cell? (ad.add i) = some (.string l[i]) := by
 obtain ⟨ad, e, hc⟩ := Kd.at_string h.C (i : Int) (by omega) (by omega)
 rw [show rdOf ByteArray.empty l (i : Int) = l[i] from getD_nat l _ i hi, Int.toNat_natCast] at hc
 exact ⟨ad, e, hc⟩
end
/-- What may be laid down. -/
structure okCell (x : S121) : Prop where
 key : x.f0.size ≤ 140737488355328
 vals : ∀ v ∈ x.f1, okV v
structure okRec (x : S28) : Prop where
 key : x.f0.size ≤ 140737488355328
 val : okV x.f1
 loops : ∀ n ∈ x.f2, 0 ≤ n ∧ n ≤ 9223372036854775807
structure okRow (x : S108) : Prop where
 size : 0 ≤ x.f0 ∧ x.f0 ≤ 9223372036854775807
 check : 0 ≤ x.f1 ∧ x.f1 ≤ 4294967295
def encC (x : S121) : List Int := keyB x.f0 ++ lst encM x.f1
def encR (x : S28) : List Int := keyB x.f0 ++ encM x.f1 ++ lst grp x.f2
def encSt (n : Int) (l : List S121) : List Int := grp n ++ lst encC l
def encRow (x : S108) : List Int := grp x.f0 ++ word x.f1
set_option maxHeartbeats 4000000 in
theorem putVals_calls (b : Nat) (w : World) (u : Value) (xs : List Int) (l : List S25) (A : Option Addr) (c : Nat) (HO : R5 b w u xs) (hb : b ≤ w.heap.size) (hB : In k25 b w A l) (hk : ∀ x ∈ l, okV x) (hl : (xs ++ lst encM l).length ≤ 140737488355328) :
  Calls Tryz.prog 129 #[u, .slice A l.length c, .func (.func 99) #[] #[]] w (Ext b w (xs ++ lst encM l)) := by
 have HR := Aside0.mk HO
 have HC := Aside0.mk hB
 have hlen : l.length ≤ 9223372036854775807 := hB.max
 have HK := Aside0.mk hk
 have HL := Aside0.mk hl
 have hl1 : (xs ++ grp (l.length : Int)).length ≤ 140737488355328 := by unfold lst at hl; simp only [List.length_append] at hl ⊢; omega
 clear hB HO hk hl
 unfold Ext
 go_enter Tryz.func129, Tryz.ntmps129
 go_wp2_with fail
 refine (putNumber_calls b w u xs l.length (by omega) (by omega) HR.out hb hl1).mono ?_
 rintro e w1 ⟨u1, rfl, h1, h2⟩
 have HR1 := Aside0.mk h1
 have HU1 := Aside0.mk h2
 have hb1 : b ≤ w1.heap.size := Nat.le_trans hb h2.size
 clear h1 h2
 go_wp2
 go_loopw [0, 15] (fun u iv wr => LstE b w1 encM l (xs ++ lst encM l) u iv wr) (fun _ iv _ => l.length - (intOf iv).toNat)
 case atStart => exact ⟨0, _, rfl, Nat.zero_le _, HR1.out, U5.refl _ _, by unfold lst; simp⟩
 case round =>
  obtain ⟨i, ys, rfl, hle, hrow, hup, heq⟩ := hrel
  have HRW := Aside0.mk hrow
  have HUP := Aside0.mk (HU1.out.trans hup)
  have HUP1 := Aside0.mk hup
  have hbr : b ≤ wr.heap.size := Nat.le_trans hb1 hup.size
  clear hrow hup
  by_cases hlt : i < l.length
  ·have hdrop : l.drop i = l[i] :: l.drop (i + 1) := List.drop_eq_getElem_cons hlt
   have hC := HC.out.ext (HUP.out.below hb)
   obtain ⟨ad, A3, c3, rfl, d0, d1, d2, d3, l3, g3⟩ := hC.at25 hlt
   have G3 := Aside0.mk g3
   have L3 := Aside0.mk l3
   clear g3 l3
   have HKX := Aside0.mk (HK.out l[i] (List.getElem_mem hlt))
   rw [hdrop, List.flatMap_cons, ← List.append_assoc] at heq
   have hll : (ys ++ encM l[i]).length ≤ 140737488355328 := by
    have h := HL.out
    rw [← heq] at h
    simp only [List.length_append] at h ⊢
    omega
   have HEQ := Aside0.mk heq
   have HX := Aside0.mk (fun (W : World) (hw : Below wr.heap.size wr W) => putValue_calls b W u0 ys l[i] A3 c3 (HRW.out.below hw) (Nat.le_trans hbr hw.size) (G3.out.below hw).C L3.out HKX.out hll)
   clear hC heq hdrop hll
   clear HC
   generalize l[i] = x at *
   go_wp2_with fail
   refine (HX.out _ ?hw).mono ?_
   case hw => repeat (with_reducible first | exact Below.refl _ _ | apply below_drew | apply pw_below_drewN | apply below_alloc)
   rintro e w5 ⟨u5, rfl, h1, h2⟩
   have HR5 := Aside0.mk h1
   have HU5 := Aside0.mk ((HUP1.out.alloc _).trans h2)
   clear h1 h2
   go_wp2
   go_roundw
   case rel => exact ⟨i + 1, _, by simp, hlt, HR5.out, HU5.out, HEQ.out⟩
   case measure => simp [intOf]; omega
  ·have hi : i = l.length := by omega
   rw [hi, List.drop_length, List.flatMap_nil, List.append_nil] at heq
   have hir : ¬ (i : Int) < (l.length : Int) := by omega
   have HEQ := Aside0.mk heq
   clear heq hi
   go_wp2
   go_ret
   exact ⟨_, rfl, by have h := HRW.out; rwa [HEQ.out] at h, HUP.out⟩
set_option maxHeartbeats 4000000 in
theorem putKeys_calls (b : Nat) (w : World) (u : Value) (xs : List Int) (l : List ByteArray) (A : Option Addr) (c : Nat) (HO : R5 b w u xs) (hb : b ≤ w.heap.size) (hB : In Kd.string b w A l) (hk : ∀ x ∈ l, x.size ≤ 140737488355328) (hl : (xs ++ lst keyB l).length ≤ 140737488355328) :
  Calls Tryz.prog 94 #[u, .slice A l.length c, .func (.func 95) #[] #[]] w (Ext b w (xs ++ lst keyB l)) := by
 have HR := Aside0.mk HO
 have HC := Aside0.mk hB
 have hlen : l.length ≤ 9223372036854775807 := hB.max
 have HK := Aside0.mk hk
 have HL := Aside0.mk hl
 have hl1 : (xs ++ grp (l.length : Int)).length ≤ 140737488355328 := by unfold lst at hl; simp only [List.length_append] at hl ⊢; omega
 clear hB HO hk hl
 unfold Ext
 go_enter Tryz.func94, Tryz.ntmps94
 go_wp2_with fail
 refine (putNumber_calls b w u xs l.length (by omega) (by omega) HR.out hb hl1).mono ?_
 rintro e w1 ⟨u1, rfl, h1, h2⟩
 have HR1 := Aside0.mk h1
 have HU1 := Aside0.mk h2
 have hb1 : b ≤ w1.heap.size := Nat.le_trans hb h2.size
 clear h1 h2
 go_wp2
 go_loopw [0, 15] (fun u iv wr => LstE b w1 keyB l (xs ++ lst keyB l) u iv wr) (fun _ iv _ => l.length - (intOf iv).toNat)
 case atStart => exact ⟨0, _, rfl, Nat.zero_le _, HR1.out, U5.refl _ _, by unfold lst; simp⟩
 case round =>
  obtain ⟨i, ys, rfl, hle, hrow, hup, heq⟩ := hrel
  have HRW := Aside0.mk hrow
  have HUP := Aside0.mk (HU1.out.trans hup)
  have HUP1 := Aside0.mk hup
  have hbr : b ≤ wr.heap.size := Nat.le_trans hb1 hup.size
  clear hrow hup
  by_cases hlt : i < l.length
  ·have hdrop : l.drop i = l[i] :: l.drop (i + 1) := List.drop_eq_getElem_cons hlt
   have hC := HC.out.ext (HUP.out.below hb)
   obtain ⟨ad, rfl, d0⟩ := hC.atString hlt
   have HKX := Aside0.mk (HK.out l[i] (List.getElem_mem hlt))
   rw [hdrop, List.flatMap_cons, ← List.append_assoc] at heq
   have hll : (ys ++ keyB l[i]).length ≤ 140737488355328 := by
    have h := HL.out
    rw [← heq] at h
    simp only [List.length_append] at h ⊢
    omega
   have HEQ := Aside0.mk heq
   have HX := Aside0.mk (fun (W : World) (hw : Below wr.heap.size wr W) => putKey_calls b W u0 ys l[i] HKX.out (HRW.out.below hw) (Nat.le_trans hbr hw.size) hll)
   clear hC heq hdrop hll
   clear HC
   generalize l[i] = x at *
   go_wp2_with fail
   refine (HX.out _ ?hw).mono ?_
   case hw => repeat (with_reducible first | exact Below.refl _ _ | apply below_drew | apply pw_below_drewN | apply below_alloc)
   rintro e w5 ⟨u5, rfl, h1, h2⟩
   have HR5 := Aside0.mk h1
   have HU5 := Aside0.mk (HUP1.out.trans h2)
   clear h1 h2
   go_wp2
   go_roundw
   case rel => exact ⟨i + 1, _, by simp, hlt, HR5.out, HU5.out, HEQ.out⟩
   case measure => simp [intOf]; omega
  ·have hi : i = l.length := by omega
   rw [hi, List.drop_length, List.flatMap_nil, List.append_nil] at heq
   have hir : ¬ (i : Int) < (l.length : Int) := by omega
   have HEQ := Aside0.mk heq
   clear heq hi
   go_wp2
   go_ret
   exact ⟨_, rfl, by have h := HRW.out; rwa [HEQ.out] at h, HUP.out⟩
set_option maxHeartbeats 4000000 in
theorem putLoops_calls (b : Nat) (w : World) (u : Value) (xs : List Int) (l : List Int) (A : Option Addr) (c : Nat) (HO : R5 b w u xs) (hb : b ≤ w.heap.size) (hB : In (Kd.int .i64) b w A l) (hk : ∀ x ∈ l, 0 ≤ x ∧ x ≤ 9223372036854775807) (hl : (xs ++ lst grp l).length ≤ 140737488355328) :
  Calls Tryz.prog 98 #[u, .slice A l.length c, .func (.func 54) #[] #[]] w (Ext b w (xs ++ lst grp l)) := by
 have HR := Aside0.mk HO
 have HC := Aside0.mk hB
 have hlen : l.length ≤ 9223372036854775807 := hB.max
 have HK := Aside0.mk hk
 have HL := Aside0.mk hl
 have hl1 : (xs ++ grp (l.length : Int)).length ≤ 140737488355328 := by unfold lst at hl; simp only [List.length_append] at hl ⊢; omega
 clear hB HO hk hl
 unfold Ext
 go_enter Tryz.func98, Tryz.ntmps98
 go_wp2_with fail
 refine (putNumber_calls b w u xs l.length (by omega) (by omega) HR.out hb hl1).mono ?_
 rintro e w1 ⟨u1, rfl, h1, h2⟩
 have HR1 := Aside0.mk h1
 have HU1 := Aside0.mk h2
 have hb1 : b ≤ w1.heap.size := Nat.le_trans hb h2.size
 clear h1 h2
 go_wp2
 go_loopw [0, 15] (fun u iv wr => LstE b w1 grp l (xs ++ lst grp l) u iv wr) (fun _ iv _ => l.length - (intOf iv).toNat)
 case atStart => exact ⟨0, _, rfl, Nat.zero_le _, HR1.out, U5.refl _ _, by unfold lst; simp⟩
 case round =>
  obtain ⟨i, ys, rfl, hle, hrow, hup, heq⟩ := hrel
  have HRW := Aside0.mk hrow
  have HUP := Aside0.mk (HU1.out.trans hup)
  have HUP1 := Aside0.mk hup
  have hbr : b ≤ wr.heap.size := Nat.le_trans hb1 hup.size
  clear hrow hup
  by_cases hlt : i < l.length
  ·have hdrop : l.drop i = l[i] :: l.drop (i + 1) := List.drop_eq_getElem_cons hlt
   have hC := HC.out.ext (HUP.out.below hb)
   obtain ⟨ad, rfl, d0⟩ := hC.atInt hlt
   have HKX := Aside0.mk (HK.out l[i] (List.getElem_mem hlt))
   rw [hdrop, List.flatMap_cons, ← List.append_assoc] at heq
   have hll : (ys ++ grp l[i]).length ≤ 140737488355328 := by
    have h := HL.out
    rw [← heq] at h
    simp only [List.length_append] at h ⊢
    omega
   have HEQ := Aside0.mk heq
   have HX := Aside0.mk (fun (W : World) (hw : Below wr.heap.size wr W) => putNumber_calls b W u0 ys l[i] HKX.out.1 HKX.out.2 (HRW.out.below hw) (Nat.le_trans hbr hw.size) hll)
   clear hC heq hdrop hll
   clear HC
   generalize l[i] = x at *
   go_wp2_with fail
   refine (HX.out _ ?hw).mono ?_
   case hw => repeat (with_reducible first | exact Below.refl _ _ | apply below_drew | apply pw_below_drewN | apply below_alloc)
   rintro e w5 ⟨u5, rfl, h1, h2⟩
   have HR5 := Aside0.mk h1
   have HU5 := Aside0.mk (HUP1.out.trans h2)
   clear h1 h2
   go_wp2
   go_roundw
   case rel => exact ⟨i + 1, _, by simp, hlt, HR5.out, HU5.out, HEQ.out⟩
   case measure => simp [intOf]; omega
  ·have hi : i = l.length := by omega
   rw [hi, List.drop_length, List.flatMap_nil, List.append_nil] at heq
   have hir : ¬ (i : Int) < (l.length : Int) := by omega
   have HEQ := Aside0.mk heq
   clear heq hi
   go_wp2
   go_ret
   exact ⟨_, rfl, by have h := HRW.out; rwa [HEQ.out] at h, HUP.out⟩
end Go.Proofs.YthmkioodkldgbaaGreat.DK
/- Words for the reference's bags: rows of flat things, laid on; conditions: those in each theorem. -/
namespace Go.Proofs.YthmkioodkldgbaaGreat.DK
open Go.Proofs.YthmkioodkldgbaaGreat.PD
open Go.RowKit Go.Proofs.YthmkioodkldgbaaGreatW.PrintWords Go.Proofs.YthmkioodkldgbaaGreatW.PrintLast Go.Proofs.YthmkioodkldgbaaGreatW.PrintMore
set_option linter.unusedVariables false
/-- Written: blocks from b on of the types T alone (and new ones). -/
structure UT (T : List Nat) (b : Nat) (w w' : World) : Prop where
 os : w'.os = w.os
 tape : w'.tape = w.tape
 output : w'.output = w.output
 size : w.heap.size ≤ w'.heap.size
 same : ∀ k, k < w.heap.size → (k < b ∨ ∀ cs t, t ∈ T → w.heap[k]? ≠ some (.cells cs t (0, 0))) → w'.heap[k]? = w.heap[k]?
namespace UT
variable {T T' : List Nat} {b : Nat} {w w1 w2 : World}
theorem refl (T : List Nat) (b : Nat) (w : World) : UT T b w w := ⟨rfl, rfl, rfl, Nat.le_refl _, fun _ _ _ => rfl⟩
theorem trans (h : UT T b w w1) (k : UT T b w1 w2) : UT T b w w2 :=
 ⟨k.os.trans h.os, k.tape.trans h.tape, k.output.trans h.output, Nat.le_trans h.size k.size, fun q hq hn => by
  have e := h.same q hq hn
  exact (k.same q (Nat.lt_of_lt_of_le hq h.size) (hn.imp id (fun hn cs t ht => by rw [e]; exact hn cs t ht))).trans e⟩
theorem mono (h : UT T b w w1) (hT : ∀ t, t ∈ T → t ∈ T') : UT T' b w w1 := ⟨h.os, h.tape, h.output, h.size, fun k hk hn => h.same k hk (hn.imp id (fun hn cs t ht => hn cs t (hT t ht)))⟩
theorem of_below (T : List Nat) (b : Nat) (hb : Below w.heap.size w w1) : UT T b w w1 := ⟨hb.os, hb.tape, hb.output, hb.size, fun k hk _ => hb.block k hk⟩
theorem drew (h : UT T b w w1) : UT T b w w1.drew := ⟨h.os, h.tape, h.output, h.size, h.same⟩
theorem drewN (h : UT T b w w1) (n : Nat) : UT T b w (w1.drewN n) := ⟨h.os, h.tape, h.output, h.size, h.same⟩
theorem alloc (h : UT T b w w1) (o : Obj) : UT T b w (w1.alloc o) := h.trans (of_below T b (below_alloc (Below.refl _ _) o))
theorem below (h : UT T b w w1) (hb : b ≤ w.heap.size) : Below b w w1 := ⟨h.os, h.tape, h.output, h.size, fun k hk => h.same k (Nat.lt_of_lt_of_le hk hb) (.inl hk)⟩
theorem blk (h : UT T b w w1) {g t : Nat} {cs : Array Value} (hb : w.heap[g]? = some (.cells cs t (0, 0))) (ht : t ∉ T) : w1.heap[g]? = some (.cells cs t (0, 0)) :=
 (h.same g (blk_lt hb) (.inr (fun cs' t' ht' e => by rw [hb] at e; injection e with e; injection e with _ e; exact ht (e ▸ ht')))).trans hb
theorem grown {e : Nat} (h : UT T b w w1) {v : Value} {sz n : Nat} {xs : List Value} (ho : w1.ownsRow b e sz v n xs) (he : e ∈ T) (hg : w1.grownBy w2 v.ownBlock) : UT T b w w2 :=
 h.trans ⟨hg.os, hg.tape, hg.output, hg.size, fun k hk hn => hg.block k hk (fun e' => by
  have h1 := own_base ho k e'.symm
  obtain ⟨cs, hc⟩ := own_typed ho k e'.symm
  exact hn.elim (fun h => by omega) (fun h => h cs e he hc))⟩
theorem set (h : UT T b w w1) {g t : Nat} {cs : Array Value} (hb : w1.heap[g]? = some (.cells cs t (0, 0))) (ht : t ∈ T) (hg : b ≤ g) (j : Nat) (u : Value) : UT T b w (w1.setCell ⟨g, j, none⟩ u) :=
 h.trans ⟨rfl, rfl, rfl, by simp [World.setCell], fun k hk hn => Below.heap_setCell w1 ⟨g, j, none⟩ u k (fun e => by
  have e : k = g := e
  subst e
  exact hn.elim (fun h => by omega) (fun h => h cs t ht hb))⟩
end UT
/-- A row of one's own of flat things (their cells lead to no rows of one's own). -/
def RK {α : Type} (d : Kd α) (e b : Nat) (w : World) (v : Value) (xs : List α) : Prop := d.R e w b (fun _ => True) v xs
namespace RK
variable {α : Type} {d : Kd α} {e b : Nat} {w w1 : World} {v : Value} {xs : List α}
theorem nil (d : Kd α) (e b : Nat) (w : World) : RK d e b w (.slice none 0 0) [] := Kd.R_nil _ _ _ _ _
theorem same (hd : d.E = []) (h : RK d e b w v xs) (hs : ∀ k, v.ownBlock = some k → w1.heap[k]? = w.heap[k]?) : RK d e b w1 v xs :=
 Kd.R_mono (Kd.R_move (Kd.R_tight hd h) (fun k hk => hs k hk.symm)) (fun _ _ => trivial)
theorem ut {T : List Nat} (hd : d.E = []) (h : RK d e b w v xs) (hu : UT T b w w1) (he : e ∉ T) : RK d e b w1 v xs :=
 h.same hd (fun k hk => by obtain ⟨cs, hc⟩ := Kd.R_typed h k hk; exact (hu.blk hc he).trans hc.symm)
theorem below (h : RK d e b w v xs) (hb : Below w.heap.size w w1) : RK d e b w1 v xs := Kd.R_below h hb
theorem set (hd : d.E = []) (h : RK d e b w v xs) {g t : Nat} {cs : Array Value} (hb : w.heap[g]? = some (.cells cs t (0, 0))) (ht : e ≠ t) (j : Nat) (u : Value) : RK d e b (w.setCell ⟨g, j, none⟩ u) v xs :=
 Kd.R_set h hb (by rw [hd]; intro q hq; rcases List.mem_singleton.1 hq with rfl; exact ht) j u
theorem own (h : RK d e b w v xs) : ∃ inner, w.ownsRow b e d.sz v xs.length inner := Kd.R_own h
end RK
section
variable {α : Type} {d : Kd α} {ops : Array Oper} {rest : List Oper} {o : Oper} {a : Act} {Q : Exit → Act → World → Prop} {Kc : Act → World → Prop} {W : World} {b : Nat}
end
/-- A value whose items are read in every world of Rel. -/
def kRel (Rel : World → Prop) : Kd S25 where
 sz := 4
 E := []
 K := fun _ x cs => ∃ A3 c3, cs = [.int .i64 x.f0, .int .i64 x.f1, .string x.f2, .slice A3 x.f3.length c3] ∧ x.f3.length ≤ c3 ∧ ∀ W, Rel W → k25.C W A3 x.f3.length x.f3
 M := fun _ _ _ x cs => ∃ A3 c3, cs = [.int .i64 x.f0, .int .i64 x.f1, .string x.f2, .slice A3 x.f3.length c3] ∧ x.f3.length ≤ c3 ∧ ∀ W, Rel W → k25.C W A3 x.f3.length x.f3
 K_len := by rintro w x cs ⟨A3, c3, rfl, _⟩; rfl
 K_one := by
  rintro w x cs ⟨A3, c3, rfl, _⟩ u hu
  simp only [List.mem_cons, List.not_mem_nil, or_false] at hu
  rcases hu with rfl | rfl | rfl | rfl <;> rfl
 K_below := fun _ h => h
 K_of_M := fun h => h
 M_mono := fun _ h => h
 M_bound := fun h => h
 M_move := fun _ h => h
 M_lower := fun _ h => h
/-- The reference's bag at block g: numbers, keys, values, how many of each are used. -/
structure Bag (Rel : World → Prop) (b : Nat) (w : World) (g : Nat) (ns : List Int) (ks : List ByteArray) (vs : List S25) (i j k : Int) (un uk uv : Value) : Prop where
 box : w.heap[g]? = some (.cells #[un, uk, uv, .int .i64 i, .int .i64 j, .int .i64 k] 145 (0, 0))
 ge : b ≤ g
 nums : RK (Kd.int .i64) 3 b w un ns
 keys : RK Kd.string 9 b w uk ks
 vals : RK (kRel Rel) 24 b w uv vs
namespace Bag
variable {Rel : World → Prop} {b : Nat} {w w1 : World} {g : Nat} {ns : List Int} {ks : List ByteArray} {vs : List S25} {i j k : Int} {un uk uv : Value}
theorem ut {T : List Nat} (h : Bag Rel b w g ns ks vs i j k un uk uv) (hu : UT T b w w1) (hT : 145 ∉ T ∧ 3 ∉ T ∧ 9 ∉ T ∧ 24 ∉ T) : Bag Rel b w1 g ns ks vs i j k un uk uv :=
 ⟨hu.blk h.box hT.1, h.ge, h.nums.ut rfl hu hT.2.1, h.keys.ut rfl hu hT.2.2.1, h.vals.ut rfl hu hT.2.2.2⟩
theorem below (h : Bag Rel b w g ns ks vs i j k un uk uv) (hb : Below w.heap.size w w1) : Bag Rel b w1 g ns ks vs i j k un uk uv := h.ut (UT.of_below [] b hb) (by simp)
theorem setL (h : Bag Rel b w g ns ks vs i j k un uk uv) (n : Int) : Bag Rel b (w.setCell ⟨g, 5, none⟩ (.int .i64 n)) g ns ks vs i j n un uk uv :=
 ⟨blk_set h.box, h.ge, h.nums.set rfl h.box (by decide) _ _, h.keys.set rfl h.box (by decide) _ _, h.vals.set rfl h.box (by decide) _ _⟩
end Bag
end Go.Proofs.YthmkioodkldgbaaGreat.DK
/- eddyref4.Bag.num, key, val; conditions: those in each theorem. -/
namespace Go.Proofs.YthmkioodkldgbaaGreat.DK
open Go.Proofs.YthmkioodkldgbaaGreat.PD
open Go.RowKit Go.Proofs.YthmkioodkldgbaaGreatW.PrintWords Go.Proofs.YthmkioodkldgbaaGreatW.PrintLast Go.Proofs.YthmkioodkldgbaaGreatW.PrintMore
set_option linter.unusedVariables false
set_option linter.unusedSimpArgs false
set_option maxRecDepth 100000
section
variable {Rel : World → Prop} {b : Nat} {w : World} {g : Nat} {ns : List Int} {ks : List ByteArray} {vs : List S25} {i j k : Int} {un uk uv : Value}
theorem Bag.drewN (h : Bag Rel b w g ns ks vs i j k un uk uv) (n : Nat) : Bag Rel b (w.drewN n) g ns ks vs i j k un uk uv := h.below (pw_below_drewN (Below.refl _ _) n)
theorem Bag.drew (h : Bag Rel b w g ns ks vs i j k un uk uv) : Bag Rel b w.drew g ns ks vs i j k un uk uv := h.below (below_drew (Below.refl _ _))
end
end Go.Proofs.YthmkioodkldgbaaGreat.DK
/- eddyref2.flat: the reference's walk through a value's parts; conditions: those in each theorem. -/
namespace Go.Proofs.YthmkioodkldgbaaGreat.DK
open Go.Proofs.YthmkioodkldgbaaGreat.PD
open Go.RowKit Go.Proofs.YthmkioodkldgbaaGreatW.PrintWords Go.Proofs.YthmkioodkldgbaaGreatW.PrintLast Go.Proofs.YthmkioodkldgbaaGreatW.PrintMore
set_option linter.unusedVariables false
set_option linter.unusedSimpArgs false
mutual
/-- The parts laid behind those that are there, and the first fault. -/
def flatM : S25 → Int → List S204 → List S204 × Int
 | ⟨k, n, t, l⟩, d, xs =>
  if 12 ≤ xs.length then (xs, 22)
  else if k < 0 ∨ 3 < k then (xs, 20)
  else if other k n t l then (xs, 20)
  else if k = 3 ∧ 3 ≤ d then (xs, 23)
  else if 24 < t.size then (xs, 21)
  else if 6 < l.length then (xs, 22)
  else flatL l (d + 1) (xs ++ [⟨k, n, t, l.length⟩])
def flatL : List S25 → Int → List S204 → List S204 × Int
 | [], _, xs => (xs, 0)
 | x :: l, d, xs => if (flatM x d xs).2 ≠ 0 then flatM x d xs else flatL l d (flatM x d xs).1
end
theorem flatM_eq (v : S25) (d : Int) (xs : List S204) : flatM v d xs = if 12 ≤ xs.length then (xs, 22)
  else if v.f0 < 0 ∨ 3 < v.f0 then (xs, 20)
  else if other v.f0 v.f1 v.f2 v.f3 then (xs, 20)
  else if v.f0 = 3 ∧ 3 ≤ d then (xs, 23)
  else if 24 < v.f2.size then (xs, 21)
  else if 6 < v.f3.length then (xs, 22)
  else flatL v.f3 (d + 1) (xs ++ [⟨v.f0, v.f1, v.f2, v.f3.length⟩]) := by
 obtain ⟨k, n, t, l⟩ := v
 rw [flatM]
theorem flatL_nil (d : Int) (xs : List S204) : flatL [] d xs = (xs, 0) := by rw [flatL]
theorem flatL_cons (x : S25) (l : List S25) (d : Int) (xs : List S204) : flatL (x :: l) d xs = if (flatM x d xs).2 ≠ 0 then flatM x d xs else flatL l d (flatM x d xs).1 := by rw [flatL]
mutual
theorem flatM_le : ∀ (v : S25) (d : Int) (xs : List S204), xs.length ≤ (flatM v d xs).1.length ∧ (xs.length ≤ 12 → (flatM v d xs).1.length ≤ 12)
 | ⟨k, n, t, l⟩, d, xs => by
  rw [flatM_eq]
  dsimp only
  split
  ·exact ⟨Nat.le_refl _, fun h => h⟩
  split
  ·exact ⟨Nat.le_refl _, fun h => h⟩
  split
  ·exact ⟨Nat.le_refl _, fun h => h⟩
  split
  ·exact ⟨Nat.le_refl _, fun h => h⟩
  split
  ·exact ⟨Nat.le_refl _, fun h => h⟩
  split
  ·exact ⟨Nat.le_refl _, fun h => h⟩
  ·have h := flatL_le l (d + 1) (xs ++ [⟨k, n, t, l.length⟩])
   simp only [List.length_append, List.length_singleton] at h
   exact ⟨by omega, fun _ => h.2 (by omega)⟩
theorem flatL_le : ∀ (l : List S25) (d : Int) (xs : List S204), xs.length ≤ (flatL l d xs).1.length ∧ (xs.length ≤ 12 → (flatL l d xs).1.length ≤ 12)
 | [], d, xs => by rw [flatL_nil]; exact ⟨Nat.le_refl _, fun h => h⟩
 | x :: l, d, xs => by
  have h1 := flatM_le x d xs
  rw [flatL_cons]
  split
  ·exact h1
  ·have h2 := flatL_le l d (flatM x d xs).1
   exact ⟨by omega, fun h => h2.2 (h1.2 h)⟩
end
mutual
/-- The two walks find the same. -/
theorem flat_chk : ∀ (v : S25) (d : Int) (xs : List S204), xs.length ≤ 12 → (flatM v d xs).2 = (chk v d xs.length).2 ∧ ((chk v d xs.length).2 = 0 → ((flatM v d xs).1.length : Int) = (chk v d xs.length).1)
 | ⟨k, n, t, l⟩, d, xs => by
  intro h12
  rw [flatM_eq, chk_eq]
  dsimp only
  by_cases c1 : 12 ≤ xs.length
  ·rw [if_pos c1, if_pos (show (12 : Int) < xs.length + 1 by omega)]
   exact ⟨rfl, fun h => by simp at h⟩
  rw [if_neg c1, if_neg (show ¬ (12 : Int) < xs.length + 1 by omega)]
  split
  ·exact ⟨rfl, fun h => by simp at h⟩
  split
  ·exact ⟨rfl, fun h => by simp at h⟩
  split
  ·exact ⟨rfl, fun h => by simp at h⟩
  split
  ·exact ⟨rfl, fun h => by simp at h⟩
  split
  ·exact ⟨rfl, fun h => by simp at h⟩
  ·have h := flat_chkL l (d + 1) (xs ++ [⟨k, n, t, l.length⟩]) (by simp; omega)
   simp only [List.length_append, List.length_singleton, Int.natCast_add, Int.cast_ofNat_Int] at h
   exact h
theorem flat_chkL : ∀ (l : List S25) (d : Int) (xs : List S204), xs.length ≤ 12 → (flatL l d xs).2 = (chkL l d xs.length).2 ∧ ((chkL l d xs.length).2 = 0 → ((flatL l d xs).1.length : Int) = (chkL l d xs.length).1)
 | [], d, xs => by intro h; rw [flatL_nil, chkL_nil]; exact ⟨rfl, fun _ => rfl⟩
 | x :: l, d, xs => by
  intro h
  have h1 := flat_chk x d xs h
  rw [flatL_cons, chkL_cons, h1.1]
  by_cases hz : (chk x d xs.length).2 = 0
  ·rw [if_neg (fun h => h hz), if_neg (fun h => h hz), ← h1.2 hz]
   exact flat_chkL l d (flatM x d xs).1 ((flatM_le x d xs).2 h)
  ·rw [if_pos hz, if_pos hz]
   exact ⟨h1.1, fun h => absurd h hz⟩
end
def FlatPost (b0 : Nat) (w : World) (u : Value) (r : List S204 × Int) (e : Ending) (w' : World) : Prop := ∃ u', e = .returned (.tuple #[u', .int .i64 r.2]) ∧ k204.R 226 w' b0 (fun _ => True) u' r.1 ∧ Upd (fun k => u.ownBlock = some k) w w' ∧ (u'.ownBlock = u.ownBlock ∨ ∃ b, u'.ownBlock = some b ∧ w.heap.size ≤ b)
theorem r204_same {b0 : Nat} {w w' : World} {u : Value} {xs : List S204} (h : k204.R 226 w b0 (fun _ => True) u xs) (hs : ∀ k, u.ownBlock = some k → w'.heap[k]? = w.heap[k]?) : k204.R 226 w' b0 (fun _ => True) u xs :=
 Kd.R_mono (Kd.R_move (Kd.R_tight rfl h) (fun k hk => hs k hk.symm)) (fun _ _ => trivial)
theorem r204_below {b0 : Nat} {w w' : World} {u : Value} {xs : List S204} (h : k204.R 226 w b0 (fun _ => True) u xs) (hb : Below w.heap.size w w') : k204.R 226 w' b0 (fun _ => True) u xs :=
 r204_same h (fun k hk => hb.block k (Kd.R_lt h k hk))
theorem r204_ne {b0 : Nat} {w : World} {u : Value} {xs : List S204} (h : k204.R 226 w b0 (fun _ => True) u xs) {b t : Nat} {cs : Array Value} (hb : w.heap[b]? = some (.cells cs t (0, 0))) (ht : t ≠ 226) : u.ownBlock ≠ some b := by
 intro e
 obtain ⟨cells, hc⟩ := Kd.R_typed h b e
 rw [hb] at hc
 injection hc with hc
 injection hc with h1 h2
 exact ht h2
end Go.Proofs.YthmkioodkldgbaaGreat.DK
