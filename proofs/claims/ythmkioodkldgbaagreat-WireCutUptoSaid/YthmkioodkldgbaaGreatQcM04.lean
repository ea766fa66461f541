/- What each Go function named in this text computes, as a Lean function, and that the Go code comes to it; conditions: those in each theorem. (Lines written by this session's program.) -/
import Derived.Test.YthmkioodkldgbaaGreatProg
import Derived.Below
import Derived.Deep.Draws
import Derived.Deep.AppendLies
import Derived.Maps.AppendAt
import Derived.OwnWalk
import Derived.Laws.BytesArg
import Derived.Laws.MakeOwn
import Derived.Laws.OwnMore
import Derived.Deep.OwnRows
import Derived.Tactics
import Derived.Lib.ConvBytes
import Derived.Laws.Slices
import Derived.WalkKit
import Derived.KernelRfl
import Derived.RowKit3
import Derived.Deep.LoopGhost
import Derived.Deep.QuietTactic
import Derived.BigQuiet
import Derived.WideLaws
import Derived.Deep.DeepCutAuto
import Derived.Deep.CutBlock
import Derived.Deep.RegionHeld3
import Derived.Laws.Rows
import Derived.Lib.AppendStr
import Derived.ArgAppend
import Derived.Laws.IdiomCopy
import Derived.OrdersHeld
import Derived.Laws.BitsLemmas
import Derived.RowKit
import Derived.Test.YthmkioodkldgbaaGreatQcM00
import Derived.Test.YthmkioodkldgbaaGreatQcM01
import Derived.Test.YthmkioodkldgbaaGreatQcM02
import Derived.Test.YthmkioodkldgbaaGreatQcM03
import Derived.Laws.StructEq
namespace Go.Proofs.YthmkioodkldgbaaGreat.PD
open Go.RowKit Go.Proofs.YthmkioodkldgbaaGreatW.PrintWords Go.Proofs.YthmkioodkldgbaaGreatW.PrintLast Go.Proofs.YthmkioodkldgbaaGreatW.PrintMore
attribute [local go_sem] max2_int min2_int max_two min_two max_three min_three max_four min_four   -- for this text's walks alone
set_option linter.unusedVariables false
set_option linter.unusedSimpArgs false
def errW : Option Int → Value
 | none => .nilIface
 | some c => .iface 0 (.int .i64 c)
theorem errW_none : errW none = .nilIface := rfl
theorem errW_some (c : Int) : errW (some c) = .iface 0 (.int .i64 c) := rfl

theorem info3 : (Tryz.prog.info? 3).map (fun i => (i.zero, i.size, i.bytes)) = some (some (.int .i64 0), 1, 8) := by kernel_rfl
theorem info5 : (Tryz.prog.info? 5).map (fun i => (i.zero, i.size, i.bytes)) = some (some (.int .u8 0), 1, 1) := by kernel_rfl
theorem info25 : (Tryz.prog.info? 24).map (fun i => (i.zero, i.size, i.bytes)) = some (some (.agg #[(.int .i64 0), (.int .i64 0), (.string ⟨#[]⟩), (.slice none 0 0)]), 4, 56) := by kernel_rfl
theorem info204 : (Tryz.prog.info? 226).map (fun i => (i.zero, i.size, i.bytes)) = some (some (.agg #[(.int .i64 0), (.int .i64 0), (.string ⟨#[]⟩), (.int .i64 0)]), 4, 40) := by kernel_rfl
-- the values' own types
/-! #### struct type 25, nested in itself -/
structure S25 where
 f0 : Int
 f1 : Int
 f2 : ByteArray
 f3 : (List S25)
def z25 : S25 := ⟨(0 : Int), (0 : Int), (⟨#[]⟩ : ByteArray), ([] : List S25)⟩
def F25 (d : Kd S25) : Kd S25 := Kd.iso (Kd.pair (Kd.int .i64) (Kd.pair (Kd.int .i64) (Kd.pair Kd.string (Kd.slice 24 d)))) (fun x : S25 => (x.f0, x.f1, x.f2, x.f3))
theorem mono25 : Kd.Mono F25 := Kd.mono_iso _ (Kd.mono_pair (Kd.mono_const _) (Kd.mono_pair (Kd.mono_const _) (Kd.mono_pair (Kd.mono_const _) (Kd.mono_slice 24 Kd.mono_id))))
theorem sub25 : Kd.Sub F25 [24] := Kd.sub_iso _ (Kd.sub_pair (Kd.sub_const _ (by decide)) (Kd.sub_pair (Kd.sub_const _ (by decide)) (Kd.sub_pair (Kd.sub_const _ (by decide)) (Kd.sub_slice 24 (by decide) Kd.sub_id))))
theorem sz25 : ∀ n, (Kd.upto F25 4 [24] n).sz = 4 := Kd.upto_sz (fun _ => rfl)
def k25 : Kd S25 := Kd.fix F25 4 [24] sz25 (Kd.upto_E sub25)
theorem k25_open {w : World} {x : S25} {cs : List Value} (h : k25.K w x cs) : ∃ A3 c3, cs = [.int .i64 x.f0, .int .i64 x.f1, .string x.f2, .slice A3 x.f3.length c3] ∧ x.f3.length ≤ c3 ∧ k25.C w A3 x.f3.length x.f3 := by
 obtain ⟨n, h⟩ := h
 cases n with
 | zero => exact h.elim
 | succ n =>
  obtain ⟨_, _, rfl, rfl, ⟨_, _, rfl, rfl, ⟨_, _, rfl, rfl, ⟨A3, c3, rfl, l3, g3⟩⟩⟩⟩ := h
  exact ⟨A3, c3, rfl, l3, Kd.fix_C g3⟩
theorem k25_mk (w : World) (x : S25) {A3 : Option Addr} {c3 : Nat} (l3 : x.f3.length ≤ c3) (g3 : k25.C w A3 x.f3.length x.f3) : k25.K w x [.int .i64 x.f0, .int .i64 x.f1, .string x.f2, .slice A3 x.f3.length c3] := by
 obtain ⟨n3, q3⟩ := Kd.fix_C_back mono25 g3
 have r3 := Kd.upto_C_le mono25 sz25 (show n3 ≤ n3 by omega) q3
 exact ⟨n3 + 1, ⟨[.int .i64 x.f0], [.int .i64 x.f1, .string x.f2, .slice A3 x.f3.length c3], rfl, rfl, ⟨[.int .i64 x.f1], [.string x.f2, .slice A3 x.f3.length c3], rfl, rfl, ⟨[.string x.f2], [.slice A3 x.f3.length c3], rfl, rfl, ⟨A3, c3, rfl, l3, r3⟩⟩⟩⟩⟩
theorem k25_mkM (w : World) (base : Nat) (ok : Nat → Prop) (x : S25) {v3 : Value} (g3 : k25.R 24 w base ok v3 x.f3) : k25.M w base ok x [.int .i64 x.f0, .int .i64 x.f1, .string x.f2, v3] := by
 obtain ⟨n3, q3⟩ := Kd.fix_R_back mono25 g3
 have r3 := Kd.upto_R_le mono25 sz25 (show n3 ≤ n3 by omega) q3
 exact ⟨n3 + 1, ⟨[.int .i64 x.f0], [.int .i64 x.f1, .string x.f2, v3], rfl, rfl, ⟨[.int .i64 x.f1], [.string x.f2, v3], rfl, rfl, ⟨[.string x.f2], [v3], rfl, rfl, ⟨v3, rfl, r3⟩⟩⟩⟩⟩
def rd_T25 (xs : List S25) (i : Int) : S25 := xs.getD i.toNat z25
theorem at_T25 {w : World} {A : Option Addr} {n : Nat} {xs : List S25} (h : Kd.C k25 w A n xs) (i : Int) (h0 : 0 ≤ i) (h1 : i < n) : ∃ ad A3 c3, A = some ad ∧ w.cell? (ad.add (i.toNat * 4)) = some (.int .i64 (rd_T25 xs i).f0) ∧ w.cell? ⟨(ad.add (i.toNat * 4)).block, (ad.add (i.toNat * 4)).off + 1, none⟩ = some (.int .i64 (rd_T25 xs i).f1) ∧ w.cell? ⟨(ad.add (i.toNat * 4)).block, (ad.add (i.toNat * 4)).off + 2, none⟩ = some (.string (rd_T25 xs i).f2) ∧ w.cell? ⟨(ad.add (i.toNat * 4)).block, (ad.add (i.toNat * 4)).off + 3, none⟩ = some (.slice A3 (rd_T25 xs i).f3.length c3) ∧ (rd_T25 xs i).f3.length ≤ c3 ∧ k25.C w A3 (rd_T25 xs i).f3.length (rd_T25 xs i).f3 := by
 obtain ⟨ad, c, e, _, hK, hc0⟩ := Kd.C_get h z25 i h0 h1
 have hc : ∀ j u, c[j]? = some u → w.cell? (ad.add (i.toNat * 4 + j)) = some u := hc0
 obtain ⟨A3, c3, rfl, l3, g3⟩ := k25_open hK
 exact ⟨ad, A3, c3, e, hc 0 _ rfl, by rw [← add_field _ _ 1 (by omega)]; exact hc 1 _ rfl, by rw [← add_field _ _ 2 (by omega)]; exact hc 2 _ rfl, by rw [← add_field _ _ 3 (by omega)]; exact hc 3 _ rfl, l3, g3⟩

/-! #### struct type 121 -/
structure S121 where
 f0 : ByteArray
 f1 : (List S25)
def z121 : S121 := ⟨(⟨#[]⟩ : ByteArray), ([] : List S25)⟩
def k121 : Kd S121 := Kd.iso (Kd.pair Kd.string (Kd.slice 24 k25)) (fun x : S121 => (x.f0, x.f1))
theorem k121_open {w : World} {x : S121} {cs : List Value} (h : k121.K w x cs) : ∃ A1 c1, cs = [.string x.f0, .slice A1 x.f1.length c1] ∧ x.f1.length ≤ c1 ∧ k25.C w A1 x.f1.length x.f1 := by
 obtain ⟨_, _, rfl, rfl, ⟨A1, c1, rfl, l1, g1⟩⟩ := h
 exact ⟨A1, c1, rfl, l1, g1⟩
theorem k121_mkM (w : World) (base : Nat) (ok : Nat → Prop) (x : S121) {v1 : Value} (g1 : k25.R 24 w base ok v1 x.f1) : k121.M w base ok x [.string x.f0, v1] := ⟨[.string x.f0], [v1], rfl, rfl, ⟨v1, rfl, g1⟩⟩
def rd_T121 (xs : List S121) (i : Int) : S121 := xs.getD i.toNat z121
theorem at_T121 {w : World} {A : Option Addr} {n : Nat} {xs : List S121} (h : Kd.C k121 w A n xs) (i : Int) (h0 : 0 ≤ i) (h1 : i < n) : ∃ ad A1 c1, A = some ad ∧ w.cell? (ad.add (i.toNat * 2)) = some (.string (rd_T121 xs i).f0) ∧ w.cell? ⟨(ad.add (i.toNat * 2)).block, (ad.add (i.toNat * 2)).off + 1, none⟩ = some (.slice A1 (rd_T121 xs i).f1.length c1) ∧ (rd_T121 xs i).f1.length ≤ c1 ∧ k25.C w A1 (rd_T121 xs i).f1.length (rd_T121 xs i).f1 := by
 obtain ⟨ad, c, e, _, hK, hc0⟩ := Kd.C_get h z121 i h0 h1
 have hc : ∀ j u, c[j]? = some u → w.cell? (ad.add (i.toNat * 2 + j)) = some u := hc0
 obtain ⟨A1, c1, rfl, l1, g1⟩ := k121_open hK
 exact ⟨ad, A1, c1, e, hc 0 _ rfl, by rw [← add_field _ _ 1 (by omega)]; exact hc 1 _ rfl, l1, g1⟩

/-! #### struct type 28 -/
structure S28 where
 f0 : ByteArray
 f1 : S25
 f2 : (List Int)
def z28 : S28 := ⟨(⟨#[]⟩ : ByteArray), z25, ([] : List Int)⟩
def k28 : Kd S28 := Kd.iso (Kd.pair Kd.string (Kd.pair k25 (Kd.slice 3 (Kd.int .i64)))) (fun x : S28 => (x.f0, x.f1, x.f2))
theorem k28_open {w : World} {x : S28} {cs : List Value} (h : k28.K w x cs) : ∃ A4 c4 A5 c5, cs = [.string x.f0, .int .i64 x.f1.f0, .int .i64 x.f1.f1, .string x.f1.f2, .slice A4 x.f1.f3.length c4, .slice A5 x.f2.length c5] ∧ x.f1.f3.length ≤ c4 ∧ k25.C w A4 x.f1.f3.length x.f1.f3 ∧ x.f2.length ≤ c5 ∧ (Kd.int .i64).C w A5 x.f2.length x.f2 := by
 obtain ⟨_, _, rfl, rfl, ⟨_, _, rfl, s1, ⟨A5, c5, rfl, l5, g5⟩⟩⟩ := h
 obtain ⟨A4, c4, rfl, l4, g4⟩ := k25_open s1
 exact ⟨A4, c4, A5, c5, rfl, l4, g4, l5, g5⟩
theorem k28_mkM (w : World) (base : Nat) (ok : Nat → Prop) (x : S28) {v4 : Value} (g4 : k25.R 24 w base ok v4 x.f1.f3) {v5 : Value} (g5 : (Kd.int .i64).R 3 w base ok v5 x.f2) : k28.M w base ok x [.string x.f0, .int .i64 x.f1.f0, .int .i64 x.f1.f1, .string x.f1.f2, v4, v5] := ⟨[.string x.f0], [.int .i64 x.f1.f0, .int .i64 x.f1.f1, .string x.f1.f2, v4, v5], rfl, rfl, ⟨[.int .i64 x.f1.f0, .int .i64 x.f1.f1, .string x.f1.f2, v4], [v5], rfl, (k25_mkM w base ok x.f1 g4), ⟨v5, rfl, g5⟩⟩⟩
def rd_T28 (xs : List S28) (i : Int) : S28 := xs.getD i.toNat z28
theorem at_T28 {w : World} {A : Option Addr} {n : Nat} {xs : List S28} (h : Kd.C k28 w A n xs) (i : Int) (h0 : 0 ≤ i) (h1 : i < n) : ∃ ad A4 c4 A5 c5, A = some ad ∧ w.cell? (ad.add (i.toNat * 6)) = some (.string (rd_T28 xs i).f0) ∧ w.cell? ⟨(ad.add (i.toNat * 6)).block, (ad.add (i.toNat * 6)).off + 1, none⟩ = some (.int .i64 (rd_T28 xs i).f1.f0) ∧ w.cell? ⟨(ad.add (i.toNat * 6)).block, (ad.add (i.toNat * 6)).off + 2, none⟩ = some (.int .i64 (rd_T28 xs i).f1.f1) ∧ w.cell? ⟨(ad.add (i.toNat * 6)).block, (ad.add (i.toNat * 6)).off + 3, none⟩ = some (.string (rd_T28 xs i).f1.f2) ∧ w.cell? ⟨(ad.add (i.toNat * 6)).block, (ad.add (i.toNat * 6)).off + 4, none⟩ = some (.slice A4 (rd_T28 xs i).f1.f3.length c4) ∧ w.cell? ⟨(ad.add (i.toNat * 6)).block, (ad.add (i.toNat * 6)).off + 5, none⟩ = some (.slice A5 (rd_T28 xs i).f2.length c5) ∧ (rd_T28 xs i).f1.f3.length ≤ c4 ∧ k25.C w A4 (rd_T28 xs i).f1.f3.length (rd_T28 xs i).f1.f3 ∧ (rd_T28 xs i).f2.length ≤ c5 ∧ (Kd.int .i64).C w A5 (rd_T28 xs i).f2.length (rd_T28 xs i).f2 := by
 obtain ⟨ad, c, e, _, hK, hc0⟩ := Kd.C_get h z28 i h0 h1
 have hc : ∀ j u, c[j]? = some u → w.cell? (ad.add (i.toNat * 6 + j)) = some u := hc0
 obtain ⟨A4, c4, A5, c5, rfl, l4, g4, l5, g5⟩ := k28_open hK
 exact ⟨ad, A4, c4, A5, c5, e, hc 0 _ rfl, by rw [← add_field _ _ 1 (by omega)]; exact hc 1 _ rfl, by rw [← add_field _ _ 2 (by omega)]; exact hc 2 _ rfl, by rw [← add_field _ _ 3 (by omega)]; exact hc 3 _ rfl, by rw [← add_field _ _ 4 (by omega)]; exact hc 4 _ rfl, by rw [← add_field _ _ 5 (by omega)]; exact hc 5 _ rfl, l4, g4, l5, g5⟩

/-! #### struct type 204 -/
structure S204 where
 f0 : Int
 f1 : Int
 f2 : ByteArray
 f3 : Int
def k204 : Kd S204 := Kd.iso (Kd.pair (Kd.int .i64) (Kd.pair (Kd.int .i64) (Kd.pair Kd.string (Kd.int .i64)))) (fun x : S204 => (x.f0, x.f1, x.f2, x.f3))
theorem k204_mkM (w : World) (base : Nat) (ok : Nat → Prop) (x : S204)  : k204.M w base ok x [.int .i64 x.f0, .int .i64 x.f1, .string x.f2, .int .i64 x.f3] := ⟨[.int .i64 x.f0], [.int .i64 x.f1, .string x.f2, .int .i64 x.f3], rfl, rfl, ⟨[.int .i64 x.f1], [.string x.f2, .int .i64 x.f3], rfl, rfl, ⟨[.string x.f2], [.int .i64 x.f3], rfl, rfl, rfl⟩⟩⟩
/-! #### struct type 108 -/
structure S108 where
 f0 : Int
 f1 : Int
def z108 : S108 := ⟨(0 : Int), (0 : Int)⟩
def k108 : Kd S108 := Kd.iso (Kd.pair (Kd.int .i64) (Kd.int .u32)) (fun x : S108 => (x.f0, x.f1))
theorem k108_open {w : World} {x : S108} {cs : List Value} (h : k108.K w x cs) : cs = [.int .i64 x.f0, .int .u32 x.f1] := by
 obtain ⟨_, _, rfl, rfl, rfl⟩ := h
 exact rfl
theorem k108_mkM (w : World) (base : Nat) (ok : Nat → Prop) (x : S108)  : k108.M w base ok x [.int .i64 x.f0, .int .u32 x.f1] := ⟨[.int .i64 x.f0], [.int .u32 x.f1], rfl, rfl, rfl⟩
def rd_T108 (xs : List S108) (i : Int) : S108 := xs.getD i.toNat z108
theorem at_T108 {w : World} {A : Option Addr} {n : Nat} {xs : List S108} (h : Kd.C k108 w A n xs) (i : Int) (h0 : 0 ≤ i) (h1 : i < n) : ∃ ad , A = some ad ∧ w.cell? (ad.add (i.toNat * 2)) = some (.int .i64 (rd_T108 xs i).f0) ∧ w.cell? ⟨(ad.add (i.toNat * 2)).block, (ad.add (i.toNat * 2)).off + 1, none⟩ = some (.int .u32 (rd_T108 xs i).f1) := by
 obtain ⟨ad, c, e, _, hK, hc0⟩ := Kd.C_get h z108 i h0 h1
 have hc : ∀ j u, c[j]? = some u → w.cell? (ad.add (i.toNat * 2 + j)) = some u := hc0
 obtain rfl := k108_open hK
 exact ⟨ad, e, hc 0 _ rfl, by rw [← add_field _ _ 1 (by omega)]; exact hc 1 _ rfl⟩

end Go.Proofs.YthmkioodkldgbaaGreat.PD
/- Words for memory: what one step may have written, rows of bytes of one's own; conditions: those in each theorem. -/
namespace Go.Proofs.YthmkioodkldgbaaGreat.DK
open Go.RowKit Go.Proofs.YthmkioodkldgbaaGreatW.PrintWords Go.Proofs.YthmkioodkldgbaaGreatW.PrintLast Go.Proofs.YthmkioodkldgbaaGreatW.PrintMore
set_option linter.unusedVariables false
/-- Of what was there, blocks of X alone may have been written. -/
structure Upd (X : Nat → Prop) (w w' : World) : Prop where
 os : w'.os = w.os
 tape : w'.tape = w.tape
 output : w'.output = w.output
 size : w.heap.size ≤ w'.heap.size
 same : ∀ k, k < w.heap.size → ¬ X k → w'.heap[k]? = w.heap[k]?
namespace Upd
variable {X Y Z : Nat → Prop} {w w1 w2 : World}
theorem refl (X : Nat → Prop) (w : World) : Upd X w w := ⟨rfl, rfl, rfl, Nat.le_refl _, fun _ _ _ => rfl⟩
theorem trans (h : Upd X w w1) (k : Upd Y w1 w2) (hX : ∀ b, X b → Z b) (hY : ∀ b, b < w.heap.size → Y b → Z b) : Upd Z w w2 :=
 ⟨k.os.trans h.os, k.tape.trans h.tape, k.output.trans h.output, Nat.le_trans h.size k.size, fun b hb hn => (k.same b (Nat.lt_of_lt_of_le hb h.size) (fun hy => hn (hY b hb hy))).trans (h.same b hb (fun hx => hn (hX b hx)))⟩
theorem mono (h : Upd X w w1) (hX : ∀ b, b < w.heap.size → X b → Z b) : Upd Z w w1 := ⟨h.os, h.tape, h.output, h.size, fun b hb hn => h.same b hb (fun hx => hn (hX b hb hx))⟩
/-- One after the other, both within X (and what is new). -/
theorem seq (h : Upd X w w1) (k : Upd (fun b => X b ∨ w.heap.size ≤ b) w1 w2) : Upd X w w2 := h.trans k (fun _ h => h) (fun b hb hx => hx.elim id (fun h => absurd hb (Nat.not_lt.2 h)))
theorem drew (h : Upd X w w1) : Upd X w w1.drew := ⟨h.os, h.tape, h.output, h.size, h.same⟩
theorem drewN (h : Upd X w w1) (n : Nat) : Upd X w (w1.drewN n) := ⟨h.os, h.tape, h.output, h.size, h.same⟩
theorem alloc (h : Upd X w w1) (o : Obj) : Upd X w (w1.alloc o) :=
 ⟨h.os, h.tape, h.output, by simp; have := h.size; omega, fun b hb hn => (Below.heap_alloc w1 o b (Nat.lt_of_lt_of_le hb h.size)).trans (h.same b hb hn)⟩
theorem set (h : Upd X w w1) {p : Addr} (hp : X p.block ∨ w.heap.size ≤ p.block) (u : Value) : Upd X w (w1.setCell p u) :=
 ⟨h.os, h.tape, h.output, by simpa [World.setCell] using h.size, fun b hb hn => (Below.heap_setCell w1 p u b (fun e => by subst e; exact hp.elim hn (fun h => by omega))).trans (h.same b hb hn)⟩
theorem grown (h : Upd X w w1) {row : Option Nat} (hg : w1.grownBy w2 row) (hr : ∀ k, row = some k → X k ∨ w.heap.size ≤ k) : Upd X w w2 :=
 ⟨hg.os.trans h.os, hg.tape.trans h.tape, hg.output.trans h.output, Nat.le_trans h.size hg.size, fun b hb hn => (hg.block b (Nat.lt_of_lt_of_le hb h.size) (fun e => (hr b e.symm).elim hn (fun h => by omega))).trans (h.same b hb hn)⟩
theorem of_below (hb : Below w.heap.size w w1) (X : Nat → Prop) : Upd X w w1 := ⟨hb.os, hb.tape, hb.output, hb.size, fun k hk _ => hb.block k hk⟩
theorem below (h : Upd X w w1) {B : Nat} (hB : B ≤ w.heap.size) (hX : ∀ k, X k → B ≤ k) : Below B w w1 := ⟨h.os, h.tape, h.output, h.size, fun k hk => h.same k (Nat.lt_of_lt_of_le hk hB) (fun hx => by have := hX k hx; omega)⟩
theorem set1 {p : Nat} (h : Upd (fun k => k = p) w w1) (i : Nat) (u : Value) : Upd (fun k => k = p) w (w1.setCell ⟨p, i, none⟩ u) := h.set (.inl rfl) u
end Upd
/-- X and what is new. -/
def More (X : Nat → Prop) (w w' : World) : Nat → Prop := fun k => X k ∨ (w.heap.size ≤ k ∧ k < w'.heap.size)
/-- A row of bytes of one's own. -/
def Row (w : World) (v : Value) (xs : List Int) : Prop := (Kd.int .u8).R 5 w 0 (fun _ => True) v xs
theorem Row.same {w w' : World} {v : Value} {xs : List Int} (h : Row w v xs) (hs : ∀ k, v.ownBlock = some k → w'.heap[k]? = w.heap[k]?) : Row w' v xs :=
 Kd.R_mono (Kd.R_move (Kd.R_tight rfl h) (fun k hk => hs k hk.symm)) (fun _ _ => trivial)
theorem Row.lt {w : World} {v : Value} {xs : List Int} (h : Row w v xs) {k : Nat} (hk : v.ownBlock = some k) : k < w.heap.size := Kd.R_lt h k hk
/-- No block of both. -/
def Dis (u v : Value) : Prop := ∀ k, u.ownBlock = some k → v.ownBlock ≠ some k
theorem Dis.symm {u v : Value} (h : Dis u v) : Dis v u := fun k hk hu => h k hu hk
theorem More.of {X : Nat → Prop} {w w' : World} {k : Nat} (h : X k) : More X w w' k := .inl h
theorem More.trans {X : Nat → Prop} {w w1 w2 : World} (h1 : w.heap.size ≤ w1.heap.size) (h2 : w1.heap.size ≤ w2.heap.size) (k : Nat) : More (More X w w1) w1 w2 k ↔ More X w w2 k := by
 unfold More
 constructor
 ·rintro ((h | h) | h)
  ·exact .inl h
  ·exact .inr (by omega)
  ·exact .inr (by omega)
 ·rintro (h | h)
  ·exact .inl (.inl h)
  ·by_cases hk : k < w1.heap.size
   ·exact .inl (.inr ⟨h.1, hk⟩)
   ·exact .inr (by omega)
/-- A cell of a block set. -/
theorem blk_set {w : World} {g i t : Nat} {cs : Array Value} {v : Value} (h : w.heap[g]? = some (.cells cs t (0, 0))) : (w.setCell ⟨g, i, none⟩ v).heap[g]? = some (.cells (cs.setIfInBounds i v) t (0, 0)) := by
 simp [World.setCell, Array.getElem?_modify, h]
theorem blk_alloc {w : World} {g : Nat} {o : Obj} (h : w.heap[g]? = some o) (o' : Obj) : (w.alloc o').heap[g]? = some o := (Below.heap_alloc w o' g (blk_lt h)).trans h
theorem blk_drew {w : World} {g : Nat} {o : Obj} (h : w.heap[g]? = some o) : w.drew.heap[g]? = some o := h
theorem blk_upd {w w' : World} {X : Nat → Prop} {g : Nat} {o : Obj} (h : w.heap[g]? = some o) (hu : Upd X w w') (hx : ¬ X g) : w'.heap[g]? = some o := (hu.same g (blk_lt h) hx).trans h
/-- What a store does to a block. -/
def setObjCell (i : Nat) (v : Value) : Obj → Obj
 | .cells c e f => .cells (c.setIfInBounds i v) e f
 | o => o
theorem heap_set (w : World) (g i : Nat) (v : Value) : (w.setCell ⟨g, i, none⟩ v).heap[g]? = (w.heap[g]?).map (setObjCell i v) := by
 simp only [World.setCell, Array.getElem?_modify]
 rw [if_pos trivial]
 cases w.heap[g]? with
 | none => rfl
 | some o => cases o <;> rfl
theorem heap_alloc_lt (w : World) (o : Obj) (k : Nat) (h : k < w.heap.size) : (w.alloc o).heap[k]? = w.heap[k]? := Below.heap_alloc w o k h
theorem w64 {x : Int} (h0 : -9223372036854775808 ≤ x) (h1 : x ≤ 9223372036854775807) : wrap64 x = x := by unfold wrap64; omega
theorem cell_old {w w1 : World} (hb : Below w.heap.size w w1) {a : Addr} {v : Value} (h : w.cell? a = some v) : w1.cell? a = some v :=
 (hb.cell (World.block_lt_of_cell? w a h)).trans h
end Go.Proofs.YthmkioodkldgbaaGreat.DK
/- Words for memory: rows of bytes of one's own that are laid on; conditions: those in each theorem. -/
namespace Go.Proofs.YthmkioodkldgbaaGreat.DK
open Go.Proofs.YthmkioodkldgbaaGreat.PD
open Go.RowKit Go.Proofs.YthmkioodkldgbaaGreatW.PrintWords Go.Proofs.YthmkioodkldgbaaGreatW.PrintLast Go.Proofs.YthmkioodkldgbaaGreatW.PrintMore
set_option linter.unusedVariables false
/-- A row of bytes of one's own, of a block from b on. -/
def R5 (b : Nat) (w : World) (v : Value) (xs : List Int) : Prop := w.ownsRow b 5 1 v xs.length (nums .u8 xs)
/-- Written: blocks of bytes from b on alone. -/
structure U5 (b : Nat) (w w' : World) : Prop where
 os : w'.os = w.os
 tape : w'.tape = w.tape
 output : w'.output = w.output
 size : w.heap.size ≤ w'.heap.size
 same : ∀ k, k < w.heap.size → (k < b ∨ ∀ cs, w.heap[k]? ≠ some (.cells cs 5 (0, 0))) → w'.heap[k]? = w.heap[k]?
namespace U5
variable {b : Nat} {w w1 w2 : World}
theorem refl (b : Nat) (w : World) : U5 b w w := ⟨rfl, rfl, rfl, Nat.le_refl _, fun _ _ _ => rfl⟩
theorem trans (h : U5 b w w1) (k : U5 b w1 w2) : U5 b w w2 :=
 ⟨k.os.trans h.os, k.tape.trans h.tape, k.output.trans h.output, Nat.le_trans h.size k.size, fun q hq hn => by
  have e := h.same q hq hn
  exact (k.same q (Nat.lt_of_lt_of_le hq h.size) (hn.imp id (fun hn cs => by rw [e]; exact hn cs))).trans e⟩
theorem of_below (hb : Below w.heap.size w w1) : U5 b w w1 := ⟨hb.os, hb.tape, hb.output, hb.size, fun k hk _ => hb.block k hk⟩
theorem drew (h : U5 b w w1) : U5 b w w1.drew := ⟨h.os, h.tape, h.output, h.size, h.same⟩
theorem drewN (h : U5 b w w1) (n : Nat) : U5 b w (w1.drewN n) := ⟨h.os, h.tape, h.output, h.size, h.same⟩
theorem alloc (h : U5 b w w1) (o : Obj) : U5 b w (w1.alloc o) := h.trans (of_below (below_alloc (Below.refl _ _) o))
theorem below (h : U5 b w w1) (hb : b ≤ w.heap.size) : Below b w w1 := ⟨h.os, h.tape, h.output, h.size, fun k hk => h.same k (Nat.lt_of_lt_of_le hk hb) (.inl hk)⟩
theorem grown (h : U5 b w w1) {v : Value} {n : Nat} {xs : List Value} (ho : w1.ownsRow b 5 1 v n xs) (hg : w1.grownBy w2 v.ownBlock) : U5 b w w2 :=
 h.trans ⟨hg.os, hg.tape, hg.output, hg.size, fun k hk hn => hg.block k hk (fun e => by
  have h1 := own_base ho k e.symm
  obtain ⟨cs, hc⟩ := own_typed ho k e.symm
  exact hn.elim (fun h => by omega) (fun h => h cs hc))⟩
/-- A block of another type is as it was. -/
theorem blk (h : U5 b w w1) {g t : Nat} {cs : Array Value} (hb : w.heap[g]? = some (.cells cs t (0, 0))) (ht : t ≠ 5) : w1.heap[g]? = some (.cells cs t (0, 0)) :=
 (h.same g (blk_lt hb) (.inr (fun cs' e => ht (by rw [hb] at e; injection e with e; injection e)))).trans hb
end U5
namespace R5
variable {b : Nat} {w w1 : World} {v : Value} {xs : List Int}
theorem nil (b : Nat) (w : World) : R5 b w (.slice none 0 0) [] := own_nil _ _ _ _
theorem below (h : R5 b w v xs) (hb : Below w.heap.size w w1) : R5 b w1 v xs := pw_own_below h hb
theorem alloc (h : R5 b w v xs) (o : Obj) : R5 b (w.alloc o) v xs := h.below (below_alloc (Below.refl _ _) o)
theorem drew (h : R5 b w v xs) : R5 b w.drew v xs := h.below (below_drew (Below.refl _ _))
theorem drewN (h : R5 b w v xs) (n : Nat) : R5 b (w.drewN n) v xs := h.below (pw_below_drewN (Below.refl _ _) n)
theorem lower {b' : Nat} (h : R5 b w v xs) (hb : b' ≤ b) : R5 b' w v xs := own_weaken h hb
theorem reads (h : R5 b w v xs) : ∃ A c, v = .slice A xs.length c ∧ ReadsInt w .u8 A xs.length xs := own_reads h
/-- A store into a block of another type. -/
theorem set (h : R5 b w v xs) {g t : Nat} {cs : Array Value} (hb : w.heap[g]? = some (.cells cs t (0, 0))) (ht : t ≠ 5) (j : Nat) (u : Value) : R5 b (w.setCell ⟨g, j, none⟩ u) v xs :=
 own_setCell h (own_ne h hb (Ne.symm ht)) u
theorem lit (W : World) (b : Nat) (xs : List Int) (hb : b ≤ W.heap.size) (hm : xs.length ≤ 9223372036854775807) : R5 b (W.alloc (.cells (nums .u8 xs).toArray 5)) (.slice (some ⟨W.heap.size, 0, none⟩) xs.length xs.length) xs := own_lit W b 5 .u8 xs hb hm
end R5
/-- What is answered: zs, in a row of one's own. -/
def Ext (b : Nat) (w : World) (zs : List Int) (e : Ending) (w' : World) : Prop := ∃ u, e = .returned u ∧ R5 b w' u zs ∧ U5 b w w'
/-- Made anew. -/
def Bytes5 (w : World) (zs : List Int) (e : Ending) (w' : World) : Prop := ∃ u, e = .returned u ∧ R5 w.heap.size w' u zs ∧ Below w.heap.size w w'
section
variable {ops : Array Oper} {rest : List Oper} {o : Oper} {a : Act} {Q : Exit → Act → World → Prop} {W : World} {b : Nat}
theorem app1 (hgd : o.guard = none) (s x : Operand) (ho : o.op = .call { callee := .builtin .append, args := #[s, x], argTypes := #[49, 49] })
  (v : Value) (xs : List Int) (y : Int) (hs : a.eval s = v) (hx : a.eval x = .slice (some ⟨W.heap.size, 0, none⟩) 1 1) (HO : R5 b W v xs) (hb : b ≤ W.heap.size) (hl : xs.length + 1 ≤ 140737488355328)
  (h : ∀ v1 w1, R5 b w1 v1 (xs ++ [y]) → U5 b W w1 → wpList Tryz.prog ops Q rest (a.put o.dst v1) w1) :
  wpList Tryz.prog ops Q (o :: rest) a (W.alloc (.cells #[.int .u8 y] 5)) :=
 print_append_num (w0 := W) b hgd s x 49 5 .u8 1 ho Tryz.underlying49 info5 (by decide) v xs y hs hx HO (Below.refl _ _) hb (by omega)
  (fun v1 w1 hown _ hg _ => h v1 w1 hown ((U5.refl b W).grown HO hg))
theorem appRow (hgd : o.guard = none) (s x : Operand) (ho : o.op = .call { callee := .builtin .append, args := #[s, x], argTypes := #[49, 49] })
  (v : Value) (xs ys : List Int) (A : Option Addr) (m c : Nat) (hs : a.eval s = v) (hx : a.eval x = .slice A m c) (HO : R5 b W v xs) (HR : ReadsInt W .u8 A m ys) (hb : b ≤ W.heap.size) (hl : xs.length + ys.length ≤ 140737488355328)
  (h : ∀ v1 w1, R5 b w1 v1 (xs ++ ys) → U5 b W w1 → wpList Tryz.prog ops Q rest (a.put o.dst v1) w1) :
  wpList Tryz.prog ops Q (o :: rest) a W :=
 print_append_row (w0 := W) b hgd s x 49 5 .u8 1 ho Tryz.underlying49 info5 (by decide) v xs ys A m c hs hx HO HR (Below.refl _ _) hb (by have := HR.1; omega)
  (fun v1 w1 hown _ hg _ => h v1 w1 hown ((U5.refl b W).grown HO hg))
theorem appOwn (hgd : o.guard = none) (s x : Operand) (ho : o.op = .call { callee := .builtin .append, args := #[s, x], argTypes := #[49, 49] })
  (v u : Value) (xs ys : List Int) (hs : a.eval s = v) (hx : a.eval x = u) (HO : R5 b W v xs) {b' : Nat} (HR : R5 b' W u ys) (hb : b ≤ W.heap.size) (hl : xs.length + ys.length ≤ 140737488355328)
  (h : ∀ v1 w1, R5 b w1 v1 (xs ++ ys) → U5 b W w1 → wpList Tryz.prog ops Q rest (a.put o.dst v1) w1) :
  wpList Tryz.prog ops Q (o :: rest) a W := by
 obtain ⟨A, c, rfl, hr⟩ := HR.reads
 exact appRow hgd s x ho v xs ys A ys.length c hs hx HO hr hb hl h
theorem appLit (hgd : o.guard = none) (s x : Operand) (ho : o.op = .call { callee := .builtin .append, args := #[s, x], argTypes := #[49, 49] })
  (v : Value) (xs ys : List Int) (hs : a.eval s = v) (cells : Array Value) (hc : cells = (nums .u8 ys).toArray) (n : Nat) (hn : n = ys.length) (g : Nat) (hx : a.eval x = .slice (some ⟨g, 0, none⟩) n n) (hg : g = W.heap.size) (HO : R5 b W v xs) (hb : b ≤ W.heap.size) (hl : xs.length + ys.length ≤ 140737488355328)
  (h : ∀ v1 w1, R5 b w1 v1 (xs ++ ys) → U5 b W w1 → wpList Tryz.prog ops Q rest (a.put o.dst v1) w1) :
  wpList Tryz.prog ops Q (o :: rest) a (W.alloc (.cells cells 5)) := by
 subst hc hn hg
 have hr := R5.lit W 0 ys (Nat.zero_le _) (by omega)
 obtain ⟨A, c, he, hr⟩ := hr.reads
 injection he with e1 e2 e3
 subst e1 e3
 exact appRow hgd s x ho v xs ys _ ys.length _ hs hx (HO.alloc _) hr (by simp; omega) hl (fun v1 w1 h1 h2 => h v1 w1 h1 (((U5.refl b W).alloc _).trans h2))
theorem appStr (hgd : o.guard = none) (s x : Operand) (ho : o.op = .call { callee := .builtin .append, args := #[s, x], argTypes := #[49, 9] })
  (v : Value) (xs : List Int) (y : ByteArray) (hs : a.eval s = v) (hx : a.eval x = .string y) (HO : R5 b W v xs) (hb : b ≤ W.heap.size) (hl : xs.length + y.size ≤ 140737488355328)
  (h : ∀ v1 w1, R5 b w1 v1 (xs ++ bytesOf y) → U5 b W w1 → wpList Tryz.prog ops Q rest (a.put o.dst v1) w1) :
  wpList Tryz.prog ops Q (o :: rest) a W :=
 print_append_str (w0 := W) b hgd s x 49 9 5 ho Tryz.underlying49 Tryz.underlying9 info5 v xs y hs hx HO (Below.refl _ _) hb hl
  (fun v1 w1 hown _ hg => h v1 w1 hown ((U5.refl b W).grown HO hg))
end
section
variable {ops : Array Oper} {o : Oper} {a : Act} {Q : Exit → Act → World → Prop} {Kc : Act → World → Prop} {W : World} {b : Nat}
theorem appRow_step (hw : Region.wanted o (yielded ops a.tmps) = true) (s x : Operand) (ho : o.op = .call { callee := .builtin .append, args := #[s, x], argTypes := #[49, 49] })
  (v : Value) (xs ys : List Int) (A : Option Addr) (m c : Nat) (hs : a.eval s = v) (hx : a.eval x = .slice A m c) (HO : R5 b W v xs) (HR : ReadsInt W .u8 A m ys) (hb : b ≤ W.heap.size) (hl : xs.length + ys.length ≤ 140737488355328)
  (h : ∀ v1 w1, R5 b w1 v1 (xs ++ ys) → U5 b W w1 → Kc (a.put o.dst v1) w1) :
  if Region.wanted o (yielded ops a.tmps) = true then Oper.wp Tryz.prog o a W Kc Q else Kc (a.put o.dst undef) W :=
 Kd.R_append_rows_step (Kd.int .u8) (w0 := W) (Rr := fun x cs => cs = [.int .u8 x]) b hw s x 49 5 (.int .u8 0) 1 ho Tryz.underlying49 info5 rfl (by decide) (by decide) v xs ys A m c (fun _ => True) (fun _ => False) hs hx
  (Kd.R_of_own HO (fun _ _ => trivial)) (Kd.C_of_reads (enc := Value.int .u8) (d := (0 : Int)) (h1 := fun _ => rfl) HR) (fun _ _ h => h) (fun _ h => h.elim) (fun _ _ => trivial) (Below.refl _ _) hb (by have := HR.1; omega)
  (fun v1 w1 h1 _ hg _ => h v1 w1 (Kd.own_of_R h1) ((U5.refl b W).grown HO hg))
theorem appLit_step (hw : Region.wanted o (yielded ops a.tmps) = true) (s x : Operand) (ho : o.op = .call { callee := .builtin .append, args := #[s, x], argTypes := #[49, 49] })
  (v : Value) (xs ys : List Int) (hs : a.eval s = v) (w0 : World) (cells : Array Value) (hW : ∃ d, W = (w0.alloc (.cells cells 5)).drewN d) (hc : cells = (nums .u8 ys).toArray) (n : Nat) (hn : n = ys.length) (g : Nat) (hx : a.eval x = .slice (some ⟨g, 0, none⟩) n n) (hg : g = w0.heap.size) (HO : R5 b w0 v xs) (hb : b ≤ w0.heap.size) (hl : xs.length + ys.length ≤ 140737488355328)
  (h : ∀ v1 w1, R5 b w1 v1 (xs ++ ys) → U5 b w0 w1 → Kc (a.put o.dst v1) w1) :
  if Region.wanted o (yielded ops a.tmps) = true then Oper.wp Tryz.prog o a W Kc Q else Kc (a.put o.dst undef) W := by
 obtain ⟨d, rfl⟩ := hW
 subst hc hn hg
 have hr := (R5.lit w0 0 ys (Nat.zero_le _) (by omega)).drewN d
 obtain ⟨A, c, he, hr⟩ := hr.reads
 injection he with e1 e2 e3
 subst e1 e3
 exact appRow_step hw s x ho v xs ys _ ys.length _ hs hx ((HO.alloc _).drewN d) hr (by show b ≤ (w0.alloc _).heap.size; simp; omega) hl (fun v1 w1 h1 h2 => h v1 w1 h1 ((((U5.refl b w0).alloc _).drewN d).trans h2))
end
/-- A number's bytes, in groups of seven bits, the lowest first. -/
def grpN (n : Nat) : List Int := if 128 ≤ n then ((n % 128 + 128 : Nat) : Int) :: grpN (n / 128) else [(n : Int)]
def grp (n : Int) : List Int := grpN n.toNat
theorem grp_low {n : Int} (h0 : 0 ≤ n) (h : ¬ 128 ≤ n) : grp n = [n] := by
 unfold grp; rw [grpN, if_neg (by omega), Int.toNat_of_nonneg h0]
theorem grp_high {n : Int} (h : 128 ≤ n) : grp n = (n % 128 + 128) :: grp (n / 128) := by
 unfold grp; rw [grpN, if_pos (by omega)]
 congr 1
 ·omega
 ·congr 1; omega
theorem grpN_len (k n : Nat) (h : n < 128 ^ (k + 1)) : (grpN n).length ≤ k + 1 := by
 induction k generalizing n with
 | zero => rw [grpN, if_neg (by simpa using h)]; simp
 | succ k ih =>
  rw [grpN]
  split
  ·have := ih (n / 128) (by rw [Nat.div_lt_iff_lt_mul (by decide)]; simpa [Nat.pow_succ] using h)
   simp only [List.length_cons]; omega
  ·simp
theorem or128 : ∀ x : Fin 256, Go.bits .or .u8 (x.1 : Int) 128 = ((x.1 : Int) % 128 + 128) := by decide +kernel
theorem or128_at (n : Int) : Go.bits .or .u8 (n % 256) 128 = n % 128 + 128 := by
 have h := or128 ⟨(n % 256).toNat, by omega⟩
 have e : (((n % 256).toNat : Nat) : Int) = n % 256 := by omega
 simp only [e] at h
 rw [h]; omega
end Go.Proofs.YthmkioodkldgbaaGreat.DK
/- wire.putNumber, value.groups, eddyref4.groups, putWord, putKey: rows of bytes laid on; conditions: those in each theorem. -/
namespace Go.Proofs.YthmkioodkldgbaaGreat.DK
open Go.Proofs.YthmkioodkldgbaaGreat.PD
open Go.RowKit Go.Proofs.YthmkioodkldgbaaGreatW.PrintWords Go.Proofs.YthmkioodkldgbaaGreatW.PrintLast Go.Proofs.YthmkioodkldgbaaGreatW.PrintMore
set_option linter.unusedVariables false
set_option linter.unusedSimpArgs false
set_option maxRecDepth 100000
def NumE (K : IntKind) (hi : Int) (b : Nat) (w : World) (zs : List Int) (v n : Value) (wr : World) : Prop := ∃ (y : Int) (ys : List Int), n = .int K y ∧ 0 ≤ y ∧ y ≤ hi ∧ R5 b wr v ys ∧ U5 b w wr ∧ ys ++ grp y = zs
set_option maxHeartbeats 4000000 in
theorem putNumber_calls (b : Nat) (w : World) (v : Value) (xs : List Int) (n : Int) (h0 : 0 ≤ n) (h9 : n ≤ 9223372036854775807) (HO : R5 b w v xs) (hb : b ≤ w.heap.size) (hl : (xs ++ grp n).length ≤ 140737488355328) :
  Calls Tryz.prog 54 #[v, .int .i64 n] w (Ext b w (xs ++ grp n)) := by
 have HO' := Aside0.mk HO
 clear HO
 unfold Ext
 go_enter Tryz.func54, Tryz.ntmps54
 go_wp2
 go_loopw [0, 1] (fun u m wr => NumE .i64 9223372036854775807 b w (xs ++ grp n) u m wr) (fun _ m _ => (intOf m).toNat)
 case atStart => exact ⟨n, xs, rfl, h0, h9, HO'.out, U5.refl b w, rfl⟩
 case round =>
  obtain ⟨y, ys, rfl, hy0, hy9, hR, hU, he⟩ := hrel
  have HR := Aside0.mk hR
  have HU := Aside0.mk hU
  have HE := Aside0.mk he
  have hlen : ys.length + 1 ≤ 140737488355328 := by
   rw [← he] at hl
   have : 1 ≤ (grp y).length := by unfold grp; rw [grpN]; split <;> simp
   simp only [List.length_append] at hl; omega
  have hsz : b ≤ wr.heap.size := Nat.le_trans hb hU.size
  clear hR hU he
  by_cases hlt : 128 ≤ y
  ·have hq := or128_at y
   have hm : (y % 128 + 128) % 256 = y % 128 + 128 := by omega
   go_wp2_with (at_builtin; refine app1 rfl (.tmp 7) (.tmp 11) rfl _ ys (y % 128 + 128) rfl (by first | (go_simp; done) | (go_simp; rfl)) HR.out hsz hlen ?_; intro v1 w1 h1 h2; (have HR1 := Aside0.mk h1); (have HU1 := Aside0.mk h2); clear h1 h2)
   go_roundw
   case rel => exact ⟨y / 128, _, by simp, by omega, by omega, HR1.out, HU.out.trans HU1.out, by rw [List.append_assoc, ← HE.out, grp_high hlt]; rfl⟩
   case measure => simp [intOf]; omega
  ·have hy : y % 256 = y := by omega
   have hg := grp_low hy0 hlt
   have HG := Aside0.mk hg
   clear hg
   go_wp2_with (at_builtin; refine app1 rfl (.tmp 15) (.tmp 18) rfl _ ys (y) rfl (by first | (go_simp; done) | (go_simp; rfl)) HR.out hsz hlen ?_; intro v1 w1 h1 h2; (have HR1 := Aside0.mk h1); (have HU1 := Aside0.mk h2); clear h1 h2)
   go_ret
   have hfin := HR1.out
   rw [← HG.out, HE.out] at hfin
   exact ⟨v1, rfl, hfin, HU.out.trans HU1.out⟩
set_option maxHeartbeats 4000000 in
theorem groups_calls (b : Nat) (w : World) (v : Value) (xs : List Int) (n : Int) (h0 : 0 ≤ n) (h9 : n ≤ 18446744073709551615) (HO : R5 b w v xs) (hb : b ≤ w.heap.size) (hl : (xs ++ grp n).length ≤ 140737488355328) :
  Calls Tryz.prog 155 #[v, .int .u64 n] w (Ext b w (xs ++ grp n)) := by
 have HO' := Aside0.mk HO
 clear HO
 unfold Ext
 go_enter Tryz.func155, Tryz.ntmps155
 go_wp2
 go_loopw [0, 1] (fun u m wr => NumE .u64 18446744073709551615 b w (xs ++ grp n) u m wr) (fun _ m _ => (intOf m).toNat)
 case atStart => exact ⟨n, xs, rfl, h0, h9, HO'.out, U5.refl b w, rfl⟩
 case round =>
  obtain ⟨y, ys, rfl, hy0, hy9, hR, hU, he⟩ := hrel
  have HR := Aside0.mk hR
  have HU := Aside0.mk hU
  have HE := Aside0.mk he
  have hlen : ys.length + 1 ≤ 140737488355328 := by
   rw [← he] at hl
   have : 1 ≤ (grp y).length := by unfold grp; rw [grpN]; split <;> simp
   simp only [List.length_append] at hl; omega
  have hsz : b ≤ wr.heap.size := Nat.le_trans hb hU.size
  clear hR hU he
  by_cases hlt : 128 ≤ y
  ·have hq := or128_at y
   have hm : (y % 128 + 128) % 256 = y % 128 + 128 := by omega
   go_wp2_with (at_builtin; refine app1 rfl (.tmp 7) (.tmp 11) rfl _ ys (y % 128 + 128) rfl (by first | (go_simp; done) | (go_simp; rfl)) HR.out hsz hlen ?_; intro v1 w1 h1 h2; (have HR1 := Aside0.mk h1); (have HU1 := Aside0.mk h2); clear h1 h2)
   go_roundw
   case rel => exact ⟨y / 128, _, by simp, by omega, by omega, HR1.out, HU.out.trans HU1.out, by rw [List.append_assoc, ← HE.out, grp_high hlt]; rfl⟩
   case measure => simp [intOf]; omega
  ·have hy : y % 256 = y := by omega
   have hg := grp_low hy0 hlt
   have HG := Aside0.mk hg
   clear hg
   go_wp2_with (at_builtin; refine app1 rfl (.tmp 15) (.tmp 18) rfl _ ys (y) rfl (by first | (go_simp; done) | (go_simp; rfl)) HR.out hsz hlen ?_; intro v1 w1 h1 h2; (have HR1 := Aside0.mk h1); (have HU1 := Aside0.mk h2); clear h1 h2)
   go_ret
   have hfin := HR1.out
   rw [← HG.out, HE.out] at hfin
   exact ⟨v1, rfl, hfin, HU.out.trans HU1.out⟩
def word (n : Int) : List Int := [n % 256, n / 256 % 256, n / 65536 % 256, n / 16777216]
set_option maxHeartbeats 4000000 in
theorem putWord_calls (b : Nat) (w : World) (v : Value) (xs : List Int) (n : Int) (h0 : 0 ≤ n) (h9 : n ≤ 4294967295) (HO : R5 b w v xs) (hb : b ≤ w.heap.size) (hl : xs.length + 4 ≤ 140737488355328) :
  Calls Tryz.prog 55 #[v, .int .u32 n] w (Ext b w (xs ++ word n)) := by
 have HO' := Aside0.mk HO
 clear HO
 unfold Ext
 go_enter Tryz.func55, Tryz.ntmps55
 go_wp2_with (at_builtin; refine appLit rfl (.tmp 5) (.tmp 17) rfl v xs (word n) rfl _ rfl 4 rfl _ (by first | (go_simp; done) | (go_simp; rfl)) (by simp) HO'.out hb (by simpa [word] using hl) ?_; intro v1 w1 h1 h2; (have HR1 := Aside0.mk h1); (have HU1 := Aside0.mk h2); clear h1 h2)
 go_ret
 exact ⟨v1, rfl, HR1.out, HU1.out⟩
def keyB (k : ByteArray) : List Int := grp k.size ++ bytesOf k
set_option maxHeartbeats 4000000 in
theorem putKey_calls (b : Nat) (w : World) (v : Value) (xs : List Int) (k : ByteArray) (hk : k.size ≤ 140737488355328) (HO : R5 b w v xs) (hb : b ≤ w.heap.size) (hl : (xs ++ keyB k).length ≤ 140737488355328) :
  Calls Tryz.prog 95 #[v, .string k] w (Ext b w (xs ++ keyB k)) := by
 have HO' := Aside0.mk HO
 clear HO
 have hl1 : (xs ++ grp (k.size : Int)).length ≤ 140737488355328 := by simp only [keyB, List.length_append] at hl ⊢; omega
 have hl2 : (xs ++ grp (k.size : Int)).length + k.size ≤ 140737488355328 := by simp only [keyB, List.length_append, bytesOf_length] at hl ⊢; omega
 unfold Ext
 go_enter Tryz.func95, Tryz.ntmps95
 go_wp2_with fail
 refine (putNumber_calls b w v xs k.size (by omega) (by omega) HO'.out hb hl1).mono ?_
 rintro e w1 ⟨u, rfl, h1, h2⟩
 have HR1 := Aside0.mk h1
 have HU1 := Aside0.mk h2
 have hb1 : b ≤ w1.heap.size := Nat.le_trans hb h2.size
 clear h1 h2
 go_wp2_with (at_builtin; refine appStr rfl (.tmp 8) (.tmp 9) rfl u _ k rfl rfl HR1.out hb1 hl2 ?_; intro v2 w2 h1 h2; (have HR2 := Aside0.mk h1); (have HU2 := Aside0.mk h2); clear h1 h2)
 go_ret
 exact ⟨v2, rfl, by have h := HR2.out; rwa [List.append_assoc] at h, HU1.out.trans HU2.out⟩
end Go.Proofs.YthmkioodkldgbaaGreat.DK
