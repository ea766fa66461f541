/- Words for the reference's bags: rows of flat things, laid on; conditions: those in each theorem. -/
import Derived.Test.YthmkioodkldgbaaQpM16
namespace Go.Proofs.Ythmkioodkldgbaa.DK
open Go.Proofs.Ythmkioodkldgbaa.PD
open Go.RowKit Go.Proofs.YthmkioodkldgbaaW.PrintWords Go.Proofs.YthmkioodkldgbaaW.PrintLast Go.Proofs.YthmkioodkldgbaaW.PrintMore
set_option linter.unusedVariables false
/-- Written: blocks from b on of the types T alone (and new ones). -/
structure UT (T : List Nat) (b : Nat) (w w' : World) : Prop where
 os : w'.os = w.os
 tape : w'.tape = w.tape
 output : w'.output = w.output
 size : w.heap.size ≤ w'.heap.size
 same : ∀ k, k < w.heap.size → (k < b ∨ ∀ cs t, t ∈ T → w.heap[k]? ≠ some (.cells cs t (0, 0))) → w'.heap[k]? = w.heap[k]?
namespace UT
variable {T T' : List Nat} {b : Nat} {w w1 w2 : World}
theorem refl (T : List Nat) (b : Nat) (w : World) : UT T b w w := ⟨rfl, rfl, rfl, Nat.le_refl _, fun _ _ _ => rfl⟩
theorem trans (h : UT T b w w1) (k : UT T b w1 w2) : UT T b w w2 :=
 ⟨k.os.trans h.os, k.tape.trans h.tape, k.output.trans h.output, Nat.le_trans h.size k.size, fun q hq hn => by
  have e := h.same q hq hn
  exact (k.same q (Nat.lt_of_lt_of_le hq h.size) (hn.imp id (fun hn cs t ht => by rw [e]; exact hn cs t ht))).trans e⟩
theorem mono (h : UT T b w w1) (hT : ∀ t, t ∈ T → t ∈ T') : UT T' b w w1 := ⟨h.os, h.tape, h.output, h.size, fun k hk hn => h.same k hk (hn.imp id (fun hn cs t ht => hn cs t (hT t ht)))⟩
theorem of_below (T : List Nat) (b : Nat) (hb : Below w.heap.size w w1) : UT T b w w1 := ⟨hb.os, hb.tape, hb.output, hb.size, fun k hk _ => hb.block k hk⟩
theorem of5 (h : U5 b w w1) (h5 : 5 ∈ T) : UT T b w w1 := ⟨h.os, h.tape, h.output, h.size, fun k hk hn => h.same k hk (hn.imp id (fun hn cs => hn cs 5 h5))⟩
theorem drew (h : UT T b w w1) : UT T b w w1.drew := ⟨h.os, h.tape, h.output, h.size, h.same⟩
theorem drewN (h : UT T b w w1) (n : Nat) : UT T b w (w1.drewN n) := ⟨h.os, h.tape, h.output, h.size, h.same⟩
theorem alloc (h : UT T b w w1) (o : Obj) : UT T b w (w1.alloc o) := h.trans (of_below T b (below_alloc (Below.refl _ _) o))
theorem below (h : UT T b w w1) (hb : b ≤ w.heap.size) : Below b w w1 := ⟨h.os, h.tape, h.output, h.size, fun k hk => h.same k (Nat.lt_of_lt_of_le hk hb) (.inl hk)⟩
theorem blk (h : UT T b w w1) {g t : Nat} {cs : Array Value} (hb : w.heap[g]? = some (.cells cs t (0, 0))) (ht : t ∉ T) : w1.heap[g]? = some (.cells cs t (0, 0)) :=
 (h.same g (blk_lt hb) (.inr (fun cs' t' ht' e => by rw [hb] at e; injection e with e; injection e with _ e; exact ht (e ▸ ht')))).trans hb
theorem grown {e : Nat} (h : UT T b w w1) {v : Value} {sz n : Nat} {xs : List Value} (ho : w1.ownsRow b e sz v n xs) (he : e ∈ T) (hg : w1.grownBy w2 v.ownBlock) : UT T b w w2 :=
 h.trans ⟨hg.os, hg.tape, hg.output, hg.size, fun k hk hn => hg.block k hk (fun e' => by
  have h1 := own_base ho k e'.symm
  obtain ⟨cs, hc⟩ := own_typed ho k e'.symm
  exact hn.elim (fun h => by omega) (fun h => h cs e he hc))⟩
theorem set (h : UT T b w w1) {g t : Nat} {cs : Array Value} (hb : w1.heap[g]? = some (.cells cs t (0, 0))) (ht : t ∈ T) (hg : b ≤ g) (j : Nat) (u : Value) : UT T b w (w1.setCell ⟨g, j, none⟩ u) :=
 h.trans ⟨rfl, rfl, rfl, by simp [World.setCell], fun k hk hn => Below.heap_setCell w1 ⟨g, j, none⟩ u k (fun e => by
  have e : k = g := e
  subst e
  exact hn.elim (fun h => by omega) (fun h => h cs t ht hb))⟩
end UT
/-- A row of one's own of flat things (their cells lead to no rows of one's own). -/
def RK {α : Type} (d : Kd α) (e b : Nat) (w : World) (v : Value) (xs : List α) : Prop := d.R e w b (fun _ => True) v xs
/-- What a thing's cells say doesn't depend on the world. -/
def Flat {α : Type} (d : Kd α) : Prop := d.E = [] ∧ ∀ w w' b b' ok ok' x cs, d.M w b ok x cs → d.M w' b' ok' x cs
theorem flat_int (k : IntKind) : Flat (Kd.int k) := ⟨rfl, fun _ _ _ _ _ _ _ _ h => h⟩
theorem flat_string : Flat Kd.string := ⟨rfl, fun _ _ _ _ _ _ _ _ h => h⟩
namespace RK
variable {α : Type} {d : Kd α} {e b : Nat} {w w1 : World} {v : Value} {xs : List α}
theorem nil (d : Kd α) (e b : Nat) (w : World) : RK d e b w (.slice none 0 0) [] := Kd.R_nil _ _ _ _ _
theorem same (hd : d.E = []) (h : RK d e b w v xs) (hs : ∀ k, v.ownBlock = some k → w1.heap[k]? = w.heap[k]?) : RK d e b w1 v xs :=
 Kd.R_mono (Kd.R_move (Kd.R_tight hd h) (fun k hk => hs k hk.symm)) (fun _ _ => trivial)
theorem ut {T : List Nat} (hd : d.E = []) (h : RK d e b w v xs) (hu : UT T b w w1) (he : e ∉ T) : RK d e b w1 v xs :=
 h.same hd (fun k hk => by obtain ⟨cs, hc⟩ := Kd.R_typed h k hk; exact (hu.blk hc he).trans hc.symm)
theorem below (h : RK d e b w v xs) (hb : Below w.heap.size w w1) : RK d e b w1 v xs := Kd.R_below h hb
theorem set (hd : d.E = []) (h : RK d e b w v xs) {g t : Nat} {cs : Array Value} (hb : w.heap[g]? = some (.cells cs t (0, 0))) (ht : e ≠ t) (j : Nat) (u : Value) : RK d e b (w.setCell ⟨g, j, none⟩ u) v xs :=
 Kd.R_set h hb (by rw [hd]; intro q hq; rcases List.mem_singleton.1 hq with rfl; exact ht) j u
theorem own (h : RK d e b w v xs) : ∃ inner, w.ownsRow b e d.sz v xs.length inner := Kd.R_own h
end RK
/-- A literal of one thing: its cells read. -/
theorem lit_reads {α : Type} {d : Kd α} (hf : Flat d) (w0 : World) (n e : Nat) (p : α) (cs : List Value) (hp : ∀ w b ok, d.M w b ok p cs) (W : World) (b : Nat) :
  ReadsRow (d.M W b (fun _ => False)) d.sz ((w0.alloc (.cells cs.toArray e)).drewN n) (some ⟨w0.heap.size, 0, none⟩) 1 [p] := by
 refine ⟨rfl, by decide, fun _ => ⟨_, rfl, fun j q hj => ?_⟩⟩
 cases j with
 | succ j => simp at hj
 | zero =>
  have hq : p = q := by simpa using hj
  subst hq
  refine ⟨cs, d.K_len (d.K_of_M (hp W b (fun _ => False))), hp _ _ _, fun i u hu => ?_⟩
  have hb : ((w0.alloc (.cells cs.toArray e)).drewN n).heap[w0.heap.size]? = some (.cells cs.toArray e (0, 0)) := heap_alloc_new w0 _
  have h1 := blk_cell hb i
  rw [add_plain, show 0 * d.sz + i = i by omega, h1]
  simpa using hu
section
variable {α : Type} {d : Kd α} {ops : Array Oper} {rest : List Oper} {o : Oper} {a : Act} {Q : Exit → Act → World → Prop} {Kc : Act → World → Prop} {W : World} {b : Nat}
theorem appK_step (hf : Flat d) (hw : Region.wanted o (yielded ops a.tmps) = true) (s x : Operand) (t e : TypeId) (z : Value) (bytes : Nat)
  (ho : o.op = .call { callee := .builtin .append, args := #[s, x], argTypes := #[t, t] }) (ht : Try.prog.underlying t = some (.slice e)) (hinfo : (Try.prog.info? e).map (fun i => (i.zero, i.size, i.bytes)) = some (some z, d.sz, bytes)) (hz : z.cells.size = d.sz) (hs0 : 0 < d.sz) (hb0 : 0 < bytes)
  (v : Value) (xs ys : List α) (A : Option Addr) (m c : Nat) (hs : a.eval s = v) (hx : a.eval x = .slice A m c)
  (HO : RK d e b W v xs) (HR : ReadsRow (d.M W b (fun _ => False)) d.sz W A m ys) (hb : b ≤ W.heap.size) (hl : (xs.length + m) * bytes ≤ 140737488355328)
  (h : ∀ v1 w1, RK d e b w1 v1 (xs ++ ys) → UT [e] b W w1 → Kc (a.put o.dst v1) w1) :
  if Region.wanted o (yielded ops a.tmps) = true then Oper.wp Try.prog o a W Kc Q else Kc (a.put o.dst undef) W := by
 obtain ⟨inner, hown⟩ := HO.own
 exact Kd.R_append_rows_step d (w0 := W) (Rr := d.M W b (fun _ => False)) b hw s x t e z bytes ho ht hinfo hz hs0 hb0 v xs ys A m c (fun _ => True) (fun _ => False) hs hx HO HR (fun _ _ h => h) (fun _ h => h.elim) (fun _ _ => trivial) (Below.refl _ _) hb hl
  (fun v1 w1 h1 _ hg _ => h v1 w1 h1 ((UT.refl [e] b W).grown hown (by simp) hg))
theorem appK1_step (hf : Flat d) (hw : Region.wanted o (yielded ops a.tmps) = true) (s x : Operand) (t e : TypeId) (z : Value) (bytes : Nat)
  (ho : o.op = .call { callee := .builtin .append, args := #[s, x], argTypes := #[t, t] }) (ht : Try.prog.underlying t = some (.slice e)) (hinfo : (Try.prog.info? e).map (fun i => (i.zero, i.size, i.bytes)) = some (some z, d.sz, bytes)) (hz : z.cells.size = d.sz) (hs0 : 0 < d.sz) (hb0 : 0 < bytes)
  (v : Value) (xs : List α) (p : α) (cs : List Value) (hs : a.eval s = v) (w0 : World) (cells : Array Value) (hW : ∃ n, W = (w0.alloc (.cells cells e)).drewN n) (hc : cells = cs.toArray) (g : Nat) (hx : a.eval x = .slice (some ⟨g, 0, none⟩) 1 1) (hg : g = w0.heap.size)
  (hp : ∀ w b ok, d.M w b ok p cs) (HO : RK d e b w0 v xs) (hb : b ≤ w0.heap.size) (hl : (xs.length + 1) * bytes ≤ 140737488355328)
  (h : ∀ v1 w1, RK d e b w1 v1 (xs ++ [p]) → UT [e] b w0 w1 → Kc (a.put o.dst v1) w1) :
  if Region.wanted o (yielded ops a.tmps) = true then Oper.wp Try.prog o a W Kc Q else Kc (a.put o.dst undef) W := by
 obtain ⟨n, rfl⟩ := hW
 subst hc hg
 have hbel : Below w0.heap.size w0 ((w0.alloc (.cells cs.toArray e)).drewN n) := pw_below_drewN (below_alloc (Below.refl _ _) _) n
 exact appK_step hf hw s x t e z bytes ho ht hinfo hz hs0 hb0 v xs [p] _ 1 1 hs hx (HO.below hbel) (lit_reads hf w0 n e p cs hp _ b) (Nat.le_trans hb hbel.size) hl
  (fun v1 w1 h1 h2 => h v1 w1 h1 ((UT.of_below [e] b hbel).trans h2))
theorem appK (hf : Flat d) (hgd : o.guard = none) (s x : Operand) (t e : TypeId) (z : Value) (bytes : Nat)
  (ho : o.op = .call { callee := .builtin .append, args := #[s, x], argTypes := #[t, t] }) (ht : Try.prog.underlying t = some (.slice e)) (hinfo : (Try.prog.info? e).map (fun i => (i.zero, i.size, i.bytes)) = some (some z, d.sz, bytes)) (hz : z.cells.size = d.sz) (hs0 : 0 < d.sz) (hb0 : 0 < bytes)
  (v : Value) (xs ys : List α) (A : Option Addr) (m c : Nat) (hs : a.eval s = v) (hx : a.eval x = .slice A m c)
  (HO : RK d e b W v xs) (HR : ReadsRow (d.M W b (fun _ => False)) d.sz W A m ys) (hb : b ≤ W.heap.size) (hl : (xs.length + m) * bytes ≤ 140737488355328)
  (h : ∀ v1 w1, RK d e b w1 v1 (xs ++ ys) → UT [e] b W w1 → wpList Try.prog ops Q rest (a.put o.dst v1) w1) :
  wpList Try.prog ops Q (o :: rest) a W := by
 obtain ⟨inner, hown⟩ := HO.own
 exact Kd.R_append_rows d (w0 := W) (Rr := d.M W b (fun _ => False)) b hgd s x t e z bytes ho ht hinfo hz hs0 hb0 v xs ys A m c (fun _ => True) (fun _ => False) hs hx HO HR (fun _ _ h => h) (fun _ h => h.elim) (fun _ _ => trivial) (Below.refl _ _) hb hl
  (fun v1 w1 h1 _ hg _ => h v1 w1 h1 ((UT.refl [e] b W).grown hown (by simp) hg))
theorem appK1 (hf : Flat d) (hgd : o.guard = none) (s x : Operand) (t e : TypeId) (z : Value) (bytes : Nat)
  (ho : o.op = .call { callee := .builtin .append, args := #[s, x], argTypes := #[t, t] }) (ht : Try.prog.underlying t = some (.slice e)) (hinfo : (Try.prog.info? e).map (fun i => (i.zero, i.size, i.bytes)) = some (some z, d.sz, bytes)) (hz : z.cells.size = d.sz) (hs0 : 0 < d.sz) (hb0 : 0 < bytes)
  (v : Value) (xs : List α) (p : α) (cs : List Value) (hs : a.eval s = v) (w0 : World) (cells : Array Value) (hW : ∃ n, W = (w0.alloc (.cells cells e)).drewN n) (hc : cells = cs.toArray) (g : Nat) (hx : a.eval x = .slice (some ⟨g, 0, none⟩) 1 1) (hg : g = w0.heap.size)
  (hp : ∀ w b ok, d.M w b ok p cs) (HO : RK d e b w0 v xs) (hb : b ≤ w0.heap.size) (hl : (xs.length + 1) * bytes ≤ 140737488355328)
  (h : ∀ v1 w1, RK d e b w1 v1 (xs ++ [p]) → UT [e] b w0 w1 → wpList Try.prog ops Q rest (a.put o.dst v1) w1) :
  wpList Try.prog ops Q (o :: rest) a W := by
 obtain ⟨n, rfl⟩ := hW
 subst hc hg
 have hbel : Below w0.heap.size w0 ((w0.alloc (.cells cs.toArray e)).drewN n) := pw_below_drewN (below_alloc (Below.refl _ _) _) n
 exact appK hf hgd s x t e z bytes ho ht hinfo hz hs0 hb0 v xs [p] _ 1 1 hs hx (HO.below hbel) (lit_reads hf w0 n e p cs hp _ b) (Nat.le_trans hb hbel.size) hl
  (fun v1 w1 h1 h2 => h v1 w1 h1 ((UT.of_below [e] b hbel).trans h2))
end
/-- A value whose items are read in every world of Rel. -/
def kRel (Rel : World → Prop) : Kd S25 where
 sz := 4
 E := []
 K := fun _ x cs => ∃ A3 c3, cs = [.int .i64 x.f0, .int .i64 x.f1, .string x.f2, .slice A3 x.f3.length c3] ∧ x.f3.length ≤ c3 ∧ ∀ W, Rel W → k25.C W A3 x.f3.length x.f3
 M := fun _ _ _ x cs => ∃ A3 c3, cs = [.int .i64 x.f0, .int .i64 x.f1, .string x.f2, .slice A3 x.f3.length c3] ∧ x.f3.length ≤ c3 ∧ ∀ W, Rel W → k25.C W A3 x.f3.length x.f3
 K_len := by rintro w x cs ⟨A3, c3, rfl, _⟩; rfl
 K_one := by
  rintro w x cs ⟨A3, c3, rfl, _⟩ u hu
  simp only [List.mem_cons, List.not_mem_nil, or_false] at hu
  rcases hu with rfl | rfl | rfl | rfl <;> rfl
 K_below := fun _ h => h
 K_of_M := fun h => h
 M_mono := fun _ h => h
 M_bound := fun h => h
 M_move := fun _ h => h
 M_lower := fun _ h => h
theorem flat_rel (Rel : World → Prop) : Flat (kRel Rel) := ⟨rfl, fun _ _ _ _ _ _ _ _ h => h⟩
/-- The reference's bag at block g: numbers, keys, values, how many of each are used. -/
structure Bag (Rel : World → Prop) (b : Nat) (w : World) (g : Nat) (ns : List Int) (ks : List ByteArray) (vs : List S25) (i j k : Int) (un uk uv : Value) : Prop where
 box : w.heap[g]? = some (.cells #[un, uk, uv, .int .i64 i, .int .i64 j, .int .i64 k] 101 (0, 0))
 ge : b ≤ g
 nums : RK (Kd.int .i64) 3 b w un ns
 keys : RK Kd.string 9 b w uk ks
 vals : RK (kRel Rel) 25 b w uv vs
namespace Bag
variable {Rel : World → Prop} {b : Nat} {w w1 : World} {g : Nat} {ns : List Int} {ks : List ByteArray} {vs : List S25} {i j k : Int} {un uk uv : Value}
theorem ut {T : List Nat} (h : Bag Rel b w g ns ks vs i j k un uk uv) (hu : UT T b w w1) (hT : 101 ∉ T ∧ 3 ∉ T ∧ 9 ∉ T ∧ 25 ∉ T) : Bag Rel b w1 g ns ks vs i j k un uk uv :=
 ⟨hu.blk h.box hT.1, h.ge, h.nums.ut rfl hu hT.2.1, h.keys.ut rfl hu hT.2.2.1, h.vals.ut rfl hu hT.2.2.2⟩
theorem below (h : Bag Rel b w g ns ks vs i j k un uk uv) (hb : Below w.heap.size w w1) : Bag Rel b w1 g ns ks vs i j k un uk uv := h.ut (UT.of_below [] b hb) (by simp)
/-- Numbers laid on, and told. -/
theorem setN (h : Bag Rel b w g ns ks vs i j k un uk uv) {v : Value} {ns' : List Int} (hu : UT [3] b w w1) (hr : RK (Kd.int .i64) 3 b w1 v ns') : Bag Rel b (w1.setCell ⟨g, 0, none⟩ v) g ns' ks vs i j k v uk uv := by
 have hb := hu.blk h.box (by decide)
 exact ⟨blk_set hb, h.ge, hr.set rfl hb (by decide) _ _, (h.keys.ut rfl hu (by decide)).set rfl hb (by decide) _ _, (h.vals.ut rfl hu (by decide)).set rfl hb (by decide) _ _⟩
theorem setK (h : Bag Rel b w g ns ks vs i j k un uk uv) {v : Value} {ks' : List ByteArray} (hu : UT [9] b w w1) (hr : RK Kd.string 9 b w1 v ks') : Bag Rel b (w1.setCell ⟨g, 1, none⟩ v) g ns ks' vs i j k un v uv := by
 have hb := hu.blk h.box (by decide)
 exact ⟨blk_set hb, h.ge, (h.nums.ut rfl hu (by decide)).set rfl hb (by decide) _ _, hr.set rfl hb (by decide) _ _, (h.vals.ut rfl hu (by decide)).set rfl hb (by decide) _ _⟩
theorem setV (h : Bag Rel b w g ns ks vs i j k un uk uv) {v : Value} {vs' : List S25} (hu : UT [25] b w w1) (hr : RK (kRel Rel) 25 b w1 v vs') : Bag Rel b (w1.setCell ⟨g, 2, none⟩ v) g ns ks vs' i j k un uk v := by
 have hb := hu.blk h.box (by decide)
 exact ⟨blk_set hb, h.ge, (h.nums.ut rfl hu (by decide)).set rfl hb (by decide) _ _, (h.keys.ut rfl hu (by decide)).set rfl hb (by decide) _ _, hr.set rfl hb (by decide) _ _⟩
theorem setI (h : Bag Rel b w g ns ks vs i j k un uk uv) (n : Int) : Bag Rel b (w.setCell ⟨g, 3, none⟩ (.int .i64 n)) g ns ks vs n j k un uk uv :=
 ⟨blk_set h.box, h.ge, h.nums.set rfl h.box (by decide) _ _, h.keys.set rfl h.box (by decide) _ _, h.vals.set rfl h.box (by decide) _ _⟩
theorem setJ (h : Bag Rel b w g ns ks vs i j k un uk uv) (n : Int) : Bag Rel b (w.setCell ⟨g, 4, none⟩ (.int .i64 n)) g ns ks vs i n k un uk uv :=
 ⟨blk_set h.box, h.ge, h.nums.set rfl h.box (by decide) _ _, h.keys.set rfl h.box (by decide) _ _, h.vals.set rfl h.box (by decide) _ _⟩
theorem setL (h : Bag Rel b w g ns ks vs i j k un uk uv) (n : Int) : Bag Rel b (w.setCell ⟨g, 5, none⟩ (.int .i64 n)) g ns ks vs i j n un uk uv :=
 ⟨blk_set h.box, h.ge, h.nums.set rfl h.box (by decide) _ _, h.keys.set rfl h.box (by decide) _ _, h.vals.set rfl h.box (by decide) _ _⟩
theorem new (w : World) (b g : Nat) (h : w.heap[g]? = some (.cells #[.slice none 0 0, .slice none 0 0, .slice none 0 0, .int .i64 0, .int .i64 0, .int .i64 0] 101 (0, 0))) (hb : b ≤ g) : Bag Rel b w g [] [] [] 0 0 0 (.slice none 0 0) (.slice none 0 0) (.slice none 0 0) :=
 ⟨h, hb, RK.nil _ _ _ _, RK.nil _ _ _ _, RK.nil _ _ _ _⟩
end Bag
end Go.Proofs.Ythmkioodkldgbaa.DK
/- eddyref4.Bag.num, key, val; conditions: those in each theorem. -/
namespace Go.Proofs.Ythmkioodkldgbaa.DK
open Go.Proofs.Ythmkioodkldgbaa.PD
open Go.RowKit Go.Proofs.YthmkioodkldgbaaW.PrintWords Go.Proofs.YthmkioodkldgbaaW.PrintLast Go.Proofs.YthmkioodkldgbaaW.PrintMore
set_option linter.unusedVariables false
set_option linter.unusedSimpArgs false
set_option maxRecDepth 100000
theorem i64w {i : Int} (h0 : 0 ≤ i) (h1 : i ≤ 9223372036854775807) : IntKind.i64.wrap i = i := IntWalk.i64_in _ (by omega)
section
variable {Rel : World → Prop} {b : Nat} {w : World} {g : Nat} {ns : List Int} {ks : List ByteArray} {vs : List S25} {i j k : Int} {un uk uv : Value}
theorem Bag.drewN (h : Bag Rel b w g ns ks vs i j k un uk uv) (n : Nat) : Bag Rel b (w.drewN n) g ns ks vs i j k un uk uv := h.below (pw_below_drewN (Below.refl _ _) n)
theorem Bag.drew (h : Bag Rel b w g ns ks vs i j k un uk uv) : Bag Rel b w.drew g ns ks vs i j k un uk uv := h.below (below_drew (Below.refl _ _))
set_option maxHeartbeats 4000000 in
theorem num_calls (h : Bag Rel b w g ns ks vs i j k un uk uv) (h0 : 0 ≤ i) (hi : i < ns.length) :
  Calls Try.prog 43 #[.pointer (some ⟨g, 0, none⟩)] w fun e w' => e = .returned (.int .i64 (rd ns i)) ∧ Bag Rel b w' g ns ks vs (i + 1) j k un uk uv ∧ UT [101] b w w' := by
 obtain ⟨A, c, rfl, hc, hr⟩ := Kd.R_reads h.nums
 have hlen : ns.length ≤ 9223372036854775807 := hr.2.1
 have h2 := h.setI (i + 1)
 obtain ⟨_, _, he2, _, hr2⟩ := Kd.R_reads h2.nums
 injection he2 with e1 e2 e3
 subst e1 e3
 obtain ⟨ad, rfl, d0⟩ := Kd.at_int hr2 i h0 hi
 have m3 := blk_cell h.box 3
 have q3 := blk_frozen h.box 3
 have n0 := blk_cell h2.box 0
 have n3 := blk_cell h2.box 3
 simp only [List.getElem?_toArray, List.getElem?_cons_succ, List.getElem?_cons_zero] at m3 q3 n0 n3
 have HU := Aside0.mk ((UT.refl [101] b w).set h.box (by simp) h.ge 3 (.int .i64 (i + 1)))
 have H2 := Aside0.mk h2
 have hw := i64w h0 (by omega)
 have hblk := blk_lt h.box
 clear h h2 hr hr2
 go_enter Try.func43, Try.ntmps43
 go_wp2
 go_quiet (fail)
 go_wp2
 go_ret
 exact ⟨rfl, H2.out.drewN _, HU.out.drewN _⟩
set_option maxHeartbeats 4000000 in
theorem key_calls (h : Bag Rel b w g ns ks vs i j k un uk uv) (h0 : 0 ≤ j) (hi : j < ks.length) :
  Calls Try.prog 46 #[.pointer (some ⟨g, 0, none⟩)] w fun e w' => e = .returned (.string (rdOf ByteArray.empty ks j)) ∧ Bag Rel b w' g ns ks vs i (j + 1) k un uk uv ∧ UT [101] b w w' := by
 obtain ⟨A, c, rfl, hc, hr⟩ := Kd.R_reads h.keys
 have hlen : ks.length ≤ 9223372036854775807 := hr.2.1
 have h2 := h.setJ (j + 1)
 obtain ⟨_, _, he2, _, hr2⟩ := Kd.R_reads h2.keys
 injection he2 with e1 e2 e3
 subst e1 e3
 obtain ⟨ad, rfl, d0⟩ := Kd.at_string hr2 j h0 hi
 have m3 := blk_cell h.box 4
 have q3 := blk_frozen h.box 4
 have n0 := blk_cell h2.box 1
 have n3 := blk_cell h2.box 4
 simp only [List.getElem?_toArray, List.getElem?_cons_succ, List.getElem?_cons_zero] at m3 q3 n0 n3
 have HU := Aside0.mk ((UT.refl [101] b w).set h.box (by simp) h.ge 4 (.int .i64 (j + 1)))
 have H2 := Aside0.mk h2
 have hw := i64w h0 (by omega)
 have hblk := blk_lt h.box
 clear h h2 hr hr2
 go_enter Try.func46, Try.ntmps46
 go_wp2
 go_quiet (fail)
 go_wp2
 go_ret
 exact ⟨rfl, H2.out.drewN _, HU.out.drewN _⟩
theorem at_rel {w : World} {A : Option Addr} {xs : List S25} (h : (kRel Rel).C w A xs.length xs) (i : Int) (h0 : 0 ≤ i) (h1 : i < xs.length) : ∃ ad A3 c3, A = some ad ∧ w.cell? (ad.add (i.toNat * 4)) = some (.int .i64 (rd_T25 xs i).f0) ∧ w.cell? ⟨(ad.add (i.toNat * 4)).block, (ad.add (i.toNat * 4)).off + 1, none⟩ = some (.int .i64 (rd_T25 xs i).f1) ∧ w.cell? ⟨(ad.add (i.toNat * 4)).block, (ad.add (i.toNat * 4)).off + 2, none⟩ = some (.string (rd_T25 xs i).f2) ∧ w.cell? ⟨(ad.add (i.toNat * 4)).block, (ad.add (i.toNat * 4)).off + 3, none⟩ = some (.slice A3 (rd_T25 xs i).f3.length c3) ∧ (rd_T25 xs i).f3.length ≤ c3 ∧ ∀ W, Rel W → k25.C W A3 (rd_T25 xs i).f3.length (rd_T25 xs i).f3 := by
 obtain ⟨ad, c, rfl, hs, ⟨A3, c3, rfl, hl, hr⟩, hcell⟩ := ReadsRow.get_ h z25 i h0 (by omega)
 refine ⟨ad, A3, c3, rfl, ?_, ?_, ?_, ?_, hl, hr⟩
 ·have := hcell 0 _ rfl; rwa [show (kRel Rel).sz = 4 from rfl, Nat.add_zero] at this
 ·have := hcell 1 _ rfl; rwa [show (kRel Rel).sz = 4 from rfl, add_field ad _ 1 (by omega)] at this
 ·have := hcell 2 _ rfl; rwa [show (kRel Rel).sz = 4 from rfl, add_field ad _ 2 (by omega)] at this
 ·have := hcell 3 _ rfl; rwa [show (kRel Rel).sz = 4 from rfl, add_field ad _ 3 (by omega)] at this
/-- A value handed out: its items are read in every world of Rel. -/
def ValOut (Rel : World → Prop) (x : S25) (Post : World → Prop) (e : Ending) (w' : World) : Prop := ∃ A3 c3, e = .returned (.agg #[.int .i64 x.f0, .int .i64 x.f1, .string x.f2, .slice A3 x.f3.length c3]) ∧ x.f3.length ≤ c3 ∧ (∀ W, Rel W → k25.C W A3 x.f3.length x.f3) ∧ Post w'
set_option maxHeartbeats 4000000 in
theorem val_calls (h : Bag Rel b w g ns ks vs i j k un uk uv) (h0 : 0 ≤ k) (hi : k < vs.length) :
  Calls Try.prog 86 #[.pointer (some ⟨g, 0, none⟩)] w (ValOut Rel (rd_T25 vs k) (fun w' => Bag Rel b w' g ns ks vs i j (k + 1) un uk uv ∧ UT [101] b w w')) := by
 have h1 := h.setL (k + 1)
 have hU1 := (UT.refl [101] b w).set h.box (by simp) h.ge 5 (.int .i64 (k + 1))
 have hsz : (w.setCell ⟨g, 5, none⟩ (.int .i64 (k + 1))).heap.size = w.heap.size := by simp [World.setCell]
 have m3 := blk_cell h.box 5
 have q3 := blk_frozen h.box 5
 have hgl := blk_lt h.box
 clear h
 unfold ValOut
 have h2 := h1.below (below_alloc (Below.refl _ _) (.cells #[.int .i64 0, .int .i64 0, .string ⟨#[]⟩, .slice none 0 0] 25))
 have hN2 := heap_alloc_new (w.setCell ⟨g, 5, none⟩ (.int .i64 (k + 1))) (.cells #[.int .i64 0, .int .i64 0, .string ⟨#[]⟩, .slice none 0 0] 25)
 rw [hsz] at hN2
 obtain ⟨A, c, rfl, hc, hr⟩ := Kd.R_reads h2.vals
 have hlen : vs.length ≤ 9223372036854775807 := hr.2.1
 obtain ⟨ad, A3, c3, rfl, d0, d1, d2, d3, l3, g3⟩ := at_rel hr k h0 hi
 generalize rd_T25 vs k = x at *
 have n0 := blk_cell h2.box 2
 have n3 := blk_cell h2.box 5
 have f0 := blk_frozen hN2 0
 have f1 := blk_frozen hN2 1
 have f2 := blk_frozen hN2 2
 have f3 := blk_frozen hN2 3
 simp only [List.getElem?_toArray, List.getElem?_cons_succ, List.getElem?_cons_zero] at m3 q3 n0 n3 f0 f1 f2 f3
 have HU := Aside0.mk hU1
 have H1 := Aside0.mk h1
 have HSZ := Aside0.mk hsz
 have hw := i64w h0 (by omega)
 have G3 := Aside0.mk g3
 have L3 := Aside0.mk l3
 clear h1 h2 hr hN2 hU1 hsz g3 l3
 go_enter Try.func86, Try.ntmps86
 go_wp2
 refine start_ (n := 12) (S := fun w' => w'.cell? ⟨g, 2, none⟩ = some (.slice (some ad) vs.length c) ∧ w'.cell? ⟨g, 5, none⟩ = some (.int .i64 (k + 1)) ∧ w'.cell? (ad.add (k.toNat * 4)) = some (.int .i64 x.f0) ∧ w'.cell? ⟨(ad.add (k.toNat * 4)).block, (ad.add (k.toNat * 4)).off + 1, none⟩ = some (.int .i64 x.f1) ∧ w'.cell? ⟨(ad.add (k.toNat * 4)).block, (ad.add (k.toNat * 4)).off + 2, none⟩ = some (.string x.f2) ∧ w'.cell? ⟨(ad.add (k.toNat * 4)).block, (ad.add (k.toNat * 4)).off + 3, none⟩ = some (.slice A3 x.f3.length c3) ∧ w'.frozen? ⟨w.heap.size, 0, none⟩ = false ∧ w'.frozen? ⟨w.heap.size, 1, none⟩ = false ∧ w'.frozen? ⟨w.heap.size, 2, none⟩ = false ∧ w'.frozen? ⟨w.heap.size, 3, none⟩ = false) (ds := [11]) #[false, false, false, false, false, false, false, false, false, false, false, false] (by kernel_rfl) rfl rfl ⟨n0, n3, d0, d1, d2, d3, f0, f1, f2, f3⟩ (fun hHeld => ?_)
 refine zq 0 (some 10) ?_
 refine zq 1 (some 11) ?_
 refine zq 2 (some 12) ?_
 refine zq 4 (some 14) ?_
 refine zq 5 (some 15) ?_
 refine zq 6 (some 16) ?_
 refine zu 3 (some 13) hHeld ?_
 refine zu 7 (some 17) hHeld ?_
 refine zq 8 (some 18) ?_
 refine zq 9 (some 19) ?_
 refine zu 10 (some 20) hHeld ?_
 refine last_ (i := 11) (N := none) #[true, true, true, true, true, true, true, true, true, true, true, true] rfl rfl (by kernel_rfl) (by decide) (fun K hK => ?_)
 refine skip_ (w1 := ?_) (by rfl) rfl ?_ ?_
 rotate_left
 ·go_simp
  rfl
 refine hK.out _ _ ?_
 clear hK K
 refine done_ (by kernel_rfl) ?_
 go_wp2
 have hf := heap_alloc_new (w.setCell ⟨g, 5, none⟩ (.int .i64 (k + 1))) (.cells #[.int .i64 x.f0, .int .i64 x.f1, .string x.f2, .slice A3 x.f3.length c3] 25)
 rw [HSZ.out] at hf
 refine bodyPost_ret (results_single rfl (.cell w.heap.size 25 #[.int .i64 x.f0, .int .i64 x.f1, .string x.f2, .slice A3 x.f3.length c3] (0, 0) _ rfl hf Try.underlying25 rfl (by kernel_rfl) .nil)) rfl ⟨A3, c3, rfl, L3.out, G3.out, (H1.out.below (below_alloc (Below.refl _ _) _)).drew, (HU.out.alloc _).drew⟩
end
end Go.Proofs.Ythmkioodkldgbaa.DK
/- eddyref4.match: where a bracket closes; conditions: those in each theorem. -/
namespace Go.Proofs.Ythmkioodkldgbaa.DK
open Go.Proofs.Ythmkioodkldgbaa.PD
open Go.RowKit Go.Proofs.YthmkioodkldgbaaW.PrintWords Go.Proofs.YthmkioodkldgbaaW.PrintLast Go.Proofs.YthmkioodkldgbaaW.PrintMore
set_option linter.unusedVariables false
set_option linter.unusedSimpArgs false
set_option maxRecDepth 100000
def scan (z : Int) : List Int → Int → Int → Int
 | [], _, _ => z
 | c :: l, d, k => if c = 91 ∨ c = 60 then scan z l (d + 1) (k + 1) else if c = 93 ∨ c = 62 then (if d - 1 = 0 then k else scan z l (d - 1) (k + 1)) else scan z l d (k + 1)
theorem bt_drop (f : ByteArray) (i : Nat) (h : i < f.size) : (bytesOf f).drop i = bt f i :: (bytesOf f).drop (i + 1) := by
 have hl : i < (bytesOf f).length := by rw [bytesOf_length]; exact h
 rw [List.drop_eq_getElem_cons hl]
 congr 1
 rw [← rd_bytesOf]
 exact (getD_nat _ _ i hl).symm
theorem idx_str (f : ByteArray) (k : Nat) (h : k < f.size) (W : World) : (Instr.index 9 (.string f) (.int .i64 k)).run Try.prog W = .ok (.int .u8 (bt f k)) W := by
 have hu := Try.underlying9
 have hb := bt_at f k
 have h0 : (0 : Int) ≤ k := by omega
 have h1 : (k : Int) < f.size := by omega
 go_simp
 have := hb (by rw [Int.toNat_natCast]; exact h)
 simpa using this
def ScanE (f : ByteArray) (r : Int) (dv kv : Value) : Prop := ∃ (k : Nat) (d : Int), kv = .int .i64 k ∧ dv = .int .i64 d ∧ k ≤ f.size ∧ -(k : Int) ≤ d ∧ d ≤ k ∧ scan ((f.size : Int) - 1) ((bytesOf f).drop k) d k = r
set_option maxHeartbeats 4000000 in
theorem match_calls (f : ByteArray) (i : Nat) (w : World) (hf : f.size ≤ 100000) (hi : i ≤ f.size) :
  Calls Try.prog 88 #[.string f, .int .i64 i] w fun e w' => e = .returned (.int .i64 (scan ((f.size : Int) - 1) ((bytesOf f).drop i) 0 i)) ∧ w = w' := by
 generalize hr : scan ((f.size : Int) - 1) ((bytesOf f).drop i) 0 i = r
 have HRS := Aside0.mk hr
 clear hr
 go_enter Try.func88, Try.ntmps88
 go_wp2
 go_loop [5, 6] (fun dv kv => ScanE f r dv kv) (fun _ kv => f.size - (intOf kv).toNat)
 case atStart => exact ⟨i, 0, rfl, rfl, hi, by omega, by omega, HRS.out⟩
 case round =>
  obtain ⟨k, d, rfl, rfl, hk, hd1, hd2, hs⟩ := hrel
  by_cases hlt : k < f.size
  ·rw [bt_drop f k hlt, scan] at hs
   have hb := idx_str f k hlt
   have hr0 := bt_range f k
   generalize bt f k = c at hs hb hr0
   by_cases hc : c = 91
   ·rw [if_pos (by omega)] at hs
    have HS := Aside0.mk hs
    clear hs
    have e91 : (c == 91) = true := beq_iff_eq.2 hc
    have e60 : (c == 60) = false := by simp; omega
    have e93 : (c == 93) = false := by simp; omega
    have e62 : (c == 62) = false := by simp; omega
    clear hc
    go_wp2
    go_round
    case rel => exact ⟨k + 1, d + 1, by simp, rfl, hlt, by omega, by omega, HS.out⟩
    case measure => simp [intOf]; omega
   have n91 := hc
   clear hc
   by_cases hc : c = 60
   ·rw [if_pos (by omega)] at hs
    have HS := Aside0.mk hs
    clear hs
    have e91 : (c == 91) = false := by simp; omega
    have e60 : (c == 60) = true := beq_iff_eq.2 hc
    have e93 : (c == 93) = false := by simp; omega
    have e62 : (c == 62) = false := by simp; omega
    clear hc
    go_wp2
    go_round
    case rel => exact ⟨k + 1, d + 1, by simp, rfl, hlt, by omega, by omega, HS.out⟩
    case measure => simp [intOf]; omega
   have n60 := hc
   clear hc
   by_cases hc : c = 93
   ·rw [if_neg (by omega), if_pos (by omega)] at hs
    by_cases hd : d - 1 = 0
    ·rw [if_pos hd] at hs
     have hd' : d = 1 := by omega
     subst hd'
     have HS := Aside0.mk hs
     clear hs hd
     have e91 : (c == 91) = false := by simp; omega
     have e60 : (c == 60) = false := by simp; omega
     have e93 : (c == 93) = true := beq_iff_eq.2 hc
     have e62 : (c == 62) = false := by simp; omega
     clear hc n91 n60
     go_wp2
     go_ret
     exact ⟨by rw [HS.out]; rfl, rfl⟩
    ·rw [if_neg hd] at hs
     have HS := Aside0.mk hs
     have hdb : (d - 1 == 0) = false := by simpa using hd
     clear hs
     have e91 : (c == 91) = false := by simp; omega
     have e60 : (c == 60) = false := by simp; omega
     have e93 : (c == 93) = true := beq_iff_eq.2 hc
     have e62 : (c == 62) = false := by simp; omega
     clear hc n91 n60 hd
     go_wp2
     go_round
     case rel => exact ⟨k + 1, d - 1, by simp, rfl, hlt, by omega, by omega, HS.out⟩
     case measure => simp [intOf]; omega
   have n93 := hc
   clear hc
   by_cases hc : c = 62
   ·rw [if_neg (by omega), if_pos (by omega)] at hs
    by_cases hd : d - 1 = 0
    ·rw [if_pos hd] at hs
     have hd' : d = 1 := by omega
     subst hd'
     have HS := Aside0.mk hs
     clear hs hd
     have e91 : (c == 91) = false := by simp; omega
     have e60 : (c == 60) = false := by simp; omega
     have e93 : (c == 93) = false := by simp; omega
     have e62 : (c == 62) = true := beq_iff_eq.2 hc
     clear hc n91 n60 n93
     go_wp2
     go_ret
     exact ⟨by rw [HS.out]; rfl, rfl⟩
    ·rw [if_neg hd] at hs
     have HS := Aside0.mk hs
     have hdb : (d - 1 == 0) = false := by simpa using hd
     clear hs
     have e91 : (c == 91) = false := by simp; omega
     have e60 : (c == 60) = false := by simp; omega
     have e93 : (c == 93) = false := by simp; omega
     have e62 : (c == 62) = true := beq_iff_eq.2 hc
     clear hc n91 n60 n93 hd
     go_wp2
     go_round
     case rel => exact ⟨k + 1, d - 1, by simp, rfl, hlt, by omega, by omega, HS.out⟩
     case measure => simp [intOf]; omega
   rw [if_neg (by omega), if_neg (by omega)] at hs
   have HS := Aside0.mk hs
   have e1 : (c == 91) = false := by simp; omega
   have e2 : (c == 60) = false := by simp; omega
   have e3 : (c == 93) = false := by simp; omega
   have e4 : (c == 62) = false := by simp; omega
   clear hs n91 n60 n93 hc
   go_wp2
   go_round
   case rel => exact ⟨k + 1, d, by simp, rfl, hlt, by omega, by omega, HS.out⟩
   case measure => simp [intOf]; omega
  ·rw [List.drop_of_length_le (by rw [bytesOf_length]; omega), scan] at hs
   have HS := Aside0.mk hs
   have hkr : ¬ (k : Int) < (f.size : Int) := by omega
   clear hs
   go_wp2
   go_ret
   exact ⟨by rw [← HS.out]; rfl, rfl⟩
end Go.Proofs.Ythmkioodkldgbaa.DK
