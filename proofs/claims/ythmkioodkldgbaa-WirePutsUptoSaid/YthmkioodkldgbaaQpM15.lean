/- What each Go function named in this text computes, as a Lean function, and that the Go code comes to it; conditions: those in each theorem. (Lines written by this session's program.) -/
import Derived.Test.YthmkioodkldgbaaQpM04
import Derived.Test.YthmkioodkldgbaaQpM05
namespace Go.Proofs.Ythmkioodkldgbaa.PD
open Go.RowKit Go.Proofs.YthmkioodkldgbaaW.PrintWords Go.Proofs.YthmkioodkldgbaaW.PrintLast Go.Proofs.YthmkioodkldgbaaW.PrintMore
attribute [local go_sem] max2_int min2_int max_two min_two max_three min_three max_four min_four   -- for this text's walks alone
set_option linter.unusedVariables false
set_option linter.unusedSimpArgs false
/-! ### eddylaw4_num: function 26 -/
def eddylaw4_num.f (a0 : Int) : Option (Int) := some a0
set_option maxHeartbeats 8000000 in
set_option maxRecDepth 100000 in
theorem eddylaw4_num.calls (a0 : Int) (r : Int) (w : World) (h : eddylaw4_num.f a0 = some r) :
  Calls Try.prog 26 #[.int .i64 a0] w fun e w' => e = .returned (.int .i64 r) ∧ Drawn0 w w' := by
 have H : (some a0) = some r := h
 clear h
 obtain rfl := Option.some.inj H
 go_enter Try.func26, Try.ntmps26
 go_wp2
 go_ret
 exact ⟨by first | rfl | (simp; done) | (simp [*]; done), by repeat (first | exact Drawn0.refl _ | apply Drawn0.step)⟩

end Go.Proofs.Ythmkioodkldgbaa.PD
/- Words for memory: rows of bytes of one's own that are laid on; conditions: those in each theorem. -/
namespace Go.Proofs.Ythmkioodkldgbaa.DK
open Go.Proofs.Ythmkioodkldgbaa.PD
open Go.RowKit Go.Proofs.YthmkioodkldgbaaW.PrintWords Go.Proofs.YthmkioodkldgbaaW.PrintLast Go.Proofs.YthmkioodkldgbaaW.PrintMore
set_option linter.unusedVariables false
/-- A row of bytes of one's own, of a block from b on. -/
def R5 (b : Nat) (w : World) (v : Value) (xs : List Int) : Prop := w.ownsRow b 5 1 v xs.length (nums .u8 xs)
/-- Written: blocks of bytes from b on alone. -/
structure U5 (b : Nat) (w w' : World) : Prop where
 os : w'.os = w.os
 tape : w'.tape = w.tape
 output : w'.output = w.output
 size : w.heap.size ≤ w'.heap.size
 same : ∀ k, k < w.heap.size → (k < b ∨ ∀ cs, w.heap[k]? ≠ some (.cells cs 5 (0, 0))) → w'.heap[k]? = w.heap[k]?
namespace U5
variable {b : Nat} {w w1 w2 : World}
theorem refl (b : Nat) (w : World) : U5 b w w := ⟨rfl, rfl, rfl, Nat.le_refl _, fun _ _ _ => rfl⟩
theorem trans (h : U5 b w w1) (k : U5 b w1 w2) : U5 b w w2 :=
 ⟨k.os.trans h.os, k.tape.trans h.tape, k.output.trans h.output, Nat.le_trans h.size k.size, fun q hq hn => by
  have e := h.same q hq hn
  exact (k.same q (Nat.lt_of_lt_of_le hq h.size) (hn.imp id (fun hn cs => by rw [e]; exact hn cs))).trans e⟩
theorem of_below (hb : Below w.heap.size w w1) : U5 b w w1 := ⟨hb.os, hb.tape, hb.output, hb.size, fun k hk _ => hb.block k hk⟩
theorem drew (h : U5 b w w1) : U5 b w w1.drew := ⟨h.os, h.tape, h.output, h.size, h.same⟩
theorem drewN (h : U5 b w w1) (n : Nat) : U5 b w (w1.drewN n) := ⟨h.os, h.tape, h.output, h.size, h.same⟩
theorem alloc (h : U5 b w w1) (o : Obj) : U5 b w (w1.alloc o) := h.trans (of_below (below_alloc (Below.refl _ _) o))
theorem below (h : U5 b w w1) (hb : b ≤ w.heap.size) : Below b w w1 := ⟨h.os, h.tape, h.output, h.size, fun k hk => h.same k (Nat.lt_of_lt_of_le hk hb) (.inl hk)⟩
theorem grown (h : U5 b w w1) {v : Value} {n : Nat} {xs : List Value} (ho : w1.ownsRow b 5 1 v n xs) (hg : w1.grownBy w2 v.ownBlock) : U5 b w w2 :=
 h.trans ⟨hg.os, hg.tape, hg.output, hg.size, fun k hk hn => hg.block k hk (fun e => by
  have h1 := own_base ho k e.symm
  obtain ⟨cs, hc⟩ := own_typed ho k e.symm
  exact hn.elim (fun h => by omega) (fun h => h cs hc))⟩
/-- A block of another type is as it was. -/
theorem blk (h : U5 b w w1) {g t : Nat} {cs : Array Value} (hb : w.heap[g]? = some (.cells cs t (0, 0))) (ht : t ≠ 5) : w1.heap[g]? = some (.cells cs t (0, 0)) :=
 (h.same g (blk_lt hb) (.inr (fun cs' e => ht (by rw [hb] at e; injection e with e; injection e)))).trans hb
end U5
namespace R5
variable {b : Nat} {w w1 : World} {v : Value} {xs : List Int}
theorem nil (b : Nat) (w : World) : R5 b w (.slice none 0 0) [] := own_nil _ _ _ _
theorem below (h : R5 b w v xs) (hb : Below w.heap.size w w1) : R5 b w1 v xs := pw_own_below h hb
theorem alloc (h : R5 b w v xs) (o : Obj) : R5 b (w.alloc o) v xs := h.below (below_alloc (Below.refl _ _) o)
theorem drew (h : R5 b w v xs) : R5 b w.drew v xs := h.below (below_drew (Below.refl _ _))
theorem drewN (h : R5 b w v xs) (n : Nat) : R5 b (w.drewN n) v xs := h.below (pw_below_drewN (Below.refl _ _) n)
theorem lower {b' : Nat} (h : R5 b w v xs) (hb : b' ≤ b) : R5 b' w v xs := own_weaken h hb
theorem reads (h : R5 b w v xs) : ∃ A c, v = .slice A xs.length c ∧ ReadsInt w .u8 A xs.length xs := own_reads h
/-- A store into a block of another type. -/
theorem set (h : R5 b w v xs) {g t : Nat} {cs : Array Value} (hb : w.heap[g]? = some (.cells cs t (0, 0))) (ht : t ≠ 5) (j : Nat) (u : Value) : R5 b (w.setCell ⟨g, j, none⟩ u) v xs :=
 own_setCell h (own_ne h hb (Ne.symm ht)) u
theorem lit (W : World) (b : Nat) (xs : List Int) (hb : b ≤ W.heap.size) (hm : xs.length ≤ 9223372036854775807) : R5 b (W.alloc (.cells (nums .u8 xs).toArray 5)) (.slice (some ⟨W.heap.size, 0, none⟩) xs.length xs.length) xs := own_lit W b 5 .u8 xs hb hm
end R5
/-- What is answered: zs, in a row of one's own. -/
def Ext (b : Nat) (w : World) (zs : List Int) (e : Ending) (w' : World) : Prop := ∃ u, e = .returned u ∧ R5 b w' u zs ∧ U5 b w w'
/-- Made anew. -/
def Bytes5 (w : World) (zs : List Int) (e : Ending) (w' : World) : Prop := ∃ u, e = .returned u ∧ R5 w.heap.size w' u zs ∧ Below w.heap.size w w'
section
variable {ops : Array Oper} {rest : List Oper} {o : Oper} {a : Act} {Q : Exit → Act → World → Prop} {W : World} {b : Nat}
theorem app1 (hgd : o.guard = none) (s x : Operand) (ho : o.op = .call { callee := .builtin .append, args := #[s, x], argTypes := #[22, 22] })
  (v : Value) (xs : List Int) (y : Int) (hs : a.eval s = v) (hx : a.eval x = .slice (some ⟨W.heap.size, 0, none⟩) 1 1) (HO : R5 b W v xs) (hb : b ≤ W.heap.size) (hl : xs.length + 1 ≤ 140737488355328)
  (h : ∀ v1 w1, R5 b w1 v1 (xs ++ [y]) → U5 b W w1 → wpList Try.prog ops Q rest (a.put o.dst v1) w1) :
  wpList Try.prog ops Q (o :: rest) a (W.alloc (.cells #[.int .u8 y] 5)) :=
 print_append_num (w0 := W) b hgd s x 22 5 .u8 1 ho Try.underlying22 info5 (by decide) v xs y hs hx HO (Below.refl _ _) hb (by omega)
  (fun v1 w1 hown _ hg _ => h v1 w1 hown ((U5.refl b W).grown HO hg))
theorem appRow (hgd : o.guard = none) (s x : Operand) (ho : o.op = .call { callee := .builtin .append, args := #[s, x], argTypes := #[22, 22] })
  (v : Value) (xs ys : List Int) (A : Option Addr) (m c : Nat) (hs : a.eval s = v) (hx : a.eval x = .slice A m c) (HO : R5 b W v xs) (HR : ReadsInt W .u8 A m ys) (hb : b ≤ W.heap.size) (hl : xs.length + ys.length ≤ 140737488355328)
  (h : ∀ v1 w1, R5 b w1 v1 (xs ++ ys) → U5 b W w1 → wpList Try.prog ops Q rest (a.put o.dst v1) w1) :
  wpList Try.prog ops Q (o :: rest) a W :=
 print_append_row (w0 := W) b hgd s x 22 5 .u8 1 ho Try.underlying22 info5 (by decide) v xs ys A m c hs hx HO HR (Below.refl _ _) hb (by have := HR.1; omega)
  (fun v1 w1 hown _ hg _ => h v1 w1 hown ((U5.refl b W).grown HO hg))
theorem appOwn (hgd : o.guard = none) (s x : Operand) (ho : o.op = .call { callee := .builtin .append, args := #[s, x], argTypes := #[22, 22] })
  (v u : Value) (xs ys : List Int) (hs : a.eval s = v) (hx : a.eval x = u) (HO : R5 b W v xs) {b' : Nat} (HR : R5 b' W u ys) (hb : b ≤ W.heap.size) (hl : xs.length + ys.length ≤ 140737488355328)
  (h : ∀ v1 w1, R5 b w1 v1 (xs ++ ys) → U5 b W w1 → wpList Try.prog ops Q rest (a.put o.dst v1) w1) :
  wpList Try.prog ops Q (o :: rest) a W := by
 obtain ⟨A, c, rfl, hr⟩ := HR.reads
 exact appRow hgd s x ho v xs ys A ys.length c hs hx HO hr hb hl h
theorem appLit (hgd : o.guard = none) (s x : Operand) (ho : o.op = .call { callee := .builtin .append, args := #[s, x], argTypes := #[22, 22] })
  (v : Value) (xs ys : List Int) (hs : a.eval s = v) (cells : Array Value) (hc : cells = (nums .u8 ys).toArray) (n : Nat) (hn : n = ys.length) (g : Nat) (hx : a.eval x = .slice (some ⟨g, 0, none⟩) n n) (hg : g = W.heap.size) (HO : R5 b W v xs) (hb : b ≤ W.heap.size) (hl : xs.length + ys.length ≤ 140737488355328)
  (h : ∀ v1 w1, R5 b w1 v1 (xs ++ ys) → U5 b W w1 → wpList Try.prog ops Q rest (a.put o.dst v1) w1) :
  wpList Try.prog ops Q (o :: rest) a (W.alloc (.cells cells 5)) := by
 subst hc hn hg
 have hr := R5.lit W 0 ys (Nat.zero_le _) (by omega)
 obtain ⟨A, c, he, hr⟩ := hr.reads
 injection he with e1 e2 e3
 subst e1 e3
 exact appRow hgd s x ho v xs ys _ ys.length _ hs hx (HO.alloc _) hr (by simp; omega) hl (fun v1 w1 h1 h2 => h v1 w1 h1 (((U5.refl b W).alloc _).trans h2))
theorem appStr (hgd : o.guard = none) (s x : Operand) (ho : o.op = .call { callee := .builtin .append, args := #[s, x], argTypes := #[22, 9] })
  (v : Value) (xs : List Int) (y : ByteArray) (hs : a.eval s = v) (hx : a.eval x = .string y) (HO : R5 b W v xs) (hb : b ≤ W.heap.size) (hl : xs.length + y.size ≤ 140737488355328)
  (h : ∀ v1 w1, R5 b w1 v1 (xs ++ bytesOf y) → U5 b W w1 → wpList Try.prog ops Q rest (a.put o.dst v1) w1) :
  wpList Try.prog ops Q (o :: rest) a W :=
 print_append_str (w0 := W) b hgd s x 22 9 5 ho Try.underlying22 Try.underlying9 info5 v xs y hs hx HO (Below.refl _ _) hb hl
  (fun v1 w1 hown _ hg => h v1 w1 hown ((U5.refl b W).grown HO hg))
end
section
variable {ops : Array Oper} {o : Oper} {a : Act} {Q : Exit → Act → World → Prop} {Kc : Act → World → Prop} {W : World} {b : Nat}
theorem appRow_step (hw : Region.wanted o (yielded ops a.tmps) = true) (s x : Operand) (ho : o.op = .call { callee := .builtin .append, args := #[s, x], argTypes := #[22, 22] })
  (v : Value) (xs ys : List Int) (A : Option Addr) (m c : Nat) (hs : a.eval s = v) (hx : a.eval x = .slice A m c) (HO : R5 b W v xs) (HR : ReadsInt W .u8 A m ys) (hb : b ≤ W.heap.size) (hl : xs.length + ys.length ≤ 140737488355328)
  (h : ∀ v1 w1, R5 b w1 v1 (xs ++ ys) → U5 b W w1 → Kc (a.put o.dst v1) w1) :
  if Region.wanted o (yielded ops a.tmps) = true then Oper.wp Try.prog o a W Kc Q else Kc (a.put o.dst undef) W :=
 Kd.R_append_rows_step (Kd.int .u8) (w0 := W) (Rr := fun x cs => cs = [.int .u8 x]) b hw s x 22 5 (.int .u8 0) 1 ho Try.underlying22 info5 rfl (by decide) (by decide) v xs ys A m c (fun _ => True) (fun _ => False) hs hx
  (Kd.R_of_own HO (fun _ _ => trivial)) (Kd.C_of_reads (enc := Value.int .u8) (d := (0 : Int)) (h1 := fun _ => rfl) HR) (fun _ _ h => h) (fun _ h => h.elim) (fun _ _ => trivial) (Below.refl _ _) hb (by have := HR.1; omega)
  (fun v1 w1 h1 _ hg _ => h v1 w1 (Kd.own_of_R h1) ((U5.refl b W).grown HO hg))
theorem appLit_step (hw : Region.wanted o (yielded ops a.tmps) = true) (s x : Operand) (ho : o.op = .call { callee := .builtin .append, args := #[s, x], argTypes := #[22, 22] })
  (v : Value) (xs ys : List Int) (hs : a.eval s = v) (w0 : World) (cells : Array Value) (hW : ∃ d, W = (w0.alloc (.cells cells 5)).drewN d) (hc : cells = (nums .u8 ys).toArray) (n : Nat) (hn : n = ys.length) (g : Nat) (hx : a.eval x = .slice (some ⟨g, 0, none⟩) n n) (hg : g = w0.heap.size) (HO : R5 b w0 v xs) (hb : b ≤ w0.heap.size) (hl : xs.length + ys.length ≤ 140737488355328)
  (h : ∀ v1 w1, R5 b w1 v1 (xs ++ ys) → U5 b w0 w1 → Kc (a.put o.dst v1) w1) :
  if Region.wanted o (yielded ops a.tmps) = true then Oper.wp Try.prog o a W Kc Q else Kc (a.put o.dst undef) W := by
 obtain ⟨d, rfl⟩ := hW
 subst hc hn hg
 have hr := (R5.lit w0 0 ys (Nat.zero_le _) (by omega)).drewN d
 obtain ⟨A, c, he, hr⟩ := hr.reads
 injection he with e1 e2 e3
 subst e1 e3
 exact appRow_step hw s x ho v xs ys _ ys.length _ hs hx ((HO.alloc _).drewN d) hr (by show b ≤ (w0.alloc _).heap.size; simp; omega) hl (fun v1 w1 h1 h2 => h v1 w1 h1 ((((U5.refl b w0).alloc _).drewN d).trans h2))
end
/-- A number's bytes, in groups of seven bits, the lowest first. -/
def grpN (n : Nat) : List Int := if 128 ≤ n then ((n % 128 + 128 : Nat) : Int) :: grpN (n / 128) else [(n : Int)]
def grp (n : Int) : List Int := grpN n.toNat
theorem grp_low {n : Int} (h0 : 0 ≤ n) (h : ¬ 128 ≤ n) : grp n = [n] := by
 unfold grp; rw [grpN, if_neg (by omega), Int.toNat_of_nonneg h0]
theorem grp_high {n : Int} (h : 128 ≤ n) : grp n = (n % 128 + 128) :: grp (n / 128) := by
 unfold grp; rw [grpN, if_pos (by omega)]
 congr 1
 ·omega
 ·congr 1; omega
theorem grpN_len (k n : Nat) (h : n < 128 ^ (k + 1)) : (grpN n).length ≤ k + 1 := by
 induction k generalizing n with
 | zero => rw [grpN, if_neg (by simpa using h)]; simp
 | succ k ih =>
  rw [grpN]
  split
  ·have := ih (n / 128) (by rw [Nat.div_lt_iff_lt_mul (by decide)]; simpa [Nat.pow_succ] using h)
   simp only [List.length_cons]; omega
  ·simp
theorem or128 : ∀ x : Fin 256, Go.bits .or .u8 (x.1 : Int) 128 = ((x.1 : Int) % 128 + 128) := by decide +kernel
theorem or128_at (n : Int) : Go.bits .or .u8 (n % 256) 128 = n % 128 + 128 := by
 have h := or128 ⟨(n % 256).toNat, by omega⟩
 have e : (((n % 256).toNat : Nat) : Int) = n % 256 := by omega
 simp only [e] at h
 rw [h]; omega
end Go.Proofs.Ythmkioodkldgbaa.DK
/- wire.putNumber, value.groups, eddyref4.groups, putWord, putKey: rows of bytes laid on; conditions: those in each theorem. -/
namespace Go.Proofs.Ythmkioodkldgbaa.DK
open Go.Proofs.Ythmkioodkldgbaa.PD
open Go.RowKit Go.Proofs.YthmkioodkldgbaaW.PrintWords Go.Proofs.YthmkioodkldgbaaW.PrintLast Go.Proofs.YthmkioodkldgbaaW.PrintMore
set_option linter.unusedVariables false
set_option linter.unusedSimpArgs false
set_option maxRecDepth 100000
def NumE (K : IntKind) (hi : Int) (b : Nat) (w : World) (zs : List Int) (v n : Value) (wr : World) : Prop := ∃ (y : Int) (ys : List Int), n = .int K y ∧ 0 ≤ y ∧ y ≤ hi ∧ R5 b wr v ys ∧ U5 b w wr ∧ ys ++ grp y = zs
set_option maxHeartbeats 4000000 in
theorem putNumber_calls (b : Nat) (w : World) (v : Value) (xs : List Int) (n : Int) (h0 : 0 ≤ n) (h9 : n ≤ 9223372036854775807) (HO : R5 b w v xs) (hb : b ≤ w.heap.size) (hl : (xs ++ grp n).length ≤ 140737488355328) :
  Calls Try.prog 80 #[v, .int .i64 n] w (Ext b w (xs ++ grp n)) := by
 have HO' := Aside0.mk HO
 clear HO
 unfold Ext
 go_enter Try.func80, Try.ntmps80
 go_wp2
 go_loopw [0, 1] (fun u m wr => NumE .i64 9223372036854775807 b w (xs ++ grp n) u m wr) (fun _ m _ => (intOf m).toNat)
 case atStart => exact ⟨n, xs, rfl, h0, h9, HO'.out, U5.refl b w, rfl⟩
 case round =>
  obtain ⟨y, ys, rfl, hy0, hy9, hR, hU, he⟩ := hrel
  have HR := Aside0.mk hR
  have HU := Aside0.mk hU
  have HE := Aside0.mk he
  have hlen : ys.length + 1 ≤ 140737488355328 := by
   rw [← he] at hl
   have : 1 ≤ (grp y).length := by unfold grp; rw [grpN]; split <;> simp
   simp only [List.length_append] at hl; omega
  have hsz : b ≤ wr.heap.size := Nat.le_trans hb hU.size
  clear hR hU he
  by_cases hlt : 128 ≤ y
  ·have hq := or128_at y
   have hm : (y % 128 + 128) % 256 = y % 128 + 128 := by omega
   go_wp2_with (at_builtin; refine app1 rfl (.tmp 7) (.tmp 11) rfl _ ys (y % 128 + 128) rfl (by first | (go_simp; done) | (go_simp; rfl)) HR.out hsz hlen ?_; intro v1 w1 h1 h2; (have HR1 := Aside0.mk h1); (have HU1 := Aside0.mk h2); clear h1 h2)
   go_roundw
   case rel => exact ⟨y / 128, _, by simp, by omega, by omega, HR1.out, HU.out.trans HU1.out, by rw [List.append_assoc, ← HE.out, grp_high hlt]; rfl⟩
   case measure => simp [intOf]; omega
  ·have hy : y % 256 = y := by omega
   have hg := grp_low hy0 hlt
   have HG := Aside0.mk hg
   clear hg
   go_wp2_with (at_builtin; refine app1 rfl (.tmp 15) (.tmp 18) rfl _ ys (y) rfl (by first | (go_simp; done) | (go_simp; rfl)) HR.out hsz hlen ?_; intro v1 w1 h1 h2; (have HR1 := Aside0.mk h1); (have HU1 := Aside0.mk h2); clear h1 h2)
   go_ret
   have hfin := HR1.out
   rw [← HG.out, HE.out] at hfin
   exact ⟨v1, rfl, hfin, HU.out.trans HU1.out⟩
set_option maxHeartbeats 4000000 in
theorem groups_calls (b : Nat) (w : World) (v : Value) (xs : List Int) (n : Int) (h0 : 0 ≤ n) (h9 : n ≤ 18446744073709551615) (HO : R5 b w v xs) (hb : b ≤ w.heap.size) (hl : (xs ++ grp n).length ≤ 140737488355328) :
  Calls Try.prog 154 #[v, .int .u64 n] w (Ext b w (xs ++ grp n)) := by
 have HO' := Aside0.mk HO
 clear HO
 unfold Ext
 go_enter Try.func154, Try.ntmps154
 go_wp2
 go_loopw [0, 1] (fun u m wr => NumE .u64 18446744073709551615 b w (xs ++ grp n) u m wr) (fun _ m _ => (intOf m).toNat)
 case atStart => exact ⟨n, xs, rfl, h0, h9, HO'.out, U5.refl b w, rfl⟩
 case round =>
  obtain ⟨y, ys, rfl, hy0, hy9, hR, hU, he⟩ := hrel
  have HR := Aside0.mk hR
  have HU := Aside0.mk hU
  have HE := Aside0.mk he
  have hlen : ys.length + 1 ≤ 140737488355328 := by
   rw [← he] at hl
   have : 1 ≤ (grp y).length := by unfold grp; rw [grpN]; split <;> simp
   simp only [List.length_append] at hl; omega
  have hsz : b ≤ wr.heap.size := Nat.le_trans hb hU.size
  clear hR hU he
  by_cases hlt : 128 ≤ y
  ·have hq := or128_at y
   have hm : (y % 128 + 128) % 256 = y % 128 + 128 := by omega
   go_wp2_with (at_builtin; refine app1 rfl (.tmp 7) (.tmp 11) rfl _ ys (y % 128 + 128) rfl (by first | (go_simp; done) | (go_simp; rfl)) HR.out hsz hlen ?_; intro v1 w1 h1 h2; (have HR1 := Aside0.mk h1); (have HU1 := Aside0.mk h2); clear h1 h2)
   go_roundw
   case rel => exact ⟨y / 128, _, by simp, by omega, by omega, HR1.out, HU.out.trans HU1.out, by rw [List.append_assoc, ← HE.out, grp_high hlt]; rfl⟩
   case measure => simp [intOf]; omega
  ·have hy : y % 256 = y := by omega
   have hg := grp_low hy0 hlt
   have HG := Aside0.mk hg
   clear hg
   go_wp2_with (at_builtin; refine app1 rfl (.tmp 15) (.tmp 18) rfl _ ys (y) rfl (by first | (go_simp; done) | (go_simp; rfl)) HR.out hsz hlen ?_; intro v1 w1 h1 h2; (have HR1 := Aside0.mk h1); (have HU1 := Aside0.mk h2); clear h1 h2)
   go_ret
   have hfin := HR1.out
   rw [← HG.out, HE.out] at hfin
   exact ⟨v1, rfl, hfin, HU.out.trans HU1.out⟩
set_option maxHeartbeats 4000000 in
theorem rgroups_calls (w : World) (n : Int) (h0 : 0 ≤ n) (h9 : n ≤ 9223372036854775807) (hl : (grp n).length ≤ 140737488355328) :
  Calls Try.prog 111 #[.int .i64 n] w (Bytes5 w (grp n)) := by
 unfold Bytes5
 go_enter Try.func111, Try.ntmps111
 go_wp2
 go_loopw [3, 0] (fun u m wr => NumE .i64 9223372036854775807 w.heap.size w (grp n) u m wr) (fun _ m _ => (intOf m).toNat)
 case atStart => exact ⟨n, [], rfl, h0, h9, R5.nil _ _, U5.refl _ w, rfl⟩
 case round =>
  obtain ⟨y, ys, rfl, hy0, hy9, hR, hU, he⟩ := hrel
  have HR := Aside0.mk hR
  have HU := Aside0.mk hU
  have HE := Aside0.mk he
  have hlen : ys.length + 1 ≤ 140737488355328 := by
   rw [← he] at hl
   have : 1 ≤ (grp y).length := by unfold grp; rw [grpN]; split <;> simp
   simp only [List.length_append] at hl; omega
  have hsz : w.heap.size ≤ wr.heap.size := Nat.le_trans (Nat.le_refl _) hU.size
  clear hR hU he
  by_cases hlt : 128 ≤ y
  ·have hq := or128_at y
   have hm : (y % 128 + 128) % 256 = y % 128 + 128 := by omega
   go_wp2_with (at_builtin; refine app1 rfl (.tmp 6) (.tmp 11) rfl _ ys (y % 128 + 128) rfl (by first | (go_simp; done) | (go_simp; rfl)) HR.out hsz hlen ?_; intro v1 w1 h1 h2; (have HR1 := Aside0.mk h1); (have HU1 := Aside0.mk h2); clear h1 h2)
   go_roundw
   case rel => exact ⟨y / 128, _, by simp, by omega, by omega, HR1.out, HU.out.trans HU1.out, by rw [List.append_assoc, ← HE.out, grp_high hlt]; rfl⟩
   case measure => simp [intOf]; omega
  ·have hy : y % 256 = y := by omega
   have hg := grp_low hy0 hlt
   have HG := Aside0.mk hg
   clear hg
   go_wp2_with (at_builtin; refine app1 rfl (.tmp 15) (.tmp 18) rfl _ ys (y) rfl (by first | (go_simp; done) | (go_simp; rfl)) HR.out hsz hlen ?_; intro v1 w1 h1 h2; (have HR1 := Aside0.mk h1); (have HU1 := Aside0.mk h2); clear h1 h2)
   go_ret
   have hfin := HR1.out
   rw [← HG.out, HE.out] at hfin
   exact ⟨v1, rfl, hfin, (HU.out.trans HU1.out).below (Nat.le_refl _)⟩
def word (n : Int) : List Int := [n % 256, n / 256 % 256, n / 65536 % 256, n / 16777216]
set_option maxHeartbeats 4000000 in
theorem putWord_calls (b : Nat) (w : World) (v : Value) (xs : List Int) (n : Int) (h0 : 0 ≤ n) (h9 : n ≤ 4294967295) (HO : R5 b w v xs) (hb : b ≤ w.heap.size) (hl : xs.length + 4 ≤ 140737488355328) :
  Calls Try.prog 81 #[v, .int .u32 n] w (Ext b w (xs ++ word n)) := by
 have HO' := Aside0.mk HO
 clear HO
 unfold Ext
 go_enter Try.func81, Try.ntmps81
 go_wp2_with (at_builtin; refine appLit rfl (.tmp 5) (.tmp 17) rfl v xs (word n) rfl _ rfl 4 rfl _ (by first | (go_simp; done) | (go_simp; rfl)) (by simp) HO'.out hb (by simpa [word] using hl) ?_; intro v1 w1 h1 h2; (have HR1 := Aside0.mk h1); (have HU1 := Aside0.mk h2); clear h1 h2)
 go_ret
 exact ⟨v1, rfl, HR1.out, HU1.out⟩
def keyB (k : ByteArray) : List Int := grp k.size ++ bytesOf k
set_option maxHeartbeats 4000000 in
theorem putKey_calls (b : Nat) (w : World) (v : Value) (xs : List Int) (k : ByteArray) (hk : k.size ≤ 140737488355328) (HO : R5 b w v xs) (hb : b ≤ w.heap.size) (hl : (xs ++ keyB k).length ≤ 140737488355328) :
  Calls Try.prog 121 #[v, .string k] w (Ext b w (xs ++ keyB k)) := by
 have HO' := Aside0.mk HO
 clear HO
 have hl1 : (xs ++ grp (k.size : Int)).length ≤ 140737488355328 := by simp only [keyB, List.length_append] at hl ⊢; omega
 have hl2 : (xs ++ grp (k.size : Int)).length + k.size ≤ 140737488355328 := by simp only [keyB, List.length_append, bytesOf_length] at hl ⊢; omega
 unfold Ext
 go_enter Try.func121, Try.ntmps121
 go_wp2_with fail
 refine (putNumber_calls b w v xs k.size (by omega) (by omega) HO'.out hb hl1).mono ?_
 rintro e w1 ⟨u, rfl, h1, h2⟩
 have HR1 := Aside0.mk h1
 have HU1 := Aside0.mk h2
 have hb1 : b ≤ w1.heap.size := Nat.le_trans hb h2.size
 clear h1 h2
 go_wp2_with (at_builtin; refine appStr rfl (.tmp 8) (.tmp 9) rfl u _ k rfl rfl HR1.out hb1 hl2 ?_; intro v2 w2 h1 h2; (have HR2 := Aside0.mk h1); (have HU2 := Aside0.mk h2); clear h1 h2)
 go_ret
 exact ⟨v2, rfl, by have h := HR2.out; rwa [List.append_assoc] at h, HU1.out.trans HU2.out⟩
end Go.Proofs.Ythmkioodkldgbaa.DK
/- value.encode; conditions: those in each theorem. -/
namespace Go.Proofs.Ythmkioodkldgbaa.DK
open Go.Proofs.Ythmkioodkldgbaa.PD
open Go.RowKit Go.Proofs.YthmkioodkldgbaaW.PrintWords Go.Proofs.YthmkioodkldgbaaW.PrintLast Go.Proofs.YthmkioodkldgbaaW.PrintMore
set_option linter.unusedVariables false
set_option linter.unusedSimpArgs false
set_option maxRecDepth 100000
/-- A number as one of at least 0. -/
def zz (n : Int) : Int := if n < 0 then -2 * n - 1 else 2 * n
theorem wrap_u64 (n : Int) : IntKind.u64.wrap n = n % 18446744073709551616 := by simp [IntKind.wrap, IntKind.bits, IntKind.signed]
theorem zz_bits {m : Int} (h0 : -9223372036854775808 ≤ m) (h1 : m ≤ 9223372036854775807) : bits .xor .u64 (IntKind.u64.wrap (IntKind.u64.wrap m * 2)) (IntKind.u64.wrap (m / 9223372036854775808)) = zz m := by
 rw [wrap_u64, wrap_u64, wrap_u64]
 unfold zz
 by_cases h : m < 0
 ·rw [if_pos h]
  have e1 : m % 18446744073709551616 * 2 % 18446744073709551616 = ((2 * m + 18446744073709551616).toNat : Int) := by omega
  have e2 : m / 9223372036854775808 % 18446744073709551616 = ((18446744073709551615 : Nat) : Int) := by omega
  rw [e1, e2]
  have hlt : (2 * m + 18446744073709551616).toNat < 2 ^ 64 := by omega
  generalize hq : (2 * m + 18446744073709551616).toNat = q at *
  have h3 : q ^^^ 18446744073709551615 = 18446744073709551615 - q := by
   have h2 := congrArg BitVec.toNat (BitVec.xor_allOnes (x := BitVec.ofNat 64 q))
   rw [BitVec.toNat_not, BitVec.toNat_xor, BitVec.toNat_allOnes, BitVec.toNat_ofNat, Nat.mod_eq_of_lt hlt] at h2
   exact h2
  show IntKind.u64.wrap (((BitVec.ofInt 64 (q : Int)) ^^^ (BitVec.ofInt 64 ((18446744073709551615 : Nat) : Int))).toNat : Int) = _
  rw [BitVec.ofInt_natCast, BitVec.ofInt_natCast, BitVec.toNat_xor, BitVec.toNat_ofNat, BitVec.toNat_ofNat, Nat.mod_eq_of_lt hlt, Nat.mod_eq_of_lt (by decide : 18446744073709551615 < 2 ^ 64), h3, wrap_u64]
  omega
 ·rw [if_neg h]
  have e1 : m % 18446744073709551616 * 2 % 18446744073709551616 = ((2 * m).toNat : Int) := by omega
  have e2 : m / 9223372036854775808 % 18446744073709551616 = ((0 : Nat) : Int) := by omega
  rw [e1, e2]
  have hlt : (2 * m).toNat < 2 ^ 64 := by omega
  show IntKind.u64.wrap (((BitVec.ofInt 64 (((2 * m).toNat : Nat) : Int)) ^^^ (BitVec.ofInt 64 ((0 : Nat) : Int))).toNat : Int) = _
  rw [BitVec.ofInt_natCast, BitVec.ofInt_natCast, BitVec.toNat_xor, BitVec.toNat_ofNat, BitVec.toNat_ofNat, Nat.mod_eq_of_lt hlt, Nat.zero_mod, Nat.xor_zero, wrap_u64]
  omega
mutual
def encM : S25 → List Int
 | ⟨k, n, t, l⟩ => if k = 1 then 1 :: grp (zz n) else if k = 2 then 2 :: ((t.size : Int) % 256) :: bytesOf t else if k = 3 then 3 :: ((l.length : Int) % 256) :: encL l else [0]
def encL : List S25 → List Int
 | [] => []
 | x :: l => encM x ++ encL l
end
theorem encM_eq (v : S25) : encM v = if v.f0 = 1 then 1 :: grp (zz v.f1) else if v.f0 = 2 then 2 :: ((v.f2.size : Int) % 256) :: bytesOf v.f2 else if v.f0 = 3 then 3 :: ((v.f3.length : Int) % 256) :: encL v.f3 else [0] := by
 obtain ⟨k, n, t, l⟩ := v
 rw [encM]
theorem encL_nil : encL [] = [] := by rw [encL]
theorem encL_cons (x : S25) (l : List S25) : encL (x :: l) = encM x ++ encL l := by rw [encL]
mutual
/-- Its whole numbers are such. -/
def okS : S25 → Prop
 | ⟨k, n, t, l⟩ => (-9223372036854775808 ≤ k ∧ k ≤ 9223372036854775807) ∧ (-9223372036854775808 ≤ n ∧ n ≤ 9223372036854775807) ∧ okL l
def okL : List S25 → Prop
 | [] => True
 | x :: l => okS x ∧ okL l
end
theorem okS_eq (v : S25) : okS v = ((-9223372036854775808 ≤ v.f0 ∧ v.f0 ≤ 9223372036854775807) ∧ (-9223372036854775808 ≤ v.f1 ∧ v.f1 ≤ 9223372036854775807) ∧ okL v.f3) := by
 obtain ⟨k, n, t, l⟩ := v
 rw [okS]
theorem okL_mem : ∀ {l : List S25}, okL l → ∀ x ∈ l, okS x
 | [], _, x, hx => by simp at hx
 | y :: l, h, x, hx => by
  rw [okL] at h
  rcases List.mem_cons.1 hx with rfl | hx
  ·exact h.1
  ·exact okL_mem h.2 x hx
structure EncI (b : Nat) (w : World) (l : List S25) (zs : List Int) (u : Value) (i : Nat) (ys : List Int) (wr : World) : Prop where
 le : i ≤ l.length
 row : R5 b wr u ys
 up : U5 b w wr
 eq : ys ++ encL (l.drop i) = zs
def EncE (b : Nat) (w : World) (l : List S25) (zs : List Int) (u iv : Value) (wr : World) : Prop := ∃ (i : Nat) (ys : List Int), iv = .int .i64 i ∧ EncI b w l zs u i ys wr
set_option maxHeartbeats 8000000 in
theorem encode_calls (b : Nat) (n : Nat) : ∀ (v : S25) (hn : SizeOf.sizeOf v ≤ n) (hn1 : okS v) (w0 w : World) (u : Value) (xs : List Int) (A : Option Addr) (c : Nat) (HO : R5 b w u xs) (hB : w0.heap.size ≤ b) (hb : b ≤ w.heap.size) (hv : ValIn w0 w v.f3 A c) (hl : (xs ++ encM v).length ≤ 140737488355328),
  Calls Try.prog 146 #[u, .agg #[.int .i64 v.f0, .int .i64 v.f1, .string v.f2, .slice A v.f3.length c]] w (Ext b w (xs ++ encM v)) := by
 induction n with
 | zero =>
  intro v hn
  obtain ⟨k, m, t, l⟩ := v
  simp at hn
 | succ n ih =>
  intro v hn hn1 w0 w u xs A c HO hB hb hv hl
  rw [okS_eq] at hn1
  have HIH := Aside0.mk (fun (x : S25) (hx : x ∈ v.f3) => ih x (by have := size_mem hx; omega) (okL_mem hn1.2.2 x hx))
  have hr1 := hn1.2.1
  clear hn1
  have HV := Aside0.mk hv
  have HR := Aside0.mk HO
  rw [encM_eq] at hl ⊢
  obtain ⟨k, m, t, l⟩ := v
  dsimp only at HIH HV hv hl hr1 ⊢
  have hlen : l.length ≤ 9223372036854775807 := hv.r.2.1
  have hu25 := Try.underlying25
  clear hv hn ih HO
  unfold Ext
  by_cases h1 : k = 1
  ·subst h1
   rw [if_pos rfl] at hl ⊢
   have HZ := Aside0.mk (zz_bits hr1.1 hr1.2)
   go_enter Try.func146, Try.ntmps146
   go_wp2
   have hbx : (w.alloc (.cells #[.int .i64 1, .int .i64 m, .string t, .slice A l.length c] 25)).heap[w.heap.size]? = some (.cells #[.int .i64 1, .int .i64 m, .string t, .slice A l.length c] 25 (0, 0)) := heap_alloc_new w _
   have m1 := blk_cell hbx 1
   simp only [List.getElem?_toArray, List.getElem?_cons_succ, List.getElem?_cons_zero] at m1
   have HBX := Aside0.mk hbx
   clear hbx
   refine start_ (n := 14) (S := fun w' => w'.cell? ⟨w.heap.size, 1, none⟩ = some (.int .i64 m)) (ds := [12]) #[false, false, false, false, false, false, false, false, false, false, false, false, false, false] (by kernel_rfl) rfl rfl (m1) (fun hHeld => ?_)
   refine zq 0 (some 11) ?_
   refine zq 3 (some 14) ?_
   refine zq 7 (some 18) ?_
   refine zu 4 (some 15) hHeld ?_
   refine zq 5 (some 16) ?_
   refine zq 6 (some 17) ?_
   refine zu 8 (some 19) hHeld ?_
   refine zq 9 (some 20) ?_
   refine zq 10 (some 21) ?_
   refine zq 11 (some 22) ?_
   refine one_ (i := 1) (N := some 12) #[true, true, false, true, true, true, true, true, true, true, true, true, false, false] rfl rfl (by kernel_rfl) (by decide) (fun K hK => ?_)
   refine value_ (w1 := ?_) (v := ?_) (by rfl) rfl ?_ ?_
   rotate_left 2
   ·go_simp
    constructor
    ·rfl
    ·rfl
   refine hK.out _ _ ((blk_cell (blk_alloc HBX.out _) 1)) (fun hHeld => ?_)
   clear hK K
   refine norm_ (a' := ?_) ?_ ?_
   rotate_left
   ·show Act.put _ (some 12) _ = _
    simp only [Act.put, zla, zlb, zlc, i64_w, i32_w]
    rfl
   refine one_ (i := 2) (N := some 13) #[true, true, true, true, true, true, true, true, true, true, true, true, false, false] rfl rfl (by kernel_rfl) (by decide) (fun K hK => ?_)
   refine appLit_step (by rfl) (.tmp 11) (.tmp 12) rfl u xs [1] rfl _ _ ⟨1, rfl⟩ rfl 1 rfl _ rfl (by simp) (HR.out.alloc _) (by simp; omega) (by simp at hl ⊢; omega) ?_
   intro v1 w1 h1 h2
   have HR1 := Aside0.mk h1
   have HU1 := Aside0.mk (((U5.refl b w).alloc _).trans h2)
   have HB1 := Aside0.mk (h2.blk HBX.out (by decide))
   clear h1 h2
   refine hK.out _ _ ((blk_cell HB1.out 1)) (fun hHeld => ?_)
   clear hK K
   refine norm_ (a' := ?_) ?_ ?_
   rotate_left
   ·show Act.put _ (some 13) _ = _
    simp only [Act.put, zla, zlb, zlc, i64_w, i32_w]
    rfl
   refine last_ (i := 12) (N := some 23) #[true, true, true, true, true, true, true, true, true, true, true, true, true, false] rfl rfl (by kernel_rfl) (by decide) (fun K hK => ?_)
   rw [HZ.out]
   refine goes_ Try.func154 (by kernel_rfl) rfl #[v1, .int .u64 (zz m)] (by rfl) rfl rfl (by simp only [List.map_toArray, List.map_cons, List.map_nil]; rfl) ?_
   refine (groups_calls b _ v1 (xs ++ [1]) (zz m) (by unfold zz; split <;> omega) (by unfold zz; split <;> omega) HR1.out (Nat.le_trans hb HU1.out.size) (by simpa using hl)).mono ?_
   rintro e w2 ⟨u2, rfl, h1, h2⟩
   have HR2 := Aside0.mk h1
   have HU2 := Aside0.mk (HU1.out.trans h2)
   clear h1 h2
   refine ⟨_, rfl, ?_⟩
   refine hK.out _ _ ?_
   clear hK K
   refine norm_ (a' := ?_) ?_ ?_
   rotate_left
   ·show Act.put _ (some 23) _ = _
    simp only [Act.put, zla, zlb, zlc, i64_w, i32_w]
    rfl
   refine zq 13 (some 4) ?_
   refine done_ (by kernel_rfl) ?_
   go_wp2
   go_ret
   exact ⟨u2, rfl, by have h := HR2.out; rwa [List.append_assoc] at h, by first | exact HU2.out | exact HU2.out.drew⟩
  rw [if_neg h1] at hl ⊢
  by_cases h2 : k = 2
  ·subst h2
   clear h1
   rw [if_pos rfl] at hl ⊢
   have hl1 : xs.length + [2, (t.size : Int) % 256].length ≤ 140737488355328 := by simp at hl ⊢; omega
   have hl2 : (xs ++ [2, (t.size : Int) % 256]).length + t.size ≤ 140737488355328 := by have := bytesOf_length t; simp at hl ⊢; omega
   go_enter Try.func146, Try.ntmps146
   go_wp2_with (first | (at_builtin; refine appLit rfl (.tmp 26) (.tmp 31) rfl u xs [2, (t.size : Int) % 256] rfl _ rfl 2 rfl _ (by first | (go_simp; done) | (go_simp; rfl)) (by simp) (HR.out.alloc _) (by simp; omega) hl1 ?_; intro v1 w1 h1 h2; (have HR1 := Aside0.mk h1); (have HU1 := Aside0.mk (((U5.refl b w).alloc _).trans h2)); (have hb1 : b ≤ w1.heap.size := Nat.le_trans hb (HU1.out.size)); (have HB1 := Aside0.mk (h2.blk (heap_alloc_new w (.cells #[.int .i64 2, .int .i64 m, .string t, .slice A l.length c] 25)) (by decide))); (have m2 := blk_cell HB1.out 2); simp only [List.getElem?_toArray, List.getElem?_cons_succ, List.getElem?_cons_zero] at m2; clear h1 h2) | (at_builtin; refine appStr rfl (.tmp 33) (.tmp 35) rfl v1 _ t rfl rfl HR1.out hb1 hl2 ?_; intro v2 w2 h1 h2; (have HR2 := Aside0.mk h1); (have HU2 := Aside0.mk (HU1.out.trans h2)); clear h1 h2))
   go_ret
   exact ⟨v2, rfl, by have h := HR2.out; rwa [List.append_assoc] at h, HU2.out⟩
  rw [if_neg h2] at hl ⊢
  by_cases h3 : k = 3
  ·subst h3
   clear h1 h2
   rw [if_pos rfl] at hl ⊢
   have hl1 : xs.length + [3, (l.length : Int) % 256].length ≤ 140737488355328 := by simp at hl ⊢; omega
   have HL := Aside0.mk hl
   clear hl
   go_enter Try.func146, Try.ntmps146
   go_wp2_with (first | (at_builtin; refine appLit rfl (.tmp 39) (.tmp 44) rfl u xs [3, (l.length : Int) % 256] rfl _ rfl 2 rfl _ (by first | (go_simp; done) | (go_simp; rfl)) (by simp) (HR.out.alloc _) (by simp; omega) hl1 ?_; intro v1 w1 h1 h2; (have HR1 := Aside0.mk h1); (have HU1 := Aside0.mk (((U5.refl b w).alloc _).trans h2)); (have hb1 : b ≤ w1.heap.size := Nat.le_trans hb (HU1.out.size)); (have HB1 := Aside0.mk (h2.blk (heap_alloc_new w (.cells #[.int .i64 3, .int .i64 m, .string t, .slice A l.length c] 25)) (by decide))); (have m3 := blk_cell HB1.out 3); simp only [List.getElem?_toArray, List.getElem?_cons_succ, List.getElem?_cons_zero] at m3; clear h1 h2))
   clear m3
   go_loopw [0, 49] (fun u iv wr => EncE b w1 l (xs ++ 3 :: ((l.length : Int) % 256) :: encL l) u iv wr) (fun _ iv _ => l.length - (intOf iv).toNat)
   case atStart => exact ⟨0, _, rfl, Nat.zero_le _, HR1.out, U5.refl _ _, by simp⟩
   case round =>
    obtain ⟨i, ys, rfl, hle, hrow, hup, heq⟩ := hrel
    have HRW := Aside0.mk hrow
    have HUP := Aside0.mk hup
    have HBL := Aside0.mk (HV.out.below (((HU1.out.trans hup).below hb).mono hB))
    have hbr : b ≤ wr.heap.size := Nat.le_trans hb1 hup.size
    clear hrow hup
    by_cases hlt : i < l.length
    ·obtain ⟨ad, A3, c3, rfl, hcell, hvi⟩ := HBL.out.at hlt
     have hdrop : l.drop i = l[i] :: l.drop (i + 1) := List.drop_eq_getElem_cons hlt
     obtain ⟨d0, d1, d2, d3⟩ := hcell wr (Below.refl _ _)
     rw [hdrop, encL_cons, ← List.append_assoc] at heq
     have hll : (ys ++ encM l[i]).length ≤ 140737488355328 := by
      have h := HL.out
      rw [← heq] at h
      simp only [List.length_append] at h ⊢
      omega
     have HEQ := Aside0.mk heq
     have HX := Aside0.mk (fun (W : World) (hw : Below wr.heap.size wr W) => HIH.out l[i] (List.getElem_mem hlt) w0 W u0 ys A3 c3 (HRW.out.below hw) hB (Nat.le_trans hbr hw.size) (hvi.below (hw.mono (Nat.le_trans hB hbr))) hll)
     clear hcell hvi heq hdrop hll
     generalize l[i] = x at *
     go_wp2_with fail
     refine (HX.out _ ?hw).mono ?_
     case hw => repeat (with_reducible first | exact Below.refl _ _ | apply below_drew | apply pw_below_drewN | apply below_alloc)
     rintro e w5 ⟨u5, rfl, h1, h2⟩
     have HR5 := Aside0.mk h1
     have HU5 := Aside0.mk ((HUP.out.alloc _).trans h2)
     clear h1 h2
     go_wp2
     go_roundw
     case rel => exact ⟨i + 1, _, by simp, hlt, HR5.out, HU5.out, HEQ.out⟩
     case measure => simp [intOf]; omega
    ·have hi : i = l.length := by omega
     rw [hi, List.drop_length, encL_nil, List.append_nil] at heq
     have hir : ¬ (i : Int) < (l.length : Int) := by omega
     have HEQ := Aside0.mk heq
     clear heq hi
     go_wp2
     go_ret
     exact ⟨_, rfl, by have h := HRW.out; rwa [HEQ.out] at h, HU1.out.trans HUP.out⟩
  rw [if_neg h3] at hl ⊢
  have e1 : (k == 1) = false := by simpa using h1
  have e2 : (k == 2) = false := by simpa using h2
  have e3 : (k == 3) = false := by simpa using h3
  clear h1 h2 h3
  go_enter Try.func146, Try.ntmps146
  go_wp2_with (first | (at_builtin; refine app1 rfl (.tmp 58) (.tmp 59) rfl u xs 0 rfl (by first | (go_simp; done) | (go_simp; rfl)) (HR.out.alloc _) (by simp; omega) (by simpa using hl) ?_; intro v1 w1 h1 h2; (have HR1 := Aside0.mk h1); (have HU1 := Aside0.mk (((U5.refl b w).alloc _).trans h2)); clear h1 h2))
  go_ret
  exact ⟨v1, rfl, HR1.out, HU1.out⟩
end Go.Proofs.Ythmkioodkldgbaa.DK
/- value.valid, value.Encode, wire.putValue; conditions: those in each theorem. -/
namespace Go.Proofs.Ythmkioodkldgbaa.DK
open Go.Proofs.Ythmkioodkldgbaa.PD
open Go.RowKit Go.Proofs.YthmkioodkldgbaaW.PrintWords Go.Proofs.YthmkioodkldgbaaW.PrintLast Go.Proofs.YthmkioodkldgbaaW.PrintMore
set_option linter.unusedVariables false
set_option linter.unusedSimpArgs false
set_option maxRecDepth 100000
theorem grp_len10 {n : Int} (h : n < 18446744073709551616) : (grp n).length ≤ 10 := grpN_len 9 n.toNat (by omega)
mutual
/-- How long a valid value's bytes are. -/
theorem encM_len : ∀ (v : S25) (d p : Int), okS v → (chk v d p).2 = 0 → ((encM v).length : Int) + 26 * p ≤ 26 * (chk v d p).1
 | ⟨k, n, t, l⟩, d, p, ho, h => by
  rw [okS_eq] at ho
  rw [chk_eq] at h ⊢
  rw [encM_eq]
  dsimp only at h ⊢ ho
  split at h
  ·simp at h
  split at h
  ·simp at h
  split at h
  ·simp at h
  split at h
  ·simp at h
  split at h
  ·simp at h
  split at h
  ·simp at h
  rename_i h1 h2 h3 h4 h5 h6
  rw [if_neg h1, if_neg h2, if_neg h3, if_neg h4, if_neg h5, if_neg h6]
  have hge := chkL_ge l (d + 1) (p + 1)
  split
  ·have h := grp_len10 (n := zz n) (by unfold zz; split <;> omega)
   simp only [List.length_cons]
   omega
  split
  ·have h := bytesOf_length t
   simp only [List.length_cons]
   omega
  split
  ·have hh := encL_len l (d + 1) (p + 1) ho.2.2 h
   simp only [List.length_cons]
   omega
  ·simp only [List.length_singleton]
   omega
theorem encL_len : ∀ (l : List S25) (d p : Int), okL l → (chkL l d p).2 = 0 → ((encL l).length : Int) + 26 * p ≤ 26 * (chkL l d p).1
 | [], d, p, _, _ => by rw [encL_nil, chkL_nil]; simp
 | x :: l, d, p, ho, h => by
  rw [okL] at ho
  rw [chkL_cons] at h ⊢
  rw [encL_cons]
  split at h
  ·rename_i hz
   exact absurd h hz
  ·rename_i hz
   rw [if_neg hz]
   have h1 := encM_len x d p ho.1 (by omega)
   have h2 := encL_len l d _ ho.2 h
   simp only [List.length_append]
   omega
end
/-- A value that the walk finds no fault in. -/
def okV (v : S25) : Prop := okS v ∧ (chk v 0 0).2 = 0
theorem okV_len {v : S25} (h : okV v) : (encM v).length ≤ 312 := by
 have h1 := encM_len v 0 0 h.1 h.2
 have h2 := (chk_ge v 0 0).2 h.2
 omega
set_option maxHeartbeats 4000000 in
theorem valid_calls (v : S25) (w : World) (A : Option Addr) (c : Nat) (hr : k25.C w A v.f3.length v.f3) (hc : v.f3.length ≤ c) (hk : (chk v 0 0).2 = 0) :
  Calls Try.prog 147 #[.agg #[.int .i64 v.f0, .int .i64 v.f1, .string v.f2, .slice A v.f3.length c]] w fun e w' => e = .returned (.agg #[.int .i64 v.f0, .int .i64 v.f1, .string v.f2, .slice A v.f3.length c]) ∧ Below w.heap.size w w' := by
 obtain ⟨k, m, t, l⟩ := v
 dsimp only at hr hc ⊢
 have HC := Aside0.mk (fun (W : World) (hb : Below w.heap.size w W) => value_Check.calls k m t A c l 0 W (Kd.C_below hr hb) hc (by unfold value_Check.f; rw [hk]))
 clear hr hk
 go_enter Try.func147, Try.ntmps147
 go_wp2_with fail
 refine (HC.out _ ?hw).mono ?_
 case hw => repeat (with_reducible first | exact Below.refl _ _ | apply below_drew | apply pw_below_drewN | apply below_alloc)
 rintro e w1 ⟨rfl, hb⟩
 have HB := Aside0.mk (show Below w.heap.size w w1 from (below_alloc (below_alloc (Below.refl _ _) _) _).trans (hb.mono (by simp; omega)))
 have hx1 := (hb.block w.heap.size (by simp; omega)).trans ((Below.heap_alloc _ _ _ (by simp)).trans (heap_alloc_new w (.cells #[.int .i64 k, .int .i64 m, .string t, .slice A l.length c] 25)))
 have hx2 := (hb.block (w.heap.size + 1) (by simp)).trans (new2 w _ _)
 have HX1 := Aside0.mk hx1
 have HX2 := Aside0.mk hx2
 have m0 := blk_cell hx1 0
 have m1 := blk_cell hx1 1
 have m2 := blk_cell hx1 2
 have m3 := blk_cell hx1 3
 have n0 := blk_cell hx2 0
 have n1 := blk_cell hx2 1
 have n2 := blk_cell hx2 2
 have n3 := blk_cell hx2 3
 have f0 := blk_frozen hx2 0
 have f1 := blk_frozen hx2 1
 have f2 := blk_frozen hx2 2
 have f3 := blk_frozen hx2 3
 simp only [List.getElem?_toArray, List.getElem?_cons_succ, List.getElem?_cons_zero] at m0 m1 m2 m3 n0 n1 n2 n3 f0 f1 f2 f3
 have hz : w.heap.size + 1 < w1.heap.size := blk_lt hx2
 clear hx1 hx2 hb
 go_wp2
 refine bodyPost_ret (results_single rfl (.cell (w.heap.size + 1) 25 #[.int .i64 k, .int .i64 m, .string t, .slice A l.length c] (0, 0) _ rfl (by simp only [heap_set, HX2.out, Option.map_some]; rfl) Try.underlying25 rfl (by kernel_rfl) .nil)) rfl ⟨rfl, ?_⟩
 exact ((((Below.setCell HB.out (by simp) _).setCell (by simp) _).setCell (by simp) _).setCell (by simp) _)
set_option maxHeartbeats 4000000 in
theorem Encode_calls (v : S25) (w : World) (A : Option Addr) (c : Nat) (hr : k25.C w A v.f3.length v.f3) (hc : v.f3.length ≤ c) (hk : okV v) :
  Calls Try.prog 140 #[.agg #[.int .i64 v.f0, .int .i64 v.f1, .string v.f2, .slice A v.f3.length c]] w (Bytes5 w (encM v)) := by
 have HC := Aside0.mk (fun (W : World) (hb : Below w.heap.size w W) => valid_calls v W A c (Kd.C_below hr hb) hc hk.2)
 have HV := Aside0.mk (ValIn.now hr hc)
 have hle := okV_len hk
 clear hr
 unfold Bytes5
 go_enter Try.func140, Try.ntmps140
 go_wp2_with fail
 refine (HC.out _ ?hw).mono ?_
 case hw => repeat (with_reducible first | exact Below.refl _ _ | apply below_drew | apply pw_below_drewN | apply below_alloc)
 rintro e w1 ⟨rfl, hb⟩
 have HB := Aside0.mk (show Below w.heap.size w w1 from (below_alloc (Below.refl _ _) _).trans (hb.mono (by simp)))
 clear hb
 go_wp2_with fail
 refine (encode_calls w.heap.size _ v (Nat.le_refl _) hk.1 w _ (.slice none 0 0) [] A c (R5.nil _ _) (Nat.le_refl _) HB.out.size (HV.out.below HB.out) (by simp; omega)).mono ?_
 rintro e w2 ⟨u, rfl, h1, h2⟩
 have HR := Aside0.mk h1
 have HU := Aside0.mk h2
 clear h1 h2
 go_wp2
 go_ret
 exact ⟨u, rfl, by have h := HR.out; rwa [List.nil_append] at h, HB.out.trans (HU.out.below HB.out.size)⟩
set_option maxHeartbeats 4000000 in
theorem putValue_calls (b : Nat) (w : World) (u : Value) (xs : List Int) (v : S25) (A : Option Addr) (c : Nat) (HO : R5 b w u xs) (hb : b ≤ w.heap.size) (hr : k25.C w A v.f3.length v.f3) (hc : v.f3.length ≤ c) (hk : okV v) (hl : (xs ++ encM v).length ≤ 140737488355328) :
  Calls Try.prog 125 #[u, .agg #[.int .i64 v.f0, .int .i64 v.f1, .string v.f2, .slice A v.f3.length c]] w (Ext b w (xs ++ encM v)) := by
 have HC := Aside0.mk (fun (W : World) (hb : Below w.heap.size w W) => Encode_calls v W A c (Kd.C_below hr hb) hc hk)
 have HR := Aside0.mk HO
 have hl2 : xs.length + (encM v).length ≤ 140737488355328 := by simpa using hl
 clear hr HO
 unfold Ext
 go_enter Try.func125, Try.ntmps125
 go_wp2_with fail
 refine (HC.out _ ?hw).mono ?_
 case hw => repeat (with_reducible first | exact Below.refl _ _ | apply below_drew | apply pw_below_drewN | apply below_alloc)
 rintro e w1 ⟨q, rfl, h1, h2⟩
 have HB := Aside0.mk (show Below w.heap.size w w1 from (below_alloc (Below.refl _ _) _).trans (h2.mono (by simp)))
 have HQ := Aside0.mk h1
 clear h1 h2
 go_wp2_with (at_builtin; refine appOwn rfl (.tmp 5) (.tmp 7) rfl u q xs (encM v) rfl rfl (HR.out.below HB.out) HQ.out (Nat.le_trans hb HB.out.size) hl2 ?_; intro v1 w2 h1 h2; (have HR1 := Aside0.mk h1); (have HU1 := Aside0.mk ((U5.of_below HB.out).trans h2)); clear h1 h2)
 go_ret
 exact ⟨v1, rfl, HR1.out, HU1.out⟩
end Go.Proofs.Ythmkioodkldgbaa.DK
