/- PROVED: what the Go function frame.Wrap makes of a body of bytes: a new row: two bytes of its length, two of the complement's, the body, four of its checksum; a body that is too long gives none; conditions: the table's place, bytes. -/
import Derived.Test.YtgfinjhhkmflfaaDoorPFx2
import Derived.Lib.SmallJoins
import Derived.Laws.CopyOwn
import Derived.IntWalk
namespace Go.Proofs.YtgfinjhhkmflfaaDoor.PF
open Go.RowKit Go.Proofs.YtgfinjhhkmflfaaDoorW.PrintWords Go.Proofs.YtgfinjhhkmflfaaDoorW.PrintLast Go.Proofs.YtgfinjhhkmflfaaDoorW.PrintMore
open Go.Joins (block_setCell)
set_option linter.unusedVariables false
/-- A number's two bytes, the lower one first. -/
def le2 (m : Int) : List Int := [m % 256, m / 256]
/-- The checksum of a list of bytes. -/
def sumL (l : List Int) : Nat := 4294967295 - Crc.reg 4294967295 (l.map Int.toNat)
/-- The frame of a body. -/
def wrapL (l : List Int) : List Int := le2 l.length ++ le2 (65535 - l.length) ++ l ++ le2 ((sumL l : Int) % 65536) ++ le2 ((sumL l : Int) / 65536)
/-- What frame.Wrap computes. -/
def frame_Wrap.f (l0 l1 : List Int) : Option (List Int × Int) :=
  if (∀ x ∈ l0, 0 ≤ x ∧ x < 256) ∧ l1 ≠ [] then (if l0.length > 32768 then some ([], 10) else some (wrapL l0, 0)) else none
theorem sumL_lt (l : List Int) : sumL l < 4294967296 := by unfold sumL; omega
theorem frame_Sum_eq (l l1 : List Int) (hb : ∀ x ∈ l, 0 ≤ x ∧ x < 256) (h1 : l1 ≠ []) : frame_Sum.f l l1 = some ((sumL l : Nat) : Int) := by
  unfold frame_Sum.f frame_Add.f
  rw [if_pos ⟨by omega, by omega, hb, h1⟩]
  rfl

/-- put2 over a whole block's cells. -/
theorem put2_blk (L : List Int) (g off n cap : Nat) (m : Int) (w : World) (hg : w.heap[g]? = some (.cells (nums .u8 L).toArray 5 (0, 0))) (ho : off + 1 < L.length) (hn : 2 ≤ n) (h0 : 0 ≤ m) (h1 : m ≤ 65535) :
    Calls Tryd.prog 42 #[.slice (some ⟨g, off, none⟩) n cap, .int .i64 m] w fun e w' => e = .returned (.tuple #[]) ∧ w'.heap[g]? = some (.cells (nums .u8 ((L.set off (m % 256)).set (off + 1) (m / 256))).toArray 5 (0, 0)) ∧ ∀ B w0, Below B w0 w → B ≤ g → Below B w0 w' := by
  have c0 : w.cell? ⟨g, off, none⟩ = some (.int .u8 (L.getD off 0)) := by
    rw [cell_of_row w g off _ 5 (0, 0) hg]
    simp [nums, List.getElem?_eq_getElem (show off < L.length by omega), List.getD_eq_getElem?_getD]
  have c1 : w.cell? ⟨g, off + 1, none⟩ = some (.int .u8 (L.getD (off + 1) 0)) := by
    rw [cell_of_row w g (off + 1) _ 5 (0, 0) hg]
    simp [nums, List.getElem?_eq_getElem ho, List.getD_eq_getElem?_getD]
  have f0 : w.frozen? ⟨g, off, none⟩ = false := by simp [World.frozen?, hg]
  have f1 : w.frozen? ⟨g, off + 1, none⟩ = false := by simp [World.frozen?, hg]
  have b0 : (1 : Int) < (n : Int) := by omega
  have b1 : (0 : Int) < (n : Int) := by omega
  have hend : ∀ (e : Ending) (w' : World), e = .returned (.tuple #[]) → w' = (w.setCell ⟨g, off, none⟩ (.int .u8 (m % 256))).setCell ⟨g, off + 1, none⟩ (.int .u8 (m / 256)) → e = .returned (.tuple #[]) ∧ w'.heap[g]? = some (.cells (nums .u8 ((L.set off (m % 256)).set (off + 1) (m / 256))).toArray 5 (0, 0)) ∧ ∀ B w0, Below B w0 w → B ≤ g → Below B w0 w' := by
    rintro e w' rfl rfl
    refine ⟨rfl, ?_, fun B w0 hb hB => (hb.setCell hB _).setCell hB _⟩
    rw [block_setCell (block_setCell hg _) _]
    simp [nums, List.map_set]
  have HG := Aside0.mk hg
  have HE := Aside0.mk hend
  clear hg hend
  go_enter Tryd.func42, Tryd.ntmps42
  go_wp2
  go_end0
  exact HE.out _ _ rfl rfl
theorem nums_splice (L l : List Int) (off : Nat) : splice (nums .u8 L) off (nums .u8 l) = nums .u8 (splice L off l) := by simp [splice, nums]
/-- What the stores come to. -/
theorem wrap_list (l : List Int) (n : Nat) (hn : l.length = n) (a b c d e f g h : Int) :
    ((((splice (((((List.replicate (n + 8) 0).set 0 a).set 1 b).set 2 c).set 3 d) 4 l).set (4 + n) e).set (4 + n + 1) f).set (6 + n) g).set (6 + n + 1) h = [a, b, c, d] ++ l ++ [e, f, g, h] := by
  have e1 : ((((List.replicate (n + 8) (0 : Int)).set 0 a).set 1 b).set 2 c).set 3 d = [a, b, c, d] ++ List.replicate n 0 ++ [0, 0, 0, 0] := by
    rw [show n + 8 = 4 + n + 4 by omega, ← List.replicate_append_replicate, ← List.replicate_append_replicate]
    simp [List.replicate_succ]
  rw [e1]
  have e2 : splice ([a, b, c, d] ++ List.replicate n 0 ++ [0, 0, 0, 0]) 4 l = [a, b, c, d] ++ l ++ [0, 0, 0, 0] := by
    unfold splice
    rw [hn]
    simp
    rw [show 4 + n = (a :: b :: c :: d :: List.replicate n 0).length + 0 by simp; omega]
    have : a :: b :: c :: d :: (List.replicate n 0 ++ [0, 0, 0, 0]) = (a :: b :: c :: d :: List.replicate n 0) ++ [0, 0, 0, 0] := by simp
    rw [this, List.drop_length_add_append]
    simp
  rw [e2]
  have k1 : 4 + n = ([a, b, c, d] ++ l).length + 0 := by simp; omega
  have k2 : 6 + n = ([a, b, c, d] ++ l).length + 2 := by simp; omega
  rw [k2, k1]
  simp only [List.set_append_right _ _ (Nat.le_add_right _ _), Nat.add_assoc]
  simp
set_option maxHeartbeats 1000000 in
theorem frame_Wrap.calls (A0 : Option Addr) (c0 : Nat) (l0 : List Int) (A1 : Option Addr) (c1 : Nat) (l1 : List Int) (r1 : List Int) (r2 : Int) (w : World)
    (hr0 : Kd.C (Kd.int .u8) w A0 l0.length l0) (hc0 : l0.length ≤ c0) (hr1 : Kd.C kTab w A1 l1.length l1) (hc1 : l1.length ≤ c1) (h : frame_Wrap.f l0 l1 = some (r1, r2)) :
    Calls Tryd.prog 23 #[.slice A0 l0.length c0] w fun e w' => ∃ v0_ : Value, e = .returned (.tuple #[v0_, .int .i64 r2]) ∧ Kd.R (Kd.int .u8) 5 w' w.heap.size (fun _ => True) v0_ r1 ∧ Below w.heap.size w w' := by
  unfold frame_Wrap.f at h
  split at h
  · rename_i hh
    obtain ⟨hb, hl1⟩ := hh
    by_cases hbig : l0.length > 32768
    · rw [if_pos hbig] at h
      injection h with h
      injection h with e1 e2
      subst e1 e2
      have hbig' : (32768 : Int) < (l0.length : Int) := by omega
      clear hbig hb hr0 hr1
      go_enter Tryd.func23, Tryd.ntmps23
      go_wp2
      go_ret2
      exact ⟨_, rfl, Kd.R_nil _ _ _ _ _, Below.refl _ _⟩
    · rw [if_neg hbig] at h
      injection h with h
      injection h with e1 e2
      obtain ⟨n, hn⟩ : ∃ n, l0.length = n := ⟨_, rfl⟩
      have hn' : n ≤ 32768 := by omega
      have hsm : ¬ (32768 : Int) < (n : Int) := by omega
      have hmk : ∀ W : World, (Instr.makeSlice 23 (.int .i64 ((n : Int) + 8)) (.int .i64 ((n : Int) + 8))).run Tryd.prog W = .ok (.slice (some ⟨W.heap.size, 0, none⟩) (n + 8) (n + 8)) (W.alloc (.cells (madeCells #[.int .u8 0] (n + 8)) 5)) := fun W => by
        have := print_make (P := Tryd.prog) 23 5 .u8 1 Tryd.underlying23 info5 (by decide) (n + 8) (by omega) W
        simpa using this
      have hg1 : (w.alloc (.cells (madeCells #[.int .u8 0] (n + 8)) 5)).heap[w.heap.size]? = some (.cells (nums .u8 (List.replicate (n + 8) 0)).toArray 5 (0, 0)) := by
        rw [heap_alloc_new]
        congr 2
        apply Array.toList_inj.1
        apply List.ext_getElem
        · simp [nums, madeCells]
        · intro i h1 h2
          simp [nums, madeCells, Nat.mod_one]
      have hB1 : Below w.heap.size w (w.alloc (.cells (madeCells #[.int .u8 0] (n + 8)) 5)) := (Below.refl _ _).alloc (Nat.le_refl _) _
      have HR0 := Aside0.mk hr0
      have HR1 := Aside0.mk hr1
      have HL := Aside0.mk hn
      have HE1 := Aside0.mk e1
      have HB := Aside0.mk hb
      have HG1 := Aside0.mk hg1
      have HB1 := Aside0.mk hB1
      have HH1 := Aside0.mk hl1
      rw [hn] at hc0 ⊢
      subst e2
      clear hr0 hr1 hn e1 hb hg1 hB1 hl1 hbig
      go_enter Tryd.func23, Tryd.ntmps23
      go_wp2_with fail
      refine (put2_blk (List.replicate (n + 8) 0) w.heap.size 0 _ _ n _ HG1.out (by simp) (by omega) (by omega) (by omega)).mono ?_
      rintro e w1 ⟨rfl, hg2, hb2⟩
      have HG2 := Aside0.mk hg2
      have HB2 := Aside0.mk (hb2 _ _ HB1.out (Nat.le_refl _))
      clear hg2 hb2
      go_wp2_with fail
      refine (put2_blk _ w.heap.size 2 _ _ (65535 - n) _ HG2.out (by simp) (by omega) (by omega) (by omega)).mono ?_
      rintro e w2 ⟨rfl, hg3, hb3⟩
      have HG3 := Aside0.mk hg3
      have HB3 := Aside0.mk (hb3 _ _ HB2.out (Nat.le_refl _))
      clear hg3 hb3
      go_wp2_with (with_reducible refine wpList_copy_splice rfl (.tmp 24) (.tmp 25) 23 23 rfl 5 Tryd.underlying23 (by kernel_rfl) _ _ _ _ _ _ rfl rfl w.heap.size 4 (nums .u8 _) 5 HG3.out (nums .u8 l0) ?c1 ?c2 ?c3 ?c4 w.heap.size w HB3.out (Nat.le_refl _) ?_)
      case c1 =>
        rw [nums_length, HL.out]
        exact (Nat.min_eq_left (by omega)).symm
      case c2 =>
        intro hp
        rw [nums_length, HL.out] at hp
        have hr2 := Kd.reads_of_C (enc := Value.int .u8) (d := (0 : Int)) (h1 := fun _ => rfl) (Kd.C_below HR0.out HB3.out)
        obtain ⟨ad, e, hc⟩ := hr2.2.2 (by rw [HL.out]; exact hp)
        refine ⟨ad, e, fun j v hj => ?_⟩
        have hjl : j < l0.length := by
          rcases Nat.lt_or_ge j l0.length with h | h
          · exact h
          · simp [nums, List.getElem?_eq_none h] at hj
        have := hc j hjl
        simp only [nums, List.getElem?_map, List.getElem?_eq_getElem hjl, Option.map_some, Option.some.injEq] at hj
        subst hj
        rw [this]
        simp [List.getD_eq_getElem?_getD, List.getElem?_eq_getElem hjl]
      case c3 => simp [nums, HL.out]; omega
      case c4 =>
        intro v hv
        simp only [nums, List.mem_map] at hv
        obtain ⟨q, _, rfl⟩ := hv
        rfl
      intro w3 hg4 hb4
      have hg4' := hg4.out
      rw [nums_splice] at hg4'
      have HG4 := Aside0.mk hg4'
      have HB4 := Aside0.mk hb4
      clear hg4 hg4' hb4
      go_wp2_with fail
      rw [← HL.out]
      refine (frame_Sum.calls A0 c0 l0 A1 c1 l1 _ _ (Kd.C_below HR0.out HB4.out) (by rw [HL.out]; exact hc0) (Kd.C_below HR1.out HB4.out) hc1 (frame_Sum_eq l0 l1 HB.out HH1.out)).mono ?_
      rw [HL.out]
      rintro e w' ⟨rfl, ⟨nd, rfl⟩⟩
      have hs := sumL_lt l0
      obtain ⟨s, hse⟩ : ∃ s, sumL l0 = s := ⟨_, rfl⟩
      rw [hse] at hs ⊢
      have HS := Aside0.mk hse
      have hmask : Go.bits .and .u32 (s : Int) 65535 = (s : Int) % 65536 := by
        rw [show (65535 : Int) = ((65535 : Nat) : Int) from rfl, u32_and_nat _ _ hs (by decide)]
        rw [show (s &&& 65535) = s % 65536 from Nat.and_two_pow_sub_one_eq_mod s 16]
        rfl
      clear hse
      go_wp2_with fail
      refine (put2_blk _ w.heap.size (4 + n) (n + 8 - (4 + n)) (n + 8 - (4 + n)) ((s : Int) % 65536) (w3.drewN nd) HG4.out (by simp [splice, HL.out]; omega) (by omega) (by omega) (by omega)).mono ?_
      rintro e w4 ⟨rfl, hg5, hb5⟩
      have HG5 := Aside0.mk hg5
      have HB5 := Aside0.mk (hb5 _ _ (pw_below_drewN HB4.out nd) (Nat.le_refl _))
      clear hg5 hb5
      go_wp2_with fail
      refine (put2_blk _ w.heap.size (6 + n) (n + 8 - (6 + n)) (n + 8 - (6 + n)) ((s : Int) / 65536) _ HG5.out (by simp [splice, HL.out]; omega) (by omega) (by omega) (by omega)).mono ?_
      rintro e w5 ⟨rfl, hg6, hb6⟩
      have HG6 := Aside0.mk hg6
      have HB6 := Aside0.mk (hb6 _ _ HB5.out (Nat.le_refl _))
      clear hg6 hb6
      go_wp2
      go_ret2
      refine ⟨_, rfl, ?_, HB6.out⟩
      have hgl := HG6.out
      rw [wrap_list l0 n HL.out] at hgl
      have hrl : wrapL l0 = [(n : Int) % 256, (n : Int) / 256, (65535 - (n : Int)) % 256, (65535 - (n : Int)) / 256] ++ l0 ++ [(s : Int) % 65536 % 256, (s : Int) % 65536 / 256, (s : Int) / 65536 % 256, (s : Int) / 65536 / 256] := by
        unfold wrapL le2
        rw [HL.out, HS.out]
        simp
      rw [← hrl] at hgl
      rw [← HE1.out]
      have hlen : (wrapL l0).length = n + 8 := by rw [hrl]; simp [HL.out]
      have hown : w5.ownsRow w.heap.size 5 1 (.slice (some ⟨w.heap.size, 0, none⟩) (n + 8) (n + 8)) (wrapL l0).length (encs (Value.int .u8) (wrapL l0)) := by
        rw [hlen]
        refine ⟨by simp [encs, hlen], .inr ⟨_, _, _, rfl, Nat.le_refl _, hgl, Nat.le_refl _, by unfold maxLen; omega, by simp [nums, hlen], ?_⟩⟩
        rw [List.take_of_length_le (by simp [nums, hlen])]
        rfl
      exact Kd.R_of_own hown (fun _ _ => trivial)
  · cases h
end Go.Proofs.YtgfinjhhkmflfaaDoor.PF
