/- What the Go function eddylaw1.plays computes where it answers true, and that the Go code comes to it; conditions: those in each theorem. -/
import Derived.Test.YtgfinjhhkmflfaaDoorSize
import Derived.Test.YtgfinjhhkmflfaaDoorPFx7
import Derived.Test.YtgfinjhhkmflfaaDoorPFx14
namespace Go.Proofs.YtgfinjhhkmflfaaDoor.PF
open Go.RowKit Go.Proofs.YtgfinjhhkmflfaaDoorW.PrintWords Go.Proofs.YtgfinjhhkmflfaaDoorW.PrintLast Go.Proofs.YtgfinjhhkmflfaaDoorW.PrintMore
set_option linter.unusedVariables false
/-- Where plays answers true: each part's answer. -/
def Played (k : Nat) (a0 a1 : Int) (l0 l1 : List Int) : Prop :=
  ∃ wh bf, eddylaw1_roomy.f k l0 = some wh ∧ eddylaw1_joined.f wh [] = some bf ∧ eddylaw1_same.f k wh bf = some true ∧ l0.length ≤ wh.length ∧
    (a0 = 1 → ∃ x, frame_Sum.f (wh.take l0.length) l1 = some x ∧ eddyref1_Sum.f k l0 = some x) ∧
    (a0 = 2 → ∃ x, frame_Add.f a1 (wh.take l0.length) l1 = some x ∧ eddyref1_Add.f k a1 l0 = some x) ∧
    (a0 = 3 → eddylaw1_FrameWraps.f k (wh.take l0.length) l1 = some true) ∧
    (a0 = 4 → eddylaw1_FrameUnwraps.f k (wh.take l0.length) l1 = some true) ∧
    (a0 = 5 → eddylaw1_FrameExacts.f k (wh.take l0.length) l1 = some true) ∧
    (a0 = 6 → eddylaw1_FrameScans.f k (wh.take l0.length) l1 = some true)
def eddylaw1_plays.g (k : Nat) (a0 a1 : Int) (l0 l1 wh : List Int) : Option Bool :=
  if a0 = 1 then (frame_Sum.f (wh.take l0.length) l1).bind fun x => (eddyref1_Sum.f k l0).bind fun y => if x = y then some true else none
  else if a0 = 2 then (frame_Add.f a1 (wh.take l0.length) l1).bind fun x => (eddyref1_Add.f k a1 l0).bind fun y => if x = y then some true else none
  else if a0 = 3 then (eddylaw1_FrameWraps.f k (wh.take l0.length) l1).bind fun b => if b = true then some true else none
  else if a0 = 4 then (eddylaw1_FrameUnwraps.f k (wh.take l0.length) l1).bind fun b => if b = true then some true else none
  else if a0 = 5 then (eddylaw1_FrameExacts.f k (wh.take l0.length) l1).bind fun b => if b = true then some true else none
  else if a0 = 6 then (eddylaw1_FrameScans.f k (wh.take l0.length) l1).bind fun b => if b = true then some true else none
  else some true
/-- plays, where it answers true. -/
def eddylaw1_plays.f (k : Nat) (a0 a1 : Int) (l0 l1 : List Int) : Option Bool :=
  (eddylaw1_roomy.f k l0).bind fun wh => (eddylaw1_joined.f wh []).bind fun bf => (eddylaw1_same.f k wh bf).bind fun s => if s = true ∧ l0.length ≤ wh.length then eddylaw1_plays.g k a0 a1 l0 l1 wh else none
theorem yes_of {o : Option Bool} {r : Bool} (h : (o.bind fun b => if b = true then some true else none) = some r) : o = some true ∧ r = true := by
  obtain ⟨b, hb, h⟩ := Option.bind_eq_some_iff.1 h
  cases b with
  | false => simp at h
  | true =>
    simp at h
    exact ⟨hb, h⟩
theorem two_of {o p : Option Int} {r : Bool} (h : (o.bind fun x => p.bind fun y => if x = y then some true else none) = some r) : (∃ x, o = some x ∧ p = some x) ∧ r = true := by
  obtain ⟨x, hx, h⟩ := Option.bind_eq_some_iff.1 h
  obtain ⟨y, hy, h⟩ := Option.bind_eq_some_iff.1 h
  by_cases e : x = y
  · rw [if_pos e] at h
    injection h with h
    exact ⟨⟨x, hx, e ▸ hy⟩, h.symm⟩
  · rw [if_neg e] at h
    cases h
theorem played_of {k : Nat} {a0 a1 : Int} {l0 l1 : List Int} {r : Bool} (h : eddylaw1_plays.f k a0 a1 l0 l1 = some r) : Played k a0 a1 l0 l1 ∧ r = true := by
  unfold eddylaw1_plays.f at h
  obtain ⟨wh, e1, h⟩ := Option.bind_eq_some_iff.1 h
  obtain ⟨bf, e2, h⟩ := Option.bind_eq_some_iff.1 h
  obtain ⟨s, e3, h⟩ := Option.bind_eq_some_iff.1 h
  split at h
  · rename_i hs
    obtain ⟨hs, e4⟩ := hs
    subst hs
    unfold eddylaw1_plays.g at h
    by_cases g1 : a0 = 1
    · rw [if_pos g1] at h
      have := two_of h
      exact ⟨⟨wh, bf, e1, e2, e3, e4, fun _ => this.1, fun e => by omega, fun e => by omega, fun e => by omega, fun e => by omega, fun e => by omega⟩, this.2⟩
    rw [if_neg g1] at h
    by_cases g2 : a0 = 2
    · rw [if_pos g2] at h
      have := two_of h
      exact ⟨⟨wh, bf, e1, e2, e3, e4, fun e => by omega, fun _ => this.1, fun e => by omega, fun e => by omega, fun e => by omega, fun e => by omega⟩, this.2⟩
    rw [if_neg g2] at h
    by_cases g3 : a0 = 3
    · rw [if_pos g3] at h
      have := yes_of h
      exact ⟨⟨wh, bf, e1, e2, e3, e4, fun e => by omega, fun e => by omega, fun _ => this.1, fun e => by omega, fun e => by omega, fun e => by omega⟩, this.2⟩
    rw [if_neg g3] at h
    by_cases g4 : a0 = 4
    · rw [if_pos g4] at h
      have := yes_of h
      exact ⟨⟨wh, bf, e1, e2, e3, e4, fun e => by omega, fun e => by omega, fun e => by omega, fun _ => this.1, fun e => by omega, fun e => by omega⟩, this.2⟩
    rw [if_neg g4] at h
    by_cases g5 : a0 = 5
    · rw [if_pos g5] at h
      have := yes_of h
      exact ⟨⟨wh, bf, e1, e2, e3, e4, fun e => by omega, fun e => by omega, fun e => by omega, fun e => by omega, fun _ => this.1, fun e => by omega⟩, this.2⟩
    rw [if_neg g5] at h
    by_cases g6 : a0 = 6
    · rw [if_pos g6] at h
      have := yes_of h
      exact ⟨⟨wh, bf, e1, e2, e3, e4, fun e => by omega, fun e => by omega, fun e => by omega, fun e => by omega, fun e => by omega, fun _ => this.1⟩, this.2⟩
    rw [if_neg g6] at h
    injection h with h
    exact ⟨⟨wh, bf, e1, e2, e3, e4, fun e => by omega, fun e => by omega, fun e => by omega, fun e => by omega, fun e => by omega, fun e => by omega⟩, h.symm⟩
  · cases h
theorem eddylaw1_plays.mono : ∀ a0 a1 l0 l1 k, LeO (eddylaw1_plays.f k a0 a1 l0 l1) (eddylaw1_plays.f (k + 1) a0 a1 l0 l1) := by
  intro a0 a1 l0 l1 k
  unfold eddylaw1_plays.f eddylaw1_plays.g
  repeat' first
      | (with_reducible exact eddylaw1_roomy.mono _ _)
      | (with_reducible exact eddylaw1_same.mono _ _ _)
      | (with_reducible exact eddyref1_Sum.mono _ _)
      | (with_reducible exact eddyref1_Add.mono _ _ _)
      | (with_reducible exact eddylaw1_FrameWraps.mono _ _ _)
      | (with_reducible exact eddylaw1_FrameUnwraps.mono _ _ _)
      | (with_reducible exact eddylaw1_FrameExacts.mono _ _ _)
      | (with_reducible exact eddylaw1_FrameScans.mono _ _ _)
      | (with_reducible exact LeO.refl _)
      | (with_reducible exact LeO.none _)
      | (with_reducible refine LeO.ite ?_ ?_)
      | (with_reducible refine LeO.bind ?_ (fun _ => ?_))
/-- The cut with a capacity. -/
theorem cut_hm (A : Option Addr) (n c m : Nat) (hm : m ≤ n) (hc : n ≤ c) :
    ∃ A' : Option Addr, (∀ W : World, (Instr.slice 23 (.slice A n c) none (some (.int .i64 (m : Int))) (some (.int .i64 (n : Int)))).run Tryd.prog W = .ok (.slice A' m n) W) ∧
      ∀ (w : World) (l : List Int), Kd.C (Kd.int .u8) w A n l → Kd.C (Kd.int .u8) w A' m (l.take m) := by
  obtain ⟨i0, hi0, _, hsz, _⟩ := info_parts info5
  refine ⟨A, fun W => ?_, fun w l h => ?_⟩
  · have hel : Tryd.prog.elem 23 = 5 := by simp [Program.elem, Tryd.underlying23]
    have hu : Tryd.prog.underlying 23 = some (.slice (Tryd.prog.elem 23)) := by rw [hel]; exact Tryd.underlying23
    rw [Go.run_slice_hm W 23 A n c hu .i64 .i64 (m : Int) (n : Int) (by omega) (by omega) (by omega), hel]
    simp [sizeOf, typeInfo, hi0, hsz, sliced, Result.andThen]
    intro _
    cases A with
    | none => rfl
    | some a => cases a; simp [Addr.add]
  · obtain rfl : n = l.length := h.1.symm
    have := (Kd.reads_of_C (d := (0 : Int)) h).take_ m (by omega)
    have hl : (l.take m).length = m := by simp; omega
    exact Kd.C_of_reads (h1 := fun _ => rfl) (by first | exact this | (rw [hl] at this; exact this))
/-- The call's own box, and what lies below it. -/
structure Boxed (w W : World) (a0 a1 : Int) (v : Value) : Prop where
  bel : Below w.heap.size w W
  c0 : W.cell? ⟨w.heap.size, 0, none⟩ = some (.int .i64 a0)
  c1 : W.cell? ⟨w.heap.size, 1, none⟩ = some (.int .u32 a1)
  c2 : W.cell? ⟨w.heap.size, 2, none⟩ = some v
theorem Boxed.first (w : World) (a0 a1 : Int) (v : Value) : Boxed w (w.alloc (.cells #[.int .i64 a0, .int .u32 a1, v] 56)) a0 a1 v := by
  have hg : (w.alloc (.cells #[.int .i64 a0, .int .u32 a1, v] 56)).heap[w.heap.size]? = some (.cells #[.int .i64 a0, .int .u32 a1, v] 56 (0, 0)) := heap_alloc_new _ _
  exact ⟨(Below.refl _ _).alloc (Nat.le_refl _) _, by rw [cell_of_row _ _ _ _ _ _ hg]; rfl, by rw [cell_of_row _ _ _ _ _ _ hg]; rfl, by rw [cell_of_row _ _ _ _ _ _ hg]; rfl⟩
theorem Boxed.step {w W W' : World} {a0 a1 : Int} {v : Value} (h : Boxed w W a0 a1 v) (hb : Below W.heap.size W W') : Boxed w W' a0 a1 v :=
  ⟨below_step h.bel hb, pw_cell_below hb h.c0, pw_cell_below hb h.c1, pw_cell_below hb h.c2⟩
set_option maxHeartbeats 4000000 in
theorem plays_oa (k : Nat) (a0 : Int) (a1 : Int) (A0 : Option Addr) (c0 : Nat) (l0 : List Int) (A1 : Option Addr) (c1 : Nat) (l1 : List Int) (w : World)
    (hr0 : Kd.C (Kd.int .u8) w A0 l0.length l0) (hc0 : l0.length ≤ c0) (hr1 : Kd.C kTab w A1 l1.length l1) (hc1 : l1.length ≤ c1) (wh bf : List Int)
    (e1 : eddylaw1_roomy.f k l0 = some wh) (e2 : eddylaw1_joined.f wh [] = some bf) (e3 : eddylaw1_same.f k wh bf = some true) (e4 : l0.length ≤ wh.length)
    (e5 : ¬ (a0 = 1 ∨ a0 = 2 ∨ a0 = 3 ∨ a0 = 4 ∨ a0 = 5 ∨ a0 = 6)) (hb : l0.length ≠ 0) :
    Calls Tryd.prog 36 #[.agg #[.int .i64 a0, .int .u32 a1, .slice A0 l0.length c0]] w fun e w' => e = .returned (.bool true) ∧ Below w.heap.size w w' := by
  have hq1 := fun (W : World) (hW : Below w.heap.size w W) => eddylaw1_roomy.calls k A0 c0 l0 wh W (Kd.C_below hr0 hW) hc0 e1
  have hq2 := fun (W : World) A c (h1 : Kd.C (Kd.int .u8) W A wh.length wh) (h2 : wh.length ≤ c) => eddylaw1_joined.calls A c wh none 0 [] bf W h1 h2 ⟨rfl, by decide, fun h => absurd h (by decide)⟩ (Nat.le_refl _) e2
  have hq3 := fun (W : World) A c A' c' (h1 : Kd.C (Kd.int .u8) W A wh.length wh) (h2 : wh.length ≤ c) (h3 : Kd.C (Kd.int .u8) W A' bf.length bf) (h4 : bf.length ≤ c') => eddylaw1_same.calls k A c wh A' c' bf true W h1 h2 h3 h4 e3
  have hlen : (wh.take l0.length).length = l0.length := by simp; omega
  obtain ⟨n, hn⟩ : ∃ n, l0.length = n := ⟨_, rfl⟩
  obtain ⟨m, hm⟩ : ∃ m, wh.length = m := ⟨_, rfl⟩
  obtain ⟨q, hq⟩ : ∃ q, bf.length = q := ⟨_, rfl⟩
  obtain ⟨y, hy⟩ : ∃ y, y = wh.take l0.length := ⟨_, rfl⟩
  rw [← hy] at hlen
  rw [hn] at hq1 hc0 hb e4 hy hlen ⊢
  rw [hm] at hq2 hq3 e4
  rw [hq] at hq3
  have b1 : ((n : Int) == 0) = false := by simpa using hb
  have d11 : (a0 == 1) = false := by simp; omega
  have d12 : (a0 == 2) = false := by simp; omega
  have d13 : (a0 == 3) = false := by simp; omega
  have d14 : (a0 == 4) = false := by simp; omega
  have d15 : (a0 == 5) = false := by simp; omega
  have d16 : (a0 == 6) = false := by simp; omega
  have HQ1 := Aside0.mk hq1
  have HQ2 := Aside0.mk hq2
  have HQ3 := Aside0.mk hq3
  have HY := Aside0.mk hy
  have HM := Aside0.mk hm
  have HQ := Aside0.mk hq
  have HX := Aside0.mk (Boxed.first w a0 a1 (.slice A0 n c0))
  clear hq1 hq2 hq3 hy e1 e2 e3 e5 hr0 hr1 hn hm hq hlen hb hc1
  go_enter Tryd.func36, Tryd.ntmps36
  go_wp2_with fail
  refine (HQ1.out _ HX.out.bel).mono ?_
  rintro e w1 ⟨v1, rfl, ho, hb⟩
  have hx1 := HX.out.step hb
  obtain ⟨Aw, cw, rfl, hcw, hcr⟩ := Kd.R_reads ho
  rw [HM.out] at hcw hcr
  obtain ⟨A', hcut, hcutr⟩ := cut_hm Aw m cw n e4 hcw
  have hlent := hcutr w1 wh hcr
  rw [← HY.out] at hlent
  have HX1 := Aside0.mk hx1
  have HC := Aside0.mk hcr
  have HL := Aside0.mk hlent
  have k2 := hx1.c2
  rw [HM.out]
  clear ho hb hcr hx1 hcutr hlent
  go_wp2_with fail
  refine (HQ2.out _ _ _ HC.out hcw).mono ?_
  rintro e w2 ⟨v2, rfl, ho, hb⟩
  have hx2 := HX1.out.step hb
  have hl2 := Kd.C_below HL.out hb
  have hc2 := Kd.C_below HC.out hb
  obtain ⟨Ab, cb, rfl, hcb, hcbr⟩ := Kd.R_reads ho
  rw [HQ.out] at hcb hcbr
  have d0 := hx2.c0
  have d1 := hx2.c1
  have d2 := hx2.c2
  have HX2 := Aside0.mk hx2
  have HC2 := Aside0.mk hc2
  have HL2 := Aside0.mk hl2
  have HB2 := Aside0.mk hcbr
  rw [HQ.out]
  clear ho hb hcbr hx2 hl2 hc2 k2 HX1 HC HL
  go_wp2_with fail
  have HX3 := HX2
  have HC3 := HC2
  have HB3 := HB2
  refine (HQ3.out _ _ _ _ _ ?t1 hcw ?t2 hcb).mono ?_
  case t1 => repeat (first | exact HC3.out | (with_reducible refine Kd.C_drewN ?_ _) | (with_reducible refine Kd.C_drew ?_))
  case t2 => repeat (first | exact HB3.out | (with_reducible refine Kd.C_drewN ?_ _) | (with_reducible refine Kd.C_drew ?_))
  rintro e w4 ⟨rfl, hd⟩
  have HX4 := Aside0.mk (below_step (HX3.out.bel) hd.below)
  clear hd
  go_wp2
  go_ret
  exact ⟨rfl, HX4.out⟩
set_option maxHeartbeats 4000000 in
theorem plays_ob (k : Nat) (a0 : Int) (a1 : Int) (A0 : Option Addr) (c0 : Nat) (l0 : List Int) (A1 : Option Addr) (c1 : Nat) (l1 : List Int) (w : World)
    (hr0 : Kd.C (Kd.int .u8) w A0 l0.length l0) (hc0 : l0.length ≤ c0) (hr1 : Kd.C kTab w A1 l1.length l1) (hc1 : l1.length ≤ c1) (wh bf : List Int)
    (e1 : eddylaw1_roomy.f k l0 = some wh) (e2 : eddylaw1_joined.f wh [] = some bf) (e3 : eddylaw1_same.f k wh bf = some true) (e4 : l0.length ≤ wh.length)
    (e5 : ¬ (a0 = 1 ∨ a0 = 2 ∨ a0 = 3 ∨ a0 = 4 ∨ a0 = 5 ∨ a0 = 6)) (hb : l0.length = 0) (ht : Int.tmod a1 2 ≠ 0) :
    Calls Tryd.prog 36 #[.agg #[.int .i64 a0, .int .u32 a1, .slice A0 l0.length c0]] w fun e w' => e = .returned (.bool true) ∧ Below w.heap.size w w' := by
  have hq1 := fun (W : World) (hW : Below w.heap.size w W) => eddylaw1_roomy.calls k A0 c0 l0 wh W (Kd.C_below hr0 hW) hc0 e1
  have hq2 := fun (W : World) A c (h1 : Kd.C (Kd.int .u8) W A wh.length wh) (h2 : wh.length ≤ c) => eddylaw1_joined.calls A c wh none 0 [] bf W h1 h2 ⟨rfl, by decide, fun h => absurd h (by decide)⟩ (Nat.le_refl _) e2
  have hq3 := fun (W : World) A c A' c' (h1 : Kd.C (Kd.int .u8) W A wh.length wh) (h2 : wh.length ≤ c) (h3 : Kd.C (Kd.int .u8) W A' bf.length bf) (h4 : bf.length ≤ c') => eddylaw1_same.calls k A c wh A' c' bf true W h1 h2 h3 h4 e3
  have hlen : (wh.take l0.length).length = l0.length := by simp; omega
  obtain ⟨n, hn⟩ : ∃ n, l0.length = n := ⟨_, rfl⟩
  obtain ⟨m, hm⟩ : ∃ m, wh.length = m := ⟨_, rfl⟩
  obtain ⟨q, hq⟩ : ∃ q, bf.length = q := ⟨_, rfl⟩
  obtain ⟨y, hy⟩ : ∃ y, y = wh.take l0.length := ⟨_, rfl⟩
  rw [← hy] at hlen
  rw [hn] at hq1 hc0 hb e4 hy hlen ⊢
  rw [hm] at hq2 hq3 e4
  rw [hq] at hq3
  have b1 : ((n : Int) == 0) = true := by simpa using hb
  have b2 : (Int.tmod a1 2 == 0) = false := by simpa using ht
  have d11 : (a0 == 1) = false := by simp; omega
  have d12 : (a0 == 2) = false := by simp; omega
  have d13 : (a0 == 3) = false := by simp; omega
  have d14 : (a0 == 4) = false := by simp; omega
  have d15 : (a0 == 5) = false := by simp; omega
  have d16 : (a0 == 6) = false := by simp; omega
  have HQ1 := Aside0.mk hq1
  have HQ2 := Aside0.mk hq2
  have HQ3 := Aside0.mk hq3
  have HY := Aside0.mk hy
  have HM := Aside0.mk hm
  have HQ := Aside0.mk hq
  have HX := Aside0.mk (Boxed.first w a0 a1 (.slice A0 n c0))
  clear hq1 hq2 hq3 hy e1 e2 e3 e5 hr0 hr1 hn hm hq hlen hb hc1 ht
  go_enter Tryd.func36, Tryd.ntmps36
  go_wp2_with fail
  refine (HQ1.out _ HX.out.bel).mono ?_
  rintro e w1 ⟨v1, rfl, ho, hb⟩
  have hx1 := HX.out.step hb
  obtain ⟨Aw, cw, rfl, hcw, hcr⟩ := Kd.R_reads ho
  rw [HM.out] at hcw hcr
  obtain ⟨A', hcut, hcutr⟩ := cut_hm Aw m cw n e4 hcw
  have hlent := hcutr w1 wh hcr
  rw [← HY.out] at hlent
  have HX1 := Aside0.mk hx1
  have HC := Aside0.mk hcr
  have HL := Aside0.mk hlent
  have k2 := hx1.c2
  rw [HM.out]
  clear ho hb hcr hx1 hcutr hlent
  go_wp2_with fail
  refine (HQ2.out _ _ _ HC.out hcw).mono ?_
  rintro e w2 ⟨v2, rfl, ho, hb⟩
  have hx2 := HX1.out.step hb
  have hl2 := Kd.C_below HL.out hb
  have hc2 := Kd.C_below HC.out hb
  obtain ⟨Ab, cb, rfl, hcb, hcbr⟩ := Kd.R_reads ho
  rw [HQ.out] at hcb hcbr
  have d0 := hx2.c0
  have d1 := hx2.c1
  have d2 := hx2.c2
  have HX2 := Aside0.mk hx2
  have HC2 := Aside0.mk hc2
  have HL2 := Aside0.mk hl2
  have HB2 := Aside0.mk hcbr
  rw [HQ.out]
  clear ho hb hcbr hx2 hl2 hc2 k2 HX1 HC HL
  go_wp2_with fail
  have HX3 := HX2
  have HC3 := HC2
  have HB3 := HB2
  refine (HQ3.out _ _ _ _ _ ?t1 hcw ?t2 hcb).mono ?_
  case t1 => repeat (first | exact HC3.out | (with_reducible refine Kd.C_drewN ?_ _) | (with_reducible refine Kd.C_drew ?_))
  case t2 => repeat (first | exact HB3.out | (with_reducible refine Kd.C_drewN ?_ _) | (with_reducible refine Kd.C_drew ?_))
  rintro e w4 ⟨rfl, hd⟩
  have HX4 := Aside0.mk (below_step (HX3.out.bel) hd.below)
  clear hd
  go_wp2
  go_ret
  exact ⟨rfl, HX4.out⟩
set_option maxHeartbeats 4000000 in
theorem plays_oc (k : Nat) (a0 : Int) (a1 : Int) (A0 : Option Addr) (c0 : Nat) (l0 : List Int) (A1 : Option Addr) (c1 : Nat) (l1 : List Int) (w : World)
    (hr0 : Kd.C (Kd.int .u8) w A0 l0.length l0) (hc0 : l0.length ≤ c0) (hr1 : Kd.C kTab w A1 l1.length l1) (hc1 : l1.length ≤ c1) (wh bf : List Int)
    (e1 : eddylaw1_roomy.f k l0 = some wh) (e2 : eddylaw1_joined.f wh [] = some bf) (e3 : eddylaw1_same.f k wh bf = some true) (e4 : l0.length ≤ wh.length)
    (e5 : ¬ (a0 = 1 ∨ a0 = 2 ∨ a0 = 3 ∨ a0 = 4 ∨ a0 = 5 ∨ a0 = 6)) (hb : l0.length = 0) (ht : Int.tmod a1 2 = 0) :
    Calls Tryd.prog 36 #[.agg #[.int .i64 a0, .int .u32 a1, .slice A0 l0.length c0]] w fun e w' => e = .returned (.bool true) ∧ Below w.heap.size w w' := by
  have hq1 := fun (W : World) (hW : Below w.heap.size w W) => eddylaw1_roomy.calls k A0 c0 l0 wh W (Kd.C_below hr0 hW) hc0 e1
  have hq2 := fun (W : World) A c (h1 : Kd.C (Kd.int .u8) W A wh.length wh) (h2 : wh.length ≤ c) => eddylaw1_joined.calls A c wh none 0 [] bf W h1 h2 ⟨rfl, by decide, fun h => absurd h (by decide)⟩ (Nat.le_refl _) e2
  have hq3 := fun (W : World) A c A' c' (h1 : Kd.C (Kd.int .u8) W A wh.length wh) (h2 : wh.length ≤ c) (h3 : Kd.C (Kd.int .u8) W A' bf.length bf) (h4 : bf.length ≤ c') => eddylaw1_same.calls k A c wh A' c' bf true W h1 h2 h3 h4 e3
  have hlen : (wh.take l0.length).length = l0.length := by simp; omega
  obtain ⟨n, hn⟩ : ∃ n, l0.length = n := ⟨_, rfl⟩
  obtain ⟨m, hm⟩ : ∃ m, wh.length = m := ⟨_, rfl⟩
  obtain ⟨q, hq⟩ : ∃ q, bf.length = q := ⟨_, rfl⟩
  obtain ⟨y, hy⟩ : ∃ y, y = wh.take l0.length := ⟨_, rfl⟩
  rw [← hy] at hlen
  rw [hn] at hq1 hc0 hb e4 hy hlen ⊢
  rw [hm] at hq2 hq3 e4
  rw [hq] at hq3
  have b1 : ((n : Int) == 0) = true := by simpa using hb
  have b2 : (Int.tmod a1 2 == 0) = true := by simpa using ht
  have d11 : (a0 == 1) = false := by simp; omega
  have d12 : (a0 == 2) = false := by simp; omega
  have d13 : (a0 == 3) = false := by simp; omega
  have d14 : (a0 == 4) = false := by simp; omega
  have d15 : (a0 == 5) = false := by simp; omega
  have d16 : (a0 == 6) = false := by simp; omega
  have HQ1 := Aside0.mk hq1
  have HQ2 := Aside0.mk hq2
  have HQ3 := Aside0.mk hq3
  have HY := Aside0.mk hy
  have HM := Aside0.mk hm
  have HQ := Aside0.mk hq
  have HX := Aside0.mk (Boxed.first w a0 a1 (.slice A0 n c0))
  clear hq1 hq2 hq3 hy e1 e2 e3 e5 hr0 hr1 hn hm hq hlen hb hc1 ht
  go_enter Tryd.func36, Tryd.ntmps36
  go_wp2_with fail
  refine (HQ1.out _ HX.out.bel).mono ?_
  rintro e w1 ⟨v1, rfl, ho, hb⟩
  have hx1 := HX.out.step hb
  obtain ⟨Aw, cw, rfl, hcw, hcr⟩ := Kd.R_reads ho
  rw [HM.out] at hcw hcr
  obtain ⟨A', hcut, hcutr⟩ := cut_hm Aw m cw n e4 hcw
  have hlent := hcutr w1 wh hcr
  rw [← HY.out] at hlent
  have HX1 := Aside0.mk hx1
  have HC := Aside0.mk hcr
  have HL := Aside0.mk hlent
  have k2 := hx1.c2
  rw [HM.out]
  clear ho hb hcr hx1 hcutr hlent
  go_wp2_with fail
  refine (HQ2.out _ _ _ HC.out hcw).mono ?_
  rintro e w2 ⟨v2, rfl, ho, hb⟩
  have hx2 := HX1.out.step hb
  have hl2 := Kd.C_below HL.out hb
  have hc2 := Kd.C_below HC.out hb
  obtain ⟨Ab, cb, rfl, hcb, hcbr⟩ := Kd.R_reads ho
  rw [HQ.out] at hcb hcbr
  have d0 := hx2.c0
  have d1 := hx2.c1
  have d2 := hx2.c2
  have HX2 := Aside0.mk hx2
  have HC2 := Aside0.mk hc2
  have HL2 := Aside0.mk hl2
  have HB2 := Aside0.mk hcbr
  rw [HQ.out]
  clear ho hb hcbr hx2 hl2 hc2 k2 HX1 HC HL
  go_wp2_with fail
  have HX3 := HX2
  have HC3 := HC2
  have HB3 := HB2
  refine (HQ3.out _ _ _ _ _ ?t1 hcw ?t2 hcb).mono ?_
  case t1 => repeat (first | exact HC3.out | (with_reducible refine Kd.C_drewN ?_ _) | (with_reducible refine Kd.C_drew ?_))
  case t2 => repeat (first | exact HB3.out | (with_reducible refine Kd.C_drewN ?_ _) | (with_reducible refine Kd.C_drew ?_))
  rintro e w4 ⟨rfl, hd⟩
  have HX4 := Aside0.mk (below_step (HX3.out.bel) hd.below)
  clear hd
  go_wp2
  go_ret
  exact ⟨rfl, HX4.out⟩
set_option maxHeartbeats 4000000 in
theorem plays_1a (k : Nat) (a1 : Int) (A0 : Option Addr) (c0 : Nat) (l0 : List Int) (A1 : Option Addr) (c1 : Nat) (l1 : List Int) (w : World)
    (hr0 : Kd.C (Kd.int .u8) w A0 l0.length l0) (hc0 : l0.length ≤ c0) (hr1 : Kd.C kTab w A1 l1.length l1) (hc1 : l1.length ≤ c1) (wh bf : List Int)
    (e1 : eddylaw1_roomy.f k l0 = some wh) (e2 : eddylaw1_joined.f wh [] = some bf) (e3 : eddylaw1_same.f k wh bf = some true) (e4 : l0.length ≤ wh.length)
    (x : Int) (e5 : frame_Sum.f (wh.take l0.length) l1 = some x) (e6 : eddyref1_Sum.f k l0 = some x) (hb : l0.length ≠ 0) :
    Calls Tryd.prog 36 #[.agg #[.int .i64 1, .int .u32 a1, .slice A0 l0.length c0]] w fun e w' => e = .returned (.bool true) ∧ Below w.heap.size w w' := by
  have hq1 := fun (W : World) (hW : Below w.heap.size w W) => eddylaw1_roomy.calls k A0 c0 l0 wh W (Kd.C_below hr0 hW) hc0 e1
  have hq2 := fun (W : World) A c (h1 : Kd.C (Kd.int .u8) W A wh.length wh) (h2 : wh.length ≤ c) => eddylaw1_joined.calls A c wh none 0 [] bf W h1 h2 ⟨rfl, by decide, fun h => absurd h (by decide)⟩ (Nat.le_refl _) e2
  have hq3 := fun (W : World) A c A' c' (h1 : Kd.C (Kd.int .u8) W A wh.length wh) (h2 : wh.length ≤ c) (h3 : Kd.C (Kd.int .u8) W A' bf.length bf) (h4 : bf.length ≤ c') => eddylaw1_same.calls k A c wh A' c' bf true W h1 h2 h3 h4 e3
  have hlen : (wh.take l0.length).length = l0.length := by simp; omega
  have hq5 := fun (W : World) (hW : Below w.heap.size w W) A c (h1 : Kd.C (Kd.int .u8) W A l0.length (wh.take l0.length)) (h2 : l0.length ≤ c) => frame_Sum.calls A c (wh.take l0.length) A1 c1 l1 x W (by rw [hlen]; exact h1) (by rw [hlen]; exact h2) (Kd.C_below hr1 hW) hc1 e5
  have hq6 := fun (W : World) (hW : Below w.heap.size w W) => eddyref1_Sum.calls k A0 c0 l0 x W (Kd.C_below hr0 hW) hc0 e6
  rw [hlen] at hq5
  obtain ⟨n, hn⟩ : ∃ n, l0.length = n := ⟨_, rfl⟩
  obtain ⟨m, hm⟩ : ∃ m, wh.length = m := ⟨_, rfl⟩
  obtain ⟨q, hq⟩ : ∃ q, bf.length = q := ⟨_, rfl⟩
  obtain ⟨y, hy⟩ : ∃ y, y = wh.take l0.length := ⟨_, rfl⟩
  rw [← hy] at hq5 hlen
  rw [hn] at hq1 hq5 hq6 hc0 hb e4 hy hlen ⊢
  rw [hm] at hq2 hq3 e4
  rw [hq] at hq3
  have b1 : ((n : Int) == 0) = false := by simpa using hb
  have HQ1 := Aside0.mk hq1
  have HQ2 := Aside0.mk hq2
  have HQ3 := Aside0.mk hq3
  have HQ5 := Aside0.mk hq5
  have HQ6 := Aside0.mk hq6
  have HY := Aside0.mk hy
  have HM := Aside0.mk hm
  have HQ := Aside0.mk hq
  have HX := Aside0.mk (Boxed.first w 1 a1 (.slice A0 n c0))
  clear hq1 hq2 hq3 hq5 hq6 hy e1 e2 e3 e5 e6 hr0 hr1 hn hm hq hlen hb hc1
  go_enter Tryd.func36, Tryd.ntmps36
  go_wp2_with fail
  refine (HQ1.out _ HX.out.bel).mono ?_
  rintro e w1 ⟨v1, rfl, ho, hb⟩
  have hx1 := HX.out.step hb
  obtain ⟨Aw, cw, rfl, hcw, hcr⟩ := Kd.R_reads ho
  rw [HM.out] at hcw hcr
  obtain ⟨A', hcut, hcutr⟩ := cut_hm Aw m cw n e4 hcw
  have hlent := hcutr w1 wh hcr
  rw [← HY.out] at hlent
  have HX1 := Aside0.mk hx1
  have HC := Aside0.mk hcr
  have HL := Aside0.mk hlent
  have k2 := hx1.c2
  rw [HM.out]
  clear ho hb hcr hx1 hcutr hlent
  go_wp2_with fail
  refine (HQ2.out _ _ _ HC.out hcw).mono ?_
  rintro e w2 ⟨v2, rfl, ho, hb⟩
  have hx2 := HX1.out.step hb
  have hl2 := Kd.C_below HL.out hb
  have hc2 := Kd.C_below HC.out hb
  obtain ⟨Ab, cb, rfl, hcb, hcbr⟩ := Kd.R_reads ho
  rw [HQ.out] at hcb hcbr
  have d0 := hx2.c0
  have d1 := hx2.c1
  have d2 := hx2.c2
  have HX2 := Aside0.mk hx2
  have HC2 := Aside0.mk hc2
  have HL2 := Aside0.mk hl2
  have HB2 := Aside0.mk hcbr
  rw [HQ.out]
  clear ho hb hcbr hx2 hl2 hc2 k2 HX1 HC HL
  go_wp2_with fail
  have HX3 := HX2
  have HC3 := HC2
  have HB3 := HB2
  repeat (go_quiet (first | (go_at_call 19; (with_reducible refine (HQ5.out _ ?s1 A' m ?s2 e4).mono ?_); (case s1 => repeat (first | exact HX2.out.bel | apply pw_below_drewN | apply below_drew1)); (case s2 => repeat (first | exact HL2.out | (with_reducible refine Kd.C_drewN ?_ _) | (with_reducible refine Kd.C_drew ?_))); rintro e w' ⟨rfl, ⟨nd, rfl⟩⟩; (try first | exact ⟨rfl, _, World.drewN_drewN _ _ _⟩ | exact ⟨rfl, _, Eq.trans (World.drewN_drewN _ _ _) (congrArg (World.drewN _) (Nat.add_assoc _ _ _))⟩)) | (go_at_call 17; (with_reducible refine (HQ6.out _ ?s3).mono ?_); (case s3 => repeat (first | exact HX2.out.bel | apply pw_below_drewN | apply below_drew1)); rintro e w' ⟨rfl, ⟨nd, rfl⟩⟩; (try first | exact ⟨rfl, _, World.drewN_drewN _ _ _⟩ | exact ⟨rfl, _, Eq.trans (World.drewN_drewN _ _ _) (congrArg (World.drewN _) (Nat.add_assoc _ _ _))⟩))); try go_wp2_with fail)
  refine (HQ3.out _ _ _ _ _ ?t1 hcw ?t2 hcb).mono ?_
  case t1 => repeat (first | exact HC3.out | (with_reducible refine Kd.C_drewN ?_ _) | (with_reducible refine Kd.C_drew ?_))
  case t2 => repeat (first | exact HB3.out | (with_reducible refine Kd.C_drewN ?_ _) | (with_reducible refine Kd.C_drew ?_))
  rintro e w4 ⟨rfl, hd⟩
  have HX4 := Aside0.mk (below_step (by repeat (first | exact HX3.out.bel | apply pw_below_drewN | apply below_drew1)) hd.below)
  clear hd
  go_wp2
  go_ret
  exact ⟨rfl, HX4.out⟩
set_option maxHeartbeats 4000000 in
theorem plays_1b (k : Nat) (a1 : Int) (A0 : Option Addr) (c0 : Nat) (l0 : List Int) (A1 : Option Addr) (c1 : Nat) (l1 : List Int) (w : World)
    (hr0 : Kd.C (Kd.int .u8) w A0 l0.length l0) (hc0 : l0.length ≤ c0) (hr1 : Kd.C kTab w A1 l1.length l1) (hc1 : l1.length ≤ c1) (wh bf : List Int)
    (e1 : eddylaw1_roomy.f k l0 = some wh) (e2 : eddylaw1_joined.f wh [] = some bf) (e3 : eddylaw1_same.f k wh bf = some true) (e4 : l0.length ≤ wh.length)
    (x : Int) (e5 : frame_Sum.f (wh.take l0.length) l1 = some x) (e6 : eddyref1_Sum.f k l0 = some x) (hb : l0.length = 0) (ht : Int.tmod a1 2 ≠ 0) :
    Calls Tryd.prog 36 #[.agg #[.int .i64 1, .int .u32 a1, .slice A0 l0.length c0]] w fun e w' => e = .returned (.bool true) ∧ Below w.heap.size w w' := by
  have hq1 := fun (W : World) (hW : Below w.heap.size w W) => eddylaw1_roomy.calls k A0 c0 l0 wh W (Kd.C_below hr0 hW) hc0 e1
  have hq2 := fun (W : World) A c (h1 : Kd.C (Kd.int .u8) W A wh.length wh) (h2 : wh.length ≤ c) => eddylaw1_joined.calls A c wh none 0 [] bf W h1 h2 ⟨rfl, by decide, fun h => absurd h (by decide)⟩ (Nat.le_refl _) e2
  have hq3 := fun (W : World) A c A' c' (h1 : Kd.C (Kd.int .u8) W A wh.length wh) (h2 : wh.length ≤ c) (h3 : Kd.C (Kd.int .u8) W A' bf.length bf) (h4 : bf.length ≤ c') => eddylaw1_same.calls k A c wh A' c' bf true W h1 h2 h3 h4 e3
  have hlen : (wh.take l0.length).length = l0.length := by simp; omega
  have hq5 := fun (W : World) (hW : Below w.heap.size w W) A c (h1 : Kd.C (Kd.int .u8) W A l0.length (wh.take l0.length)) (h2 : l0.length ≤ c) => frame_Sum.calls A c (wh.take l0.length) A1 c1 l1 x W (by rw [hlen]; exact h1) (by rw [hlen]; exact h2) (Kd.C_below hr1 hW) hc1 e5
  have hq6 := fun (W : World) (hW : Below w.heap.size w W) => eddyref1_Sum.calls k A0 c0 l0 x W (Kd.C_below hr0 hW) hc0 e6
  rw [hlen] at hq5
  obtain ⟨n, hn⟩ : ∃ n, l0.length = n := ⟨_, rfl⟩
  obtain ⟨m, hm⟩ : ∃ m, wh.length = m := ⟨_, rfl⟩
  obtain ⟨q, hq⟩ : ∃ q, bf.length = q := ⟨_, rfl⟩
  obtain ⟨y, hy⟩ : ∃ y, y = wh.take l0.length := ⟨_, rfl⟩
  rw [← hy] at hq5 hlen
  rw [hn] at hq1 hq5 hq6 hc0 hb e4 hy hlen ⊢
  rw [hm] at hq2 hq3 e4
  rw [hq] at hq3
  have b1 : ((n : Int) == 0) = true := by simpa using hb
  have b2 : (Int.tmod a1 2 == 0) = false := by simpa using ht
  have HQ1 := Aside0.mk hq1
  have HQ2 := Aside0.mk hq2
  have HQ3 := Aside0.mk hq3
  have HQ5 := Aside0.mk hq5
  have HQ6 := Aside0.mk hq6
  have HY := Aside0.mk hy
  have HM := Aside0.mk hm
  have HQ := Aside0.mk hq
  have HX := Aside0.mk (Boxed.first w 1 a1 (.slice A0 n c0))
  clear hq1 hq2 hq3 hq5 hq6 hy e1 e2 e3 e5 e6 hr0 hr1 hn hm hq hlen hb hc1 ht
  go_enter Tryd.func36, Tryd.ntmps36
  go_wp2_with fail
  refine (HQ1.out _ HX.out.bel).mono ?_
  rintro e w1 ⟨v1, rfl, ho, hb⟩
  have hx1 := HX.out.step hb
  obtain ⟨Aw, cw, rfl, hcw, hcr⟩ := Kd.R_reads ho
  rw [HM.out] at hcw hcr
  obtain ⟨A', hcut, hcutr⟩ := cut_hm Aw m cw n e4 hcw
  have hlent := hcutr w1 wh hcr
  rw [← HY.out] at hlent
  have HX1 := Aside0.mk hx1
  have HC := Aside0.mk hcr
  have HL := Aside0.mk hlent
  have k2 := hx1.c2
  rw [HM.out]
  clear ho hb hcr hx1 hcutr hlent
  go_wp2_with fail
  refine (HQ2.out _ _ _ HC.out hcw).mono ?_
  rintro e w2 ⟨v2, rfl, ho, hb⟩
  have hx2 := HX1.out.step hb
  have hl2 := Kd.C_below HL.out hb
  have hc2 := Kd.C_below HC.out hb
  obtain ⟨Ab, cb, rfl, hcb, hcbr⟩ := Kd.R_reads ho
  rw [HQ.out] at hcb hcbr
  have d0 := hx2.c0
  have d1 := hx2.c1
  have d2 := hx2.c2
  have HX2 := Aside0.mk hx2
  have HC2 := Aside0.mk hc2
  have HL2 := Aside0.mk hl2
  have HB2 := Aside0.mk hcbr
  rw [HQ.out]
  clear ho hb hcbr hx2 hl2 hc2 k2 HX1 HC HL
  go_wp2_with fail
  have HX3 := HX2
  have HC3 := HC2
  have HB3 := HB2
  repeat (go_quiet (first | (go_at_call 19; (with_reducible refine (HQ5.out _ ?s1 A' m ?s2 e4).mono ?_); (case s1 => repeat (first | exact HX2.out.bel | apply pw_below_drewN | apply below_drew1)); (case s2 => repeat (first | exact HL2.out | (with_reducible refine Kd.C_drewN ?_ _) | (with_reducible refine Kd.C_drew ?_))); rintro e w' ⟨rfl, ⟨nd, rfl⟩⟩; (try first | exact ⟨rfl, _, World.drewN_drewN _ _ _⟩ | exact ⟨rfl, _, Eq.trans (World.drewN_drewN _ _ _) (congrArg (World.drewN _) (Nat.add_assoc _ _ _))⟩)) | (go_at_call 17; (with_reducible refine (HQ6.out _ ?s3).mono ?_); (case s3 => repeat (first | exact HX2.out.bel | apply pw_below_drewN | apply below_drew1)); rintro e w' ⟨rfl, ⟨nd, rfl⟩⟩; (try first | exact ⟨rfl, _, World.drewN_drewN _ _ _⟩ | exact ⟨rfl, _, Eq.trans (World.drewN_drewN _ _ _) (congrArg (World.drewN _) (Nat.add_assoc _ _ _))⟩))); try go_wp2_with fail)
  refine (HQ3.out _ _ _ _ _ ?t1 hcw ?t2 hcb).mono ?_
  case t1 => repeat (first | exact HC3.out | (with_reducible refine Kd.C_drewN ?_ _) | (with_reducible refine Kd.C_drew ?_))
  case t2 => repeat (first | exact HB3.out | (with_reducible refine Kd.C_drewN ?_ _) | (with_reducible refine Kd.C_drew ?_))
  rintro e w4 ⟨rfl, hd⟩
  have HX4 := Aside0.mk (below_step (by repeat (first | exact HX3.out.bel | apply pw_below_drewN | apply below_drew1)) hd.below)
  clear hd
  go_wp2
  go_ret
  exact ⟨rfl, HX4.out⟩
set_option maxHeartbeats 4000000 in
theorem plays_1c (k : Nat) (a1 : Int) (A0 : Option Addr) (c0 : Nat) (l0 : List Int) (A1 : Option Addr) (c1 : Nat) (l1 : List Int) (w : World)
    (hr0 : Kd.C (Kd.int .u8) w A0 l0.length l0) (hc0 : l0.length ≤ c0) (hr1 : Kd.C kTab w A1 l1.length l1) (hc1 : l1.length ≤ c1) (wh bf : List Int)
    (e1 : eddylaw1_roomy.f k l0 = some wh) (e2 : eddylaw1_joined.f wh [] = some bf) (e3 : eddylaw1_same.f k wh bf = some true) (e4 : l0.length ≤ wh.length)
    (x : Int) (e5 : frame_Sum.f (wh.take l0.length) l1 = some x) (e6 : eddyref1_Sum.f k l0 = some x) (hb : l0.length = 0) (ht : Int.tmod a1 2 = 0) :
    Calls Tryd.prog 36 #[.agg #[.int .i64 1, .int .u32 a1, .slice A0 l0.length c0]] w fun e w' => e = .returned (.bool true) ∧ Below w.heap.size w w' := by
  have hq1 := fun (W : World) (hW : Below w.heap.size w W) => eddylaw1_roomy.calls k A0 c0 l0 wh W (Kd.C_below hr0 hW) hc0 e1
  have hq2 := fun (W : World) A c (h1 : Kd.C (Kd.int .u8) W A wh.length wh) (h2 : wh.length ≤ c) => eddylaw1_joined.calls A c wh none 0 [] bf W h1 h2 ⟨rfl, by decide, fun h => absurd h (by decide)⟩ (Nat.le_refl _) e2
  have hq3 := fun (W : World) A c A' c' (h1 : Kd.C (Kd.int .u8) W A wh.length wh) (h2 : wh.length ≤ c) (h3 : Kd.C (Kd.int .u8) W A' bf.length bf) (h4 : bf.length ≤ c') => eddylaw1_same.calls k A c wh A' c' bf true W h1 h2 h3 h4 e3
  have hlen : (wh.take l0.length).length = l0.length := by simp; omega
  have hq5 := fun (W : World) (hW : Below w.heap.size w W) A c (h1 : Kd.C (Kd.int .u8) W A l0.length (wh.take l0.length)) (h2 : l0.length ≤ c) => frame_Sum.calls A c (wh.take l0.length) A1 c1 l1 x W (by rw [hlen]; exact h1) (by rw [hlen]; exact h2) (Kd.C_below hr1 hW) hc1 e5
  have hq6 := fun (W : World) (hW : Below w.heap.size w W) => eddyref1_Sum.calls k A0 c0 l0 x W (Kd.C_below hr0 hW) hc0 e6
  rw [hlen] at hq5
  obtain ⟨n, hn⟩ : ∃ n, l0.length = n := ⟨_, rfl⟩
  obtain ⟨m, hm⟩ : ∃ m, wh.length = m := ⟨_, rfl⟩
  obtain ⟨q, hq⟩ : ∃ q, bf.length = q := ⟨_, rfl⟩
  obtain ⟨y, hy⟩ : ∃ y, y = wh.take l0.length := ⟨_, rfl⟩
  rw [← hy] at hq5 hlen
  rw [hn] at hq1 hq5 hq6 hc0 hb e4 hy hlen ⊢
  rw [hm] at hq2 hq3 e4
  rw [hq] at hq3
  have b1 : ((n : Int) == 0) = true := by simpa using hb
  have b2 : (Int.tmod a1 2 == 0) = true := by simpa using ht
  have hy0 : y = [] := List.eq_nil_of_length_eq_zero (by omega)
  have hq7 := fun (W : World) (hW : Below w.heap.size w W) => hq5 W hW none 0 (by rw [hb, hy0]; exact ⟨rfl, by decide, fun h => absurd h (by decide)⟩) (by omega)
  simp only [hb] at hq7
  have HQ7 := Aside0.mk hq7
  clear hq7 hy0
  have HQ1 := Aside0.mk hq1
  have HQ2 := Aside0.mk hq2
  have HQ3 := Aside0.mk hq3
  have HQ5 := Aside0.mk hq5
  have HQ6 := Aside0.mk hq6
  have HY := Aside0.mk hy
  have HM := Aside0.mk hm
  have HQ := Aside0.mk hq
  have HX := Aside0.mk (Boxed.first w 1 a1 (.slice A0 n c0))
  clear hq1 hq2 hq3 hq5 hq6 hy e1 e2 e3 e5 e6 hr0 hr1 hn hm hq hlen hb hc1 ht
  go_enter Tryd.func36, Tryd.ntmps36
  go_wp2_with fail
  refine (HQ1.out _ HX.out.bel).mono ?_
  rintro e w1 ⟨v1, rfl, ho, hb⟩
  have hx1 := HX.out.step hb
  obtain ⟨Aw, cw, rfl, hcw, hcr⟩ := Kd.R_reads ho
  rw [HM.out] at hcw hcr
  obtain ⟨A', hcut, hcutr⟩ := cut_hm Aw m cw n e4 hcw
  have hlent := hcutr w1 wh hcr
  rw [← HY.out] at hlent
  have HX1 := Aside0.mk hx1
  have HC := Aside0.mk hcr
  have HL := Aside0.mk hlent
  have k2 := hx1.c2
  rw [HM.out]
  clear ho hb hcr hx1 hcutr hlent
  go_wp2_with fail
  refine (HQ2.out _ _ _ HC.out hcw).mono ?_
  rintro e w2 ⟨v2, rfl, ho, hb⟩
  have hx2 := HX1.out.step hb
  have hl2 := Kd.C_below HL.out hb
  have hc2 := Kd.C_below HC.out hb
  obtain ⟨Ab, cb, rfl, hcb, hcbr⟩ := Kd.R_reads ho
  rw [HQ.out] at hcb hcbr
  have d0 := hx2.c0
  have d1 := hx2.c1
  have d2 := hx2.c2
  have HX2 := Aside0.mk hx2
  have HC2 := Aside0.mk hc2
  have HL2 := Aside0.mk hl2
  have HB2 := Aside0.mk hcbr
  rw [HQ.out]
  clear ho hb hcbr hx2 hl2 hc2 k2 HX1 HC HL
  go_wp2_with fail
  have HX3 := HX2
  have HC3 := HC2
  have HB3 := HB2
  repeat (go_quiet (first | (go_at_call 19; (with_reducible refine (HQ7.out _ ?s1).mono ?_); (case s1 => repeat (first | exact HX2.out.bel | apply pw_below_drewN | apply below_drew1)); rintro e w' ⟨rfl, ⟨nd, rfl⟩⟩; (try first | exact ⟨rfl, _, World.drewN_drewN _ _ _⟩ | exact ⟨rfl, _, Eq.trans (World.drewN_drewN _ _ _) (congrArg (World.drewN _) (Nat.add_assoc _ _ _))⟩)) | (go_at_call 17; (with_reducible refine (HQ6.out _ ?s3).mono ?_); (case s3 => repeat (first | exact HX2.out.bel | apply pw_below_drewN | apply below_drew1)); rintro e w' ⟨rfl, ⟨nd, rfl⟩⟩; (try first | exact ⟨rfl, _, World.drewN_drewN _ _ _⟩ | exact ⟨rfl, _, Eq.trans (World.drewN_drewN _ _ _) (congrArg (World.drewN _) (Nat.add_assoc _ _ _))⟩))); try go_wp2_with fail)
  refine (HQ3.out _ _ _ _ _ ?t1 hcw ?t2 hcb).mono ?_
  case t1 => repeat (first | exact HC3.out | (with_reducible refine Kd.C_drewN ?_ _) | (with_reducible refine Kd.C_drew ?_))
  case t2 => repeat (first | exact HB3.out | (with_reducible refine Kd.C_drewN ?_ _) | (with_reducible refine Kd.C_drew ?_))
  rintro e w4 ⟨rfl, hd⟩
  have HX4 := Aside0.mk (below_step (by repeat (first | exact HX3.out.bel | apply pw_below_drewN | apply below_drew1)) hd.below)
  clear hd
  go_wp2
  go_ret
  exact ⟨rfl, HX4.out⟩
set_option maxHeartbeats 4000000 in
theorem plays_2a (k : Nat) (a1 : Int) (A0 : Option Addr) (c0 : Nat) (l0 : List Int) (A1 : Option Addr) (c1 : Nat) (l1 : List Int) (w : World)
    (hr0 : Kd.C (Kd.int .u8) w A0 l0.length l0) (hc0 : l0.length ≤ c0) (hr1 : Kd.C kTab w A1 l1.length l1) (hc1 : l1.length ≤ c1) (wh bf : List Int)
    (e1 : eddylaw1_roomy.f k l0 = some wh) (e2 : eddylaw1_joined.f wh [] = some bf) (e3 : eddylaw1_same.f k wh bf = some true) (e4 : l0.length ≤ wh.length)
    (x : Int) (e5 : frame_Add.f a1 (wh.take l0.length) l1 = some x) (e6 : eddyref1_Add.f k a1 l0 = some x) (hb : l0.length ≠ 0) :
    Calls Tryd.prog 36 #[.agg #[.int .i64 2, .int .u32 a1, .slice A0 l0.length c0]] w fun e w' => e = .returned (.bool true) ∧ Below w.heap.size w w' := by
  have hq1 := fun (W : World) (hW : Below w.heap.size w W) => eddylaw1_roomy.calls k A0 c0 l0 wh W (Kd.C_below hr0 hW) hc0 e1
  have hq2 := fun (W : World) A c (h1 : Kd.C (Kd.int .u8) W A wh.length wh) (h2 : wh.length ≤ c) => eddylaw1_joined.calls A c wh none 0 [] bf W h1 h2 ⟨rfl, by decide, fun h => absurd h (by decide)⟩ (Nat.le_refl _) e2
  have hq3 := fun (W : World) A c A' c' (h1 : Kd.C (Kd.int .u8) W A wh.length wh) (h2 : wh.length ≤ c) (h3 : Kd.C (Kd.int .u8) W A' bf.length bf) (h4 : bf.length ≤ c') => eddylaw1_same.calls k A c wh A' c' bf true W h1 h2 h3 h4 e3
  have hlen : (wh.take l0.length).length = l0.length := by simp; omega
  have hq5 := fun (W : World) (hW : Below w.heap.size w W) A c (h1 : Kd.C (Kd.int .u8) W A l0.length (wh.take l0.length)) (h2 : l0.length ≤ c) => frame_Add.calls a1 A c (wh.take l0.length) A1 c1 l1 x W (by rw [hlen]; exact h1) (by rw [hlen]; exact h2) (Kd.C_below hr1 hW) hc1 e5
  have hq6 := fun (W : World) (hW : Below w.heap.size w W) => eddyref1_Add.calls k a1 A0 c0 l0 x W (Kd.C_below hr0 hW) hc0 e6
  rw [hlen] at hq5
  obtain ⟨n, hn⟩ : ∃ n, l0.length = n := ⟨_, rfl⟩
  obtain ⟨m, hm⟩ : ∃ m, wh.length = m := ⟨_, rfl⟩
  obtain ⟨q, hq⟩ : ∃ q, bf.length = q := ⟨_, rfl⟩
  obtain ⟨y, hy⟩ : ∃ y, y = wh.take l0.length := ⟨_, rfl⟩
  rw [← hy] at hq5 hlen
  rw [hn] at hq1 hq5 hq6 hc0 hb e4 hy hlen ⊢
  rw [hm] at hq2 hq3 e4
  rw [hq] at hq3
  have b1 : ((n : Int) == 0) = false := by simpa using hb
  have HQ1 := Aside0.mk hq1
  have HQ2 := Aside0.mk hq2
  have HQ3 := Aside0.mk hq3
  have HQ5 := Aside0.mk hq5
  have HQ6 := Aside0.mk hq6
  have HY := Aside0.mk hy
  have HM := Aside0.mk hm
  have HQ := Aside0.mk hq
  have HX := Aside0.mk (Boxed.first w 2 a1 (.slice A0 n c0))
  clear hq1 hq2 hq3 hq5 hq6 hy e1 e2 e3 e5 e6 hr0 hr1 hn hm hq hlen hb hc1
  go_enter Tryd.func36, Tryd.ntmps36
  go_wp2_with fail
  refine (HQ1.out _ HX.out.bel).mono ?_
  rintro e w1 ⟨v1, rfl, ho, hb⟩
  have hx1 := HX.out.step hb
  obtain ⟨Aw, cw, rfl, hcw, hcr⟩ := Kd.R_reads ho
  rw [HM.out] at hcw hcr
  obtain ⟨A', hcut, hcutr⟩ := cut_hm Aw m cw n e4 hcw
  have hlent := hcutr w1 wh hcr
  rw [← HY.out] at hlent
  have HX1 := Aside0.mk hx1
  have HC := Aside0.mk hcr
  have HL := Aside0.mk hlent
  have k2 := hx1.c2
  rw [HM.out]
  clear ho hb hcr hx1 hcutr hlent
  go_wp2_with fail
  refine (HQ2.out _ _ _ HC.out hcw).mono ?_
  rintro e w2 ⟨v2, rfl, ho, hb⟩
  have hx2 := HX1.out.step hb
  have hl2 := Kd.C_below HL.out hb
  have hc2 := Kd.C_below HC.out hb
  obtain ⟨Ab, cb, rfl, hcb, hcbr⟩ := Kd.R_reads ho
  rw [HQ.out] at hcb hcbr
  have d0 := hx2.c0
  have d1 := hx2.c1
  have d2 := hx2.c2
  have HX2 := Aside0.mk hx2
  have HC2 := Aside0.mk hc2
  have HL2 := Aside0.mk hl2
  have HB2 := Aside0.mk hcbr
  rw [HQ.out]
  clear ho hb hcbr hx2 hl2 hc2 k2 HX1 HC HL
  go_wp2_with fail
  have HX3 := HX2
  have HC3 := HC2
  have HB3 := HB2
  repeat (go_quiet (first | (go_at_call 20; (with_reducible refine (HQ5.out _ ?s1 A' m ?s2 e4).mono ?_); (case s1 => repeat (first | exact HX2.out.bel | apply pw_below_drewN | apply below_drew1)); (case s2 => repeat (first | exact HL2.out | (with_reducible refine Kd.C_drewN ?_ _) | (with_reducible refine Kd.C_drew ?_))); rintro e w' ⟨rfl, ⟨nd, rfl⟩⟩; (try first | exact ⟨rfl, _, World.drewN_drewN _ _ _⟩ | exact ⟨rfl, _, Eq.trans (World.drewN_drewN _ _ _) (congrArg (World.drewN _) (Nat.add_assoc _ _ _))⟩)) | (go_at_call 18; (with_reducible refine (HQ6.out _ ?s3).mono ?_); (case s3 => repeat (first | exact HX2.out.bel | apply pw_below_drewN | apply below_drew1)); rintro e w' ⟨rfl, ⟨nd, rfl⟩⟩; (try first | exact ⟨rfl, _, World.drewN_drewN _ _ _⟩ | exact ⟨rfl, _, Eq.trans (World.drewN_drewN _ _ _) (congrArg (World.drewN _) (Nat.add_assoc _ _ _))⟩))); try go_wp2_with fail)
  refine (HQ3.out _ _ _ _ _ ?t1 hcw ?t2 hcb).mono ?_
  case t1 => repeat (first | exact HC3.out | (with_reducible refine Kd.C_drewN ?_ _) | (with_reducible refine Kd.C_drew ?_))
  case t2 => repeat (first | exact HB3.out | (with_reducible refine Kd.C_drewN ?_ _) | (with_reducible refine Kd.C_drew ?_))
  rintro e w4 ⟨rfl, hd⟩
  have HX4 := Aside0.mk (below_step (by repeat (first | exact HX3.out.bel | apply pw_below_drewN | apply below_drew1)) hd.below)
  clear hd
  go_wp2
  go_ret
  exact ⟨rfl, HX4.out⟩
set_option maxHeartbeats 4000000 in
theorem plays_2b (k : Nat) (a1 : Int) (A0 : Option Addr) (c0 : Nat) (l0 : List Int) (A1 : Option Addr) (c1 : Nat) (l1 : List Int) (w : World)
    (hr0 : Kd.C (Kd.int .u8) w A0 l0.length l0) (hc0 : l0.length ≤ c0) (hr1 : Kd.C kTab w A1 l1.length l1) (hc1 : l1.length ≤ c1) (wh bf : List Int)
    (e1 : eddylaw1_roomy.f k l0 = some wh) (e2 : eddylaw1_joined.f wh [] = some bf) (e3 : eddylaw1_same.f k wh bf = some true) (e4 : l0.length ≤ wh.length)
    (x : Int) (e5 : frame_Add.f a1 (wh.take l0.length) l1 = some x) (e6 : eddyref1_Add.f k a1 l0 = some x) (hb : l0.length = 0) (ht : Int.tmod a1 2 ≠ 0) :
    Calls Tryd.prog 36 #[.agg #[.int .i64 2, .int .u32 a1, .slice A0 l0.length c0]] w fun e w' => e = .returned (.bool true) ∧ Below w.heap.size w w' := by
  have hq1 := fun (W : World) (hW : Below w.heap.size w W) => eddylaw1_roomy.calls k A0 c0 l0 wh W (Kd.C_below hr0 hW) hc0 e1
  have hq2 := fun (W : World) A c (h1 : Kd.C (Kd.int .u8) W A wh.length wh) (h2 : wh.length ≤ c) => eddylaw1_joined.calls A c wh none 0 [] bf W h1 h2 ⟨rfl, by decide, fun h => absurd h (by decide)⟩ (Nat.le_refl _) e2
  have hq3 := fun (W : World) A c A' c' (h1 : Kd.C (Kd.int .u8) W A wh.length wh) (h2 : wh.length ≤ c) (h3 : Kd.C (Kd.int .u8) W A' bf.length bf) (h4 : bf.length ≤ c') => eddylaw1_same.calls k A c wh A' c' bf true W h1 h2 h3 h4 e3
  have hlen : (wh.take l0.length).length = l0.length := by simp; omega
  have hq5 := fun (W : World) (hW : Below w.heap.size w W) A c (h1 : Kd.C (Kd.int .u8) W A l0.length (wh.take l0.length)) (h2 : l0.length ≤ c) => frame_Add.calls a1 A c (wh.take l0.length) A1 c1 l1 x W (by rw [hlen]; exact h1) (by rw [hlen]; exact h2) (Kd.C_below hr1 hW) hc1 e5
  have hq6 := fun (W : World) (hW : Below w.heap.size w W) => eddyref1_Add.calls k a1 A0 c0 l0 x W (Kd.C_below hr0 hW) hc0 e6
  rw [hlen] at hq5
  obtain ⟨n, hn⟩ : ∃ n, l0.length = n := ⟨_, rfl⟩
  obtain ⟨m, hm⟩ : ∃ m, wh.length = m := ⟨_, rfl⟩
  obtain ⟨q, hq⟩ : ∃ q, bf.length = q := ⟨_, rfl⟩
  obtain ⟨y, hy⟩ : ∃ y, y = wh.take l0.length := ⟨_, rfl⟩
  rw [← hy] at hq5 hlen
  rw [hn] at hq1 hq5 hq6 hc0 hb e4 hy hlen ⊢
  rw [hm] at hq2 hq3 e4
  rw [hq] at hq3
  have b1 : ((n : Int) == 0) = true := by simpa using hb
  have b2 : (Int.tmod a1 2 == 0) = false := by simpa using ht
  have HQ1 := Aside0.mk hq1
  have HQ2 := Aside0.mk hq2
  have HQ3 := Aside0.mk hq3
  have HQ5 := Aside0.mk hq5
  have HQ6 := Aside0.mk hq6
  have HY := Aside0.mk hy
  have HM := Aside0.mk hm
  have HQ := Aside0.mk hq
  have HX := Aside0.mk (Boxed.first w 2 a1 (.slice A0 n c0))
  clear hq1 hq2 hq3 hq5 hq6 hy e1 e2 e3 e5 e6 hr0 hr1 hn hm hq hlen hb hc1 ht
  go_enter Tryd.func36, Tryd.ntmps36
  go_wp2_with fail
  refine (HQ1.out _ HX.out.bel).mono ?_
  rintro e w1 ⟨v1, rfl, ho, hb⟩
  have hx1 := HX.out.step hb
  obtain ⟨Aw, cw, rfl, hcw, hcr⟩ := Kd.R_reads ho
  rw [HM.out] at hcw hcr
  obtain ⟨A', hcut, hcutr⟩ := cut_hm Aw m cw n e4 hcw
  have hlent := hcutr w1 wh hcr
  rw [← HY.out] at hlent
  have HX1 := Aside0.mk hx1
  have HC := Aside0.mk hcr
  have HL := Aside0.mk hlent
  have k2 := hx1.c2
  rw [HM.out]
  clear ho hb hcr hx1 hcutr hlent
  go_wp2_with fail
  refine (HQ2.out _ _ _ HC.out hcw).mono ?_
  rintro e w2 ⟨v2, rfl, ho, hb⟩
  have hx2 := HX1.out.step hb
  have hl2 := Kd.C_below HL.out hb
  have hc2 := Kd.C_below HC.out hb
  obtain ⟨Ab, cb, rfl, hcb, hcbr⟩ := Kd.R_reads ho
  rw [HQ.out] at hcb hcbr
  have d0 := hx2.c0
  have d1 := hx2.c1
  have d2 := hx2.c2
  have HX2 := Aside0.mk hx2
  have HC2 := Aside0.mk hc2
  have HL2 := Aside0.mk hl2
  have HB2 := Aside0.mk hcbr
  rw [HQ.out]
  clear ho hb hcbr hx2 hl2 hc2 k2 HX1 HC HL
  go_wp2_with fail
  have HX3 := HX2
  have HC3 := HC2
  have HB3 := HB2
  repeat (go_quiet (first | (go_at_call 20; (with_reducible refine (HQ5.out _ ?s1 A' m ?s2 e4).mono ?_); (case s1 => repeat (first | exact HX2.out.bel | apply pw_below_drewN | apply below_drew1)); (case s2 => repeat (first | exact HL2.out | (with_reducible refine Kd.C_drewN ?_ _) | (with_reducible refine Kd.C_drew ?_))); rintro e w' ⟨rfl, ⟨nd, rfl⟩⟩; (try first | exact ⟨rfl, _, World.drewN_drewN _ _ _⟩ | exact ⟨rfl, _, Eq.trans (World.drewN_drewN _ _ _) (congrArg (World.drewN _) (Nat.add_assoc _ _ _))⟩)) | (go_at_call 18; (with_reducible refine (HQ6.out _ ?s3).mono ?_); (case s3 => repeat (first | exact HX2.out.bel | apply pw_below_drewN | apply below_drew1)); rintro e w' ⟨rfl, ⟨nd, rfl⟩⟩; (try first | exact ⟨rfl, _, World.drewN_drewN _ _ _⟩ | exact ⟨rfl, _, Eq.trans (World.drewN_drewN _ _ _) (congrArg (World.drewN _) (Nat.add_assoc _ _ _))⟩))); try go_wp2_with fail)
  refine (HQ3.out _ _ _ _ _ ?t1 hcw ?t2 hcb).mono ?_
  case t1 => repeat (first | exact HC3.out | (with_reducible refine Kd.C_drewN ?_ _) | (with_reducible refine Kd.C_drew ?_))
  case t2 => repeat (first | exact HB3.out | (with_reducible refine Kd.C_drewN ?_ _) | (with_reducible refine Kd.C_drew ?_))
  rintro e w4 ⟨rfl, hd⟩
  have HX4 := Aside0.mk (below_step (by repeat (first | exact HX3.out.bel | apply pw_below_drewN | apply below_drew1)) hd.below)
  clear hd
  go_wp2
  go_ret
  exact ⟨rfl, HX4.out⟩
set_option maxHeartbeats 4000000 in
theorem plays_2c (k : Nat) (a1 : Int) (A0 : Option Addr) (c0 : Nat) (l0 : List Int) (A1 : Option Addr) (c1 : Nat) (l1 : List Int) (w : World)
    (hr0 : Kd.C (Kd.int .u8) w A0 l0.length l0) (hc0 : l0.length ≤ c0) (hr1 : Kd.C kTab w A1 l1.length l1) (hc1 : l1.length ≤ c1) (wh bf : List Int)
    (e1 : eddylaw1_roomy.f k l0 = some wh) (e2 : eddylaw1_joined.f wh [] = some bf) (e3 : eddylaw1_same.f k wh bf = some true) (e4 : l0.length ≤ wh.length)
    (x : Int) (e5 : frame_Add.f a1 (wh.take l0.length) l1 = some x) (e6 : eddyref1_Add.f k a1 l0 = some x) (hb : l0.length = 0) (ht : Int.tmod a1 2 = 0) :
    Calls Tryd.prog 36 #[.agg #[.int .i64 2, .int .u32 a1, .slice A0 l0.length c0]] w fun e w' => e = .returned (.bool true) ∧ Below w.heap.size w w' := by
  have hq1 := fun (W : World) (hW : Below w.heap.size w W) => eddylaw1_roomy.calls k A0 c0 l0 wh W (Kd.C_below hr0 hW) hc0 e1
  have hq2 := fun (W : World) A c (h1 : Kd.C (Kd.int .u8) W A wh.length wh) (h2 : wh.length ≤ c) => eddylaw1_joined.calls A c wh none 0 [] bf W h1 h2 ⟨rfl, by decide, fun h => absurd h (by decide)⟩ (Nat.le_refl _) e2
  have hq3 := fun (W : World) A c A' c' (h1 : Kd.C (Kd.int .u8) W A wh.length wh) (h2 : wh.length ≤ c) (h3 : Kd.C (Kd.int .u8) W A' bf.length bf) (h4 : bf.length ≤ c') => eddylaw1_same.calls k A c wh A' c' bf true W h1 h2 h3 h4 e3
  have hlen : (wh.take l0.length).length = l0.length := by simp; omega
  have hq5 := fun (W : World) (hW : Below w.heap.size w W) A c (h1 : Kd.C (Kd.int .u8) W A l0.length (wh.take l0.length)) (h2 : l0.length ≤ c) => frame_Add.calls a1 A c (wh.take l0.length) A1 c1 l1 x W (by rw [hlen]; exact h1) (by rw [hlen]; exact h2) (Kd.C_below hr1 hW) hc1 e5
  have hq6 := fun (W : World) (hW : Below w.heap.size w W) => eddyref1_Add.calls k a1 A0 c0 l0 x W (Kd.C_below hr0 hW) hc0 e6
  rw [hlen] at hq5
  obtain ⟨n, hn⟩ : ∃ n, l0.length = n := ⟨_, rfl⟩
  obtain ⟨m, hm⟩ : ∃ m, wh.length = m := ⟨_, rfl⟩
  obtain ⟨q, hq⟩ : ∃ q, bf.length = q := ⟨_, rfl⟩
  obtain ⟨y, hy⟩ : ∃ y, y = wh.take l0.length := ⟨_, rfl⟩
  rw [← hy] at hq5 hlen
  rw [hn] at hq1 hq5 hq6 hc0 hb e4 hy hlen ⊢
  rw [hm] at hq2 hq3 e4
  rw [hq] at hq3
  have b1 : ((n : Int) == 0) = true := by simpa using hb
  have b2 : (Int.tmod a1 2 == 0) = true := by simpa using ht
  have hy0 : y = [] := List.eq_nil_of_length_eq_zero (by omega)
  have hq7 := fun (W : World) (hW : Below w.heap.size w W) => hq5 W hW none 0 (by rw [hb, hy0]; exact ⟨rfl, by decide, fun h => absurd h (by decide)⟩) (by omega)
  simp only [hb] at hq7
  have HQ7 := Aside0.mk hq7
  clear hq7 hy0
  have HQ1 := Aside0.mk hq1
  have HQ2 := Aside0.mk hq2
  have HQ3 := Aside0.mk hq3
  have HQ5 := Aside0.mk hq5
  have HQ6 := Aside0.mk hq6
  have HY := Aside0.mk hy
  have HM := Aside0.mk hm
  have HQ := Aside0.mk hq
  have HX := Aside0.mk (Boxed.first w 2 a1 (.slice A0 n c0))
  clear hq1 hq2 hq3 hq5 hq6 hy e1 e2 e3 e5 e6 hr0 hr1 hn hm hq hlen hb hc1 ht
  go_enter Tryd.func36, Tryd.ntmps36
  go_wp2_with fail
  refine (HQ1.out _ HX.out.bel).mono ?_
  rintro e w1 ⟨v1, rfl, ho, hb⟩
  have hx1 := HX.out.step hb
  obtain ⟨Aw, cw, rfl, hcw, hcr⟩ := Kd.R_reads ho
  rw [HM.out] at hcw hcr
  obtain ⟨A', hcut, hcutr⟩ := cut_hm Aw m cw n e4 hcw
  have hlent := hcutr w1 wh hcr
  rw [← HY.out] at hlent
  have HX1 := Aside0.mk hx1
  have HC := Aside0.mk hcr
  have HL := Aside0.mk hlent
  have k2 := hx1.c2
  rw [HM.out]
  clear ho hb hcr hx1 hcutr hlent
  go_wp2_with fail
  refine (HQ2.out _ _ _ HC.out hcw).mono ?_
  rintro e w2 ⟨v2, rfl, ho, hb⟩
  have hx2 := HX1.out.step hb
  have hl2 := Kd.C_below HL.out hb
  have hc2 := Kd.C_below HC.out hb
  obtain ⟨Ab, cb, rfl, hcb, hcbr⟩ := Kd.R_reads ho
  rw [HQ.out] at hcb hcbr
  have d0 := hx2.c0
  have d1 := hx2.c1
  have d2 := hx2.c2
  have HX2 := Aside0.mk hx2
  have HC2 := Aside0.mk hc2
  have HL2 := Aside0.mk hl2
  have HB2 := Aside0.mk hcbr
  rw [HQ.out]
  clear ho hb hcbr hx2 hl2 hc2 k2 HX1 HC HL
  go_wp2_with fail
  have HX3 := HX2
  have HC3 := HC2
  have HB3 := HB2
  repeat (go_quiet (first | (go_at_call 20; (with_reducible refine (HQ7.out _ ?s1).mono ?_); (case s1 => repeat (first | exact HX2.out.bel | apply pw_below_drewN | apply below_drew1)); rintro e w' ⟨rfl, ⟨nd, rfl⟩⟩; (try first | exact ⟨rfl, _, World.drewN_drewN _ _ _⟩ | exact ⟨rfl, _, Eq.trans (World.drewN_drewN _ _ _) (congrArg (World.drewN _) (Nat.add_assoc _ _ _))⟩)) | (go_at_call 18; (with_reducible refine (HQ6.out _ ?s3).mono ?_); (case s3 => repeat (first | exact HX2.out.bel | apply pw_below_drewN | apply below_drew1)); rintro e w' ⟨rfl, ⟨nd, rfl⟩⟩; (try first | exact ⟨rfl, _, World.drewN_drewN _ _ _⟩ | exact ⟨rfl, _, Eq.trans (World.drewN_drewN _ _ _) (congrArg (World.drewN _) (Nat.add_assoc _ _ _))⟩))); try go_wp2_with fail)
  refine (HQ3.out _ _ _ _ _ ?t1 hcw ?t2 hcb).mono ?_
  case t1 => repeat (first | exact HC3.out | (with_reducible refine Kd.C_drewN ?_ _) | (with_reducible refine Kd.C_drew ?_))
  case t2 => repeat (first | exact HB3.out | (with_reducible refine Kd.C_drewN ?_ _) | (with_reducible refine Kd.C_drew ?_))
  rintro e w4 ⟨rfl, hd⟩
  have HX4 := Aside0.mk (below_step (by repeat (first | exact HX3.out.bel | apply pw_below_drewN | apply below_drew1)) hd.below)
  clear hd
  go_wp2
  go_ret
  exact ⟨rfl, HX4.out⟩
set_option maxHeartbeats 4000000 in
theorem plays_3a (k : Nat) (a1 : Int) (A0 : Option Addr) (c0 : Nat) (l0 : List Int) (A1 : Option Addr) (c1 : Nat) (l1 : List Int) (w : World)
    (hr0 : Kd.C (Kd.int .u8) w A0 l0.length l0) (hc0 : l0.length ≤ c0) (hr1 : Kd.C kTab w A1 l1.length l1) (hc1 : l1.length ≤ c1) (wh bf : List Int)
    (e1 : eddylaw1_roomy.f k l0 = some wh) (e2 : eddylaw1_joined.f wh [] = some bf) (e3 : eddylaw1_same.f k wh bf = some true) (e4 : l0.length ≤ wh.length)
    (e5 : eddylaw1_FrameWraps.f k (wh.take l0.length) l1 = some true) (hb : l0.length ≠ 0) :
    Calls Tryd.prog 36 #[.agg #[.int .i64 3, .int .u32 a1, .slice A0 l0.length c0]] w fun e w' => e = .returned (.bool true) ∧ Below w.heap.size w w' := by
  have hq1 := fun (W : World) (hW : Below w.heap.size w W) => eddylaw1_roomy.calls k A0 c0 l0 wh W (Kd.C_below hr0 hW) hc0 e1
  have hq2 := fun (W : World) A c (h1 : Kd.C (Kd.int .u8) W A wh.length wh) (h2 : wh.length ≤ c) => eddylaw1_joined.calls A c wh none 0 [] bf W h1 h2 ⟨rfl, by decide, fun h => absurd h (by decide)⟩ (Nat.le_refl _) e2
  have hq3 := fun (W : World) A c A' c' (h1 : Kd.C (Kd.int .u8) W A wh.length wh) (h2 : wh.length ≤ c) (h3 : Kd.C (Kd.int .u8) W A' bf.length bf) (h4 : bf.length ≤ c') => eddylaw1_same.calls k A c wh A' c' bf true W h1 h2 h3 h4 e3
  have hlen : (wh.take l0.length).length = l0.length := by simp; omega
  have hq5 := fun (W : World) (hW : Below w.heap.size w W) A c (h1 : Kd.C (Kd.int .u8) W A l0.length (wh.take l0.length)) (h2 : l0.length ≤ c) => eddylaw1_FrameWraps.calls k A c (wh.take l0.length) A1 c1 l1 true W (by rw [hlen]; exact h1) (by rw [hlen]; exact h2) (Kd.C_below hr1 hW) hc1 e5
  rw [hlen] at hq5
  obtain ⟨n, hn⟩ : ∃ n, l0.length = n := ⟨_, rfl⟩
  obtain ⟨m, hm⟩ : ∃ m, wh.length = m := ⟨_, rfl⟩
  obtain ⟨q, hq⟩ : ∃ q, bf.length = q := ⟨_, rfl⟩
  obtain ⟨y, hy⟩ : ∃ y, y = wh.take l0.length := ⟨_, rfl⟩
  rw [← hy] at hq5 hlen
  rw [hn] at hq1 hq5 hc0 hb e4 hy hlen ⊢
  rw [hm] at hq2 hq3 e4
  rw [hq] at hq3
  have b1 : ((n : Int) == 0) = false := by simpa using hb
  have HQ1 := Aside0.mk hq1
  have HQ2 := Aside0.mk hq2
  have HQ3 := Aside0.mk hq3
  have HQ5 := Aside0.mk hq5
  have HY := Aside0.mk hy
  have HM := Aside0.mk hm
  have HQ := Aside0.mk hq
  have HX := Aside0.mk (Boxed.first w 3 a1 (.slice A0 n c0))
  clear hq1 hq2 hq3 hq5 hy e1 e2 e3 e5 hr0 hr1 hn hm hq hlen hb hc1
  go_enter Tryd.func36, Tryd.ntmps36
  go_wp2_with fail
  refine (HQ1.out _ HX.out.bel).mono ?_
  rintro e w1 ⟨v1, rfl, ho, hb⟩
  have hx1 := HX.out.step hb
  obtain ⟨Aw, cw, rfl, hcw, hcr⟩ := Kd.R_reads ho
  rw [HM.out] at hcw hcr
  obtain ⟨A', hcut, hcutr⟩ := cut_hm Aw m cw n e4 hcw
  have hlent := hcutr w1 wh hcr
  rw [← HY.out] at hlent
  have HX1 := Aside0.mk hx1
  have HC := Aside0.mk hcr
  have HL := Aside0.mk hlent
  have k2 := hx1.c2
  rw [HM.out]
  clear ho hb hcr hx1 hcutr hlent
  go_wp2_with fail
  refine (HQ2.out _ _ _ HC.out hcw).mono ?_
  rintro e w2 ⟨v2, rfl, ho, hb⟩
  have hx2 := HX1.out.step hb
  have hl2 := Kd.C_below HL.out hb
  have hc2 := Kd.C_below HC.out hb
  obtain ⟨Ab, cb, rfl, hcb, hcbr⟩ := Kd.R_reads ho
  rw [HQ.out] at hcb hcbr
  have d0 := hx2.c0
  have d1 := hx2.c1
  have d2 := hx2.c2
  have HX2 := Aside0.mk hx2
  have HC2 := Aside0.mk hc2
  have HL2 := Aside0.mk hl2
  have HB2 := Aside0.mk hcbr
  rw [HQ.out]
  clear ho hb hcbr hx2 hl2 hc2 k2 HX1 HC HL
  go_wp2_with fail
  refine (HQ5.out _ HX2.out.bel A' m HL2.out e4).mono ?_
  rintro e w3 ⟨rfl, hb⟩
  have HX3 := Aside0.mk (HX2.out.step hb)
  have HC3 := Aside0.mk (Kd.C_below HC2.out hb)
  have HB3 := Aside0.mk (Kd.C_below HB2.out hb)
  clear hb HX2 HC2 HL2 HB2
  go_wp2_with fail
  refine (HQ3.out _ _ _ _ _ ?t1 hcw ?t2 hcb).mono ?_
  case t1 => repeat (first | exact HC3.out | (with_reducible refine Kd.C_drewN ?_ _) | (with_reducible refine Kd.C_drew ?_))
  case t2 => repeat (first | exact HB3.out | (with_reducible refine Kd.C_drewN ?_ _) | (with_reducible refine Kd.C_drew ?_))
  rintro e w4 ⟨rfl, hd⟩
  have HX4 := Aside0.mk (below_step (HX3.out.bel) hd.below)
  clear hd
  go_wp2
  go_ret
  exact ⟨rfl, HX4.out⟩
set_option maxHeartbeats 4000000 in
theorem plays_3b (k : Nat) (a1 : Int) (A0 : Option Addr) (c0 : Nat) (l0 : List Int) (A1 : Option Addr) (c1 : Nat) (l1 : List Int) (w : World)
    (hr0 : Kd.C (Kd.int .u8) w A0 l0.length l0) (hc0 : l0.length ≤ c0) (hr1 : Kd.C kTab w A1 l1.length l1) (hc1 : l1.length ≤ c1) (wh bf : List Int)
    (e1 : eddylaw1_roomy.f k l0 = some wh) (e2 : eddylaw1_joined.f wh [] = some bf) (e3 : eddylaw1_same.f k wh bf = some true) (e4 : l0.length ≤ wh.length)
    (e5 : eddylaw1_FrameWraps.f k (wh.take l0.length) l1 = some true) (hb : l0.length = 0) (ht : Int.tmod a1 2 ≠ 0) :
    Calls Tryd.prog 36 #[.agg #[.int .i64 3, .int .u32 a1, .slice A0 l0.length c0]] w fun e w' => e = .returned (.bool true) ∧ Below w.heap.size w w' := by
  have hq1 := fun (W : World) (hW : Below w.heap.size w W) => eddylaw1_roomy.calls k A0 c0 l0 wh W (Kd.C_below hr0 hW) hc0 e1
  have hq2 := fun (W : World) A c (h1 : Kd.C (Kd.int .u8) W A wh.length wh) (h2 : wh.length ≤ c) => eddylaw1_joined.calls A c wh none 0 [] bf W h1 h2 ⟨rfl, by decide, fun h => absurd h (by decide)⟩ (Nat.le_refl _) e2
  have hq3 := fun (W : World) A c A' c' (h1 : Kd.C (Kd.int .u8) W A wh.length wh) (h2 : wh.length ≤ c) (h3 : Kd.C (Kd.int .u8) W A' bf.length bf) (h4 : bf.length ≤ c') => eddylaw1_same.calls k A c wh A' c' bf true W h1 h2 h3 h4 e3
  have hlen : (wh.take l0.length).length = l0.length := by simp; omega
  have hq5 := fun (W : World) (hW : Below w.heap.size w W) A c (h1 : Kd.C (Kd.int .u8) W A l0.length (wh.take l0.length)) (h2 : l0.length ≤ c) => eddylaw1_FrameWraps.calls k A c (wh.take l0.length) A1 c1 l1 true W (by rw [hlen]; exact h1) (by rw [hlen]; exact h2) (Kd.C_below hr1 hW) hc1 e5
  rw [hlen] at hq5
  obtain ⟨n, hn⟩ : ∃ n, l0.length = n := ⟨_, rfl⟩
  obtain ⟨m, hm⟩ : ∃ m, wh.length = m := ⟨_, rfl⟩
  obtain ⟨q, hq⟩ : ∃ q, bf.length = q := ⟨_, rfl⟩
  obtain ⟨y, hy⟩ : ∃ y, y = wh.take l0.length := ⟨_, rfl⟩
  rw [← hy] at hq5 hlen
  rw [hn] at hq1 hq5 hc0 hb e4 hy hlen ⊢
  rw [hm] at hq2 hq3 e4
  rw [hq] at hq3
  have b1 : ((n : Int) == 0) = true := by simpa using hb
  have b2 : (Int.tmod a1 2 == 0) = false := by simpa using ht
  have HQ1 := Aside0.mk hq1
  have HQ2 := Aside0.mk hq2
  have HQ3 := Aside0.mk hq3
  have HQ5 := Aside0.mk hq5
  have HY := Aside0.mk hy
  have HM := Aside0.mk hm
  have HQ := Aside0.mk hq
  have HX := Aside0.mk (Boxed.first w 3 a1 (.slice A0 n c0))
  clear hq1 hq2 hq3 hq5 hy e1 e2 e3 e5 hr0 hr1 hn hm hq hlen hb hc1 ht
  go_enter Tryd.func36, Tryd.ntmps36
  go_wp2_with fail
  refine (HQ1.out _ HX.out.bel).mono ?_
  rintro e w1 ⟨v1, rfl, ho, hb⟩
  have hx1 := HX.out.step hb
  obtain ⟨Aw, cw, rfl, hcw, hcr⟩ := Kd.R_reads ho
  rw [HM.out] at hcw hcr
  obtain ⟨A', hcut, hcutr⟩ := cut_hm Aw m cw n e4 hcw
  have hlent := hcutr w1 wh hcr
  rw [← HY.out] at hlent
  have HX1 := Aside0.mk hx1
  have HC := Aside0.mk hcr
  have HL := Aside0.mk hlent
  have k2 := hx1.c2
  rw [HM.out]
  clear ho hb hcr hx1 hcutr hlent
  go_wp2_with fail
  refine (HQ2.out _ _ _ HC.out hcw).mono ?_
  rintro e w2 ⟨v2, rfl, ho, hb⟩
  have hx2 := HX1.out.step hb
  have hl2 := Kd.C_below HL.out hb
  have hc2 := Kd.C_below HC.out hb
  obtain ⟨Ab, cb, rfl, hcb, hcbr⟩ := Kd.R_reads ho
  rw [HQ.out] at hcb hcbr
  have d0 := hx2.c0
  have d1 := hx2.c1
  have d2 := hx2.c2
  have HX2 := Aside0.mk hx2
  have HC2 := Aside0.mk hc2
  have HL2 := Aside0.mk hl2
  have HB2 := Aside0.mk hcbr
  rw [HQ.out]
  clear ho hb hcbr hx2 hl2 hc2 k2 HX1 HC HL
  go_wp2_with fail
  refine (HQ5.out _ HX2.out.bel A' m HL2.out e4).mono ?_
  rintro e w3 ⟨rfl, hb⟩
  have HX3 := Aside0.mk (HX2.out.step hb)
  have HC3 := Aside0.mk (Kd.C_below HC2.out hb)
  have HB3 := Aside0.mk (Kd.C_below HB2.out hb)
  clear hb HX2 HC2 HL2 HB2
  go_wp2_with fail
  refine (HQ3.out _ _ _ _ _ ?t1 hcw ?t2 hcb).mono ?_
  case t1 => repeat (first | exact HC3.out | (with_reducible refine Kd.C_drewN ?_ _) | (with_reducible refine Kd.C_drew ?_))
  case t2 => repeat (first | exact HB3.out | (with_reducible refine Kd.C_drewN ?_ _) | (with_reducible refine Kd.C_drew ?_))
  rintro e w4 ⟨rfl, hd⟩
  have HX4 := Aside0.mk (below_step (HX3.out.bel) hd.below)
  clear hd
  go_wp2
  go_ret
  exact ⟨rfl, HX4.out⟩
set_option maxHeartbeats 4000000 in
theorem plays_3c (k : Nat) (a1 : Int) (A0 : Option Addr) (c0 : Nat) (l0 : List Int) (A1 : Option Addr) (c1 : Nat) (l1 : List Int) (w : World)
    (hr0 : Kd.C (Kd.int .u8) w A0 l0.length l0) (hc0 : l0.length ≤ c0) (hr1 : Kd.C kTab w A1 l1.length l1) (hc1 : l1.length ≤ c1) (wh bf : List Int)
    (e1 : eddylaw1_roomy.f k l0 = some wh) (e2 : eddylaw1_joined.f wh [] = some bf) (e3 : eddylaw1_same.f k wh bf = some true) (e4 : l0.length ≤ wh.length)
    (e5 : eddylaw1_FrameWraps.f k (wh.take l0.length) l1 = some true) (hb : l0.length = 0) (ht : Int.tmod a1 2 = 0) :
    Calls Tryd.prog 36 #[.agg #[.int .i64 3, .int .u32 a1, .slice A0 l0.length c0]] w fun e w' => e = .returned (.bool true) ∧ Below w.heap.size w w' := by
  have hq1 := fun (W : World) (hW : Below w.heap.size w W) => eddylaw1_roomy.calls k A0 c0 l0 wh W (Kd.C_below hr0 hW) hc0 e1
  have hq2 := fun (W : World) A c (h1 : Kd.C (Kd.int .u8) W A wh.length wh) (h2 : wh.length ≤ c) => eddylaw1_joined.calls A c wh none 0 [] bf W h1 h2 ⟨rfl, by decide, fun h => absurd h (by decide)⟩ (Nat.le_refl _) e2
  have hq3 := fun (W : World) A c A' c' (h1 : Kd.C (Kd.int .u8) W A wh.length wh) (h2 : wh.length ≤ c) (h3 : Kd.C (Kd.int .u8) W A' bf.length bf) (h4 : bf.length ≤ c') => eddylaw1_same.calls k A c wh A' c' bf true W h1 h2 h3 h4 e3
  have hlen : (wh.take l0.length).length = l0.length := by simp; omega
  have hq5 := fun (W : World) (hW : Below w.heap.size w W) A c (h1 : Kd.C (Kd.int .u8) W A l0.length (wh.take l0.length)) (h2 : l0.length ≤ c) => eddylaw1_FrameWraps.calls k A c (wh.take l0.length) A1 c1 l1 true W (by rw [hlen]; exact h1) (by rw [hlen]; exact h2) (Kd.C_below hr1 hW) hc1 e5
  rw [hlen] at hq5
  obtain ⟨n, hn⟩ : ∃ n, l0.length = n := ⟨_, rfl⟩
  obtain ⟨m, hm⟩ : ∃ m, wh.length = m := ⟨_, rfl⟩
  obtain ⟨q, hq⟩ : ∃ q, bf.length = q := ⟨_, rfl⟩
  obtain ⟨y, hy⟩ : ∃ y, y = wh.take l0.length := ⟨_, rfl⟩
  rw [← hy] at hq5 hlen
  rw [hn] at hq1 hq5 hc0 hb e4 hy hlen ⊢
  rw [hm] at hq2 hq3 e4
  rw [hq] at hq3
  have b1 : ((n : Int) == 0) = true := by simpa using hb
  have b2 : (Int.tmod a1 2 == 0) = true := by simpa using ht
  have hy0 : y = [] := List.eq_nil_of_length_eq_zero (by omega)
  have hq7 := fun (W : World) (hW : Below w.heap.size w W) => hq5 W hW none 0 (by rw [hb, hy0]; exact ⟨rfl, by decide, fun h => absurd h (by decide)⟩) (by omega)
  simp only [hb] at hq7
  have HQ7 := Aside0.mk hq7
  clear hq7 hy0
  have HQ1 := Aside0.mk hq1
  have HQ2 := Aside0.mk hq2
  have HQ3 := Aside0.mk hq3
  have HQ5 := Aside0.mk hq5
  have HY := Aside0.mk hy
  have HM := Aside0.mk hm
  have HQ := Aside0.mk hq
  have HX := Aside0.mk (Boxed.first w 3 a1 (.slice A0 n c0))
  clear hq1 hq2 hq3 hq5 hy e1 e2 e3 e5 hr0 hr1 hn hm hq hlen hb hc1 ht
  go_enter Tryd.func36, Tryd.ntmps36
  go_wp2_with fail
  refine (HQ1.out _ HX.out.bel).mono ?_
  rintro e w1 ⟨v1, rfl, ho, hb⟩
  have hx1 := HX.out.step hb
  obtain ⟨Aw, cw, rfl, hcw, hcr⟩ := Kd.R_reads ho
  rw [HM.out] at hcw hcr
  obtain ⟨A', hcut, hcutr⟩ := cut_hm Aw m cw n e4 hcw
  have hlent := hcutr w1 wh hcr
  rw [← HY.out] at hlent
  have HX1 := Aside0.mk hx1
  have HC := Aside0.mk hcr
  have HL := Aside0.mk hlent
  have k2 := hx1.c2
  rw [HM.out]
  clear ho hb hcr hx1 hcutr hlent
  go_wp2_with fail
  refine (HQ2.out _ _ _ HC.out hcw).mono ?_
  rintro e w2 ⟨v2, rfl, ho, hb⟩
  have hx2 := HX1.out.step hb
  have hl2 := Kd.C_below HL.out hb
  have hc2 := Kd.C_below HC.out hb
  obtain ⟨Ab, cb, rfl, hcb, hcbr⟩ := Kd.R_reads ho
  rw [HQ.out] at hcb hcbr
  have d0 := hx2.c0
  have d1 := hx2.c1
  have d2 := hx2.c2
  have HX2 := Aside0.mk hx2
  have HC2 := Aside0.mk hc2
  have HL2 := Aside0.mk hl2
  have HB2 := Aside0.mk hcbr
  rw [HQ.out]
  clear ho hb hcbr hx2 hl2 hc2 k2 HX1 HC HL
  go_wp2_with fail
  refine (HQ7.out _ HX2.out.bel).mono ?_
  rintro e w3 ⟨rfl, hb⟩
  have HX3 := Aside0.mk (HX2.out.step hb)
  have HC3 := Aside0.mk (Kd.C_below HC2.out hb)
  have HB3 := Aside0.mk (Kd.C_below HB2.out hb)
  clear hb HX2 HC2 HL2 HB2
  go_wp2_with fail
  refine (HQ3.out _ _ _ _ _ ?t1 hcw ?t2 hcb).mono ?_
  case t1 => repeat (first | exact HC3.out | (with_reducible refine Kd.C_drewN ?_ _) | (with_reducible refine Kd.C_drew ?_))
  case t2 => repeat (first | exact HB3.out | (with_reducible refine Kd.C_drewN ?_ _) | (with_reducible refine Kd.C_drew ?_))
  rintro e w4 ⟨rfl, hd⟩
  have HX4 := Aside0.mk (below_step (HX3.out.bel) hd.below)
  clear hd
  go_wp2
  go_ret
  exact ⟨rfl, HX4.out⟩
set_option maxHeartbeats 4000000 in
theorem plays_4a (k : Nat) (a1 : Int) (A0 : Option Addr) (c0 : Nat) (l0 : List Int) (A1 : Option Addr) (c1 : Nat) (l1 : List Int) (w : World)
    (hr0 : Kd.C (Kd.int .u8) w A0 l0.length l0) (hc0 : l0.length ≤ c0) (hr1 : Kd.C kTab w A1 l1.length l1) (hc1 : l1.length ≤ c1) (wh bf : List Int)
    (e1 : eddylaw1_roomy.f k l0 = some wh) (e2 : eddylaw1_joined.f wh [] = some bf) (e3 : eddylaw1_same.f k wh bf = some true) (e4 : l0.length ≤ wh.length)
    (e5 : eddylaw1_FrameUnwraps.f k (wh.take l0.length) l1 = some true) (hb : l0.length ≠ 0) :
    Calls Tryd.prog 36 #[.agg #[.int .i64 4, .int .u32 a1, .slice A0 l0.length c0]] w fun e w' => e = .returned (.bool true) ∧ Below w.heap.size w w' := by
  have hq1 := fun (W : World) (hW : Below w.heap.size w W) => eddylaw1_roomy.calls k A0 c0 l0 wh W (Kd.C_below hr0 hW) hc0 e1
  have hq2 := fun (W : World) A c (h1 : Kd.C (Kd.int .u8) W A wh.length wh) (h2 : wh.length ≤ c) => eddylaw1_joined.calls A c wh none 0 [] bf W h1 h2 ⟨rfl, by decide, fun h => absurd h (by decide)⟩ (Nat.le_refl _) e2
  have hq3 := fun (W : World) A c A' c' (h1 : Kd.C (Kd.int .u8) W A wh.length wh) (h2 : wh.length ≤ c) (h3 : Kd.C (Kd.int .u8) W A' bf.length bf) (h4 : bf.length ≤ c') => eddylaw1_same.calls k A c wh A' c' bf true W h1 h2 h3 h4 e3
  have hlen : (wh.take l0.length).length = l0.length := by simp; omega
  have hq5 := fun (W : World) (hW : Below w.heap.size w W) A c (h1 : Kd.C (Kd.int .u8) W A l0.length (wh.take l0.length)) (h2 : l0.length ≤ c) => eddylaw1_FrameUnwraps.calls k A c (wh.take l0.length) A1 c1 l1 true W (by rw [hlen]; exact h1) (by rw [hlen]; exact h2) (Kd.C_below hr1 hW) hc1 e5
  rw [hlen] at hq5
  obtain ⟨n, hn⟩ : ∃ n, l0.length = n := ⟨_, rfl⟩
  obtain ⟨m, hm⟩ : ∃ m, wh.length = m := ⟨_, rfl⟩
  obtain ⟨q, hq⟩ : ∃ q, bf.length = q := ⟨_, rfl⟩
  obtain ⟨y, hy⟩ : ∃ y, y = wh.take l0.length := ⟨_, rfl⟩
  rw [← hy] at hq5 hlen
  rw [hn] at hq1 hq5 hc0 hb e4 hy hlen ⊢
  rw [hm] at hq2 hq3 e4
  rw [hq] at hq3
  have b1 : ((n : Int) == 0) = false := by simpa using hb
  have HQ1 := Aside0.mk hq1
  have HQ2 := Aside0.mk hq2
  have HQ3 := Aside0.mk hq3
  have HQ5 := Aside0.mk hq5
  have HY := Aside0.mk hy
  have HM := Aside0.mk hm
  have HQ := Aside0.mk hq
  have HX := Aside0.mk (Boxed.first w 4 a1 (.slice A0 n c0))
  clear hq1 hq2 hq3 hq5 hy e1 e2 e3 e5 hr0 hr1 hn hm hq hlen hb hc1
  go_enter Tryd.func36, Tryd.ntmps36
  go_wp2_with fail
  refine (HQ1.out _ HX.out.bel).mono ?_
  rintro e w1 ⟨v1, rfl, ho, hb⟩
  have hx1 := HX.out.step hb
  obtain ⟨Aw, cw, rfl, hcw, hcr⟩ := Kd.R_reads ho
  rw [HM.out] at hcw hcr
  obtain ⟨A', hcut, hcutr⟩ := cut_hm Aw m cw n e4 hcw
  have hlent := hcutr w1 wh hcr
  rw [← HY.out] at hlent
  have HX1 := Aside0.mk hx1
  have HC := Aside0.mk hcr
  have HL := Aside0.mk hlent
  have k2 := hx1.c2
  rw [HM.out]
  clear ho hb hcr hx1 hcutr hlent
  go_wp2_with fail
  refine (HQ2.out _ _ _ HC.out hcw).mono ?_
  rintro e w2 ⟨v2, rfl, ho, hb⟩
  have hx2 := HX1.out.step hb
  have hl2 := Kd.C_below HL.out hb
  have hc2 := Kd.C_below HC.out hb
  obtain ⟨Ab, cb, rfl, hcb, hcbr⟩ := Kd.R_reads ho
  rw [HQ.out] at hcb hcbr
  have d0 := hx2.c0
  have d1 := hx2.c1
  have d2 := hx2.c2
  have HX2 := Aside0.mk hx2
  have HC2 := Aside0.mk hc2
  have HL2 := Aside0.mk hl2
  have HB2 := Aside0.mk hcbr
  rw [HQ.out]
  clear ho hb hcbr hx2 hl2 hc2 k2 HX1 HC HL
  go_wp2_with fail
  refine (HQ5.out _ HX2.out.bel A' m HL2.out e4).mono ?_
  rintro e w3 ⟨rfl, hb⟩
  have HX3 := Aside0.mk (HX2.out.step hb)
  have HC3 := Aside0.mk (Kd.C_below HC2.out hb)
  have HB3 := Aside0.mk (Kd.C_below HB2.out hb)
  clear hb HX2 HC2 HL2 HB2
  go_wp2_with fail
  refine (HQ3.out _ _ _ _ _ ?t1 hcw ?t2 hcb).mono ?_
  case t1 => repeat (first | exact HC3.out | (with_reducible refine Kd.C_drewN ?_ _) | (with_reducible refine Kd.C_drew ?_))
  case t2 => repeat (first | exact HB3.out | (with_reducible refine Kd.C_drewN ?_ _) | (with_reducible refine Kd.C_drew ?_))
  rintro e w4 ⟨rfl, hd⟩
  have HX4 := Aside0.mk (below_step (HX3.out.bel) hd.below)
  clear hd
  go_wp2
  go_ret
  exact ⟨rfl, HX4.out⟩
set_option maxHeartbeats 4000000 in
theorem plays_4b (k : Nat) (a1 : Int) (A0 : Option Addr) (c0 : Nat) (l0 : List Int) (A1 : Option Addr) (c1 : Nat) (l1 : List Int) (w : World)
    (hr0 : Kd.C (Kd.int .u8) w A0 l0.length l0) (hc0 : l0.length ≤ c0) (hr1 : Kd.C kTab w A1 l1.length l1) (hc1 : l1.length ≤ c1) (wh bf : List Int)
    (e1 : eddylaw1_roomy.f k l0 = some wh) (e2 : eddylaw1_joined.f wh [] = some bf) (e3 : eddylaw1_same.f k wh bf = some true) (e4 : l0.length ≤ wh.length)
    (e5 : eddylaw1_FrameUnwraps.f k (wh.take l0.length) l1 = some true) (hb : l0.length = 0) (ht : Int.tmod a1 2 ≠ 0) :
    Calls Tryd.prog 36 #[.agg #[.int .i64 4, .int .u32 a1, .slice A0 l0.length c0]] w fun e w' => e = .returned (.bool true) ∧ Below w.heap.size w w' := by
  have hq1 := fun (W : World) (hW : Below w.heap.size w W) => eddylaw1_roomy.calls k A0 c0 l0 wh W (Kd.C_below hr0 hW) hc0 e1
  have hq2 := fun (W : World) A c (h1 : Kd.C (Kd.int .u8) W A wh.length wh) (h2 : wh.length ≤ c) => eddylaw1_joined.calls A c wh none 0 [] bf W h1 h2 ⟨rfl, by decide, fun h => absurd h (by decide)⟩ (Nat.le_refl _) e2
  have hq3 := fun (W : World) A c A' c' (h1 : Kd.C (Kd.int .u8) W A wh.length wh) (h2 : wh.length ≤ c) (h3 : Kd.C (Kd.int .u8) W A' bf.length bf) (h4 : bf.length ≤ c') => eddylaw1_same.calls k A c wh A' c' bf true W h1 h2 h3 h4 e3
  have hlen : (wh.take l0.length).length = l0.length := by simp; omega
  have hq5 := fun (W : World) (hW : Below w.heap.size w W) A c (h1 : Kd.C (Kd.int .u8) W A l0.length (wh.take l0.length)) (h2 : l0.length ≤ c) => eddylaw1_FrameUnwraps.calls k A c (wh.take l0.length) A1 c1 l1 true W (by rw [hlen]; exact h1) (by rw [hlen]; exact h2) (Kd.C_below hr1 hW) hc1 e5
  rw [hlen] at hq5
  obtain ⟨n, hn⟩ : ∃ n, l0.length = n := ⟨_, rfl⟩
  obtain ⟨m, hm⟩ : ∃ m, wh.length = m := ⟨_, rfl⟩
  obtain ⟨q, hq⟩ : ∃ q, bf.length = q := ⟨_, rfl⟩
  obtain ⟨y, hy⟩ : ∃ y, y = wh.take l0.length := ⟨_, rfl⟩
  rw [← hy] at hq5 hlen
  rw [hn] at hq1 hq5 hc0 hb e4 hy hlen ⊢
  rw [hm] at hq2 hq3 e4
  rw [hq] at hq3
  have b1 : ((n : Int) == 0) = true := by simpa using hb
  have b2 : (Int.tmod a1 2 == 0) = false := by simpa using ht
  have HQ1 := Aside0.mk hq1
  have HQ2 := Aside0.mk hq2
  have HQ3 := Aside0.mk hq3
  have HQ5 := Aside0.mk hq5
  have HY := Aside0.mk hy
  have HM := Aside0.mk hm
  have HQ := Aside0.mk hq
  have HX := Aside0.mk (Boxed.first w 4 a1 (.slice A0 n c0))
  clear hq1 hq2 hq3 hq5 hy e1 e2 e3 e5 hr0 hr1 hn hm hq hlen hb hc1 ht
  go_enter Tryd.func36, Tryd.ntmps36
  go_wp2_with fail
  refine (HQ1.out _ HX.out.bel).mono ?_
  rintro e w1 ⟨v1, rfl, ho, hb⟩
  have hx1 := HX.out.step hb
  obtain ⟨Aw, cw, rfl, hcw, hcr⟩ := Kd.R_reads ho
  rw [HM.out] at hcw hcr
  obtain ⟨A', hcut, hcutr⟩ := cut_hm Aw m cw n e4 hcw
  have hlent := hcutr w1 wh hcr
  rw [← HY.out] at hlent
  have HX1 := Aside0.mk hx1
  have HC := Aside0.mk hcr
  have HL := Aside0.mk hlent
  have k2 := hx1.c2
  rw [HM.out]
  clear ho hb hcr hx1 hcutr hlent
  go_wp2_with fail
  refine (HQ2.out _ _ _ HC.out hcw).mono ?_
  rintro e w2 ⟨v2, rfl, ho, hb⟩
  have hx2 := HX1.out.step hb
  have hl2 := Kd.C_below HL.out hb
  have hc2 := Kd.C_below HC.out hb
  obtain ⟨Ab, cb, rfl, hcb, hcbr⟩ := Kd.R_reads ho
  rw [HQ.out] at hcb hcbr
  have d0 := hx2.c0
  have d1 := hx2.c1
  have d2 := hx2.c2
  have HX2 := Aside0.mk hx2
  have HC2 := Aside0.mk hc2
  have HL2 := Aside0.mk hl2
  have HB2 := Aside0.mk hcbr
  rw [HQ.out]
  clear ho hb hcbr hx2 hl2 hc2 k2 HX1 HC HL
  go_wp2_with fail
  refine (HQ5.out _ HX2.out.bel A' m HL2.out e4).mono ?_
  rintro e w3 ⟨rfl, hb⟩
  have HX3 := Aside0.mk (HX2.out.step hb)
  have HC3 := Aside0.mk (Kd.C_below HC2.out hb)
  have HB3 := Aside0.mk (Kd.C_below HB2.out hb)
  clear hb HX2 HC2 HL2 HB2
  go_wp2_with fail
  refine (HQ3.out _ _ _ _ _ ?t1 hcw ?t2 hcb).mono ?_
  case t1 => repeat (first | exact HC3.out | (with_reducible refine Kd.C_drewN ?_ _) | (with_reducible refine Kd.C_drew ?_))
  case t2 => repeat (first | exact HB3.out | (with_reducible refine Kd.C_drewN ?_ _) | (with_reducible refine Kd.C_drew ?_))
  rintro e w4 ⟨rfl, hd⟩
  have HX4 := Aside0.mk (below_step (HX3.out.bel) hd.below)
  clear hd
  go_wp2
  go_ret
  exact ⟨rfl, HX4.out⟩
set_option maxHeartbeats 4000000 in
theorem plays_4c (k : Nat) (a1 : Int) (A0 : Option Addr) (c0 : Nat) (l0 : List Int) (A1 : Option Addr) (c1 : Nat) (l1 : List Int) (w : World)
    (hr0 : Kd.C (Kd.int .u8) w A0 l0.length l0) (hc0 : l0.length ≤ c0) (hr1 : Kd.C kTab w A1 l1.length l1) (hc1 : l1.length ≤ c1) (wh bf : List Int)
    (e1 : eddylaw1_roomy.f k l0 = some wh) (e2 : eddylaw1_joined.f wh [] = some bf) (e3 : eddylaw1_same.f k wh bf = some true) (e4 : l0.length ≤ wh.length)
    (e5 : eddylaw1_FrameUnwraps.f k (wh.take l0.length) l1 = some true) (hb : l0.length = 0) (ht : Int.tmod a1 2 = 0) :
    Calls Tryd.prog 36 #[.agg #[.int .i64 4, .int .u32 a1, .slice A0 l0.length c0]] w fun e w' => e = .returned (.bool true) ∧ Below w.heap.size w w' := by
  have hq1 := fun (W : World) (hW : Below w.heap.size w W) => eddylaw1_roomy.calls k A0 c0 l0 wh W (Kd.C_below hr0 hW) hc0 e1
  have hq2 := fun (W : World) A c (h1 : Kd.C (Kd.int .u8) W A wh.length wh) (h2 : wh.length ≤ c) => eddylaw1_joined.calls A c wh none 0 [] bf W h1 h2 ⟨rfl, by decide, fun h => absurd h (by decide)⟩ (Nat.le_refl _) e2
  have hq3 := fun (W : World) A c A' c' (h1 : Kd.C (Kd.int .u8) W A wh.length wh) (h2 : wh.length ≤ c) (h3 : Kd.C (Kd.int .u8) W A' bf.length bf) (h4 : bf.length ≤ c') => eddylaw1_same.calls k A c wh A' c' bf true W h1 h2 h3 h4 e3
  have hlen : (wh.take l0.length).length = l0.length := by simp; omega
  have hq5 := fun (W : World) (hW : Below w.heap.size w W) A c (h1 : Kd.C (Kd.int .u8) W A l0.length (wh.take l0.length)) (h2 : l0.length ≤ c) => eddylaw1_FrameUnwraps.calls k A c (wh.take l0.length) A1 c1 l1 true W (by rw [hlen]; exact h1) (by rw [hlen]; exact h2) (Kd.C_below hr1 hW) hc1 e5
  rw [hlen] at hq5
  obtain ⟨n, hn⟩ : ∃ n, l0.length = n := ⟨_, rfl⟩
  obtain ⟨m, hm⟩ : ∃ m, wh.length = m := ⟨_, rfl⟩
  obtain ⟨q, hq⟩ : ∃ q, bf.length = q := ⟨_, rfl⟩
  obtain ⟨y, hy⟩ : ∃ y, y = wh.take l0.length := ⟨_, rfl⟩
  rw [← hy] at hq5 hlen
  rw [hn] at hq1 hq5 hc0 hb e4 hy hlen ⊢
  rw [hm] at hq2 hq3 e4
  rw [hq] at hq3
  have b1 : ((n : Int) == 0) = true := by simpa using hb
  have b2 : (Int.tmod a1 2 == 0) = true := by simpa using ht
  have hy0 : y = [] := List.eq_nil_of_length_eq_zero (by omega)
  have hq7 := fun (W : World) (hW : Below w.heap.size w W) => hq5 W hW none 0 (by rw [hb, hy0]; exact ⟨rfl, by decide, fun h => absurd h (by decide)⟩) (by omega)
  simp only [hb] at hq7
  have HQ7 := Aside0.mk hq7
  clear hq7 hy0
  have HQ1 := Aside0.mk hq1
  have HQ2 := Aside0.mk hq2
  have HQ3 := Aside0.mk hq3
  have HQ5 := Aside0.mk hq5
  have HY := Aside0.mk hy
  have HM := Aside0.mk hm
  have HQ := Aside0.mk hq
  have HX := Aside0.mk (Boxed.first w 4 a1 (.slice A0 n c0))
  clear hq1 hq2 hq3 hq5 hy e1 e2 e3 e5 hr0 hr1 hn hm hq hlen hb hc1 ht
  go_enter Tryd.func36, Tryd.ntmps36
  go_wp2_with fail
  refine (HQ1.out _ HX.out.bel).mono ?_
  rintro e w1 ⟨v1, rfl, ho, hb⟩
  have hx1 := HX.out.step hb
  obtain ⟨Aw, cw, rfl, hcw, hcr⟩ := Kd.R_reads ho
  rw [HM.out] at hcw hcr
  obtain ⟨A', hcut, hcutr⟩ := cut_hm Aw m cw n e4 hcw
  have hlent := hcutr w1 wh hcr
  rw [← HY.out] at hlent
  have HX1 := Aside0.mk hx1
  have HC := Aside0.mk hcr
  have HL := Aside0.mk hlent
  have k2 := hx1.c2
  rw [HM.out]
  clear ho hb hcr hx1 hcutr hlent
  go_wp2_with fail
  refine (HQ2.out _ _ _ HC.out hcw).mono ?_
  rintro e w2 ⟨v2, rfl, ho, hb⟩
  have hx2 := HX1.out.step hb
  have hl2 := Kd.C_below HL.out hb
  have hc2 := Kd.C_below HC.out hb
  obtain ⟨Ab, cb, rfl, hcb, hcbr⟩ := Kd.R_reads ho
  rw [HQ.out] at hcb hcbr
  have d0 := hx2.c0
  have d1 := hx2.c1
  have d2 := hx2.c2
  have HX2 := Aside0.mk hx2
  have HC2 := Aside0.mk hc2
  have HL2 := Aside0.mk hl2
  have HB2 := Aside0.mk hcbr
  rw [HQ.out]
  clear ho hb hcbr hx2 hl2 hc2 k2 HX1 HC HL
  go_wp2_with fail
  refine (HQ7.out _ HX2.out.bel).mono ?_
  rintro e w3 ⟨rfl, hb⟩
  have HX3 := Aside0.mk (HX2.out.step hb)
  have HC3 := Aside0.mk (Kd.C_below HC2.out hb)
  have HB3 := Aside0.mk (Kd.C_below HB2.out hb)
  clear hb HX2 HC2 HL2 HB2
  go_wp2_with fail
  refine (HQ3.out _ _ _ _ _ ?t1 hcw ?t2 hcb).mono ?_
  case t1 => repeat (first | exact HC3.out | (with_reducible refine Kd.C_drewN ?_ _) | (with_reducible refine Kd.C_drew ?_))
  case t2 => repeat (first | exact HB3.out | (with_reducible refine Kd.C_drewN ?_ _) | (with_reducible refine Kd.C_drew ?_))
  rintro e w4 ⟨rfl, hd⟩
  have HX4 := Aside0.mk (below_step (HX3.out.bel) hd.below)
  clear hd
  go_wp2
  go_ret
  exact ⟨rfl, HX4.out⟩
set_option maxHeartbeats 4000000 in
theorem plays_5a (k : Nat) (a1 : Int) (A0 : Option Addr) (c0 : Nat) (l0 : List Int) (A1 : Option Addr) (c1 : Nat) (l1 : List Int) (w : World)
    (hr0 : Kd.C (Kd.int .u8) w A0 l0.length l0) (hc0 : l0.length ≤ c0) (hr1 : Kd.C kTab w A1 l1.length l1) (hc1 : l1.length ≤ c1) (wh bf : List Int)
    (e1 : eddylaw1_roomy.f k l0 = some wh) (e2 : eddylaw1_joined.f wh [] = some bf) (e3 : eddylaw1_same.f k wh bf = some true) (e4 : l0.length ≤ wh.length)
    (e5 : eddylaw1_FrameExacts.f k (wh.take l0.length) l1 = some true) (hb : l0.length ≠ 0) :
    Calls Tryd.prog 36 #[.agg #[.int .i64 5, .int .u32 a1, .slice A0 l0.length c0]] w fun e w' => e = .returned (.bool true) ∧ Below w.heap.size w w' := by
  have hq1 := fun (W : World) (hW : Below w.heap.size w W) => eddylaw1_roomy.calls k A0 c0 l0 wh W (Kd.C_below hr0 hW) hc0 e1
  have hq2 := fun (W : World) A c (h1 : Kd.C (Kd.int .u8) W A wh.length wh) (h2 : wh.length ≤ c) => eddylaw1_joined.calls A c wh none 0 [] bf W h1 h2 ⟨rfl, by decide, fun h => absurd h (by decide)⟩ (Nat.le_refl _) e2
  have hq3 := fun (W : World) A c A' c' (h1 : Kd.C (Kd.int .u8) W A wh.length wh) (h2 : wh.length ≤ c) (h3 : Kd.C (Kd.int .u8) W A' bf.length bf) (h4 : bf.length ≤ c') => eddylaw1_same.calls k A c wh A' c' bf true W h1 h2 h3 h4 e3
  have hlen : (wh.take l0.length).length = l0.length := by simp; omega
  have hq5 := fun (W : World) (hW : Below w.heap.size w W) A c (h1 : Kd.C (Kd.int .u8) W A l0.length (wh.take l0.length)) (h2 : l0.length ≤ c) => eddylaw1_FrameExacts.calls k A c (wh.take l0.length) A1 c1 l1 true W (by rw [hlen]; exact h1) (by rw [hlen]; exact h2) (Kd.C_below hr1 hW) hc1 e5
  rw [hlen] at hq5
  obtain ⟨n, hn⟩ : ∃ n, l0.length = n := ⟨_, rfl⟩
  obtain ⟨m, hm⟩ : ∃ m, wh.length = m := ⟨_, rfl⟩
  obtain ⟨q, hq⟩ : ∃ q, bf.length = q := ⟨_, rfl⟩
  obtain ⟨y, hy⟩ : ∃ y, y = wh.take l0.length := ⟨_, rfl⟩
  rw [← hy] at hq5 hlen
  rw [hn] at hq1 hq5 hc0 hb e4 hy hlen ⊢
  rw [hm] at hq2 hq3 e4
  rw [hq] at hq3
  have b1 : ((n : Int) == 0) = false := by simpa using hb
  have HQ1 := Aside0.mk hq1
  have HQ2 := Aside0.mk hq2
  have HQ3 := Aside0.mk hq3
  have HQ5 := Aside0.mk hq5
  have HY := Aside0.mk hy
  have HM := Aside0.mk hm
  have HQ := Aside0.mk hq
  have HX := Aside0.mk (Boxed.first w 5 a1 (.slice A0 n c0))
  clear hq1 hq2 hq3 hq5 hy e1 e2 e3 e5 hr0 hr1 hn hm hq hlen hb hc1
  go_enter Tryd.func36, Tryd.ntmps36
  go_wp2_with fail
  refine (HQ1.out _ HX.out.bel).mono ?_
  rintro e w1 ⟨v1, rfl, ho, hb⟩
  have hx1 := HX.out.step hb
  obtain ⟨Aw, cw, rfl, hcw, hcr⟩ := Kd.R_reads ho
  rw [HM.out] at hcw hcr
  obtain ⟨A', hcut, hcutr⟩ := cut_hm Aw m cw n e4 hcw
  have hlent := hcutr w1 wh hcr
  rw [← HY.out] at hlent
  have HX1 := Aside0.mk hx1
  have HC := Aside0.mk hcr
  have HL := Aside0.mk hlent
  have k2 := hx1.c2
  rw [HM.out]
  clear ho hb hcr hx1 hcutr hlent
  go_wp2_with fail
  refine (HQ2.out _ _ _ HC.out hcw).mono ?_
  rintro e w2 ⟨v2, rfl, ho, hb⟩
  have hx2 := HX1.out.step hb
  have hl2 := Kd.C_below HL.out hb
  have hc2 := Kd.C_below HC.out hb
  obtain ⟨Ab, cb, rfl, hcb, hcbr⟩ := Kd.R_reads ho
  rw [HQ.out] at hcb hcbr
  have d0 := hx2.c0
  have d1 := hx2.c1
  have d2 := hx2.c2
  have HX2 := Aside0.mk hx2
  have HC2 := Aside0.mk hc2
  have HL2 := Aside0.mk hl2
  have HB2 := Aside0.mk hcbr
  rw [HQ.out]
  clear ho hb hcbr hx2 hl2 hc2 k2 HX1 HC HL
  go_wp2_with fail
  refine (HQ5.out _ HX2.out.bel A' m HL2.out e4).mono ?_
  rintro e w3 ⟨rfl, hb⟩
  have HX3 := Aside0.mk (HX2.out.step hb)
  have HC3 := Aside0.mk (Kd.C_below HC2.out hb)
  have HB3 := Aside0.mk (Kd.C_below HB2.out hb)
  clear hb HX2 HC2 HL2 HB2
  go_wp2_with fail
  refine (HQ3.out _ _ _ _ _ ?t1 hcw ?t2 hcb).mono ?_
  case t1 => repeat (first | exact HC3.out | (with_reducible refine Kd.C_drewN ?_ _) | (with_reducible refine Kd.C_drew ?_))
  case t2 => repeat (first | exact HB3.out | (with_reducible refine Kd.C_drewN ?_ _) | (with_reducible refine Kd.C_drew ?_))
  rintro e w4 ⟨rfl, hd⟩
  have HX4 := Aside0.mk (below_step (HX3.out.bel) hd.below)
  clear hd
  go_wp2
  go_ret
  exact ⟨rfl, HX4.out⟩
set_option maxHeartbeats 4000000 in
theorem plays_5b (k : Nat) (a1 : Int) (A0 : Option Addr) (c0 : Nat) (l0 : List Int) (A1 : Option Addr) (c1 : Nat) (l1 : List Int) (w : World)
    (hr0 : Kd.C (Kd.int .u8) w A0 l0.length l0) (hc0 : l0.length ≤ c0) (hr1 : Kd.C kTab w A1 l1.length l1) (hc1 : l1.length ≤ c1) (wh bf : List Int)
    (e1 : eddylaw1_roomy.f k l0 = some wh) (e2 : eddylaw1_joined.f wh [] = some bf) (e3 : eddylaw1_same.f k wh bf = some true) (e4 : l0.length ≤ wh.length)
    (e5 : eddylaw1_FrameExacts.f k (wh.take l0.length) l1 = some true) (hb : l0.length = 0) (ht : Int.tmod a1 2 ≠ 0) :
    Calls Tryd.prog 36 #[.agg #[.int .i64 5, .int .u32 a1, .slice A0 l0.length c0]] w fun e w' => e = .returned (.bool true) ∧ Below w.heap.size w w' := by
  have hq1 := fun (W : World) (hW : Below w.heap.size w W) => eddylaw1_roomy.calls k A0 c0 l0 wh W (Kd.C_below hr0 hW) hc0 e1
  have hq2 := fun (W : World) A c (h1 : Kd.C (Kd.int .u8) W A wh.length wh) (h2 : wh.length ≤ c) => eddylaw1_joined.calls A c wh none 0 [] bf W h1 h2 ⟨rfl, by decide, fun h => absurd h (by decide)⟩ (Nat.le_refl _) e2
  have hq3 := fun (W : World) A c A' c' (h1 : Kd.C (Kd.int .u8) W A wh.length wh) (h2 : wh.length ≤ c) (h3 : Kd.C (Kd.int .u8) W A' bf.length bf) (h4 : bf.length ≤ c') => eddylaw1_same.calls k A c wh A' c' bf true W h1 h2 h3 h4 e3
  have hlen : (wh.take l0.length).length = l0.length := by simp; omega
  have hq5 := fun (W : World) (hW : Below w.heap.size w W) A c (h1 : Kd.C (Kd.int .u8) W A l0.length (wh.take l0.length)) (h2 : l0.length ≤ c) => eddylaw1_FrameExacts.calls k A c (wh.take l0.length) A1 c1 l1 true W (by rw [hlen]; exact h1) (by rw [hlen]; exact h2) (Kd.C_below hr1 hW) hc1 e5
  rw [hlen] at hq5
  obtain ⟨n, hn⟩ : ∃ n, l0.length = n := ⟨_, rfl⟩
  obtain ⟨m, hm⟩ : ∃ m, wh.length = m := ⟨_, rfl⟩
  obtain ⟨q, hq⟩ : ∃ q, bf.length = q := ⟨_, rfl⟩
  obtain ⟨y, hy⟩ : ∃ y, y = wh.take l0.length := ⟨_, rfl⟩
  rw [← hy] at hq5 hlen
  rw [hn] at hq1 hq5 hc0 hb e4 hy hlen ⊢
  rw [hm] at hq2 hq3 e4
  rw [hq] at hq3
  have b1 : ((n : Int) == 0) = true := by simpa using hb
  have b2 : (Int.tmod a1 2 == 0) = false := by simpa using ht
  have HQ1 := Aside0.mk hq1
  have HQ2 := Aside0.mk hq2
  have HQ3 := Aside0.mk hq3
  have HQ5 := Aside0.mk hq5
  have HY := Aside0.mk hy
  have HM := Aside0.mk hm
  have HQ := Aside0.mk hq
  have HX := Aside0.mk (Boxed.first w 5 a1 (.slice A0 n c0))
  clear hq1 hq2 hq3 hq5 hy e1 e2 e3 e5 hr0 hr1 hn hm hq hlen hb hc1 ht
  go_enter Tryd.func36, Tryd.ntmps36
  go_wp2_with fail
  refine (HQ1.out _ HX.out.bel).mono ?_
  rintro e w1 ⟨v1, rfl, ho, hb⟩
  have hx1 := HX.out.step hb
  obtain ⟨Aw, cw, rfl, hcw, hcr⟩ := Kd.R_reads ho
  rw [HM.out] at hcw hcr
  obtain ⟨A', hcut, hcutr⟩ := cut_hm Aw m cw n e4 hcw
  have hlent := hcutr w1 wh hcr
  rw [← HY.out] at hlent
  have HX1 := Aside0.mk hx1
  have HC := Aside0.mk hcr
  have HL := Aside0.mk hlent
  have k2 := hx1.c2
  rw [HM.out]
  clear ho hb hcr hx1 hcutr hlent
  go_wp2_with fail
  refine (HQ2.out _ _ _ HC.out hcw).mono ?_
  rintro e w2 ⟨v2, rfl, ho, hb⟩
  have hx2 := HX1.out.step hb
  have hl2 := Kd.C_below HL.out hb
  have hc2 := Kd.C_below HC.out hb
  obtain ⟨Ab, cb, rfl, hcb, hcbr⟩ := Kd.R_reads ho
  rw [HQ.out] at hcb hcbr
  have d0 := hx2.c0
  have d1 := hx2.c1
  have d2 := hx2.c2
  have HX2 := Aside0.mk hx2
  have HC2 := Aside0.mk hc2
  have HL2 := Aside0.mk hl2
  have HB2 := Aside0.mk hcbr
  rw [HQ.out]
  clear ho hb hcbr hx2 hl2 hc2 k2 HX1 HC HL
  go_wp2_with fail
  refine (HQ5.out _ HX2.out.bel A' m HL2.out e4).mono ?_
  rintro e w3 ⟨rfl, hb⟩
  have HX3 := Aside0.mk (HX2.out.step hb)
  have HC3 := Aside0.mk (Kd.C_below HC2.out hb)
  have HB3 := Aside0.mk (Kd.C_below HB2.out hb)
  clear hb HX2 HC2 HL2 HB2
  go_wp2_with fail
  refine (HQ3.out _ _ _ _ _ ?t1 hcw ?t2 hcb).mono ?_
  case t1 => repeat (first | exact HC3.out | (with_reducible refine Kd.C_drewN ?_ _) | (with_reducible refine Kd.C_drew ?_))
  case t2 => repeat (first | exact HB3.out | (with_reducible refine Kd.C_drewN ?_ _) | (with_reducible refine Kd.C_drew ?_))
  rintro e w4 ⟨rfl, hd⟩
  have HX4 := Aside0.mk (below_step (HX3.out.bel) hd.below)
  clear hd
  go_wp2
  go_ret
  exact ⟨rfl, HX4.out⟩
set_option maxHeartbeats 4000000 in
theorem plays_5c (k : Nat) (a1 : Int) (A0 : Option Addr) (c0 : Nat) (l0 : List Int) (A1 : Option Addr) (c1 : Nat) (l1 : List Int) (w : World)
    (hr0 : Kd.C (Kd.int .u8) w A0 l0.length l0) (hc0 : l0.length ≤ c0) (hr1 : Kd.C kTab w A1 l1.length l1) (hc1 : l1.length ≤ c1) (wh bf : List Int)
    (e1 : eddylaw1_roomy.f k l0 = some wh) (e2 : eddylaw1_joined.f wh [] = some bf) (e3 : eddylaw1_same.f k wh bf = some true) (e4 : l0.length ≤ wh.length)
    (e5 : eddylaw1_FrameExacts.f k (wh.take l0.length) l1 = some true) (hb : l0.length = 0) (ht : Int.tmod a1 2 = 0) :
    Calls Tryd.prog 36 #[.agg #[.int .i64 5, .int .u32 a1, .slice A0 l0.length c0]] w fun e w' => e = .returned (.bool true) ∧ Below w.heap.size w w' := by
  have hq1 := fun (W : World) (hW : Below w.heap.size w W) => eddylaw1_roomy.calls k A0 c0 l0 wh W (Kd.C_below hr0 hW) hc0 e1
  have hq2 := fun (W : World) A c (h1 : Kd.C (Kd.int .u8) W A wh.length wh) (h2 : wh.length ≤ c) => eddylaw1_joined.calls A c wh none 0 [] bf W h1 h2 ⟨rfl, by decide, fun h => absurd h (by decide)⟩ (Nat.le_refl _) e2
  have hq3 := fun (W : World) A c A' c' (h1 : Kd.C (Kd.int .u8) W A wh.length wh) (h2 : wh.length ≤ c) (h3 : Kd.C (Kd.int .u8) W A' bf.length bf) (h4 : bf.length ≤ c') => eddylaw1_same.calls k A c wh A' c' bf true W h1 h2 h3 h4 e3
  have hlen : (wh.take l0.length).length = l0.length := by simp; omega
  have hq5 := fun (W : World) (hW : Below w.heap.size w W) A c (h1 : Kd.C (Kd.int .u8) W A l0.length (wh.take l0.length)) (h2 : l0.length ≤ c) => eddylaw1_FrameExacts.calls k A c (wh.take l0.length) A1 c1 l1 true W (by rw [hlen]; exact h1) (by rw [hlen]; exact h2) (Kd.C_below hr1 hW) hc1 e5
  rw [hlen] at hq5
  obtain ⟨n, hn⟩ : ∃ n, l0.length = n := ⟨_, rfl⟩
  obtain ⟨m, hm⟩ : ∃ m, wh.length = m := ⟨_, rfl⟩
  obtain ⟨q, hq⟩ : ∃ q, bf.length = q := ⟨_, rfl⟩
  obtain ⟨y, hy⟩ : ∃ y, y = wh.take l0.length := ⟨_, rfl⟩
  rw [← hy] at hq5 hlen
  rw [hn] at hq1 hq5 hc0 hb e4 hy hlen ⊢
  rw [hm] at hq2 hq3 e4
  rw [hq] at hq3
  have b1 : ((n : Int) == 0) = true := by simpa using hb
  have b2 : (Int.tmod a1 2 == 0) = true := by simpa using ht
  have hy0 : y = [] := List.eq_nil_of_length_eq_zero (by omega)
  have hq7 := fun (W : World) (hW : Below w.heap.size w W) => hq5 W hW none 0 (by rw [hb, hy0]; exact ⟨rfl, by decide, fun h => absurd h (by decide)⟩) (by omega)
  simp only [hb] at hq7
  have HQ7 := Aside0.mk hq7
  clear hq7 hy0
  have HQ1 := Aside0.mk hq1
  have HQ2 := Aside0.mk hq2
  have HQ3 := Aside0.mk hq3
  have HQ5 := Aside0.mk hq5
  have HY := Aside0.mk hy
  have HM := Aside0.mk hm
  have HQ := Aside0.mk hq
  have HX := Aside0.mk (Boxed.first w 5 a1 (.slice A0 n c0))
  clear hq1 hq2 hq3 hq5 hy e1 e2 e3 e5 hr0 hr1 hn hm hq hlen hb hc1 ht
  go_enter Tryd.func36, Tryd.ntmps36
  go_wp2_with fail
  refine (HQ1.out _ HX.out.bel).mono ?_
  rintro e w1 ⟨v1, rfl, ho, hb⟩
  have hx1 := HX.out.step hb
  obtain ⟨Aw, cw, rfl, hcw, hcr⟩ := Kd.R_reads ho
  rw [HM.out] at hcw hcr
  obtain ⟨A', hcut, hcutr⟩ := cut_hm Aw m cw n e4 hcw
  have hlent := hcutr w1 wh hcr
  rw [← HY.out] at hlent
  have HX1 := Aside0.mk hx1
  have HC := Aside0.mk hcr
  have HL := Aside0.mk hlent
  have k2 := hx1.c2
  rw [HM.out]
  clear ho hb hcr hx1 hcutr hlent
  go_wp2_with fail
  refine (HQ2.out _ _ _ HC.out hcw).mono ?_
  rintro e w2 ⟨v2, rfl, ho, hb⟩
  have hx2 := HX1.out.step hb
  have hl2 := Kd.C_below HL.out hb
  have hc2 := Kd.C_below HC.out hb
  obtain ⟨Ab, cb, rfl, hcb, hcbr⟩ := Kd.R_reads ho
  rw [HQ.out] at hcb hcbr
  have d0 := hx2.c0
  have d1 := hx2.c1
  have d2 := hx2.c2
  have HX2 := Aside0.mk hx2
  have HC2 := Aside0.mk hc2
  have HL2 := Aside0.mk hl2
  have HB2 := Aside0.mk hcbr
  rw [HQ.out]
  clear ho hb hcbr hx2 hl2 hc2 k2 HX1 HC HL
  go_wp2_with fail
  refine (HQ7.out _ HX2.out.bel).mono ?_
  rintro e w3 ⟨rfl, hb⟩
  have HX3 := Aside0.mk (HX2.out.step hb)
  have HC3 := Aside0.mk (Kd.C_below HC2.out hb)
  have HB3 := Aside0.mk (Kd.C_below HB2.out hb)
  clear hb HX2 HC2 HL2 HB2
  go_wp2_with fail
  refine (HQ3.out _ _ _ _ _ ?t1 hcw ?t2 hcb).mono ?_
  case t1 => repeat (first | exact HC3.out | (with_reducible refine Kd.C_drewN ?_ _) | (with_reducible refine Kd.C_drew ?_))
  case t2 => repeat (first | exact HB3.out | (with_reducible refine Kd.C_drewN ?_ _) | (with_reducible refine Kd.C_drew ?_))
  rintro e w4 ⟨rfl, hd⟩
  have HX4 := Aside0.mk (below_step (HX3.out.bel) hd.below)
  clear hd
  go_wp2
  go_ret
  exact ⟨rfl, HX4.out⟩
set_option maxHeartbeats 4000000 in
theorem plays_6a (k : Nat) (a1 : Int) (A0 : Option Addr) (c0 : Nat) (l0 : List Int) (A1 : Option Addr) (c1 : Nat) (l1 : List Int) (w : World)
    (hr0 : Kd.C (Kd.int .u8) w A0 l0.length l0) (hc0 : l0.length ≤ c0) (hr1 : Kd.C kTab w A1 l1.length l1) (hc1 : l1.length ≤ c1) (wh bf : List Int)
    (e1 : eddylaw1_roomy.f k l0 = some wh) (e2 : eddylaw1_joined.f wh [] = some bf) (e3 : eddylaw1_same.f k wh bf = some true) (e4 : l0.length ≤ wh.length)
    (e5 : eddylaw1_FrameScans.f k (wh.take l0.length) l1 = some true) (hb : l0.length ≠ 0) :
    Calls Tryd.prog 36 #[.agg #[.int .i64 6, .int .u32 a1, .slice A0 l0.length c0]] w fun e w' => e = .returned (.bool true) ∧ Below w.heap.size w w' := by
  have hq1 := fun (W : World) (hW : Below w.heap.size w W) => eddylaw1_roomy.calls k A0 c0 l0 wh W (Kd.C_below hr0 hW) hc0 e1
  have hq2 := fun (W : World) A c (h1 : Kd.C (Kd.int .u8) W A wh.length wh) (h2 : wh.length ≤ c) => eddylaw1_joined.calls A c wh none 0 [] bf W h1 h2 ⟨rfl, by decide, fun h => absurd h (by decide)⟩ (Nat.le_refl _) e2
  have hq3 := fun (W : World) A c A' c' (h1 : Kd.C (Kd.int .u8) W A wh.length wh) (h2 : wh.length ≤ c) (h3 : Kd.C (Kd.int .u8) W A' bf.length bf) (h4 : bf.length ≤ c') => eddylaw1_same.calls k A c wh A' c' bf true W h1 h2 h3 h4 e3
  have hlen : (wh.take l0.length).length = l0.length := by simp; omega
  have hq5 := fun (W : World) (hW : Below w.heap.size w W) A c (h1 : Kd.C (Kd.int .u8) W A l0.length (wh.take l0.length)) (h2 : l0.length ≤ c) => eddylaw1_FrameScans.calls k A c (wh.take l0.length) A1 c1 l1 true W (by rw [hlen]; exact h1) (by rw [hlen]; exact h2) (Kd.C_below hr1 hW) hc1 e5
  rw [hlen] at hq5
  obtain ⟨n, hn⟩ : ∃ n, l0.length = n := ⟨_, rfl⟩
  obtain ⟨m, hm⟩ : ∃ m, wh.length = m := ⟨_, rfl⟩
  obtain ⟨q, hq⟩ : ∃ q, bf.length = q := ⟨_, rfl⟩
  obtain ⟨y, hy⟩ : ∃ y, y = wh.take l0.length := ⟨_, rfl⟩
  rw [← hy] at hq5 hlen
  rw [hn] at hq1 hq5 hc0 hb e4 hy hlen ⊢
  rw [hm] at hq2 hq3 e4
  rw [hq] at hq3
  have b1 : ((n : Int) == 0) = false := by simpa using hb
  have HQ1 := Aside0.mk hq1
  have HQ2 := Aside0.mk hq2
  have HQ3 := Aside0.mk hq3
  have HQ5 := Aside0.mk hq5
  have HY := Aside0.mk hy
  have HM := Aside0.mk hm
  have HQ := Aside0.mk hq
  have HX := Aside0.mk (Boxed.first w 6 a1 (.slice A0 n c0))
  clear hq1 hq2 hq3 hq5 hy e1 e2 e3 e5 hr0 hr1 hn hm hq hlen hb hc1
  go_enter Tryd.func36, Tryd.ntmps36
  go_wp2_with fail
  refine (HQ1.out _ HX.out.bel).mono ?_
  rintro e w1 ⟨v1, rfl, ho, hb⟩
  have hx1 := HX.out.step hb
  obtain ⟨Aw, cw, rfl, hcw, hcr⟩ := Kd.R_reads ho
  rw [HM.out] at hcw hcr
  obtain ⟨A', hcut, hcutr⟩ := cut_hm Aw m cw n e4 hcw
  have hlent := hcutr w1 wh hcr
  rw [← HY.out] at hlent
  have HX1 := Aside0.mk hx1
  have HC := Aside0.mk hcr
  have HL := Aside0.mk hlent
  have k2 := hx1.c2
  rw [HM.out]
  clear ho hb hcr hx1 hcutr hlent
  go_wp2_with fail
  refine (HQ2.out _ _ _ HC.out hcw).mono ?_
  rintro e w2 ⟨v2, rfl, ho, hb⟩
  have hx2 := HX1.out.step hb
  have hl2 := Kd.C_below HL.out hb
  have hc2 := Kd.C_below HC.out hb
  obtain ⟨Ab, cb, rfl, hcb, hcbr⟩ := Kd.R_reads ho
  rw [HQ.out] at hcb hcbr
  have d0 := hx2.c0
  have d1 := hx2.c1
  have d2 := hx2.c2
  have HX2 := Aside0.mk hx2
  have HC2 := Aside0.mk hc2
  have HL2 := Aside0.mk hl2
  have HB2 := Aside0.mk hcbr
  rw [HQ.out]
  clear ho hb hcbr hx2 hl2 hc2 k2 HX1 HC HL
  go_wp2_with fail
  refine (HQ5.out _ HX2.out.bel A' m HL2.out e4).mono ?_
  rintro e w3 ⟨rfl, hb⟩
  have HX3 := Aside0.mk (HX2.out.step hb)
  have HC3 := Aside0.mk (Kd.C_below HC2.out hb)
  have HB3 := Aside0.mk (Kd.C_below HB2.out hb)
  clear hb HX2 HC2 HL2 HB2
  go_wp2_with fail
  refine (HQ3.out _ _ _ _ _ ?t1 hcw ?t2 hcb).mono ?_
  case t1 => repeat (first | exact HC3.out | (with_reducible refine Kd.C_drewN ?_ _) | (with_reducible refine Kd.C_drew ?_))
  case t2 => repeat (first | exact HB3.out | (with_reducible refine Kd.C_drewN ?_ _) | (with_reducible refine Kd.C_drew ?_))
  rintro e w4 ⟨rfl, hd⟩
  have HX4 := Aside0.mk (below_step (HX3.out.bel) hd.below)
  clear hd
  go_wp2
  go_ret
  exact ⟨rfl, HX4.out⟩
set_option maxHeartbeats 4000000 in
theorem plays_6b (k : Nat) (a1 : Int) (A0 : Option Addr) (c0 : Nat) (l0 : List Int) (A1 : Option Addr) (c1 : Nat) (l1 : List Int) (w : World)
    (hr0 : Kd.C (Kd.int .u8) w A0 l0.length l0) (hc0 : l0.length ≤ c0) (hr1 : Kd.C kTab w A1 l1.length l1) (hc1 : l1.length ≤ c1) (wh bf : List Int)
    (e1 : eddylaw1_roomy.f k l0 = some wh) (e2 : eddylaw1_joined.f wh [] = some bf) (e3 : eddylaw1_same.f k wh bf = some true) (e4 : l0.length ≤ wh.length)
    (e5 : eddylaw1_FrameScans.f k (wh.take l0.length) l1 = some true) (hb : l0.length = 0) (ht : Int.tmod a1 2 ≠ 0) :
    Calls Tryd.prog 36 #[.agg #[.int .i64 6, .int .u32 a1, .slice A0 l0.length c0]] w fun e w' => e = .returned (.bool true) ∧ Below w.heap.size w w' := by
  have hq1 := fun (W : World) (hW : Below w.heap.size w W) => eddylaw1_roomy.calls k A0 c0 l0 wh W (Kd.C_below hr0 hW) hc0 e1
  have hq2 := fun (W : World) A c (h1 : Kd.C (Kd.int .u8) W A wh.length wh) (h2 : wh.length ≤ c) => eddylaw1_joined.calls A c wh none 0 [] bf W h1 h2 ⟨rfl, by decide, fun h => absurd h (by decide)⟩ (Nat.le_refl _) e2
  have hq3 := fun (W : World) A c A' c' (h1 : Kd.C (Kd.int .u8) W A wh.length wh) (h2 : wh.length ≤ c) (h3 : Kd.C (Kd.int .u8) W A' bf.length bf) (h4 : bf.length ≤ c') => eddylaw1_same.calls k A c wh A' c' bf true W h1 h2 h3 h4 e3
  have hlen : (wh.take l0.length).length = l0.length := by simp; omega
  have hq5 := fun (W : World) (hW : Below w.heap.size w W) A c (h1 : Kd.C (Kd.int .u8) W A l0.length (wh.take l0.length)) (h2 : l0.length ≤ c) => eddylaw1_FrameScans.calls k A c (wh.take l0.length) A1 c1 l1 true W (by rw [hlen]; exact h1) (by rw [hlen]; exact h2) (Kd.C_below hr1 hW) hc1 e5
  rw [hlen] at hq5
  obtain ⟨n, hn⟩ : ∃ n, l0.length = n := ⟨_, rfl⟩
  obtain ⟨m, hm⟩ : ∃ m, wh.length = m := ⟨_, rfl⟩
  obtain ⟨q, hq⟩ : ∃ q, bf.length = q := ⟨_, rfl⟩
  obtain ⟨y, hy⟩ : ∃ y, y = wh.take l0.length := ⟨_, rfl⟩
  rw [← hy] at hq5 hlen
  rw [hn] at hq1 hq5 hc0 hb e4 hy hlen ⊢
  rw [hm] at hq2 hq3 e4
  rw [hq] at hq3
  have b1 : ((n : Int) == 0) = true := by simpa using hb
  have b2 : (Int.tmod a1 2 == 0) = false := by simpa using ht
  have HQ1 := Aside0.mk hq1
  have HQ2 := Aside0.mk hq2
  have HQ3 := Aside0.mk hq3
  have HQ5 := Aside0.mk hq5
  have HY := Aside0.mk hy
  have HM := Aside0.mk hm
  have HQ := Aside0.mk hq
  have HX := Aside0.mk (Boxed.first w 6 a1 (.slice A0 n c0))
  clear hq1 hq2 hq3 hq5 hy e1 e2 e3 e5 hr0 hr1 hn hm hq hlen hb hc1 ht
  go_enter Tryd.func36, Tryd.ntmps36
  go_wp2_with fail
  refine (HQ1.out _ HX.out.bel).mono ?_
  rintro e w1 ⟨v1, rfl, ho, hb⟩
  have hx1 := HX.out.step hb
  obtain ⟨Aw, cw, rfl, hcw, hcr⟩ := Kd.R_reads ho
  rw [HM.out] at hcw hcr
  obtain ⟨A', hcut, hcutr⟩ := cut_hm Aw m cw n e4 hcw
  have hlent := hcutr w1 wh hcr
  rw [← HY.out] at hlent
  have HX1 := Aside0.mk hx1
  have HC := Aside0.mk hcr
  have HL := Aside0.mk hlent
  have k2 := hx1.c2
  rw [HM.out]
  clear ho hb hcr hx1 hcutr hlent
  go_wp2_with fail
  refine (HQ2.out _ _ _ HC.out hcw).mono ?_
  rintro e w2 ⟨v2, rfl, ho, hb⟩
  have hx2 := HX1.out.step hb
  have hl2 := Kd.C_below HL.out hb
  have hc2 := Kd.C_below HC.out hb
  obtain ⟨Ab, cb, rfl, hcb, hcbr⟩ := Kd.R_reads ho
  rw [HQ.out] at hcb hcbr
  have d0 := hx2.c0
  have d1 := hx2.c1
  have d2 := hx2.c2
  have HX2 := Aside0.mk hx2
  have HC2 := Aside0.mk hc2
  have HL2 := Aside0.mk hl2
  have HB2 := Aside0.mk hcbr
  rw [HQ.out]
  clear ho hb hcbr hx2 hl2 hc2 k2 HX1 HC HL
  go_wp2_with fail
  refine (HQ5.out _ HX2.out.bel A' m HL2.out e4).mono ?_
  rintro e w3 ⟨rfl, hb⟩
  have HX3 := Aside0.mk (HX2.out.step hb)
  have HC3 := Aside0.mk (Kd.C_below HC2.out hb)
  have HB3 := Aside0.mk (Kd.C_below HB2.out hb)
  clear hb HX2 HC2 HL2 HB2
  go_wp2_with fail
  refine (HQ3.out _ _ _ _ _ ?t1 hcw ?t2 hcb).mono ?_
  case t1 => repeat (first | exact HC3.out | (with_reducible refine Kd.C_drewN ?_ _) | (with_reducible refine Kd.C_drew ?_))
  case t2 => repeat (first | exact HB3.out | (with_reducible refine Kd.C_drewN ?_ _) | (with_reducible refine Kd.C_drew ?_))
  rintro e w4 ⟨rfl, hd⟩
  have HX4 := Aside0.mk (below_step (HX3.out.bel) hd.below)
  clear hd
  go_wp2
  go_ret
  exact ⟨rfl, HX4.out⟩
set_option maxHeartbeats 4000000 in
theorem plays_6c (k : Nat) (a1 : Int) (A0 : Option Addr) (c0 : Nat) (l0 : List Int) (A1 : Option Addr) (c1 : Nat) (l1 : List Int) (w : World)
    (hr0 : Kd.C (Kd.int .u8) w A0 l0.length l0) (hc0 : l0.length ≤ c0) (hr1 : Kd.C kTab w A1 l1.length l1) (hc1 : l1.length ≤ c1) (wh bf : List Int)
    (e1 : eddylaw1_roomy.f k l0 = some wh) (e2 : eddylaw1_joined.f wh [] = some bf) (e3 : eddylaw1_same.f k wh bf = some true) (e4 : l0.length ≤ wh.length)
    (e5 : eddylaw1_FrameScans.f k (wh.take l0.length) l1 = some true) (hb : l0.length = 0) (ht : Int.tmod a1 2 = 0) :
    Calls Tryd.prog 36 #[.agg #[.int .i64 6, .int .u32 a1, .slice A0 l0.length c0]] w fun e w' => e = .returned (.bool true) ∧ Below w.heap.size w w' := by
  have hq1 := fun (W : World) (hW : Below w.heap.size w W) => eddylaw1_roomy.calls k A0 c0 l0 wh W (Kd.C_below hr0 hW) hc0 e1
  have hq2 := fun (W : World) A c (h1 : Kd.C (Kd.int .u8) W A wh.length wh) (h2 : wh.length ≤ c) => eddylaw1_joined.calls A c wh none 0 [] bf W h1 h2 ⟨rfl, by decide, fun h => absurd h (by decide)⟩ (Nat.le_refl _) e2
  have hq3 := fun (W : World) A c A' c' (h1 : Kd.C (Kd.int .u8) W A wh.length wh) (h2 : wh.length ≤ c) (h3 : Kd.C (Kd.int .u8) W A' bf.length bf) (h4 : bf.length ≤ c') => eddylaw1_same.calls k A c wh A' c' bf true W h1 h2 h3 h4 e3
  have hlen : (wh.take l0.length).length = l0.length := by simp; omega
  have hq5 := fun (W : World) (hW : Below w.heap.size w W) A c (h1 : Kd.C (Kd.int .u8) W A l0.length (wh.take l0.length)) (h2 : l0.length ≤ c) => eddylaw1_FrameScans.calls k A c (wh.take l0.length) A1 c1 l1 true W (by rw [hlen]; exact h1) (by rw [hlen]; exact h2) (Kd.C_below hr1 hW) hc1 e5
  rw [hlen] at hq5
  obtain ⟨n, hn⟩ : ∃ n, l0.length = n := ⟨_, rfl⟩
  obtain ⟨m, hm⟩ : ∃ m, wh.length = m := ⟨_, rfl⟩
  obtain ⟨q, hq⟩ : ∃ q, bf.length = q := ⟨_, rfl⟩
  obtain ⟨y, hy⟩ : ∃ y, y = wh.take l0.length := ⟨_, rfl⟩
  rw [← hy] at hq5 hlen
  rw [hn] at hq1 hq5 hc0 hb e4 hy hlen ⊢
  rw [hm] at hq2 hq3 e4
  rw [hq] at hq3
  have b1 : ((n : Int) == 0) = true := by simpa using hb
  have b2 : (Int.tmod a1 2 == 0) = true := by simpa using ht
  have hy0 : y = [] := List.eq_nil_of_length_eq_zero (by omega)
  have hq7 := fun (W : World) (hW : Below w.heap.size w W) => hq5 W hW none 0 (by rw [hb, hy0]; exact ⟨rfl, by decide, fun h => absurd h (by decide)⟩) (by omega)
  simp only [hb] at hq7
  have HQ7 := Aside0.mk hq7
  clear hq7 hy0
  have HQ1 := Aside0.mk hq1
  have HQ2 := Aside0.mk hq2
  have HQ3 := Aside0.mk hq3
  have HQ5 := Aside0.mk hq5
  have HY := Aside0.mk hy
  have HM := Aside0.mk hm
  have HQ := Aside0.mk hq
  have HX := Aside0.mk (Boxed.first w 6 a1 (.slice A0 n c0))
  clear hq1 hq2 hq3 hq5 hy e1 e2 e3 e5 hr0 hr1 hn hm hq hlen hb hc1 ht
  go_enter Tryd.func36, Tryd.ntmps36
  go_wp2_with fail
  refine (HQ1.out _ HX.out.bel).mono ?_
  rintro e w1 ⟨v1, rfl, ho, hb⟩
  have hx1 := HX.out.step hb
  obtain ⟨Aw, cw, rfl, hcw, hcr⟩ := Kd.R_reads ho
  rw [HM.out] at hcw hcr
  obtain ⟨A', hcut, hcutr⟩ := cut_hm Aw m cw n e4 hcw
  have hlent := hcutr w1 wh hcr
  rw [← HY.out] at hlent
  have HX1 := Aside0.mk hx1
  have HC := Aside0.mk hcr
  have HL := Aside0.mk hlent
  have k2 := hx1.c2
  rw [HM.out]
  clear ho hb hcr hx1 hcutr hlent
  go_wp2_with fail
  refine (HQ2.out _ _ _ HC.out hcw).mono ?_
  rintro e w2 ⟨v2, rfl, ho, hb⟩
  have hx2 := HX1.out.step hb
  have hl2 := Kd.C_below HL.out hb
  have hc2 := Kd.C_below HC.out hb
  obtain ⟨Ab, cb, rfl, hcb, hcbr⟩ := Kd.R_reads ho
  rw [HQ.out] at hcb hcbr
  have d0 := hx2.c0
  have d1 := hx2.c1
  have d2 := hx2.c2
  have HX2 := Aside0.mk hx2
  have HC2 := Aside0.mk hc2
  have HL2 := Aside0.mk hl2
  have HB2 := Aside0.mk hcbr
  rw [HQ.out]
  clear ho hb hcbr hx2 hl2 hc2 k2 HX1 HC HL
  go_wp2_with fail
  refine (HQ7.out _ HX2.out.bel).mono ?_
  rintro e w3 ⟨rfl, hb⟩
  have HX3 := Aside0.mk (HX2.out.step hb)
  have HC3 := Aside0.mk (Kd.C_below HC2.out hb)
  have HB3 := Aside0.mk (Kd.C_below HB2.out hb)
  clear hb HX2 HC2 HL2 HB2
  go_wp2_with fail
  refine (HQ3.out _ _ _ _ _ ?t1 hcw ?t2 hcb).mono ?_
  case t1 => repeat (first | exact HC3.out | (with_reducible refine Kd.C_drewN ?_ _) | (with_reducible refine Kd.C_drew ?_))
  case t2 => repeat (first | exact HB3.out | (with_reducible refine Kd.C_drewN ?_ _) | (with_reducible refine Kd.C_drew ?_))
  rintro e w4 ⟨rfl, hd⟩
  have HX4 := Aside0.mk (below_step (HX3.out.bel) hd.below)
  clear hd
  go_wp2
  go_ret
  exact ⟨rfl, HX4.out⟩
theorem eddylaw1_plays.calls (k : Nat) (a0 a1 : Int) (A0 : Option Addr) (c0 : Nat) (l0 : List Int) (A1 : Option Addr) (c1 : Nat) (l1 : List Int) (r : Bool) (w : World)
    (hr0 : Kd.C (Kd.int .u8) w A0 l0.length l0) (hc0 : l0.length ≤ c0) (hr1 : Kd.C kTab w A1 l1.length l1) (hc1 : l1.length ≤ c1) (h : eddylaw1_plays.f k a0 a1 l0 l1 = some r) :
    Calls Tryd.prog 36 #[.agg #[.int .i64 a0, .int .u32 a1, .slice A0 l0.length c0]] w fun e w' => e = .returned (.bool r) ∧ Below w.heap.size w w' := by
  obtain ⟨hp, rfl⟩ := played_of h
  clear h
  obtain ⟨wh, bf, e1, e2, e3, e4, m1, m2, m3, m4, m5, m6⟩ := hp
  by_cases hb : l0.length = 0
  · by_cases ht : Int.tmod a1 2 = 0
    · by_cases g1 : a0 = 1
      · subst g1; obtain ⟨x, e5, e6⟩ := m1 rfl; exact plays_1c k a1 A0 c0 l0 A1 c1 l1 w hr0 hc0 hr1 hc1 wh bf e1 e2 e3 e4 x e5 e6 hb ht
      by_cases g2 : a0 = 2
      · subst g2; obtain ⟨x, e5, e6⟩ := m2 rfl; exact plays_2c k a1 A0 c0 l0 A1 c1 l1 w hr0 hc0 hr1 hc1 wh bf e1 e2 e3 e4 x e5 e6 hb ht
      by_cases g3 : a0 = 3
      · subst g3; exact plays_3c k a1 A0 c0 l0 A1 c1 l1 w hr0 hc0 hr1 hc1 wh bf e1 e2 e3 e4 (m3 rfl) hb ht
      by_cases g4 : a0 = 4
      · subst g4; exact plays_4c k a1 A0 c0 l0 A1 c1 l1 w hr0 hc0 hr1 hc1 wh bf e1 e2 e3 e4 (m4 rfl) hb ht
      by_cases g5 : a0 = 5
      · subst g5; exact plays_5c k a1 A0 c0 l0 A1 c1 l1 w hr0 hc0 hr1 hc1 wh bf e1 e2 e3 e4 (m5 rfl) hb ht
      by_cases g6 : a0 = 6
      · subst g6; exact plays_6c k a1 A0 c0 l0 A1 c1 l1 w hr0 hc0 hr1 hc1 wh bf e1 e2 e3 e4 (m6 rfl) hb ht
      exact plays_oc k a0 a1 A0 c0 l0 A1 c1 l1 w hr0 hc0 hr1 hc1 wh bf e1 e2 e3 e4 (by omega) hb ht
    · by_cases g1 : a0 = 1
      · subst g1; obtain ⟨x, e5, e6⟩ := m1 rfl; exact plays_1b k a1 A0 c0 l0 A1 c1 l1 w hr0 hc0 hr1 hc1 wh bf e1 e2 e3 e4 x e5 e6 hb ht
      by_cases g2 : a0 = 2
      · subst g2; obtain ⟨x, e5, e6⟩ := m2 rfl; exact plays_2b k a1 A0 c0 l0 A1 c1 l1 w hr0 hc0 hr1 hc1 wh bf e1 e2 e3 e4 x e5 e6 hb ht
      by_cases g3 : a0 = 3
      · subst g3; exact plays_3b k a1 A0 c0 l0 A1 c1 l1 w hr0 hc0 hr1 hc1 wh bf e1 e2 e3 e4 (m3 rfl) hb ht
      by_cases g4 : a0 = 4
      · subst g4; exact plays_4b k a1 A0 c0 l0 A1 c1 l1 w hr0 hc0 hr1 hc1 wh bf e1 e2 e3 e4 (m4 rfl) hb ht
      by_cases g5 : a0 = 5
      · subst g5; exact plays_5b k a1 A0 c0 l0 A1 c1 l1 w hr0 hc0 hr1 hc1 wh bf e1 e2 e3 e4 (m5 rfl) hb ht
      by_cases g6 : a0 = 6
      · subst g6; exact plays_6b k a1 A0 c0 l0 A1 c1 l1 w hr0 hc0 hr1 hc1 wh bf e1 e2 e3 e4 (m6 rfl) hb ht
      exact plays_ob k a0 a1 A0 c0 l0 A1 c1 l1 w hr0 hc0 hr1 hc1 wh bf e1 e2 e3 e4 (by omega) hb ht
  · by_cases g1 : a0 = 1
    · subst g1; obtain ⟨x, e5, e6⟩ := m1 rfl; exact plays_1a k a1 A0 c0 l0 A1 c1 l1 w hr0 hc0 hr1 hc1 wh bf e1 e2 e3 e4 x e5 e6 hb
    by_cases g2 : a0 = 2
    · subst g2; obtain ⟨x, e5, e6⟩ := m2 rfl; exact plays_2a k a1 A0 c0 l0 A1 c1 l1 w hr0 hc0 hr1 hc1 wh bf e1 e2 e3 e4 x e5 e6 hb
    by_cases g3 : a0 = 3
    · subst g3; exact plays_3a k a1 A0 c0 l0 A1 c1 l1 w hr0 hc0 hr1 hc1 wh bf e1 e2 e3 e4 (m3 rfl) hb
    by_cases g4 : a0 = 4
    · subst g4; exact plays_4a k a1 A0 c0 l0 A1 c1 l1 w hr0 hc0 hr1 hc1 wh bf e1 e2 e3 e4 (m4 rfl) hb
    by_cases g5 : a0 = 5
    · subst g5; exact plays_5a k a1 A0 c0 l0 A1 c1 l1 w hr0 hc0 hr1 hc1 wh bf e1 e2 e3 e4 (m5 rfl) hb
    by_cases g6 : a0 = 6
    · subst g6; exact plays_6a k a1 A0 c0 l0 A1 c1 l1 w hr0 hc0 hr1 hc1 wh bf e1 e2 e3 e4 (m6 rfl) hb
    exact plays_oa k a0 a1 A0 c0 l0 A1 c1 l1 w hr0 hc0 hr1 hc1 wh bf e1 e2 e3 e4 (by omega) hb
end Go.Proofs.YtgfinjhhkmflfaaDoor.PF
