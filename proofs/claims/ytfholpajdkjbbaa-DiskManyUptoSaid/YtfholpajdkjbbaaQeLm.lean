/- DiskMany: many pairs beside one another; conditions: those in each theorem. -/
import Derived.Test.YtfholpajdkjbbaaQeLh
import Derived.Test.YtfholpajdkjbbaaQeLk
namespace Go.Proofs.Ytfholpajdkjbbaa.DK
open Go.Proofs.Ytfholpajdkjbbaa.PD
open Go.RowKit Go.Proofs.YtfholpajdkjbbaaW.PrintWords Go.Proofs.YtfholpajdkjbbaaW.PrintLast Go.Proofs.YtfholpajdkjbbaaW.PrintMore Go.Proofs.Ytfholpajdkjbbaa.Mo
set_option linter.unusedVariables false
set_option linter.unusedSimpArgs false
def kPt : Kd Nat := Kd.scalar (fun b => Value.pointer (some ⟨b, 0, none⟩)) (fun _ => rfl)
/-- m pairs, apart from one another, and the row of their places. -/
structure Many (w wr : World) (m : Nat) (b : Nat → Nat) (Z : Nat → Nat → Prop) (s : Nat → St) (v : Value) : Prop where
  bel : Below w.heap.size w wr
  pr : ∀ j, j < m → Pair wr (b j) (Z j) (s j) ∧ Ok (s j)
  ge : ∀ j, j < m → ∀ k, Z j k → w.heap.size ≤ k
  di : ∀ i, i < m → ∀ j, j < m → i ≠ j → ∀ k, Z i k → ¬ Z j k
  nb : ∀ i, i < m → ∀ j, j < m → ¬ Z i (b j)
  row : kPt.R 24 wr w.heap.size (fun k => ∀ j, j < m → ¬ Z j k) v ((List.range m).map b)
theorem Many.below {w wr w' : World} {m : Nat} {b : Nat → Nat} {Z : Nat → Nat → Prop} {s : Nat → St} {v : Value} (h : Many w wr m b Z s v) (hb : Below wr.heap.size wr w') : Many w w' m b Z s v :=
  ⟨h.bel.trans (hb.mono h.bel.size), fun j hj => ⟨(h.pr j hj).1.below hb, (h.pr j hj).2⟩, h.ge, h.di, h.nb, Kd.R_below h.row hb⟩
theorem Many.step {w wr w' : World} {m : Nat} {b : Nat → Nat} {Z : Nat → Nat → Prop} {s : Nat → St} {v : Value} (h : Many w wr m b Z s v) {j : Nat} (hj : j < m) {s' : St} (hs : PairStep (b j) (Z j) wr w' s') (ok : Ok s') :
    Many w w' m b (fun i => if i = j then More (Z j) wr w' else Z i) (fun i => if i = j then s' else s i) v := by
  have hu := hs.2
  have hrl : ∀ k, v.ownBlock = some k → k < wr.heap.size := Kd.R_lt h.row
  refine ⟨h.bel.trans (hu.below h.bel.size (h.ge j hj)), fun i hi => ?_, fun i hi k hk => ?_, fun i hi i' hi' hne k hk hk' => ?_, fun i hi i' hi' hk => ?_, ?_⟩
  · by_cases e : i = j
    · subst e
      simp only [if_pos]
      exact ⟨hs.1, ok⟩
    · simp only [if_neg e]
      exact ⟨(h.pr i hi).1.upd hu (fun k hk => h.di i hi j hj e k hk) (h.nb j hj i hi), (h.pr i hi).2⟩
  · by_cases e : i = j
    · simp only [if_pos e] at hk
      exact hk.elim (h.ge j hj k) (fun hk => Nat.le_trans h.bel.size hk.1)
    · simp only [if_neg e] at hk
      exact h.ge i hi k hk
  · by_cases e : i = j <;> by_cases e' : i' = j
    · exact hne (e.trans e'.symm)
    · simp only [if_pos e] at hk
      simp only [if_neg e'] at hk'
      exact hk.elim (fun hk => h.di j hj i' hi' (fun q => e' q.symm) k hk hk') (fun hk => absurd ((h.pr i' hi').1.bd k hk') (Nat.not_lt.2 hk.1))
    · simp only [if_neg e] at hk
      simp only [if_pos e'] at hk'
      exact hk'.elim (fun hk' => h.di i hi j hj e k hk hk') (fun hk' => absurd ((h.pr i hi).1.bd k hk) (Nat.not_lt.2 hk'.1))
    · simp only [if_neg e] at hk
      simp only [if_neg e'] at hk'
      exact h.di i hi i' hi' hne k hk hk'
  · by_cases e : i = j
    · simp only [if_pos e] at hk
      exact hk.elim (h.nb j hj i' hi') (fun hk => absurd (h.pr i' hi').1.lt (Nat.not_lt.2 hk.1))
    · simp only [if_neg e] at hk
      exact h.nb i hi i' hi' hk
  · refine Kd.R_mono (Kd.R_move (Kd.R_tight rfl (Kd.R_mono (Kd.R_bound h.row) (fun k hk => hk))) (fun k hk => hu.same k (hrl k hk.symm) (h.row.1 k hk.symm j hj))) (fun k hk i hi hz => ?_)
    have h1 := h.row.1 k hk.symm
    by_cases e : i = j
    · simp only [if_pos e] at hz
      exact hz.elim (h1 j hj) (fun hz => absurd (hrl k hk.symm) (Nat.not_lt.2 hz.1))
    · simp only [if_neg e] at hz
      exact h1 i hi hz
theorem Many.push {w wr w2 w3 : World} {m : Nat} {b : Nat → Nat} {Z : Nat → Nat → Prop} {s : Nat → St} {v v' : Value} (h : Many w wr m b Z s v) {bn : Nat} {Zn : Nat → Prop} {sn : St} (hb2 : Below wr.heap.size wr w2) (hp : Pair w2 bn Zn sn) (ok : Ok sn) (hzn : ∀ k, Zn k → wr.heap.size ≤ k) (hbn : wr.heap.size ≤ bn)
    (hg : w2.grownBy w3 v.ownBlock) (hrow : kPt.R 24 w3 w.heap.size (fun k => ∀ j, j < m + 1 → ¬ (if j = m then Zn else Z j) k) v' ((List.range m).map b ++ [bn])) :
    Many w w3 (m + 1) (fun j => if j = m then bn else b j) (fun j => if j = m then Zn else Z j) (fun j => if j = m then sn else s j) v' := by
  have hu : Upd (fun k => v.ownBlock = some k) w2 w3 := (Upd.refl _ _).grown hg (fun k hk => .inl hk)
  have hrl : ∀ k, v.ownBlock = some k → k < wr.heap.size := Kd.R_lt h.row
  have hrb : ∀ j, j < m → v.ownBlock ≠ some (b j) := fun j hj e => by
    obtain ⟨c, hc⟩ := Kd.R_typed h.row _ e
    obtain ⟨p1, p2, X1, X2, hbk, _⟩ := (h.pr j hj).1.disks
    exact blk_ne hc hbk (by decide) rfl
  have hw3 : Below w.heap.size w w3 := (h.bel.trans (hb2.mono h.bel.size)).trans (hu.below (Nat.le_trans h.bel.size hb2.size) (fun k hk => Kd.R_base h.row k hk))
  refine ⟨hw3, fun j hj => ?_, fun j hj k hk => ?_, fun i hi j hj hne k hk hk' => ?_, fun i hi j hj hk => ?_, ?_⟩
  · by_cases e : j = m
    · simp only [if_pos e]
      exact ⟨hp.upd hu (fun k hk e => absurd (hrl k e) (Nat.not_lt.2 (hzn k hk))) (fun e => absurd (hrl _ e) (Nat.not_lt.2 hbn)), ok⟩
    · simp only [if_neg e]
      have hjm : j < m := by omega
      exact ⟨((h.pr j hjm).1.below hb2).upd hu (fun k hk e => h.row.1 k e j hjm hk) (hrb j hjm), (h.pr j hjm).2⟩
  · by_cases e : j = m
    · simp only [if_pos e] at hk
      exact Nat.le_trans h.bel.size (hzn k hk)
    · simp only [if_neg e] at hk
      exact h.ge j (by omega) k hk
  · by_cases e : i = m <;> by_cases e' : j = m
    · exact hne (e.trans e'.symm)
    · simp only [if_pos e] at hk
      simp only [if_neg e'] at hk'
      exact absurd ((h.pr j (by omega)).1.bd k hk') (Nat.not_lt.2 (hzn k hk))
    · simp only [if_neg e] at hk
      simp only [if_pos e'] at hk'
      exact absurd ((h.pr i (by omega)).1.bd k hk) (Nat.not_lt.2 (hzn k hk'))
    · simp only [if_neg e] at hk
      simp only [if_neg e'] at hk'
      exact h.di i (by omega) j (by omega) hne k hk hk'
  · by_cases e : i = m <;> by_cases e' : j = m
    · simp only [if_pos e, if_pos e'] at hk
      exact hp.nb hk
    · simp only [if_pos e, if_neg e'] at hk
      exact absurd (h.pr j (by omega)).1.lt (Nat.not_lt.2 (hzn _ hk))
    · simp only [if_neg e, if_pos e'] at hk
      exact absurd ((h.pr i (by omega)).1.bd _ hk) (Nat.not_lt.2 hbn)
    · simp only [if_neg e, if_neg e'] at hk
      exact h.nb i (by omega) j (by omega) hk
  · rw [List.range_succ, List.map_append, List.map_cons, List.map_nil]
    simp only [if_pos]
    rw [List.map_congr_left (g := b) (fun j hj => by rw [if_neg (by have := List.mem_range.1 hj; omega)])]
    exact hrow
def nmOwn : ByteArray := ⟨#[111, 119, 110]⟩
def stOwn (x : Int) : St := ⟨[⟨nmOwn, [x], [7]⟩], false, -1, 0, 0⟩
theorem own_name : isName nmOwn = true := by kernel_rfl
theorem new_own (x : Int) : St.new ([(⟨nmOwn, [x, 7], 1⟩ : S67)].map of67) = some (stOwn x) := by
  show (if 400 < 1 then none else (newGo [(nmOwn, [x, 7], (1 : Int))] []).map _) = _
  rw [if_neg (by decide)]
  have hf : fits (nmOwn, [x, 7], (1 : Int)) [] = true := by
    unfold fits
    rw [own_name]
    rfl
  unfold newGo
  rw [if_pos hf]
  rfl
theorem file_lit {w : World} {g1 g2 : Nat} {x : Int} (h1 : w.heap[g1]? = some (.cells #[.int .u8 x, .int .u8 7] 5 (0, 0))) (h2 : w.heap[g2]? = some (.cells #[.string nmOwn, .slice (some ⟨g1, 0, none⟩) 2 2, .int .i64 1] 67 (0, 0))) :
    k67.C w (some ⟨g2, 0, none⟩) [(⟨nmOwn, [x, 7], 1⟩ : S67)].length [⟨nmOwn, [x, 7], 1⟩] := by
  have hc : (Kd.int .u8).C w (some ⟨g1, 0, none⟩) [x, 7].length [x, 7] := lit_C (l := [x, 7]) h1 (show (2 : Nat) ≤ 1000 by decide)
  refine ⟨rfl, (show (1 : Nat) ≤ maxLen by decide), fun _ => ⟨_, rfl, fun i p hi => ?_⟩⟩
  match i, hi with
  | 0, hi =>
    obtain rfl := Option.some.inj hi
    refine ⟨_, rfl, k67_mk w _ (c1 := 2) (Nat.le_refl _) hc, fun q u hu => ?_⟩
    have c := blk_cell h2
    match q, hu with
    | 0, hu => obtain rfl := Option.some.inj hu; exact c 0
    | 1, hu => obtain rfl := Option.some.inj hu; exact c 1
    | 2, hu => obtain rfl := Option.some.inj hu; exact c 2
theorem Many.at {w wr : World} {m : Nat} {b : Nat → Nat} {Z : Nat → Nat → Prop} {s : Nat → St} {ad : Addr} {c : Nat} (h : Many w wr m b Z s (.slice (some ad) m c)) {j : Nat} (hj : j < m) : wr.cell? (ad.add j) = some (.pointer (some ⟨b j, 0, none⟩)) := by
  have hC := (Kd.R_reads' h.row).2.2
  rw [List.length_map, List.length_range] at hC
  obtain ⟨ad', e, hc⟩ := (Kd.reads_of_C (d := (0 : Nat)) (h1 := fun _ => rfl) (hC : (Kd.scalar (fun b => Value.pointer (some ⟨b, 0, none⟩)) (fun _ => rfl)).C wr (some ad) m ((List.range m).map b))).at_ (j : Int) (by omega) (by omega)
  obtain rfl := Option.some.inj e
  rw [Int.toNat_natCast] at hc
  rw [hc]
  unfold rdOf
  rw [Int.toNat_natCast, List.getD_eq_getElem?_getD, List.getElem?_map, List.getElem?_range hj]
  rfl
theorem Many.ad {w wr : World} {m : Nat} {b : Nat → Nat} {Z : Nat → Nat → Prop} {s : Nat → St} {v : Value} (h : Many w wr m b Z s v) (hm : 0 < m) : ∃ ad c, v = .slice (some ad) m c := by
  obtain ⟨A, c, e, _, hC⟩ := Kd.R_reads h.row
  rw [List.length_map, List.length_range] at e hC
  obtain ⟨ad, e2, _⟩ := hC.2.2 hm
  subst e2
  exact ⟨ad, c, e⟩
theorem Many.ad_lt {w wr : World} {m : Nat} {b : Nat → Nat} {Z : Nat → Nat → Prop} {s : Nat → St} {ad : Addr} {c : Nat} (h : Many w wr m b Z s (.slice (some ad) m c)) : ∀ j, j < m → ¬ Z j ad.block := fun j hj => by
  refine h.row.1 ad.block ?_ j hj
  obtain ⟨g, cap, e, _⟩ := Kd.R_form h.row (by rw [List.length_map, List.length_range]; omega)
  injection e with e
  obtain rfl := Option.some.inj e
  rfl
theorem add_block (a : Addr) (i : Nat) : (a.add i).block = a.block := by
  unfold Addr.add
  split <;> rfl
theorem Upd.cell_ {X : Nat → Prop} {w w' : World} (hu : Upd X w w') {a : Addr} {v : Value} (h : w.cell? a = some v) (hx : ¬ X a.block) : w'.cell? a = some v :=
  (World.cell?_of_block (w := w) (hu.same a.block (World.block_lt_of_cell? w a h) hx)).trans h
/-- A list of bytes of one's own stays, whatever X writes. -/
theorem lit_keep {w : World} {base B : Nat} {A : Option Addr} {n c : Nat} {l : List Int} {X : Nat → Prop} (h : (Kd.int .u8).R 5 w base (fun _ => True) (.slice A n c) l) (hX : ∀ k, X k → k < B) (hB : B ≤ base) : Stays X w A l := fun w' hu =>
  (Kd.R_reads' (Kd.R_move (Kd.R_tight rfl h) (fun k hk => hu.same k (Kd.R_lt h k hk.symm) (fun hx => by
    have h4 := ((Kd.R_bound h).1 k hk.symm).2.1
    have h5 := hX k hx
    omega)))).2.2
theorem lit_move {w w' : World} {base B : Nat} {v : Value} {l : List Int} {X : Nat → Prop} (h : (Kd.int .u8).R 5 w base (fun _ => True) v l) (hu : Upd X w w') (hX : ∀ k, X k → k < B) (hB : B ≤ base) : (Kd.int .u8).R 5 w' base (fun _ => True) v l :=
  Kd.R_mono (Kd.R_move (Kd.R_tight rfl h) (fun k hk => hu.same k (Kd.R_lt h k hk.symm) (fun hx => by
    have h4 := ((Kd.R_bound h).1 k hk.symm).2.1
    have h5 := hX k hx
    omega))) (fun _ _ => trivial)
/-- Append told to both, one after the other. -/
theorem pair_two {w wa wb wc wd we : World} {bl : Nat} {Z X1 X2 : Nat → Prop} {p1 p2 : Nat} {s s' : St} (h : Pair w bl Z s) (hb : w.heap[bl]? = some (.cells #[.pointer (some ⟨p1, 0, none⟩), .pointer (some ⟨p2, 0, none⟩)] 28 (0, 0))) (ha : ∀ k, X1 k → ¬ X2 k) (hz : ∀ k, X1 k ∨ X2 k → Z k)
    (hA : Below w.heap.size w wa) (h1 : PStep p1 X1 wa wb s') (hB : Below wb.heap.size wb wc) (h2 : RStep p2 X2 wc wd s') (hD : Below wd.heap.size wd we) : PairStep bl Z w we s' := by
  have hx1 : ∀ k, X1 k → k < w.heap.size := fun k hk => h.bd k (hz k (.inl hk))
  have hx2 : ∀ k, X2 k → k < w.heap.size := fun k hk => h.bd k (hz k (.inr hk))
  have s1 := hA.size; have s2 := h1.2.size; have s3 := hB.size; have s4 := h2.2.size; have s5 := hD.size
  have hU : Upd Z w we := ((((Upd.of_below hA Z).seq (h1.2.mono (fun k _ hk => .inl (hz k (.inl hk))))).seq (Upd.of_below hB _)).seq (h2.2.mono (fun k _ hk => .inl (hz k (.inr hk))))).seq (Upd.of_below hD _)
  have hP : Prog we p1 (More X1 wa wb) s' := ((h1.1.below hB).upd h2.2 (fun k hk hk2 => hk.elim (fun hk => ha k hk hk2) (fun hk => by have := hx2 k hk2; omega))).below hD
  have hR : RefD we p2 (More X2 wc wd) s' := h2.1.below hD
  have hbe : we.heap[bl]? = some (.cells #[.pointer (some ⟨p1, 0, none⟩), .pointer (some ⟨p2, 0, none⟩)] 28 (0, 0)) := blk_upd hb hU h.nb
  have hbl := h.lt
  refine ⟨⟨fun k hk => hk.elim (fun hk => Nat.lt_of_lt_of_le (h.bd k hk) hU.size) (fun hk => hk.2), fun hk => hk.elim h.nb (fun hk => absurd hbl (Nat.not_lt.2 hk.1)), p1, p2, _, _, hbe, hP, hR, fun k hk hk2 => ?_, fun k hk => ?_⟩, hU⟩
  · rcases hk with hk | hk <;> rcases hk2 with hk2 | hk2
    · exact ha k hk hk2
    · have := hx1 k hk; omega
    · have := hx2 k hk2; omega
    · omega
  · rcases hk with (hk | hk) | (hk | hk)
    · exact .inl (hz k (.inl hk))
    · exact .inr ⟨by omega, by omega⟩
    · exact .inl (hz k (.inr hk))
    · exact .inr ⟨by omega, by omega⟩
def ManyB (w : World) (M : Nat) (b : Nat → Nat) (v : Value) (n : Nat) (iv : Value) (wr : World) : Prop := ∃ (i : Nat) (Z : Nat → Nat → Prop) (s : Nat → St), iv = .int .i64 i ∧ i ≤ n ∧ Many w wr M b Z s v
def ManyE (w : World) (n : Nat) (lv iv : Value) (wr : World) : Prop := ∃ (i : Nat) (b : Nat → Nat) (Z : Nat → Nat → Prop) (s : Nat → St), iv = .int .i64 i ∧ i ≤ n ∧ Many w wr i b Z s lv
theorem info24 : (Try.prog.info? 24).map (fun i => (i.zero, i.size, i.bytes)) = some (some (.pointer none), 1, 8) := by kernel_rfl
set_option maxHeartbeats 16000000 in
set_option maxRecDepth 100000 in
theorem many_calls (w : World) (n : Int) (hn : -9223372036854775808 ≤ n ∧ n ≤ 9223372036854775807) (A1 : Option Addr) (c1 : Nat) (ops : List S41) (hr1 : k41.C w A1 ops.length ops) (hc1 : ops.length ≤ c1) (hl1 : ops.length ≤ 1048576) (hb1 : bulkO ops ≤ 1048576) (hg : ∀ o ∈ ops, GoodK o) :
    Calls Try.prog 14 #[.int .i64 n, .slice A1 ops.length c1] w fun e w' => e = .returned (.bool true) ∧ Below w.heap.size w w' := by
  have HF := Aside0.mk (fits_calls w none 0 [] A1 c1 ops (Kd.C_nil _ _) (Nat.le_refl _) hr1 hc1 (by decide) (by omega) (by simp only [bulkF]; omega))
  have HR1 := Aside0.mk hr1
  have HGD := Aside0.mk hg
  clear hr1 hg hb1
  cases hfit : fitsB [] ops with
  | false =>
    rw [hfit] at HF
    clear hfit
    go_enter Try.func14, Try.ntmps14
    go_wp2_with fail
    refine HF.out.mono ?_
    rintro e w1 ⟨rfl, ⟨⟨nd, rfl⟩⟩⟩
    go_wp2
    go_ret
    exact ⟨rfl, pw_below_drewN (Below.refl _ _) _⟩
  | true =>
    rw [hfit] at HF
    clear hfit
    by_cases hn0 : n < 0
    · go_enter Try.func14, Try.ntmps14
      go_wp2_with fail
      refine HF.out.mono ?_
      rintro e w1 ⟨rfl, ⟨⟨nd, rfl⟩⟩⟩
      go_wp2
      go_ret
      exact ⟨rfl, pw_below_drewN (Below.refl _ _) _⟩
    · by_cases hn69 : 69 < n
      · go_enter Try.func14, Try.ntmps14
        go_wp2_with fail
        refine HF.out.mono ?_
        rintro e w1 ⟨rfl, ⟨⟨nd, rfl⟩⟩⟩
        go_wp2
        go_ret
        exact ⟨rfl, pw_below_drewN (Below.refl _ _) _⟩
      · obtain ⟨m, rfl⟩ : ∃ m : Nat, n = m := ⟨n.toNat, by omega⟩
        have hm : m ≤ 69 := by omega
        go_enter Try.func14, Try.ntmps14
        go_wp2_with fail
        refine HF.out.mono ?_
        rintro e w1 ⟨rfl, ⟨⟨nd, rfl⟩⟩⟩
        clear hn hn0 hn69
        go_wp2
        go_loopw [5, 6] (fun lv iv wr => ManyE w (m + 2) lv iv wr) (fun _ iv _ => m + 2 - (intOf iv).toNat)
        case atStart => exact ⟨0, fun _ => 0, fun _ _ => False, fun _ => stOf [], rfl, Nat.zero_le _, by repeat (with_reducible first | exact Below.refl _ _ | apply below_drew | apply pw_below_drewN), fun j hj => absurd hj (Nat.not_lt_zero _), fun j hj => absurd hj (Nat.not_lt_zero _), fun j hj => absurd hj (Nat.not_lt_zero _), fun j hj => absurd hj (Nat.not_lt_zero _), Kd.R_nil _ _ _ _ _⟩
        case round =>
          obtain ⟨i, b, Z, s, rfl, hle, hmn⟩ := hrel
          have HMN := Aside0.mk hmn
          by_cases hlt : i < m + 2
          · have hbz := hmn.bel.size
            obtain ⟨AV, cV, hV, hcV, _⟩ := Kd.R_reads hmn.row
            rw [List.length_map, List.length_range] at hV hcV
            subst hV
            clear hmn
            go_wp2_with fail
            have hW0 : Below wr.heap.size wr (((wr.alloc (.cells #[.pointer none, .pointer none] 28)).alloc (.cells #[.int .u8 i, .int .u8 7] 5)).alloc (.cells #[.string nmOwn, .slice (some ⟨wr.heap.size + 1, 0, none⟩) 2 2, .int .i64 1] 67)) := below_alloc (below_alloc (below_alloc (Below.refl _ _) _) _) _
            have hx0 := blk_alloc (blk_alloc (heap_alloc_new wr (.cells #[.pointer none, .pointer none] 28)) (.cells #[.int .u8 i, .int .u8 7] 5)) (.cells #[.string nmOwn, .slice (some ⟨wr.heap.size + 1, 0, none⟩) 2 2, .int .i64 1] 67)
            have hx1 := blk_alloc (heap_alloc_new (wr.alloc (.cells #[.pointer none, .pointer none] 28)) (.cells #[.int .u8 i, .int .u8 7] 5)) (.cells #[.string nmOwn, .slice (some ⟨wr.heap.size + 1, 0, none⟩) 2 2, .int .i64 1] 67)
            have hx2 := heap_alloc_new ((wr.alloc (.cells #[.pointer none, .pointer none] 28)).alloc (.cells #[.int .u8 i, .int .u8 7] 5)) (.cells #[.string nmOwn, .slice (some ⟨wr.heap.size + 1, 0, none⟩) 2 2, .int .i64 1] 67)
            rw [World.size_alloc'] at hx1
            rw [World.size_alloc', World.size_alloc'] at hx2
            have hbg := begin_calls _ wr.heap.size hx0 _ 1 _ (file_lit hx1 hx2) (Nat.le_refl 1) (show (1 : Nat) < 2 ^ 31 by decide) (fun x hx => by
              obtain rfl := List.mem_singleton.1 hx
              exact ⟨(show (2 : Nat) ≤ 2 ^ 40 by decide), (show (-9223372036854775808 : Int) ≤ 1 by decide), (show (1 : Int) ≤ 9223372036854775807 by decide)⟩)
            rw [new_own] at hbg
            unfold BeginPost at hbg
            have HBG := Aside0.mk hbg
            have HW0 := Aside0.mk hW0
            have HSZ := Aside0.mk (show wr.heap.size < (((wr.alloc (.cells #[.pointer none, .pointer none] 28)).alloc (.cells #[.int .u8 i, .int .u8 7] 5)).alloc (.cells #[.string nmOwn, .slice (some ⟨wr.heap.size + 1, 0, none⟩) 2 2, .int .i64 1] 67)).heap.size by rw [World.size_alloc', World.size_alloc', World.size_alloc']; omega)
            clear hx0 hx1 hx2 hW0 hbg
            refine HBG.out.mono ?_
            rintro e w2 ⟨rfl, hu, X1, X2, hbo, hX⟩
            have hb2 : Below wr.heap.size wr w2 := HW0.out.trans (hu.below (B := wr.heap.size) (Nat.le_of_lt HSZ.out) (fun k e => by omega))
            have HB2 := Aside0.mk hb2
            have HPR := Aside0.mk hbo.pair
            have HX := Aside0.mk (show ∀ k, X1 k ∨ X2 k → wr.heap.size ≤ k from fun k hk => Nat.le_of_lt (Nat.lt_of_lt_of_le HSZ.out (hX k hk)))
            obtain ⟨p1, p2, hbk, _, _⟩ := hbo.disks
            have q0 := blk_cell hbk 0
            have q1 := blk_cell hbk 1
            have fq0 := blk_frozen hbk 0
            have fq1 := blk_frozen hbk 1
            simp only [List.getElem?_toArray, List.getElem?_cons_succ, List.getElem?_cons_zero] at q0 q1
            have hZk : ∀ k, w2.heap.size ≤ k → ∀ j, j < i + 1 → ¬ (if j = i then (fun k => X1 k ∨ X2 k) else Z j) k := fun k hk j hj hz => by
              by_cases e : j = i
              · rw [if_pos e] at hz
                exact absurd (HPR.out.bd k hz) (Nat.not_lt.2 hk)
              · rw [if_neg e] at hz
                exact absurd (Nat.lt_of_lt_of_le ((HMN.out.pr j (by omega)).1.bd k hz) hb2.size) (Nat.not_lt.2 hk)
            have HZK := Aside0.mk hZk
            have hrow : kPt.R 24 w2 w.heap.size (fun k => ∀ j, j < i + 1 → ¬ (if j = i then (fun k => X1 k ∨ X2 k) else Z j) k) (.slice AV i cV) ((List.range i).map b) := Kd.R_reok rfl (Kd.R_below HMN.out.row hb2) (fun k hk j hj hz => by
              by_cases e : j = i
              · rw [if_pos e] at hz
                exact absurd (Kd.R_lt HMN.out.row k hk) (Nat.not_lt.2 (HX.out k hz))
              · rw [if_neg e] at hz
                exact HMN.out.row.1 k hk j (by omega) hz)
            have HRW := Aside0.mk hrow
            have HBW := Aside0.mk (HMN.out.bel.trans (hb2.mono HMN.out.bel.size))
            clear hb2 hbo hX hbk hrow hZk hu
            go_wp2_with (first | ((with_reducible refine gate_builtin (b := .append) (xs := #[.tmp 45, .tmp 47]) rfl ?_); at_builtin; refine Kd.R_append kPt (w0 := w) (W := w2) w.heap.size rfl (.tmp 45) (.tmp 47) 65 24 (.pointer none) 8 rfl Try.underlying65 info24 rfl (by decide) (by omega) (.slice AV i cV) ((List.range i).map b) wr.heap.size [.pointer (some ⟨wr.heap.size, 0, none⟩)] (fun k => ∀ j, j < i + 1 → ¬ (if j = i then (fun k => X1 k ∨ X2 k) else Z j) k) (fun _ => False) rfl rfl rfl (fun _ hk => hk.elim) HZK.out HRW.out HBW.out HBW.out.size (by rw [List.length_map, List.length_range]; omega) ?_; intro v3 w3 ho hb hg hat; have HPU := Aside0.mk (HMN.out.push HB2.out HPR.out (new_ok (new_own i)) HX.out (Nat.le_refl _) hg ho); clear ho hb hg hat))
            go_roundw
            case rel => exact ⟨i + 1, _, _, _, by simp, hlt, HPU.out⟩
            case measure => simp [intOf]; omega
          · obtain rfl : i = m + 2 := by omega
            obtain ⟨ad, cV, hV⟩ := hmn.ad (by omega)
            subst hV
            clear hmn
            go_wp2
            go_loopw [8] (fun iv wr => ManyB w (m + 2) b (.slice (some ad) (m + 2) cV) (m + 2) iv wr) (fun iv _ => m + 2 - (intOf iv).toNat)
            case atStart => exact ⟨0, Z, s, rfl, Nat.zero_le _, HMN.out.below (by repeat (with_reducible first | exact Below.refl _ _ | apply below_drew | apply pw_below_drewN))⟩
            clear HMN
            case round =>
              obtain ⟨i, Z, s, rfl, hle, hmn⟩ := hrel
              by_cases hlt : i < m + 2
              · skip
                have HMN := Aside0.mk hmn
                have hrow := hmn.at hlt
                have hpj := (hmn.pr i hlt).1
                have HPJ := Aside0.mk hpj
                have HOK := Aside0.mk (hmn.pr i hlt).2
                obtain ⟨p1, p2, X1, X2, hbk, hP, hR, ha, hz⟩ := hpj.disks
                have q0 := blk_cell hbk 0
                have q1 := blk_cell hbk 1
                have fq0 := blk_frozen hbk 0
                have fq1 := blk_frozen hbk 1
                simp only [List.getElem?_toArray, List.getElem?_cons_succ, List.getElem?_cons_zero] at q0 q1
                have HB := Aside0.mk hbk
                have HP := Aside0.mk hP
                have HR := Aside0.mk hR
                have HA := Aside0.mk ha
                have HZ := Aside0.mk hz
                have HX1 := Aside0.mk (show ∀ k, X1 k → k < wr.heap.size from fun k hk => hpj.bd k (hz k (.inl hk)))
                have HX2 := Aside0.mk (show ∀ k, X2 k → k < wr.heap.size from fun k hk => hpj.bd k (hz k (.inr hk)))
                have HN1 := Aside0.mk (show ¬ X1 (b i) from fun hk => hpj.nb (hz _ (.inl hk)))
                have HAD := Aside0.mk (show ¬ X1 ad.block from fun hk => hmn.ad_lt i hlt (hz _ (.inl hk)))
                have BL0 := Aside0.mk (below_drew (Below.refl wr.heap.size wr))
                clear hpj hbk hP hR ha hz hmn
                have HAN := Aside0.mk (show (s i).append nmOwn [IntKind.u8.wrap (wrap64 (100 + (i : Int)))] = (((s i).append nmOwn [IntKind.u8.wrap (wrap64 (100 + (i : Int)))]).1, ((s i).append nmOwn [IntKind.u8.wrap (wrap64 (100 + (i : Int)))]).2) from rfl)
                have HOK2 := Aside0.mk (HOK.out.append nmOwn [IntKind.u8.wrap (wrap64 (100 + (i : Int)))])
                generalize ((s i).append nmOwn [IntKind.u8.wrap (wrap64 (100 + (i : Int)))]).1 = s2 at *
                generalize ((s i).append nmOwn [IntKind.u8.wrap (wrap64 (100 + (i : Int)))]).2 = r at *
                go_wp2
                refine start_ (n := 26) (S := fun w' => w'.cell? (ad.add i) = some (.pointer (some ⟨b i, 0, none⟩)) ∧ w'.cell? ⟨b i, 0, none⟩ = some (.pointer (some ⟨p1, 0, none⟩)) ∧ w'.cell? ⟨b i, 1, none⟩ = some (.pointer (some ⟨p2, 0, none⟩))) (ds := [24]) #[false, false, false, false, false, false, false, false, false, false, false, false, false, false, false, false, false, false, false, false, false, false, false, false, false, false] (by kernel_rfl) rfl rfl ⟨hrow, q0, q1⟩ (fun hHeld => ?_)
                refine zq 0 (some 55) ?_
                refine zq 1 (some 56) ?_
                refine zq 2 (some 57) ?_
                refine zq 7 (some 62) ?_
                refine zq 8 (some 63) ?_
                refine zq 9 (some 64) ?_
                refine zq 13 (some 68) ?_
                refine zq 14 (some 69) ?_
                refine zq 15 (some 70) ?_
                refine zq 20 (some 75) ?_
                refine zq 21 (some 76) ?_
                refine zq 22 (some 77) ?_
                refine zu 3 (some 58) hHeld ?_
                refine zq 4 (some 59) ?_
                refine zq 5 (some 60) ?_
                refine zu 6 (some 61) hHeld ?_
                refine zu 16 (some 71) hHeld ?_
                refine zq 17 (some 72) ?_
                refine zq 18 (some 73) ?_
                refine zu 19 (some 74) hHeld ?_
                refine two_ (i := 10) (j := 23) (Ni := some 65) (Nj := some 78) #[true, true, true, true, true, true, true, true, true, true, true, false, false, true, true, true, true, true, true, true, true, true, true, false, false, false] #[true, true, true, true, true, true, true, true, true, true, false, false, false, true, true, true, true, true, true, true, true, true, true, true, false, false] rfl rfl rfl rfl (by kernel_rfl) (by decide) (by decide) (fun K hK => ?_) (fun K hK => ?_)
                · skip
                  refine Kd.R_lit_step (Kd.int .u8) (w0 := wr.drew) wr.drew.heap.size 5 (by rfl) rfl (xs := [IntKind.u8.wrap (wrap64 (100 + (i : Int)))]) (inner := [.int .u8 (IntKind.u8.wrap (wrap64 (100 + (i : Int))))]) (ok := fun _ => True) (okp := fun _ => False) ?hrun (Reps.one rfl (Reps.none _ _)) (fun _ h => h.elim) trivial (Below.refl _ _) (Nat.le_refl _) (show (1 : Nat) ≤ 9223372036854775807 by decide) ?_
                  case hrun => go_simp
                  intro v_10 w_10 r_10 b_10 g_10 l_10
                  have c_10_0 := (b_10).cell (World.block_lt_of_cell? _ _ (show wr.drew.cell? _ = _ from hrow)) |>.trans (show wr.drew.cell? _ = _ from hrow)
                  have c_10_1 := (b_10).cell (World.block_lt_of_cell? _ _ (show wr.drew.cell? _ = _ from q0)) |>.trans (show wr.drew.cell? _ = _ from q0)
                  have c_10_2 := (b_10).cell (World.block_lt_of_cell? _ _ (show wr.drew.cell? _ = _ from q1)) |>.trans (show wr.drew.cell? _ = _ from q1)
                  obtain ⟨A_10, e_10, rfl, hc_10, _⟩ := Kd.R_reads r_10
                  have R_10 := Aside0.mk r_10
                  have B_10 := Aside0.mk b_10
                  clear r_10 b_10 g_10 l_10
                  have BLB_10 := Aside0.mk (show wr.heap.size ≤ (wr.drew).heap.size from (BL0.out).size)
                  refine hK.out _ _ ⟨c_10_0, c_10_1, c_10_2⟩ (fun hHeld => ?_)
                  clear hK K
                  refine norm_ (a' := ?_) ?_ ?_
                  rotate_left
                  · show Act.put _ (some 65) _ = _
                    simp only [Act.put, zla, zlb, zlc, i64_w, i32_w]
                    rfl
                  refine two_ (i := 11) (j := 23) (Ni := some 66) (Nj := some 78) #[true, true, true, true, true, true, true, true, true, true, true, true, false, true, true, true, true, true, true, true, true, true, true, false, false, false] #[true, true, true, true, true, true, true, true, true, true, true, false, false, true, true, true, true, true, true, true, true, true, true, true, false, false] rfl rfl rfl rfl (by kernel_rfl) (by decide) (by decide) (fun K hK => ?_) (fun K hK => ?_)
                  · skip
                    have BLp_10_11 := Aside0.mk (show Below wr.heap.size wr w_10 from (BL0.out.trans (B_10.out.mono BL0.out.size)))
                    refine goes_ Try.func32 (by kernel_rfl) rfl #[.pointer (some ⟨p1, 0, none⟩), .string nmOwn, .slice A_10 1 e_10] (by rfl) rfl rfl (by simp only [List.map_toArray, List.map_cons, List.map_nil]; rfl) ?_
                    have ho_10_11 := Kd.R_below R_10.out (show Below _ _ w_10 from (Below.refl w_10.heap.size w_10))
                    refine (append_calls w_10 p1 X1 (s i) nmOwn A_10 e_10 [IntKind.u8.wrap (wrap64 (100 + (i : Int)))] (HP.out.below BLp_10_11.out) HOK.out (lit_keep ho_10_11 HX1.out BLB_10.out) hc_10 (show (1 : Nat) ≤ 2 ^ 40 by decide)).mono ?_
                    rintro e w_10_11 ⟨rfl, hs_10_11⟩
                    rw [HAN.out] at hs_10_11 ⊢
                    refine ⟨_, rfl, ?_⟩
                    have c_10_11_0 := Upd.cell_ hs_10_11.2 c_10_0 (by rw [add_block]; exact HAD.out)
                    have c_10_11_1 := Upd.cell_ hs_10_11.2 c_10_1 HN1.out
                    have c_10_11_2 := Upd.cell_ hs_10_11.2 c_10_2 HN1.out
                    have HS_10_11 := Aside0.mk hs_10_11
                    refine hK.out _ _ ⟨c_10_11_0, c_10_11_1, c_10_11_2⟩ (fun hHeld => ?_)
                    clear hK K
                    refine norm_ (a' := ?_) ?_ ?_
                    rotate_left
                    · show Act.put _ (some 66) _ = _
                      simp only [Act.put, zla, zlb, zlc, i64_w, i32_w]
                      rfl
                    refine two_ (i := 12) (j := 23) (Ni := some 67) (Nj := some 78) #[true, true, true, true, true, true, true, true, true, true, true, true, true, true, true, true, true, true, true, true, true, true, true, false, false, false] #[true, true, true, true, true, true, true, true, true, true, true, true, false, true, true, true, true, true, true, true, true, true, true, true, false, false] rfl rfl rfl rfl (by kernel_rfl) (by decide) (by decide) (fun K hK => ?_) (fun K hK => ?_)
                    · skip
                      refine goes_ Try.func21 (by kernel_rfl) rfl #[.int .i64 r] (by rfl) rfl rfl (by simp only [List.map_toArray, List.map_cons, List.map_nil]; rfl) ?_
                      refine (num_calls w_10_11 _).mono ?_
                      rintro e w_10_11_12 ⟨rfl, hd_10_11_12⟩
                      have b_10_11_12 := hd_10_11_12.below
                      refine ⟨_, rfl, ?_⟩
                      have c_10_11_12_0 := (b_10_11_12).cell (World.block_lt_of_cell? _ _ c_10_11_0) |>.trans c_10_11_0
                      have c_10_11_12_1 := (b_10_11_12).cell (World.block_lt_of_cell? _ _ c_10_11_1) |>.trans c_10_11_1
                      have c_10_11_12_2 := (b_10_11_12).cell (World.block_lt_of_cell? _ _ c_10_11_2) |>.trans c_10_11_2
                      have B_10_11_12 := Aside0.mk b_10_11_12
                      clear b_10_11_12 hd_10_11_12
                      refine hK.out _ _ ⟨c_10_11_12_0, c_10_11_12_1, c_10_11_12_2⟩ (fun hHeld => ?_)
                      clear hK K
                      refine norm_ (a' := ?_) ?_ ?_
                      rotate_left
                      · show Act.put _ (some 67) _ = _
                        simp only [Act.put, zla, zlb, zlc, i64_w, i32_w]
                        rfl
                      refine one_ (i := 23) (N := some 78) #[true, true, true, true, true, true, true, true, true, true, true, true, true, true, true, true, true, true, true, true, true, true, true, true, false, false] rfl rfl (by kernel_rfl) (by decide) (fun K hK => ?_)
                      refine Kd.R_lit_step (Kd.int .u8) (w0 := w_10_11_12) w_10_11_12.heap.size 5 (by rfl) rfl (xs := [IntKind.u8.wrap (wrap64 (100 + (i : Int)))]) (inner := [.int .u8 (IntKind.u8.wrap (wrap64 (100 + (i : Int))))]) (ok := fun _ => True) (okp := fun _ => False) ?hrun (Reps.one rfl (Reps.none _ _)) (fun _ h => h.elim) trivial (Below.refl _ _) (Nat.le_refl _) (show (1 : Nat) ≤ 9223372036854775807 by decide) ?_
                      case hrun => go_simp
                      intro v_10_11_12_23 w_10_11_12_23 r_10_11_12_23 b_10_11_12_23 g_10_11_12_23 l_10_11_12_23
                      have c_10_11_12_23_0 := (b_10_11_12_23).cell (World.block_lt_of_cell? _ _ c_10_11_12_0) |>.trans c_10_11_12_0
                      have c_10_11_12_23_1 := (b_10_11_12_23).cell (World.block_lt_of_cell? _ _ c_10_11_12_1) |>.trans c_10_11_12_1
                      have c_10_11_12_23_2 := (b_10_11_12_23).cell (World.block_lt_of_cell? _ _ c_10_11_12_2) |>.trans c_10_11_12_2
                      obtain ⟨A_10_11_12_23, e_10_11_12_23, rfl, hc_10_11_12_23, _⟩ := Kd.R_reads r_10_11_12_23
                      have R_10_11_12_23 := Aside0.mk r_10_11_12_23
                      have B_10_11_12_23 := Aside0.mk b_10_11_12_23
                      clear r_10_11_12_23 b_10_11_12_23 g_10_11_12_23 l_10_11_12_23
                      have BLB_10_11_12_23 := Aside0.mk (show wr.heap.size ≤ (w_10_11_12).heap.size from Nat.le_trans BLp_10_11.out.size (Nat.le_trans HS_10_11.out.2.size (show Below w_10_11.heap.size w_10_11 w_10_11_12 from ((Below.refl w_10_11.heap.size w_10_11).trans (B_10_11_12.out.mono (Below.refl w_10_11.heap.size w_10_11).size))).size))
                      refine hK.out _ _ ⟨c_10_11_12_23_0, c_10_11_12_23_1, c_10_11_12_23_2⟩ (fun hHeld => ?_)
                      clear hK K
                      refine norm_ (a' := ?_) ?_ ?_
                      rotate_left
                      · show Act.put _ (some 78) _ = _
                        simp only [Act.put, zla, zlb, zlc, i64_w, i32_w]
                        rfl
                      refine last_ (i := 24) (N := some 79) #[true, true, true, true, true, true, true, true, true, true, true, true, true, true, true, true, true, true, true, true, true, true, true, true, true, false] rfl rfl (by kernel_rfl) (by decide) (fun K hK => ?_)
                      have BLq_10_11_12_23_24 := Aside0.mk (show Below w_10_11.heap.size w_10_11 w_10_11_12_23 from (((Below.refl w_10_11.heap.size w_10_11).trans (B_10_11_12.out.mono (Below.refl w_10_11.heap.size w_10_11).size)).trans (B_10_11_12_23.out.mono ((Below.refl w_10_11.heap.size w_10_11).trans (B_10_11_12.out.mono (Below.refl w_10_11.heap.size w_10_11).size)).size)))
                      refine goes_ Try.func38 (by kernel_rfl) rfl #[.pointer (some ⟨p2, 0, none⟩), .string nmOwn, .slice A_10_11_12_23 1 e_10_11_12_23] (by rfl) rfl rfl (by simp only [List.map_toArray, List.map_cons, List.map_nil]; rfl) ?_
                      have ho_10_11_12_23_24 := Kd.R_below R_10_11_12_23.out (show Below _ _ w_10_11_12_23 from (Below.refl w_10_11_12_23.heap.size w_10_11_12_23))
                      have hR_10_11_12_23_24 := ((HR.out.below BLp_10_11.out).upd HS_10_11.out.2 (fun k h2 h1 => HA.out k h1 h2)).below BLq_10_11_12_23_24.out
                      refine (rappend_calls w_10_11_12_23 p2 X2 (s i) nmOwn A_10_11_12_23 e_10_11_12_23 [IntKind.u8.wrap (wrap64 (100 + (i : Int)))] hR_10_11_12_23_24 HOK.out (lit_keep ho_10_11_12_23_24 HX2.out BLB_10_11_12_23.out) hc_10_11_12_23 (show (1 : Nat) ≤ 2 ^ 40 by decide)).mono ?_
                      rintro e w_10_11_12_23_24 ⟨rfl, hs_10_11_12_23_24⟩
                      rw [HAN.out] at hs_10_11_12_23_24 ⊢
                      refine ⟨_, rfl, ?_⟩
                      have HFI := Aside0.mk (fun (W : World) (hw : Below _ w_10_11_12_23_24 W) => pair_two HPJ.out HB.out HA.out HZ.out BLp_10_11.out HS_10_11.out BLq_10_11_12_23_24.out hs_10_11_12_23_24 hw)
                      have HWE := Aside0.mk (rfl : w_10_11_12_23_24 = w_10_11_12_23_24)
                      generalize w_10_11_12_23_24 = wz at *
                      refine hK.out _ _ ?_
                      clear hK K
                      refine norm_ (a' := ?_) ?_ ?_
                      rotate_left
                      · show Act.put _ (some 79) _ = _
                        simp only [Act.put, zla, zlb, zlc, i64_w, i32_w]
                        rfl
                      refine zq 25 (some 80) ?_
                      refine done_ (by kernel_rfl) ?_
                      go_wp2
                      go_roundw
                      case rel => exact ⟨i + 1, _, _, by simp, hlt, HMN.out.step hlt (HFI.out _ (by repeat (with_reducible first | exact Below.refl _ _ | apply below_drew | apply pw_below_drewN))) HOK2.out⟩
                      case measure => simp [intOf]; omega
                    · skip
                      refine Kd.R_lit_step (Kd.int .u8) (w0 := w_10_11) w_10_11.heap.size 5 (by rfl) rfl (xs := [IntKind.u8.wrap (wrap64 (100 + (i : Int)))]) (inner := [.int .u8 (IntKind.u8.wrap (wrap64 (100 + (i : Int))))]) (ok := fun _ => True) (okp := fun _ => False) ?hrun (Reps.one rfl (Reps.none _ _)) (fun _ h => h.elim) trivial (Below.refl _ _) (Nat.le_refl _) (show (1 : Nat) ≤ 9223372036854775807 by decide) ?_
                      case hrun => go_simp
                      intro v_10_11_23 w_10_11_23 r_10_11_23 b_10_11_23 g_10_11_23 l_10_11_23
                      have c_10_11_23_0 := (b_10_11_23).cell (World.block_lt_of_cell? _ _ c_10_11_0) |>.trans c_10_11_0
                      have c_10_11_23_1 := (b_10_11_23).cell (World.block_lt_of_cell? _ _ c_10_11_1) |>.trans c_10_11_1
                      have c_10_11_23_2 := (b_10_11_23).cell (World.block_lt_of_cell? _ _ c_10_11_2) |>.trans c_10_11_2
                      obtain ⟨A_10_11_23, e_10_11_23, rfl, hc_10_11_23, _⟩ := Kd.R_reads r_10_11_23
                      have R_10_11_23 := Aside0.mk r_10_11_23
                      have B_10_11_23 := Aside0.mk b_10_11_23
                      clear r_10_11_23 b_10_11_23 g_10_11_23 l_10_11_23
                      have BLB_10_11_23 := Aside0.mk (show wr.heap.size ≤ (w_10_11).heap.size from Nat.le_trans BLp_10_11.out.size (Nat.le_trans HS_10_11.out.2.size (show Below w_10_11.heap.size w_10_11 w_10_11 from (Below.refl w_10_11.heap.size w_10_11)).size))
                      refine hK.out _ _ ⟨c_10_11_23_0, c_10_11_23_1, c_10_11_23_2⟩ (fun hHeld => ?_)
                      clear hK K
                      refine norm_ (a' := ?_) ?_ ?_
                      rotate_left
                      · show Act.put _ (some 78) _ = _
                        simp only [Act.put, zla, zlb, zlc, i64_w, i32_w]
                        rfl
                      refine one_ (i := 12) (N := some 67) #[true, true, true, true, true, true, true, true, true, true, true, true, true, true, true, true, true, true, true, true, true, true, true, true, false, false] rfl rfl (by kernel_rfl) (by decide) (fun K hK => ?_)
                      refine goes_ Try.func21 (by kernel_rfl) rfl #[.int .i64 r] (by rfl) rfl rfl (by simp only [List.map_toArray, List.map_cons, List.map_nil]; rfl) ?_
                      refine (num_calls w_10_11_23 _).mono ?_
                      rintro e w_10_11_23_12 ⟨rfl, hd_10_11_23_12⟩
                      have b_10_11_23_12 := hd_10_11_23_12.below
                      refine ⟨_, rfl, ?_⟩
                      have c_10_11_23_12_0 := (b_10_11_23_12).cell (World.block_lt_of_cell? _ _ c_10_11_23_0) |>.trans c_10_11_23_0
                      have c_10_11_23_12_1 := (b_10_11_23_12).cell (World.block_lt_of_cell? _ _ c_10_11_23_1) |>.trans c_10_11_23_1
                      have c_10_11_23_12_2 := (b_10_11_23_12).cell (World.block_lt_of_cell? _ _ c_10_11_23_2) |>.trans c_10_11_23_2
                      have B_10_11_23_12 := Aside0.mk b_10_11_23_12
                      clear b_10_11_23_12 hd_10_11_23_12
                      refine hK.out _ _ ⟨c_10_11_23_12_0, c_10_11_23_12_1, c_10_11_23_12_2⟩ (fun hHeld => ?_)
                      clear hK K
                      refine norm_ (a' := ?_) ?_ ?_
                      rotate_left
                      · show Act.put _ (some 67) _ = _
                        simp only [Act.put, zla, zlb, zlc, i64_w, i32_w]
                        rfl
                      refine last_ (i := 24) (N := some 79) #[true, true, true, true, true, true, true, true, true, true, true, true, true, true, true, true, true, true, true, true, true, true, true, true, true, false] rfl rfl (by kernel_rfl) (by decide) (fun K hK => ?_)
                      have BLq_10_11_23_12_24 := Aside0.mk (show Below w_10_11.heap.size w_10_11 w_10_11_23_12 from (((Below.refl w_10_11.heap.size w_10_11).trans (B_10_11_23.out.mono (Below.refl w_10_11.heap.size w_10_11).size)).trans (B_10_11_23_12.out.mono ((Below.refl w_10_11.heap.size w_10_11).trans (B_10_11_23.out.mono (Below.refl w_10_11.heap.size w_10_11).size)).size)))
                      refine goes_ Try.func38 (by kernel_rfl) rfl #[.pointer (some ⟨p2, 0, none⟩), .string nmOwn, .slice A_10_11_23 1 e_10_11_23] (by rfl) rfl rfl (by simp only [List.map_toArray, List.map_cons, List.map_nil]; rfl) ?_
                      have ho_10_11_23_12_24 := Kd.R_below R_10_11_23.out (show Below _ _ w_10_11_23_12 from ((Below.refl w_10_11_23.heap.size w_10_11_23).trans (B_10_11_23_12.out.mono (Below.refl w_10_11_23.heap.size w_10_11_23).size)))
                      have hR_10_11_23_12_24 := ((HR.out.below BLp_10_11.out).upd HS_10_11.out.2 (fun k h2 h1 => HA.out k h1 h2)).below BLq_10_11_23_12_24.out
                      refine (rappend_calls w_10_11_23_12 p2 X2 (s i) nmOwn A_10_11_23 e_10_11_23 [IntKind.u8.wrap (wrap64 (100 + (i : Int)))] hR_10_11_23_12_24 HOK.out (lit_keep ho_10_11_23_12_24 HX2.out BLB_10_11_23.out) hc_10_11_23 (show (1 : Nat) ≤ 2 ^ 40 by decide)).mono ?_
                      rintro e w_10_11_23_12_24 ⟨rfl, hs_10_11_23_12_24⟩
                      rw [HAN.out] at hs_10_11_23_12_24 ⊢
                      refine ⟨_, rfl, ?_⟩
                      have HFI := Aside0.mk (fun (W : World) (hw : Below _ w_10_11_23_12_24 W) => pair_two HPJ.out HB.out HA.out HZ.out BLp_10_11.out HS_10_11.out BLq_10_11_23_12_24.out hs_10_11_23_12_24 hw)
                      have HWE := Aside0.mk (rfl : w_10_11_23_12_24 = w_10_11_23_12_24)
                      generalize w_10_11_23_12_24 = wz at *
                      refine hK.out _ _ ?_
                      clear hK K
                      refine norm_ (a' := ?_) ?_ ?_
                      rotate_left
                      · show Act.put _ (some 79) _ = _
                        simp only [Act.put, zla, zlb, zlc, i64_w, i32_w]
                        rfl
                      refine zq 25 (some 80) ?_
                      refine done_ (by kernel_rfl) ?_
                      go_wp2
                      go_roundw
                      case rel => exact ⟨i + 1, _, _, by simp, hlt, HMN.out.step hlt (HFI.out _ (by repeat (with_reducible first | exact Below.refl _ _ | apply below_drew | apply pw_below_drewN))) HOK2.out⟩
                      case measure => simp [intOf]; omega
                  · skip
                    refine Kd.R_lit_step (Kd.int .u8) (w0 := w_10) w_10.heap.size 5 (by rfl) rfl (xs := [IntKind.u8.wrap (wrap64 (100 + (i : Int)))]) (inner := [.int .u8 (IntKind.u8.wrap (wrap64 (100 + (i : Int))))]) (ok := fun _ => True) (okp := fun _ => False) ?hrun (Reps.one rfl (Reps.none _ _)) (fun _ h => h.elim) trivial (Below.refl _ _) (Nat.le_refl _) (show (1 : Nat) ≤ 9223372036854775807 by decide) ?_
                    case hrun => go_simp
                    intro v_10_23 w_10_23 r_10_23 b_10_23 g_10_23 l_10_23
                    have c_10_23_0 := (b_10_23).cell (World.block_lt_of_cell? _ _ c_10_0) |>.trans c_10_0
                    have c_10_23_1 := (b_10_23).cell (World.block_lt_of_cell? _ _ c_10_1) |>.trans c_10_1
                    have c_10_23_2 := (b_10_23).cell (World.block_lt_of_cell? _ _ c_10_2) |>.trans c_10_2
                    obtain ⟨A_10_23, e_10_23, rfl, hc_10_23, _⟩ := Kd.R_reads r_10_23
                    have R_10_23 := Aside0.mk r_10_23
                    have B_10_23 := Aside0.mk b_10_23
                    clear r_10_23 b_10_23 g_10_23 l_10_23
                    have BLB_10_23 := Aside0.mk (show wr.heap.size ≤ (w_10).heap.size from ((BL0.out.trans (B_10.out.mono BL0.out.size))).size)
                    refine hK.out _ _ ⟨c_10_23_0, c_10_23_1, c_10_23_2⟩ (fun hHeld => ?_)
                    clear hK K
                    refine norm_ (a' := ?_) ?_ ?_
                    rotate_left
                    · show Act.put _ (some 78) _ = _
                      simp only [Act.put, zla, zlb, zlc, i64_w, i32_w]
                      rfl
                    refine one_ (i := 11) (N := some 66) #[true, true, true, true, true, true, true, true, true, true, true, true, false, true, true, true, true, true, true, true, true, true, true, true, false, false] rfl rfl (by kernel_rfl) (by decide) (fun K hK => ?_)
                    have BLp_10_23_11 := Aside0.mk (show Below wr.heap.size wr w_10_23 from ((BL0.out.trans (B_10.out.mono BL0.out.size)).trans (B_10_23.out.mono (BL0.out.trans (B_10.out.mono BL0.out.size)).size)))
                    refine goes_ Try.func32 (by kernel_rfl) rfl #[.pointer (some ⟨p1, 0, none⟩), .string nmOwn, .slice A_10 1 e_10] (by rfl) rfl rfl (by simp only [List.map_toArray, List.map_cons, List.map_nil]; rfl) ?_
                    have ho_10_23_11 := Kd.R_below R_10.out (show Below _ _ w_10_23 from ((Below.refl w_10.heap.size w_10).trans (B_10_23.out.mono (Below.refl w_10.heap.size w_10).size)))
                    refine (append_calls w_10_23 p1 X1 (s i) nmOwn A_10 e_10 [IntKind.u8.wrap (wrap64 (100 + (i : Int)))] (HP.out.below BLp_10_23_11.out) HOK.out (lit_keep ho_10_23_11 HX1.out BLB_10.out) hc_10 (show (1 : Nat) ≤ 2 ^ 40 by decide)).mono ?_
                    rintro e w_10_23_11 ⟨rfl, hs_10_23_11⟩
                    rw [HAN.out] at hs_10_23_11 ⊢
                    refine ⟨_, rfl, ?_⟩
                    have c_10_23_11_0 := Upd.cell_ hs_10_23_11.2 c_10_23_0 (by rw [add_block]; exact HAD.out)
                    have c_10_23_11_1 := Upd.cell_ hs_10_23_11.2 c_10_23_1 HN1.out
                    have c_10_23_11_2 := Upd.cell_ hs_10_23_11.2 c_10_23_2 HN1.out
                    have HS_10_23_11 := Aside0.mk hs_10_23_11
                    have hp_10_23_11 := Kd.R_below R_10_23.out (show Below _ _ w_10_23 from (Below.refl w_10_23.heap.size w_10_23))
                    have RR_10_23_11 := Aside0.mk (lit_move hp_10_23_11 hs_10_23_11.2 HX1.out BLB_10_23.out)
                    refine hK.out _ _ ⟨c_10_23_11_0, c_10_23_11_1, c_10_23_11_2⟩ (fun hHeld => ?_)
                    clear hK K
                    refine norm_ (a' := ?_) ?_ ?_
                    rotate_left
                    · show Act.put _ (some 66) _ = _
                      simp only [Act.put, zla, zlb, zlc, i64_w, i32_w]
                      rfl
                    refine one_ (i := 12) (N := some 67) #[true, true, true, true, true, true, true, true, true, true, true, true, true, true, true, true, true, true, true, true, true, true, true, true, false, false] rfl rfl (by kernel_rfl) (by decide) (fun K hK => ?_)
                    refine goes_ Try.func21 (by kernel_rfl) rfl #[.int .i64 r] (by rfl) rfl rfl (by simp only [List.map_toArray, List.map_cons, List.map_nil]; rfl) ?_
                    refine (num_calls w_10_23_11 _).mono ?_
                    rintro e w_10_23_11_12 ⟨rfl, hd_10_23_11_12⟩
                    have b_10_23_11_12 := hd_10_23_11_12.below
                    refine ⟨_, rfl, ?_⟩
                    have c_10_23_11_12_0 := (b_10_23_11_12).cell (World.block_lt_of_cell? _ _ c_10_23_11_0) |>.trans c_10_23_11_0
                    have c_10_23_11_12_1 := (b_10_23_11_12).cell (World.block_lt_of_cell? _ _ c_10_23_11_1) |>.trans c_10_23_11_1
                    have c_10_23_11_12_2 := (b_10_23_11_12).cell (World.block_lt_of_cell? _ _ c_10_23_11_2) |>.trans c_10_23_11_2
                    have B_10_23_11_12 := Aside0.mk b_10_23_11_12
                    clear b_10_23_11_12 hd_10_23_11_12
                    refine hK.out _ _ ⟨c_10_23_11_12_0, c_10_23_11_12_1, c_10_23_11_12_2⟩ (fun hHeld => ?_)
                    clear hK K
                    refine norm_ (a' := ?_) ?_ ?_
                    rotate_left
                    · show Act.put _ (some 67) _ = _
                      simp only [Act.put, zla, zlb, zlc, i64_w, i32_w]
                      rfl
                    refine last_ (i := 24) (N := some 79) #[true, true, true, true, true, true, true, true, true, true, true, true, true, true, true, true, true, true, true, true, true, true, true, true, true, false] rfl rfl (by kernel_rfl) (by decide) (fun K hK => ?_)
                    have BLq_10_23_11_12_24 := Aside0.mk (show Below w_10_23_11.heap.size w_10_23_11 w_10_23_11_12 from ((Below.refl w_10_23_11.heap.size w_10_23_11).trans (B_10_23_11_12.out.mono (Below.refl w_10_23_11.heap.size w_10_23_11).size)))
                    refine goes_ Try.func38 (by kernel_rfl) rfl #[.pointer (some ⟨p2, 0, none⟩), .string nmOwn, .slice A_10_23 1 e_10_23] (by rfl) rfl rfl (by simp only [List.map_toArray, List.map_cons, List.map_nil]; rfl) ?_
                    have ho_10_23_11_12_24 := Kd.R_below RR_10_23_11.out BLq_10_23_11_12_24.out
                    have hR_10_23_11_12_24 := ((HR.out.below BLp_10_23_11.out).upd HS_10_23_11.out.2 (fun k h2 h1 => HA.out k h1 h2)).below BLq_10_23_11_12_24.out
                    refine (rappend_calls w_10_23_11_12 p2 X2 (s i) nmOwn A_10_23 e_10_23 [IntKind.u8.wrap (wrap64 (100 + (i : Int)))] hR_10_23_11_12_24 HOK.out (lit_keep ho_10_23_11_12_24 HX2.out BLB_10_23.out) hc_10_23 (show (1 : Nat) ≤ 2 ^ 40 by decide)).mono ?_
                    rintro e w_10_23_11_12_24 ⟨rfl, hs_10_23_11_12_24⟩
                    rw [HAN.out] at hs_10_23_11_12_24 ⊢
                    refine ⟨_, rfl, ?_⟩
                    have HFI := Aside0.mk (fun (W : World) (hw : Below _ w_10_23_11_12_24 W) => pair_two HPJ.out HB.out HA.out HZ.out BLp_10_23_11.out HS_10_23_11.out BLq_10_23_11_12_24.out hs_10_23_11_12_24 hw)
                    have HWE := Aside0.mk (rfl : w_10_23_11_12_24 = w_10_23_11_12_24)
                    generalize w_10_23_11_12_24 = wz at *
                    refine hK.out _ _ ?_
                    clear hK K
                    refine norm_ (a' := ?_) ?_ ?_
                    rotate_left
                    · show Act.put _ (some 79) _ = _
                      simp only [Act.put, zla, zlb, zlc, i64_w, i32_w]
                      rfl
                    refine zq 25 (some 80) ?_
                    refine done_ (by kernel_rfl) ?_
                    go_wp2
                    go_roundw
                    case rel => exact ⟨i + 1, _, _, by simp, hlt, HMN.out.step hlt (HFI.out _ (by repeat (with_reducible first | exact Below.refl _ _ | apply below_drew | apply pw_below_drewN))) HOK2.out⟩
                    case measure => simp [intOf]; omega
                · skip
                  refine Kd.R_lit_step (Kd.int .u8) (w0 := wr.drew) wr.drew.heap.size 5 (by rfl) rfl (xs := [IntKind.u8.wrap (wrap64 (100 + (i : Int)))]) (inner := [.int .u8 (IntKind.u8.wrap (wrap64 (100 + (i : Int))))]) (ok := fun _ => True) (okp := fun _ => False) ?hrun (Reps.one rfl (Reps.none _ _)) (fun _ h => h.elim) trivial (Below.refl _ _) (Nat.le_refl _) (show (1 : Nat) ≤ 9223372036854775807 by decide) ?_
                  case hrun => go_simp
                  intro v_23 w_23 r_23 b_23 g_23 l_23
                  have c_23_0 := (b_23).cell (World.block_lt_of_cell? _ _ (show wr.drew.cell? _ = _ from hrow)) |>.trans (show wr.drew.cell? _ = _ from hrow)
                  have c_23_1 := (b_23).cell (World.block_lt_of_cell? _ _ (show wr.drew.cell? _ = _ from q0)) |>.trans (show wr.drew.cell? _ = _ from q0)
                  have c_23_2 := (b_23).cell (World.block_lt_of_cell? _ _ (show wr.drew.cell? _ = _ from q1)) |>.trans (show wr.drew.cell? _ = _ from q1)
                  obtain ⟨A_23, e_23, rfl, hc_23, _⟩ := Kd.R_reads r_23
                  have R_23 := Aside0.mk r_23
                  have B_23 := Aside0.mk b_23
                  clear r_23 b_23 g_23 l_23
                  have BLB_23 := Aside0.mk (show wr.heap.size ≤ (wr.drew).heap.size from (BL0.out).size)
                  refine hK.out _ _ ⟨c_23_0, c_23_1, c_23_2⟩ (fun hHeld => ?_)
                  clear hK K
                  refine norm_ (a' := ?_) ?_ ?_
                  rotate_left
                  · show Act.put _ (some 78) _ = _
                    simp only [Act.put, zla, zlb, zlc, i64_w, i32_w]
                    rfl
                  refine one_ (i := 10) (N := some 65) #[true, true, true, true, true, true, true, true, true, true, true, false, false, true, true, true, true, true, true, true, true, true, true, true, false, false] rfl rfl (by kernel_rfl) (by decide) (fun K hK => ?_)
                  refine Kd.R_lit_step (Kd.int .u8) (w0 := w_23) w_23.heap.size 5 (by rfl) rfl (xs := [IntKind.u8.wrap (wrap64 (100 + (i : Int)))]) (inner := [.int .u8 (IntKind.u8.wrap (wrap64 (100 + (i : Int))))]) (ok := fun _ => True) (okp := fun _ => False) ?hrun (Reps.one rfl (Reps.none _ _)) (fun _ h => h.elim) trivial (Below.refl _ _) (Nat.le_refl _) (show (1 : Nat) ≤ 9223372036854775807 by decide) ?_
                  case hrun => go_simp
                  intro v_23_10 w_23_10 r_23_10 b_23_10 g_23_10 l_23_10
                  have c_23_10_0 := (b_23_10).cell (World.block_lt_of_cell? _ _ c_23_0) |>.trans c_23_0
                  have c_23_10_1 := (b_23_10).cell (World.block_lt_of_cell? _ _ c_23_1) |>.trans c_23_1
                  have c_23_10_2 := (b_23_10).cell (World.block_lt_of_cell? _ _ c_23_2) |>.trans c_23_2
                  obtain ⟨A_23_10, e_23_10, rfl, hc_23_10, _⟩ := Kd.R_reads r_23_10
                  have R_23_10 := Aside0.mk r_23_10
                  have B_23_10 := Aside0.mk b_23_10
                  clear r_23_10 b_23_10 g_23_10 l_23_10
                  have BLB_23_10 := Aside0.mk (show wr.heap.size ≤ (w_23).heap.size from ((BL0.out.trans (B_23.out.mono BL0.out.size))).size)
                  refine hK.out _ _ ⟨c_23_10_0, c_23_10_1, c_23_10_2⟩ (fun hHeld => ?_)
                  clear hK K
                  refine norm_ (a' := ?_) ?_ ?_
                  rotate_left
                  · show Act.put _ (some 65) _ = _
                    simp only [Act.put, zla, zlb, zlc, i64_w, i32_w]
                    rfl
                  refine one_ (i := 11) (N := some 66) #[true, true, true, true, true, true, true, true, true, true, true, true, false, true, true, true, true, true, true, true, true, true, true, true, false, false] rfl rfl (by kernel_rfl) (by decide) (fun K hK => ?_)
                  have BLp_23_10_11 := Aside0.mk (show Below wr.heap.size wr w_23_10 from ((BL0.out.trans (B_23.out.mono BL0.out.size)).trans (B_23_10.out.mono (BL0.out.trans (B_23.out.mono BL0.out.size)).size)))
                  refine goes_ Try.func32 (by kernel_rfl) rfl #[.pointer (some ⟨p1, 0, none⟩), .string nmOwn, .slice A_23_10 1 e_23_10] (by rfl) rfl rfl (by simp only [List.map_toArray, List.map_cons, List.map_nil]; rfl) ?_
                  have ho_23_10_11 := Kd.R_below R_23_10.out (show Below _ _ w_23_10 from (Below.refl w_23_10.heap.size w_23_10))
                  refine (append_calls w_23_10 p1 X1 (s i) nmOwn A_23_10 e_23_10 [IntKind.u8.wrap (wrap64 (100 + (i : Int)))] (HP.out.below BLp_23_10_11.out) HOK.out (lit_keep ho_23_10_11 HX1.out BLB_23_10.out) hc_23_10 (show (1 : Nat) ≤ 2 ^ 40 by decide)).mono ?_
                  rintro e w_23_10_11 ⟨rfl, hs_23_10_11⟩
                  rw [HAN.out] at hs_23_10_11 ⊢
                  refine ⟨_, rfl, ?_⟩
                  have c_23_10_11_0 := Upd.cell_ hs_23_10_11.2 c_23_10_0 (by rw [add_block]; exact HAD.out)
                  have c_23_10_11_1 := Upd.cell_ hs_23_10_11.2 c_23_10_1 HN1.out
                  have c_23_10_11_2 := Upd.cell_ hs_23_10_11.2 c_23_10_2 HN1.out
                  have HS_23_10_11 := Aside0.mk hs_23_10_11
                  have hp_23_10_11 := Kd.R_below R_23.out (show Below _ _ w_23_10 from ((Below.refl w_23.heap.size w_23).trans (B_23_10.out.mono (Below.refl w_23.heap.size w_23).size)))
                  have RR_23_10_11 := Aside0.mk (lit_move hp_23_10_11 hs_23_10_11.2 HX1.out BLB_23.out)
                  refine hK.out _ _ ⟨c_23_10_11_0, c_23_10_11_1, c_23_10_11_2⟩ (fun hHeld => ?_)
                  clear hK K
                  refine norm_ (a' := ?_) ?_ ?_
                  rotate_left
                  · show Act.put _ (some 66) _ = _
                    simp only [Act.put, zla, zlb, zlc, i64_w, i32_w]
                    rfl
                  refine one_ (i := 12) (N := some 67) #[true, true, true, true, true, true, true, true, true, true, true, true, true, true, true, true, true, true, true, true, true, true, true, true, false, false] rfl rfl (by kernel_rfl) (by decide) (fun K hK => ?_)
                  refine goes_ Try.func21 (by kernel_rfl) rfl #[.int .i64 r] (by rfl) rfl rfl (by simp only [List.map_toArray, List.map_cons, List.map_nil]; rfl) ?_
                  refine (num_calls w_23_10_11 _).mono ?_
                  rintro e w_23_10_11_12 ⟨rfl, hd_23_10_11_12⟩
                  have b_23_10_11_12 := hd_23_10_11_12.below
                  refine ⟨_, rfl, ?_⟩
                  have c_23_10_11_12_0 := (b_23_10_11_12).cell (World.block_lt_of_cell? _ _ c_23_10_11_0) |>.trans c_23_10_11_0
                  have c_23_10_11_12_1 := (b_23_10_11_12).cell (World.block_lt_of_cell? _ _ c_23_10_11_1) |>.trans c_23_10_11_1
                  have c_23_10_11_12_2 := (b_23_10_11_12).cell (World.block_lt_of_cell? _ _ c_23_10_11_2) |>.trans c_23_10_11_2
                  have B_23_10_11_12 := Aside0.mk b_23_10_11_12
                  clear b_23_10_11_12 hd_23_10_11_12
                  refine hK.out _ _ ⟨c_23_10_11_12_0, c_23_10_11_12_1, c_23_10_11_12_2⟩ (fun hHeld => ?_)
                  clear hK K
                  refine norm_ (a' := ?_) ?_ ?_
                  rotate_left
                  · show Act.put _ (some 67) _ = _
                    simp only [Act.put, zla, zlb, zlc, i64_w, i32_w]
                    rfl
                  refine last_ (i := 24) (N := some 79) #[true, true, true, true, true, true, true, true, true, true, true, true, true, true, true, true, true, true, true, true, true, true, true, true, true, false] rfl rfl (by kernel_rfl) (by decide) (fun K hK => ?_)
                  have BLq_23_10_11_12_24 := Aside0.mk (show Below w_23_10_11.heap.size w_23_10_11 w_23_10_11_12 from ((Below.refl w_23_10_11.heap.size w_23_10_11).trans (B_23_10_11_12.out.mono (Below.refl w_23_10_11.heap.size w_23_10_11).size)))
                  refine goes_ Try.func38 (by kernel_rfl) rfl #[.pointer (some ⟨p2, 0, none⟩), .string nmOwn, .slice A_23 1 e_23] (by rfl) rfl rfl (by simp only [List.map_toArray, List.map_cons, List.map_nil]; rfl) ?_
                  have ho_23_10_11_12_24 := Kd.R_below RR_23_10_11.out BLq_23_10_11_12_24.out
                  have hR_23_10_11_12_24 := ((HR.out.below BLp_23_10_11.out).upd HS_23_10_11.out.2 (fun k h2 h1 => HA.out k h1 h2)).below BLq_23_10_11_12_24.out
                  refine (rappend_calls w_23_10_11_12 p2 X2 (s i) nmOwn A_23 e_23 [IntKind.u8.wrap (wrap64 (100 + (i : Int)))] hR_23_10_11_12_24 HOK.out (lit_keep ho_23_10_11_12_24 HX2.out BLB_23.out) hc_23 (show (1 : Nat) ≤ 2 ^ 40 by decide)).mono ?_
                  rintro e w_23_10_11_12_24 ⟨rfl, hs_23_10_11_12_24⟩
                  rw [HAN.out] at hs_23_10_11_12_24 ⊢
                  refine ⟨_, rfl, ?_⟩
                  have HFI := Aside0.mk (fun (W : World) (hw : Below _ w_23_10_11_12_24 W) => pair_two HPJ.out HB.out HA.out HZ.out BLp_23_10_11.out HS_23_10_11.out BLq_23_10_11_12_24.out hs_23_10_11_12_24 hw)
                  have HWE := Aside0.mk (rfl : w_23_10_11_12_24 = w_23_10_11_12_24)
                  generalize w_23_10_11_12_24 = wz at *
                  refine hK.out _ _ ?_
                  clear hK K
                  refine norm_ (a' := ?_) ?_ ?_
                  rotate_left
                  · show Act.put _ (some 79) _ = _
                    simp only [Act.put, zla, zlb, zlc, i64_w, i32_w]
                    rfl
                  refine zq 25 (some 80) ?_
                  refine done_ (by kernel_rfl) ?_
                  go_wp2
                  go_roundw
                  case rel => exact ⟨i + 1, _, _, by simp, hlt, HMN.out.step hlt (HFI.out _ (by repeat (with_reducible first | exact Below.refl _ _ | apply below_drew | apply pw_below_drewN))) HOK2.out⟩
                  case measure => simp [intOf]; omega
              · obtain rfl : i = m + 2 := by omega
                have HMB := Aside0.mk hmn
                clear hmn
                go_wp2
                go_loopw [9] (fun iv wr => ManyB w (m + 2) b (.slice (some ad) (m + 2) cV) ops.length iv wr) (fun iv _ => ops.length - (intOf iv).toNat)
                case atStart => exact ⟨0, Z, s, rfl, Nat.zero_le _, HMB.out.below (by repeat (with_reducible first | exact Below.refl _ _ | apply below_drew | apply pw_below_drewN))⟩
                clear HMB
                case round =>
                  obtain ⟨i, Z, s, rfl, hle, hmn⟩ := hrel
                  have HMN := Aside0.mk hmn
                  by_cases hlt : i < ops.length
                  · skip
                    obtain ⟨ak, A5, c5, A6, c6, rfl, hcell, hin⟩ := op_at HR1.out hlt
                    obtain ⟨d0, d1, d2, d3, d4, d5, d6⟩ := hcell wr hmn.bel
                    have HG := Aside0.mk (HGD.out _ (List.getElem_mem hlt))
                    generalize ops[i] = o at *
                    obtain ⟨j, hj⟩ : ∃ j : Nat, j = (7 * i) % (m + 2) := ⟨_, rfl⟩
                    have hjm : j < m + 2 := by rw [hj]; exact Nat.mod_lt _ (by omega)
                    have hrem : Int.tmod (7 * (i : Int)) ((m : Int) + 2) = (j : Int) := by
                      rw [Int.tmod_eq_emod_of_nonneg (by omega), hj]
                      push_cast
                      rfl
                    have hw7 : wrap64 (7 * (i : Int)) = 7 * (i : Int) := w64 (by omega) (by omega)
                    have hwm : wrap64 ((m : Int) + 2) = (m : Int) + 2 := w64 (by omega) (by omega)
                    have hwj : wrap64 (j : Int) = (j : Int) := w64 (by omega) (by omega)
                    have hm2 : ¬ ((m : Int) + 2 = 0) := by omega
                    have hji : (j : Int) < (m : Int) + 2 := by omega
                    have hrow := hmn.at hjm
                    have HPJ := Aside0.mk (hmn.pr j hjm).1
                    have hbz := hmn.bel.size
                    have HPL := Aside0.mk (plays_calls wr.drew (b j) w.heap.size (Z j) (s j) o A5 c5 A6 c6 ((hmn.pr j hjm).1.below (below_drew (Below.refl _ _))) (hmn.pr j hjm).2 hbz (hmn.ge j hjm) (hin _ (below_drew hmn.bel)) HG.out.g HG.out.k)
                    have HOK := Aside0.mk ((hmn.pr j hjm).2.op HG.out.g)
                    clear hcell hin hmn hj
                    go_wp2
                    refine start_ (n := 14) (S := fun w' => w'.cell? (ad.add j) = some (.pointer (some ⟨b j, 0, none⟩)) ∧ w'.cell? (ak.add (i * 7)) = some (.int .i64 o.f0) ∧ w'.cell? ⟨(ak.add (i * 7)).block, (ak.add (i * 7)).off + 1, none⟩ = some (.int .i64 o.f1) ∧ w'.cell? ⟨(ak.add (i * 7)).block, (ak.add (i * 7)).off + 2, none⟩ = some (.string o.f2) ∧ w'.cell? ⟨(ak.add (i * 7)).block, (ak.add (i * 7)).off + 3, none⟩ = some (.int .i64 o.f3) ∧ w'.cell? ⟨(ak.add (i * 7)).block, (ak.add (i * 7)).off + 4, none⟩ = some (.int .i64 o.f4) ∧ w'.cell? ⟨(ak.add (i * 7)).block, (ak.add (i * 7)).off + 5, none⟩ = some (.slice A5 o.f5.length c5) ∧ w'.cell? ⟨(ak.add (i * 7)).block, (ak.add (i * 7)).off + 6, none⟩ = some (.slice A6 o.f6.length c6)) (ds := [12]) #[false, false, false, false, false, false, false, false, false, false, false, false, false, false] (by kernel_rfl) rfl rfl ⟨hrow, d0, d1, d2, d3, d4, d5, d6⟩ (fun hHeld => ?_)
                    refine zp 0 (some 87) ?_ rfl rfl (by kernel_rfl) (fun _ _ _ h => h) (by rfl) ?_ ?_ ?_ ?_ ?_
                    rotate_left; · (intro w'; go_simp; with_reducible rfl)
                    rotate_left 2; · (simp only [Act.put, zla, zlb, zlc, i64_w, i32_w, hw7, hwm, hrem, hwj]; rfl)
                    refine zp 1 (some 88) ?_ rfl rfl (by kernel_rfl) (fun _ _ _ h => h) (by rfl) ?_ ?_ ?_ ?_ ?_
                    rotate_left; · (intro w'; go_simp; with_reducible rfl)
                    rotate_left 2; · (simp only [Act.put, zla, zlb, zlc, i64_w, i32_w, hw7, hwm, hrem, hwj]; rfl)
                    refine zp 2 (some 89) ?_ rfl rfl (by kernel_rfl) (fun _ _ _ h => h) (by rfl) ?_ ?_ ?_ ?_ ?_
                    rotate_left; · (intro w'; go_simp; with_reducible rfl)
                    rotate_left 2; · (simp only [Act.put, zla, zlb, zlc, i64_w, i32_w, hw7, hwm, hrem, hwj]; rfl)
                    refine zp 3 (some 90) ?_ rfl rfl (by kernel_rfl) (fun _ _ _ h => h) (by rfl) ?_ ?_ ?_ ?_ ?_
                    rotate_left; · (intro w'; go_simp; with_reducible rfl)
                    rotate_left 2; · (simp only [Act.put, zla, zlb, zlc, i64_w, i32_w, hw7, hwm, hrem, hwj]; rfl)
                    refine zp 4 (some 91) ?_ rfl rfl (by kernel_rfl) (fun _ _ _ h => h) (by rfl) ?_ ?_ ?_ ?_ ?_
                    rotate_left; · (intro w'; go_simp; with_reducible rfl)
                    rotate_left 2; · (simp only [Act.put, zla, zlb, zlc, i64_w, i32_w, hw7, hwm, hrem, hwj]; rfl)
                    refine zp 5 (some 92) ?_ rfl rfl (by kernel_rfl) (fun _ _ _ h => h) (by rfl) ?_ ?_ ?_ ?_ ?_
                    rotate_left; · (intro w'; go_simp; with_reducible rfl)
                    rotate_left 2; · (simp only [Act.put, zla, zlb, zlc, i64_w, i32_w, hw7, hwm, hrem, hwj]; rfl)
                    refine zp 6 (some 93) ?_ rfl rfl (by kernel_rfl) (fun _ _ _ h => h) (by rfl) ?_ ?_ ?_ ?_ ?_
                    rotate_left; · (intro w'; go_simp; with_reducible rfl)
                    rotate_left 2; · (simp only [Act.put, zla, zlb, zlc, i64_w, i32_w, hw7, hwm, hrem, hwj]; rfl)
                    refine zp 8 (some 95) ?_ rfl rfl (by kernel_rfl) (fun _ _ _ h => h) (by rfl) ?_ ?_ ?_ ?_ ?_
                    rotate_left; · (intro w'; go_simp; with_reducible rfl)
                    rotate_left 2; · (simp only [Act.put, zla, zlb, zlc, i64_w, i32_w, hw7, hwm, hrem, hwj]; rfl)
                    refine zp 9 (some 96) ?_ rfl rfl (by kernel_rfl) (fun _ _ _ h => h) (by rfl) ?_ ?_ ?_ ?_ ?_
                    rotate_left; · (intro w'; go_simp; with_reducible rfl)
                    rotate_left 2; · (simp only [Act.put, zla, zlb, zlc, i64_w, i32_w, hw7, hwm, hrem, hwj]; rfl)
                    refine zp 10 (some 97) ?_ rfl rfl (by kernel_rfl) (fun _ _ _ h => h) (by rfl) ?_ ?_ ?_ ?_ ?_
                    rotate_left; · (intro w'; go_simp; with_reducible rfl)
                    rotate_left 2; · (simp only [Act.put, zla, zlb, zlc, i64_w, i32_w, hw7, hwm, hrem, hwj]; rfl)
                    refine zt 7 (some 94) ?_ rfl rfl (by kernel_rfl) (fun _ _ _ h => h) (by rfl) ?_ hHeld ?_ ?_ ?_ ?_
                    rotate_left; · (rintro w' ⟨s0, s1, s2, s3, s4, s5, s6, s7⟩; go_simp; with_reducible rfl)
                    rotate_left 2; · (simp only [Act.put, zla, zlb, zlc, i64_w, i32_w, hw7, hwm, hrem, hwj]; rfl)
                    refine zt 11 (some 98) ?_ rfl rfl (by kernel_rfl) (fun _ _ _ h => h) (by rfl) ?_ hHeld ?_ ?_ ?_ ?_
                    rotate_left; · (rintro w' ⟨s0, s1, s2, s3, s4, s5, s6, s7⟩; go_simp; with_reducible rfl)
                    rotate_left 2; · (simp only [Act.put, zla, zlb, zlc, i64_w, i32_w, hw7, hwm, hrem, hwj]; rfl)
                    refine last_ (i := 12) (N := some 99) #[true, true, true, true, true, true, true, true, true, true, true, true, true, false] rfl rfl (by kernel_rfl) (by decide) (fun K hK => ?_)
                    refine goes_ Try.func29 (by kernel_rfl) rfl #[.pointer (some ⟨b j, 0, none⟩), .agg #[.int .i64 o.f0, .int .i64 o.f1, .string o.f2, .int .i64 o.f3, .int .i64 o.f4, .slice A5 o.f5.length c5, .slice A6 o.f6.length c6]] (by rfl) rfl rfl (by simp only [List.map_toArray, List.map_cons, List.map_nil]; rfl) ?_
                    refine HPL.out.mono ?_
                    rintro e w5 ⟨rfl, hs⟩
                    refine ⟨_, rfl, ?_⟩
                    have HS := Aside0.mk (hs.early (below_drew (Below.refl _ _)) HPJ.out.lt HPJ.out.bd HPJ.out.nb)
                    clear hs
                    refine hK.out _ _ ?_
                    clear hK K
                    refine norm_ (a' := ?_) ?_ ?_
                    rotate_left
                    · show Act.put _ (some 99) _ = _
                      simp only [Act.put, zla, zlb, zlc, i64_w, i32_w, hw7, hwm, hrem, hwj]
                      rfl
                    refine zp 13 (some 100) ?_ rfl rfl (by kernel_rfl) (fun _ _ _ h => h) (by rfl) ?_ ?_ ?_ ?_ ?_
                    rotate_left; · (intro w'; go_simp; with_reducible rfl)
                    rotate_left 2; · (simp only [Act.put, zla, zlb, zlc, i64_w, i32_w, hw7, hwm, hrem, hwj]; rfl)
                    refine done_ (by kernel_rfl) ?_
                    go_wp2
                    go_roundw
                    case rel => exact ⟨i + 1, _, _, by simp, hlt, (HMN.out.step hjm HS.out HOK.out).below (by repeat (with_reducible first | exact Below.refl _ _ | apply below_drew | apply pw_below_drewN))⟩
                    case measure => simp [intOf]; omega
                  · obtain rfl : i = ops.length := by omega
                    clear hmn
                    go_wp2
                    go_loopw [10] (fun iv wr => ManyB w (m + 2) b (.slice (some ad) (m + 2) cV) (m + 2) iv wr) (fun iv _ => m + 2 - (intOf iv).toNat)
                    case atStart => exact ⟨0, Z, s, rfl, Nat.zero_le _, HMN.out.below (by repeat (with_reducible first | exact Below.refl _ _ | apply below_drew | apply pw_below_drewN))⟩
                    clear HMN
                    case round =>
                      obtain ⟨i, Z, s, rfl, hle, hmn⟩ := hrel
                      have HMN := Aside0.mk hmn
                      by_cases hlt : i < m + 2
                      · skip
                        have hrow := hmn.at hlt
                        have HOK := Aside0.mk (hmn.pr i hlt).2
                        obtain ⟨p1, p2, X1, X2, hbk, hP, hR, _⟩ := (hmn.pr i hlt).1.disks
                        have q0 := blk_cell hbk 0
                        have q1 := blk_cell hbk 1
                        have fq0 := blk_frozen hbk 0
                        have fq1 := blk_frozen hbk 1
                        simp only [List.getElem?_toArray, List.getElem?_cons_succ, List.getElem?_cons_zero] at q0 q1
                        have HP := Aside0.mk hP
                        have HR := Aside0.mk hR
                        clear hbk hP hR hmn
                        go_wp2
                        refine start_ (n := 18) (S := fun w' => w'.cell? (ad.add i) = some (.pointer (some ⟨b i, 0, none⟩)) ∧ w'.cell? ⟨b i, 0, none⟩ = some (.pointer (some ⟨p1, 0, none⟩)) ∧ w'.cell? ⟨b i, 1, none⟩ = some (.pointer (some ⟨p2, 0, none⟩))) (ds := [16]) #[false, false, false, false, false, false, false, false, false, false, false, false, false, false, false, false, false, false] (by kernel_rfl) rfl rfl ⟨hrow, q0, q1⟩ (fun hHeld => ?_)
                        refine zq 0 (some 107) ?_
                        refine zq 1 (some 108) ?_
                        refine zq 2 (some 109) ?_
                        refine zq 8 (some 115) ?_
                        refine zq 9 (some 116) ?_
                        refine zq 10 (some 117) ?_
                        refine zu 3 (some 110) hHeld ?_
                        refine zq 4 (some 111) ?_
                        refine zq 5 (some 112) ?_
                        refine zu 6 (some 113) hHeld ?_
                        refine zu 11 (some 118) hHeld ?_
                        refine zq 12 (some 119) ?_
                        refine zq 13 (some 120) ?_
                        refine zu 14 (some 121) hHeld ?_
                        refine one_ (i := 7) (N := some 114) #[true, true, true, true, true, true, true, true, true, true, true, true, true, true, true, false, false, false] rfl rfl (by kernel_rfl) (by decide) (fun K hK => ?_)
                        refine goes_ Try.func18 (by kernel_rfl) rfl #[.pointer (some ⟨p1, 0, none⟩)] (by rfl) rfl rfl (by simp only [List.map_toArray, List.map_cons, List.map_nil]; rfl) ?_
                        refine (files_calls wr.drew p1 X1 (s i) (HP.out.below (below_drew (Below.refl _ _))) HOK.out).mono ?_
                        rintro e wa ⟨va, rfl, ra, ba⟩
                        obtain ⟨Aa, ca, rfl, hca, hCa⟩ := Kd.R_reads ra
                        refine ⟨_, rfl, ?_⟩
                        have HCa := Aside0.mk hCa
                        have Ba := Aside0.mk ba
                        have ca_0 := (Ba.out).cell (World.block_lt_of_cell? _ _ (show wr.drew.cell? _ = _ from hrow)) |>.trans (show wr.drew.cell? _ = _ from hrow)
                        have ca_1 := (Ba.out).cell (World.block_lt_of_cell? _ _ (show wr.drew.cell? _ = _ from q0)) |>.trans (show wr.drew.cell? _ = _ from q0)
                        have ca_2 := (Ba.out).cell (World.block_lt_of_cell? _ _ (show wr.drew.cell? _ = _ from q1)) |>.trans (show wr.drew.cell? _ = _ from q1)
                        have BLa := Aside0.mk ((below_drew (Below.refl wr.heap.size wr)).trans ba)
                        clear ra ba hCa
                        refine hK.out _ _ ⟨ca_0, ca_1, ca_2⟩ (fun hHeld => ?_)
                        clear hK K
                        refine norm_ (a' := ?_) ?_ ?_
                        rotate_left
                        · show Act.put _ (some 114) _ = _
                          simp only [Act.put, zla, zlb, zlc, i64_w, i32_w]
                          rfl
                        refine one_ (i := 15) (N := some 122) #[true, true, true, true, true, true, true, true, true, true, true, true, true, true, true, true, false, false] rfl rfl (by kernel_rfl) (by decide) (fun K hK => ?_)
                        refine goes_ Try.func19 (by kernel_rfl) rfl #[.pointer (some ⟨p2, 0, none⟩)] (by rfl) rfl rfl (by simp only [List.map_toArray, List.map_cons, List.map_nil]; rfl) ?_
                        refine (rfiles_calls wa p2 X2 (s i) (HR.out.below BLa.out) HOK.out).mono ?_
                        rintro e wb ⟨vb, rfl, rb, bb⟩
                        obtain ⟨Ab, cb, rfl, hcb, hCb⟩ := Kd.R_reads rb
                        refine ⟨_, rfl, ?_⟩
                        have HCb := Aside0.mk hCb
                        have HCab := Aside0.mk (Kd.C_below HCa.out bb)
                        have Bb := Aside0.mk bb
                        have cb_0 := (Bb.out).cell (World.block_lt_of_cell? _ _ ca_0) |>.trans ca_0
                        have cb_1 := (Bb.out).cell (World.block_lt_of_cell? _ _ ca_1) |>.trans ca_1
                        have cb_2 := (Bb.out).cell (World.block_lt_of_cell? _ _ ca_2) |>.trans ca_2
                        have BLb := Aside0.mk (BLa.out.trans (bb.mono BLa.out.size))
                        clear rb bb hCb
                        refine hK.out _ _ ⟨cb_0, cb_1, cb_2⟩ (fun hHeld => ?_)
                        clear hK K
                        refine norm_ (a' := ?_) ?_ ?_
                        rotate_left
                        · show Act.put _ (some 122) _ = _
                          simp only [Act.put, zla, zlb, zlc, i64_w, i32_w]
                          rfl
                        refine last_ (i := 16) (N := some 123) #[true, true, true, true, true, true, true, true, true, true, true, true, true, true, true, true, true, false] rfl rfl (by kernel_rfl) (by decide) (fun K hK => ?_)
                        refine goes_ Try.func17 (by kernel_rfl) rfl #[.slice Aa (files67 (s i)).length ca, .slice Ab (files67 (s i)).length cb] (by rfl) rfl rfl (by simp only [List.map_toArray, List.map_cons, List.map_nil]; rfl) ?_
                        refine (alike_same wb Aa ca (files67 (s i)) Ab cb HCab.out hca HCb.out hcb (by rw [files67_len]; have := HOK.out.few; omega) (files67_small HOK.out)).mono ?_
                        rintro e wc ⟨rfl, bc⟩
                        refine ⟨_, rfl, ?_⟩
                        have BLc := Aside0.mk (BLb.out.trans (bc.mono BLb.out.size))
                        clear bc
                        refine hK.out _ _ ?_
                        clear hK K
                        refine norm_ (a' := ?_) ?_ ?_
                        rotate_left
                        · show Act.put _ (some 123) _ = _
                          simp only [Act.put, zla, zlb, zlc, i64_w, i32_w]
                          rfl
                        refine zq 17 (some 124) ?_
                        refine done_ (by kernel_rfl) ?_
                        go_wp2
                        go_roundw
                        case rel => exact ⟨i + 1, Z, s, by simp, hlt, HMN.out.below (BLc.out.trans ((show Below wc.heap.size wc _ by repeat (with_reducible first | exact Below.refl _ _ | apply below_drew | apply pw_below_drewN)).mono BLc.out.size))⟩
                        case measure => simp [intOf]; omega
                      · obtain rfl : i = m + 2 := by omega
                        clear hmn
                        go_wp2
                        go_ret
                        exact ⟨rfl, HMN.out.bel.trans ((show Below wr.heap.size wr _ by repeat (with_reducible first | exact Below.refl _ _ | apply below_drew | apply pw_below_drewN)).mono HMN.out.bel.size)⟩
end Go.Proofs.Ytfholpajdkjbbaa.DK
