/- DiskPoints: every byte and every call is a place to fall; conditions: those in each theorem. -/
import Derived.Test.YtfholpajdkjbbaaQdLw
import Derived.Test.YtfholpajdkjbbaaQdOc
namespace Go.Proofs.Ytfholpajdkjbbaa.DK
open Go.Proofs.Ytfholpajdkjbbaa.PD
open Go.RowKit Go.Proofs.YtfholpajdkjbbaaW.PrintWords Go.Proofs.YtfholpajdkjbbaaW.PrintLast Go.Proofs.YtfholpajdkjbbaaW.PrintMore Go.Proofs.Ytfholpajdkjbbaa.Mo
set_option linter.unusedVariables false
set_option linter.unusedSimpArgs false
def Trio (w0 w : World) (p1 p2 p3 : Nat) (s1 s2 s3 : St) : Prop :=
  Below w0.heap.size w0 w ∧ ∃ X1 X2 X3, (Prog w p1 X1 s1 ∧ Prog w p2 X2 s2 ∧ Prog w p3 X3 s3) ∧ (Ok s1 ∧ Ok s2 ∧ Ok s3) ∧ ((∀ k, X1 k → ¬ X2 k) ∧ (∀ k, X2 k → ¬ X3 k) ∧ ∀ k, X3 k → ¬ X1 k) ∧ ∀ k, X1 k ∨ X2 k ∨ X3 k → w0.heap.size ≤ k
theorem Trio.rot {w0 w : World} {p1 p2 p3 : Nat} {s1 s2 s3 : St} (h : Trio w0 w p1 p2 p3 s1 s2 s3) : Trio w0 w p2 p3 p1 s2 s3 s1 := by
  obtain ⟨hb, X1, X2, X3, ⟨a1, a2, a3⟩, ⟨b1, b2, b3⟩, ⟨c1, c2, c3⟩, d⟩ := h
  exact ⟨hb, X2, X3, X1, ⟨a2, a3, a1⟩, ⟨b2, b3, b1⟩, ⟨c2, c3, c1⟩, fun k hk => d k (hk.elim (fun h => .inr (.inl h)) (fun h => h.elim (fun h => .inr (.inr h)) .inl))⟩
theorem Trio.below {w0 w w' : World} {p1 p2 p3 : Nat} {s1 s2 s3 : St} (h : Trio w0 w p1 p2 p3 s1 s2 s3) (hb : Below w.heap.size w w') : Trio w0 w' p1 p2 p3 s1 s2 s3 := by
  obtain ⟨h0, X1, X2, X3, ⟨a1, a2, a3⟩, b, c, d⟩ := h
  exact ⟨h0.trans (hb.mono h0.size), X1, X2, X3, ⟨a1.below hb, a2.below hb, a3.below hb⟩, b, c, d⟩
theorem Trio.open_ {w0 w : World} {p1 p2 p3 : Nat} {s1 s2 s3 : St} (h : Trio w0 w p1 p2 p3 s1 s2 s3) :
    Below w0.heap.size w0 w ∧ ∃ X1, Prog w p1 X1 s1 ∧ Ok s1 ∧ (∀ k, X1 k → w0.heap.size ≤ k) ∧ ∀ w' s, PStep p1 X1 w w' s → Ok s → Trio w0 w' p1 p2 p3 s s2 s3 := by
  obtain ⟨hb, X1, X2, X3, ⟨a1, a2, a3⟩, ⟨b1, b2, b3⟩, ⟨c1, c2, c3⟩, d⟩ := h
  refine ⟨hb, X1, a1, b1, fun k hk => d k (.inl hk), fun w' s hs ok => ⟨hb.trans (hs.2.below hb.size (fun k hk => d k (.inl hk))), More X1 w w', X2, X3, ⟨hs.1, a2.upd hs.2 (fun k a b => c1 k b a), a3.upd hs.2 (fun k a b => c3 k a b)⟩, ⟨ok, b2, b3⟩, ⟨fun k hk h2k => hk.elim (fun hk => c1 k hk h2k) (fun hk => absurd (a2.bd k h2k) (Nat.not_lt.2 hk.1)), c2, fun k h3k hk => hk.elim (fun hk => c3 k h3k hk) (fun hk => absurd (a3.bd k h3k) (Nat.not_lt.2 hk.1))⟩, fun k hk => ?_⟩⟩
  rcases hk with (hk | hk) | hk
  · exact d k (.inl hk)
  · exact Nat.le_trans hb.size hk.1
  · exact d k (.inr hk)
theorem Trio.duo {w0 w : World} {p1 p2 p3 : Nat} {s1 s2 s3 : St} (h : Trio w0 w p1 p2 p3 s1 s2 s3) : Duo w0 w p2 p3 s2 s3 := by
  obtain ⟨hb, X1, X2, X3, ⟨a1, a2, a3⟩, ⟨b1, b2, b3⟩, ⟨c1, c2, c3⟩, d⟩ := h
  exact ⟨hb, X2, X3, a2, a3, b2, b3, c2, fun k hk => d k (.inr hk)⟩
theorem works_trio {w0 w : World} {p1 p2 p3 : Nat} {s2 s3 : St} (h : Trio w0 w p1 p2 p3 (stOf []) s2 s3) : Calls Try.prog 22 #[.pointer (some ⟨p1, 0, none⟩)] w fun e w' => e = .returned (.bool true) ∧ Trio w0 w' p1 p2 p3 (stOf []) s2 s3 := by
  obtain ⟨hb, X1, hP, ok, hX, hn⟩ := h.open_
  exact (works_calls w p1 X1 hP).mono (fun e w' ⟨a, b⟩ => ⟨a, hn _ _ b ok_empty⟩)
theorem does_trio {w0 w : World} {p1 p2 p3 : Nat} {s1 s2 s3 : St} (h : Trio w0 w p1 p2 p3 s1 s2 s3) (o : S41) (A5 : Option Addr) (c5 : Nat) (A6 : Option Addr) (c6 : Nat) (hin : ∀ wr, Below w0.heap.size w0 wr → OpIn wr w0.heap.size o.f5 A5 c5 o.f6 A6 c6) (g : Mo.Good o) :
    Calls Try.prog 23 #[.pointer (some ⟨p1, 0, none⟩), .agg #[.int .i64 o.f0, .int .i64 o.f1, .string o.f2, .int .i64 o.f3, .int .i64 o.f4, .slice A5 o.f5.length c5, .slice A6 o.f6.length c6]] w fun e w' => e = .returned (.int .i64 (s1.op o).2) ∧ Trio w0 w' p1 p2 p3 (s1.op o).1 s2 s3 := by
  obtain ⟨hb, X1, hP, ok, hX, hn⟩ := h.open_
  refine (does_calls w p1 w0.heap.size X1 s1 o A5 c5 A6 c6 hP ok hb.size hX (hin w hb) g).mono ?_
  rintro e w' ⟨rfl, hs⟩
  exact ⟨rfl, hn _ _ hs (ok.op g)⟩
theorem does_duo {w0 w : World} {p1 p2 : Nat} {s1 s2 : St} (h : Duo w0 w p1 p2 s1 s2) (o : S41) (A5 : Option Addr) (c5 : Nat) (A6 : Option Addr) (c6 : Nat) (hin : ∀ wr, Below w0.heap.size w0 wr → OpIn wr w0.heap.size o.f5 A5 c5 o.f6 A6 c6) (g : Mo.Good o) :
    Calls Try.prog 23 #[.pointer (some ⟨p1, 0, none⟩), .agg #[.int .i64 o.f0, .int .i64 o.f1, .string o.f2, .int .i64 o.f3, .int .i64 o.f4, .slice A5 o.f5.length c5, .slice A6 o.f6.length c6]] w fun e w' => e = .returned (.int .i64 (s1.op o).2) ∧ Duo w0 w' p1 p2 (s1.op o).1 s2 := by
  obtain ⟨hb, X1, hP, ok, hX, hn⟩ := h.open_
  refine (does_calls w p1 w0.heap.size X1 s1 o A5 c5 A6 c6 hP ok hb.size hX (hin w hb) g).mono ?_
  rintro e w' ⟨rfl, hs⟩
  exact ⟨rfl, hn _ _ hs (ok.op g)⟩
theorem arm_duo {w0 w : World} {p1 p2 : Nat} {s1 s2 : St} (h : Duo w0 w p1 p2 s1 s2) (u : Int) (hu : u ≤ 9223372036854775807) : Calls Try.prog 30 #[.pointer (some ⟨p1, 0, none⟩), .int .i64 u] w fun e w' => e = .returned (.tuple #[]) ∧ Duo w0 w' p1 p2 (s1.arm u) s2 := by
  obtain ⟨hb, X1, hP, ok, hX, hn⟩ := h.open_
  refine (arm_calls w p1 X1 s1 u hP).mono ?_
  rintro e w' ⟨rfl, hs⟩
  exact ⟨rfl, hn _ _ hs (ok.arm u hu)⟩
theorem append_duo {w0 w : World} {p1 p2 : Nat} {s1 s2 : St} (h : Duo w0 w p1 p2 s1 s2) (nm : ByteArray) (A : Option Addr) (n c : Nat) (data : List Int) (hn : data.length = n) (hr : ∀ wr, Below w0.heap.size w0 wr → (Kd.int .u8).C wr A data.length data) (hc : data.length ≤ c) (hl : data.length ≤ 2 ^ 40) :
    Calls Try.prog 32 #[.pointer (some ⟨p1, 0, none⟩), .string nm, .slice A n c] w fun e w' => e = .returned (.int .i64 (s1.append nm data).2) ∧ Duo w0 w' p1 p2 (s1.append nm data).1 s2 := by
  subst hn
  obtain ⟨hb, X1, hP, ok, hX, hn⟩ := h.open_
  refine (append_calls w p1 X1 s1 nm A c data hP ok (fun w' hu => hr w' (hb.trans (hu.below hb.size hX))) hc hl).mono ?_
  rintro e w' ⟨rfl, hs⟩
  exact ⟨rfl, hn _ _ hs (ok.append nm data)⟩
theorem cost_calls (w : World) (o : S41) (A5 : Option Addr) (c5 : Nat) (A6 : Option Addr) (c6 : Nat) (hin : OpIn w w.heap.size o.f5 A5 c5 o.f6 A6 c6) (hb : o.f5.length ≤ 2 ^ 40) :
    Calls Try.prog 31 #[.agg #[.int .i64 o.f0, .int .i64 o.f1, .string o.f2, .int .i64 o.f3, .int .i64 o.f4, .slice A5 o.f5.length c5, .slice A6 o.f6.length c6]] w fun e w' => e = .returned (.int .i64 (costO o)) ∧ Below w.heap.size w w' := by
  refine PD.eddylaw10_cost.calls _ _ _ _ _ A5 c5 o.f5 A6 c6 o.f6 (costO o) w (hin.r5 w (Below.refl _ _)) hin.l5 (hin.r6 w (Below.refl _ _)) hin.l6 ?_
  unfold PD.eddylaw10_cost.f costO
  by_cases h : o.f0 = 1
  · rw [if_pos h, if_pos h, w64 (by omega) (by omega)]
  · rw [if_neg h, if_neg h]
abbrev at_ (ops : List S41) (i : Nat) : St := (stOf []).ops (ops.take i)
theorem OpIn.up {w : World} {B B' : Nat} {bs : List Int} {A5 : Option Addr} {c5 : Nat} {ks : List Int} {A6 : Option Addr} {c6 : Nat} (h : OpIn w B bs A5 c5 ks A6 c6) (hb : B ≤ B') : OpIn w B' bs A5 c5 ks A6 c6 :=
  ⟨h.l5, h.l6, fun w' h2 => h.r5 w' (h2.mono hb), fun w' h2 => h.r6 w' (h2.mono hb)⟩
theorem arm_at (ops : List S41) {L : Int} (h : 0 ≤ L) : (stOf []).arm L = (at_ ops 0).withL L := by
  unfold St.arm
  rw [if_neg (show ¬ (stOf []).down = true from fun h => by cases h)]
  show ({ stOf [] with left := max L (-1) } : St) = { stOf [] with left := L }
  rw [show max L (-1) = L by omega]
theorem files_all {s t : St} (h : s.all = t.all) : files67 s = files67 t := by
  unfold files67 St.files
  rw [h]
def Kinds (ops : List S41) (i : Nat) : Prop := ∀ j o, j < i → ops[j]? = some o → 1 ≤ o.f0 ∧ o.f0 ≤ 4
def KindsE (w : World) (ops : List S41) (iv : Value) (wr : World) : Prop := ∃ i : Nat, iv = .int .i64 i ∧ i ≤ ops.length ∧ Below w.heap.size w wr ∧ Kinds ops i
theorem Kinds.step {ops : List S41} {i : Nat} (h : Kinds ops i) {o : S41} (ho : ops[i]? = some o) (h1 : 1 ≤ o.f0) (h4 : o.f0 ≤ 4) : Kinds ops (i + 1) := fun j x hj hx => by
  rcases Nat.lt_succ_iff_lt_or_eq.1 hj with hj | rfl
  · exact h j x hj hx
  · rw [ho] at hx
    obtain rfl := Option.some.inj hx
    exact ⟨h1, h4⟩
def Free (ops : List S41) (i : Nat) : Prop := ∀ j o, j < i → ops[j]? = some o → ((at_ ops j).op o).2 = 0
theorem Free.step {ops : List S41} {i : Nat} (h : Free ops i) {o : S41} (ho : ops[i]? = some o) (h1 : ((at_ ops i).op o).2 = 0) : Free ops (i + 1) := fun j x hj hx => by
  rcases Nat.lt_succ_iff_lt_or_eq.1 hj with hj | rfl
  · exact h j x hj hx
  · rw [ho] at hx
    obtain rfl := Option.some.inj hx
    exact h1
theorem at_step {ops : List S41} {i : Nat} {o : S41} (ho : ops[i]? = some o) : at_ ops (i + 1) = ((at_ ops i).op o).1 := by
  unfold at_
  rw [List.take_add_one, ho]
  exact ops_snoc _ _ _
theorem at_norig {ops : List S41} (hk : Kinds ops ops.length) (hf : Free ops ops.length) : ∀ i, i ≤ ops.length → NoRig (at_ ops i)
  | 0, _ => ⟨rfl, rfl, rfl⟩
  | i + 1, hi => by
    have ho := List.getElem?_eq_getElem (show i < ops.length from hi)
    have h1 := hk i _ hi ho
    rw [at_step ho]
    exact op_norig (at_norig hk hf i (by omega)) h1.1 h1.2 (hf i _ hi ho)
def FreeE (w : World) (p1 p2 p3 : Nat) (ops : List S41) (iv : Value) (wr : World) : Prop := ∃ i : Nat, iv = .int .i64 i ∧ i ≤ ops.length ∧ Free ops i ∧ Trio w wr p1 p2 p3 (at_ ops i) (stOf []) (stOf [])
def GoE (w : World) (p2 p3 : Nat) (ops : List S41) (lv iv : Value) (wr : World) : Prop := ∃ (i : Nat) (L : Int), iv = .int .i64 i ∧ lv = .int .i64 L ∧ i ≤ ops.length ∧ 0 ≤ L ∧ L ≤ 9223372036854775807 ∧ Duo w wr p2 p3 ((at_ ops i).withL L) (at_ ops i)
/-- Behind the place where it falls. -/
def downE (w : World) (p2 p3 : Nat) (n a : Nat) (s0 s1 sp : St) (iv : Value) (wr : World) : Prop := ∃ i : Nat, iv = .int .i64 i ∧ a ≤ i ∧ i ≤ n ∧ Duo w wr p2 p3 (if i = a then s0 else s1) sp
set_option maxHeartbeats 32000000 in
set_option maxRecDepth 100000 in
theorem points_calls (w : World) (A1 : Option Addr) (c1 : Nat) (ops : List S41) (hr1 : k41.C w A1 ops.length ops) (hc1 : ops.length ≤ c1) (hl1 : ops.length ≤ 1048576) (hb1 : bulkO ops ≤ 1048576) (hg : ∀ o ∈ ops, GoodK o) (un : Int) (hun : -9223372036854775808 ≤ un ∧ un ≤ 9223372036854775807) :
    Calls Try.prog 11 #[.slice A1 ops.length c1, .int .i64 un] w fun e w' => e = .returned (.bool true) ∧ Below w.heap.size w w' := by
  have HF := Aside0.mk (fits_calls w none 0 [] A1 c1 ops (Kd.C_nil _ _) (Nat.le_refl _) hr1 hc1 (by decide) (by omega) (by simp only [bulkF]; omega))
  have HR1 := Aside0.mk hr1
  have HGD := Aside0.mk hg
  obtain ⟨hun0, hun1⟩ := hun
  clear hr1 hg hb1
  cases hfit : fitsB [] ops with
  | false =>
    rw [hfit] at HF
    clear hfit
    go_enter Try.func11, Try.ntmps11
    go_wp2_with fail
    refine HF.out.mono ?_
    rintro e w1 ⟨rfl, ⟨⟨nd, rfl⟩⟩⟩
    go_wp2
    go_ret
    exact ⟨rfl, pw_below_drewN (Below.refl _ _) _⟩
  | true =>
    rw [hfit] at HF
    clear hfit
    go_enter Try.func11, Try.ntmps11
    go_wp2_with fail
    refine HF.out.mono ?_
    rintro e w1 ⟨rfl, ⟨⟨nd, rfl⟩⟩⟩
    go_wp2
    go_loopw [5] (fun iv wr => KindsE w ops iv wr) (fun iv _ => ops.length - (intOf iv).toNat)
    case atStart => exact ⟨0, rfl, Nat.zero_le _, by repeat (with_reducible first | exact Below.refl _ _ | apply below_drew | apply pw_below_drewN), fun j o hj _ => absurd hj (Nat.not_lt_zero _)⟩
    case round =>
      obtain ⟨i, rfl, hle, hbel, hkd⟩ := hrel
      have HB := Aside0.mk hbel
      have HKD := Aside0.mk hkd
      by_cases hlt : i < ops.length
      · obtain ⟨ad, A5, c5, A6, c6, rfl, hcell, hin⟩ := op_at HR1.out hlt
        obtain ⟨d0, d1, d2, d3, d4, d5, d6⟩ := hcell wr hbel
        have HOI := Aside0.mk (List.getElem?_eq_getElem hlt)
        generalize ops[i] = o at *
        clear hcell hin hbel hkd
        by_cases h1 : o.f0 < 1
        · go_wp2
          go_ret
          exact ⟨rfl, by repeat (with_reducible first | exact HB.out | apply below_drew | apply pw_below_drewN)⟩
        · by_cases h4 : 4 < o.f0
          · go_wp2
            go_ret
            exact ⟨rfl, by repeat (with_reducible first | exact HB.out | apply below_drew | apply pw_below_drewN)⟩
          · go_wp2
            go_roundw
            case rel => exact ⟨i + 1, by simp, hlt, by repeat (with_reducible first | exact HB.out | apply below_drew | apply pw_below_drewN), HKD.out.step HOI.out (by omega) (by omega)⟩
            case measure => simp [intOf]; omega
      · have hi : i = ops.length := by omega
        subst hi
        clear hbel hkd
        go_wp2_with fail
        refine (new0_calls _).mono ?_
        rintro e w2 ⟨p1, rfl, hP1, b2⟩
        have HP1 := Aside0.mk hP1
        have HB2 := Aside0.mk (HB.out.trans (((show Below wr.heap.size wr _ by repeat (with_reducible first | exact Below.refl _ _ | apply below_drew | apply pw_below_drewN)).trans b2).mono HB.out.size))
        clear hP1 b2
        go_wp2_with fail
        refine (new0_calls _).mono ?_
        rintro e w3 ⟨p2, rfl, hP2, b3⟩
        have HP2 := Aside0.mk hP2
        have HB3 := Aside0.mk b3
        clear hP2 b3
        go_wp2_with fail
        refine (new0_calls _).mono ?_
        rintro e w4 ⟨p3, rfl, hP3, b4⟩
        have HTR := Aside0.mk (show Trio w w4 p1 p2 p3 (stOf []) (stOf []) (stOf []) from
          ⟨(HB2.out.trans (HB3.out.mono HB2.out.size)).trans (b4.mono (Nat.le_trans HB2.out.size HB3.out.size)), _, _, _, ⟨(HP1.out.below HB3.out).below (b4.mono (Nat.le_refl _)), HP2.out.below b4, hP3⟩, ⟨ok_empty, ok_empty, ok_empty⟩,
            ⟨fun k h1 h2 => absurd (HP1.out.bd k h1) (Nat.not_lt.2 h2.1), fun k h2 h3 => absurd (HP2.out.bd k h2) (Nat.not_lt.2 h3.1), fun k h3 h1 => absurd (Nat.lt_of_lt_of_le (HP1.out.bd k h1) HB3.out.size) (Nat.not_lt.2 h3.1)⟩,
            fun k hk => hk.elim (fun h => Nat.le_trans HB.out.size h.1) (fun hk => hk.elim (fun h => Nat.le_trans HB2.out.size h.1) (fun h => Nat.le_trans (Nat.le_trans HB2.out.size HB3.out.size) h.1))⟩)
        clear hP3 b4 HP1 HP2 HB2 HB3
        go_wp2_with fail
        refine (num_calls _ _).mono ?_
        rintro e w5 ⟨rfl, ⟨⟨nd5, rfl⟩⟩⟩
        go_wp2_with fail
        refine (num_calls _ _).mono ?_
        rintro e w6 ⟨rfl, ⟨⟨nd6, rfl⟩⟩⟩
        go_wp2_with fail
        refine (num_calls _ _).mono ?_
        rintro e w7 ⟨rfl, ⟨⟨nd7, rfl⟩⟩⟩
        have HT7 := Aside0.mk (HTR.out.below (pw_below_drewN (Below.refl _ _) (nd5 + nd6 + nd7)))
        go_wp2_with fail
        refine (works_trio HT7.out).mono ?_
        rintro e w8 ⟨rfl, ht⟩
        have HT8 := Aside0.mk ht.rot
        clear ht
        go_wp2_with fail
        refine (works_trio HT8.out).mono ?_
        rintro e w9 ⟨rfl, ht⟩
        have HT9 := Aside0.mk ht.rot
        clear ht
        go_wp2_with fail
        refine (works_trio HT9.out).mono ?_
        rintro e w10 ⟨rfl, ht⟩
        have HT10 := Aside0.mk ht.rot
        clear ht
        go_wp2
        go_loopw [12] (fun iv wr => FreeE w p1 p2 p3 ops iv wr) (fun iv _ => ops.length - (intOf iv).toNat)
        case atStart => exact ⟨0, rfl, Nat.zero_le _, fun j o hj _ => absurd hj (Nat.not_lt_zero _), HT10.out.below (by repeat (with_reducible first | exact Below.refl _ _ | apply below_drew | apply pw_below_drewN))⟩
        case round =>
          obtain ⟨i, rfl, hle, hfr, htr⟩ := hrel
          have HFR := Aside0.mk hfr
          have HTR := Aside0.mk htr
          by_cases hlt : i < ops.length
          · obtain ⟨ad, A5, c5, A6, c6, rfl, hcell, hin⟩ := op_at HR1.out hlt
            obtain ⟨d0, d1, d2, d3, d4, d5, d6⟩ := hcell _ htr.1
            have HOI := Aside0.mk (List.getElem?_eq_getElem hlt)
            have HG := Aside0.mk (HGD.out _ (List.getElem_mem hlt))
            generalize ops[i] = o at *
            have HDO := Aside0.mk (fun (W : World) (hw : Below wr.heap.size wr W) => does_trio (HTR.out.below hw) o A5 c5 A6 c6 hin HG.out.g)
            have HAT := Aside0.mk (at_step HOI.out)
            clear hcell hin hfr htr
            go_wp2_with fail
            refine (HDO.out _ ?hw).mono ?_
            case hw => repeat (with_reducible first | exact Below.refl _ _ | apply below_drew | apply pw_below_drewN)
            rintro e w5 ⟨rfl, ht⟩
            rw [← HAT.out] at ht
            have HT := Aside0.mk ht
            clear ht
            by_cases hz : ((at_ ops i).op o).2 = 0
            · have HZ := Aside0.mk (HFR.out.step HOI.out hz)
              rw [hz]
              clear hz
              go_wp2
              go_roundw
              case rel => exact ⟨i + 1, by simp, hlt, HZ.out, HT.out.below (by repeat (with_reducible first | exact Below.refl _ _ | apply below_drew | apply pw_below_drewN))⟩
              case measure => simp [intOf]; omega
            · generalize ((at_ ops i).op o).2 = r at *
              have hb : (r != 0) = true := by simpa using hz
              clear hz
              go_wp2
              go_ret
              exact ⟨rfl, HT.out.1.trans ((show Below w5.heap.size w5 _ by repeat (with_reducible first | exact Below.refl _ _ | apply below_drew | apply pw_below_drewN)).mono HT.out.1.size)⟩
          · have hi : i = ops.length := by omega
            subst hi
            have HNR := Aside0.mk (at_norig HKD.out hfr)
            have HDU := Aside0.mk htr.duo
            clear hfr htr HTR
            go_wp2_with fail
            refine (arm_duo (HDU.out.below (by repeat (with_reducible first | exact Below.refl _ _ | apply below_drew | apply pw_below_drewN))) (max un 0) (by omega)).mono ?_
            rintro e w5 ⟨rfl, hd⟩
            rw [arm_at ops (by omega)] at hd
            have HD5 := Aside0.mk hd
            clear hd HDU
            go_wp2
            go_loopw [13, 14] (fun lv iv wr => GoE w p2 p3 ops lv iv wr) (fun _ iv _ => ops.length - (intOf iv).toNat)
            case atStart => exact ⟨0, max un 0, rfl, rfl, Nat.zero_le _, by omega, by omega, HD5.out.below (by repeat (with_reducible first | exact Below.refl _ _ | apply below_drew | apply pw_below_drewN))⟩
            clear HD5
            case round =>
              obtain ⟨i, L, rfl, rfl, hle, hL0, hL1, hdu⟩ := hrel
              have HDU := Aside0.mk hdu
              have HFE := Aside0.mk HFR.out
              have HNI := Aside0.mk (HNR.out i hle)
              by_cases hlt : i < ops.length
              · obtain ⟨ad, A5, c5, A6, c6, rfl, hcell, hin⟩ := op_at HR1.out hlt
                have HCL := Aside0.mk hcell
                obtain ⟨d0, d1, d2, d3, d4, d5, d6⟩ := hcell _ hdu.bel
                have HOI := Aside0.mk (List.getElem?_eq_getElem hlt)
                have HG := Aside0.mk (HGD.out _ (List.getElem_mem hlt))
                have HKI := Aside0.mk (HKD.out i _ hlt (List.getElem?_eq_getElem hlt))
                have HZI := Aside0.mk (HFE.out i _ hlt (List.getElem?_eq_getElem hlt))
                have HNM := Aside0.mk (op_name HNI.out HKI.out.1 HKI.out.2 HZI.out)
                generalize ops[i] = o at *
                have HAT := Aside0.mk (at_step HOI.out)
                have HIN := Aside0.mk hin
                have hbz := hdu.bel.size
                have hlen := HG.out.g.b
                have HCO := Aside0.mk (fun (W : World) (hw : Below wr.heap.size wr W) => cost_calls W o A5 c5 A6 c6 ((hin W (HDU.out.bel.trans (hw.mono hbz))).up (Nat.le_trans hbz hw.size)) hlen)
                have hcq : 1 ≤ costO o ∧ costO o ≤ 2 ^ 41 := by unfold costO; split <;> omega
                clear hcell hin hdu
                have HCQ := Aside0.mk (fun (W : World) (hw : Below w.heap.size w W) => cost_calls W o A5 c5 A6 c6 ((HIN.out W hw).up hw.size) hlen)
                by_cases hc : costO o ≤ L
                · skip
                  have HGO := Aside0.mk (op_go HNI.out HKI.out.1 HKI.out.2 HZI.out hL0 hc)
                  rw [← HAT.out] at HGO
                  have hw1 : wrap64 (L - costO o) = L - costO o := w64 (by omega) (by omega)
                  generalize costO o = q at *
                  go_wp2_with fail
                  refine (HCO.out _ ?hw).mono ?_
                  case hw => repeat (with_reducible first | exact Below.refl _ _ | apply below_drew | apply pw_below_drewN)
                  rintro e w6 ⟨rfl, b6⟩
                  have HD6 := Aside0.mk ((HDU.out.below (by repeat (with_reducible first | exact Below.refl _ _ | apply below_drew | apply pw_below_drewN))).below b6)
                  obtain ⟨e0, e1, e2, e3, e4, e5, e6⟩ := HCL.out _ HD6.out.bel
                  clear b6
                  go_wp2_with fail
                  refine (does_duo HD6.out o A5 c5 A6 c6 HIN.out HG.out.g).mono ?_
                  rintro e w7 ⟨rfl, hd⟩
                  rw [HGO.out] at hd ⊢
                  have HD7 := Aside0.mk hd
                  obtain ⟨f0, f1, f2, f3, f4, f5, f6⟩ := HCL.out _ HD7.out.bel
                  clear hd
                  go_wp2_with fail
                  refine (does_duo HD7.out.swap o A5 c5 A6 c6 HIN.out HG.out.g).mono ?_
                  rintro e w8 ⟨rfl, hd⟩
                  rw [HZI.out]
                  rw [← HAT.out] at hd
                  have HD8 := Aside0.mk hd.swap
                  obtain ⟨g0, g1, g2, g3, g4, g5, g6⟩ := HCL.out _ HD8.out.bel
                  clear hd
                  go_wp2_with fail
                  refine (HCQ.out w8 HD8.out.bel).mono ?_
                  rintro e w9 ⟨rfl, b9⟩
                  have HD9 := Aside0.mk (HD8.out.below b9)
                  clear b9
                  go_wp2
                  go_roundw
                  case rel => exact ⟨i + 1, L - q, by simp, rfl, hlt, by omega, by omega, HD9.out.below (by repeat (with_reducible first | exact Below.refl _ _ | apply below_drew | apply pw_below_drewN))⟩
                  case measure => simp [intOf]; omega
                · skip
                  have HOF := Aside0.mk (op_fall HNI.out HKI.out.1 HKI.out.2 HZI.out hL0 hc)
                  have HCOST := Aside0.mk (show o.f0 = 1 → L ≤ o.f5.length from fun h => by unfold costO at hc; rw [if_pos h] at hc; omega)
                  generalize costO o = q at *
                  go_wp2_with fail
                  refine (HCO.out _ ?hw).mono ?_
                  case hw => repeat (with_reducible first | exact Below.refl _ _ | apply below_drew | apply pw_below_drewN)
                  rintro e w6 ⟨rfl, b6⟩
                  have HD6 := Aside0.mk ((HDU.out.below (by repeat (with_reducible first | exact Below.refl _ _ | apply below_drew | apply pw_below_drewN))).below b6)
                  obtain ⟨e0, e1, e2, e3, e4, e5, e6⟩ := HCL.out _ HD6.out.bel
                  clear b6
                  by_cases h1 : o.f0 = 1
                  · skip
                    have hbk : (o.f0 == 1) = true := beq_iff_eq.2 h1
                    have hLn := HCOST.out h1
                    have HPT := Aside0.mk (op_part HNI.out h1 HZI.out L)
                    obtain ⟨i5, hi5, hz5_⟩ := Option.map_eq_some_iff.1 PD.info5
                    have hz5 : i5.size = 1 := (Prod.mk.inj (Prod.mk.inj hz5_).2).1
                    clear hz5_
                    obtain ⟨l5, _⟩ := HIN.out _ HD6.out.bel
                    obtain ⟨hcut, _, hle8⟩ := print_take_int (k := .u8) 38 5 Try.underlying38 hi5 hz5 A5 c5 o.f5 L hL0 (by omega) l5
                    have hnc : L ≤ (c5 : Int) := by omega
                    replace hLn : L.toNat ≤ o.f5.length := by omega
                    have hl8 : (o.f5.take L.toNat).length = L.toNat := by rw [List.length_take]; omega
                    rw [hl8] at hcut
                    clear h1
                    go_wp2
                    refine start_ (n := 16) (S := fun w' => w'.cell? ⟨(ad.add (i * 7)).block, (ad.add (i * 7)).off + 2, none⟩ = some (.string o.f2) ∧ w'.cell? ⟨(ad.add (i * 7)).block, (ad.add (i * 7)).off + 5, none⟩ = some (.slice A5 o.f5.length c5)) (ds := [14]) #[false, false, false, false, false, false, false, false, false, false, false, false, false, false, false, false] (by kernel_rfl) rfl rfl ⟨e2, e5⟩ (fun hHeld => ?_)
                    refine zq 0 (some 147) ?_
                    refine zq 1 (some 148) ?_
                    refine zq 2 (some 149) ?_
                    refine zq 3 (some 150) ?_
                    refine zq 4 (some 151) ?_
                    refine zq 6 (some 153) ?_
                    refine zq 7 (some 154) ?_
                    refine zq 8 (some 155) ?_
                    refine zq 9 (some 156) ?_
                    refine zq 11 (some 158) ?_
                    refine zu 5 (some 152) hHeld ?_
                    refine zu 10 (some 157) hHeld ?_
                    refine zq 12 (some 159) ?_
                    refine one_ (i := 13) (N := some 160) #[true, true, true, true, true, true, true, true, true, true, true, true, true, true, false, false] rfl rfl (by kernel_rfl) (by decide) (fun K hK => ?_)
                    refine goes_ Try.func32 (by kernel_rfl) rfl #[.pointer (some ⟨p3, 0, none⟩), .string o.f2, .slice A5 L.toNat c5] (by rfl) rfl rfl (by simp only [List.map_toArray, List.map_cons, List.map_nil]; rfl) ?_
                    refine (append_duo (HD6.out.swap.below (by repeat (with_reducible first | exact Below.refl _ _ | apply below_drew | apply pw_below_drewN))) o.f2 A5 _ c5 (o.f5.take L.toNat) hl8 (fun wr' hb => Kd.C_take ((HIN.out wr' hb).r5 wr' (Below.refl _ _)) hLn) hle8 (by rw [List.length_take]; omega)).mono ?_
                    rintro e w7 ⟨rfl, hd⟩
                    rw [HPT.out] at hd ⊢
                    refine ⟨_, rfl, ?_⟩
                    have HD7 := Aside0.mk hd.swap
                    obtain ⟨f0, f1, f2, f3, f4, f5, f6⟩ := HCL.out _ HD7.out.bel
                    clear hd
                    refine hK.out _ _ ⟨f2, f5⟩ (fun hHeld => ?_)
                    clear hK K
                    refine norm_ (a' := ?_) ?_ ?_
                    rotate_left
                    · show Act.put _ (some 160) _ = _
                      simp only [Act.put, zla, zlb, zlc, i64_w, i32_w]
                      rfl
                    refine last_ (i := 14) (N := some 161) #[true, true, true, true, true, true, true, true, true, true, true, true, true, true, true, false] rfl rfl (by kernel_rfl) (by decide) (fun K hK => ?_)
                    refine goes_ Try.func21 (by kernel_rfl) rfl #[.int .i64 0] (by rfl) rfl rfl (by simp only [List.map_toArray, List.map_cons, List.map_nil]; rfl) ?_
                    refine (num_calls _ _).mono ?_
                    rintro e w8 ⟨rfl, ⟨⟨nd8, rfl⟩⟩⟩
                    refine ⟨_, rfl, ?_⟩
                    refine hK.out _ _ ?_
                    clear hK K
                    refine norm_ (a' := ?_) ?_ ?_
                    rotate_left
                    · show Act.put _ (some 161) _ = _
                      simp only [Act.put, zla, zlb, zlc, i64_w, i32_w]
                      rfl
                    refine zq 15 (some 162) ?_
                    refine done_ (by kernel_rfl) ?_
                    have HEND := Aside0.mk (show files67 (if ops.length = i then (at_ ops i).withL L else ((part_ (at_ ops i) o L).withL L).fall) = files67 (part_ (at_ ops i) o L) from by rw [if_neg (by omega)]; exact files_all rfl)
                    have HSTEP := Aside0.mk (show ∀ k ok, i ≤ k → ops[k]? = some ok → St.op (if k = i then (at_ ops i).withL L else ((part_ (at_ ops i) o L).withL L).fall) ok = (((part_ (at_ ops i) o L).withL L).fall, 100) from fun k ok hk hok => by
                      by_cases e : k = i
                      · subst e
                        rw [HOI.out] at hok
                        obtain rfl := Option.some.inj hok
                        rw [if_pos rfl]
                        exact HOF.out
                      · rw [if_neg e]
                        have hlk : k < ops.length := (List.getElem?_eq_some_iff.1 hok).1
                        have hkk := HKD.out k ok hlk hok
                        exact op_down rfl hkk.1 hkk.2 (op_name (HNR.out k (by omega)) hkk.1 hkk.2 (HFE.out k ok hlk hok)))
                    go_wp2
                    go_loopw [15] (fun iv wr => downE w p2 p3 ops.length i ((at_ ops i).withL L) (((part_ (at_ ops i) o L).withL L).fall) (part_ (at_ ops i) o L) iv wr) (fun iv _ => ops.length - (intOf iv).toNat)
                    case atStart => exact ⟨i, rfl, Nat.le_refl _, by omega, by rw [if_pos rfl]; exact (HD7.out.below (pw_below_drewN (Below.refl _ _) nd8)).below (by repeat (with_reducible first | exact Below.refl _ _ | apply below_drew | apply pw_below_drewN))⟩
                    case round =>
                      obtain ⟨k, rfl, hka, hkn, hdk⟩ := hrel
                      have HDK := Aside0.mk hdk
                      by_cases hlk : k < ops.length
                      · obtain ⟨adk, A5k, c5k, A6k, c6k, hadk, hcellk, hink⟩ := op_at HR1.out hlk
                        obtain rfl := Option.some.inj hadk
                        obtain ⟨k0, k1, k2, k3, k4, k5, k6⟩ := hcellk _ hdk.bel
                        have HGK := Aside0.mk (HGD.out _ (List.getElem_mem hlk))
                        have HSK := Aside0.mk (HSTEP.out k ops[k] hka (List.getElem?_eq_getElem hlk))
                        generalize ops[k] = ok at *
                        have HDO := Aside0.mk (fun (W : World) (hw : Below _ _ W) => does_duo (HDK.out.below hw) ok A5k c5k A6k c6k hink HGK.out.g)
                        clear hcellk hink hdk
                        go_wp2_with fail
                        refine (HDO.out _ ?hw).mono ?_
                        case hw => repeat (with_reducible first | exact Below.refl _ _ | apply below_drew | apply pw_below_drewN)
                        rintro e wk ⟨rfl, hd⟩
                        rw [HSK.out] at hd ⊢
                        have HDN := Aside0.mk hd
                        clear hd
                        go_wp2
                        go_roundw
                        case rel => exact ⟨k + 1, by simp, by omega, hlk, by rw [if_neg (by omega)]; exact HDN.out.below (by repeat (with_reducible first | exact Below.refl _ _ | apply below_drew | apply pw_below_drewN))⟩
                        case measure => simp [intOf]; omega
                      · have hk : k = ops.length := by omega
                        subst hk
                        clear hdk
                        go_wp2_with fail
                        refine (files_duo HDK.out).mono ?_
                        rintro e wa ⟨Aa, ca, rfl, hca, hCa, ba, hda⟩
                        rw [HEND.out] at hca hCa ⊢
                        have HCa := Aside0.mk hCa
                        have HDa := Aside0.mk hda
                        clear hCa ba hda
                        go_wp2_with fail
                        refine (files_duo HDa.out.swap).mono ?_
                        rintro e wb ⟨Ab, cb, rfl, hcb, hCb, bb, hdb⟩
                        have HCb := Aside0.mk hCb
                        have HDb := Aside0.mk hdb
                        have HCab := Aside0.mk (Kd.C_below HCa.out bb)
                        clear hCb bb hdb
                        go_wp2_with fail
                        refine (alike_st HDb.out.ok1 _ Aa ca Ab cb HCab.out hca HCb.out hcb).mono ?_
                        rintro e wc ⟨rfl, bc⟩
                        have HDc := Aside0.mk (HDb.out.below bc)
                        clear bc
                        go_wp2
                        go_ret
                        exact ⟨rfl, HDc.out.bel.trans ((show Below wc.heap.size wc _ by repeat (with_reducible first | exact Below.refl _ _ | apply below_drew | apply pw_below_drewN)).mono HDc.out.bel.size)⟩
                  · skip
                    have hbk : (o.f0 == 1) = false := beq_eq_false_iff_ne.2 h1
                    have HPE := Aside0.mk (show part_ (at_ ops i) o L = at_ ops i by unfold part_; rw [if_neg h1])
                    have HD7 := Aside0.mk (show Duo w w6 p2 p3 ((at_ ops i).withL L) (part_ (at_ ops i) o L) by rw [HPE.out]; exact HD6.out)
                    clear h1
                    have HEND := Aside0.mk (show files67 (if ops.length = i then (at_ ops i).withL L else ((part_ (at_ ops i) o L).withL L).fall) = files67 (part_ (at_ ops i) o L) from by rw [if_neg (by omega)]; exact files_all rfl)
                    have HSTEP := Aside0.mk (show ∀ k ok, i ≤ k → ops[k]? = some ok → St.op (if k = i then (at_ ops i).withL L else ((part_ (at_ ops i) o L).withL L).fall) ok = (((part_ (at_ ops i) o L).withL L).fall, 100) from fun k ok hk hok => by
                      by_cases e : k = i
                      · subst e
                        rw [HOI.out] at hok
                        obtain rfl := Option.some.inj hok
                        rw [if_pos rfl]
                        exact HOF.out
                      · rw [if_neg e]
                        have hlk : k < ops.length := (List.getElem?_eq_some_iff.1 hok).1
                        have hkk := HKD.out k ok hlk hok
                        exact op_down rfl hkk.1 hkk.2 (op_name (HNR.out k (by omega)) hkk.1 hkk.2 (HFE.out k ok hlk hok)))
                    go_wp2
                    go_loopw [15] (fun iv wr => downE w p2 p3 ops.length i ((at_ ops i).withL L) (((part_ (at_ ops i) o L).withL L).fall) (part_ (at_ ops i) o L) iv wr) (fun iv _ => ops.length - (intOf iv).toNat)
                    case atStart => exact ⟨i, rfl, Nat.le_refl _, by omega, by rw [if_pos rfl]; exact HD7.out.below (by repeat (with_reducible first | exact Below.refl _ _ | apply below_drew | apply pw_below_drewN))⟩
                    case round =>
                      obtain ⟨k, rfl, hka, hkn, hdk⟩ := hrel
                      have HDK := Aside0.mk hdk
                      by_cases hlk : k < ops.length
                      · obtain ⟨adk, A5k, c5k, A6k, c6k, hadk, hcellk, hink⟩ := op_at HR1.out hlk
                        obtain rfl := Option.some.inj hadk
                        obtain ⟨k0, k1, k2, k3, k4, k5, k6⟩ := hcellk _ hdk.bel
                        have HGK := Aside0.mk (HGD.out _ (List.getElem_mem hlk))
                        have HSK := Aside0.mk (HSTEP.out k ops[k] hka (List.getElem?_eq_getElem hlk))
                        generalize ops[k] = ok at *
                        have HDO := Aside0.mk (fun (W : World) (hw : Below _ _ W) => does_duo (HDK.out.below hw) ok A5k c5k A6k c6k hink HGK.out.g)
                        clear hcellk hink hdk
                        go_wp2_with fail
                        refine (HDO.out _ ?hw).mono ?_
                        case hw => repeat (with_reducible first | exact Below.refl _ _ | apply below_drew | apply pw_below_drewN)
                        rintro e wk ⟨rfl, hd⟩
                        rw [HSK.out] at hd ⊢
                        have HDN := Aside0.mk hd
                        clear hd
                        go_wp2
                        go_roundw
                        case rel => exact ⟨k + 1, by simp, by omega, hlk, by rw [if_neg (by omega)]; exact HDN.out.below (by repeat (with_reducible first | exact Below.refl _ _ | apply below_drew | apply pw_below_drewN))⟩
                        case measure => simp [intOf]; omega
                      · have hk : k = ops.length := by omega
                        subst hk
                        clear hdk
                        go_wp2_with fail
                        refine (files_duo HDK.out).mono ?_
                        rintro e wa ⟨Aa, ca, rfl, hca, hCa, ba, hda⟩
                        rw [HEND.out] at hca hCa ⊢
                        have HCa := Aside0.mk hCa
                        have HDa := Aside0.mk hda
                        clear hCa ba hda
                        go_wp2_with fail
                        refine (files_duo HDa.out.swap).mono ?_
                        rintro e wb ⟨Ab, cb, rfl, hcb, hCb, bb, hdb⟩
                        have HCb := Aside0.mk hCb
                        have HDb := Aside0.mk hdb
                        have HCab := Aside0.mk (Kd.C_below HCa.out bb)
                        clear hCb bb hdb
                        go_wp2_with fail
                        refine (alike_st HDb.out.ok1 _ Aa ca Ab cb HCab.out hca HCb.out hcb).mono ?_
                        rintro e wc ⟨rfl, bc⟩
                        have HDc := Aside0.mk (HDb.out.below bc)
                        clear bc
                        go_wp2
                        go_ret
                        exact ⟨rfl, HDc.out.bel.trans ((show Below wc.heap.size wc _ by repeat (with_reducible first | exact Below.refl _ _ | apply below_drew | apply pw_below_drewN)).mono HDc.out.bel.size)⟩
              · obtain rfl : i = ops.length := by omega
                clear hdu
                have HEND := Aside0.mk (show files67 (if ops.length = ops.length then (at_ ops ops.length).withL L else (at_ ops ops.length).withL L) = files67 (at_ ops ops.length) from by rw [if_pos rfl]; exact files_all rfl)
                go_wp2
                go_loopw [15] (fun iv wr => downE w p2 p3 ops.length ops.length ((at_ ops ops.length).withL L) ((at_ ops ops.length).withL L) (at_ ops ops.length) iv wr) (fun iv _ => ops.length - (intOf iv).toNat)
                case atStart => exact ⟨ops.length, rfl, Nat.le_refl _, by omega, by rw [if_pos rfl]; exact HDU.out.below (by repeat (with_reducible first | exact Below.refl _ _ | apply below_drew | apply pw_below_drewN))⟩
                case round =>
                  obtain ⟨k, rfl, hka, hkn, hdk⟩ := hrel
                  have HDK := Aside0.mk hdk
                  obtain rfl : k = ops.length := by omega
                  clear hdk
                  go_wp2_with fail
                  refine (files_duo HDK.out).mono ?_
                  rintro e wa ⟨Aa, ca, rfl, hca, hCa, ba, hda⟩
                  rw [HEND.out] at hca hCa ⊢
                  have HCa := Aside0.mk hCa
                  have HDa := Aside0.mk hda
                  clear hCa ba hda
                  go_wp2_with fail
                  refine (files_duo HDa.out.swap).mono ?_
                  rintro e wb ⟨Ab, cb, rfl, hcb, hCb, bb, hdb⟩
                  have HCb := Aside0.mk hCb
                  have HDb := Aside0.mk hdb
                  have HCab := Aside0.mk (Kd.C_below HCa.out bb)
                  clear hCb bb hdb
                  go_wp2_with fail
                  refine (alike_st HDb.out.ok1 _ Aa ca Ab cb HCab.out hca HCb.out hcb).mono ?_
                  rintro e wc ⟨rfl, bc⟩
                  have HDc := Aside0.mk (HDb.out.below bc)
                  clear bc
                  go_wp2
                  go_ret
                  exact ⟨rfl, HDc.out.bel.trans ((show Below wc.heap.size wc _ by repeat (with_reducible first | exact Below.refl _ _ | apply below_drew | apply pw_below_drewN)).mono HDc.out.bel.size)⟩
end Go.Proofs.Ytfholpajdkjbbaa.DK
