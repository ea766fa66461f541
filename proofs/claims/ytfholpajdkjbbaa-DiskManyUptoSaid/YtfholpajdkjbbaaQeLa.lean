/- The law's pair of disks: begin; conditions: those in each theorem. -/
import Derived.Test.YtfholpajdkjbbaaQeGe
namespace Go.Proofs.Ytfholpajdkjbbaa.DK
open Go.Proofs.Ytfholpajdkjbbaa.PD
open Go.RowKit Go.Proofs.YtfholpajdkjbbaaW.PrintWords Go.Proofs.YtfholpajdkjbbaaW.PrintLast Go.Proofs.YtfholpajdkjbbaaW.PrintMore Go.Proofs.Ytfholpajdkjbbaa.Mo
set_option linter.unusedVariables false
set_option linter.unusedSimpArgs false
/-- The pair at b holds two disks of one state, apart from one another. -/
structure Both (w : World) (b : Nat) (X1 X2 : Nat → Prop) (s : St) : Prop where
  disks : ∃ p1 p2, w.heap[b]? = some (.cells #[.pointer (some ⟨p1, 0, none⟩), .pointer (some ⟨p2, 0, none⟩)] 28 (0, 0)) ∧ Prog w p1 X1 s ∧ RefD w p2 X2 s
  ap : ∀ k, X1 k → ¬ X2 k
  n1 : ¬ X1 b
  n2 : ¬ X2 b
def BeginPost (w : World) (b : Nat) (o : Option St) (e : Ending) (w' : World) : Prop :=
  e = .returned (.bool true) ∧ Upd (fun k => k = b) w w' ∧
    match o with
    | none => w'.heap[b]? = some (.cells #[.pointer none, .pointer none] 28 (0, 0))
    | some st => ∃ X1 X2, Both w' b X1 X2 st ∧ ∀ k, X1 k ∨ X2 k → w.heap.size ≤ k
theorem num_calls (w : World) (a : Int) : Calls Try.prog 21 #[.int .i64 a] w fun e w' => e = .returned (.int .i64 a) ∧ Drawn0 w w' := PD.eddylaw10_num.calls a a w rfl
theorem copyFiles_calls (w : World) (A : Option Addr) (c : Nat) (l : List S67) (hr : k67.C w A l.length l) (hc : l.length ≤ c) (hl : l.length < 2 ^ 40) (hd : ∀ x ∈ l, x.f1.length ≤ 2 ^ 40) :
    Calls Try.prog 33 #[.slice A l.length c] w fun e w' => ∃ A' c', e = .returned (.slice A' l.length c') ∧ l.length ≤ c' ∧ k67.C w' A' l.length l ∧ Below w.heap.size w w' := by
  obtain ⟨k, hk⟩ := Ev.rounds (copyFiles_f l hl (fun x hx => by have := hd x hx; omega))
  refine (PD.eddylaw10_copyFiles.calls k A c l l w hr hc hk).mono ?_
  rintro e w' ⟨v, rfl, h, hb⟩
  obtain ⟨A', c', rfl, h1, h2⟩ := Kd.S_reads h
  exact ⟨A', c', rfl, h1, h2, hb⟩
set_option maxHeartbeats 4000000 in
set_option maxRecDepth 100000 in
theorem begin_calls (w : World) (b : Nat) (hb : w.heap[b]? = some (.cells #[.pointer none, .pointer none] 28 (0, 0))) (A : Option Addr) (c : Nat) (l : List S67) (hr : k67.C w A l.length l) (hc : l.length ≤ c) (hl : l.length < 2 ^ 31) (hd : ∀ x ∈ l, x.f1.length ≤ 2 ^ 40 ∧ -9223372036854775808 ≤ x.f2 ∧ x.f2 ≤ 9223372036854775807) :
    Calls Try.prog 16 #[.pointer (some ⟨b, 0, none⟩), .slice A l.length c] w (BeginPost w b (St.new (l.map of67))) := by
  have HN := Aside0.mk (rnew_calls w A c l hr hc hd)
  have HB := Aside0.mk hb
  have HR := Aside0.mk hr
  have HD := Aside0.mk hd
  have c0 := blk_cell hb 0
  have c1 := blk_cell hb 1
  have fc0 := blk_frozen hb 0
  have fc1 := blk_frozen hb 1
  simp only [List.getElem?_toArray, List.getElem?_cons_succ, List.getElem?_cons_zero] at c0 c1
  have hlt := blk_lt hb
  clear hb hr hd
  unfold BeginPost
  cases hs : St.new (l.map of67) with
  | none =>
    rw [hs] at HN
    unfold RNewPost at HN
    have HS := Aside0.mk hs
    clear hs
    go_enter Try.func16, Try.ntmps16
    go_wp2_with fail
    refine HN.out.mono ?_
    rintro e w1 ⟨rfl, hB⟩
    have HB1 := Aside0.mk hB
    clear hB
    go_wp2_with fail
    refine (copyFiles_calls w1 A c l (Kd.C_below HR.out HB1.out) hc (by omega) (fun x hx => (HD.out x hx).1)).mono ?_
    rintro e w2 ⟨A3, c3, rfl, hc3, hC3, hB2⟩
    have HC3 := Aside0.mk hC3
    have HB2 := Aside0.mk hB2
    have HN2 := Aside0.mk (new_calls w2 A3 c3 l hC3 hc3 HD.out)
    rw [HS.out] at HN2
    unfold NewPost at HN2
    clear hC3 hB2
    go_wp2_with fail
    refine HN2.out.mono ?_
    rintro e w3 ⟨rfl, hB⟩
    have HB3 := Aside0.mk hB
    clear hB
    have hbl : Below w.heap.size w w3 := (HB1.out.trans (HB2.out.mono HB1.out.size)).trans (HB3.out.mono (Nat.le_trans HB1.out.size HB2.out.size))
    have hb3 := blk_upd HB.out (Upd.of_below hbl (fun _ => False)) (fun h => h)
    have HBL := Aside0.mk hbl
    have H3 := Aside0.mk hb3
    have m0 := blk_cell hb3 0
    have m1 := blk_cell hb3 1
    have fm0 := blk_frozen hb3 0
    have fm1 := blk_frozen hb3 1
    simp only [List.getElem?_toArray, List.getElem?_cons_succ, List.getElem?_cons_zero] at m0 m1
    have hlt3 := blk_lt hb3
    have HL3 := Aside0.mk hlt3
    clear hbl hb3 c0 c1 fc0 fc1
    go_wp2_with (go_at_call 21; refine (num_calls _ _).mono ?_; rintro e w4 ⟨rfl, ⟨⟨nd, rfl⟩⟩⟩)
    go_ret
    have hu := (((Upd.of_below HBL.out (fun k => k = b)).set1 0 (.pointer none)).set1 1 (.pointer none)).drewN nd
    have hh : (((w3.setCell ⟨b, 0, none⟩ (.pointer none)).setCell ⟨b, 1, none⟩ (.pointer none)).drewN nd).heap[b]? = some (.cells #[(.pointer none), (.pointer none)] 28 (0, 0)) := by simp only [heap_set, heap_drewN, H3.out, Option.map_some] <;> rfl
    exact ⟨rfl, hu, hh⟩
  | some st =>
    rw [hs] at HN
    unfold RNewPost at HN
    have HS := Aside0.mk hs
    clear hs
    go_enter Try.func16, Try.ntmps16
    go_wp2_with fail
    refine HN.out.mono ?_
    rintro e w1 ⟨p2, rfl, hR, hB⟩
    have HR2 := Aside0.mk hR
    clear hR
    have HB1 := Aside0.mk hB
    clear hB
    go_wp2_with fail
    refine (copyFiles_calls w1 A c l (Kd.C_below HR.out HB1.out) hc (by omega) (fun x hx => (HD.out x hx).1)).mono ?_
    rintro e w2 ⟨A3, c3, rfl, hc3, hC3, hB2⟩
    have HC3 := Aside0.mk hC3
    have HB2 := Aside0.mk hB2
    have HN2 := Aside0.mk (new_calls w2 A3 c3 l hC3 hc3 HD.out)
    rw [HS.out] at HN2
    unfold NewPost at HN2
    clear hC3 hB2
    go_wp2_with fail
    refine HN2.out.mono ?_
    rintro e w3 ⟨p1, rfl, hP, hB⟩
    have HP := Aside0.mk hP
    clear hP
    have HB3 := Aside0.mk hB
    clear hB
    have hbl : Below w.heap.size w w3 := (HB1.out.trans (HB2.out.mono HB1.out.size)).trans (HB3.out.mono (Nat.le_trans HB1.out.size HB2.out.size))
    have hb3 := blk_upd HB.out (Upd.of_below hbl (fun _ => False)) (fun h => h)
    have HBL := Aside0.mk hbl
    have H3 := Aside0.mk hb3
    have m0 := blk_cell hb3 0
    have m1 := blk_cell hb3 1
    have fm0 := blk_frozen hb3 0
    have fm1 := blk_frozen hb3 1
    simp only [List.getElem?_toArray, List.getElem?_cons_succ, List.getElem?_cons_zero] at m0 m1
    have hlt3 := blk_lt hb3
    have HL3 := Aside0.mk hlt3
    clear hbl hb3 c0 c1 fc0 fc1
    go_wp2_with (go_at_call 21; refine (num_calls _ _).mono ?_; rintro e w4 ⟨rfl, ⟨⟨nd, rfl⟩⟩⟩)
    go_ret
    have hu := (((Upd.of_below HBL.out (fun k => k = b)).set1 0 (.pointer (some ⟨p1, 0, none⟩))).set1 1 (.pointer (some ⟨p2, 0, none⟩))).drewN nd
    have hh : (((w3.setCell ⟨b, 0, none⟩ (.pointer (some ⟨p1, 0, none⟩))).setCell ⟨b, 1, none⟩ (.pointer (some ⟨p2, 0, none⟩))).drewN nd).heap[b]? = some (.cells #[(.pointer (some ⟨p1, 0, none⟩)), (.pointer (some ⟨p2, 0, none⟩))] 28 (0, 0)) := by simp only [heap_set, heap_drewN, H3.out, Option.map_some] <;> rfl
    have hu3 := (((Upd.refl (fun k => k = b) w3).set1 0 (.pointer (some ⟨p1, 0, none⟩))).set1 1 (.pointer (some ⟨p2, 0, none⟩))).drewN nd
    have s1 := HB1.out.size
    have s2 := HB2.out.size
    have hltb := blk_lt HB.out
    refine ⟨rfl, hu, From w2.heap.size w3, From w.heap.size w1, ⟨⟨p1, p2, hh, HP.out.upd hu3 (fun k hk e => by have := hk.1; omega), ((HR2.out.below (HB2.out.trans (HB3.out.mono HB2.out.size))).upd hu3 (fun k hk e => by have := hk.1; omega))⟩, fun k h1 h2 => by have := h1.1; have := h2.2; omega, fun h => by have := h.1; omega, fun h => by have := h.1; omega⟩, fun k hk => ?_⟩
    rcases hk with hk | hk
    · have := hk.1; omega
    · exact hk.1
end Go.Proofs.Ytfholpajdkjbbaa.DK
