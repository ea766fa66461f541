/- The program's disk: New; conditions: those in each theorem. -/
import Derived.Test.YtfholpajdkjbbaaQeGb
namespace Go.Proofs.Ytfholpajdkjbbaa.DK
open Go.Proofs.Ytfholpajdkjbbaa.PD
open Go.RowKit Go.Proofs.YtfholpajdkjbbaaW.PrintWords Go.Proofs.YtfholpajdkjbbaaW.PrintLast Go.Proofs.YtfholpajdkjbbaaW.PrintMore Go.Proofs.Ytfholpajdkjbbaa.Mo
set_option linter.unusedVariables false
set_option linter.unusedSimpArgs false
def of67 (x : S67) : ByteArray × List Int × Int := (x.f0, x.f1, x.f2)
/-- Blocks from N on. -/
def From (N : Nat) (w' : World) : Nat → Prop := fun k => N ≤ k ∧ k < w'.heap.size
def stOf (l : List F) : St := ⟨l, false, -1, 0, 0⟩
def NewPost (w : World) (o : Option St) (e : Ending) (w' : World) : Prop :=
  match o with
  | none => e = .returned (.tuple #[.pointer none, .int .i64 105]) ∧ Below w.heap.size w w'
  | some st => ∃ p, e = .returned (.tuple #[.pointer (some ⟨p, 0, none⟩), .int .i64 0]) ∧ Prog w' p (From w.heap.size w') st ∧ Below w.heap.size w w'
structure Build (w wr : World) (p : Nat) (l : List S67) (i : Nat) (acc : List F) : Prop where
  le : i ≤ l.length
  go : newGo ((l.take i).map of67) [] = some acc
  prog : Prog wr p (From w.heap.size wr) (stOf acc)
  ok : Ok (stOf acc)
  bel : Below w.heap.size w wr
  len : acc.length = i
def BuildE (w : World) (p : Nat) (l : List S67) (iv : Value) (wr : World) : Prop := ∃ (i : Nat) (acc : List F), iv = .int .i64 i ∧ Build w wr p l i acc
theorem ok_empty : Ok (stOf []) := ⟨List.Pairwise.nil, fun _ h => (by cases h), fun _ h => (by cases h), Nat.zero_le _, show (-1 : Int) ≤ -1 by decide, show (-1 : Int) ≤ _ by decide, show (0 : Int) ≤ 0 by decide, show (0 : Int) ≤ _ by decide, show (0 : Int) ≤ 0 by decide, show (0 : Int) ≤ _ by decide, fun _ => rfl⟩
theorem World.size_alloc' (w : World) (o : Obj) : (w.alloc o).heap.size = w.heap.size + 1 := by simp
theorem prog_empty (w : World) : Prog ((w.alloc (.map #[] 0)).alloc (.cells #[.map (some w.heap.size), .bool false, .bool false, .int .i64 0, .int .i64 0, .int .i64 0] 78)) (w.heap.size + 1) (From w.heap.size ((w.alloc (.map #[] 0)).alloc (.cells #[.map (some w.heap.size), .bool false, .bool false, .int .i64 0, .int .i64 0, .int .i64 0] 78))) (stOf []) := by
  refine ⟨w.heap.size, fun _ => 0, fun _ => .slice none 0 0, ?_, ⟨by omega, by simp⟩, fun k hk => hk.2, ?_⟩
  · have := heap_alloc_new (w.alloc (.map #[] 0)) (.cells #[.map (some w.heap.size), .bool false, .bool false, .int .i64 0, .int .i64 0, .int .i64 0] 78)
    rw [World.size_alloc'] at this
    exact this
  · refine ⟨⟨#[], 0, blk_alloc (heap_alloc_new w _) _, List.Perm.refl _, List.nodup_nil, List.nodup_nil, fun _ h => by cases h⟩, fun _ h => (by cases h), fun _ h => (by cases h), fun _ h => (by cases h), fun _ h => (by cases h), ⟨Nat.le_refl _, by simp; omega⟩, fun _ h => (by cases h), fun _ h => (by cases h)⟩
theorem new_fail {l : List S67} {i : Nat} {x : S67} {acc : List F} (hx : l[i]? = some x) (hgo : newGo ((l.take i).map of67) [] = some acc) (hf : fits (of67 x) acc = false) : newGo (l.map of67) [] = none := by
  obtain ⟨hlt, hx⟩ := List.getElem?_eq_some_iff.1 hx
  have h1 : newGo ((l.take (i + 1)).map of67) [] = none := by
    rw [take_snoc' l i hlt, List.map_append, List.map_cons, List.map_nil, newGo_snoc, hgo, hx]
    simp [hf]
  have h2 : l.map of67 = (l.take (i + 1)).map of67 ++ (l.drop (i + 1)).map of67 := by rw [← List.map_append, List.take_append_drop]
  rw [h2]
  exact newGo_none (of67 x) _ _ _ h1
theorem new_step {l : List S67} {i : Nat} {x : S67} {acc : List F} (hx : l[i]? = some x) (hgo : newGo ((l.take i).map of67) [] = some acc) (hf : fits (of67 x) acc = true) : newGo ((l.take (i + 1)).map of67) [] = some (put (newF (of67 x)) acc) := by
  obtain ⟨hlt, hx⟩ := List.getElem?_eq_some_iff.1 hx
  rw [take_snoc' l i hlt, List.map_append, List.map_cons, List.map_nil, newGo_snoc, hgo, hx]
  simp [hf]
theorem PDisk.below8 {w w' : World} {p mb : Nat} {q : ByteArray → Nat} {dv : ByteArray → Value} {X : Nat → Prop} {s : St} (h : PDisk w p X s mb q dv) (hb : Below w.heap.size w w') : PDisk w' p X s mb q dv := h.upd (Y := fun _ => False) (Upd.of_below hb _) (fun _ _ h => h)
theorem new_put {w wr W1 w8 w13 : World} {p mb : Nat} {q : ByteArray → Nat} {dv : ByteArray → Value} {l : List S67} {i : Nat} {x : S67} {acc : List F} {v8 : Value} (hB : Build w wr p l i acc) (hxi : l[i]? = some x) (hl : l.length ≤ 400)
    (hna : isName x.f0 = true) (hfi : find (stOf acc).all x.f0 = none) (hft : fits (of67 x) acc = true) (h3 : ¬ 65536 < x.f1.length) (h4 : 0 ≤ x.f2) (h5 : x.f2 ≤ x.f1.length) (hbw : Below w.heap.size w W1) (hq : PDisk W1 p (From w.heap.size wr) (stOf acc) mb q dv)
    (ho8 : (Kd.int .u8).R 5 w8 W1.heap.size (fun _ => True) v8 x.f1) (hb8 : Below W1.heap.size W1 w8) (hm13 : MapAt w13 mb (x.f0 :: namesOf (stOf acc).all) (fun n => if n = x.f0 then w8.heap.size else q n))
    (hu13 : Upd (fun k => k = mb) (w8.alloc (.cells #[v8, .int .i64 x.f2] 81)) w13) : Build w w13 p l (i + 1) (put (newF (of67 x)) acc) := by
  obtain ⟨hlt, _⟩ := List.getElem?_eq_some_iff.1 hxi
  have hnm : x.f0 ∉ namesOf (stOf acc).all := find_none hfi
  have hU : Upd (fun k => k = mb) W1 w13 := ((Upd.of_below hb8 _).alloc _).trans hu13 (fun _ h => h) (fun _ _ h => h)
  have hmb : mb < W1.heap.size := hq.files.map.lt
  have hs8 : W1.heap.size ≤ w8.heap.size := hb8.size
  have hfile : w13.heap[w8.heap.size]? = some (.cells #[v8, .int .i64 x.f2] 81 (0, 0)) := blk_upd (heap_alloc_new w8 _) hu13 (fun e => by omega)
  have hrow : Row w13 v8 x.f1 := (Row.upd (Kd.R_lower (Kd.R_alloc ho8 _) (Nat.zero_le _)) hu13 (fun k hk e => by have := Kd.R_base ho8 k hk; omega))
  have hsure : ((newF (of67 x)).sure.length : Int) = x.f2 := by
    simp only [newF, of67, List.length_take]
    omega
  have hdata : (newF (of67 x)).data = x.f1 := by simp only [newF, of67, F.data, List.take_append_drop]
  obtain ⟨hfin, hUf⟩ := pdisk_add hq (newF (of67 x)) hnm w8.heap.size v8 hU hs8 hm13 (by rw [hsure]; exact hfile) (by rw [hdata]; exact hrow) (fun k hk => Kd.R_base ho8 k hk)
  refine ⟨hlt, new_step hxi hB.go hft, ⟨mb, _, _, hfin.mono (fun k hk => ?_) (fun k hk => hk.2)⟩, ?_, ?_, ?_⟩
  · rcases hk with hk | hk
    · exact ⟨hk.1, Nat.lt_of_lt_of_le (hq.bd k hk) hU.size⟩
    · exact ⟨Nat.le_trans hbw.size hk.1, hk.2⟩
  · refine hB.ok.put (newF (of67 x)) hna hnm ?_ ?_
    · have := congrArg List.length hdata
      rw [data_length] at this
      omega
    · show acc.length < 400
      rw [hB.len]; omega
  · exact hbw.trans (hU.below hbw.size (fun k hk => by have := hq.files.xm.1; omega))
  · rw [(put_perm _ acc).length_eq, List.length_cons, hB.len]
set_option maxHeartbeats 8000000 in
set_option maxRecDepth 100000 in
theorem new_calls (w : World) (A : Option Addr) (c : Nat) (l : List S67) (hr : k67.C w A l.length l) (hc : l.length ≤ c) (hd : ∀ x ∈ l, x.f1.length ≤ 2 ^ 40 ∧ -9223372036854775808 ≤ x.f2 ∧ x.f2 ≤ 9223372036854775807) :
    Calls Try.prog 20 #[.slice A l.length c] w (NewPost w (St.new (l.map of67))) := by
  have hmm := @run_makeMap Try.prog
  unfold St.new
  rw [List.length_map]
  by_cases h400 : 400 < l.length
  · rw [if_pos h400]
    clear hr
    go_enter Try.func20, Try.ntmps20
    go_wp2
    go_ret2
    exact ⟨rfl, below_alloc (below_alloc (Below.refl _ _) _) _⟩
  · rw [if_neg h400]
    have HR := Aside0.mk hr
    have HD := Aside0.mk hd
    have H0 := Aside0.mk (prog_empty w)
    clear hr hd
    go_enter Try.func20, Try.ntmps20
    go_wp2
    go_loopw [15] (fun iv wr => BuildE w (w.heap.size + 1) l iv wr) (fun iv _ => l.length - (intOf iv).toNat)
    case atStart => exact ⟨0, [], rfl, Nat.zero_le _, rfl, H0.out, ok_empty, below_alloc (below_alloc (Below.refl _ _) _) _, rfl⟩
    case round =>
      obtain ⟨i, acc, rfl, hb⟩ := hrel
      have HB := Aside0.mk hb
      by_cases hlt : i < l.length
      · obtain ⟨ad, A1, c1, eA, ca, cb, cc, hc1, hC1⟩ := at_T67 (Kd.C_below HR.out hb.bel) (i : Int) (by omega) (by omega)
        rw [rd67_nat l i hlt] at ca cb cc hc1 hC1
        have HX := Aside0.mk (HD.out _ (List.getElem_mem hlt))
        have HTK := Aside0.mk (take_snoc' l i hlt)
        have HXI := Aside0.mk (show l[i]? = some l[i] from List.getElem?_eq_getElem hlt)
        generalize l[i] = x at *
        simp only [Int.toNat_natCast] at ca cb cc
        subst eA
        have HC1 := Aside0.mk (Kd.C_alloc hC1 (.cells #[.string x.f0, .slice A1 x.f1.length c1, .int .i64 x.f2] 67))
        have HPW := Aside0.mk (hb.prog.below (below_alloc (Below.refl _ _) (.cells #[.string x.f0, .slice A1 x.f1.length c1, .int .i64 x.f2] 67)))
        have HBW := Aside0.mk (below_alloc hb.bel (.cells #[.string x.f0, .slice A1 x.f1.length c1, .int .i64 x.f2] 67))
        have HNW := Aside0.mk (heap_alloc_new wr (.cells #[.string x.f0, .slice A1 x.f1.length c1, .int .i64 x.f2] 67))
        have HSW := Aside0.mk (World.size_alloc' wr (.cells #[.string x.f0, .slice A1 x.f1.length c1, .int .i64 x.f2] 67))
        have HX1 := HX.out.1
        have HX2 := HX.out.2.1
        have HX3 := HX.out.2.2
        clear hb hC1
        cases hna : isName x.f0 with
        | false =>
          have HNA := Aside0.mk hna
          have HFT := Aside0.mk (show fits (of67 x) acc = false by unfold fits of67; rw [hna]; rfl)
          clear hna
          go_wp2
          generalize wr.alloc (.cells #[.string x.f0, .slice A1 x.f1.length c1, .int .i64 x.f2] 67) = W0 at *
          generalize wr.heap.size = b6 at *
          clear ca cb cc
          obtain ⟨mb, q, dv, h1⟩ := HPW.out
          have hnew := HNW.out
          have x0 := blk_cell hnew 0
          have x1 := blk_cell hnew 1
          have x2 := blk_cell hnew 2
          have fx0 := blk_frozen hnew 0
          have fx1 := blk_frozen hnew 1
          have fx2 := blk_frozen hnew 2
          simp only [List.getElem?_toArray, List.getElem?_cons_succ, List.getElem?_cons_zero] at x0 x1 x2
          have hp1 := h1.head
          unfold diskCells at hp1
          have m0 := blk_cell hp1 0
          have m1 := blk_cell hp1 1
          have m2 := blk_cell hp1 2
          have m3 := blk_cell hp1 3
          have m4 := blk_cell hp1 4
          have m5 := blk_cell hp1 5
          have fm0 := blk_frozen hp1 0
          have fm1 := blk_frozen hp1 1
          have fm2 := blk_frozen hp1 2
          have fm3 := blk_frozen hp1 3
          have fm4 := blk_frozen hp1 4
          have fm5 := blk_frozen hp1 5
          simp only [List.getElem?_toArray, List.getElem?_cons_succ, List.getElem?_cons_zero] at m0 m1 m2 m3 m4 m5
          have HQ := Aside0.mk h1.drew
          refine start_ (n := 33) (S := fun w' => w'.cell? ⟨b6, 0, none⟩ = some (.string x.f0) ∧ w'.cell? ⟨b6, 1, none⟩ = some (.slice A1 x.f1.length c1) ∧ w'.cell? ⟨b6, 2, none⟩ = some (.int .i64 x.f2) ∧ w'.cell? ⟨w.heap.size + 1, 0, none⟩ = some (.map (some mb))) (ds := []) (List.toArray (false :: false :: false :: false :: false :: false :: false :: false :: false :: false :: false :: false :: false :: false :: false :: false :: false :: false :: false :: false :: false :: false :: false :: false :: false :: false :: false :: false :: false :: false :: false :: false :: false :: [])) (by kernel_rfl) rfl rfl ⟨x0, x1, x2, m0⟩ (fun hHeld => ?_)
          refine zq 0 (some 19) ?_
          refine zu 1 (some 20) hHeld ?_
          refine one_ (i := 2) (N := some 21) (List.toArray (true :: true :: true :: false :: false :: false :: false :: false :: false :: false :: false :: false :: false :: false :: false :: false :: false :: false :: false :: false :: false :: false :: false :: false :: false :: false :: false :: false :: false :: false :: false :: false :: false :: [])) rfl rfl (by kernel_rfl) (by decide) (fun K hK => ?_)
          refine goes_ Try.func43 (by kernel_rfl) rfl #[.string x.f0] (by rfl) rfl rfl (by simp only [List.map_toArray, List.map_cons, List.map_nil]; rfl) ?_
          refine (named_calls x.f0 false HNA.out _).mono ?_
          rintro e w7 ⟨rfl, ⟨⟨nd, rfl⟩⟩⟩
          refine ⟨_, rfl, ?_⟩
          refine hK.out _ _ ⟨hHeld.1, hHeld.2.1, hHeld.2.2.1, hHeld.2.2.2⟩ (fun hHeld => ?_)
          clear hK K
          refine norm_ (a' := ?_) ?_ ?_
          rotate_left
          · show Act.put _ (some 21) _ = _
            simp only [Act.put, zla, zlb, zlc, i64_w, i32_w]
            rfl
          refine zq 3 (some 22) ?_
          refine zq 4 (some 23) ?_
          refine pure_ (i := 5) (N := some 24) (v := undef) (a' := ?_) (List.toArray (true :: true :: true :: true :: true :: true :: false :: false :: false :: false :: false :: false :: false :: false :: false :: false :: false :: false :: false :: false :: false :: false :: false :: false :: false :: false :: false :: false :: false :: false :: false :: false :: false :: [])) rfl rfl (by kernel_rfl) (fun _ _ _ h => h) (Or.inr ⟨by rfl, rfl⟩) ?_ ?_
          rotate_left
          · simp only [Act.put, zla, zlb, zlc, i64_w, i32_w]
            rfl
          refine pure_ (i := 6) (N := some 25) (v := undef) (a' := ?_) (List.toArray (true :: true :: true :: true :: true :: true :: true :: false :: false :: false :: false :: false :: false :: false :: false :: false :: false :: false :: false :: false :: false :: false :: false :: false :: false :: false :: false :: false :: false :: false :: false :: false :: false :: [])) rfl rfl (by kernel_rfl) (fun _ _ _ h => h) (Or.inr ⟨by rfl, rfl⟩) ?_ ?_
          rotate_left
          · simp only [Act.put, zla, zlb, zlc, i64_w, i32_w]
            rfl
          refine pure_ (i := 7) (N := some 26) (v := undef) (a' := ?_) (List.toArray (true :: true :: true :: true :: true :: true :: true :: true :: false :: false :: false :: false :: false :: false :: false :: false :: false :: false :: false :: false :: false :: false :: false :: false :: false :: false :: false :: false :: false :: false :: false :: false :: false :: [])) rfl rfl (by kernel_rfl) (fun _ _ _ h => h) (Or.inr ⟨by rfl, rfl⟩) ?_ ?_
          rotate_left
          · simp only [Act.put, zla, zlb, zlc, i64_w, i32_w]
            rfl
          refine pure_ (i := 8) (N := some 27) (v := undef) (a' := ?_) (List.toArray (true :: true :: true :: true :: true :: true :: true :: true :: true :: false :: false :: false :: false :: false :: false :: false :: false :: false :: false :: false :: false :: false :: false :: false :: false :: false :: false :: false :: false :: false :: false :: false :: false :: [])) rfl rfl (by kernel_rfl) (fun _ _ _ h => h) (Or.inr ⟨by rfl, rfl⟩) ?_ ?_
          rotate_left
          · simp only [Act.put, zla, zlb, zlc, i64_w, i32_w]
            rfl
          refine pure_ (i := 9) (N := some 28) (v := undef) (a' := ?_) (List.toArray (true :: true :: true :: true :: true :: true :: true :: true :: true :: true :: false :: false :: false :: false :: false :: false :: false :: false :: false :: false :: false :: false :: false :: false :: false :: false :: false :: false :: false :: false :: false :: false :: false :: [])) rfl rfl (by kernel_rfl) (fun _ _ _ h => h) (Or.inr ⟨by rfl, rfl⟩) ?_ ?_
          rotate_left
          · simp only [Act.put, zla, zlb, zlc, i64_w, i32_w]
            rfl
          refine pure_ (i := 10) (N := some 29) (v := undef) (a' := ?_) (List.toArray (true :: true :: true :: true :: true :: true :: true :: true :: true :: true :: true :: false :: false :: false :: false :: false :: false :: false :: false :: false :: false :: false :: false :: false :: false :: false :: false :: false :: false :: false :: false :: false :: false :: [])) rfl rfl (by kernel_rfl) (fun _ _ _ h => h) (Or.inr ⟨by rfl, rfl⟩) ?_ ?_
          rotate_left
          · simp only [Act.put, zla, zlb, zlc, i64_w, i32_w]
            rfl
          refine pure_ (i := 11) (N := some 30) (v := undef) (a' := ?_) (List.toArray (true :: true :: true :: true :: true :: true :: true :: true :: true :: true :: true :: true :: false :: false :: false :: false :: false :: false :: false :: false :: false :: false :: false :: false :: false :: false :: false :: false :: false :: false :: false :: false :: false :: [])) rfl rfl (by kernel_rfl) (fun _ _ _ h => h) (Or.inr ⟨by rfl, rfl⟩) ?_ ?_
          rotate_left
          · simp only [Act.put, zla, zlb, zlc, i64_w, i32_w]
            rfl
          refine pure_ (i := 12) (N := some 31) (v := undef) (a' := ?_) (List.toArray (true :: true :: true :: true :: true :: true :: true :: true :: true :: true :: true :: true :: true :: false :: false :: false :: false :: false :: false :: false :: false :: false :: false :: false :: false :: false :: false :: false :: false :: false :: false :: false :: false :: [])) rfl rfl (by kernel_rfl) (fun _ _ _ h => h) (Or.inr ⟨by rfl, rfl⟩) ?_ ?_
          rotate_left
          · simp only [Act.put, zla, zlb, zlc, i64_w, i32_w]
            rfl
          refine zq 13 (some 32) ?_
          refine zq 14 (some 33) ?_
          refine pure_ (i := 15) (N := some 34) (v := undef) (a' := ?_) (List.toArray (true :: true :: true :: true :: true :: true :: true :: true :: true :: true :: true :: true :: true :: true :: true :: true :: false :: false :: false :: false :: false :: false :: false :: false :: false :: false :: false :: false :: false :: false :: false :: false :: false :: [])) rfl rfl (by kernel_rfl) (fun _ _ _ h => h) (Or.inr ⟨by rfl, rfl⟩) ?_ ?_
          rotate_left
          · simp only [Act.put, zla, zlb, zlc, i64_w, i32_w]
            rfl
          refine pure_ (i := 16) (N := some 35) (v := undef) (a' := ?_) (List.toArray (true :: true :: true :: true :: true :: true :: true :: true :: true :: true :: true :: true :: true :: true :: true :: true :: true :: false :: false :: false :: false :: false :: false :: false :: false :: false :: false :: false :: false :: false :: false :: false :: false :: [])) rfl rfl (by kernel_rfl) (fun _ _ _ h => h) (Or.inr ⟨by rfl, rfl⟩) ?_ ?_
          rotate_left
          · simp only [Act.put, zla, zlb, zlc, i64_w, i32_w]
            rfl
          refine pure_ (i := 17) (N := some 36) (v := undef) (a' := ?_) (List.toArray (true :: true :: true :: true :: true :: true :: true :: true :: true :: true :: true :: true :: true :: true :: true :: true :: true :: true :: false :: false :: false :: false :: false :: false :: false :: false :: false :: false :: false :: false :: false :: false :: false :: [])) rfl rfl (by kernel_rfl) (fun _ _ _ h => h) (Or.inr ⟨by rfl, rfl⟩) ?_ ?_
          rotate_left
          · simp only [Act.put, zla, zlb, zlc, i64_w, i32_w]
            rfl
          refine pure_ (i := 18) (N := some 37) (v := undef) (a' := ?_) (List.toArray (true :: true :: true :: true :: true :: true :: true :: true :: true :: true :: true :: true :: true :: true :: true :: true :: true :: true :: true :: false :: false :: false :: false :: false :: false :: false :: false :: false :: false :: false :: false :: false :: false :: [])) rfl rfl (by kernel_rfl) (fun _ _ _ h => h) (Or.inr ⟨by rfl, rfl⟩) ?_ ?_
          rotate_left
          · simp only [Act.put, zla, zlb, zlc, i64_w, i32_w]
            rfl
          refine zq 19 (some 38) ?_
          refine zq 20 (some 39) ?_
          refine pure_ (i := 21) (N := some 40) (v := undef) (a' := ?_) (List.toArray (true :: true :: true :: true :: true :: true :: true :: true :: true :: true :: true :: true :: true :: true :: true :: true :: true :: true :: true :: true :: true :: true :: false :: false :: false :: false :: false :: false :: false :: false :: false :: false :: false :: [])) rfl rfl (by kernel_rfl) (fun _ _ _ h => h) (Or.inr ⟨by rfl, rfl⟩) ?_ ?_
          rotate_left
          · simp only [Act.put, zla, zlb, zlc, i64_w, i32_w]
            rfl
          refine pure_ (i := 22) (N := some 41) (v := undef) (a' := ?_) (List.toArray (true :: true :: true :: true :: true :: true :: true :: true :: true :: true :: true :: true :: true :: true :: true :: true :: true :: true :: true :: true :: true :: true :: true :: false :: false :: false :: false :: false :: false :: false :: false :: false :: false :: [])) rfl rfl (by kernel_rfl) (fun _ _ _ h => h) (Or.inr ⟨by rfl, rfl⟩) ?_ ?_
          rotate_left
          · simp only [Act.put, zla, zlb, zlc, i64_w, i32_w]
            rfl
          refine pure_ (i := 23) (N := some 42) (v := undef) (a' := ?_) (List.toArray (true :: true :: true :: true :: true :: true :: true :: true :: true :: true :: true :: true :: true :: true :: true :: true :: true :: true :: true :: true :: true :: true :: true :: true :: false :: false :: false :: false :: false :: false :: false :: false :: false :: [])) rfl rfl (by kernel_rfl) (fun _ _ _ h => h) (Or.inr ⟨by rfl, rfl⟩) ?_ ?_
          rotate_left
          · simp only [Act.put, zla, zlb, zlc, i64_w, i32_w]
            rfl
          refine zq 24 (some 43) ?_
          refine zq 25 (some 44) ?_
          refine pure_ (i := 26) (N := some 45) (v := undef) (a' := ?_) (List.toArray (true :: true :: true :: true :: true :: true :: true :: true :: true :: true :: true :: true :: true :: true :: true :: true :: true :: true :: true :: true :: true :: true :: true :: true :: true :: true :: true :: false :: false :: false :: false :: false :: false :: [])) rfl rfl (by kernel_rfl) (fun _ _ _ h => h) (Or.inr ⟨by rfl, rfl⟩) ?_ ?_
          rotate_left
          · simp only [Act.put, zla, zlb, zlc, i64_w, i32_w]
            rfl
          refine pure_ (i := 27) (N := some 46) (v := undef) (a' := ?_) (List.toArray (true :: true :: true :: true :: true :: true :: true :: true :: true :: true :: true :: true :: true :: true :: true :: true :: true :: true :: true :: true :: true :: true :: true :: true :: true :: true :: true :: true :: false :: false :: false :: false :: false :: [])) rfl rfl (by kernel_rfl) (fun _ _ _ h => h) (Or.inr ⟨by rfl, rfl⟩) ?_ ?_
          rotate_left
          · simp only [Act.put, zla, zlb, zlc, i64_w, i32_w]
            rfl
          refine pure_ (i := 28) (N := some 47) (v := undef) (a' := ?_) (List.toArray (true :: true :: true :: true :: true :: true :: true :: true :: true :: true :: true :: true :: true :: true :: true :: true :: true :: true :: true :: true :: true :: true :: true :: true :: true :: true :: true :: true :: true :: false :: false :: false :: false :: [])) rfl rfl (by kernel_rfl) (fun _ _ _ h => h) (Or.inr ⟨by rfl, rfl⟩) ?_ ?_
          rotate_left
          · simp only [Act.put, zla, zlb, zlc, i64_w, i32_w]
            rfl
          refine pure_ (i := 29) (N := some 48) (v := undef) (a' := ?_) (List.toArray (true :: true :: true :: true :: true :: true :: true :: true :: true :: true :: true :: true :: true :: true :: true :: true :: true :: true :: true :: true :: true :: true :: true :: true :: true :: true :: true :: true :: true :: true :: false :: false :: false :: [])) rfl rfl (by kernel_rfl) (fun _ _ _ h => h) (Or.inr ⟨by rfl, rfl⟩) ?_ ?_
          rotate_left
          · simp only [Act.put, zla, zlb, zlc, i64_w, i32_w]
            rfl
          refine pure_ (i := 30) (N := some 49) (v := undef) (a' := ?_) (List.toArray (true :: true :: true :: true :: true :: true :: true :: true :: true :: true :: true :: true :: true :: true :: true :: true :: true :: true :: true :: true :: true :: true :: true :: true :: true :: true :: true :: true :: true :: true :: true :: false :: false :: [])) rfl rfl (by kernel_rfl) (fun _ _ _ h => h) (Or.inr ⟨by rfl, rfl⟩) ?_ ?_
          rotate_left
          · simp only [Act.put, zla, zlb, zlc, i64_w, i32_w]
            rfl
          refine pure_ (i := 31) (N := some 50) (v := undef) (a' := ?_) (List.toArray (true :: true :: true :: true :: true :: true :: true :: true :: true :: true :: true :: true :: true :: true :: true :: true :: true :: true :: true :: true :: true :: true :: true :: true :: true :: true :: true :: true :: true :: true :: true :: true :: false :: [])) rfl rfl (by kernel_rfl) (fun _ _ _ h => h) (Or.inr ⟨by rfl, rfl⟩) ?_ ?_
          rotate_left
          · simp only [Act.put, zla, zlb, zlc, i64_w, i32_w]
            rfl
          refine zq 32 (some 51) ?_
          refine done_ (by kernel_rfl) ?_
          go_wp2
          go_ret2
          rw [show newGo (l.map of67) [] = none from new_fail HXI.out HB.out.go HFT.out]
          exact ⟨rfl, by repeat (with_reducible first | exact HBW.out | apply pw_below_drewN | apply below_drew)⟩
        | true =>
          have HNA := Aside0.mk hna
          cases hfi : find acc x.f0 with
          | some fo =>
            have HFI := Aside0.mk (show find (stOf acc).all x.f0 = some fo from hfi)
            have HFT := Aside0.mk (show fits (of67 x) acc = false by unfold fits of67; rw [hna, hfi]; rfl)
            clear hna hfi
            go_wp2
            generalize wr.alloc (.cells #[.string x.f0, .slice A1 x.f1.length c1, .int .i64 x.f2] 67) = W0 at *
            generalize wr.heap.size = b6 at *
            clear ca cb cc
            obtain ⟨mb, q, dv, h1⟩ := HPW.out
            have hnew := HNW.out
            have x0 := blk_cell hnew 0
            have x1 := blk_cell hnew 1
            have x2 := blk_cell hnew 2
            have fx0 := blk_frozen hnew 0
            have fx1 := blk_frozen hnew 1
            have fx2 := blk_frozen hnew 2
            simp only [List.getElem?_toArray, List.getElem?_cons_succ, List.getElem?_cons_zero] at x0 x1 x2
            have hp1 := h1.head
            unfold diskCells at hp1
            have m0 := blk_cell hp1 0
            have m1 := blk_cell hp1 1
            have m2 := blk_cell hp1 2
            have m3 := blk_cell hp1 3
            have m4 := blk_cell hp1 4
            have m5 := blk_cell hp1 5
            have fm0 := blk_frozen hp1 0
            have fm1 := blk_frozen hp1 1
            have fm2 := blk_frozen hp1 2
            have fm3 := blk_frozen hp1 3
            have fm4 := blk_frozen hp1 4
            have fm5 := blk_frozen hp1 5
            simp only [List.getElem?_toArray, List.getElem?_cons_succ, List.getElem?_cons_zero] at m0 m1 m2 m3 m4 m5
            have HQ := Aside0.mk h1.drew
            refine start_ (n := 33) (S := fun w' => w'.cell? ⟨b6, 0, none⟩ = some (.string x.f0) ∧ w'.cell? ⟨b6, 1, none⟩ = some (.slice A1 x.f1.length c1) ∧ w'.cell? ⟨b6, 2, none⟩ = some (.int .i64 x.f2) ∧ w'.cell? ⟨w.heap.size + 1, 0, none⟩ = some (.map (some mb)) ∧ (Instr.lookup 74 (.map (some mb)) (.string x.f0) false).run Try.prog w' = .ok (.pointer (some ⟨q fo.name, 0, none⟩)) w') (ds := []) (List.toArray (false :: false :: false :: false :: false :: false :: false :: false :: false :: false :: false :: false :: false :: false :: false :: false :: false :: false :: false :: false :: false :: false :: false :: false :: false :: false :: false :: false :: false :: false :: false :: false :: false :: [])) (by kernel_rfl) rfl rfl ⟨x0, x1, x2, m0, (HQ.out.look_some HFI.out 0)⟩ (fun hHeld => ?_)
            refine zq 0 (some 19) ?_
            refine zu 1 (some 20) hHeld ?_
            refine one_ (i := 2) (N := some 21) (List.toArray (true :: true :: true :: false :: false :: false :: false :: false :: false :: false :: false :: false :: false :: false :: false :: false :: false :: false :: false :: false :: false :: false :: false :: false :: false :: false :: false :: false :: false :: false :: false :: false :: false :: [])) rfl rfl (by kernel_rfl) (by decide) (fun K hK => ?_)
            refine goes_ Try.func43 (by kernel_rfl) rfl #[.string x.f0] (by rfl) rfl rfl (by simp only [List.map_toArray, List.map_cons, List.map_nil]; rfl) ?_
            refine (named_calls x.f0 true HNA.out _).mono ?_
            rintro e w7 ⟨rfl, ⟨⟨nd, rfl⟩⟩⟩
            refine ⟨_, rfl, ?_⟩
            refine hK.out _ _ ⟨hHeld.1, hHeld.2.1, hHeld.2.2.1, hHeld.2.2.2.1, (HQ.out.look_some HFI.out nd)⟩ (fun hHeld => ?_)
            clear hK K
            refine norm_ (a' := ?_) ?_ ?_
            rotate_left
            · show Act.put _ (some 21) _ = _
              simp only [Act.put, zla, zlb, zlc, i64_w, i32_w]
              rfl
            refine zq 3 (some 22) ?_
            refine zq 4 (some 23) ?_
            refine zq 5 (some 24) ?_
            refine zq 6 (some 25) ?_
            refine zq 7 (some 26) ?_
            refine zq 9 (some 28) ?_
            refine zu 8 (some 27) hHeld ?_
            refine zu 10 (some 29) hHeld ?_
            refine zu 11 (some 30) hHeld ?_
            refine zq 12 (some 31) ?_
            refine zq 13 (some 32) ?_
            refine zq 14 (some 33) ?_
            refine pure_ (i := 15) (N := some 34) (v := undef) (a' := ?_) (List.toArray (true :: true :: true :: true :: true :: true :: true :: true :: true :: true :: true :: true :: true :: true :: true :: true :: false :: false :: false :: false :: false :: false :: false :: false :: false :: false :: false :: false :: false :: false :: false :: false :: false :: [])) rfl rfl (by kernel_rfl) (fun _ _ _ h => h) (Or.inr ⟨by rfl, rfl⟩) ?_ ?_
            rotate_left
            · simp only [Act.put, zla, zlb, zlc, i64_w, i32_w]
              rfl
            refine pure_ (i := 16) (N := some 35) (v := undef) (a' := ?_) (List.toArray (true :: true :: true :: true :: true :: true :: true :: true :: true :: true :: true :: true :: true :: true :: true :: true :: true :: false :: false :: false :: false :: false :: false :: false :: false :: false :: false :: false :: false :: false :: false :: false :: false :: [])) rfl rfl (by kernel_rfl) (fun _ _ _ h => h) (Or.inr ⟨by rfl, rfl⟩) ?_ ?_
            rotate_left
            · simp only [Act.put, zla, zlb, zlc, i64_w, i32_w]
              rfl
            refine pure_ (i := 17) (N := some 36) (v := undef) (a' := ?_) (List.toArray (true :: true :: true :: true :: true :: true :: true :: true :: true :: true :: true :: true :: true :: true :: true :: true :: true :: true :: false :: false :: false :: false :: false :: false :: false :: false :: false :: false :: false :: false :: false :: false :: false :: [])) rfl rfl (by kernel_rfl) (fun _ _ _ h => h) (Or.inr ⟨by rfl, rfl⟩) ?_ ?_
            rotate_left
            · simp only [Act.put, zla, zlb, zlc, i64_w, i32_w]
              rfl
            refine pure_ (i := 18) (N := some 37) (v := undef) (a' := ?_) (List.toArray (true :: true :: true :: true :: true :: true :: true :: true :: true :: true :: true :: true :: true :: true :: true :: true :: true :: true :: true :: false :: false :: false :: false :: false :: false :: false :: false :: false :: false :: false :: false :: false :: false :: [])) rfl rfl (by kernel_rfl) (fun _ _ _ h => h) (Or.inr ⟨by rfl, rfl⟩) ?_ ?_
            rotate_left
            · simp only [Act.put, zla, zlb, zlc, i64_w, i32_w]
              rfl
            refine zq 19 (some 38) ?_
            refine zq 20 (some 39) ?_
            refine pure_ (i := 21) (N := some 40) (v := undef) (a' := ?_) (List.toArray (true :: true :: true :: true :: true :: true :: true :: true :: true :: true :: true :: true :: true :: true :: true :: true :: true :: true :: true :: true :: true :: true :: false :: false :: false :: false :: false :: false :: false :: false :: false :: false :: false :: [])) rfl rfl (by kernel_rfl) (fun _ _ _ h => h) (Or.inr ⟨by rfl, rfl⟩) ?_ ?_
            rotate_left
            · simp only [Act.put, zla, zlb, zlc, i64_w, i32_w]
              rfl
            refine pure_ (i := 22) (N := some 41) (v := undef) (a' := ?_) (List.toArray (true :: true :: true :: true :: true :: true :: true :: true :: true :: true :: true :: true :: true :: true :: true :: true :: true :: true :: true :: true :: true :: true :: true :: false :: false :: false :: false :: false :: false :: false :: false :: false :: false :: [])) rfl rfl (by kernel_rfl) (fun _ _ _ h => h) (Or.inr ⟨by rfl, rfl⟩) ?_ ?_
            rotate_left
            · simp only [Act.put, zla, zlb, zlc, i64_w, i32_w]
              rfl
            refine pure_ (i := 23) (N := some 42) (v := undef) (a' := ?_) (List.toArray (true :: true :: true :: true :: true :: true :: true :: true :: true :: true :: true :: true :: true :: true :: true :: true :: true :: true :: true :: true :: true :: true :: true :: true :: false :: false :: false :: false :: false :: false :: false :: false :: false :: [])) rfl rfl (by kernel_rfl) (fun _ _ _ h => h) (Or.inr ⟨by rfl, rfl⟩) ?_ ?_
            rotate_left
            · simp only [Act.put, zla, zlb, zlc, i64_w, i32_w]
              rfl
            refine zq 24 (some 43) ?_
            refine zq 25 (some 44) ?_
            refine pure_ (i := 26) (N := some 45) (v := undef) (a' := ?_) (List.toArray (true :: true :: true :: true :: true :: true :: true :: true :: true :: true :: true :: true :: true :: true :: true :: true :: true :: true :: true :: true :: true :: true :: true :: true :: true :: true :: true :: false :: false :: false :: false :: false :: false :: [])) rfl rfl (by kernel_rfl) (fun _ _ _ h => h) (Or.inr ⟨by rfl, rfl⟩) ?_ ?_
            rotate_left
            · simp only [Act.put, zla, zlb, zlc, i64_w, i32_w]
              rfl
            refine pure_ (i := 27) (N := some 46) (v := undef) (a' := ?_) (List.toArray (true :: true :: true :: true :: true :: true :: true :: true :: true :: true :: true :: true :: true :: true :: true :: true :: true :: true :: true :: true :: true :: true :: true :: true :: true :: true :: true :: true :: false :: false :: false :: false :: false :: [])) rfl rfl (by kernel_rfl) (fun _ _ _ h => h) (Or.inr ⟨by rfl, rfl⟩) ?_ ?_
            rotate_left
            · simp only [Act.put, zla, zlb, zlc, i64_w, i32_w]
              rfl
            refine pure_ (i := 28) (N := some 47) (v := undef) (a' := ?_) (List.toArray (true :: true :: true :: true :: true :: true :: true :: true :: true :: true :: true :: true :: true :: true :: true :: true :: true :: true :: true :: true :: true :: true :: true :: true :: true :: true :: true :: true :: true :: false :: false :: false :: false :: [])) rfl rfl (by kernel_rfl) (fun _ _ _ h => h) (Or.inr ⟨by rfl, rfl⟩) ?_ ?_
            rotate_left
            · simp only [Act.put, zla, zlb, zlc, i64_w, i32_w]
              rfl
            refine pure_ (i := 29) (N := some 48) (v := undef) (a' := ?_) (List.toArray (true :: true :: true :: true :: true :: true :: true :: true :: true :: true :: true :: true :: true :: true :: true :: true :: true :: true :: true :: true :: true :: true :: true :: true :: true :: true :: true :: true :: true :: true :: false :: false :: false :: [])) rfl rfl (by kernel_rfl) (fun _ _ _ h => h) (Or.inr ⟨by rfl, rfl⟩) ?_ ?_
            rotate_left
            · simp only [Act.put, zla, zlb, zlc, i64_w, i32_w]
              rfl
            refine pure_ (i := 30) (N := some 49) (v := undef) (a' := ?_) (List.toArray (true :: true :: true :: true :: true :: true :: true :: true :: true :: true :: true :: true :: true :: true :: true :: true :: true :: true :: true :: true :: true :: true :: true :: true :: true :: true :: true :: true :: true :: true :: true :: false :: false :: [])) rfl rfl (by kernel_rfl) (fun _ _ _ h => h) (Or.inr ⟨by rfl, rfl⟩) ?_ ?_
            rotate_left
            · simp only [Act.put, zla, zlb, zlc, i64_w, i32_w]
              rfl
            refine pure_ (i := 31) (N := some 50) (v := undef) (a' := ?_) (List.toArray (true :: true :: true :: true :: true :: true :: true :: true :: true :: true :: true :: true :: true :: true :: true :: true :: true :: true :: true :: true :: true :: true :: true :: true :: true :: true :: true :: true :: true :: true :: true :: true :: false :: [])) rfl rfl (by kernel_rfl) (fun _ _ _ h => h) (Or.inr ⟨by rfl, rfl⟩) ?_ ?_
            rotate_left
            · simp only [Act.put, zla, zlb, zlc, i64_w, i32_w]
              rfl
            refine zq 32 (some 51) ?_
            refine done_ (by kernel_rfl) ?_
            go_wp2
            go_ret2
            rw [show newGo (l.map of67) [] = none from new_fail HXI.out HB.out.go HFT.out]
            exact ⟨rfl, by repeat (with_reducible first | exact HBW.out | apply pw_below_drewN | apply below_drew)⟩
          | none =>
            have HFI := Aside0.mk (show find (stOf acc).all x.f0 = none from hfi)
            by_cases h3 : 65536 < x.f1.length
            · have HFT := Aside0.mk (show fits (of67 x) acc = false by unfold fits of67; rw [hna, hfi]; simp; omega)
              clear hna hfi
              go_wp2
              generalize wr.alloc (.cells #[.string x.f0, .slice A1 x.f1.length c1, .int .i64 x.f2] 67) = W0 at *
              generalize wr.heap.size = b6 at *
              clear ca cb cc
              obtain ⟨mb, q, dv, h1⟩ := HPW.out
              have hnew := HNW.out
              have x0 := blk_cell hnew 0
              have x1 := blk_cell hnew 1
              have x2 := blk_cell hnew 2
              have fx0 := blk_frozen hnew 0
              have fx1 := blk_frozen hnew 1
              have fx2 := blk_frozen hnew 2
              simp only [List.getElem?_toArray, List.getElem?_cons_succ, List.getElem?_cons_zero] at x0 x1 x2
              have hp1 := h1.head
              unfold diskCells at hp1
              have m0 := blk_cell hp1 0
              have m1 := blk_cell hp1 1
              have m2 := blk_cell hp1 2
              have m3 := blk_cell hp1 3
              have m4 := blk_cell hp1 4
              have m5 := blk_cell hp1 5
              have fm0 := blk_frozen hp1 0
              have fm1 := blk_frozen hp1 1
              have fm2 := blk_frozen hp1 2
              have fm3 := blk_frozen hp1 3
              have fm4 := blk_frozen hp1 4
              have fm5 := blk_frozen hp1 5
              simp only [List.getElem?_toArray, List.getElem?_cons_succ, List.getElem?_cons_zero] at m0 m1 m2 m3 m4 m5
              have HQ := Aside0.mk h1.drew
              have n3 : decide ((65536 : Int) < x.f1.length) = true := by simp; omega
              refine start_ (n := 33) (S := fun w' => w'.cell? ⟨b6, 0, none⟩ = some (.string x.f0) ∧ w'.cell? ⟨b6, 1, none⟩ = some (.slice A1 x.f1.length c1) ∧ w'.cell? ⟨b6, 2, none⟩ = some (.int .i64 x.f2) ∧ w'.cell? ⟨w.heap.size + 1, 0, none⟩ = some (.map (some mb)) ∧ (Instr.lookup 74 (.map (some mb)) (.string x.f0) false).run Try.prog w' = .ok (.pointer none) w') (ds := []) (List.toArray (false :: false :: false :: false :: false :: false :: false :: false :: false :: false :: false :: false :: false :: false :: false :: false :: false :: false :: false :: false :: false :: false :: false :: false :: false :: false :: false :: false :: false :: false :: false :: false :: false :: [])) (by kernel_rfl) rfl rfl ⟨x0, x1, x2, m0, (HQ.out.look_none HFI.out 0)⟩ (fun hHeld => ?_)
              refine zp 0 (some 19) ?_ rfl rfl (by kernel_rfl) (fun _ _ _ h => h) (by rfl) ?_ ?_ ?_ ?_ ?_
              rotate_left; · (intro w'; go_simp; with_reducible rfl)
              rotate_left 2; · (simp only [Act.put, zla, zlb, zlc, i64_w, i32_w, n3]; rfl)
              refine zt 1 (some 20) ?_ rfl rfl (by kernel_rfl) (fun _ _ _ h => h) (by rfl) ?_ hHeld ?_ ?_ ?_ ?_
              rotate_left; · (rintro w' ⟨s0, s1, s2, s3, s4⟩; go_simp; with_reducible rfl)
              rotate_left 2; · (simp only [Act.put, zla, zlb, zlc, i64_w, i32_w, n3]; rfl)
              refine one_ (i := 2) (N := some 21) (List.toArray (true :: true :: true :: false :: false :: false :: false :: false :: false :: false :: false :: false :: false :: false :: false :: false :: false :: false :: false :: false :: false :: false :: false :: false :: false :: false :: false :: false :: false :: false :: false :: false :: false :: [])) rfl rfl (by kernel_rfl) (by decide) (fun K hK => ?_)
              refine goes_ Try.func43 (by kernel_rfl) rfl #[.string x.f0] (by rfl) rfl rfl (by simp only [List.map_toArray, List.map_cons, List.map_nil]; rfl) ?_
              refine (named_calls x.f0 true HNA.out _).mono ?_
              rintro e w7 ⟨rfl, ⟨⟨nd, rfl⟩⟩⟩
              refine ⟨_, rfl, ?_⟩
              refine hK.out _ _ ⟨hHeld.1, hHeld.2.1, hHeld.2.2.1, hHeld.2.2.2.1, (HQ.out.look_none HFI.out nd)⟩ (fun hHeld => ?_)
              clear hK K
              refine norm_ (a' := ?_) ?_ ?_
              rotate_left
              · show Act.put _ (some 21) _ = _
                simp only [Act.put, zla, zlb, zlc, i64_w, i32_w, n3]
                rfl
              refine zp 3 (some 22) ?_ rfl rfl (by kernel_rfl) (fun _ _ _ h => h) (by rfl) ?_ ?_ ?_ ?_ ?_
              rotate_left; · (intro w'; go_simp; with_reducible rfl)
              rotate_left 2; · (simp only [Act.put, zla, zlb, zlc, i64_w, i32_w, n3]; rfl)
              refine zp 4 (some 23) ?_ rfl rfl (by kernel_rfl) (fun _ _ _ h => h) (by rfl) ?_ ?_ ?_ ?_ ?_
              rotate_left; · (intro w'; go_simp; with_reducible rfl)
              rotate_left 2; · (simp only [Act.put, zla, zlb, zlc, i64_w, i32_w, n3]; rfl)
              refine zp 5 (some 24) ?_ rfl rfl (by kernel_rfl) (fun _ _ _ h => h) (by rfl) ?_ ?_ ?_ ?_ ?_
              rotate_left; · (intro w'; go_simp; with_reducible rfl)
              rotate_left 2; · (simp only [Act.put, zla, zlb, zlc, i64_w, i32_w, n3]; rfl)
              refine zp 6 (some 25) ?_ rfl rfl (by kernel_rfl) (fun _ _ _ h => h) (by rfl) ?_ ?_ ?_ ?_ ?_
              rotate_left; · (intro w'; go_simp; with_reducible rfl)
              rotate_left 2; · (simp only [Act.put, zla, zlb, zlc, i64_w, i32_w, n3]; rfl)
              refine zp 7 (some 26) ?_ rfl rfl (by kernel_rfl) (fun _ _ _ h => h) (by rfl) ?_ ?_ ?_ ?_ ?_
              rotate_left; · (intro w'; go_simp; with_reducible rfl)
              rotate_left 2; · (simp only [Act.put, zla, zlb, zlc, i64_w, i32_w, n3]; rfl)
              refine zp 9 (some 28) ?_ rfl rfl (by kernel_rfl) (fun _ _ _ h => h) (by rfl) ?_ ?_ ?_ ?_ ?_
              rotate_left; · (intro w'; go_simp; with_reducible rfl)
              rotate_left 2; · (simp only [Act.put, zla, zlb, zlc, i64_w, i32_w, n3]; rfl)
              refine zt 8 (some 27) ?_ rfl rfl (by kernel_rfl) (fun _ _ _ h => h) (by rfl) ?_ hHeld ?_ ?_ ?_ ?_
              rotate_left; · (rintro w' ⟨s0, s1, s2, s3, s4⟩; go_simp; with_reducible rfl)
              rotate_left 2; · (simp only [Act.put, zla, zlb, zlc, i64_w, i32_w, n3]; rfl)
              refine zt 10 (some 29) ?_ rfl rfl (by kernel_rfl) (fun _ _ _ h => h) (by rfl) ?_ hHeld ?_ ?_ ?_ ?_
              rotate_left; · (rintro w' ⟨s0, s1, s2, s3, s4⟩; go_simp; with_reducible rfl)
              rotate_left 2; · (simp only [Act.put, zla, zlb, zlc, i64_w, i32_w, n3]; rfl)
              refine zt 11 (some 30) ?_ rfl rfl (by kernel_rfl) (fun _ _ _ h => h) (by rfl) ?_ hHeld ?_ ?_ ?_ ?_
              rotate_left; · (rintro w' ⟨s0, s1, s2, s3, s4⟩; go_simp; with_reducible rfl)
              rotate_left 2; · (simp only [Act.put, zla, zlb, zlc, i64_w, i32_w, n3]; rfl)
              refine zp 12 (some 31) ?_ rfl rfl (by kernel_rfl) (fun _ _ _ h => h) (by rfl) ?_ ?_ ?_ ?_ ?_
              rotate_left; · (intro w'; go_simp; with_reducible rfl)
              rotate_left 2; · (simp only [Act.put, zla, zlb, zlc, i64_w, i32_w, n3]; rfl)
              refine zp 13 (some 32) ?_ rfl rfl (by kernel_rfl) (fun _ _ _ h => h) (by rfl) ?_ ?_ ?_ ?_ ?_
              rotate_left; · (intro w'; go_simp; with_reducible rfl)
              rotate_left 2; · (simp only [Act.put, zla, zlb, zlc, i64_w, i32_w, n3]; rfl)
              refine zp 14 (some 33) ?_ rfl rfl (by kernel_rfl) (fun _ _ _ h => h) (by rfl) ?_ ?_ ?_ ?_ ?_
              rotate_left; · (intro w'; go_simp; with_reducible rfl)
              rotate_left 2; · (simp only [Act.put, zla, zlb, zlc, i64_w, i32_w, n3]; rfl)
              refine zp 15 (some 34) ?_ rfl rfl (by kernel_rfl) (fun _ _ _ h => h) (by rfl) ?_ ?_ ?_ ?_ ?_
              rotate_left; · (intro w'; go_simp; with_reducible rfl)
              rotate_left 2; · (simp only [Act.put, zla, zlb, zlc, i64_w, i32_w, n3]; rfl)
              refine zt 16 (some 35) ?_ rfl rfl (by kernel_rfl) (fun _ _ _ h => h) (by rfl) ?_ hHeld ?_ ?_ ?_ ?_
              rotate_left; · (rintro w' ⟨s0, s1, s2, s3, s4⟩; go_simp; with_reducible rfl)
              rotate_left 2; · (simp only [Act.put, zla, zlb, zlc, i64_w, i32_w, n3]; rfl)
              refine zp 17 (some 36) ?_ rfl rfl (by kernel_rfl) (fun _ _ _ h => h) (by rfl) ?_ ?_ ?_ ?_ ?_
              rotate_left; · (intro w'; go_simp; with_reducible rfl)
              rotate_left 2; · (simp only [Act.put, zla, zlb, zlc, i64_w, i32_w, n3]; rfl)
              refine zp 18 (some 37) ?_ rfl rfl (by kernel_rfl) (fun _ _ _ h => h) (by rfl) ?_ ?_ ?_ ?_ ?_
              rotate_left; · (intro w'; go_simp; with_reducible rfl)
              rotate_left 2; · (simp only [Act.put, zla, zlb, zlc, i64_w, i32_w, n3]; rfl)
              refine zp 19 (some 38) ?_ rfl rfl (by kernel_rfl) (fun _ _ _ h => h) (by rfl) ?_ ?_ ?_ ?_ ?_
              rotate_left; · (intro w'; go_simp; with_reducible rfl)
              rotate_left 2; · (simp only [Act.put, zla, zlb, zlc, i64_w, i32_w, n3]; rfl)
              refine zp 20 (some 39) ?_ rfl rfl (by kernel_rfl) (fun _ _ _ h => h) (by rfl) ?_ ?_ ?_ ?_ ?_
              rotate_left; · (intro w'; go_simp; with_reducible rfl)
              rotate_left 2; · (simp only [Act.put, zla, zlb, zlc, i64_w, i32_w, n3]; rfl)
              refine pure_ (i := 21) (N := some 40) (v := undef) (a' := ?_) (List.toArray (true :: true :: true :: true :: true :: true :: true :: true :: true :: true :: true :: true :: true :: true :: true :: true :: true :: true :: true :: true :: true :: true :: false :: false :: false :: false :: false :: false :: false :: false :: false :: false :: false :: [])) rfl rfl (by kernel_rfl) (fun _ _ _ h => h) (Or.inr ⟨by rfl, rfl⟩) ?_ ?_
              rotate_left
              · simp only [Act.put, zla, zlb, zlc, i64_w, i32_w, n3]
                rfl
              refine pure_ (i := 22) (N := some 41) (v := undef) (a' := ?_) (List.toArray (true :: true :: true :: true :: true :: true :: true :: true :: true :: true :: true :: true :: true :: true :: true :: true :: true :: true :: true :: true :: true :: true :: true :: false :: false :: false :: false :: false :: false :: false :: false :: false :: false :: [])) rfl rfl (by kernel_rfl) (fun _ _ _ h => h) (Or.inr ⟨by rfl, rfl⟩) ?_ ?_
              rotate_left
              · simp only [Act.put, zla, zlb, zlc, i64_w, i32_w, n3]
                rfl
              refine pure_ (i := 23) (N := some 42) (v := undef) (a' := ?_) (List.toArray (true :: true :: true :: true :: true :: true :: true :: true :: true :: true :: true :: true :: true :: true :: true :: true :: true :: true :: true :: true :: true :: true :: true :: true :: false :: false :: false :: false :: false :: false :: false :: false :: false :: [])) rfl rfl (by kernel_rfl) (fun _ _ _ h => h) (Or.inr ⟨by rfl, rfl⟩) ?_ ?_
              rotate_left
              · simp only [Act.put, zla, zlb, zlc, i64_w, i32_w, n3]
                rfl
              refine zp 24 (some 43) ?_ rfl rfl (by kernel_rfl) (fun _ _ _ h => h) (by rfl) ?_ ?_ ?_ ?_ ?_
              rotate_left; · (intro w'; go_simp; with_reducible rfl)
              rotate_left 2; · (simp only [Act.put, zla, zlb, zlc, i64_w, i32_w, n3]; rfl)
              refine zp 25 (some 44) ?_ rfl rfl (by kernel_rfl) (fun _ _ _ h => h) (by rfl) ?_ ?_ ?_ ?_ ?_
              rotate_left; · (intro w'; go_simp; with_reducible rfl)
              rotate_left 2; · (simp only [Act.put, zla, zlb, zlc, i64_w, i32_w, n3]; rfl)
              refine pure_ (i := 26) (N := some 45) (v := undef) (a' := ?_) (List.toArray (true :: true :: true :: true :: true :: true :: true :: true :: true :: true :: true :: true :: true :: true :: true :: true :: true :: true :: true :: true :: true :: true :: true :: true :: true :: true :: true :: false :: false :: false :: false :: false :: false :: [])) rfl rfl (by kernel_rfl) (fun _ _ _ h => h) (Or.inr ⟨by rfl, rfl⟩) ?_ ?_
              rotate_left
              · simp only [Act.put, zla, zlb, zlc, i64_w, i32_w, n3]
                rfl
              refine pure_ (i := 27) (N := some 46) (v := undef) (a' := ?_) (List.toArray (true :: true :: true :: true :: true :: true :: true :: true :: true :: true :: true :: true :: true :: true :: true :: true :: true :: true :: true :: true :: true :: true :: true :: true :: true :: true :: true :: true :: false :: false :: false :: false :: false :: [])) rfl rfl (by kernel_rfl) (fun _ _ _ h => h) (Or.inr ⟨by rfl, rfl⟩) ?_ ?_
              rotate_left
              · simp only [Act.put, zla, zlb, zlc, i64_w, i32_w, n3]
                rfl
              refine pure_ (i := 28) (N := some 47) (v := undef) (a' := ?_) (List.toArray (true :: true :: true :: true :: true :: true :: true :: true :: true :: true :: true :: true :: true :: true :: true :: true :: true :: true :: true :: true :: true :: true :: true :: true :: true :: true :: true :: true :: true :: false :: false :: false :: false :: [])) rfl rfl (by kernel_rfl) (fun _ _ _ h => h) (Or.inr ⟨by rfl, rfl⟩) ?_ ?_
              rotate_left
              · simp only [Act.put, zla, zlb, zlc, i64_w, i32_w, n3]
                rfl
              refine pure_ (i := 29) (N := some 48) (v := undef) (a' := ?_) (List.toArray (true :: true :: true :: true :: true :: true :: true :: true :: true :: true :: true :: true :: true :: true :: true :: true :: true :: true :: true :: true :: true :: true :: true :: true :: true :: true :: true :: true :: true :: true :: false :: false :: false :: [])) rfl rfl (by kernel_rfl) (fun _ _ _ h => h) (Or.inr ⟨by rfl, rfl⟩) ?_ ?_
              rotate_left
              · simp only [Act.put, zla, zlb, zlc, i64_w, i32_w, n3]
                rfl
              refine pure_ (i := 30) (N := some 49) (v := undef) (a' := ?_) (List.toArray (true :: true :: true :: true :: true :: true :: true :: true :: true :: true :: true :: true :: true :: true :: true :: true :: true :: true :: true :: true :: true :: true :: true :: true :: true :: true :: true :: true :: true :: true :: true :: false :: false :: [])) rfl rfl (by kernel_rfl) (fun _ _ _ h => h) (Or.inr ⟨by rfl, rfl⟩) ?_ ?_
              rotate_left
              · simp only [Act.put, zla, zlb, zlc, i64_w, i32_w, n3]
                rfl
              refine pure_ (i := 31) (N := some 50) (v := undef) (a' := ?_) (List.toArray (true :: true :: true :: true :: true :: true :: true :: true :: true :: true :: true :: true :: true :: true :: true :: true :: true :: true :: true :: true :: true :: true :: true :: true :: true :: true :: true :: true :: true :: true :: true :: true :: false :: [])) rfl rfl (by kernel_rfl) (fun _ _ _ h => h) (Or.inr ⟨by rfl, rfl⟩) ?_ ?_
              rotate_left
              · simp only [Act.put, zla, zlb, zlc, i64_w, i32_w, n3]
                rfl
              refine zp 32 (some 51) ?_ rfl rfl (by kernel_rfl) (fun _ _ _ h => h) (by rfl) ?_ ?_ ?_ ?_ ?_
              rotate_left; · (intro w'; go_simp; with_reducible rfl)
              rotate_left 2; · (simp only [Act.put, zla, zlb, zlc, i64_w, i32_w, n3]; rfl)
              refine done_ (by kernel_rfl) ?_
              go_wp2
              go_ret2
              rw [show newGo (l.map of67) [] = none from new_fail HXI.out HB.out.go HFT.out]
              exact ⟨rfl, by repeat (with_reducible first | exact HBW.out | apply pw_below_drewN | apply below_drew)⟩
            · by_cases h4 : x.f2 < 0
              · have HFT := Aside0.mk (show fits (of67 x) acc = false by unfold fits of67; rw [hna, hfi]; simp; omega)
                clear hna hfi
                go_wp2
                generalize wr.alloc (.cells #[.string x.f0, .slice A1 x.f1.length c1, .int .i64 x.f2] 67) = W0 at *
                generalize wr.heap.size = b6 at *
                clear ca cb cc
                obtain ⟨mb, q, dv, h1⟩ := HPW.out
                have hnew := HNW.out
                have x0 := blk_cell hnew 0
                have x1 := blk_cell hnew 1
                have x2 := blk_cell hnew 2
                have fx0 := blk_frozen hnew 0
                have fx1 := blk_frozen hnew 1
                have fx2 := blk_frozen hnew 2
                simp only [List.getElem?_toArray, List.getElem?_cons_succ, List.getElem?_cons_zero] at x0 x1 x2
                have hp1 := h1.head
                unfold diskCells at hp1
                have m0 := blk_cell hp1 0
                have m1 := blk_cell hp1 1
                have m2 := blk_cell hp1 2
                have m3 := blk_cell hp1 3
                have m4 := blk_cell hp1 4
                have m5 := blk_cell hp1 5
                have fm0 := blk_frozen hp1 0
                have fm1 := blk_frozen hp1 1
                have fm2 := blk_frozen hp1 2
                have fm3 := blk_frozen hp1 3
                have fm4 := blk_frozen hp1 4
                have fm5 := blk_frozen hp1 5
                simp only [List.getElem?_toArray, List.getElem?_cons_succ, List.getElem?_cons_zero] at m0 m1 m2 m3 m4 m5
                have HQ := Aside0.mk h1.drew
                have n3 : decide ((65536 : Int) < x.f1.length) = false := by simp; omega
                have n4 : decide (x.f2 < 0) = true := by simp; omega
                refine start_ (n := 33) (S := fun w' => w'.cell? ⟨b6, 0, none⟩ = some (.string x.f0) ∧ w'.cell? ⟨b6, 1, none⟩ = some (.slice A1 x.f1.length c1) ∧ w'.cell? ⟨b6, 2, none⟩ = some (.int .i64 x.f2) ∧ w'.cell? ⟨w.heap.size + 1, 0, none⟩ = some (.map (some mb)) ∧ (Instr.lookup 74 (.map (some mb)) (.string x.f0) false).run Try.prog w' = .ok (.pointer none) w') (ds := []) (List.toArray (false :: false :: false :: false :: false :: false :: false :: false :: false :: false :: false :: false :: false :: false :: false :: false :: false :: false :: false :: false :: false :: false :: false :: false :: false :: false :: false :: false :: false :: false :: false :: false :: false :: [])) (by kernel_rfl) rfl rfl ⟨x0, x1, x2, m0, (HQ.out.look_none HFI.out 0)⟩ (fun hHeld => ?_)
                refine zp 0 (some 19) ?_ rfl rfl (by kernel_rfl) (fun _ _ _ h => h) (by rfl) ?_ ?_ ?_ ?_ ?_
                rotate_left; · (intro w'; go_simp; with_reducible rfl)
                rotate_left 2; · (simp only [Act.put, zla, zlb, zlc, i64_w, i32_w, n3, n4]; rfl)
                refine zt 1 (some 20) ?_ rfl rfl (by kernel_rfl) (fun _ _ _ h => h) (by rfl) ?_ hHeld ?_ ?_ ?_ ?_
                rotate_left; · (rintro w' ⟨s0, s1, s2, s3, s4⟩; go_simp; with_reducible rfl)
                rotate_left 2; · (simp only [Act.put, zla, zlb, zlc, i64_w, i32_w, n3, n4]; rfl)
                refine one_ (i := 2) (N := some 21) (List.toArray (true :: true :: true :: false :: false :: false :: false :: false :: false :: false :: false :: false :: false :: false :: false :: false :: false :: false :: false :: false :: false :: false :: false :: false :: false :: false :: false :: false :: false :: false :: false :: false :: false :: [])) rfl rfl (by kernel_rfl) (by decide) (fun K hK => ?_)
                refine goes_ Try.func43 (by kernel_rfl) rfl #[.string x.f0] (by rfl) rfl rfl (by simp only [List.map_toArray, List.map_cons, List.map_nil]; rfl) ?_
                refine (named_calls x.f0 true HNA.out _).mono ?_
                rintro e w7 ⟨rfl, ⟨⟨nd, rfl⟩⟩⟩
                refine ⟨_, rfl, ?_⟩
                refine hK.out _ _ ⟨hHeld.1, hHeld.2.1, hHeld.2.2.1, hHeld.2.2.2.1, (HQ.out.look_none HFI.out nd)⟩ (fun hHeld => ?_)
                clear hK K
                refine norm_ (a' := ?_) ?_ ?_
                rotate_left
                · show Act.put _ (some 21) _ = _
                  simp only [Act.put, zla, zlb, zlc, i64_w, i32_w, n3, n4]
                  rfl
                refine zp 3 (some 22) ?_ rfl rfl (by kernel_rfl) (fun _ _ _ h => h) (by rfl) ?_ ?_ ?_ ?_ ?_
                rotate_left; · (intro w'; go_simp; with_reducible rfl)
                rotate_left 2; · (simp only [Act.put, zla, zlb, zlc, i64_w, i32_w, n3, n4]; rfl)
                refine zp 4 (some 23) ?_ rfl rfl (by kernel_rfl) (fun _ _ _ h => h) (by rfl) ?_ ?_ ?_ ?_ ?_
                rotate_left; · (intro w'; go_simp; with_reducible rfl)
                rotate_left 2; · (simp only [Act.put, zla, zlb, zlc, i64_w, i32_w, n3, n4]; rfl)
                refine zp 5 (some 24) ?_ rfl rfl (by kernel_rfl) (fun _ _ _ h => h) (by rfl) ?_ ?_ ?_ ?_ ?_
                rotate_left; · (intro w'; go_simp; with_reducible rfl)
                rotate_left 2; · (simp only [Act.put, zla, zlb, zlc, i64_w, i32_w, n3, n4]; rfl)
                refine zp 6 (some 25) ?_ rfl rfl (by kernel_rfl) (fun _ _ _ h => h) (by rfl) ?_ ?_ ?_ ?_ ?_
                rotate_left; · (intro w'; go_simp; with_reducible rfl)
                rotate_left 2; · (simp only [Act.put, zla, zlb, zlc, i64_w, i32_w, n3, n4]; rfl)
                refine zp 7 (some 26) ?_ rfl rfl (by kernel_rfl) (fun _ _ _ h => h) (by rfl) ?_ ?_ ?_ ?_ ?_
                rotate_left; · (intro w'; go_simp; with_reducible rfl)
                rotate_left 2; · (simp only [Act.put, zla, zlb, zlc, i64_w, i32_w, n3, n4]; rfl)
                refine zp 9 (some 28) ?_ rfl rfl (by kernel_rfl) (fun _ _ _ h => h) (by rfl) ?_ ?_ ?_ ?_ ?_
                rotate_left; · (intro w'; go_simp; with_reducible rfl)
                rotate_left 2; · (simp only [Act.put, zla, zlb, zlc, i64_w, i32_w, n3, n4]; rfl)
                refine zt 8 (some 27) ?_ rfl rfl (by kernel_rfl) (fun _ _ _ h => h) (by rfl) ?_ hHeld ?_ ?_ ?_ ?_
                rotate_left; · (rintro w' ⟨s0, s1, s2, s3, s4⟩; go_simp; with_reducible rfl)
                rotate_left 2; · (simp only [Act.put, zla, zlb, zlc, i64_w, i32_w, n3, n4]; rfl)
                refine zt 10 (some 29) ?_ rfl rfl (by kernel_rfl) (fun _ _ _ h => h) (by rfl) ?_ hHeld ?_ ?_ ?_ ?_
                rotate_left; · (rintro w' ⟨s0, s1, s2, s3, s4⟩; go_simp; with_reducible rfl)
                rotate_left 2; · (simp only [Act.put, zla, zlb, zlc, i64_w, i32_w, n3, n4]; rfl)
                refine zt 11 (some 30) ?_ rfl rfl (by kernel_rfl) (fun _ _ _ h => h) (by rfl) ?_ hHeld ?_ ?_ ?_ ?_
                rotate_left; · (rintro w' ⟨s0, s1, s2, s3, s4⟩; go_simp; with_reducible rfl)
                rotate_left 2; · (simp only [Act.put, zla, zlb, zlc, i64_w, i32_w, n3, n4]; rfl)
                refine zp 12 (some 31) ?_ rfl rfl (by kernel_rfl) (fun _ _ _ h => h) (by rfl) ?_ ?_ ?_ ?_ ?_
                rotate_left; · (intro w'; go_simp; with_reducible rfl)
                rotate_left 2; · (simp only [Act.put, zla, zlb, zlc, i64_w, i32_w, n3, n4]; rfl)
                refine zp 13 (some 32) ?_ rfl rfl (by kernel_rfl) (fun _ _ _ h => h) (by rfl) ?_ ?_ ?_ ?_ ?_
                rotate_left; · (intro w'; go_simp; with_reducible rfl)
                rotate_left 2; · (simp only [Act.put, zla, zlb, zlc, i64_w, i32_w, n3, n4]; rfl)
                refine zp 14 (some 33) ?_ rfl rfl (by kernel_rfl) (fun _ _ _ h => h) (by rfl) ?_ ?_ ?_ ?_ ?_
                rotate_left; · (intro w'; go_simp; with_reducible rfl)
                rotate_left 2; · (simp only [Act.put, zla, zlb, zlc, i64_w, i32_w, n3, n4]; rfl)
                refine zp 15 (some 34) ?_ rfl rfl (by kernel_rfl) (fun _ _ _ h => h) (by rfl) ?_ ?_ ?_ ?_ ?_
                rotate_left; · (intro w'; go_simp; with_reducible rfl)
                rotate_left 2; · (simp only [Act.put, zla, zlb, zlc, i64_w, i32_w, n3, n4]; rfl)
                refine zt 16 (some 35) ?_ rfl rfl (by kernel_rfl) (fun _ _ _ h => h) (by rfl) ?_ hHeld ?_ ?_ ?_ ?_
                rotate_left; · (rintro w' ⟨s0, s1, s2, s3, s4⟩; go_simp; with_reducible rfl)
                rotate_left 2; · (simp only [Act.put, zla, zlb, zlc, i64_w, i32_w, n3, n4]; rfl)
                refine zp 17 (some 36) ?_ rfl rfl (by kernel_rfl) (fun _ _ _ h => h) (by rfl) ?_ ?_ ?_ ?_ ?_
                rotate_left; · (intro w'; go_simp; with_reducible rfl)
                rotate_left 2; · (simp only [Act.put, zla, zlb, zlc, i64_w, i32_w, n3, n4]; rfl)
                refine zp 18 (some 37) ?_ rfl rfl (by kernel_rfl) (fun _ _ _ h => h) (by rfl) ?_ ?_ ?_ ?_ ?_
                rotate_left; · (intro w'; go_simp; with_reducible rfl)
                rotate_left 2; · (simp only [Act.put, zla, zlb, zlc, i64_w, i32_w, n3, n4]; rfl)
                refine zp 19 (some 38) ?_ rfl rfl (by kernel_rfl) (fun _ _ _ h => h) (by rfl) ?_ ?_ ?_ ?_ ?_
                rotate_left; · (intro w'; go_simp; with_reducible rfl)
                rotate_left 2; · (simp only [Act.put, zla, zlb, zlc, i64_w, i32_w, n3, n4]; rfl)
                refine zp 20 (some 39) ?_ rfl rfl (by kernel_rfl) (fun _ _ _ h => h) (by rfl) ?_ ?_ ?_ ?_ ?_
                rotate_left; · (intro w'; go_simp; with_reducible rfl)
                rotate_left 2; · (simp only [Act.put, zla, zlb, zlc, i64_w, i32_w, n3, n4]; rfl)
                refine zp 21 (some 40) ?_ rfl rfl (by kernel_rfl) (fun _ _ _ h => h) (by rfl) ?_ ?_ ?_ ?_ ?_
                rotate_left; · (intro w'; go_simp; with_reducible rfl)
                rotate_left 2; · (simp only [Act.put, zla, zlb, zlc, i64_w, i32_w, n3, n4]; rfl)
                refine zt 22 (some 41) ?_ rfl rfl (by kernel_rfl) (fun _ _ _ h => h) (by rfl) ?_ hHeld ?_ ?_ ?_ ?_
                rotate_left; · (rintro w' ⟨s0, s1, s2, s3, s4⟩; go_simp; with_reducible rfl)
                rotate_left 2; · (simp only [Act.put, zla, zlb, zlc, i64_w, i32_w, n3, n4]; rfl)
                refine zp 23 (some 42) ?_ rfl rfl (by kernel_rfl) (fun _ _ _ h => h) (by rfl) ?_ ?_ ?_ ?_ ?_
                rotate_left; · (intro w'; go_simp; with_reducible rfl)
                rotate_left 2; · (simp only [Act.put, zla, zlb, zlc, i64_w, i32_w, n3, n4]; rfl)
                refine zp 24 (some 43) ?_ rfl rfl (by kernel_rfl) (fun _ _ _ h => h) (by rfl) ?_ ?_ ?_ ?_ ?_
                rotate_left; · (intro w'; go_simp; with_reducible rfl)
                rotate_left 2; · (simp only [Act.put, zla, zlb, zlc, i64_w, i32_w, n3, n4]; rfl)
                refine zp 25 (some 44) ?_ rfl rfl (by kernel_rfl) (fun _ _ _ h => h) (by rfl) ?_ ?_ ?_ ?_ ?_
                rotate_left; · (intro w'; go_simp; with_reducible rfl)
                rotate_left 2; · (simp only [Act.put, zla, zlb, zlc, i64_w, i32_w, n3, n4]; rfl)
                refine pure_ (i := 26) (N := some 45) (v := undef) (a' := ?_) (List.toArray (true :: true :: true :: true :: true :: true :: true :: true :: true :: true :: true :: true :: true :: true :: true :: true :: true :: true :: true :: true :: true :: true :: true :: true :: true :: true :: true :: false :: false :: false :: false :: false :: false :: [])) rfl rfl (by kernel_rfl) (fun _ _ _ h => h) (Or.inr ⟨by rfl, rfl⟩) ?_ ?_
                rotate_left
                · simp only [Act.put, zla, zlb, zlc, i64_w, i32_w, n3, n4]
                  rfl
                refine pure_ (i := 27) (N := some 46) (v := undef) (a' := ?_) (List.toArray (true :: true :: true :: true :: true :: true :: true :: true :: true :: true :: true :: true :: true :: true :: true :: true :: true :: true :: true :: true :: true :: true :: true :: true :: true :: true :: true :: true :: false :: false :: false :: false :: false :: [])) rfl rfl (by kernel_rfl) (fun _ _ _ h => h) (Or.inr ⟨by rfl, rfl⟩) ?_ ?_
                rotate_left
                · simp only [Act.put, zla, zlb, zlc, i64_w, i32_w, n3, n4]
                  rfl
                refine pure_ (i := 28) (N := some 47) (v := undef) (a' := ?_) (List.toArray (true :: true :: true :: true :: true :: true :: true :: true :: true :: true :: true :: true :: true :: true :: true :: true :: true :: true :: true :: true :: true :: true :: true :: true :: true :: true :: true :: true :: true :: false :: false :: false :: false :: [])) rfl rfl (by kernel_rfl) (fun _ _ _ h => h) (Or.inr ⟨by rfl, rfl⟩) ?_ ?_
                rotate_left
                · simp only [Act.put, zla, zlb, zlc, i64_w, i32_w, n3, n4]
                  rfl
                refine pure_ (i := 29) (N := some 48) (v := undef) (a' := ?_) (List.toArray (true :: true :: true :: true :: true :: true :: true :: true :: true :: true :: true :: true :: true :: true :: true :: true :: true :: true :: true :: true :: true :: true :: true :: true :: true :: true :: true :: true :: true :: true :: false :: false :: false :: [])) rfl rfl (by kernel_rfl) (fun _ _ _ h => h) (Or.inr ⟨by rfl, rfl⟩) ?_ ?_
                rotate_left
                · simp only [Act.put, zla, zlb, zlc, i64_w, i32_w, n3, n4]
                  rfl
                refine pure_ (i := 30) (N := some 49) (v := undef) (a' := ?_) (List.toArray (true :: true :: true :: true :: true :: true :: true :: true :: true :: true :: true :: true :: true :: true :: true :: true :: true :: true :: true :: true :: true :: true :: true :: true :: true :: true :: true :: true :: true :: true :: true :: false :: false :: [])) rfl rfl (by kernel_rfl) (fun _ _ _ h => h) (Or.inr ⟨by rfl, rfl⟩) ?_ ?_
                rotate_left
                · simp only [Act.put, zla, zlb, zlc, i64_w, i32_w, n3, n4]
                  rfl
                refine pure_ (i := 31) (N := some 50) (v := undef) (a' := ?_) (List.toArray (true :: true :: true :: true :: true :: true :: true :: true :: true :: true :: true :: true :: true :: true :: true :: true :: true :: true :: true :: true :: true :: true :: true :: true :: true :: true :: true :: true :: true :: true :: true :: true :: false :: [])) rfl rfl (by kernel_rfl) (fun _ _ _ h => h) (Or.inr ⟨by rfl, rfl⟩) ?_ ?_
                rotate_left
                · simp only [Act.put, zla, zlb, zlc, i64_w, i32_w, n3, n4]
                  rfl
                refine zp 32 (some 51) ?_ rfl rfl (by kernel_rfl) (fun _ _ _ h => h) (by rfl) ?_ ?_ ?_ ?_ ?_
                rotate_left; · (intro w'; go_simp; with_reducible rfl)
                rotate_left 2; · (simp only [Act.put, zla, zlb, zlc, i64_w, i32_w, n3, n4]; rfl)
                refine done_ (by kernel_rfl) ?_
                go_wp2
                go_ret2
                rw [show newGo (l.map of67) [] = none from new_fail HXI.out HB.out.go HFT.out]
                exact ⟨rfl, by repeat (with_reducible first | exact HBW.out | apply pw_below_drewN | apply below_drew)⟩
              · by_cases h5 : (x.f1.length : Int) < x.f2
                · have HFT := Aside0.mk (show fits (of67 x) acc = false by unfold fits of67; rw [hna, hfi]; simp; omega)
                  clear hna hfi
                  go_wp2
                  generalize wr.alloc (.cells #[.string x.f0, .slice A1 x.f1.length c1, .int .i64 x.f2] 67) = W0 at *
                  generalize wr.heap.size = b6 at *
                  clear ca cb cc
                  obtain ⟨mb, q, dv, h1⟩ := HPW.out
                  have hnew := HNW.out
                  have x0 := blk_cell hnew 0
                  have x1 := blk_cell hnew 1
                  have x2 := blk_cell hnew 2
                  have fx0 := blk_frozen hnew 0
                  have fx1 := blk_frozen hnew 1
                  have fx2 := blk_frozen hnew 2
                  simp only [List.getElem?_toArray, List.getElem?_cons_succ, List.getElem?_cons_zero] at x0 x1 x2
                  have hp1 := h1.head
                  unfold diskCells at hp1
                  have m0 := blk_cell hp1 0
                  have m1 := blk_cell hp1 1
                  have m2 := blk_cell hp1 2
                  have m3 := blk_cell hp1 3
                  have m4 := blk_cell hp1 4
                  have m5 := blk_cell hp1 5
                  have fm0 := blk_frozen hp1 0
                  have fm1 := blk_frozen hp1 1
                  have fm2 := blk_frozen hp1 2
                  have fm3 := blk_frozen hp1 3
                  have fm4 := blk_frozen hp1 4
                  have fm5 := blk_frozen hp1 5
                  simp only [List.getElem?_toArray, List.getElem?_cons_succ, List.getElem?_cons_zero] at m0 m1 m2 m3 m4 m5
                  have HQ := Aside0.mk h1.drew
                  have n3 : decide ((65536 : Int) < x.f1.length) = false := by simp; omega
                  have n4 : decide (x.f2 < 0) = false := by simp; omega
                  have n5 : decide ((x.f1.length : Int) < x.f2) = true := by simp; omega
                  refine start_ (n := 33) (S := fun w' => w'.cell? ⟨b6, 0, none⟩ = some (.string x.f0) ∧ w'.cell? ⟨b6, 1, none⟩ = some (.slice A1 x.f1.length c1) ∧ w'.cell? ⟨b6, 2, none⟩ = some (.int .i64 x.f2) ∧ w'.cell? ⟨w.heap.size + 1, 0, none⟩ = some (.map (some mb)) ∧ (Instr.lookup 74 (.map (some mb)) (.string x.f0) false).run Try.prog w' = .ok (.pointer none) w') (ds := []) (List.toArray (false :: false :: false :: false :: false :: false :: false :: false :: false :: false :: false :: false :: false :: false :: false :: false :: false :: false :: false :: false :: false :: false :: false :: false :: false :: false :: false :: false :: false :: false :: false :: false :: false :: [])) (by kernel_rfl) rfl rfl ⟨x0, x1, x2, m0, (HQ.out.look_none HFI.out 0)⟩ (fun hHeld => ?_)
                  refine zp 0 (some 19) ?_ rfl rfl (by kernel_rfl) (fun _ _ _ h => h) (by rfl) ?_ ?_ ?_ ?_ ?_
                  rotate_left; · (intro w'; go_simp; with_reducible rfl)
                  rotate_left 2; · (simp only [Act.put, zla, zlb, zlc, i64_w, i32_w, n3, n4, n5]; rfl)
                  refine zt 1 (some 20) ?_ rfl rfl (by kernel_rfl) (fun _ _ _ h => h) (by rfl) ?_ hHeld ?_ ?_ ?_ ?_
                  rotate_left; · (rintro w' ⟨s0, s1, s2, s3, s4⟩; go_simp; with_reducible rfl)
                  rotate_left 2; · (simp only [Act.put, zla, zlb, zlc, i64_w, i32_w, n3, n4, n5]; rfl)
                  refine one_ (i := 2) (N := some 21) (List.toArray (true :: true :: true :: false :: false :: false :: false :: false :: false :: false :: false :: false :: false :: false :: false :: false :: false :: false :: false :: false :: false :: false :: false :: false :: false :: false :: false :: false :: false :: false :: false :: false :: false :: [])) rfl rfl (by kernel_rfl) (by decide) (fun K hK => ?_)
                  refine goes_ Try.func43 (by kernel_rfl) rfl #[.string x.f0] (by rfl) rfl rfl (by simp only [List.map_toArray, List.map_cons, List.map_nil]; rfl) ?_
                  refine (named_calls x.f0 true HNA.out _).mono ?_
                  rintro e w7 ⟨rfl, ⟨⟨nd, rfl⟩⟩⟩
                  refine ⟨_, rfl, ?_⟩
                  refine hK.out _ _ ⟨hHeld.1, hHeld.2.1, hHeld.2.2.1, hHeld.2.2.2.1, (HQ.out.look_none HFI.out nd)⟩ (fun hHeld => ?_)
                  clear hK K
                  refine norm_ (a' := ?_) ?_ ?_
                  rotate_left
                  · show Act.put _ (some 21) _ = _
                    simp only [Act.put, zla, zlb, zlc, i64_w, i32_w, n3, n4, n5]
                    rfl
                  refine zp 3 (some 22) ?_ rfl rfl (by kernel_rfl) (fun _ _ _ h => h) (by rfl) ?_ ?_ ?_ ?_ ?_
                  rotate_left; · (intro w'; go_simp; with_reducible rfl)
                  rotate_left 2; · (simp only [Act.put, zla, zlb, zlc, i64_w, i32_w, n3, n4, n5]; rfl)
                  refine zp 4 (some 23) ?_ rfl rfl (by kernel_rfl) (fun _ _ _ h => h) (by rfl) ?_ ?_ ?_ ?_ ?_
                  rotate_left; · (intro w'; go_simp; with_reducible rfl)
                  rotate_left 2; · (simp only [Act.put, zla, zlb, zlc, i64_w, i32_w, n3, n4, n5]; rfl)
                  refine zp 5 (some 24) ?_ rfl rfl (by kernel_rfl) (fun _ _ _ h => h) (by rfl) ?_ ?_ ?_ ?_ ?_
                  rotate_left; · (intro w'; go_simp; with_reducible rfl)
                  rotate_left 2; · (simp only [Act.put, zla, zlb, zlc, i64_w, i32_w, n3, n4, n5]; rfl)
                  refine zp 6 (some 25) ?_ rfl rfl (by kernel_rfl) (fun _ _ _ h => h) (by rfl) ?_ ?_ ?_ ?_ ?_
                  rotate_left; · (intro w'; go_simp; with_reducible rfl)
                  rotate_left 2; · (simp only [Act.put, zla, zlb, zlc, i64_w, i32_w, n3, n4, n5]; rfl)
                  refine zp 7 (some 26) ?_ rfl rfl (by kernel_rfl) (fun _ _ _ h => h) (by rfl) ?_ ?_ ?_ ?_ ?_
                  rotate_left; · (intro w'; go_simp; with_reducible rfl)
                  rotate_left 2; · (simp only [Act.put, zla, zlb, zlc, i64_w, i32_w, n3, n4, n5]; rfl)
                  refine zp 9 (some 28) ?_ rfl rfl (by kernel_rfl) (fun _ _ _ h => h) (by rfl) ?_ ?_ ?_ ?_ ?_
                  rotate_left; · (intro w'; go_simp; with_reducible rfl)
                  rotate_left 2; · (simp only [Act.put, zla, zlb, zlc, i64_w, i32_w, n3, n4, n5]; rfl)
                  refine zt 8 (some 27) ?_ rfl rfl (by kernel_rfl) (fun _ _ _ h => h) (by rfl) ?_ hHeld ?_ ?_ ?_ ?_
                  rotate_left; · (rintro w' ⟨s0, s1, s2, s3, s4⟩; go_simp; with_reducible rfl)
                  rotate_left 2; · (simp only [Act.put, zla, zlb, zlc, i64_w, i32_w, n3, n4, n5]; rfl)
                  refine zt 10 (some 29) ?_ rfl rfl (by kernel_rfl) (fun _ _ _ h => h) (by rfl) ?_ hHeld ?_ ?_ ?_ ?_
                  rotate_left; · (rintro w' ⟨s0, s1, s2, s3, s4⟩; go_simp; with_reducible rfl)
                  rotate_left 2; · (simp only [Act.put, zla, zlb, zlc, i64_w, i32_w, n3, n4, n5]; rfl)
                  refine zt 11 (some 30) ?_ rfl rfl (by kernel_rfl) (fun _ _ _ h => h) (by rfl) ?_ hHeld ?_ ?_ ?_ ?_
                  rotate_left; · (rintro w' ⟨s0, s1, s2, s3, s4⟩; go_simp; with_reducible rfl)
                  rotate_left 2; · (simp only [Act.put, zla, zlb, zlc, i64_w, i32_w, n3, n4, n5]; rfl)
                  refine zp 12 (some 31) ?_ rfl rfl (by kernel_rfl) (fun _ _ _ h => h) (by rfl) ?_ ?_ ?_ ?_ ?_
                  rotate_left; · (intro w'; go_simp; with_reducible rfl)
                  rotate_left 2; · (simp only [Act.put, zla, zlb, zlc, i64_w, i32_w, n3, n4, n5]; rfl)
                  refine zp 13 (some 32) ?_ rfl rfl (by kernel_rfl) (fun _ _ _ h => h) (by rfl) ?_ ?_ ?_ ?_ ?_
                  rotate_left; · (intro w'; go_simp; with_reducible rfl)
                  rotate_left 2; · (simp only [Act.put, zla, zlb, zlc, i64_w, i32_w, n3, n4, n5]; rfl)
                  refine zp 14 (some 33) ?_ rfl rfl (by kernel_rfl) (fun _ _ _ h => h) (by rfl) ?_ ?_ ?_ ?_ ?_
                  rotate_left; · (intro w'; go_simp; with_reducible rfl)
                  rotate_left 2; · (simp only [Act.put, zla, zlb, zlc, i64_w, i32_w, n3, n4, n5]; rfl)
                  refine zp 15 (some 34) ?_ rfl rfl (by kernel_rfl) (fun _ _ _ h => h) (by rfl) ?_ ?_ ?_ ?_ ?_
                  rotate_left; · (intro w'; go_simp; with_reducible rfl)
                  rotate_left 2; · (simp only [Act.put, zla, zlb, zlc, i64_w, i32_w, n3, n4, n5]; rfl)
                  refine zt 16 (some 35) ?_ rfl rfl (by kernel_rfl) (fun _ _ _ h => h) (by rfl) ?_ hHeld ?_ ?_ ?_ ?_
                  rotate_left; · (rintro w' ⟨s0, s1, s2, s3, s4⟩; go_simp; with_reducible rfl)
                  rotate_left 2; · (simp only [Act.put, zla, zlb, zlc, i64_w, i32_w, n3, n4, n5]; rfl)
                  refine zp 17 (some 36) ?_ rfl rfl (by kernel_rfl) (fun _ _ _ h => h) (by rfl) ?_ ?_ ?_ ?_ ?_
                  rotate_left; · (intro w'; go_simp; with_reducible rfl)
                  rotate_left 2; · (simp only [Act.put, zla, zlb, zlc, i64_w, i32_w, n3, n4, n5]; rfl)
                  refine zp 18 (some 37) ?_ rfl rfl (by kernel_rfl) (fun _ _ _ h => h) (by rfl) ?_ ?_ ?_ ?_ ?_
                  rotate_left; · (intro w'; go_simp; with_reducible rfl)
                  rotate_left 2; · (simp only [Act.put, zla, zlb, zlc, i64_w, i32_w, n3, n4, n5]; rfl)
                  refine zp 19 (some 38) ?_ rfl rfl (by kernel_rfl) (fun _ _ _ h => h) (by rfl) ?_ ?_ ?_ ?_ ?_
                  rotate_left; · (intro w'; go_simp; with_reducible rfl)
                  rotate_left 2; · (simp only [Act.put, zla, zlb, zlc, i64_w, i32_w, n3, n4, n5]; rfl)
                  refine zp 20 (some 39) ?_ rfl rfl (by kernel_rfl) (fun _ _ _ h => h) (by rfl) ?_ ?_ ?_ ?_ ?_
                  rotate_left; · (intro w'; go_simp; with_reducible rfl)
                  rotate_left 2; · (simp only [Act.put, zla, zlb, zlc, i64_w, i32_w, n3, n4, n5]; rfl)
                  refine zp 21 (some 40) ?_ rfl rfl (by kernel_rfl) (fun _ _ _ h => h) (by rfl) ?_ ?_ ?_ ?_ ?_
                  rotate_left; · (intro w'; go_simp; with_reducible rfl)
                  rotate_left 2; · (simp only [Act.put, zla, zlb, zlc, i64_w, i32_w, n3, n4, n5]; rfl)
                  refine zt 22 (some 41) ?_ rfl rfl (by kernel_rfl) (fun _ _ _ h => h) (by rfl) ?_ hHeld ?_ ?_ ?_ ?_
                  rotate_left; · (rintro w' ⟨s0, s1, s2, s3, s4⟩; go_simp; with_reducible rfl)
                  rotate_left 2; · (simp only [Act.put, zla, zlb, zlc, i64_w, i32_w, n3, n4, n5]; rfl)
                  refine zp 23 (some 42) ?_ rfl rfl (by kernel_rfl) (fun _ _ _ h => h) (by rfl) ?_ ?_ ?_ ?_ ?_
                  rotate_left; · (intro w'; go_simp; with_reducible rfl)
                  rotate_left 2; · (simp only [Act.put, zla, zlb, zlc, i64_w, i32_w, n3, n4, n5]; rfl)
                  refine zp 24 (some 43) ?_ rfl rfl (by kernel_rfl) (fun _ _ _ h => h) (by rfl) ?_ ?_ ?_ ?_ ?_
                  rotate_left; · (intro w'; go_simp; with_reducible rfl)
                  rotate_left 2; · (simp only [Act.put, zla, zlb, zlc, i64_w, i32_w, n3, n4, n5]; rfl)
                  refine zp 25 (some 44) ?_ rfl rfl (by kernel_rfl) (fun _ _ _ h => h) (by rfl) ?_ ?_ ?_ ?_ ?_
                  rotate_left; · (intro w'; go_simp; with_reducible rfl)
                  rotate_left 2; · (simp only [Act.put, zla, zlb, zlc, i64_w, i32_w, n3, n4, n5]; rfl)
                  refine zp 26 (some 45) ?_ rfl rfl (by kernel_rfl) (fun _ _ _ h => h) (by rfl) ?_ ?_ ?_ ?_ ?_
                  rotate_left; · (intro w'; go_simp; with_reducible rfl)
                  rotate_left 2; · (simp only [Act.put, zla, zlb, zlc, i64_w, i32_w, n3, n4, n5]; rfl)
                  refine zp 28 (some 47) ?_ rfl rfl (by kernel_rfl) (fun _ _ _ h => h) (by rfl) ?_ ?_ ?_ ?_ ?_
                  rotate_left; · (intro w'; go_simp; with_reducible rfl)
                  rotate_left 2; · (simp only [Act.put, zla, zlb, zlc, i64_w, i32_w, n3, n4, n5]; rfl)
                  refine zt 27 (some 46) ?_ rfl rfl (by kernel_rfl) (fun _ _ _ h => h) (by rfl) ?_ hHeld ?_ ?_ ?_ ?_
                  rotate_left; · (rintro w' ⟨s0, s1, s2, s3, s4⟩; go_simp; with_reducible rfl)
                  rotate_left 2; · (simp only [Act.put, zla, zlb, zlc, i64_w, i32_w, n3, n4, n5]; rfl)
                  refine zt 29 (some 48) ?_ rfl rfl (by kernel_rfl) (fun _ _ _ h => h) (by rfl) ?_ hHeld ?_ ?_ ?_ ?_
                  rotate_left; · (rintro w' ⟨s0, s1, s2, s3, s4⟩; go_simp; with_reducible rfl)
                  rotate_left 2; · (simp only [Act.put, zla, zlb, zlc, i64_w, i32_w, n3, n4, n5]; rfl)
                  refine zp 30 (some 49) ?_ rfl rfl (by kernel_rfl) (fun _ _ _ h => h) (by rfl) ?_ ?_ ?_ ?_ ?_
                  rotate_left; · (intro w'; go_simp; with_reducible rfl)
                  rotate_left 2; · (simp only [Act.put, zla, zlb, zlc, i64_w, i32_w, n3, n4, n5]; rfl)
                  refine zp 31 (some 50) ?_ rfl rfl (by kernel_rfl) (fun _ _ _ h => h) (by rfl) ?_ ?_ ?_ ?_ ?_
                  rotate_left; · (intro w'; go_simp; with_reducible rfl)
                  rotate_left 2; · (simp only [Act.put, zla, zlb, zlc, i64_w, i32_w, n3, n4, n5]; rfl)
                  refine zp 32 (some 51) ?_ rfl rfl (by kernel_rfl) (fun _ _ _ h => h) (by rfl) ?_ ?_ ?_ ?_ ?_
                  rotate_left; · (intro w'; go_simp; with_reducible rfl)
                  rotate_left 2; · (simp only [Act.put, zla, zlb, zlc, i64_w, i32_w, n3, n4, n5]; rfl)
                  refine done_ (by kernel_rfl) ?_
                  go_wp2
                  go_ret2
                  rw [show newGo (l.map of67) [] = none from new_fail HXI.out HB.out.go HFT.out]
                  exact ⟨rfl, by repeat (with_reducible first | exact HBW.out | apply pw_below_drewN | apply below_drew)⟩
                · have HFT := Aside0.mk (show fits (of67 x) acc = true by unfold fits of67; rw [hna, hfi]; simp; omega)
                  clear hna hfi
                  go_wp2
                  generalize wr.alloc (.cells #[.string x.f0, .slice A1 x.f1.length c1, .int .i64 x.f2] 67) = W0 at *
                  generalize wr.heap.size = b6 at *
                  clear ca cb cc
                  obtain ⟨mb, q, dv, h1⟩ := HPW.out
                  have hnew := HNW.out
                  have x0 := blk_cell hnew 0
                  have x1 := blk_cell hnew 1
                  have x2 := blk_cell hnew 2
                  have fx0 := blk_frozen hnew 0
                  have fx1 := blk_frozen hnew 1
                  have fx2 := blk_frozen hnew 2
                  simp only [List.getElem?_toArray, List.getElem?_cons_succ, List.getElem?_cons_zero] at x0 x1 x2
                  have hp1 := h1.head
                  unfold diskCells at hp1
                  have m0 := blk_cell hp1 0
                  have m1 := blk_cell hp1 1
                  have m2 := blk_cell hp1 2
                  have m3 := blk_cell hp1 3
                  have m4 := blk_cell hp1 4
                  have m5 := blk_cell hp1 5
                  have fm0 := blk_frozen hp1 0
                  have fm1 := blk_frozen hp1 1
                  have fm2 := blk_frozen hp1 2
                  have fm3 := blk_frozen hp1 3
                  have fm4 := blk_frozen hp1 4
                  have fm5 := blk_frozen hp1 5
                  simp only [List.getElem?_toArray, List.getElem?_cons_succ, List.getElem?_cons_zero] at m0 m1 m2 m3 m4 m5
                  have HQ := Aside0.mk h1.drew
                  have n3 : decide ((65536 : Int) < x.f1.length) = false := by simp; omega
                  have n4 : decide (x.f2 < 0) = false := by simp; omega
                  have n5 : decide ((x.f1.length : Int) < x.f2) = false := by simp; omega
                  refine start_ (n := 33) (S := fun w' => w'.cell? ⟨b6, 0, none⟩ = some (.string x.f0) ∧ w'.cell? ⟨b6, 1, none⟩ = some (.slice A1 x.f1.length c1) ∧ w'.cell? ⟨b6, 2, none⟩ = some (.int .i64 x.f2) ∧ w'.cell? ⟨w.heap.size + 1, 0, none⟩ = some (.map (some mb)) ∧ (Instr.lookup 74 (.map (some mb)) (.string x.f0) false).run Try.prog w' = .ok (.pointer none) w') (ds := []) (List.toArray (false :: false :: false :: false :: false :: false :: false :: false :: false :: false :: false :: false :: false :: false :: false :: false :: false :: false :: false :: false :: false :: false :: false :: false :: false :: false :: false :: false :: false :: false :: false :: false :: false :: [])) (by kernel_rfl) rfl rfl ⟨x0, x1, x2, m0, (HQ.out.look_none HFI.out 0)⟩ (fun hHeld => ?_)
                  refine zp 0 (some 19) ?_ rfl rfl (by kernel_rfl) (fun _ _ _ h => h) (by rfl) ?_ ?_ ?_ ?_ ?_
                  rotate_left; · (intro w'; go_simp; with_reducible rfl)
                  rotate_left 2; · (simp only [Act.put, zla, zlb, zlc, i64_w, i32_w, n3, n4, n5]; rfl)
                  refine zt 1 (some 20) ?_ rfl rfl (by kernel_rfl) (fun _ _ _ h => h) (by rfl) ?_ hHeld ?_ ?_ ?_ ?_
                  rotate_left; · (rintro w' ⟨s0, s1, s2, s3, s4⟩; go_simp; with_reducible rfl)
                  rotate_left 2; · (simp only [Act.put, zla, zlb, zlc, i64_w, i32_w, n3, n4, n5]; rfl)
                  refine one_ (i := 2) (N := some 21) (List.toArray (true :: true :: true :: false :: false :: false :: false :: false :: false :: false :: false :: false :: false :: false :: false :: false :: false :: false :: false :: false :: false :: false :: false :: false :: false :: false :: false :: false :: false :: false :: false :: false :: false :: [])) rfl rfl (by kernel_rfl) (by decide) (fun K hK => ?_)
                  refine goes_ Try.func43 (by kernel_rfl) rfl #[.string x.f0] (by rfl) rfl rfl (by simp only [List.map_toArray, List.map_cons, List.map_nil]; rfl) ?_
                  refine (named_calls x.f0 true HNA.out _).mono ?_
                  rintro e w7 ⟨rfl, ⟨⟨nd, rfl⟩⟩⟩
                  refine ⟨_, rfl, ?_⟩
                  refine hK.out _ _ ⟨hHeld.1, hHeld.2.1, hHeld.2.2.1, hHeld.2.2.2.1, (HQ.out.look_none HFI.out nd)⟩ (fun hHeld => ?_)
                  clear hK K
                  refine norm_ (a' := ?_) ?_ ?_
                  rotate_left
                  · show Act.put _ (some 21) _ = _
                    simp only [Act.put, zla, zlb, zlc, i64_w, i32_w, n3, n4, n5]
                    rfl
                  refine zp 3 (some 22) ?_ rfl rfl (by kernel_rfl) (fun _ _ _ h => h) (by rfl) ?_ ?_ ?_ ?_ ?_
                  rotate_left; · (intro w'; go_simp; with_reducible rfl)
                  rotate_left 2; · (simp only [Act.put, zla, zlb, zlc, i64_w, i32_w, n3, n4, n5]; rfl)
                  refine zp 4 (some 23) ?_ rfl rfl (by kernel_rfl) (fun _ _ _ h => h) (by rfl) ?_ ?_ ?_ ?_ ?_
                  rotate_left; · (intro w'; go_simp; with_reducible rfl)
                  rotate_left 2; · (simp only [Act.put, zla, zlb, zlc, i64_w, i32_w, n3, n4, n5]; rfl)
                  refine zp 5 (some 24) ?_ rfl rfl (by kernel_rfl) (fun _ _ _ h => h) (by rfl) ?_ ?_ ?_ ?_ ?_
                  rotate_left; · (intro w'; go_simp; with_reducible rfl)
                  rotate_left 2; · (simp only [Act.put, zla, zlb, zlc, i64_w, i32_w, n3, n4, n5]; rfl)
                  refine zp 6 (some 25) ?_ rfl rfl (by kernel_rfl) (fun _ _ _ h => h) (by rfl) ?_ ?_ ?_ ?_ ?_
                  rotate_left; · (intro w'; go_simp; with_reducible rfl)
                  rotate_left 2; · (simp only [Act.put, zla, zlb, zlc, i64_w, i32_w, n3, n4, n5]; rfl)
                  refine zp 7 (some 26) ?_ rfl rfl (by kernel_rfl) (fun _ _ _ h => h) (by rfl) ?_ ?_ ?_ ?_ ?_
                  rotate_left; · (intro w'; go_simp; with_reducible rfl)
                  rotate_left 2; · (simp only [Act.put, zla, zlb, zlc, i64_w, i32_w, n3, n4, n5]; rfl)
                  refine zp 9 (some 28) ?_ rfl rfl (by kernel_rfl) (fun _ _ _ h => h) (by rfl) ?_ ?_ ?_ ?_ ?_
                  rotate_left; · (intro w'; go_simp; with_reducible rfl)
                  rotate_left 2; · (simp only [Act.put, zla, zlb, zlc, i64_w, i32_w, n3, n4, n5]; rfl)
                  refine zt 8 (some 27) ?_ rfl rfl (by kernel_rfl) (fun _ _ _ h => h) (by rfl) ?_ hHeld ?_ ?_ ?_ ?_
                  rotate_left; · (rintro w' ⟨s0, s1, s2, s3, s4⟩; go_simp; with_reducible rfl)
                  rotate_left 2; · (simp only [Act.put, zla, zlb, zlc, i64_w, i32_w, n3, n4, n5]; rfl)
                  refine zt 10 (some 29) ?_ rfl rfl (by kernel_rfl) (fun _ _ _ h => h) (by rfl) ?_ hHeld ?_ ?_ ?_ ?_
                  rotate_left; · (rintro w' ⟨s0, s1, s2, s3, s4⟩; go_simp; with_reducible rfl)
                  rotate_left 2; · (simp only [Act.put, zla, zlb, zlc, i64_w, i32_w, n3, n4, n5]; rfl)
                  refine zt 11 (some 30) ?_ rfl rfl (by kernel_rfl) (fun _ _ _ h => h) (by rfl) ?_ hHeld ?_ ?_ ?_ ?_
                  rotate_left; · (rintro w' ⟨s0, s1, s2, s3, s4⟩; go_simp; with_reducible rfl)
                  rotate_left 2; · (simp only [Act.put, zla, zlb, zlc, i64_w, i32_w, n3, n4, n5]; rfl)
                  refine zp 12 (some 31) ?_ rfl rfl (by kernel_rfl) (fun _ _ _ h => h) (by rfl) ?_ ?_ ?_ ?_ ?_
                  rotate_left; · (intro w'; go_simp; with_reducible rfl)
                  rotate_left 2; · (simp only [Act.put, zla, zlb, zlc, i64_w, i32_w, n3, n4, n5]; rfl)
                  refine zp 13 (some 32) ?_ rfl rfl (by kernel_rfl) (fun _ _ _ h => h) (by rfl) ?_ ?_ ?_ ?_ ?_
                  rotate_left; · (intro w'; go_simp; with_reducible rfl)
                  rotate_left 2; · (simp only [Act.put, zla, zlb, zlc, i64_w, i32_w, n3, n4, n5]; rfl)
                  refine zp 14 (some 33) ?_ rfl rfl (by kernel_rfl) (fun _ _ _ h => h) (by rfl) ?_ ?_ ?_ ?_ ?_
                  rotate_left; · (intro w'; go_simp; with_reducible rfl)
                  rotate_left 2; · (simp only [Act.put, zla, zlb, zlc, i64_w, i32_w, n3, n4, n5]; rfl)
                  refine zp 15 (some 34) ?_ rfl rfl (by kernel_rfl) (fun _ _ _ h => h) (by rfl) ?_ ?_ ?_ ?_ ?_
                  rotate_left; · (intro w'; go_simp; with_reducible rfl)
                  rotate_left 2; · (simp only [Act.put, zla, zlb, zlc, i64_w, i32_w, n3, n4, n5]; rfl)
                  refine zt 16 (some 35) ?_ rfl rfl (by kernel_rfl) (fun _ _ _ h => h) (by rfl) ?_ hHeld ?_ ?_ ?_ ?_
                  rotate_left; · (rintro w' ⟨s0, s1, s2, s3, s4⟩; go_simp; with_reducible rfl)
                  rotate_left 2; · (simp only [Act.put, zla, zlb, zlc, i64_w, i32_w, n3, n4, n5]; rfl)
                  refine zp 17 (some 36) ?_ rfl rfl (by kernel_rfl) (fun _ _ _ h => h) (by rfl) ?_ ?_ ?_ ?_ ?_
                  rotate_left; · (intro w'; go_simp; with_reducible rfl)
                  rotate_left 2; · (simp only [Act.put, zla, zlb, zlc, i64_w, i32_w, n3, n4, n5]; rfl)
                  refine zp 18 (some 37) ?_ rfl rfl (by kernel_rfl) (fun _ _ _ h => h) (by rfl) ?_ ?_ ?_ ?_ ?_
                  rotate_left; · (intro w'; go_simp; with_reducible rfl)
                  rotate_left 2; · (simp only [Act.put, zla, zlb, zlc, i64_w, i32_w, n3, n4, n5]; rfl)
                  refine zp 19 (some 38) ?_ rfl rfl (by kernel_rfl) (fun _ _ _ h => h) (by rfl) ?_ ?_ ?_ ?_ ?_
                  rotate_left; · (intro w'; go_simp; with_reducible rfl)
                  rotate_left 2; · (simp only [Act.put, zla, zlb, zlc, i64_w, i32_w, n3, n4, n5]; rfl)
                  refine zp 20 (some 39) ?_ rfl rfl (by kernel_rfl) (fun _ _ _ h => h) (by rfl) ?_ ?_ ?_ ?_ ?_
                  rotate_left; · (intro w'; go_simp; with_reducible rfl)
                  rotate_left 2; · (simp only [Act.put, zla, zlb, zlc, i64_w, i32_w, n3, n4, n5]; rfl)
                  refine zp 21 (some 40) ?_ rfl rfl (by kernel_rfl) (fun _ _ _ h => h) (by rfl) ?_ ?_ ?_ ?_ ?_
                  rotate_left; · (intro w'; go_simp; with_reducible rfl)
                  rotate_left 2; · (simp only [Act.put, zla, zlb, zlc, i64_w, i32_w, n3, n4, n5]; rfl)
                  refine zt 22 (some 41) ?_ rfl rfl (by kernel_rfl) (fun _ _ _ h => h) (by rfl) ?_ hHeld ?_ ?_ ?_ ?_
                  rotate_left; · (rintro w' ⟨s0, s1, s2, s3, s4⟩; go_simp; with_reducible rfl)
                  rotate_left 2; · (simp only [Act.put, zla, zlb, zlc, i64_w, i32_w, n3, n4, n5]; rfl)
                  refine zp 23 (some 42) ?_ rfl rfl (by kernel_rfl) (fun _ _ _ h => h) (by rfl) ?_ ?_ ?_ ?_ ?_
                  rotate_left; · (intro w'; go_simp; with_reducible rfl)
                  rotate_left 2; · (simp only [Act.put, zla, zlb, zlc, i64_w, i32_w, n3, n4, n5]; rfl)
                  refine zp 24 (some 43) ?_ rfl rfl (by kernel_rfl) (fun _ _ _ h => h) (by rfl) ?_ ?_ ?_ ?_ ?_
                  rotate_left; · (intro w'; go_simp; with_reducible rfl)
                  rotate_left 2; · (simp only [Act.put, zla, zlb, zlc, i64_w, i32_w, n3, n4, n5]; rfl)
                  refine zp 25 (some 44) ?_ rfl rfl (by kernel_rfl) (fun _ _ _ h => h) (by rfl) ?_ ?_ ?_ ?_ ?_
                  rotate_left; · (intro w'; go_simp; with_reducible rfl)
                  rotate_left 2; · (simp only [Act.put, zla, zlb, zlc, i64_w, i32_w, n3, n4, n5]; rfl)
                  refine zp 26 (some 45) ?_ rfl rfl (by kernel_rfl) (fun _ _ _ h => h) (by rfl) ?_ ?_ ?_ ?_ ?_
                  rotate_left; · (intro w'; go_simp; with_reducible rfl)
                  rotate_left 2; · (simp only [Act.put, zla, zlb, zlc, i64_w, i32_w, n3, n4, n5]; rfl)
                  refine zp 28 (some 47) ?_ rfl rfl (by kernel_rfl) (fun _ _ _ h => h) (by rfl) ?_ ?_ ?_ ?_ ?_
                  rotate_left; · (intro w'; go_simp; with_reducible rfl)
                  rotate_left 2; · (simp only [Act.put, zla, zlb, zlc, i64_w, i32_w, n3, n4, n5]; rfl)
                  refine zt 27 (some 46) ?_ rfl rfl (by kernel_rfl) (fun _ _ _ h => h) (by rfl) ?_ hHeld ?_ ?_ ?_ ?_
                  rotate_left; · (rintro w' ⟨s0, s1, s2, s3, s4⟩; go_simp; with_reducible rfl)
                  rotate_left 2; · (simp only [Act.put, zla, zlb, zlc, i64_w, i32_w, n3, n4, n5]; rfl)
                  refine zt 29 (some 48) ?_ rfl rfl (by kernel_rfl) (fun _ _ _ h => h) (by rfl) ?_ hHeld ?_ ?_ ?_ ?_
                  rotate_left; · (rintro w' ⟨s0, s1, s2, s3, s4⟩; go_simp; with_reducible rfl)
                  rotate_left 2; · (simp only [Act.put, zla, zlb, zlc, i64_w, i32_w, n3, n4, n5]; rfl)
                  refine zp 30 (some 49) ?_ rfl rfl (by kernel_rfl) (fun _ _ _ h => h) (by rfl) ?_ ?_ ?_ ?_ ?_
                  rotate_left; · (intro w'; go_simp; with_reducible rfl)
                  rotate_left 2; · (simp only [Act.put, zla, zlb, zlc, i64_w, i32_w, n3, n4, n5]; rfl)
                  refine zp 31 (some 50) ?_ rfl rfl (by kernel_rfl) (fun _ _ _ h => h) (by rfl) ?_ ?_ ?_ ?_ ?_
                  rotate_left; · (intro w'; go_simp; with_reducible rfl)
                  rotate_left 2; · (simp only [Act.put, zla, zlb, zlc, i64_w, i32_w, n3, n4, n5]; rfl)
                  refine zp 32 (some 51) ?_ rfl rfl (by kernel_rfl) (fun _ _ _ h => h) (by rfl) ?_ ?_ ?_ ?_ ?_
                  rotate_left; · (intro w'; go_simp; with_reducible rfl)
                  rotate_left 2; · (simp only [Act.put, zla, zlb, zlc, i64_w, i32_w, n3, n4, n5]; rfl)
                  refine done_ (by kernel_rfl) ?_
                  clear hHeld
                  have HQN := Aside0.mk (HQ.out.upd (Y := fun _ => False) ((Upd.refl _ _).drewN nd) (fun _ _ h => h))
                  have HCN := Aside0.mk (show (Kd.int .u8).C (W0.drew.drewN nd) A1 x.f1.length x.f1 from Kd.C_drewN (Kd.C_drew HC1.out) nd)
                  go_wp2
                  refine start_ (n := 14) (S := fun w' => w'.cell? ⟨b6, 0, none⟩ = some (.string x.f0) ∧ w'.cell? ⟨b6, 1, none⟩ = some (.slice A1 x.f1.length c1) ∧ w'.cell? ⟨b6, 2, none⟩ = some (.int .i64 x.f2) ∧ w'.cell? ⟨w.heap.size + 1, 0, none⟩ = some (.map (some mb))) (ds := [13]) #[false, false, false, false, false, false, false, false, false, false, false, false, false, false] (by kernel_rfl) rfl rfl ⟨x0, x1, x2, m0⟩ (fun hHeld => ?_)
                  refine zq 0 (some 52) ?_
                  refine zq 1 (some 53) ?_
                  refine zq 2 (some 54) ?_
                  refine zq 4 (some 56) ?_
                  refine zq 6 (some 58) ?_
                  refine zq 9 (some 61) ?_
                  refine zu 3 (some 55) hHeld ?_
                  refine zu 5 (some 57) hHeld ?_
                  refine zu 7 (some 59) hHeld ?_
                  refine zu 10 (some 62) hHeld ?_
                  refine one_ (i := 8) (N := some 60) #[true, true, true, true, true, true, true, true, true, true, true, false, false, false] rfl rfl (by kernel_rfl) (by decide) (fun K hK => ?_)
                  refine goes_ Try.func41 (by kernel_rfl) rfl #[.slice A1 x.f1.length c1] (by rfl) rfl rfl (by simp only [List.map_toArray, List.map_cons, List.map_nil]; rfl) ?_
                  refine (clone_calls _ A1 c1 x.f1 (Kd.C_drew HCN.out) hc1 (by have := HX1; omega)).mono ?_
                  rintro e w8 ⟨v8, rfl, ho8, hb8⟩
                  obtain ⟨A8, c8, rfl, hc8, hC8⟩ := Kd.R_reads ho8
                  have hq8 := HQN.out.drew.below8 hb8
                  have hb68 := blk_upd (show (W0.drew.drewN nd).drew.heap[b6]? = some (.cells #[.string x.f0, .slice A1 x.f1.length c1, .int .i64 x.f2] 67 (0, 0)) from HNW.out) (Upd.of_below hb8 (fun _ => False)) (fun h => h)
                  have HO8 := Aside0.mk ho8
                  have HB8 := Aside0.mk hb8
                  clear ho8 hb8 hC8
                  have HQ8 := Aside0.mk hq8
                  have hp8 := hq8.head
                  unfold diskCells at hp8
                  clear hq8
                  have n0 := blk_cell hp8 0
                  have fn0 := blk_frozen hp8 0
                  simp only [List.getElem?_toArray, List.getElem?_cons_succ, List.getElem?_cons_zero] at n0
                  have y0 := blk_cell hb68 0
                  have y1 := blk_cell hb68 1
                  have y2 := blk_cell hb68 2
                  have fy0 := blk_frozen hb68 0
                  have fy1 := blk_frozen hb68 1
                  have fy2 := blk_frozen hb68 2
                  simp only [List.getElem?_toArray, List.getElem?_cons_succ, List.getElem?_cons_zero] at y0 y1 y2
                  refine ⟨_, rfl, ?_⟩
                  refine hK.out _ _ ⟨y0, y1, y2, n0⟩ (fun hHeld => ?_)
                  clear hK K
                  refine norm_ (a' := ?_) ?_ ?_
                  rotate_left
                  · show Act.put _ (some 60) _ = _
                    simp only [Act.put, zla, zlb, zlc, i64_w, i32_w]
                    rfl
                  refine zq 11 (some 63) ?_
                  refine one_ (i := 12) (N := some 64) #[true, true, true, true, true, true, true, true, true, true, true, true, true, false] rfl rfl (by kernel_rfl) (by decide) (fun K hK => ?_)
                  refine value_ (w1 := ?_) (v := ?_) (by rfl) rfl ?_ ?_
                  rotate_left 2
                  · go_simp
                    constructor
                    · rfl
                    · rfl
                  have HQ9 := Aside0.mk (HQ8.out.below8 (below_alloc (Below.refl _ _) (.cells #[.slice A8 x.f1.length c8, .int .i64 x.f2] 81)))
                  have hp9 := blk_alloc hp8 (.cells #[.slice A8 x.f1.length c8, .int .i64 x.f2] 81)
                  have hb69 := blk_alloc hb68 (.cells #[.slice A8 x.f1.length c8, .int .i64 x.f2] 81)
                  have k0 := blk_cell hp9 0
                  have fk0 := blk_frozen hp9 0
                  simp only [List.getElem?_toArray, List.getElem?_cons_succ, List.getElem?_cons_zero] at k0
                  have z0 := blk_cell hb69 0
                  have z1 := blk_cell hb69 1
                  have z2 := blk_cell hb69 2
                  have fz0 := blk_frozen hb69 0
                  have fz1 := blk_frozen hb69 1
                  have fz2 := blk_frozen hb69 2
                  simp only [List.getElem?_toArray, List.getElem?_cons_succ, List.getElem?_cons_zero] at z0 z1 z2
                  refine hK.out _ _ ⟨z0, z1, z2, k0⟩ (fun hHeld => ?_)
                  clear hK K
                  refine norm_ (a' := ?_) ?_ ?_
                  rotate_left
                  · show Act.put _ (some 64) _ = _
                    simp only [Act.put, zla, zlb, zlc, i64_w, i32_w]
                    rfl
                  refine last_ (i := 13) (N := none) #[true, true, true, true, true, true, true, true, true, true, true, true, true, true] rfl rfl (by kernel_rfl) (by decide) (fun K hK => ?_)
                  have hnm : x.f0 ∉ namesOf (stOf acc).all := find_none HFI.out
                  obtain ⟨w13, hrun, hu13, hm13⟩ := MapAt.insert (w := w8.alloc (.cells #[.slice A8 x.f1.length c8, .int .i64 x.f2] 81)) HQ9.out.files.map x.f0 hnm w8.heap.size
                  refine skip_ (w1 := w13) (by rfl) rfl ?_ ?_
                  · go_simp
                  refine hK.out _ _ ?_
                  clear hK K
                  refine done_ (by kernel_rfl) ?_
                  have HB1 := Aside0.mk (new_put HB.out HXI.out (by omega) HNA.out HFI.out HFT.out h3 h4 h5 (show Below w.heap.size w (W0.drew.drewN nd).drew from below_drew (pw_below_drewN (below_drew HBW.out) _)) HQN.out.drew HO8.out HB8.out hm13 hu13)
                  clear hrun hu13 hm13
                  go_wp2
                  go_roundw
                  case rel => exact ⟨i + 1, _, rfl, HB1.out⟩
                  case measure => simp [intOf]; omega
      · have hi : i = l.length := by have := hb.le; omega
        subst hi
        have hgo := hb.go
        rw [List.take_length] at hgo
        have HG := Aside0.mk hgo
        clear hb hgo
        go_wp2
        go_ret2
        rw [HG.out]
        exact ⟨_, rfl, HB.out.prog, HB.out.bel⟩
end Go.Proofs.Ytfholpajdkjbbaa.DK
