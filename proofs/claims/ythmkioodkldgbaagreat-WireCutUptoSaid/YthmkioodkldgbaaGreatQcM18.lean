/- value.decoder.list, value; conditions: those in each theorem. -/
import Derived.Test.YthmkioodkldgbaaGreatQcM17
namespace Go.Proofs.YthmkioodkldgbaaGreat.DK
open Go.Proofs.YthmkioodkldgbaaGreat.PD
open Go.RowKit Go.Proofs.YthmkioodkldgbaaGreatW.PrintWords Go.Proofs.YthmkioodkldgbaaGreatW.PrintLast Go.Proofs.YthmkioodkldgbaaGreatW.PrintMore
set_option linter.unusedVariables false
set_option linter.unusedSimpArgs false
set_option maxRecDepth 100000
/-- A call that may throw. -/
theorem goesP_ {P : Program} {ops : Array Oper} {Q : Exit → Act → World → Prop} {oi : Oper} {N : Option Tmp} {a : Act} {w : World} {K : Act → World → Prop} {f : FuncId} {fn : Func} {as' : Array Operand} {ts : Array TypeId} (hf : P.funcs[f]? = some fn) (hname : (fn.name == "runtime.NumGoroutine") = false) (hb : fn.body.isSome = true) (args : Array Value)
  (hw : Region.wanted oi (yielded ops a.tmps) = true) (hN : oi.dst = N) (hop : oi.op = .call { callee := .value (.func f), args := as', argTypes := ts }) (hargs : as'.map a.eval = args)
  (h : Calls P f args w fun e w' => (∃ v, e = .returned v ∧ K (a.put N v) w') ∨ (∃ c, e = .panicked c ∧ Q (.panic c) a w')) : if Region.wanted oi (yielded ops a.tmps) = true then Oper.wp P oi a w K Q else K (a.put N undef) w := by
 rw [if_pos hw]
 subst hN
 have he := enters_ hf hname hb args w
 have hrun : (execOp a.eval oi).run P w = .ok (.enter f args) w := by
  unfold execOp
  simp [hop, resolve, Deferred.ofValue, invoke, Act.eval, hargs, he]
 unfold Oper.wp
 rw [hrun, Oper.upon_enter]
 refine h.mono fun e w'' hh => ?_
 rcases hh with ⟨v, rfl, hk⟩ | ⟨c, rfl, hk⟩
 ·exact hk
 ·exact hk
section
variable {b : Nat} {w w1 : World} {g : Nat} {A : Option Addr} {c : Nat} {L : List Int} {i : Nat} {p : Int}
/-- A value. -/
def ValG (b : Nat) (w : World) (g : Nat) (A : Option Addr) (c : Nat) (L : List Int) (r : Rd (S25 × Int)) (en : Ending) (w' : World) : Prop :=
 (∃ (v : S25) (q : Int) (i' : Nat) (v3 : Value), en = .returned (.agg #[.int .i64 v.f0, .int .i64 v.f1, .string v.f2, v3]) ∧ k25.R 24 w' w.heap.size (News w) v3 v.f3 ∧ Dec b w' g A c L i' q ∧ UT [219] b w w' ∧ r = .ok (v, q) (L.drop i')) ∨
 (∃ x, r = .bad x ∧ en = .panicked (thrown x) ∧ UT [219] b w w')
theorem ValG.bad_mk {r : Rd (S25 × Int)} {x : Int} {w' : World} (h : r = .bad x) (hu : UT [219] b w w') : ValG b w g A c L r (.panicked (thrown x)) w' := .inr ⟨x, h, rfl, hu⟩
theorem ValG.ok_mk {r : Rd (S25 × Int)} {w' : World} (v : S25) {q : Int} {i' : Nat} {v3 : Value} (h : r = .ok (v, q) (L.drop i')) (hR : k25.R 24 w' w.heap.size (News w) v3 v.f3) (hd : Dec b w' g A c L i' q) (hu : UT [219] b w w') : ValG b w g A c L r (.returned (.agg #[.int .i64 v.f0, .int .i64 v.f1, .string v.f2, v3])) w' := .inl ⟨v, q, i', v3, rfl, hR, hd, hu, h⟩
/-- A list while it is read: j items so far. -/
structure LsI (b : Nat) (w : World) (g : Nat) (A : Option Addr) (c : Nat) (L : List Int) (h k m : Nat) (R : Rd (List S25 × Int)) (j : Nat) (wr : World) (i' : Nat) (q : Int) (xs : List S25) (lv : Value) : Prop where
 dec : Dec b wr g A c L i' q
 ut : UT [219] b w wr
 box : wr.heap[h]? = some (.cells #[.int .i64 3, .int .i64 0, .string ⟨#[]⟩, lv] 24 (0, 0))
 box4 : wr.heap[w.heap.size]? = some (.cells #[.int .i64 0, .int .i64 0, .string ⟨#[]⟩, .slice none 0 0] 24 (0, 0))
 row : k25.R 24 wr (h + 1) (News w) lv xs
 len : xs.length = j
 jm : j ≤ m
 hh : w.heap.size < h
 eq : R = pItems (pDeep k) (m - j) xs q (L.drop i')
def LsE (b : Nat) (w : World) (g : Nat) (A : Option Addr) (c : Nat) (L : List Int) (h k m : Nat) (R : Rd (List S25 × Int)) (iv : Value) (wr : World) : Prop := ∃ j i' q xs lv, iv = .int .i64 (j : Nat) ∧ LsI b w g A c L h k m R j wr i' q xs lv
theorem Dec.low {B : Nat} (h : Dec b w g A c L i p) (hg : g < B) (hB : b ≤ B) (hb : Below B w w1) : Dec b w1 g A c L i p :=
 ⟨(hb.block g hg).trans h.box, h.ge, h.inp.ext ⟨hb.os, hb.tape, hb.output, hb.size, fun k hk => hb.block k (Nat.lt_of_lt_of_le hk hB)⟩, h.le, h.cap, h.pp, h.rng⟩
theorem below_set {B : Nat} {w w1 : World} (h : Below B w w1) {B' : Nat} (hB' : B' + 1 ≤ B) {p : Addr} {u : Value} (hp : p.block = B' := by rfl) : Below B' w (w1.setCell p u) :=
 ⟨h.os, h.tape, h.output, by have := h.size; simpa [World.setCell] using this, fun k hk => (Below.heap_setCell w1 p u k (by omega)).trans (h.block k (by omega))⟩
theorem _root_.Go.RowKit.Below.less {B B' : Nat} {w w1 : World} (h : Below B w w1) (hB : B' ≤ B) : Below B' w w1 := ⟨h.os, h.tape, h.output, h.size, fun k hk => h.block k (Nat.lt_of_lt_of_le hk hB)⟩
/-- A block of four cells filled. -/
theorem fill4 {w : World} {B t : Nat} {c0 c1 c2 c3 : Value} (h : w.heap[B]? = some (.cells #[c0, c1, c2, c3] t (0, 0))) (v0 v1 v2 v3 : Value) :
  ((((w.setCell ⟨B, 0, none⟩ v0).setCell ⟨B, 1, none⟩ v1).setCell ⟨B, 2, none⟩ v2).setCell ⟨B, 3, none⟩ v3).heap[B]? = some (.cells #[v0, v1, v2, v3] t (0, 0)) ∧
  (∀ k, k ≠ B → ((((w.setCell ⟨B, 0, none⟩ v0).setCell ⟨B, 1, none⟩ v1).setCell ⟨B, 2, none⟩ v2).setCell ⟨B, 3, none⟩ v3).heap[k]? = w.heap[k]?) ∧
  UT [t] B w ((((w.setCell ⟨B, 0, none⟩ v0).setCell ⟨B, 1, none⟩ v1).setCell ⟨B, 2, none⟩ v2).setCell ⟨B, 3, none⟩ v3) := by
 have h0 := blk_set (i := 0) (v := v0) h
 have h1 := blk_set (i := 1) (v := v1) h0
 have h2 := blk_set (i := 2) (v := v2) h1
 have h3 := blk_set (i := 3) (v := v3) h2
 refine ⟨h3, fun k hk => ?_, ((((UT.refl [t] B w).set h (by simp) (Nat.le_refl _) 0 v0).set h0 (by simp) (Nat.le_refl _) 1 v1).set h1 (by simp) (Nat.le_refl _) 2 v2).set h2 (by simp) (Nat.le_refl _) 3 v3⟩
 rw [Below.heap_setCell _ _ _ k hk, Below.heap_setCell _ _ _ k hk, Below.heap_setCell _ _ _ k hk, Below.heap_setCell _ _ _ k hk]
theorem UT.lower {T : List Nat} {b b' : Nat} {w w1 : World} (h : UT T b' w w1) (hb : b ≤ b') : UT T b w w1 := ⟨h.os, h.tape, h.output, h.size, fun k hk hn => h.same k hk (hn.imp (fun h => Nat.lt_of_lt_of_le h hb) id)⟩
theorem size25 : (Tryz.prog.info? 24).map (·.size) = some 4 := by kernel_rfl
/-- A block that is new is filled. -/
theorem UT.fill {T T' : List Nat} {b : Nat} {w w1 w2 : World} (h : UT T b w w1) (k : UT T' w.heap.size w1 w2) : UT T b w w2 :=
 ⟨k.os.trans h.os, k.tape.trans h.tape, k.output.trans h.output, Nat.le_trans h.size k.size, fun q hq hn => (k.same q (Nat.lt_of_lt_of_le hq h.size) (.inl hq)).trans (h.same q hq hn)⟩
set_option maxHeartbeats 8000000 in
theorem dlist_calls (k d : Nat) (hd2 : d ≤ 2) (IH : ∀ (W : World) (i : Nat) (p : Int), Dec b W g A c L i p → Calls Tryz.prog 150 #[.pointer (some ⟨g, 0, none⟩), .int .i64 ((d : Int) + 1)] W (ValG b W g A c L (pDeep k p (L.drop i)))) (h : Dec b w g A c L i p) :
  Calls Tryz.prog 160 #[.pointer (some ⟨g, 0, none⟩), .int .i64 d] w (ValG b w g A c L (pLst (pDeep k) p (L.drop i))) := by
 have H := Aside0.mk h
 have HIH := Aside0.mk IH
 have hblk := blk_lt h.box
 clear h IH
 go_enter Tryz.func160, Tryz.ntmps160
 go_wp2_with fail
 refine (dnext_calls (H.out.below (below_alloc (Below.refl _ _) _))).mono ?_
 intro en w1 hn
 rcases hn with ⟨hlt, rfl, hd, hu⟩ | ⟨hge, rfl, hu⟩
 ·have hr := H.out.rng L[i] (List.getElem_mem hlt)
  have hdr := drop_lt hlt
  have hpt := congrArg (pLst (pDeep k) p) hdr
  rw [pLst] at hpt
  generalize L[i] = x at *
  obtain ⟨m, rfl⟩ := Int.eq_ofNat_of_zero_le hr.1
  rw [Int.toNat_natCast] at hpt
  have HD := Aside0.mk hd
  have HU := Aside0.mk (((UT.refl [219] b w).alloc _).trans hu)
  have HX := Aside0.mk (hu.blk (heap_alloc_new w _) (by decide))
  clear hd hu hdr
  by_cases h6 : 6 < (m : Int)
  ·rw [if_pos h6] at hpt
   have HP := Aside0.mk hpt
   clear hpt
   go_wp2_with fail
   refine (dfail_calls _ 22).mono ?_
   rintro en w2 ⟨rfl, rfl⟩
   exact ⟨rfl, ValG.bad_mk HP.out HU.out⟩
  ·rw [if_neg h6] at hpt
   have HP := Aside0.mk hpt
   clear hpt
   go_wp2
   go_loopw [16] (fun iv wr => LsE b w g A c L w1.heap.size k m (pItems (pDeep k) m [] p (L.drop (i + 1))) iv wr) (fun iv _ => m - (intOf iv).toNat)
   case atStart =>
    exact ⟨0, i + 1, p, [], .slice none 0 0, rfl, HD.out.below (below_alloc (Below.refl _ _) _), HU.out.alloc _, heap_alloc_new _ _, blk_alloc HX.out _, Kd.R_nil _ _ _ _ _, rfl, Nat.zero_le _, blk_lt HX.out, rfl⟩
   case round =>
    obtain ⟨j, i', q, xs, lv, rfl, hs⟩ := hrel
    have HS := Aside0.mk hs
    clear hs
    by_cases hj : j < m
    ·have hwd : wrap64 ((d : Int) + 1) = (d : Int) + 1 := by unfold wrap64; omega
     have hwd2 : IntKind.i64.wrap ((d : Int) + 1) = (d : Int) + 1 := by rw [IntKind.wrap_i64]; omega
     have hn : m - j = (m - (j + 1)) + 1 := by omega
     have heq := HS.out.eq
     rw [hn, pItems] at heq
     have HE := Aside0.mk heq
     have hlen := HS.out.len
     have hh := HS.out.hh
     have hbx := blk_lt HS.out.box
     have HHW := Aside0.mk hwd2
     clear heq hwd2
     go_wp2
     refine start_ (n := 10) (S := fun w' => w'.cell? ⟨w1.heap.size, 3, none⟩ = some lv ∧ w'.frozen? ⟨w1.heap.size, 3, none⟩ = false) (ds := [9]) #[false, false, false, false, false, false, false, false, false, false] (by kernel_rfl) rfl rfl ⟨(blk_cell HS.out.box 3), (blk_frozen HS.out.box 3)⟩ (fun hHeld => ?_)
     refine zp 0 (some 18) ?_ rfl rfl (by kernel_rfl) (fun _ _ _ h => h) (by rfl) ?_ ?_ ?_ ?_ ?_
     rotate_left; · (intro w'; go_simp; with_reducible rfl)
     rotate_left 2; · (simp only [Act.put, zla, zlb, zlc, i64_w, i32_w, hwd]; rfl)
     refine zp 2 (some 20) ?_ rfl rfl (by kernel_rfl) (fun _ _ _ h => h) (by rfl) ?_ ?_ ?_ ?_ ?_
     rotate_left; · (intro w'; go_simp; with_reducible rfl)
     rotate_left 2; · (simp only [Act.put, zla, zlb, zlc, i64_w, i32_w, hwd]; rfl)
     refine zp 3 (some 21) ?_ rfl rfl (by kernel_rfl) (fun _ _ _ h => h) (by rfl) ?_ ?_ ?_ ?_ ?_
     rotate_left; · (intro w'; go_simp; with_reducible rfl)
     rotate_left 2; · (simp only [Act.put, zla, zlb, zlc, i64_w, i32_w, hwd]; rfl)
     refine zp 4 (some 22) ?_ rfl rfl (by kernel_rfl) (fun _ _ _ h => h) (by rfl) ?_ ?_ ?_ ?_ ?_
     rotate_left; · (intro w'; go_simp; with_reducible rfl)
     rotate_left 2; · (simp only [Act.put, zla, zlb, zlc, i64_w, i32_w, hwd]; rfl)
     refine zt 1 (some 19) ?_ rfl rfl (by kernel_rfl) (fun _ _ _ h => h) (by rfl) ?_ hHeld ?_ ?_ ?_ ?_
     rotate_left; · (rintro w' ⟨s0, s1⟩; go_simp; with_reducible rfl)
     rotate_left 2; · (simp only [Act.put, zla, zlb, zlc, i64_w, i32_w, hwd]; rfl)
     refine one_ (i := 5) (N := some 23) #[true, true, true, true, true, true, false, false, false, false] rfl rfl (by kernel_rfl) (by decide) (fun K hK => ?_)
     refine goesP_ Tryz.func150 (by kernel_rfl) rfl #[.pointer (some ⟨g, 0, none⟩), .int .i64 ((d : Int) + 1)] (by rfl) rfl rfl (by simp only [List.map_toArray, List.map_cons, List.map_nil]; rfl) ?_
     refine (HIH.out _ i' q (HS.out.dec.below (below_drew (Below.refl _ _)))).mono ?_
     rintro e w5 (⟨v, q5, i5, v3, rfl, hv, hd5, hu5, hr5⟩ | ⟨x, hr5, rfl, hu5⟩)
     rotate_left
     ·refine .inr ⟨_, rfl, rfl, ValG.bad_mk ?_ (HS.out.ut.trans (((UT.refl [219] b wr).drew).trans hu5))⟩
      rw [HP.out, HE.out, hr5]; rfl
     refine .inl ⟨_, rfl, ?_⟩
     have HV := Aside0.mk hv
     have HD5 := Aside0.mk hd5
     have HU5 := Aside0.mk (((UT.refl [219] b wr).drew).trans hu5)
     have HR5 := Aside0.mk hr5
     have HB5 := Aside0.mk (HU5.out.blk HS.out.box (by decide))
     clear hv hd5 hu5 hr5
     refine hK.out _ _ ⟨(blk_cell HB5.out 3), (blk_frozen HB5.out 3)⟩ (fun hHeld => ?_)
     clear hK K
     refine norm_ (a' := ?_) ?_ ?_
     rotate_left
     ·show Act.put _ (some 23) _ = _
      simp only [Act.put, zla, zlb, zlc, i64_w, i32_w, hwd]
      rfl
     refine one_ (i := 6) (N := some 24) #[true, true, true, true, true, true, true, false, false, false] rfl rfl (by kernel_rfl) (by decide) (fun K hK => ?_)
     refine value_ (w1 := ?_) (v := ?_) (by rfl) rfl ?_ ?_
     rotate_left 2
     ·go_simp
      constructor
      ·rfl
      ·rfl
     refine hK.out _ _ ⟨(blk_cell (blk_alloc HB5.out _) 3), (blk_frozen (blk_alloc HB5.out _) 3)⟩ (fun hHeld => ?_)
     clear hK K
     refine norm_ (a' := ?_) ?_ ?_
     rotate_left
     ·show Act.put _ (some 24) _ = _
      simp only [Act.put, zla, zlb, zlc, i64_w, i32_w, hwd]
      rfl
     refine one_ (i := 7) (N := some 25) #[true, true, true, true, true, true, true, true, false, false] rfl rfl (by kernel_rfl) (by decide) (fun K hK => ?_)
     have hsz5 : wr.heap.size ≤ w5.heap.size := HU5.out.size
     have hh1 : w1.heap.size + 1 ≤ w5.heap.size := Nat.le_trans hbx hsz5
     refine Kd.R_append_step k25 (w0 := w5) (W := w5) (w1.heap.size + 1) (by rfl) (.tmp 19) (.tmp 24) 22 24 (.agg #[.int .i64 0, .int .i64 0, .string ⟨#[]⟩, .slice none 0 0]) 56 rfl Tryz.underlying22 info25 rfl (by decide) (by decide) lv xs v [.int .i64 v.f0, .int .i64 v.f1, .string v.f2, v3] (News w) (fun k => wr.heap.size ≤ k) rfl rfl (k25_mkM w5 (w1.heap.size + 1) _ v (Kd.R_lower (Kd.R_mono (Kd.R_bound HV.out) (fun k hk => hk.2.1)) hbx)) (fun k hk => ⟨trivial, fun e => absurd (Kd.R_lt HS.out.row k e.symm) (Nat.not_lt.2 hk)⟩) (fun _ _ => trivial) (R_ut HS.out.row HU5.out (by decide)) (Below.refl _ _) hh1 (by have := HS.out.jm; omega) ?_
     intro v6 w6 ho hb6 hg6 hat6
     obtain ⟨A6, n6, c6, rfl⟩ : ∃ A n c, v6 = .slice A n c := (Kd.R_slice ho).elim (fun A h => h.elim (fun c h => ⟨A, _, c, h⟩))
     have HO6 := Aside0.mk ho
     have HL6 := Aside0.mk hb6
     have HB6 := Aside0.mk ((hb6.block _ (by omega)).trans HB5.out)
     clear ho hb6 hg6 hat6
     refine hK.out _ _ ⟨(blk_cell HB6.out 3), (blk_frozen HB6.out 3)⟩ (fun hHeld => ?_)
     clear hK K
     refine norm_ (a' := ?_) ?_ ?_
     rotate_left
     ·show Act.put _ (some 25) _ = _
      simp only [Act.put, zla, zlb, zlc, i64_w, i32_w, hwd]
      rfl
     refine zp 8 (some 26) ?_ rfl rfl (by kernel_rfl) (fun _ _ _ h => h) (by rfl) ?_ ?_ ?_ ?_ ?_
     rotate_left; · (intro w'; go_simp; with_reducible rfl)
     rotate_left 2; · (simp only [Act.put, zla, zlb, zlc, i64_w, i32_w, hwd]; rfl)
     refine last_ (i := 9) (N := none) #[true, true, true, true, true, true, true, true, true, true] rfl rfl (by kernel_rfl) (by decide) (fun K hK => ?_)
     refine skip_ (w1 := ?_) (by rfl) rfl ?_ ?_
     rotate_left
     ·go_simp
      rfl
     refine hK.out _ _ ?_
     clear hK K
     refine done_ (by kernel_rfl) ?_
     have hbh : b ≤ w1.heap.size := HD.out.b_le
     have HW6 := Aside0.mk (below_set HL6.out (Nat.le_refl _) (p := ⟨w1.heap.size, 3, none⟩) (u := .slice A6 n6 c6))
     have HS6 := Aside0.mk (show LsI b w g A c L w1.heap.size k m (pItems (pDeep k) m [] p (L.drop (i + 1))) (j + 1) (w6.setCell ⟨w1.heap.size, 3, none⟩ (.slice A6 n6 c6)) i5 q5 (xs ++ [v]) (.slice A6 n6 c6) from
      ⟨HD5.out.low (Nat.lt_of_lt_of_le (blk_lt HD.out.box) (Nat.le_refl _)) hbh HW6.out, (HS.out.ut.trans HU5.out).low (HW6.out.less (Nat.le_of_lt hh)), blk_set HB6.out, (HW6.out.block _ hh).trans (HU5.out.blk HS.out.box4 (by decide)),
       Kd.R_mono (Kd.R_far (Kd.R_bound HO6.out) (p := ⟨w1.heap.size, 3, none⟩) (fun k hk => Nat.ne_of_gt (Nat.lt_of_succ_le hk.2.1)) _) (fun _ _ => trivial), by simp [hlen], hj, hh, by rw [HE.out, HR5.out]; rfl⟩)
     clear HW6
     go_wp2
     go_roundw
     case rel => exact ⟨j + 1, _, _, _, _, by simp, HS6.out⟩
     case measure => simp [intOf]; omega
    ·have hjm : j = m := Nat.le_antisymm HS.out.jm (Nat.not_lt.1 hj)
     have heq := HS.out.eq
     rw [hjm, Nat.sub_self, pItems] at heq
     have HE := Aside0.mk (show pLst (pDeep k) p (L.drop i) = .ok (⟨3, 0, ⟨#[]⟩, xs⟩, q) (L.drop i') by rw [HP.out, heq]; rfl)
     have hji : ¬ (j : Int) < (m : Int) := by omega
     obtain ⟨A6, n6, c6, rfl⟩ : ∃ A n c, lv = .slice A n c := (Kd.R_slice HS.out.row).elim (fun A h => h.elim (fun c h => ⟨A, _, c, h⟩))
     have m0 := blk_cell HS.out.box 0
     have m1 := blk_cell HS.out.box 1
     have m2 := blk_cell HS.out.box 2
     have m3 := blk_cell HS.out.box 3
     have f0 := blk_frozen HS.out.box4 0
     have f1 := blk_frozen HS.out.box4 1
     have f2 := blk_frozen HS.out.box4 2
     have f3 := blk_frozen HS.out.box4 3
     have n0 := blk_cell HS.out.box4 0
     have n1 := blk_cell HS.out.box4 1
     have n2 := blk_cell HS.out.box4 2
     have n3 := blk_cell HS.out.box4 3
     simp only [List.getElem?_toArray, List.getElem?_cons_succ, List.getElem?_cons_zero] at m0 m1 m2 m3 n0 n1 n2 n3
     have hh := HS.out.hh
     have hb4 := blk_lt HS.out.box4
     obtain ⟨hW1, hW2, hW3⟩ := fill4 HS.out.box4 (.int .i64 3) (.int .i64 0) (.string ⟨#[]⟩) (.slice A6 n6 c6)
     have HF := Aside0.mk hW2
     have HT := Aside0.mk hW3
     have HG := Aside0.mk hW1
     clear heq hjm hW1 hW2 hW3
     go_wp2
     generalize (((wr.setCell ⟨w.heap.size, 0, none⟩ (.int .i64 3)).setCell ⟨w.heap.size, 1, none⟩ (.int .i64 0)).setCell ⟨w.heap.size, 2, none⟩ (.string ⟨#[]⟩)).setCell ⟨w.heap.size, 3, none⟩ (.slice A6 n6 c6) = W at *
     clear m0 m1 m2 m3 n0 n1 n2 n3 f0 f1 f2 f3
     (try simp only [Exit.inBlock, Exit.then])
     refine bodyPost_ret (results_cell_row rfl _ _ w.heap.size 24 _ (0, 0) _ rfl HG.out Tryz.underlying24 rfl size25) rfl ?_
     have hrow : k25.R 24 W w.heap.size (News w) (.slice A6 n6 c6) xs := Kd.R_lower (Kd.R_mono (Kd.R_move (Kd.R_bound HS.out.row) (fun k hk => HF.out k (by have := hk.2.1; omega))) (fun _ _ => trivial)) (by omega)
     exact ValG.ok_mk ⟨3, 0, ⟨#[]⟩, xs⟩ HE.out hrow (HS.out.dec.ut (T := [24]) (HT.out.lower H.out.b_le) (by decide)) (UT.fill HS.out.ut HT.out)
 ·have hpt : pLst (pDeep k) p (L.drop i) = .bad 28 := by rw [List.drop_eq_nil_of_le hge]; rfl
  exact ⟨rfl, ValG.bad_mk hpt (((UT.refl [219] b w).alloc _).trans hu)⟩
end
end Go.Proofs.YthmkioodkldgbaaGreat.DK
/- value.decoder.value; conditions: those in each theorem. -/
namespace Go.Proofs.YthmkioodkldgbaaGreat.DK
open Go.Proofs.YthmkioodkldgbaaGreat.PD
open Go.RowKit Go.Proofs.YthmkioodkldgbaaGreatW.PrintWords Go.Proofs.YthmkioodkldgbaaGreatW.PrintLast Go.Proofs.YthmkioodkldgbaaGreatW.PrintMore
set_option linter.unusedVariables false
set_option linter.unusedSimpArgs false
set_option maxRecDepth 100000
section
variable {b : Nat} {w w1 : World} {g : Nat} {A : Option Addr} {c : Nat} {L : List Int} {i : Nat} {p : Int}
set_option maxHeartbeats 8000000 in
theorem dvalue_one (lst : Int → List Int → Rd (S25 × Int)) (d : Nat) (hd3 : d ≤ 3) (H3 : d = 3 → lst = fun _ _ => .bad 23) (HL : d < 3 → ∀ (W : World) (i : Nat) (p : Int), Dec b W g A c L i p → Calls Tryz.prog 160 #[.pointer (some ⟨g, 0, none⟩), .int .i64 d] W (ValG b W g A c L (lst p (L.drop i)))) (h : Dec b w g A c L i p) :
  Calls Tryz.prog 150 #[.pointer (some ⟨g, 0, none⟩), .int .i64 d] w (ValG b w g A c L (pOne lst p (L.drop i))) := by
 have H := Aside0.mk h
 have H3A := Aside0.mk H3
 have HLA := Aside0.mk HL
 have hblk := blk_lt h.box
 clear h H3 HL
 go_enter Tryz.func150, Tryz.ntmps150
 go_wp2_with fail
 refine (dnext_calls (H.out.below (below_alloc (Below.refl _ _) _))).mono ?_
 intro en w1 hn
 rcases hn with ⟨hlt, rfl, hd, hu⟩ | ⟨hge, rfl, hu⟩
 ·have hr := H.out.rng L[i] (List.getElem_mem hlt)
  have hdr := drop_lt hlt
  have hpt := congrArg (pOne lst p) hdr
  rw [pOne] at hpt
  generalize L[i] = x at *
  have hp0 := hd.pp.1
  have hp1 := hd.pp.2
  have g2 := blk_cell hd.box 2
  have k2 := blk_frozen hd.box 2
  simp only [List.getElem?_toArray, List.getElem?_cons_succ, List.getElem?_cons_zero] at g2
  have hblk1 := blk_lt hd.box
  have HD := Aside0.mk hd
  have HU := Aside0.mk (((UT.refl [219] b w).alloc _).trans hu)
  have HX := Aside0.mk (hu.blk (heap_alloc_new w _) (by decide))
  have HU1 := Aside0.mk (HU.out.trans (hd.set_ut 2 (.int .i64 (p + 1))))
  clear hd hu hdr
  by_cases h12 : 12 < p + 1
  ·rw [if_pos h12] at hpt
   have HP := Aside0.mk hpt
   clear hpt
   go_wp2_with fail
   refine (dfail_calls _ 22).mono ?_
   rintro en w2 ⟨rfl, rfl⟩
   exact ⟨rfl, ValG.bad_mk HP.out HU1.out⟩
  ·rw [if_neg h12] at hpt
   have HD1 := Aside0.mk (HD.out.setP (p + 1) ⟨by omega, by omega⟩)
   have HX1 := Aside0.mk ((HD.out.set_ut 2 (.int .i64 (p + 1))).blk HX.out (by decide))
   by_cases hx3 : 3 < x
   ·rw [if_pos hx3] at hpt
    have HP := Aside0.mk hpt
    clear hpt
    go_wp2_with fail
    refine (dfail_calls _ 28).mono ?_
    rintro en w2 ⟨rfl, rfl⟩
    exact ⟨rfl, ValG.bad_mk HP.out HU1.out⟩
   ·rw [if_neg hx3] at hpt
    by_cases h1 : x = 1
    ·subst h1
     rw [if_pos rfl] at hpt
     have HP := Aside0.mk hpt
     clear hpt
     go_wp2_with fail
     refine (dint_calls HD1.out).mono ?_
     rintro en w5 (⟨u, i5, rfl, hu0, hu9, hs⟩ | ⟨x, hr5, rfl, hu5⟩)
     ·skip
      have HS5 := Aside0.mk hs
      have HX5 := Aside0.mk (hs.ut.blk HX1.out (by decide))
      clear hs
      have n0 := blk_cell HX5.out 0
      have f0 := blk_frozen HX5.out 0
      have n1 := blk_cell HX5.out 1
      have f1 := blk_frozen HX5.out 1
      have n2 := blk_cell HX5.out 2
      have f2 := blk_frozen HX5.out 2
      have n3 := blk_cell HX5.out 3
      have f3 := blk_frozen HX5.out 3
      simp only [List.getElem?_toArray, List.getElem?_cons_succ, List.getElem?_cons_zero] at n0 n1 n2 n3
      have hb4 := blk_lt HX5.out
      obtain ⟨hW1, hW2, hW3⟩ := fill4 HX5.out (.int .i64 1) (.int .i64 (unz u)) (.string ⟨#[]⟩) (.slice none 0 0)
      have HF := Aside0.mk hW2
      have HT := Aside0.mk hW3
      have HG := Aside0.mk hW1
      clear hW1 hW2 hW3
      go_wp2
      (try simp only [Exit.inBlock, Exit.then])
      refine bodyPost_ret (results_cell_row rfl _ _ w.heap.size 24 _ (0, 0) _ rfl HG.out Tryz.underlying24 rfl size25) rfl ?_
      exact ValG.ok_mk ⟨1, unz u, ⟨#[]⟩, []⟩ (by rw [HP.out, HS5.out.ok]; rfl) (Kd.R_nil _ _ _ _ _) (Dec.ut HS5.out.dec (T := [24]) (HT.out.lower H.out.b_le) (by decide)) (UT.fill (HU1.out.trans HS5.out.ut) HT.out)
     ·exact ⟨rfl, ValG.bad_mk (by rw [HP.out, hr5]; rfl) (HU1.out.trans hu5)⟩
    ·rw [if_neg h1] at hpt
     by_cases h2 : x = 2
     ·subst h2
      rw [if_pos rfl] at hpt
      have HP := Aside0.mk hpt
      clear hpt
      go_wp2_with fail
      refine (dtext_calls HD1.out).mono ?_
      rintro en w5 (⟨u, i5, rfl, hs⟩ | ⟨x, hr5, rfl, hu5⟩)
      ·skip
       have HS5 := Aside0.mk hs
       have HX5 := Aside0.mk (hs.ut.blk HX1.out (by decide))
       clear hs
       have n0 := blk_cell HX5.out 0
       have f0 := blk_frozen HX5.out 0
       have n1 := blk_cell HX5.out 1
       have f1 := blk_frozen HX5.out 1
       have n2 := blk_cell HX5.out 2
       have f2 := blk_frozen HX5.out 2
       have n3 := blk_cell HX5.out 3
       have f3 := blk_frozen HX5.out 3
       simp only [List.getElem?_toArray, List.getElem?_cons_succ, List.getElem?_cons_zero] at n0 n1 n2 n3
       have hb4 := blk_lt HX5.out
       obtain ⟨hW1, hW2, hW3⟩ := fill4 HX5.out (.int .i64 2) (.int .i64 0) (.string u) (.slice none 0 0)
       have HF := Aside0.mk hW2
       have HT := Aside0.mk hW3
       have HG := Aside0.mk hW1
       clear hW1 hW2 hW3
       go_wp2
       (try simp only [Exit.inBlock, Exit.then])
       refine bodyPost_ret (results_cell_row rfl _ _ w.heap.size 24 _ (0, 0) _ rfl HG.out Tryz.underlying24 rfl size25) rfl ?_
       exact ValG.ok_mk ⟨2, 0, u, []⟩ (by rw [HP.out, HS5.out.ok]; rfl) (Kd.R_nil _ _ _ _ _) (Dec.ut HS5.out.dec (T := [24]) (HT.out.lower H.out.b_le) (by decide)) (UT.fill (HU1.out.trans HS5.out.ut) HT.out)
      ·exact ⟨rfl, ValG.bad_mk (by rw [HP.out, hr5]; rfl) (HU1.out.trans hu5)⟩
     ·rw [if_neg h2] at hpt
      by_cases h3 : x = 3
      ·subst h3
       rw [if_pos rfl] at hpt
       by_cases hdd : d = 3
       ·replace hpt : pOne lst p (L.drop i) = .bad 23 := by rw [hpt, H3A.out hdd]
        have HP := Aside0.mk hpt
        have hdi : (d : Int) ≥ 3 := by omega
        clear hpt
        go_wp2_with fail
        refine (dfail_calls _ 23).mono ?_
        rintro en w2 ⟨rfl, rfl⟩
        exact ⟨rfl, ValG.bad_mk HP.out HU1.out⟩
       ·have hdi : ¬ (d : Int) ≥ 3 := by omega
        have HP := Aside0.mk hpt
        clear hpt
        go_wp2_with fail
        refine (HLA.out (by omega) _ _ _ HD1.out).mono ?_
        rintro en w5 (⟨v, q5, i5, v3, rfl, hv, hd5, hu5, hr5⟩ | ⟨x, hr5, rfl, hu5⟩)
        ·skip
         have HS5 := Aside0.mk hd5
         have HR5 := Aside0.mk hr5
         have HV5 := Aside0.mk hv
         have HU5 := Aside0.mk hu5
         have HX5 := Aside0.mk (hu5.blk HX1.out (by decide))
         clear hd5 hu5 hv hr5
         obtain ⟨A6, n6, c6, rfl⟩ : ∃ A n c, v3 = .slice A n c := (Kd.R_slice HV5.out).elim (fun A h => h.elim (fun c h => ⟨A, _, c, h⟩))
         have hsz4 := blk_lt HX1.out
         have n0 := blk_cell HX5.out 0
         have f0 := blk_frozen HX5.out 0
         have n1 := blk_cell HX5.out 1
         have f1 := blk_frozen HX5.out 1
         have n2 := blk_cell HX5.out 2
         have f2 := blk_frozen HX5.out 2
         have n3 := blk_cell HX5.out 3
         have f3 := blk_frozen HX5.out 3
         simp only [List.getElem?_toArray, List.getElem?_cons_succ, List.getElem?_cons_zero] at n0 n1 n2 n3
         have hb4 := blk_lt HX5.out
         obtain ⟨hW1, hW2, hW3⟩ := fill4 HX5.out (.int .i64 v.f0) (.int .i64 v.f1) (.string v.f2) (.slice A6 n6 c6)
         have HF := Aside0.mk hW2
         have HT := Aside0.mk hW3
         have HG := Aside0.mk hW1
         clear hW1 hW2 hW3
         go_wp2
         (try simp only [Exit.inBlock, Exit.then])
         refine bodyPost_ret (results_cell_row rfl _ _ w.heap.size 24 _ (0, 0) _ rfl HG.out Tryz.underlying24 rfl size25) rfl ?_
         exact ValG.ok_mk v (by rw [HP.out, HR5.out]) (Kd.R_lower (Kd.R_mono (Kd.R_move (Kd.R_bound HV5.out) (fun k hk => HF.out k (by have := hk.2.1; omega))) (fun _ _ => trivial)) (by omega)) (Dec.ut HS5.out (T := [24]) (HT.out.lower H.out.b_le) (by decide)) (UT.fill (HU1.out.trans HU5.out) HT.out)
        ·exact ⟨rfl, ValG.bad_mk (by rw [HP.out, hr5]) (HU1.out.trans hu5)⟩
      ·rw [if_neg h3] at hpt
       have HP := Aside0.mk hpt
       have h1b : (x == 1) = false := by simpa using h1
       have h2b : (x == 2) = false := by simpa using h2
       have h3b : (x == 3) = false := by simpa using h3
       clear hpt
       have n0 := blk_cell HX1.out 0
       have f0 := blk_frozen HX1.out 0
       have n1 := blk_cell HX1.out 1
       have f1 := blk_frozen HX1.out 1
       have n2 := blk_cell HX1.out 2
       have f2 := blk_frozen HX1.out 2
       have n3 := blk_cell HX1.out 3
       have f3 := blk_frozen HX1.out 3
       simp only [List.getElem?_toArray, List.getElem?_cons_succ, List.getElem?_cons_zero] at n0 n1 n2 n3
       have hb4 := blk_lt HX1.out
       obtain ⟨hW1, hW2, hW3⟩ := fill4 HX1.out (.int .i64 0) (.int .i64 0) (.string ⟨#[]⟩) (.slice none 0 0)
       have HF := Aside0.mk hW2
       have HT := Aside0.mk hW3
       have HG := Aside0.mk hW1
       clear hW1 hW2 hW3
       go_wp2
       (try simp only [Exit.inBlock, Exit.then])
       refine bodyPost_ret (results_cell_row rfl _ _ w.heap.size 24 _ (0, 0) _ rfl HG.out Tryz.underlying24 rfl size25) rfl ?_
       exact ValG.ok_mk ⟨0, 0, ⟨#[]⟩, []⟩ (by rw [HP.out]) (Kd.R_nil _ _ _ _ _) (Dec.ut HD1.out (T := [24]) (HT.out.lower H.out.b_le) (by decide)) (UT.fill HU1.out HT.out)
 ·have hpt : pOne lst p (L.drop i) = .bad 28 := by rw [List.drop_eq_nil_of_le hge]; rfl
  exact ⟨rfl, ValG.bad_mk hpt (((UT.refl [219] b w).alloc _).trans hu)⟩
theorem dvalue_calls : ∀ (k d : Nat), k + d = 3 → ∀ (w : World) (i : Nat) (p : Int), Dec b w g A c L i p → Calls Tryz.prog 150 #[.pointer (some ⟨g, 0, none⟩), .int .i64 d] w (ValG b w g A c L (pDeep k p (L.drop i)))
 | 0, d, hk, w, i, p, h => by
  rw [pDeep]
  exact dvalue_one _ d (by omega) (fun _ => rfl) (fun h => absurd h (by omega)) h
 | k + 1, d, hk, w, i, p, h => by
  rw [pDeep]
  refine dvalue_one _ d (by omega) (fun h => absurd h (by omega)) (fun _ W j q hW => ?_) h
  exact dlist_calls k d (by omega) (fun W j q hW => by have := dvalue_calls k (d + 1) (by omega) W j q hW; simpa using this) hW
end
end Go.Proofs.YthmkioodkldgbaaGreat.DK
/- value.caught, value.Decode; conditions: those in each theorem. -/
namespace Go.Proofs.YthmkioodkldgbaaGreat.DK
open Go.Proofs.YthmkioodkldgbaaGreat.PD
open Go.RowKit Go.Proofs.YthmkioodkldgbaaGreatW.PrintWords Go.Proofs.YthmkioodkldgbaaGreatW.PrintLast Go.Proofs.YthmkioodkldgbaaGreatW.PrintMore
set_option linter.unusedVariables false
set_option linter.unusedSimpArgs false
set_option maxRecDepth 100000
/-- The three named results' boxes. -/
structure Three (w : World) (bv bn be : Nat) (v : Array Value) (n e : Value) : Prop where
 v : w.heap[bv]? = some (.cells v 24 (0, 0))
 n : w.heap[bn]? = some (.cells #[n] 3 (0, 0))
 e : w.heap[be]? = some (.cells #[e] 63 (0, 0))
theorem Three.below {w w1 : World} {bv bn be : Nat} {v : Array Value} {n e : Value} (h : Three w bv bn be v n e) (hb : Below w.heap.size w w1) : Three w1 bv bn be v n e := ⟨(hb.block _ (blk_lt h.v)).trans h.v, (hb.block _ (blk_lt h.n)).trans h.n, (hb.block _ (blk_lt h.e)).trans h.e⟩
theorem assert227 (v : Value) (W : World) : (Instr.typeAssert (.iface 234 v) 20 234 true).run Tryz.prog W = .ok (.tuple #[v, .bool true]) W := by
 simp [Instr.typeAssert, run_underlying Tryz.underlying234]
section
variable {w : World} {bv bn be : Nat} {c0 c1 c2 c3 n e : Value} {x : Int}
def CaughtP (w : World) (bv bn be : Nat) (x : Int) (en : Ending) (w' : World) : Prop := en = .returned (.tuple #[]) ∧ Three w' bv bn be #[.int .i64 0, .int .i64 0, .string ⟨#[]⟩, .slice none 0 0] (.int .i64 0) (.int .i64 x) ∧ UT [24, 3, 63] bv w w'
set_option maxHeartbeats 8000000 in
theorem caught_calls (h : Three w bv bn be #[c0, c1, c2, c3] n e) (h1 : bv < bn) (h2 : bn < be) : Calls Tryz.prog 149 #[.iface 234 (.agg #[.int .i64 x, .int .i64 0]), .pointer (some ⟨bv, 0, none⟩), .pointer (some ⟨bn, 0, none⟩), .pointer (some ⟨be, 0, none⟩)] w (CaughtP w bv bn be x) := by
 have H := Aside0.mk h
 clear h
 have hta := assert227
 go_enter Tryz.func149, Tryz.ntmps149
 go_wp2
 have hx8 := heap_alloc_new w (.cells #[.int .i64 x, .int .i64 0] 234)
 have h3 := H.out.below (below_alloc (Below.refl _ _) (.cells #[.int .i64 x, .int .i64 0] 234))
 have hu8 := (UT.refl [24, 3, 63] bv w).alloc (.cells #[.int .i64 x, .int .i64 0] 234)
 have hlt := blk_lt H.out.e
 generalize w.alloc (.cells #[.int .i64 x, .int .i64 0] 234) = W at *
 generalize w.heap.size = h8 at *
 have HX := Aside0.mk hx8
 have H3 := Aside0.mk h3
 have HU := Aside0.mk hu8
 obtain ⟨v1, v2, v3⟩ := fill4 h3.v (.int .i64 0) (.int .i64 0) (.string ⟨#[]⟩) (.slice none 0 0)
 have HV1 := Aside0.mk v1
 have HV3 := Aside0.mk v3
 have HX1 := Aside0.mk ((v2 h8 (by omega)).trans hx8)
 have HN1 := Aside0.mk ((v2 bn (by omega)).trans h3.n)
 have HE1 := Aside0.mk ((v2 be (by omega)).trans h3.e)
 have HX2 := Aside0.mk ((Below.heap_setCell _ ⟨bn, 0, none⟩ (.int .i64 0) h8 (show h8 ≠ bn by omega)).trans HX1.out)
 have HN2 := Aside0.mk (blk_set (i := 0) (v := .int .i64 0) HN1.out)
 have HE2 := Aside0.mk ((Below.heap_setCell _ ⟨bn, 0, none⟩ (.int .i64 0) be (show be ≠ bn by omega)).trans HE1.out)
 have HV2 := Aside0.mk ((Below.heap_setCell _ ⟨bn, 0, none⟩ (.int .i64 0) bv (show bv ≠ bn by omega)).trans HV1.out)
 have HT := Aside0.mk (Three.mk ((Below.heap_setCell _ ⟨be, 0, none⟩ (.int .i64 x) bv (show bv ≠ be by omega)).trans HV2.out) ((Below.heap_setCell _ ⟨be, 0, none⟩ (.int .i64 x) bn (show bn ≠ be by omega)).trans HN2.out) (blk_set (i := 0) (v := .int .i64 x) HE2.out))
 have HU3 := Aside0.mk (((HU.out.trans (HV3.out.mono (by simp))).set HN1.out (by simp) (Nat.le_of_lt h1) 0 (.int .i64 0)).set HE2.out (by simp) (by omega) 0 (.int .i64 x))
 have n0 := blk_cell h3.v 0
 have f0 := blk_frozen h3.v 0
 have n1 := blk_cell h3.v 1
 have f1 := blk_frozen h3.v 1
 have n2 := blk_cell h3.v 2
 have f2 := blk_frozen h3.v 2
 have n3 := blk_cell h3.v 3
 have f3 := blk_frozen h3.v 3
 simp only [List.getElem?_toArray, List.getElem?_cons_succ, List.getElem?_cons_zero] at n0 n1 n2 n3
 clear hx8 h3 hu8 v1 v2 v3
 refine start_ (n := 14) (S := fun w' => w'.cell? ⟨h8, 1, none⟩ = some (.int .i64 0) ∧ w'.cell? ⟨h8, 0, none⟩ = some (.int .i64 x)) (ds := [13]) #[false, false, false, false, false, false, false, false, false, false, false, false, false, false] (by kernel_rfl) rfl rfl ⟨(blk_cell (blk_drew HX.out) 1), (blk_cell (blk_drew HX.out) 0)⟩ (fun hHeld => ?_)
 refine zq 0 (some 20) ?_
 refine zq 1 (some 21) ?_
 refine zq 2 (some 22) ?_
 refine zq 3 (some 23) ?_
 refine zq 4 (some 24) ?_
 refine zq 6 (some 26) ?_
 refine zq 8 (some 28) ?_
 refine zu 5 (some 25) hHeld ?_
 refine zu 7 (some 27) hHeld ?_
 refine one_ (i := 9) (N := none) #[true, true, true, true, true, true, true, true, true, true, false, false, false, false] rfl rfl (by kernel_rfl) (by decide) (fun K hK => ?_)
 refine skip_ (w1 := ?_) (by rfl) rfl ?_ ?_
 rotate_left
 ·go_simp
  rfl
 refine hK.out _ _ ⟨(blk_cell (blk_drew HX1.out) 1), (blk_cell (blk_drew HX1.out) 0)⟩ (fun hHeld => ?_)
 clear hK K
 refine zq 10 (some 29) ?_
 refine one_ (i := 11) (N := none) #[true, true, true, true, true, true, true, true, true, true, true, true, false, false] rfl rfl (by kernel_rfl) (by decide) (fun K hK => ?_)
 have m0 := blk_cell HN1.out 0
 have k0 := blk_frozen HN1.out 0
 simp only [List.getElem?_toArray, List.getElem?_cons_succ, List.getElem?_cons_zero] at m0
 refine skip_ (w1 := ?_) (by rfl) rfl ?_ ?_
 rotate_left
 ·go_simp
  rfl
 refine hK.out _ _ ⟨(blk_cell (blk_drew HX2.out) 1), (blk_cell (blk_drew HX2.out) 0)⟩ (fun hHeld => ?_)
 clear hK K
 refine zq 12 (some 30) ?_
 refine last_ (i := 13) (N := none) #[true, true, true, true, true, true, true, true, true, true, true, true, true, true] rfl rfl (by kernel_rfl) (by decide) (fun K hK => ?_)
 have m0 := blk_cell HE2.out 0
 have k0 := blk_frozen HE2.out 0
 simp only [List.getElem?_toArray, List.getElem?_cons_succ, List.getElem?_cons_zero] at m0
 refine skip_ (w1 := ?_) (by rfl) rfl ?_ ?_
 rotate_left
 ·go_simp
  rfl
 refine hK.out _ _ ?_
 clear hK K
 refine done_ (by kernel_rfl) ?_
 go_wp2
 first | go_end0 | ((try simp only [Exit.inBlock, Exit.then]); refine bodyPost_ret (results_none rfl _ _ _) rfl ?_)
 exact ⟨rfl, HT.out.below (below_drew (Below.refl _ _)), HU3.out.drew⟩
theorem caught_idle (v1 v2 v3 : Value) : Calls Tryz.prog 149 #[.nilIface, v1, v2, v3] w (fun en w' => en = .returned (.tuple #[]) ∧ w' = w) := by
 go_enter Tryz.func149, Tryz.ntmps149
 go_wp2
 first | go_end0 | ((try simp only [Exit.inBlock, Exit.then]); refine bodyPost_ret (results_none rfl _ _ _) rfl ?_)
 exact ⟨rfl, rfl⟩
end
end Go.Proofs.YthmkioodkldgbaaGreat.DK
