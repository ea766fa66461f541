/- eddyref4.PutRecord, PutState, PutRow; conditions: those in each theorem. -/
import Derived.Test.YthmkioodkldgbaaQpM24
namespace Go.Proofs.Ythmkioodkldgbaa.DK
open Go.Proofs.Ythmkioodkldgbaa.PD
open Go.RowKit Go.Proofs.YthmkioodkldgbaaW.PrintWords Go.Proofs.YthmkioodkldgbaaW.PrintLast Go.Proofs.YthmkioodkldgbaaW.PrintMore
set_option linter.unusedVariables false
set_option linter.unusedSimpArgs false
set_option maxRecDepth 100000
theorem appN_step {ops : Array Oper} {o : Oper} {a : Act} {Q : Exit → Act → World → Prop} {Kc : Act → World → Prop} {W : World} {b : Nat} (hw : Region.wanted o (yielded ops a.tmps) = true) (s x : Operand)
  (ho : o.op = .call { callee := .builtin .append, args := #[s, x], argTypes := #[26, 26] })
  (v : Value) (xs ys : List Int) (hs : a.eval s = v) (w0 : World) (cells : Array Value) (hW : ∃ n, W = (w0.alloc (.cells cells 3)).drewN n) (hc : cells = (nums .i64 ys).toArray) (m : Nat) (hm : m = ys.length) (g : Nat) (hx : a.eval x = .slice (some ⟨g, 0, none⟩) m m) (hg : g = w0.heap.size)
  (HO : RK (Kd.int .i64) 3 b w0 v xs) (hb : b ≤ w0.heap.size) (hl : xs.length + ys.length ≤ 1099511627776)
  (h : ∀ v1 w1, RK (Kd.int .i64) 3 b w1 v1 (xs ++ ys) → UT [3] b w0 w1 → Kc (a.put o.dst v1) w1) :
  if Region.wanted o (yielded ops a.tmps) = true then Oper.wp Try.prog o a W Kc Q else Kc (a.put o.dst undef) W := by
 obtain ⟨n, rfl⟩ := hW
 subst hc hg hm
 have hbel : Below w0.heap.size w0 ((w0.alloc (.cells (nums .i64 ys).toArray 3)).drewN n) := pw_below_drewN (below_alloc (Below.refl _ _) _) n
 have hr := own_lit w0 0 3 .i64 ys (Nat.zero_le _) (by omega)
 obtain ⟨A, c, he, hr⟩ := own_reads hr
 injection he with e1 e2 e3
 subst e1 e3
 have hr2 : ReadsInt ((w0.alloc (.cells (nums .i64 ys).toArray 3)).drewN n) .i64 (some ⟨w0.heap.size, 0, none⟩) ys.length ys := hr.below (pw_below_drewN (Below.refl _ _) n)
 exact appK_step (flat_int .i64) hw s x 26 3 (.int .i64 0) 8 ho Try.underlying26 info3 rfl (by decide) (by decide) v xs ys _ ys.length ys.length hs hx (HO.below hbel) (Kd.C_of_reads (enc := Value.int .i64) (d := (0 : Int)) (h1 := fun _ => rfl) hr2) (Nat.le_trans hb hbel.size) (by omega)
  (fun v1 w1 h1 h2 => h v1 w1 h1 ((UT.of_below [3] b hbel).trans h2))
theorem BagX.below {Rel : World → Prop} {b : Nat} {w w1 : World} {g : Nat} {ns : List Int} {ks : List ByteArray} {vs : List S25} {i j k : Int} (h : BagX Rel b w g ns ks vs i j k) (hb : Below w.heap.size w w1) : BagX Rel b w1 g ns ks vs i j k := by
 obtain ⟨a1, a2, a3, hh⟩ := h
 exact ⟨a1, a2, a3, hh.below hb⟩
theorem recC_loops {x : S28} (h : recC x = 0) : x.f2.length ≤ 3 := by
 unfold recC at h
 split at h
 ·simp at h
 split at h
 ·rename_i h1 h2; exact absurd h h2
 split at h
 ·simp at h
 ·omega
theorem cellsL_vals : ∀ {l : List S121} {q : Option ByteArray}, cellsL q l = 0 → ∀ x ∈ l, x.f1.length ≤ 6
 | [], q, _, x, hx => by simp at hx
 | y :: l, q, h, x, hx => by
  obtain ⟨bb, hbb⟩ := cellsL_cons' q y l
  rw [hbb] at h
  split at h
  ·simp at h
  split at h
  ·simp at h
  split at h
  ·simp at h
  split at h
  ·rename_i h1 h2 h3 h4
   rcases List.mem_cons.1 hx with rfl | hx
   ·omega
   ·exact cellsL_vals h x hx
  ·rename_i h1 h2 h3 h4; exact absurd h h4
theorem stateC_vals {n : Int} {l : List S121} (h : stateC n l = 0) : ∀ x ∈ l, x.f1.length ≤ 6 := by
 unfold stateC at h
 split at h
 ·simp at h
 split at h
 ·simp at h
 exact cellsL_vals h
theorem flatMap_len' {α β : Type} (f : α → List β) (B : Nat) : ∀ l : List α, (∀ x ∈ l, (f x).length ≤ B) → (l.flatMap f).length ≤ l.length * B
 | [], _ => by simp
 | x :: l, h => by
  have h1 := h x (by simp)
  have h2 := flatMap_len' f B l (fun y hy => h y (List.mem_cons_of_mem _ hy))
  simp only [List.flatMap_cons, List.length_append, List.length_cons, Nat.succ_mul]
  omega
theorem cells_small {l : List S121} (hl : l.length ≤ 64) (h : ∀ x ∈ l, x.f1.length ≤ 6) : (l.flatMap cellN).length ≤ 1000 ∧ (l.map (fun x => x.f0)).length ≤ 1000 ∧ (l.flatMap (fun x => x.f1)).length ≤ 1000 := by
 have h1 := flatMap_len' cellN 1 l (fun x _ => by simp [cellN])
 have h2 := flatMap_len' (fun x : S121 => x.f1) 6 l h
 refine ⟨by omega, by rw [List.length_map]; omega, by omega⟩
/-- Behind the writing of a whole bag. -/
theorem wr_done {Rel : World → Prop} {b : Nat} {w w0 : World} {g : Nat} {ns : List Int} {ks : List ByteArray} {vs : List S25} {un uk uv : Value} {zs : List Int} {q : Left} {e : Ending} {w' : World} (h : WrP Rel b w g ns ks vs un uk uv zs q e w') : ∃ u, e = .returned u ∧ R5 b w' u zs ∧ UT [101, 5] b w w' := by
 obtain ⟨u, _, _, _, h1, h2, _, h3, _⟩ := h
 exact ⟨u, h1, h2, h3⟩
set_option maxHeartbeats 16000000 in
theorem rPutRecord_calls (w : World) (x : S28) (A4 : Option Addr) (c4 : Nat) (A5 : Option Addr) (c5 : Nat) (h4 : k25.C w A4 x.f1.f3.length x.f1.f3) (l4 : x.f1.f3.length ≤ c4) (h5 : (Kd.int .i64).C w A5 x.f2.length x.f2) (l5 : x.f2.length ≤ c5) (ho : okS x.f1) :
  Calls Try.prog 36 #[.agg #[.string x.f0, .int .i64 x.f1.f0, .int .i64 x.f1.f1, .string x.f1.f2, .slice A4 x.f1.f3.length c4, .slice A5 x.f2.length c5]] w (Put w (recC x) (encR x)) := by
 have HC := Aside0.mk (fun (W : World) (hb : Below w.heap.size w W) => (rrec x h5.2.1).rounds.elim (fun k hk => eddyref2_CheckRecord.calls k x.f0 x.f1.f0 x.f1.f1 x.f1.f2 A4 c4 x.f1.f3 A5 c5 x.f2 (recC x) W (Kd.C_below h4 hb) l4 (Kd.C_below h5 hb) l5 hk))
 have HI4 := Aside0.mk h4
 have HI5 := Aside0.mk h5
 have HO := Aside0.mk ho
 clear h4 h5 ho
 unfold Put
 generalize hq : (recC x) = q at HC ⊢
 have HQ := Aside0.mk hq
 clear hq
 by_cases hz : q = 0
 ·subst hz
  have HP := Aside0.mk (recC_ok HO.out HQ.out)
  go_enter Try.func36, Try.ntmps36
  go_wp2_with fail
  refine (HC.out _ ?hw).mono ?_
  case hw => repeat (with_reducible first | exact Below.refl _ _ | apply below_drew | apply pw_below_drewN | apply below_alloc)
  rintro e w1 ⟨rfl, hb⟩
  have HB1 := Aside0.mk (show Below w.heap.size w w1 from (below_alloc (Below.refl _ _) _).trans (hb.mono (by simp)))
  have HX1 := Aside0.mk ((hb.block w.heap.size (by simp)).trans (heap_alloc_new w (.cells #[.string x.f0, .int .i64 x.f1.f0, .int .i64 x.f1.f1, .string x.f1.f2, .slice A4 x.f1.f3.length c4, .slice A5 x.f2.length c5] 28)))
  clear hb
  have HX0 := Aside0.mk (blk_alloc HX1.out (.cells #[.slice none 0 0, .slice none 0 0, .slice none 0 0, .int .i64 0, .int .i64 0, .int .i64 0] 101))
  have HN0 := Aside0.mk (heap_alloc_new w1 (.cells #[.slice none 0 0, .slice none 0 0, .slice none 0 0, .int .i64 0, .int .i64 0, .int .i64 0] 101))
  have hx0 := blk_lt HX1.out
  have HBG0 := Aside0.mk (Bag.new (Rel := RelB w) (w1.alloc (.cells #[.slice none 0 0, .slice none 0 0, .slice none 0 0, .int .i64 0, .int .i64 0, .int .i64 0] 101)) w.heap.size w1.heap.size HN0.out (by have := HB1.out.size; omega))
  have HW0 := Aside0.mk (show Below w.heap.size w (w1.alloc (.cells #[.slice none 0 0, .slice none 0 0, .slice none 0 0, .int .i64 0, .int .i64 0, .int .i64 0] 101)) from HB1.out.trans ((below_alloc (Below.refl _ _) _).mono HB1.out.size))
  have hb0 : w.heap.size ≤ (w1.alloc (.cells #[.slice none 0 0, .slice none 0 0, .slice none 0 0, .int .i64 0, .int .i64 0, .int .i64 0] 101)).heap.size := HW0.out.size
  have HU0 := Aside0.mk (UT.refl [101, 3, 9, 25] w.heap.size (w1.alloc (.cells #[.slice none 0 0, .slice none 0 0, .slice none 0 0, .int .i64 0, .int .i64 0, .int .i64 0] 101)))
  have HP2 := Aside0.mk (recC_loops HQ.out)
  have hgl := blk_lt HX1.out
  have n1_0 := blk_cell HX1.out 0
  have n1_1 := blk_cell HX1.out 1
  have n1_2 := blk_cell HX1.out 2
  have n1_3 := blk_cell HX1.out 3
  have n1_4 := blk_cell HX1.out 4
  have n1_5 := blk_cell HX1.out 5
  simp only [List.getElem?_toArray, List.getElem?_cons_succ, List.getElem?_cons_zero] at n1_0 n1_1 n1_2 n1_3 n1_4 n1_5
  go_wp2_with fail
  refine (addRecord_calls (RelB w) w.heap.size _ w1.heap.size [] [] [] 0 0 0 x A4 c4 A5 c5 ?hx ?hsz (fun W hW => Kd.C_below HI4.out hW) l4 (In.ofC HI5.out HW0.out (Nat.le_refl _)) l5 (by have := HP2.out; simp only [List.length_nil]; omega) (by simp) (by simp)).mono ?_
  case hx => exact ⟨_, _, _, by repeat (with_reducible first | exact HBG0.out | apply Bag.drew | apply Bag.drewN)⟩
  case hsz => exact Nat.le_trans hb0 (by first | exact Nat.le_refl _ | simp)
  generalize hg : w1.heap.size = g at *
  generalize hW0 : w1.alloc (.cells #[.slice none 0 0, .slice none 0 0, .slice none 0 0, .int .i64 0, .int .i64 0, .int .i64 0] 101) = W0 at *
  rintro e W1 ⟨rfl, h1, h2⟩
  obtain ⟨un1, uk1, uv1, h1⟩ := h1
  have HBG1 := Aside0.mk h1
  have HU1 := Aside0.mk (UT.trans (w := W0) (by repeat (with_reducible first | exact HU0.out | apply UT.drew | apply UT.drewN)) h2)
  have HX1 := Aside0.mk (h2.blk (by repeat (with_reducible first | exact HX0.out | apply blk_drew | apply blk_drewN)) (by decide))
  have hb1 : w.heap.size ≤ W1.heap.size := Nat.le_trans hb0 HU1.out.size
  clear h1 h2
  go_wp2_with fail
  refine (write_calls (RelB w) _ formRec (Nat.le_refl _) okRecF ⟨#[107, 118, 91, 97, 104, 93]⟩ (by decide) (by rfl) w.heap.size _ (.slice none 0 0) [] g _ _ _ 0 0 0 un1 uk1 uv1 (R5.nil _ _) ?hsz ?hbag (fun W hW => HW0.out.trans ((HU1.out.below hb0).trans (Below.trans ?hdr hW))) _ _ (by have h := wr_rec x HP.out.1 HI5.out.2.1 [] [] []; simpa [recN] using h) (by rw [List.nil_append]; have := HP.out.2; omega)).mono ?_
  case hsz => exact Nat.le_trans hb1 (by first | exact Nat.le_refl _ | simp)
  case hbag => exact Bag.cast (i := 0) (j := 0) (k := 0) (by first | (with_reducible exact HBG1.out) | (with_reducible exact HBG1.out.drew) | (have h := HBG1.out; simpa using h) | (have h := HBG1.out.drew; simpa using h)) rfl rfl rfl
  case hdr => repeat (with_reducible first | exact Below.refl _ _ | apply below_drew | apply pw_below_drewN)
  intro e w9 hp
  obtain ⟨u9, rfl, r9, t9⟩ := wr_done (w0 := w) hp
  rw [List.nil_append] at r9
  have HR9 := Aside0.mk r9
  have HT9 := Aside0.mk (t9.below (by first | exact hb1 | (simp; exact hb1)))
  clear r9 t9 hp
  go_wp2
  go_ret2
  exact ⟨u9, rfl, HR9.out, HW0.out.trans ((HU1.out.below hb0).trans (Below.trans (by repeat (with_reducible first | exact Below.refl _ _ | apply below_drew | apply pw_below_drewN)) HT9.out))⟩
 ·skip
  go_enter Try.func36, Try.ntmps36
  go_wp2_with fail
  refine (HC.out _ ?hw).mono ?_
  case hw => repeat (with_reducible first | exact Below.refl _ _ | apply below_drew | apply pw_below_drewN | apply below_alloc)
  rintro e w1 ⟨rfl, hb⟩
  have HB1 := Aside0.mk (show Below w.heap.size w w1 from (below_alloc (Below.refl _ _) _).trans (hb.mono (by simp)))
  clear hb
  have hqb : (q != 0) = true := by simpa using hz
  go_wp2
  go_ret2
  exact ⟨.slice none 0 0, rfl, by first | exact R5.nil _ _ | (rw [if_neg hz]; exact R5.nil _ _), HB1.out⟩
set_option maxHeartbeats 16000000 in
theorem rPutState_calls (w : World) (n : Int) (l : List S121) (A : Option Addr) (c : Nat) (h1 : k121.C w A l.length l) (l1 : l.length ≤ c) (hx : ∀ x ∈ l, x.f1.length ≤ 9223372036854775807) (ho : ∀ x ∈ l, okL x.f1) :
  Calls Try.prog 32 #[.agg #[.int .i64 n, .slice A l.length c]] w (Put w (stateC n l) (encSt n l)) := by
 have HC := Aside0.mk (fun (W : World) (hb : Below w.heap.size w W) => (rstate n l h1.2.1 hx).rounds.elim (fun k hk => eddyref2_CheckState.calls k n A c l (stateC n l) W (Kd.C_below h1 hb) l1 hk))
 have HI1 := Aside0.mk h1
 have HX := Aside0.mk hx
 have HO := Aside0.mk ho
 clear h1 hx ho
 unfold Put
 generalize hq : (stateC n l) = q at HC ⊢
 have HQ := Aside0.mk hq
 clear hq
 by_cases hz : q = 0
 ·subst hz
  have HP := Aside0.mk (stateC_ok HO.out HQ.out)
  go_enter Try.func32, Try.ntmps32
  go_wp2_with fail
  refine (HC.out _ ?hw).mono ?_
  case hw => repeat (with_reducible first | exact Below.refl _ _ | apply below_drew | apply pw_below_drewN | apply below_alloc)
  rintro e w1 ⟨rfl, hb⟩
  have HB1 := Aside0.mk (show Below w.heap.size w w1 from (below_alloc (Below.refl _ _) _).trans (hb.mono (by simp)))
  have HX1 := Aside0.mk ((hb.block w.heap.size (by simp)).trans (heap_alloc_new w (.cells #[.int .i64 n, .slice A l.length c] 31)))
  clear hb
  have HX0 := Aside0.mk (blk_alloc HX1.out (.cells #[.slice none 0 0, .slice none 0 0, .slice none 0 0, .int .i64 0, .int .i64 0, .int .i64 0] 101))
  have HN0 := Aside0.mk (heap_alloc_new w1 (.cells #[.slice none 0 0, .slice none 0 0, .slice none 0 0, .int .i64 0, .int .i64 0, .int .i64 0] 101))
  have hx0 := blk_lt HX1.out
  have HBG0 := Aside0.mk (Bag.new (Rel := RelB w) (w1.alloc (.cells #[.slice none 0 0, .slice none 0 0, .slice none 0 0, .int .i64 0, .int .i64 0, .int .i64 0] 101)) w.heap.size w1.heap.size HN0.out (by have := HB1.out.size; omega))
  have HW0 := Aside0.mk (show Below w.heap.size w (w1.alloc (.cells #[.slice none 0 0, .slice none 0 0, .slice none 0 0, .int .i64 0, .int .i64 0, .int .i64 0] 101)) from HB1.out.trans ((below_alloc (Below.refl _ _) _).mono HB1.out.size))
  have hb0 : w.heap.size ≤ (w1.alloc (.cells #[.slice none 0 0, .slice none 0 0, .slice none 0 0, .int .i64 0, .int .i64 0, .int .i64 0] 101)).heap.size := HW0.out.size
  have HU0 := Aside0.mk (UT.refl [101, 3, 9, 25] w.heap.size (w1.alloc (.cells #[.slice none 0 0, .slice none 0 0, .slice none 0 0, .int .i64 0, .int .i64 0, .int .i64 0] 101)))
  have HP2 := Aside0.mk (cells_small HP.out.2.1 (stateC_vals HQ.out))
  generalize hg : w1.heap.size = g at *
  generalize hW0 : w1.alloc (.cells #[.slice none 0 0, .slice none 0 0, .slice none 0 0, .int .i64 0, .int .i64 0, .int .i64 0] 101) = W0 at *
  go_wp2
  refine start_ (n := 12) (S := fun w' => w'.cell? ⟨g, 0, none⟩ = some (.slice none 0 0) ∧ w'.frozen? ⟨g, 0, none⟩ = false ∧ w'.cell? ⟨w.heap.size, 0, none⟩ = some (.int .i64 n)) (ds := [11]) #[false, false, false, false, false, false, false, false, false, false, false, false] (by kernel_rfl) rfl rfl ⟨(blk_cell HBG0.out.box 0), (blk_frozen HBG0.out.box 0), (blk_cell HX0.out 0)⟩ (fun hHeld => ?_)
  refine zq 0 (some 13) ?_
  refine zq 1 (some 14) ?_
  refine zq 2 (some 15) ?_
  refine zq 3 (some 16) ?_
  refine zq 5 (some 18) ?_
  refine zu 4 (some 17) hHeld ?_
  refine zu 6 (some 19) hHeld ?_
  refine one_ (i := 7) (N := some 20) #[true, true, true, true, true, true, true, true, false, false, false, false] rfl rfl (by kernel_rfl) (by decide) (fun K hK => ?_)
  refine value_ (w1 := ?_) (v := ?_) (by rfl) rfl ?_ ?_
  rotate_left 2
  ·go_simp
   constructor
   ·rfl
   ·rfl
  refine hK.out _ _ ⟨(blk_cell (blk_alloc HBG0.out.box _) 0), (blk_frozen (blk_alloc HBG0.out.box _) 0), (blk_cell (blk_alloc HX0.out _) 0)⟩ (fun hHeld => ?_)
  clear hK K
  refine norm_ (a' := ?_) ?_ ?_
  rotate_left
  ·show Act.put _ (some 20) _ = _
   simp only [Act.put, zla, zlb, zlc, i64_w, i32_w]
   rfl
  refine one_ (i := 8) (N := some 21) #[true, true, true, true, true, true, true, true, true, false, false, false] rfl rfl (by kernel_rfl) (by decide) (fun K hK => ?_)
  refine appN_step (by rfl) (.tmp 17) (.tmp 20) rfl (.slice none 0 0) ([]) [n] rfl W0 _ (by first | exact ⟨1, rfl⟩ | exact ⟨0, rfl⟩ | exact ⟨2, rfl⟩ | exact ⟨3, rfl⟩) rfl 1 rfl _ rfl (by first | rfl | simp) HBG0.out.nums hb0 (by simp) ?_
  intro vz0 wz0 h1 h2
  obtain ⟨Av0, nl0, cv0, rfl⟩ : ∃ A n c, vz0 = .slice A n c := (Kd.R_slice h1).elim (fun A h => h.elim (fun c h => ⟨A, _, c, h⟩))
  have HK0 := Aside0.mk h1
  have HT0 := Aside0.mk h2
  have HG0 := Aside0.mk (h2.blk HBG0.out.box (by decide))
  have HY0 := Aside0.mk (h2.blk HX0.out (by decide))
  clear h1 h2
  refine hK.out _ _ ⟨(blk_cell HG0.out 0), (blk_frozen HG0.out 0), (blk_cell HY0.out 0)⟩ (fun hHeld => ?_)
  clear hK K
  refine norm_ (a' := ?_) ?_ ?_
  rotate_left
  ·show Act.put _ (some 21) _ = _
   simp only [Act.put, zla, zlb, zlc, i64_w, i32_w]
   rfl
  refine zq 9 (some 22) ?_
  refine zq 10 (some 23) ?_
  refine last_ (i := 11) (N := none) #[true, true, true, true, true, true, true, true, true, true, true, true] rfl rfl (by kernel_rfl) (by decide) (fun K hK => ?_)
  refine skip_ (w1 := ?_) (by rfl) rfl ?_ ?_
  rotate_left
  ·go_simp
   rfl
  refine hK.out _ _ ?_
  clear hK K
  refine done_ (by kernel_rfl) ?_
  have HBG1 := Aside0.mk (HBG0.out.setN HT0.out HK0.out)
  have HU1 := Aside0.mk ((HU0.out.trans (HT0.out.mono (by simp))).set HG0.out (by simp) HBG0.out.ge 0 (.slice Av0 nl0 cv0))
  have HX1 := Aside0.mk (((UT.refl [101, 3, 9, 25] w.heap.size wz0).set HG0.out (by simp) HBG0.out.ge 0 (.slice Av0 nl0 cv0)).blk HY0.out (by decide))
  have hb1 : w.heap.size ≤ (wz0.setCell ⟨g, 0, none⟩ (.slice Av0 nl0 cv0)).heap.size := Nat.le_trans hb0 HU1.out.size
  clear HT0 HK0 HG0 HY0
  generalize (wz0.setCell ⟨g, 0, none⟩ (.slice Av0 nl0 cv0)) = W1 at *
  have n1_1 := blk_cell HX1.out 1
  simp only [List.getElem?_toArray, List.getElem?_cons_succ, List.getElem?_cons_zero] at n1_1
  go_wp2_with fail
  refine (addCells_calls w w.heap.size _ g ([] ++ [n]) [] [] 0 0 0 l A c ?hx ?hsz (Nat.le_refl _) HI1.out (HW0.out.trans ((HU1.out.below hb0).trans ?hdr)) (by have h := HP2.out.1; simp only [List.length_append, List.length_cons, List.length_nil]; omega) (by have h := HP2.out.2.1; rw [List.nil_append]; omega) (by have h := HP2.out.2.2; rw [List.nil_append]; omega)).mono ?_
  case hx => exact ⟨_, _, _, by repeat (with_reducible first | exact HBG1.out | apply Bag.drew | apply Bag.drewN)⟩
  case hsz => exact Nat.le_trans hb1 (by first | exact Nat.le_refl _ | simp)
  case hdr => repeat (with_reducible first | exact Below.refl _ _ | apply below_drew | apply pw_below_drewN)
  rintro e W2 ⟨rfl, h1, h2⟩
  obtain ⟨un2, uk2, uv2, h1⟩ := h1
  have HBG2 := Aside0.mk h1
  have HU2 := Aside0.mk (UT.trans (w := W0) (by repeat (with_reducible first | exact HU1.out | apply UT.drew | apply UT.drewN)) h2)
  have HX2 := Aside0.mk (h2.blk (by repeat (with_reducible first | exact HX1.out | apply blk_drew | apply blk_drewN)) (by decide))
  have hb2 : w.heap.size ≤ W2.heap.size := Nat.le_trans hb0 HU2.out.size
  clear h1 h2
  go_wp2_with fail
  refine (write_calls (RelB w) _ formState (Nat.le_refl _) okStateF ⟨#[110, 60, 99, 107, 91, 98, 118, 93, 62]⟩ (by decide) (by rfl) w.heap.size _ (.slice none 0 0) [] g _ _ _ 0 0 0 un2 uk2 uv2 (R5.nil _ _) ?hsz ?hbag (fun W hW => HW0.out.trans ((HU2.out.below hb0).trans (Below.trans ?hdr hW))) _ _ (by have h := wr_state n l ⟨HP.out.1.1, by have := HP.out.1.2; omega⟩ HI1.out.2.1 HP.out.2.2.1 HX.out [] [] []; simpa using h) (by rw [List.nil_append]; have := HP.out.2.2.2.2; omega)).mono ?_
  case hsz => exact Nat.le_trans hb2 (by first | exact Nat.le_refl _ | simp)
  case hbag => exact Bag.cast (i := 0) (j := 0) (k := 0) (by first | (with_reducible exact HBG2.out) | (with_reducible exact HBG2.out.drew) | (have h := HBG2.out; simpa using h) | (have h := HBG2.out.drew; simpa using h)) rfl rfl rfl
  case hdr => repeat (with_reducible first | exact Below.refl _ _ | apply below_drew | apply pw_below_drewN)
  intro e w9 hp
  obtain ⟨u9, rfl, r9, t9⟩ := wr_done (w0 := w) hp
  rw [List.nil_append] at r9
  have HR9 := Aside0.mk r9
  have HT9 := Aside0.mk (t9.below (by first | exact hb2 | (simp; exact hb2)))
  clear r9 t9 hp
  go_wp2
  go_ret2
  exact ⟨u9, rfl, HR9.out, HW0.out.trans ((HU2.out.below hb0).trans (Below.trans (by repeat (with_reducible first | exact Below.refl _ _ | apply below_drew | apply pw_below_drewN)) HT9.out))⟩
 ·skip
  go_enter Try.func32, Try.ntmps32
  go_wp2_with fail
  refine (HC.out _ ?hw).mono ?_
  case hw => repeat (with_reducible first | exact Below.refl _ _ | apply below_drew | apply pw_below_drewN | apply below_alloc)
  rintro e w1 ⟨rfl, hb⟩
  have HB1 := Aside0.mk (show Below w.heap.size w w1 from (below_alloc (Below.refl _ _) _).trans (hb.mono (by simp)))
  clear hb
  have hqb : (q != 0) = true := by simpa using hz
  go_wp2
  go_ret2
  exact ⟨.slice none 0 0, rfl, by first | exact R5.nil _ _ | (rw [if_neg hz]; exact R5.nil _ _), HB1.out⟩
end Go.Proofs.Ythmkioodkldgbaa.DK
