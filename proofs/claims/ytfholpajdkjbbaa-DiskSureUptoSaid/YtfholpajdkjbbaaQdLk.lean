/- One disk: works; a disk without files made; conditions: those in each theorem. -/
import Derived.Test.YtfholpajdkjbbaaQdLj
namespace Go.Proofs.Ytfholpajdkjbbaa.DK
open Go.Proofs.Ytfholpajdkjbbaa.PD
open Go.RowKit Go.Proofs.YtfholpajdkjbbaaW.PrintWords Go.Proofs.YtfholpajdkjbbaaW.PrintLast Go.Proofs.YtfholpajdkjbbaaW.PrintMore Go.Proofs.Ytfholpajdkjbbaa.Mo
set_option linter.unusedVariables false
set_option linter.unusedSimpArgs false
theorem lit_C {w : World} {k : Nat} {l : List Int} (h : w.heap[k]? = some (.cells (l.map fun x => Value.int .u8 x).toArray 5 (0, 0))) (hl : l.length ≤ 1000) : (Kd.int .u8).C w (some ⟨k, 0, none⟩) l.length l := by
  refine Kd.C_of_reads (d := (0 : Int)) (h1 := fun _ => rfl) ⟨rfl, Nat.le_trans hl (by decide), fun hn => ?_⟩
  refine ⟨_, rfl, fun j hj => ?_⟩
  have := blk_cell h j
  rw [show (⟨k, 0, none⟩ : Addr).add j = ⟨k, j, none⟩ by simp [Addr.add]; exact fun h => h.symm]
  rw [this]
  simp [List.getD_eq_getElem?_getD, hj]
theorem lit_stays {w : World} {k : Nat} {l : List Int} {X : Nat → Prop} (h : w.heap[k]? = some (.cells (l.map fun x => Value.int .u8 x).toArray 5 (0, 0))) (hl : l.length ≤ 1000) (hx : ¬ X k) : Stays X w (some ⟨k, 0, none⟩) l :=
  fun w' hu => lit_C (blk_upd h hu hx) hl
def nmA : ByteArray := ⟨#[97]⟩
theorem wk1 : (stOf []).append nmA [5, 6] = (stOf [⟨nmA, [], [5, 6]⟩], 0) := by kernel_rfl
theorem wk2 : (stOf [⟨nmA, [], [5, 6]⟩]).sync nmA = (stOf [⟨nmA, [5, 6], []⟩], 0) := by kernel_rfl
theorem wk3 : (stOf [⟨nmA, [5, 6], []⟩]).read nmA = ([5, 6], 0) := by kernel_rfl
theorem wk4 : (stOf [⟨nmA, [5, 6], []⟩]).remove nmA = (stOf [], 0) := by kernel_rfl
set_option maxHeartbeats 8000000 in
set_option maxRecDepth 100000 in
theorem works_calls (w : World) (p : Nat) (X : Nat → Prop) (h : Prog w p X (stOf [])) : Calls Try.prog 22 #[.pointer (some ⟨p, 0, none⟩)] w fun e w' => e = .returned (.bool true) ∧ PStep p X w w' (stOf []) := by
  have H := Aside0.mk h
  have hlit := heap_alloc_new w (.cells #[.int .u8 5, .int .u8 6] 5)
  have hb1 := below_alloc (Below.refl w.heap.size w) (.cells #[.int .u8 5, .int .u8 6] 5)
  have HC := Aside0.mk (append_calls (w.alloc (.cells #[.int .u8 5, .int .u8 6] 5)) p X (stOf []) nmA (some ⟨w.heap.size, 0, none⟩) 2 [5, 6] (h.below hb1) ok_empty (lit_stays hlit (by decide) (fun hx => Nat.lt_irrefl _ (h.bd _ hx))) (by decide) (by decide))
  rw [wk1] at HC
  have HB1 := Aside0.mk hb1
  have ok1 : Ok (stOf [⟨nmA, [], [5, 6]⟩]) := by have := ok_empty.append nmA [5, 6]; rw [wk1] at this; exact this
  have ok2 : Ok (stOf [⟨nmA, [5, 6], []⟩]) := by have := ok1.sync nmA; rw [wk2] at this; exact this
  have OK1 := Aside0.mk ok1
  have OK2 := Aside0.mk ok2
  clear hlit hb1 h ok1 ok2
  go_enter Try.func22, Try.ntmps22
  go_wp2_with fail
  refine HC.out.mono ?_
  rintro e w2 ⟨rfl, hs⟩
  have HS2 := Aside0.mk (PStep.early H.out HB1.out hs)
  clear hs
  go_wp2_with fail
  refine (num_calls _ _).mono ?_
  rintro e w4 ⟨rfl, ⟨⟨nd, rfl⟩⟩⟩
  go_wp2_with fail
  have HSX := Aside0.mk (HS2.out.then_below (pw_below_drewN (Below.refl _ _) nd))
  have HC2 := Aside0.mk (sync_calls _ p _ _ nmA HSX.out.1 OK1.out)
  rw [wk2] at HC2
  refine HC2.out.mono ?_
  rintro e w3 ⟨rfl, hs⟩
  have HS3 := Aside0.mk (HSX.out.trans hs)
  clear hs
  go_wp2_with fail
  refine (num_calls _ _).mono ?_
  rintro e w4 ⟨rfl, ⟨⟨nd2, rfl⟩⟩⟩
  go_wp2_with fail
  have HSY := Aside0.mk (HS3.out.then_below (pw_below_drewN (Below.refl _ _) nd2))
  have HC3 := Aside0.mk (read_calls _ p _ _ nmA HSY.out.1 OK2.out)
  rw [wk3] at HC3
  refine HC3.out.mono ?_
  rintro e w5 ⟨v5, rfl, r5, b5⟩
  obtain ⟨A5, c5, rfl, hc5, hC5⟩ := Kd.R_reads r5
  have HC5 := Aside0.mk hC5
  have HS5 := Aside0.mk (HSY.out.then_below b5)
  clear r5 hC5 b5
  go_wp2_with fail
  refine (num_calls _ _).mono ?_
  rintro e w6 ⟨rfl, ⟨⟨nd3, rfl⟩⟩⟩
  go_wp2_with fail
  refine (same_same _ A5 c5 [5, 6] (some ⟨w5.heap.size, 0, none⟩) 2 (Kd.C_alloc (Kd.C_drewN HC5.out nd3) _) hc5 (lit_C (heap_alloc_new (w5.drewN nd3) (.cells #[.int .u8 5, .int .u8 6] 5)) (by decide)) (by decide) (by decide)).mono ?_
  rintro e w7 ⟨rfl, ⟨⟨nd4, rfl⟩⟩⟩
  go_wp2_with fail
  have HSZ := Aside0.mk (HS5.out.then_below (w2 := ((w5.drewN nd3).alloc (.cells #[.int .u8 5, .int .u8 6] 5)).drewN nd4) (pw_below_drewN (below_alloc (pw_below_drewN (Below.refl _ _) _) _) _))
  have HC4 := Aside0.mk (remove_calls _ p _ _ nmA HSZ.out.1 OK2.out)
  rw [wk4] at HC4
  refine HC4.out.mono ?_
  rintro e w8 ⟨rfl, hs⟩
  have HS8 := Aside0.mk (HSZ.out.trans hs)
  clear hs
  go_wp2_with fail
  refine (num_calls _ _).mono ?_
  rintro e w9 ⟨rfl, ⟨⟨nd5, rfl⟩⟩⟩
  go_wp2
  go_ret
  exact ⟨rfl, HS8.out.then_below (by repeat (with_reducible first | exact Below.refl _ _ | apply below_drew | apply pw_below_drewN))⟩
end Go.Proofs.Ytfholpajdkjbbaa.DK
