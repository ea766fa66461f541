/- The laws that are upTo with two constants; conditions: those in each theorem. -/
import Derived.Test.YtfholpajdkjbbaaQbLh
namespace Go.Proofs.Ytfholpajdkjbbaa.DK
open Go.Proofs.Ytfholpajdkjbbaa.PD
open Go.RowKit Go.Proofs.YtfholpajdkjbbaaW.PrintWords Go.Proofs.YtfholpajdkjbbaaW.PrintLast Go.Proofs.YtfholpajdkjbbaaW.PrintMore Go.Proofs.Ytfholpajdkjbbaa.Mo
set_option linter.unusedVariables false
set_option linter.unusedSimpArgs false
theorem tChanges_calls (w : World) (A : Option Addr) (c : Nat) (l : List S67) (hr : k67.C w A l.length l) (hc : l.length ≤ c) (hl : l.length ≤ 1048576) (hb : bulkF l ≤ 1048576) (hd : ∀ x ∈ l, -9223372036854775808 ≤ x.f2 ∧ x.f2 ≤ 9223372036854775807)
    (A1 : Option Addr) (c1 : Nat) (ops : List S41) (hr1 : k41.C w A1 ops.length ops) (hc1 : ops.length ≤ c1) (hl1 : ops.length ≤ 1048576) (hb1 : bulkO ops ≤ 1048576) (hg : ∀ o ∈ ops, GoodK o) :
    Calls Try.prog 5 #[.slice A l.length c, .slice A1 ops.length c1] w fun e w' => e = .returned (.bool true) ∧ Below w.heap.size w w' := by
  have HU := Aside0.mk (upTo_calls w A c l A1 c1 ops 1 4 hr hc hr1 hc1 (by omega) (by omega) (by omega) (by omega) hd hg)
  clear hr hr1 hd hg
  go_enter Try.func5, Try.ntmps5
  go_wp2_with fail
  refine HU.out.mono ?_
  rintro e w1 ⟨rfl, hbl⟩
  have HBL := Aside0.mk hbl
  clear hbl
  go_wp2
  go_ret
  exact ⟨rfl, by repeat (with_reducible first | exact HBL.out | apply below_drew | apply pw_below_drewN)⟩
theorem tReads_calls (w : World) (A : Option Addr) (c : Nat) (l : List S67) (hr : k67.C w A l.length l) (hc : l.length ≤ c) (hl : l.length ≤ 1048576) (hb : bulkF l ≤ 1048576) (hd : ∀ x ∈ l, -9223372036854775808 ≤ x.f2 ∧ x.f2 ≤ 9223372036854775807)
    (A1 : Option Addr) (c1 : Nat) (ops : List S41) (hr1 : k41.C w A1 ops.length ops) (hc1 : ops.length ≤ c1) (hl1 : ops.length ≤ 1048576) (hb1 : bulkO ops ≤ 1048576) (hg : ∀ o ∈ ops, GoodK o) :
    Calls Try.prog 6 #[.slice A l.length c, .slice A1 ops.length c1] w fun e w' => e = .returned (.bool true) ∧ Below w.heap.size w w' := by
  have HU := Aside0.mk (upTo_calls w A c l A1 c1 ops 5 6 hr hc hr1 hc1 (by omega) (by omega) (by omega) (by omega) hd hg)
  clear hr hr1 hd hg
  go_enter Try.func6, Try.ntmps6
  go_wp2_with fail
  refine HU.out.mono ?_
  rintro e w1 ⟨rfl, hbl⟩
  have HBL := Aside0.mk hbl
  clear hbl
  go_wp2
  go_ret
  exact ⟨rfl, by repeat (with_reducible first | exact HBL.out | apply below_drew | apply pw_below_drewN)⟩
theorem tSpoils_calls (w : World) (A : Option Addr) (c : Nat) (l : List S67) (hr : k67.C w A l.length l) (hc : l.length ≤ c) (hl : l.length ≤ 1048576) (hb : bulkF l ≤ 1048576) (hd : ∀ x ∈ l, -9223372036854775808 ≤ x.f2 ∧ x.f2 ≤ 9223372036854775807)
    (A1 : Option Addr) (c1 : Nat) (ops : List S41) (hr1 : k41.C w A1 ops.length ops) (hc1 : ops.length ≤ c1) (hl1 : ops.length ≤ 1048576) (hb1 : bulkO ops ≤ 1048576) (hg : ∀ o ∈ ops, GoodK o) :
    Calls Try.prog 7 #[.slice A l.length c, .slice A1 ops.length c1] w fun e w' => e = .returned (.bool true) ∧ Below w.heap.size w w' := by
  have HU := Aside0.mk (upTo_calls w A c l A1 c1 ops 11 11 hr hc hr1 hc1 (by omega) (by omega) (by omega) (by omega) hd hg)
  clear hr hr1 hd hg
  go_enter Try.func7, Try.ntmps7
  go_wp2_with fail
  refine HU.out.mono ?_
  rintro e w1 ⟨rfl, hbl⟩
  have HBL := Aside0.mk hbl
  clear hbl
  go_wp2
  go_ret
  exact ⟨rfl, by repeat (with_reducible first | exact HBL.out | apply below_drew | apply pw_below_drewN)⟩
theorem tLies_calls (w : World) (A : Option Addr) (c : Nat) (l : List S67) (hr : k67.C w A l.length l) (hc : l.length ≤ c) (hl : l.length ≤ 1048576) (hb : bulkF l ≤ 1048576) (hd : ∀ x ∈ l, -9223372036854775808 ≤ x.f2 ∧ x.f2 ≤ 9223372036854775807)
    (A1 : Option Addr) (c1 : Nat) (ops : List S41) (hr1 : k41.C w A1 ops.length ops) (hc1 : ops.length ≤ c1) (hl1 : ops.length ≤ 1048576) (hb1 : bulkO ops ≤ 1048576) (hg : ∀ o ∈ ops, GoodK o) :
    Calls Try.prog 8 #[.slice A l.length c, .slice A1 ops.length c1] w fun e w' => e = .returned (.bool true) ∧ Below w.heap.size w w' := by
  have HU := Aside0.mk (upTo_calls w A c l A1 c1 ops 12 12 hr hc hr1 hc1 (by omega) (by omega) (by omega) (by omega) hd hg)
  clear hr hr1 hd hg
  go_enter Try.func8, Try.ntmps8
  go_wp2_with fail
  refine HU.out.mono ?_
  rintro e w1 ⟨rfl, hbl⟩
  have HBL := Aside0.mk hbl
  clear hbl
  go_wp2
  go_ret
  exact ⟨rfl, by repeat (with_reducible first | exact HBL.out | apply below_drew | apply pw_below_drewN)⟩
theorem tPlays_calls (w : World) (A : Option Addr) (c : Nat) (l : List S67) (hr : k67.C w A l.length l) (hc : l.length ≤ c) (hl : l.length ≤ 1048576) (hb : bulkF l ≤ 1048576) (hd : ∀ x ∈ l, -9223372036854775808 ≤ x.f2 ∧ x.f2 ≤ 9223372036854775807)
    (A1 : Option Addr) (c1 : Nat) (ops : List S41) (hr1 : k41.C w A1 ops.length ops) (hc1 : ops.length ≤ c1) (hl1 : ops.length ≤ 1048576) (hb1 : bulkO ops ≤ 1048576) (hg : ∀ o ∈ ops, GoodK o) :
    Calls Try.prog 9 #[.slice A l.length c, .slice A1 ops.length c1] w fun e w' => e = .returned (.bool true) ∧ Below w.heap.size w w' := by
  have HU := Aside0.mk (upTo_calls w A c l A1 c1 ops 1 12 hr hc hr1 hc1 (by omega) (by omega) (by omega) (by omega) hd hg)
  clear hr hr1 hd hg
  go_enter Try.func9, Try.ntmps9
  go_wp2_with fail
  refine HU.out.mono ?_
  rintro e w1 ⟨rfl, hbl⟩
  have HBL := Aside0.mk hbl
  clear hbl
  go_wp2
  go_ret
  exact ⟨rfl, by repeat (with_reducible first | exact HBL.out | apply below_drew | apply pw_below_drewN)⟩
end Go.Proofs.Ytfholpajdkjbbaa.DK
