/- A disk with a Fail rig beside one without; conditions: those in each theorem. (Plain Lean.) -/
import Derived.Test.YtfholpajdkjbbaaQdOc
namespace Go.Proofs.Ytfholpajdkjbbaa.Mo
open Go.Proofs.Ytfholpajdkjbbaa.PD
set_option linter.unusedVariables false
def St.withR (t : St) (r : Int × Int) : St := { t with after := r.1, fails := r.2 }
/-- The rig behind k calls that count, of Fail(A, N). -/
def rig (A N : Int) (k : Nat) : Int × Int :=
  if N = 0 then (0, 0) else if (k : Int) ≤ A then (A - k, N) else if (k : Int) < A + N then (0, N - (k - A)) else (0, 0)
theorem lay_withR (t : St) (r : Int × Int) (nm : ByteArray) (d : List Int) : (t.withR r).lay nm d = (t.lay nm d).withR r := by
  unfold St.lay St.withR
  show (match find t.all nm with | none => _ | some _ => _) = _
  cases find t.all nm <;> rfl
theorem pays_withR {t : St} (h : NoRig t) (r : Int × Int) (c : Int) : (t.withR r).pays c = (t.withR r, true) := by
  unfold St.pays
  rw [if_pos (show (t.withR r).left < 0 from (by rw [h.l]; decide : t.left < 0))]
theorem append_eq {s s' : St} {nm : ByteArray} {d : List Int} (ha : s.ahead nm true = (s', 0)) (hp : ∀ c, s'.pays c = (s', true)) : s.append nm d = if s.full nm d = true then (s', 104) else (s'.lay nm d, 0) := by
  unfold St.append
  rw [ha, if_neg (show ¬ ((0 : Int)) ≠ 0 by decide)]
  dsimp only
  rw [hp, if_pos rfl]
/-- Where both may go on, both do the same. -/
theorem op_both {t s : St} (h : NoRig t) {o : S41} (hk : 1 ≤ o.f0) (hk4 : o.f0 ≤ 4) (hn : isName o.f2 = true) {r : Int × Int} (hs : s.ahead o.f2 true = (t.withR r, 0)) (hall : s.all = t.all) : s.op o = (((t.op o).1).withR r, (t.op o).2) := by
  have ha := h.ahead hn
  by_cases h1 : o.f0 = 1
  · rw [op_append h1, op_append h1]
    rw [append_eq hs (pays_withR h r), append_eq ha h.pays, full_all hall]
    by_cases hf : t.full o.f2 o.f5 = true
    · rw [if_pos hf, if_pos hf]
    · rw [if_neg hf, if_neg hf, lay_withR]
  · obtain ⟨g, hg⟩ := op_change hk hk4 h1
    rw [hg, hg]
    cases hf : find t.all o.f2 with
    | none => rw [change_none (by rw [hs]) (by rw [hall]; exact hf), change_none (by rw [ha]) hf, hs, ha]
    | some f =>
      rw [change_go (f := f) (by rw [hs]) (by rw [hall]; exact hf) (by rw [hs, pays_withR h]), change_go (f := f) (by rw [ha]) hf (by rw [ha, h.pays]), hs, ha, pays_withR h, h.pays]
      rfl
theorem norig_op {t : St} (h : NoRig t) {o : S41} (hk : 1 ≤ o.f0) (hk4 : o.f0 ≤ 4) : NoRig (t.op o).1 := by
  cases hn : isName o.f2 with
  | false =>
    have ha := ahead_bad (t := t) hn true
    by_cases h1 : o.f0 = 1
    · rw [op_append h1]
      unfold St.append
      rw [ha, if_pos (show ((102 : Int)) ≠ 0 by decide)]
      exact h
    · obtain ⟨g, hg⟩ := op_change hk hk4 h1
      rw [hg, change_err (by rw [ha]; exact (by decide : (102 : Int) ≠ 0)), ha]
      exact h
  | true =>
    have ha := h.ahead hn
    by_cases h1 : o.f0 = 1
    · rw [op_append h1]
      rw [append_eq ha h.pays]
      by_cases hf : t.full o.f2 o.f5 = true
      · rw [if_pos hf]; exact h
      · rw [if_neg hf]; exact lay_norig h _ _
    · obtain ⟨g, hg⟩ := op_change hk hk4 h1
      rw [hg]
      cases hf : find t.all o.f2 with
      | none => rw [change_none (by rw [ha]) hf, ha]; exact h
      | some f =>
        rw [change_go (f := f) (by rw [ha]) hf (by rw [ha, h.pays]), ha, h.pays]
        exact ⟨h.l, h.f, h.d⟩
theorem op_bad {t : St} {o : S41} (hk : 1 ≤ o.f0) (hk4 : o.f0 ≤ 4) (hn : isName o.f2 = false) : t.op o = (t, 102) := by
  have ha := ahead_bad (t := t) hn true
  by_cases h1 : o.f0 = 1
  · rw [op_append h1]
    unfold St.append
    rw [ha, if_pos (show ((102 : Int)) ≠ 0 by decide)]
  · obtain ⟨g, hg⟩ := op_change hk hk4 h1
    rw [hg, change_err (by rw [ha]; exact (by decide : (102 : Int) ≠ 0)), ha]
theorem op_read {t : St} {o : S41} (h5 : o.f0 = 5) : t.op o = (t, (t.read o.f2).2) := by
  unfold St.op
  rw [if_neg (by omega), if_neg (by omega), if_neg (by omega), if_neg (by omega), if_pos h5]
theorem read_withR (t : St) (r : Int × Int) (nm : ByteArray) : (t.withR r).read nm = t.read nm := by
  have e : ((t.withR r).ahead nm false).2 = (t.ahead nm false).2 := by
    unfold St.ahead
    show (if isName nm = false then _ else if t.down = true then _ else _ : St × Int).2 = _
    by_cases h1 : isName nm = false
    · rw [if_pos h1, if_pos h1]
    · rw [if_neg h1, if_neg h1]
      by_cases h2 : t.down = true
      · rw [if_pos h2, if_pos h2]
      · rw [if_neg h2, if_neg h2, if_pos (.inl rfl), if_pos (.inl rfl)]
  unfold St.read
  rw [e]
  rfl
theorem ahead_withR {t : St} (h : NoRig t) {nm : ByteArray} (hn : isName nm = true) (r : Int × Int) :
    (t.withR r).ahead nm true = if r.2 = 0 then (t.withR r, 0) else if r.1 = 0 then (t.withR (r.1, r.2 - 1), 101) else (t.withR (r.1 - 1, r.2), 0) := by
  unfold St.ahead
  rw [if_neg (by rw [hn]; decide), if_neg (show ¬ (t.withR r).down = true from (by rw [h.d]; decide : ¬ t.down = true))]
  by_cases h1 : r.2 = 0
  · rw [if_pos h1, if_pos (.inr h1)]
  · rw [if_neg h1, if_neg (fun hh => hh.elim (fun h => nomatch h) h1)]
    by_cases h2 : r.1 = 0
    · rw [if_pos h2, if_pos (show (t.withR r).after = 0 from h2)]
      rfl
    · rw [if_neg h2, if_neg (show ¬ (t.withR r).after = 0 from h2)]
      rfl
/-- What a call that counts does to the rig. -/
theorem ahead_rig {t : St} (h : NoRig t) {nm : ByteArray} (hn : isName nm = true) {A N : Int} (hA : 0 ≤ A) (hN : 0 ≤ N) (h0 : N = 0 → A = 0) (k : Nat) :
    (t.withR (rig A N k)).ahead nm true = (t.withR (rig A N (k + 1)), if A < (k : Int) + 1 ∧ (k : Int) + 1 - A ≤ N then 101 else 0) := by
  rw [ahead_withR h hn]
  have hk1 : ((k + 1 : Nat) : Int) = (k : Int) + 1 := by omega
  unfold rig
  rw [hk1]
  generalize (k : Int) = q at *
  by_cases hN0 : N = 0
  · rw [if_pos hN0, if_pos hN0, if_pos rfl, if_neg (by omega)]
  · rw [if_neg hN0, if_neg hN0]
    by_cases h1 : q ≤ A
    · rw [if_pos h1, if_neg hN0]
      by_cases h2 : A = q
      · rw [if_pos (show A - q = 0 by omega), if_neg (show ¬ q + 1 ≤ A by omega), if_pos (show A < q + 1 ∧ q + 1 - A ≤ N by omega)]
        by_cases h3 : q + 1 < A + N
        · rw [if_pos h3, show ((A - q, N).1, (A - q, N).2 - 1) = ((0 : Int), N - (q + 1 - A)) from Prod.ext (show A - q = 0 by omega) (show N - 1 = N - (q + 1 - A) by omega)]
        · rw [if_neg h3, show ((A - q, N).1, (A - q, N).2 - 1) = ((0 : Int), (0 : Int)) from Prod.ext (show A - q = 0 by omega) (show N - 1 = 0 by omega)]
      · rw [if_neg (show ¬ A - q = 0 by omega), if_pos (show q + 1 ≤ A by omega), if_neg (show ¬ (A < q + 1 ∧ q + 1 - A ≤ N) by omega), show ((A - q, N).1 - 1, (A - q, N).2) = (A - (q + 1), N) from Prod.ext (show A - q - 1 = A - (q + 1) by omega) rfl]
    · rw [if_neg h1, if_neg (show ¬ q + 1 ≤ A by omega)]
      by_cases h2 : q < A + N
      · rw [if_pos h2, if_neg (show ¬ N - (q - A) = 0 by omega), if_pos rfl, if_pos (show A < q + 1 ∧ q + 1 - A ≤ N by omega)]
        by_cases h3 : q + 1 < A + N
        · rw [if_pos h3, show (((0 : Int), N - (q - A)).1, ((0 : Int), N - (q - A)).2 - 1) = ((0 : Int), N - (q + 1 - A)) from Prod.ext rfl (show N - (q - A) - 1 = N - (q + 1 - A) by omega)]
        · rw [if_neg h3, show (((0 : Int), N - (q - A)).1, ((0 : Int), N - (q - A)).2 - 1) = ((0 : Int), (0 : Int)) from Prod.ext rfl (show N - (q - A) - 1 = 0 by omega)]
      · rw [if_neg h2, if_pos rfl, if_neg (show ¬ q + 1 < A + N by omega), if_neg (by omega)]
theorem rig_window {t : St} (h : NoRig t) {o : S41} (hk : 1 ≤ o.f0) (hk4 : o.f0 ≤ 4) (hn : isName o.f2 = true) {A N : Int} (hA : 0 ≤ A) (hN : 0 ≤ N) (h0 : N = 0 → A = 0) (k : Nat) (hw : A < (k : Int) + 1 ∧ (k : Int) + 1 - A ≤ N) :
    (t.withR (rig A N k)).op o = (t.withR (rig A N (k + 1)), 101) := by
  have ha := ahead_rig h hn hA hN h0 k
  rw [if_pos hw] at ha
  by_cases h1 : o.f0 = 1
  · rw [op_append h1]
    unfold St.append
    rw [ha, if_pos (show ((101 : Int)) ≠ 0 by decide)]
  · obtain ⟨g, hg⟩ := op_change hk hk4 h1
    rw [hg, change_err (by rw [ha]; exact (by decide : (101 : Int) ≠ 0)), ha]
theorem rig_past {t : St} (h : NoRig t) {o : S41} (hk : 1 ≤ o.f0) (hk4 : o.f0 ≤ 4) (hn : isName o.f2 = true) {A N : Int} (hA : 0 ≤ A) (hN : 0 ≤ N) (h0 : N = 0 → A = 0) (k : Nat) (hw : ¬ (A < (k : Int) + 1 ∧ (k : Int) + 1 - A ≤ N)) :
    (t.withR (rig A N k)).op o = (((t.op o).1).withR (rig A N (k + 1)), (t.op o).2) := by
  have ha := ahead_rig h hn hA hN h0 k
  rw [if_neg hw] at ha
  exact op_both h hk hk4 hn ha rfl
theorem new_norig {fs : List (ByteArray × List Int × Int)} {s : St} (h : St.new fs = some s) : NoRig s := by
  unfold St.new at h
  split at h
  · cases h
  · cases hg : newGo fs [] with
    | none => rw [hg] at h; cases h
    | some l =>
      rw [hg] at h
      obtain rfl := Option.some.inj h
      exact ⟨rfl, rfl, rfl⟩
theorem fail_rig {s : St} (h : NoRig s) (a n : Int) : s.fail a n = if 0 ≤ a ∧ 0 < n then s.withR (rig a n 0) else s.withR (rig 0 0 0) := by
  unfold St.fail
  rw [if_neg (by rw [h.d]; decide)]
  by_cases hc : 0 ≤ a ∧ 0 < n
  · rw [if_pos hc, if_pos hc]
    unfold rig St.withR
    rw [if_neg (by omega), if_pos (by simpa using hc.1)]
    simp only
    congr 1
    omega
  · rw [if_neg hc, if_neg hc]
    rfl
end Go.Proofs.Ytfholpajdkjbbaa.Mo
