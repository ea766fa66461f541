/- A disk without rigs beside one that is armed; conditions: those in each theorem. (Plain Lean.) -/
import Derived.Test.YtfholpajdkjbbaaQdOb
namespace Go.Proofs.Ytfholpajdkjbbaa.Mo
open Go.Proofs.Ytfholpajdkjbbaa.PD
set_option linter.unusedVariables false
/-- No rigs, and up. -/
structure NoRig (t : St) : Prop where
  l : t.left = -1
  f : t.fails = 0
  d : t.down = false
def St.withL (t : St) (L : Int) : St := { t with left := L }
theorem NoRig.ahead {t : St} (h : NoRig t) {nm : ByteArray} (hn : isName nm = true) : t.ahead nm true = (t, 0) := by
  unfold St.ahead
  rw [if_neg (by rw [hn]; decide), if_neg (by rw [h.d]; decide), if_pos (.inr h.f)]
theorem NoRig.aheadL {t : St} (h : NoRig t) {nm : ByteArray} (hn : isName nm = true) (L : Int) : (t.withL L).ahead nm true = (t.withL L, 0) := by
  unfold St.ahead
  rw [if_neg (by rw [hn]; decide), if_neg (by show ¬ t.down = true; rw [h.d]; decide), if_pos (.inr h.f)]
theorem ahead_bad {t : St} {nm : ByteArray} (hn : isName nm = false) (ch : Bool) : t.ahead nm ch = (t, 102) := by
  unfold St.ahead
  rw [if_pos hn]
theorem NoRig.pays {t : St} (h : NoRig t) (c : Int) : t.pays c = (t, true) := by
  unfold St.pays
  rw [if_pos (by rw [h.l]; decide)]
theorem paysL {t : St} {L c : Int} (h0 : 0 ≤ L) : (t.withL L).pays c = if c ≤ L then (t.withL (L - c), true) else (t.withL L, false) := by
  unfold St.pays
  rw [if_neg (by show ¬ L < 0; omega)]
  rfl
theorem lay_withL (t : St) (L : Int) (nm : ByteArray) (d : List Int) : (t.withL L).lay nm d = (t.lay nm d).withL L := by
  unfold St.lay St.withL
  show (match find t.all nm with | none => _ | some _ => _) = _
  cases find t.all nm <;> rfl
theorem lay_norig {t : St} (h : NoRig t) (nm : ByteArray) (d : List Int) : NoRig (t.lay nm d) := by
  unfold St.lay
  cases find t.all nm <;> exact ⟨h.l, h.f, h.d⟩
theorem name_of {nm : ByteArray} {r : St × Int} {t : St} (hr : (t.ahead nm true).2 ≠ 0 → r = t.ahead nm true) (hz : r.2 = 0) : isName nm = true := by
  cases hn : isName nm with
  | true => rfl
  | false =>
    have h := ahead_bad (t := t) hn true
    rw [hr (by rw [h]; exact (by decide : (102 : Int) ≠ 0)), h] at hz
    cases hz
theorem append_ok {t : St} (h : NoRig t) {nm : ByteArray} {d : List Int} (hz : (t.append nm d).2 = 0) : isName nm = true ∧ t.full nm d = false ∧ t.append nm d = (t.lay nm d, 0) := by
  have hn : isName nm = true := name_of (t := t) (fun h2 => by unfold St.append; rw [if_pos h2]) hz
  have ha := h.ahead hn
  unfold St.append at hz ⊢
  rw [ha] at hz ⊢
  rw [if_neg (fun h => h rfl)] at hz ⊢
  cases hf : t.full nm d with
  | true => rw [hf] at hz; cases hz
  | false =>
    refine ⟨hn, rfl, ?_⟩
    rw [if_neg (by decide), h.pays, if_pos rfl]
theorem append_go {t : St} (h : NoRig t) {nm : ByteArray} {d : List Int} (hn : isName nm = true) (hf : t.full nm d = false) : t.append nm d = (t.lay nm d, 0) := by
  unfold St.append
  rw [h.ahead hn, if_neg (fun h => h rfl), hf, if_neg (by decide), h.pays, if_pos rfl]
theorem append_armed {t : St} (h : NoRig t) {nm : ByteArray} {d : List Int} (hn : isName nm = true) (hf : t.full nm d = false) {L : Int} (h0 : 0 ≤ L) :
    (t.withL L).append nm d = if (d.length : Int) + 1 ≤ L then ((t.lay nm d).withL (L - (d.length + 1)), 0) else (((t.lay nm (d.take L.toNat)).withL L).fall, 100) := by
  unfold St.append
  rw [h.aheadL hn, if_neg (fun h => h rfl), show (t.withL L).full nm d = false from hf, if_neg (by decide)]
  dsimp only
  rw [paysL h0]
  by_cases hc : (d.length : Int) + 1 ≤ L
  · rw [if_pos hc, if_pos rfl, if_pos hc, lay_withL]
  · rw [if_neg hc, if_neg (fun h : false = true => by cases h), if_neg hc, lay_withL]
    rfl
theorem change_ok {t : St} (h : NoRig t) {nm : ByteArray} {g : List F → List F} (hz : (t.change nm g).2 = 0) : isName nm = true ∧ (∃ f, find t.all nm = some f) ∧ t.change nm g = ({ t with all := g t.all }, 0) := by
  have hn : isName nm = true := name_of (t := t) (fun h2 => change_err h2) hz
  have ha := h.ahead hn
  cases hf : find t.all nm with
  | none => rw [change_none (by rw [ha]) hf] at hz; cases hz
  | some f =>
    refine ⟨hn, ⟨f, rfl⟩, ?_⟩
    rw [change_go (f := f) (by rw [ha]) hf (by rw [ha, h.pays]), ha, h.pays]
theorem change_armed {t : St} (h : NoRig t) {nm : ByteArray} {g : List F → List F} (hn : isName nm = true) {f : F} (hf : find t.all nm = some f) {L : Int} (h0 : 0 ≤ L) :
    (t.withL L).change nm g = if 1 ≤ L then (({ t with all := g t.all } : St).withL (L - 1), 0) else ((t.withL L).fall, 100) := by
  have ha := h.aheadL hn L
  have hf' : find (t.withL L).all nm = some f := hf
  by_cases hc : 1 ≤ L
  · rw [if_pos hc, change_go (f := f) (by rw [ha]) hf' (by rw [ha, paysL h0, if_pos hc]), ha, paysL h0, if_pos hc]
    rfl
  · rw [if_neg hc, change_fall (f := f) (by rw [ha]) hf' (by rw [ha, paysL h0, if_neg hc]; exact fun h : false = true => by cases h), ha]
/-- A changing call that is none of Append. -/
theorem op_change {o : S41} (hk : 1 ≤ o.f0) (hk4 : o.f0 ≤ 4) (h1 : o.f0 ≠ 1) : ∃ g : List F → List F, ∀ t : St, t.op o = t.change o.f2 g := by
  have : o.f0 = 2 ∨ o.f0 = 3 ∨ o.f0 = 4 := by omega
  rcases this with e | e | e
  · exact ⟨_, fun t => by unfold St.op; rw [if_neg (by omega), if_pos e]; rfl⟩
  · exact ⟨_, fun t => by unfold St.op; rw [if_neg (by omega), if_neg (by omega), if_pos e]; rfl⟩
  · exact ⟨_, fun t => by unfold St.op; rw [if_neg (by omega), if_neg (by omega), if_neg (by omega), if_pos e]; rfl⟩
theorem op_append {o : S41} (h1 : o.f0 = 1) (t : St) : t.op o = t.append o.f2 o.f5 := by unfold St.op; rw [if_pos h1]
def costO (o : S41) : Int := if o.f0 = 1 then (o.f5.length : Int) + 1 else 1
/-- What a call leaves that falls behind L units. -/
def part_ (t : St) (o : S41) (L : Int) : St := if o.f0 = 1 then t.lay o.f2 (o.f5.take L.toNat) else t
theorem op_norig {t : St} (h : NoRig t) {o : S41} (hk : 1 ≤ o.f0) (hk4 : o.f0 ≤ 4) (hz : (t.op o).2 = 0) : NoRig (t.op o).1 := by
  by_cases h1 : o.f0 = 1
  · rw [op_append h1] at hz ⊢
    rw [(append_ok h hz).2.2]
    exact lay_norig h _ _
  · obtain ⟨g, hg⟩ := op_change hk hk4 h1
    rw [hg] at hz ⊢
    rw [(change_ok h hz).2.2]
    exact ⟨h.l, h.f, h.d⟩
theorem op_go {t : St} (h : NoRig t) {o : S41} (hk : 1 ≤ o.f0) (hk4 : o.f0 ≤ 4) (hz : (t.op o).2 = 0) {L : Int} (h0 : 0 ≤ L) (hc : costO o ≤ L) : (t.withL L).op o = (((t.op o).1).withL (L - costO o), 0) := by
  by_cases h1 : o.f0 = 1
  · rw [op_append h1] at hz ⊢
    obtain ⟨a, b, c⟩ := append_ok h hz
    unfold costO at hc ⊢
    rw [if_pos h1] at hc ⊢
    rw [op_append h1, append_armed h a b h0, if_pos hc, c]
  · obtain ⟨g, hg⟩ := op_change hk hk4 h1
    rw [hg] at hz ⊢
    obtain ⟨a, ⟨f, b⟩, c⟩ := change_ok h hz
    unfold costO at hc ⊢
    rw [if_neg h1] at hc ⊢
    rw [hg, change_armed h a b h0, if_pos hc, c]
theorem op_fall {t : St} (h : NoRig t) {o : S41} (hk : 1 ≤ o.f0) (hk4 : o.f0 ≤ 4) (hz : (t.op o).2 = 0) {L : Int} (h0 : 0 ≤ L) (hc : ¬ costO o ≤ L) : (t.withL L).op o = (((part_ t o L).withL L).fall, 100) := by
  unfold part_
  by_cases h1 : o.f0 = 1
  · rw [op_append h1] at hz ⊢
    obtain ⟨a, b, c⟩ := append_ok h hz
    unfold costO at hc
    rw [if_pos h1] at hc
    rw [append_armed h a b h0, if_neg hc, if_pos h1]
  · obtain ⟨g, hg⟩ := op_change hk hk4 h1
    rw [hg] at hz ⊢
    obtain ⟨a, ⟨f, b⟩, c⟩ := change_ok h hz
    unfold costO at hc
    rw [if_neg h1] at hc
    rw [change_armed h a b h0, if_neg hc, if_neg h1]
theorem full_less {t : St} {nm : ByteArray} {d e : List Int} (hf : t.full nm d = false) (hl : e.length ≤ d.length) : t.full nm e = false := by
  unfold St.full at hf ⊢
  cases hq : find t.all nm with
  | none =>
    rw [hq] at hf
    simp only [Bool.or_eq_false_iff, decide_eq_false_iff_not] at hf ⊢
    exact ⟨by omega, hf.2⟩
  | some f =>
    rw [hq] at hf
    simp only [decide_eq_false_iff_not] at hf ⊢
    omega
/-- The first bytes of what goes on go on, too. -/
theorem op_part {t : St} (h : NoRig t) {o : S41} (h1 : o.f0 = 1) (hz : (t.op o).2 = 0) (L : Int) : t.append o.f2 (o.f5.take L.toNat) = (part_ t o L, 0) := by
  rw [op_append h1] at hz
  obtain ⟨a, b, c⟩ := append_ok h hz
  unfold part_
  rw [if_pos h1]
  exact append_go h a (full_less b (by rw [List.length_take]; omega))
theorem op_down {s : St} (hd : s.down = true) {o : S41} (hk : 1 ≤ o.f0) (hk4 : o.f0 ≤ 4) (hn : isName o.f2 = true) : s.op o = (s, 100) := by
  have ha : s.ahead o.f2 true = (s, 100) := by
    unfold St.ahead
    rw [if_neg (by rw [hn]; decide), if_pos hd]
  by_cases h1 : o.f0 = 1
  · rw [op_append h1]
    unfold St.append
    rw [ha, if_pos ((by decide : (100 : Int) ≠ 0))]
  · obtain ⟨g, hg⟩ := op_change hk hk4 h1
    rw [hg, change_err (by rw [ha]; exact (by decide : (100 : Int) ≠ 0)), ha]
theorem op_name {t : St} (h : NoRig t) {o : S41} (hk : 1 ≤ o.f0) (hk4 : o.f0 ≤ 4) (hz : (t.op o).2 = 0) : isName o.f2 = true := by
  by_cases h1 : o.f0 = 1
  · rw [op_append h1] at hz
    exact (append_ok h hz).1
  · obtain ⟨g, hg⟩ := op_change hk hk4 h1
    rw [hg] at hz
    exact (change_ok h hz).1
theorem part_all (t : St) (o : S41) (L : Int) : ((part_ t o L).withL L).fall.all = (part_ t o L).all := rfl
end Go.Proofs.Ytfholpajdkjbbaa.Mo
