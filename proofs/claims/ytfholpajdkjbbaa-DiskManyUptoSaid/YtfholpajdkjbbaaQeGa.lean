/- Parts Mo, Mp, Vo, Vp, Vq, Pn, P1, P2, P3, P4 of this work, in one text. -/
import GoSem.Op.String
import Derived.Test.YtfholpajdkjbbaaQePDx0
import Derived.Test.YtfholpajdkjbbaaQePDx1
import Derived.Test.YtfholpajdkjbbaaQePDx2
import Derived.Test.YtfholpajdkjbbaaQePDx3
import Derived.Test.YtfholpajdkjbbaaQePDx10
import Derived.WalkSpells
/- The disk as a list of files in their order: what each call makes of it and answers; plain lists and numbers, no program. -/
namespace Go.Proofs.Ytfholpajdkjbbaa.Mo
/-- A file: its name, the bytes that are sure, those that are not. -/
structure F where
  name : ByteArray
  sure : List Int
  loose : List Int
/-- A disk: its files, is it down, the units that are left (-1: no rig), the calls that go on, those that fail behind them. -/
structure St where
  all : List F
  down : Bool
  left : Int
  after : Int
  fails : Int
def okByte (c : UInt8) : Bool := (97 ≤ c && c ≤ 122) || (48 ≤ c && c ≤ 57) || c == 45
def isName (s : ByteArray) : Bool := decide (1 ≤ s.size) && decide (s.size ≤ 12) && s.data.toList.all okByte
def lt (a b : ByteArray) : Bool := decide (a.data.toList < b.data.toList)
def put (f : F) : List F → List F
  | [] => [f]
  | g :: l => if lt f.name g.name = true then f :: g :: l else g :: put f l
def find (l : List F) (nm : ByteArray) : Option F := l.find? fun f => decide (f.name = nm)
def upd (nm : ByteArray) (g : F → F) (l : List F) : List F := l.map fun f => if f.name = nm then g f else f
def F.len (f : F) : Nat := f.sure.length + f.loose.length
def F.data (f : F) : List Int := f.sure ++ f.loose
namespace St
def ahead (s : St) (nm : ByteArray) (ch : Bool) : St × Int :=
  if isName nm = false then (s, 102)
  else if s.down = true then (s, 100)
  else if ch = false ∨ s.fails = 0 then (s, 0)
  else if s.after = 0 then ({ s with fails := s.fails - 1 }, 101)
  else ({ s with after := s.after - 1 }, 0)
def fall (s : St) : St := { s with down := true, left := -1, after := 0, fails := 0 }
def pays (s : St) (cost : Int) : St × Bool :=
  if s.left < 0 then (s, true) else if cost ≤ s.left then ({ s with left := s.left - cost }, true) else (s, false)
/-- n bytes of data come to the file of this name, which may be new. -/
def lay (s : St) (nm : ByteArray) (data : List Int) : St :=
  match find s.all nm with
  | none => { s with all := put ⟨nm, [], data⟩ s.all }
  | some _ => { s with all := upd nm (fun f => { f with loose := f.loose ++ data }) s.all }
/-- There is no room for them. -/
def full (s : St) (nm : ByteArray) (data : List Int) : Bool :=
  match find s.all nm with
  | none => decide (65536 < data.length) || decide (400 ≤ s.all.length)
  | some f => decide (65536 < f.len + data.length)
def append (s : St) (nm : ByteArray) (data : List Int) : St × Int :=
  if (s.ahead nm true).2 ≠ 0 then s.ahead nm true
  else if s.full nm data = true then ((s.ahead nm true).1, 104)
  else if ((s.ahead nm true).1.pays (data.length + 1)).2 = true then ((((s.ahead nm true).1.pays (data.length + 1)).1).lay nm data, 0)
  else ((((s.ahead nm true).1).lay nm (data.take (s.ahead nm true).1.left.toNat)).fall, 100)
/-- The checks of Sync, Trim and Remove. -/
def there (s : St) (nm : ByteArray) : St × Int :=
  if (s.ahead nm true).2 ≠ 0 then s.ahead nm true
  else if (find s.all nm).isNone = true then ((s.ahead nm true).1, 103)
  else if ((s.ahead nm true).1.pays 1).2 = true then (((s.ahead nm true).1.pays 1).1, 0)
  else ((s.ahead nm true).1.fall, 100)
def change (s : St) (nm : ByteArray) (g : List F → List F) : St × Int :=
  if (s.there nm).2 ≠ 0 then s.there nm else ({ (s.there nm).1 with all := g (s.there nm).1.all }, 0)
def sync (s : St) (nm : ByteArray) : St × Int := s.change nm (upd nm fun f => { f with sure := f.sure ++ f.loose, loose := [] })
def trim (s : St) (nm : ByteArray) (size : Int) : St × Int :=
  s.change nm (upd nm fun f => { f with sure := f.sure.take size.toNat, loose := f.loose.take (size.toNat - f.sure.length) })
def remove (s : St) (nm : ByteArray) : St × Int := s.change nm (List.filter fun f => decide (f.name ≠ nm))
def read (s : St) (nm : ByteArray) : List Int × Int :=
  if (s.ahead nm false).2 ≠ 0 then ([], (s.ahead nm false).2)
  else match find s.all nm with
    | none => ([], 103)
    | some f => (f.data, 0)
def list (s : St) : List ByteArray × Int := if s.down = true then ([], 100) else (s.all.map (·.name), 0)
def arm (s : St) (units : Int) : St := if s.down = true then s else { s with left := max units (-1) }
def fail (s : St) (after calls : Int) : St :=
  if s.down = true then s else if 0 ≤ after ∧ 0 < calls then { s with after := after, fails := calls } else { s with after := 0, fails := 0 }
/-- How many unsure bytes of file i survive. -/
def keepOf (keep : List Int) (i : Nat) : Int := if keep.length = 0 then 0 else max (keep.getD (i % keep.length) 0) 0
def F.kept (f : F) (k : Int) : F := { f with sure := f.sure ++ f.loose.take k.toNat, loose := [] }
def restart (s : St) (keep : List Int) : St := { s.fall with all := s.all.mapIdx fun i f => F.kept f (keepOf keep i), down := false }
/-- A byte with some bits turned. -/
def bx (x y : Int) : Int := IntKind.u8.wrap (BitVec.ofInt 8 x ^^^ BitVec.ofInt 8 y).toNat
def F.spoilt (f : F) (at_ : Nat) (b : Int) : F :=
  if at_ < f.sure.length then { f with sure := f.sure.set at_ (bx (f.sure.getD at_ 0) b) } else { f with loose := f.loose.set (at_ - f.sure.length) (bx (f.loose.getD (at_ - f.sure.length) 0) b) }
def spoil (s : St) (nm : ByteArray) (bit : Int) : St × Bool :=
  match find s.all nm with
  | none => (s, false)
  | some f => if bit < 0 ∨ (f.len : Int) ≤ bit / 8 then (s, false) else ({ s with all := upd nm (fun f => F.spoilt f (bit / 8).toNat (2 ^ (bit % 8).toNat)) s.all }, true)
def files (s : St) : List (ByteArray × List Int × Int) := s.all.map fun f => (f.name, f.data, (f.sure.length : Int))
end St
/-- A file that is handed in: its name, its bytes, how many of them are sure. -/
def fits (x : ByteArray × List Int × Int) (acc : List F) : Bool :=
  isName x.1 && (find acc x.1).isNone && decide (x.2.1.length ≤ 65536) && decide (0 ≤ x.2.2) && decide (x.2.2 ≤ x.2.1.length)
def newF (x : ByteArray × List Int × Int) : F := ⟨x.1, x.2.1.take x.2.2.toNat, x.2.1.drop x.2.2.toNat⟩
def newGo : List (ByteArray × List Int × Int) → List F → Option (List F)
  | [], acc => some acc
  | x :: r, acc => if fits x acc = true then newGo r (put (newF x) acc) else none
def St.new (fs : List (ByteArray × List Int × Int)) : Option St := if 400 < fs.length then none else (newGo fs []).map fun l => ⟨l, false, -1, 0, 0⟩
end Go.Proofs.Ytfholpajdkjbbaa.Mo
/- Plain laws of the lists of files: one changed, one put in, one taken out; conditions: those in each theorem. (Plain Lean.) -/
namespace Go.Proofs.Ytfholpajdkjbbaa.Mo
set_option linter.unusedVariables false
abbrev namesOf (l : List F) : List ByteArray := l.map (·.name)
theorem mem_upd {nm : ByteArray} {g : F → F} {l : List F} {x : F} (h : x ∈ upd nm g l) : ∃ y ∈ l, x = if y.name = nm then g y else y := by
  obtain ⟨y, hy, h⟩ := List.mem_map.1 h
  exact ⟨y, hy, h.symm⟩
theorem upd_names {nm : ByteArray} {g : F → F} (hg : ∀ f, (g f).name = f.name) (l : List F) : namesOf (upd nm g l) = namesOf l := by
  unfold upd namesOf
  rw [List.map_map]
  refine List.map_congr_left (fun f _ => ?_)
  show (if f.name = nm then g f else f).name = f.name
  split
  · exact hg f
  · rfl
theorem name_inj {l : List F} (hn : (namesOf l).Nodup) {a b : F} (ha : a ∈ l) (hb : b ∈ l) (h : a.name = b.name) : a = b := by
  induction l with
  | nil => cases ha
  | cons x l ih =>
    rw [namesOf, List.map_cons, List.nodup_cons] at hn
    rcases List.mem_cons.1 ha with rfl | ha
    · rcases List.mem_cons.1 hb with rfl | hb
      · rfl
      · exact absurd (by rw [h]; exact List.mem_map_of_mem hb) hn.1
    · rcases List.mem_cons.1 hb with hb | hb
      · exact absurd (by rw [← hb, ← h]; exact List.mem_map_of_mem ha) hn.1
      · exact ih hn.2 ha hb
theorem put_perm (f : F) (l : List F) : (put f l).Perm (f :: l) := by
  induction l with
  | nil => exact List.Perm.refl _
  | cons g l ih =>
    unfold put
    split
    · exact List.Perm.refl _
    · exact (List.Perm.cons g ih).trans (List.Perm.swap f g l)
theorem find_some {l : List F} {nm : ByteArray} {f : F} (h : find l nm = some f) : f ∈ l ∧ f.name = nm := by
  have := List.find?_some h
  exact ⟨List.mem_of_find?_eq_some h, of_decide_eq_true this⟩
theorem find_none {l : List F} {nm : ByteArray} (h : find l nm = none) : nm ∉ namesOf l := by
  intro hm
  obtain ⟨f, hf, rfl⟩ := List.mem_map.1 hm
  have := List.find?_eq_none.1 h f hf
  exact this (decide_eq_true rfl)
theorem find_of_mem {l : List F} (hn : (namesOf l).Nodup) {f : F} (hf : f ∈ l) : find l f.name = some f := by
  cases h : find l f.name with
  | none => exact absurd (List.mem_map_of_mem (f := (·.name)) hf) (find_none h)
  | some g =>
    obtain ⟨h1, h2⟩ := find_some h
    rw [name_inj hn h1 hf h2]
theorem lt_irrefl (a : ByteArray) : lt a a = false := decide_eq_false (List.lt_irrefl _)
theorem lt_trans {a b c : ByteArray} (h1 : lt a b = true) (h2 : lt b c = true) : lt a c = true :=
  decide_eq_true (List.lt_trans (of_decide_eq_true h1) (of_decide_eq_true h2))
theorem data_inj {a b : ByteArray} (h : a.data.toList = b.data.toList) : a = b := by
  cases a; cases b
  simp at h
  rw [h]
theorem lt_total {a b : ByteArray} (h1 : lt a b = false) (hne : a ≠ b) : lt b a = true := by
  have h := of_decide_eq_false h1
  refine decide_eq_true ?_
  rcases Std.lt_trichotomy a.data.toList b.data.toList with h2 | h2 | h2
  · exact absurd h2 h
  · exact absurd (data_inj h2) hne
  · exact h2
abbrev Sorted (l : List F) : Prop := l.Pairwise fun a b => lt a.name b.name = true
theorem sorted_nodup {l : List F} (h : Sorted l) : (namesOf l).Nodup := by
  unfold namesOf List.Nodup
  rw [List.pairwise_map]
  exact h.imp (fun hab e => by rw [e, lt_irrefl] at hab; cases hab)
theorem mem_put {f x : F} {l : List F} : x ∈ put f l ↔ x = f ∨ x ∈ l := by
  rw [(put_perm f l).mem_iff, List.mem_cons]
theorem put_sorted {f : F} {l : List F} (h : Sorted l) (hn : f.name ∉ namesOf l) : Sorted (put f l) := by
  induction l with
  | nil => exact List.pairwise_singleton _ _
  | cons g l ih =>
    have hg := List.pairwise_cons.1 h
    unfold put
    split
    · rename_i hlt
      refine List.pairwise_cons.2 ⟨fun x hx => ?_, h⟩
      rcases List.mem_cons.1 hx with rfl | hx
      · exact hlt
      · exact lt_trans hlt (hg.1 x hx)
    · rename_i hlt
      refine List.pairwise_cons.2 ⟨fun x hx => ?_, ih hg.2 (fun hm => hn (List.mem_cons_of_mem _ hm))⟩
      rcases mem_put.1 hx with rfl | hx
      · exact lt_total (by simpa using hlt) (fun e => hn (by rw [e]; exact List.mem_cons_self))
      · exact hg.1 x hx
theorem upd_sorted {nm : ByteArray} {g : F → F} (hg : ∀ f, (g f).name = f.name) {l : List F} (h : Sorted l) : Sorted (upd nm g l) := by
  unfold upd
  refine List.pairwise_map.2 (h.imp (fun {a b} hab => ?_))
  have e : ∀ f : F, (if f.name = nm then g f else f).name = f.name := fun f => by
    split
    · exact hg f
    · rfl
  rw [e, e]
  exact hab
/-- One that is put in, and changed behind it. -/
theorem upd_put {f : F} {g : F → F} {l : List F} (hg : (g f).name = f.name) (hn : f.name ∉ namesOf l) : upd f.name g (put f l) = put (g f) l := by
  have h0 : ∀ l : List F, f.name ∉ namesOf l → upd f.name g l = l := by
    intro l hn
    unfold upd
    conv => rhs; rw [← List.map_id l]
    refine List.map_congr_left (fun x hx => ?_)
    rw [if_neg (fun e => hn (by rw [← e]; exact List.mem_map_of_mem hx))]
    rfl
  induction l with
  | nil => simp [put, upd]
  | cons x l ih =>
    have hx : ¬ x.name = f.name := fun e => hn (by rw [← e]; exact List.mem_cons_self)
    have hl : f.name ∉ namesOf l := fun hm => hn (List.mem_cons_of_mem _ hm)
    unfold put
    rw [hg]
    split
    · have := h0 (x :: l) hn
      unfold upd at this ⊢
      rw [List.map_cons, this, if_pos rfl]
    · unfold upd
      rw [List.map_cons, if_neg hx]
      congr 1
      exact ih hl
theorem lay_put {s : St} {nm : ByteArray} (h : find s.all nm = none) (data : List Int) : (s.lay nm data).all = upd nm (fun f => { f with loose := f.loose ++ data }) (put ⟨nm, [], []⟩ s.all) := by
  unfold St.lay
  rw [h]
  exact (upd_put (f := ⟨nm, [], []⟩) (g := fun f => { f with loose := f.loose ++ data }) rfl (find_none h)).symm
theorem lay_upd {s : St} {nm : ByteArray} {f : F} (h : find s.all nm = some f) (data : List Int) : s.lay nm data = { s with all := upd nm (fun f => { f with loose := f.loose ++ data }) s.all } := by
  unfold St.lay
  rw [h]
theorem spoilt_data (f : F) (n : Nat) (b : Int) : (St.F.spoilt f n b).data = f.data.set n (St.bx (f.data.getD n 0) b) := by
  unfold St.F.spoilt F.data
  split
  · rename_i h
    rw [List.set_append_left _ _ h]
    dsimp only
    rw [List.getD_eq_getElem?_getD (l := f.sure ++ f.loose), List.getElem?_append_left h, ← List.getD_eq_getElem?_getD]
  · rename_i h
    rw [List.set_append_right _ _ (by omega)]
    dsimp only
    rw [List.getD_eq_getElem?_getD (l := f.sure ++ f.loose), List.getElem?_append_right (by omega), ← List.getD_eq_getElem?_getD]
theorem spoilt_sure (f : F) (n : Nat) (b : Int) : (St.F.spoilt f n b).sure.length = f.sure.length := by
  unfold St.F.spoilt
  split <;> simp
theorem spoilt_name (f : F) (n : Nat) (b : Int) : (St.F.spoilt f n b).name = f.name := by
  unfold St.F.spoilt
  split <;> rfl
/-- What a well-formed disk is: its files rise by name, its numbers are in range. -/
structure Ok (s : St) : Prop where
  sorted : s.all.Pairwise fun a b => lt a.name b.name = true
  names : ∀ f ∈ s.all, isName f.name = true
  small : ∀ f ∈ s.all, f.len ≤ 65536
  few : s.all.length ≤ 400
  l0 : -1 ≤ s.left
  l1 : s.left ≤ 9223372036854775807
  a0 : 0 ≤ s.after
  a1 : s.after ≤ 9223372036854775807
  f0 : 0 ≤ s.fails
  f1 : s.fails ≤ 9223372036854775807
  idle : s.fails = 0 → s.after = 0
theorem Ok.of_all {s s' : St} (h : Ok s) (ha : s'.all = s.all) (l0 : -1 ≤ s'.left) (l1 : s'.left ≤ 9223372036854775807) (a0 : 0 ≤ s'.after) (a1 : s'.after ≤ 9223372036854775807) (f0 : 0 ≤ s'.fails) (f1 : s'.fails ≤ 9223372036854775807) (idle : s'.fails = 0 → s'.after = 0) : Ok s' :=
  ⟨by rw [ha]; exact h.sorted, by rw [ha]; exact h.names, by rw [ha]; exact h.small, by rw [ha]; exact h.few, l0, l1, a0, a1, f0, f1, idle⟩
theorem ahead_all (s : St) (nm : ByteArray) (ch : Bool) : (s.ahead nm ch).1.all = s.all := by
  unfold St.ahead
  repeat' split
  all_goals rfl
theorem Ok.ahead {s : St} (h : Ok s) (nm : ByteArray) (ch : Bool) : Ok (s.ahead nm ch).1 := by
  have := h.a0; have := h.a1; have := h.f0; have := h.f1; have := h.idle
  unfold St.ahead
  split
  · exact h
  · split
    · exact h
    · split
      · exact h
      · rename_i h3
        have h4 : ¬ s.fails = 0 := fun e => h3 (.inr e)
        split
        · exact h.of_all rfl h.l0 h.l1 h.a0 h.a1 (by dsimp only; omega) (by dsimp only; omega) (by dsimp only; omega)
        · exact h.of_all rfl h.l0 h.l1 (by dsimp only; omega) (by dsimp only; omega) h.f0 h.f1 (by dsimp only; omega)
theorem Ok.fall {s : St} (h : Ok s) : Ok s.fall := h.of_all rfl (show (-1 : Int) ≤ -1 by decide) (show (-1 : Int) ≤ _ by decide) (show (0 : Int) ≤ 0 by decide) (show (0 : Int) ≤ _ by decide) (show (0 : Int) ≤ 0 by decide) (show (0 : Int) ≤ _ by decide) (fun _ => rfl)
theorem pays_all (s : St) (cost : Int) : (s.pays cost).1.all = s.all := by
  unfold St.pays
  repeat' split
  all_goals rfl
theorem Ok.pays {s : St} (h : Ok s) {cost : Int} (hc : 0 ≤ cost) : Ok (s.pays cost).1 := by
  have := h.l0; have := h.l1
  unfold St.pays
  split
  · exact h
  · split
    · exact h.of_all rfl (by dsimp only; omega) (by dsimp only; omega) h.a0 h.a1 h.f0 h.f1 h.idle
    · exact h
theorem pays_no {s : St} {cost : Int} (h : ¬ (s.pays cost).2 = true) : 0 ≤ s.left ∧ s.left < cost ∧ s.pays cost = (s, false) := by
  unfold St.pays at h ⊢
  split at h
  · exact absurd rfl h
  · rename_i h1
    rw [if_neg h1]
    split at h
    · exact absurd rfl h
    · rename_i h2
      rw [if_neg h2]
      exact ⟨by omega, by omega, rfl⟩
/-- The files are others. -/
theorem Ok.files {s : St} (h : Ok s) (l : List F) (h1 : Sorted l) (h2 : ∀ f ∈ l, isName f.name = true) (h3 : ∀ f ∈ l, f.len ≤ 65536) (h4 : l.length ≤ 400) : Ok { s with all := l } :=
  ⟨h1, h2, h3, h4, h.l0, h.l1, h.a0, h.a1, h.f0, h.f1, h.idle⟩
theorem Ok.upd {s : St} (h : Ok s) (nm : ByteArray) (g : F → F) (hg : ∀ f, (g f).name = f.name) (hl : ∀ f ∈ s.all, f.name = nm → (g f).len ≤ 65536) : Ok { s with all := upd nm g s.all } := by
  refine h.files _ (upd_sorted hg h.sorted) (fun f hf => ?_) (fun f hf => ?_) (by unfold Mo.upd; rw [List.length_map]; exact h.few)
  · obtain ⟨y, hy, rfl⟩ := mem_upd hf
    split
    · rw [hg]; exact h.names y hy
    · exact h.names y hy
  · obtain ⟨y, hy, rfl⟩ := mem_upd hf
    split
    · rename_i e; exact hl y hy e
    · exact h.small y hy
theorem Ok.put {s : St} (h : Ok s) (f : F) (hn : isName f.name = true) (hf : f.name ∉ namesOf s.all) (hl : f.len ≤ 65536) (hc : s.all.length < 400) : Ok { s with all := put f s.all } := by
  refine h.files _ (put_sorted h.sorted hf) (fun x hx => ?_) (fun x hx => ?_) (by rw [(put_perm f s.all).length_eq]; exact hc)
  · rcases mem_put.1 hx with rfl | hx
    · exact hn
    · exact h.names x hx
  · rcases mem_put.1 hx with rfl | hx
    · exact hl
    · exact h.small x hx
theorem ahead_name {s : St} {nm : ByteArray} {ch : Bool} (h : (s.ahead nm ch).2 = 0) : isName nm = true := by
  unfold St.ahead at h
  split at h
  · cases h
  · rename_i hn
    simpa using hn
theorem Ok.lay {s : St} (h : Ok s) {nm : ByteArray} (hn : isName nm = true) {data : List Int} (hf : s.full nm data = false) {d : List Int} (hd : d.length ≤ data.length) : Ok (s.lay nm d) := by
  unfold St.full at hf
  unfold St.lay
  cases e : find s.all nm with
  | none =>
    rw [e] at hf
    simp only [Bool.or_eq_false_iff, decide_eq_false_iff_not] at hf
    exact h.put _ hn (find_none e) (by simp [F.len]; omega) (by omega)
  | some f =>
    rw [e] at hf
    simp only [decide_eq_false_iff_not] at hf
    obtain ⟨h1, h2⟩ := find_some e
    refine h.upd nm _ (fun _ => rfl) (fun x hx hxn => ?_)
    have : x = f := name_inj (sorted_nodup h.sorted) hx h1 (hxn.trans h2.symm)
    subst this
    unfold F.len at hf ⊢
    dsimp only
    rw [List.length_append]
    omega
theorem full_all {s s' : St} (h : s'.all = s.all) (nm : ByteArray) (data : List Int) : s'.full nm data = s.full nm data := by
  unfold St.full
  rw [h]
theorem Ok.append {s : St} (h : Ok s) (nm : ByteArray) (data : List Int) : Ok (s.append nm data).1 := by
  unfold St.append
  split
  · exact h.ahead nm true
  · rename_i h1
    have h1' : (s.ahead nm true).2 = 0 := by omega
    split
    · exact h.ahead nm true
    · rename_i h2
      have h2' := Bool.eq_false_iff.2 h2
      split
      · refine ((h.ahead nm true).pays (by omega)).lay (ahead_name h1') (data := data) ?_ (Nat.le_refl _)
        rw [full_all ((pays_all _ _).trans (ahead_all _ _ _))]
        exact h2'
      · refine Ok.fall ((h.ahead nm true).lay (ahead_name h1') (data := data) ?_ (by rw [List.length_take]; omega))
        rw [full_all (ahead_all _ _ _)]
        exact h2'
theorem lay_none {s : St} {nm : ByteArray} (h : find s.all nm = none) (data : List Int) : s.lay nm data = { ({ s with all := Mo.put ⟨nm, [], []⟩ s.all } : St) with all := Mo.upd nm (fun f => { f with loose := f.loose ++ data }) (Mo.put ⟨nm, [], []⟩ s.all) } := by
  have h1 := lay_put h data
  unfold St.lay at h1 ⊢
  rw [h] at h1 ⊢
  dsimp only at h1 ⊢
  rw [← h1]
theorem change_err {s : St} {nm : ByteArray} {g : List F → List F} (h : (s.ahead nm true).2 ≠ 0) : s.change nm g = s.ahead nm true := by
  have e : s.there nm = s.ahead nm true := by unfold St.there; rw [if_pos h]
  unfold St.change
  rw [e, if_pos h]
theorem change_none {s : St} {nm : ByteArray} {g : List F → List F} (h : (s.ahead nm true).2 = 0) (hf : find s.all nm = none) : s.change nm g = ((s.ahead nm true).1, 103) := by
  have e : s.there nm = ((s.ahead nm true).1, 103) := by unfold St.there; rw [if_neg (fun h2 => h2 h), hf]; rfl
  unfold St.change
  rw [e, if_pos (by simp)]
theorem change_fall {s : St} {nm : ByteArray} {g : List F → List F} {f : F} (h : (s.ahead nm true).2 = 0) (hf : find s.all nm = some f) (hy : ¬ ((s.ahead nm true).1.pays 1).2 = true) : s.change nm g = ((s.ahead nm true).1.fall, 100) := by
  have e : s.there nm = ((s.ahead nm true).1.fall, 100) := by unfold St.there; rw [if_neg (fun h2 => h2 h), hf, if_neg (by simp), if_neg hy]
  unfold St.change
  rw [e, if_pos (by simp)]
theorem change_go {s : St} {nm : ByteArray} {g : List F → List F} {f : F} (h : (s.ahead nm true).2 = 0) (hf : find s.all nm = some f) (hy : ((s.ahead nm true).1.pays 1).2 = true) : s.change nm g = ({ ((s.ahead nm true).1.pays 1).1 with all := g ((s.ahead nm true).1.pays 1).1.all }, 0) := by
  have e : s.there nm = (((s.ahead nm true).1.pays 1).1, 0) := by unfold St.there; rw [if_neg (fun h2 => h2 h), hf, if_neg (by simp), if_pos hy]
  unfold St.change
  rw [e, if_neg (by simp)]
theorem newGo_snoc (x : ByteArray × List Int × Int) : ∀ (l : List (ByteArray × List Int × Int)) (acc : List F), newGo (l ++ [x]) acc = (newGo l acc).bind fun a => if fits x a = true then some (Mo.put (newF x) a) else none
  | [], acc => by simp [newGo]
  | y :: l, acc => by
    simp only [List.cons_append, newGo]
    split
    · exact newGo_snoc x l _
    · rfl
theorem newGo_none (x : ByteArray × List Int × Int) : ∀ (l m : List (ByteArray × List Int × Int)) (acc : List F), newGo l acc = none → newGo (l ++ m) acc = none
  | [], m, acc, h => by simp [newGo] at h
  | y :: l, m, acc, h => by
    simp only [List.cons_append, newGo] at h ⊢
    split
    · rename_i hf
      rw [if_pos hf] at h
      exact newGo_none x l m _ h
    · rfl
theorem lay_fall (s : St) (nm : ByteArray) (data : List Int) : (s.lay nm data).fall = s.fall.lay nm data := by
  unfold St.lay
  show _ = match find s.all nm with | none => _ | some _ => _
  cases find s.all nm <;> rfl
end Go.Proofs.Ytfholpajdkjbbaa.Mo
/- Words for memory: what one step may have written, rows of bytes of one's own, a map of pointers, the two disks in memory; conditions: those in each theorem. -/
namespace Go.Proofs.Ytfholpajdkjbbaa.DK
open Go.RowKit Go.Proofs.YtfholpajdkjbbaaW.PrintWords Go.Proofs.YtfholpajdkjbbaaW.PrintLast Go.Proofs.YtfholpajdkjbbaaW.PrintMore Go.Proofs.Ytfholpajdkjbbaa.Mo
set_option linter.unusedVariables false
/-- Of what was there, blocks of X alone may have been written. -/
structure Upd (X : Nat → Prop) (w w' : World) : Prop where
  os : w'.os = w.os
  tape : w'.tape = w.tape
  output : w'.output = w.output
  size : w.heap.size ≤ w'.heap.size
  same : ∀ k, k < w.heap.size → ¬ X k → w'.heap[k]? = w.heap[k]?
namespace Upd
variable {X Y Z : Nat → Prop} {w w1 w2 : World}
theorem refl (X : Nat → Prop) (w : World) : Upd X w w := ⟨rfl, rfl, rfl, Nat.le_refl _, fun _ _ _ => rfl⟩
theorem trans (h : Upd X w w1) (k : Upd Y w1 w2) (hX : ∀ b, X b → Z b) (hY : ∀ b, b < w.heap.size → Y b → Z b) : Upd Z w w2 :=
  ⟨k.os.trans h.os, k.tape.trans h.tape, k.output.trans h.output, Nat.le_trans h.size k.size, fun b hb hn => (k.same b (Nat.lt_of_lt_of_le hb h.size) (fun hy => hn (hY b hb hy))).trans (h.same b hb (fun hx => hn (hX b hx)))⟩
theorem mono (h : Upd X w w1) (hX : ∀ b, b < w.heap.size → X b → Z b) : Upd Z w w1 := ⟨h.os, h.tape, h.output, h.size, fun b hb hn => h.same b hb (fun hx => hn (hX b hb hx))⟩
/-- One after the other, both within X (and what is new). -/
theorem seq (h : Upd X w w1) (k : Upd (fun b => X b ∨ w.heap.size ≤ b) w1 w2) : Upd X w w2 := h.trans k (fun _ h => h) (fun b hb hx => hx.elim id (fun h => absurd hb (Nat.not_lt.2 h)))
theorem drew (h : Upd X w w1) : Upd X w w1.drew := ⟨h.os, h.tape, h.output, h.size, h.same⟩
theorem drewN (h : Upd X w w1) (n : Nat) : Upd X w (w1.drewN n) := ⟨h.os, h.tape, h.output, h.size, h.same⟩
theorem alloc (h : Upd X w w1) (o : Obj) : Upd X w (w1.alloc o) :=
  ⟨h.os, h.tape, h.output, by simp; have := h.size; omega, fun b hb hn => (Below.heap_alloc w1 o b (Nat.lt_of_lt_of_le hb h.size)).trans (h.same b hb hn)⟩
theorem set (h : Upd X w w1) {p : Addr} (hp : X p.block ∨ w.heap.size ≤ p.block) (u : Value) : Upd X w (w1.setCell p u) :=
  ⟨h.os, h.tape, h.output, by simpa [World.setCell] using h.size, fun b hb hn => (Below.heap_setCell w1 p u b (fun e => by subst e; exact hp.elim hn (fun h => by omega))).trans (h.same b hb hn)⟩
theorem grown (h : Upd X w w1) {row : Option Nat} (hg : w1.grownBy w2 row) (hr : ∀ k, row = some k → X k ∨ w.heap.size ≤ k) : Upd X w w2 :=
  ⟨hg.os.trans h.os, hg.tape.trans h.tape, hg.output.trans h.output, Nat.le_trans h.size hg.size, fun b hb hn => (hg.block b (Nat.lt_of_lt_of_le hb h.size) (fun e => (hr b e.symm).elim hn (fun h => by omega))).trans (h.same b hb hn)⟩
theorem of_below (hb : Below w.heap.size w w1) (X : Nat → Prop) : Upd X w w1 := ⟨hb.os, hb.tape, hb.output, hb.size, fun k hk _ => hb.block k hk⟩
theorem below (h : Upd X w w1) {B : Nat} (hB : B ≤ w.heap.size) (hX : ∀ k, X k → B ≤ k) : Below B w w1 := ⟨h.os, h.tape, h.output, h.size, fun k hk => h.same k (Nat.lt_of_lt_of_le hk hB) (fun hx => by have := hX k hx; omega)⟩
theorem set1 {p : Nat} (h : Upd (fun k => k = p) w w1) (i : Nat) (u : Value) : Upd (fun k => k = p) w (w1.setCell ⟨p, i, none⟩ u) := h.set (.inl rfl) u
theorem setN {p : Nat} (h : Upd X w w1) (hx : w.heap.size ≤ p) (i : Nat) (u : Value) : Upd X w (w1.setCell ⟨p, i, none⟩ u) := h.set (.inr hx) u
/-- Another block written, by setObj. -/
theorem setObj (h : Upd X w w1) {b : Nat} (hb : X b ∨ w.heap.size ≤ b) (o : Obj) : Upd X w { w1 with heap := w1.heap.setIfInBounds b o } :=
  ⟨h.os, h.tape, h.output, by simpa using h.size, fun k hk hn => by
    show (w1.heap.setIfInBounds b o)[k]? = _
    rw [Array.getElem?_setIfInBounds_ne (fun e => by subst e; exact hb.elim hn (fun h => by omega))]
    exact h.same k hk hn⟩
end Upd
/-- X and what is new. -/
def More (X : Nat → Prop) (w w' : World) : Nat → Prop := fun k => X k ∨ (w.heap.size ≤ k ∧ k < w'.heap.size)
/-- A row of bytes of one's own. -/
def Row (w : World) (v : Value) (xs : List Int) : Prop := (Kd.int .u8).R 5 w 0 (fun _ => True) v xs
theorem Row.same {w w' : World} {v : Value} {xs : List Int} (h : Row w v xs) (hs : ∀ k, v.ownBlock = some k → w'.heap[k]? = w.heap[k]?) : Row w' v xs :=
  Kd.R_mono (Kd.R_move (Kd.R_tight rfl h) (fun k hk => hs k hk.symm)) (fun _ _ => trivial)
theorem Row.lt {w : World} {v : Value} {xs : List Int} (h : Row w v xs) {k : Nat} (hk : v.ownBlock = some k) : k < w.heap.size := Kd.R_lt h k hk
theorem Row.typed {w : World} {v : Value} {xs : List Int} (h : Row w v xs) {k : Nat} (hk : v.ownBlock = some k) : ∃ cells, w.heap[k]? = some (.cells cells 5 (0, 0)) := Kd.R_typed h k hk
theorem Row.upd {X : Nat → Prop} {w w' : World} {v : Value} {xs : List Int} (h : Row w v xs) (hu : Upd X w w') (hx : ∀ k, v.ownBlock = some k → ¬ X k) : Row w' v xs :=
  h.same (fun k hk => hu.same k (h.lt hk) (hx k hk))
/-- No block of both. -/
def Dis (u v : Value) : Prop := ∀ k, u.ownBlock = some k → v.ownBlock ≠ some k
theorem Dis.symm {u v : Value} (h : Dis u v) : Dis v u := fun k hk hu => h k hu hk
theorem More.of {X : Nat → Prop} {w w' : World} {k : Nat} (h : X k) : More X w w' k := .inl h
theorem More.trans {X : Nat → Prop} {w w1 w2 : World} (h1 : w.heap.size ≤ w1.heap.size) (h2 : w1.heap.size ≤ w2.heap.size) (k : Nat) : More (More X w w1) w1 w2 k ↔ More X w w2 k := by
  unfold More
  constructor
  · rintro ((h | h) | h)
    · exact .inl h
    · exact .inr (by omega)
    · exact .inr (by omega)
  · rintro (h | h)
    · exact .inl (.inl h)
    · by_cases hk : k < w1.heap.size
      · exact .inl (.inr ⟨h.1, hk⟩)
      · exact .inr (by omega)
theorem Upd.more {X : Nat → Prop} {w w1 w2 : World} (h : Upd X w w1) (k : Upd (More X w w1) w1 w2) : Upd X w w2 :=
  h.seq (k.mono (fun b _ hb => hb.elim .inl (fun h => .inr h.1)))
/-- A cell of a block set. -/
theorem blk_set {w : World} {g i t : Nat} {cs : Array Value} {v : Value} (h : w.heap[g]? = some (.cells cs t (0, 0))) : (w.setCell ⟨g, i, none⟩ v).heap[g]? = some (.cells (cs.setIfInBounds i v) t (0, 0)) := by
  simp [World.setCell, Array.getElem?_modify, h]
theorem blk_alloc {w : World} {g : Nat} {o : Obj} (h : w.heap[g]? = some o) (o' : Obj) : (w.alloc o').heap[g]? = some o := (Below.heap_alloc w o' g (blk_lt h)).trans h
theorem blk_drew {w : World} {g : Nat} {o : Obj} (h : w.heap[g]? = some o) : w.drew.heap[g]? = some o := h
theorem blk_upd {w w' : World} {X : Nat → Prop} {g : Nat} {o : Obj} (h : w.heap[g]? = some o) (hu : Upd X w w') (hx : ¬ X g) : w'.heap[g]? = some o := (hu.same g (blk_lt h) hx).trans h
/-- What a store does to a block. -/
def setObjCell (i : Nat) (v : Value) : Obj → Obj
  | .cells c e f => .cells (c.setIfInBounds i v) e f
  | o => o
theorem heap_set (w : World) (g i : Nat) (v : Value) : (w.setCell ⟨g, i, none⟩ v).heap[g]? = (w.heap[g]?).map (setObjCell i v) := by
  simp only [World.setCell, Array.getElem?_modify]
  rw [if_pos trivial]
  cases w.heap[g]? with
  | none => rfl
  | some o => cases o <;> rfl
theorem heap_drewN (w : World) (n : Nat) : (w.drewN n).heap = w.heap := rfl
theorem heap_drew (w : World) : w.drew.heap = w.heap := rfl
theorem heap_alloc_lt (w : World) (o : Obj) (k : Nat) (h : k < w.heap.size) : (w.alloc o).heap[k]? = w.heap[k]? := Below.heap_alloc w o k h
/-! ### a map from names to pointers -/
def ent (q : ByteArray → Nat) (n : ByteArray) : Value × Value := (.string n, .pointer (some ⟨q n, 0, none⟩))
def MapAt (w : World) (mb : Nat) (dom : List ByteArray) (q : ByteArray → Nat) : Prop :=
  ∃ es clock, w.heap[mb]? = some (.map es clock) ∧ (es.toList.map fun e => (e.key, e.val)).Perm (dom.map (ent q)) ∧ dom.Nodup ∧ (es.toList.map (·.born)).Nodup ∧ ∀ e ∈ es.toList, e.born < clock
theorem MapAt.same {w w' : World} {mb : Nat} {dom : List ByteArray} {q : ByteArray → Nat} (h : MapAt w mb dom q) (hs : w'.heap[mb]? = w.heap[mb]?) : MapAt w' mb dom q := by
  obtain ⟨es, c, h1, h2⟩ := h
  exact ⟨es, c, hs.trans h1, h2⟩
theorem bytes_beq (a b : ByteArray) : (a == b) = decide (a = b) := by
  cases a with | mk a => cases b with | mk b =>
  have h : ((⟨a⟩ : ByteArray) == ⟨b⟩) = (a == b) := rfl
  rw [h, Bool.eq_iff_iff]
  simp
instance lawful_bytes : LawfulBEq ByteArray where
  eq_of_beq := fun {a b} h => by rw [bytes_beq] at h; exact of_decide_eq_true h
  rfl := fun {a} => by rw [bytes_beq]; exact decide_eq_true rfl
theorem findNow_str (nm : ByteArray) : ∀ (es : List MapEntry) (i : Nat), (∀ e ∈ es, ∃ s, e.key = .string s) →
    (∃ j e, es[j]? = some e ∧ e.key = .string nm ∧ Instr.findNow .string (.string nm) es i = some (some (i + j, e.val))) ∨ ((∀ e ∈ es, e.key ≠ .string nm) ∧ Instr.findNow .string (.string nm) es i = some none) := by
  intro es
  induction es with
  | nil => exact fun i _ => .inr ⟨by simp, rfl⟩
  | cons e es ih =>
    intro i hk
    obtain ⟨s, hs⟩ := hk e List.mem_cons_self
    by_cases h : nm = s
    · subst h
      exact .inl ⟨0, e, rfl, hs, by simp [Instr.findNow, hs, Instr.sameNow]⟩
    · have hf : Instr.findNow .string (.string nm) (e :: es) i = Instr.findNow .string (.string nm) es (i + 1) := by simp [Instr.findNow, hs, Instr.sameNow, bytes_beq, h]
      rcases ih (i + 1) (fun e' he' => hk e' (List.mem_cons_of_mem _ he')) with ⟨j, e', h1, h2, h3⟩ | ⟨h1, h2⟩
      · exact .inl ⟨j + 1, e', h1, h2, by rw [hf, h3, show i + 1 + j = i + (j + 1) from by omega]⟩
      · refine .inr ⟨fun e' he' => ?_, by rw [hf, h2]⟩
        rcases List.mem_cons.1 he' with rfl | he'
        · rw [hs]
          exact fun h' => h (by injection h' with h'; exact h'.symm)
        · exact h1 e' he'
theorem ent_mem {es : List MapEntry} {dom : List ByteArray} {q : ByteArray → Nat} (h : (es.map fun e => (e.key, e.val)).Perm (dom.map (ent q))) {e : MapEntry} (he : e ∈ es) : ∃ n ∈ dom, e.key = .string n ∧ e.val = .pointer (some ⟨q n, 0, none⟩) := by
  have := h.mem_iff.1 (List.mem_map_of_mem (f := fun e : MapEntry => (e.key, e.val)) he)
  obtain ⟨n, hn, hq⟩ := List.mem_map.1 this
  simp only [ent, Prod.mk.injEq] at hq
  exact ⟨n, hn, hq.1.symm, hq.2.symm⟩
theorem mem_ent {es : List MapEntry} {dom : List ByteArray} {q : ByteArray → Nat} (h : (es.map fun e => (e.key, e.val)).Perm (dom.map (ent q))) {n : ByteArray} (hn : n ∈ dom) : ∃ e ∈ es, e.key = .string n ∧ e.val = .pointer (some ⟨q n, 0, none⟩) := by
  have := h.mem_iff.2 (List.mem_map_of_mem (f := ent q) hn)
  obtain ⟨e, he, hq⟩ := List.mem_map.1 this
  simp only [ent, Prod.mk.injEq] at hq
  exact ⟨e, he, hq.1, hq.2⟩
theorem check_str (b : Bool) (n : Nat) (nm : ByteArray) (w : World) : (Instr.checkKey b (n + 1) 9 (.string nm)).run Try.prog w = .ok () w := by
  simp [Instr.checkKey, run_underlying Try.underlying9]
theorem MapAt.keys {w : World} {mb : Nat} {dom : List ByteArray} {q : ByteArray → Nat} {es : List MapEntry} (h : (es.map fun e => (e.key, e.val)).Perm (dom.map (ent q))) : ∀ e ∈ es, ∃ s, e.key = .string s :=
  fun e he => by obtain ⟨n, _, h1, _⟩ := ent_mem h he; exact ⟨n, h1⟩
theorem MapAt.findKey {mb : Nat} {dom : List ByteArray} {q : ByteArray → Nat} {es : List MapEntry} (h : (es.map fun e => (e.key, e.val)).Perm (dom.map (ent q))) (nm : ByteArray) (w : World) :
    (nm ∈ dom ∧ ∃ j e, es[j]? = some e ∧ e.key = .string nm ∧ e.val = .pointer (some ⟨q nm, 0, none⟩) ∧ (Instr.findKey 9 (.string nm) es).run Try.prog w = .ok (some (j, e.val)) w) ∨ (nm ∉ dom ∧ (Instr.findKey 9 (.string nm) es).run Try.prog w = .ok none w) := by
  have hk := MapAt.keys (w := w) (mb := mb) h
  rcases findNow_str nm es 0 hk with ⟨j, e, h1, h2, h3⟩ | ⟨h1, h2⟩
  · obtain ⟨n, hn, e1, e2⟩ := ent_mem h (List.mem_of_getElem? h1)
    rw [h2] at e1
    injection e1 with e1
    subst e1
    refine .inl ⟨hn, j, e, h1, h2, e2, ?_⟩
    simp [Instr.findKey, run_underlying Try.underlying9, h3]
  · refine .inr ⟨fun hn => ?_, ?_⟩
    · obtain ⟨e, he, e1, _⟩ := mem_ent h hn
      exact h1 e he e1
    · simp [Instr.findKey, run_underlying Try.underlying9, h2]
open Classical in
theorem MapAt.lookup {w : World} {mb : Nat} {dom : List ByteArray} {q : ByteArray → Nat} (h : MapAt w mb dom q) (nm : ByteArray) :
    (Instr.lookup 74 (.map (some mb)) (.string nm) false).run Try.prog w = .ok (if nm ∈ dom then .pointer (some ⟨q nm, 0, none⟩) else .pointer none) w := by
  obtain ⟨es, clock, hb, hp, hn, _⟩ := h
  rcases MapAt.findKey (mb := mb) hp nm w with ⟨h1, j, e, h2, h3, h4, h5⟩ | ⟨h1, h5⟩
  · rw [if_pos h1]
    simp [Instr.lookup, run_underlying Try.underlying74, getObj, Sem.run, hb, check_str, h5, h4]
  · rw [if_neg h1]
    simp [Instr.lookup, run_underlying Try.underlying74, getObj, Sem.run, hb, check_str, h5]
theorem MapAt.len {w : World} {mb : Nat} {dom : List ByteArray} {q : ByteArray → Nat} (h : MapAt w mb dom q) :
    (Builtin.len_ #[74] 3 #[.map (some mb)]).run Try.prog w = .ok (.int .i64 dom.length) w := by
  obtain ⟨es, clock, hb, hp, hn, _⟩ := h
  have hl : es.size = dom.length := by have := hp.length_eq; simpa using this
  simp [Builtin.len_, run_underlying Try.underlying74, getObj, Sem.run, hb, goInt, hl]
/-- A world with one block another. -/
def putObj (w : World) (b : Nat) (o : Obj) : World := { w with heap := w.heap.setIfInBounds b o }
theorem putObj_upd (w : World) (b : Nat) (o : Obj) : Upd (fun k => k = b) w (putObj w b o) := (Upd.refl (fun k => k = b) w).setObj (.inl rfl) o
theorem putObj_at {w : World} {b : Nat} {o o' : Obj} (h : w.heap[b]? = some o) : (putObj w b o').heap[b]? = some o' := by
  have := blk_lt h
  simp [putObj, this]
theorem MapAt.insert {w : World} {mb : Nat} {dom : List ByteArray} {q : ByteArray → Nat} (h : MapAt w mb dom q) (nm : ByteArray) (hn : nm ∉ dom) (g : Nat) :
    ∃ w', (Instr.mapUpdate 74 (.map (some mb)) (.string nm) (.pointer (some ⟨g, 0, none⟩))).run Try.prog w = .ok () w' ∧ Upd (fun k => k = mb) w w' ∧ MapAt w' mb (nm :: dom) (fun n => if n = nm then g else q n) := by
  obtain ⟨es, clock, hb, hp, hd, hbn, hbc⟩ := h
  rcases MapAt.findKey (mb := mb) hp nm w with ⟨h1, _⟩ | ⟨h1, h5⟩
  · exact absurd h1 hn
  · refine ⟨putObj w mb (.map (es.push { key := .string nm, val := .pointer (some ⟨g, 0, none⟩), born := clock }) (clock + 1)), ?_, putObj_upd _ _ _, _, _, putObj_at hb, ?_, List.nodup_cons.2 ⟨hn, hd⟩, ?_, ?_⟩
    · simp [Instr.mapUpdate, run_underlying Try.underlying74, getObj, setObj, Sem.run, hb, check_str, h5, putObj]
    · have e1 : dom.map (ent fun n => if n = nm then g else q n) = dom.map (ent q) := List.map_congr_left (fun n hm => by
        have hne : n ≠ nm := fun e => hn (by rw [← e]; exact hm)
        simp only [ent, if_neg hne])
      rw [List.map_cons, e1]
      simp only [Array.toList_push, List.map_append, List.map_cons, List.map_nil]
      have e2 : ent (fun n => if n = nm then g else q n) nm = (Value.string nm, Value.pointer (some ⟨g, 0, none⟩)) := by simp only [ent, if_pos]
      rw [e2]
      exact (List.perm_append_singleton _ _).trans (List.Perm.cons _ hp)
    · simp only [Array.toList_push, List.map_append, List.map_cons, List.map_nil]
      rw [List.nodup_append]
      refine ⟨hbn, by simp, fun a ha b hb' => ?_⟩
      obtain ⟨e, he, rfl⟩ := List.mem_map.1 ha
      have := hbc e he
      simp at hb'
      omega
    · intro e he
      rw [Array.toList_push] at he
      rcases List.mem_append.1 he with he | he
      · have := hbc e he
        omega
      · simp at he
        subst he
        exact Nat.lt_succ_self _
theorem MapAt.erase {w : World} {mb : Nat} {dom : List ByteArray} {q : ByteArray → Nat} (h : MapAt w mb dom q) (nm : ByteArray) (hn : nm ∈ dom) :
    ∃ w', (Builtin.delete_ #[74, 9] 0 #[.map (some mb), .string nm]).run Try.prog w = .ok (.tuple #[]) w' ∧ Upd (fun k => k = mb) w w' ∧ MapAt w' mb (dom.filter fun n => decide (n ≠ nm)) q := by
  obtain ⟨es, clock, hb, hp, hd, hbn, hbc⟩ := h
  rcases MapAt.findKey (mb := mb) hp nm w with ⟨h1, j, e, h2, h3, h4, h5⟩ | ⟨h1, _⟩
  · refine ⟨putObj w mb (.map (es.eraseIdxIfInBounds j) clock), ?_, putObj_upd _ _ _, _, _, putObj_at hb, ?_, hd.filter _, ?_, ?_⟩
    · simp [Builtin.delete_, run_underlying Try.underlying74, getObj, setObj, Sem.run, hb, check_str, h5, putObj]
    · have hj : j < es.toList.length := (List.getElem?_eq_some_iff.1 h2).1
      have ee : (es.eraseIdxIfInBounds j).toList = es.toList.eraseIdx j := by
        rw [Array.eraseIdxIfInBounds_eq]
        simp only [Array.length_toList] at hj
        rw [dif_pos hj, Array.toList_eraseIdx]
      rw [ee, show (es.toList.eraseIdx j).map (fun e => (e.key, e.val)) = (es.toList.map fun e => (e.key, e.val)).eraseIdx j by
        rw [List.eraseIdx_eq_take_drop_succ, List.eraseIdx_eq_take_drop_succ, List.map_append, List.map_take, List.map_drop]]
      have hm : (es.toList.map fun e => (e.key, e.val))[j]? = some (ent q nm) := by
        rw [List.getElem?_map, h2]
        show some (e.key, e.val) = _
        rw [h3, h4]
        rfl
      have hf : dom.filter (fun n => decide (n ≠ nm)) = dom.erase nm := by
        rw [hd.erase_eq_filter]
        refine List.filter_congr (fun n _ => ?_)
        rw [bne, bytes_beq, ← decide_not]
      rw [hf]
      have hp2 : ((es.toList.map fun e => (e.key, e.val)).eraseIdx j).Perm ((dom.erase nm).map (ent q)) := by
        refine (List.perm_cons (ent q nm)).1 ?_
        have g1 : (ent q nm :: (es.toList.map fun e => (e.key, e.val)).eraseIdx j).Perm (es.toList.map fun e => (e.key, e.val)) := by
          have hl : j < (es.toList.map fun e => (e.key, e.val)).length := by simpa using hj
          have h6 := List.getElem?_eq_getElem hl
          rw [hm] at h6
          injection h6 with h6
          rw [h6]
          have h7 := List.take_append_drop j (es.toList.map fun e => (e.key, e.val))
          rw [List.drop_eq_getElem_cons hl] at h7
          rw [List.eraseIdx_eq_take_drop_succ]
          refine List.Perm.trans List.perm_middle.symm ?_
          rw [h7]
        have g2 : (ent q nm :: (dom.erase nm).map (ent q)).Perm (dom.map (ent q)) := by
          rw [← List.map_cons]
          exact (List.perm_cons_erase h1).symm.map _
        exact g1.trans (hp.trans g2.symm)
      exact hp2
    · have ee : (es.eraseIdxIfInBounds j).toList.Sublist es.toList := by
        rw [Array.eraseIdxIfInBounds_eq]
        split
        · rw [Array.toList_eraseIdx]
          exact List.eraseIdx_sublist _ _
        · exact List.Sublist.refl _
      exact (ee.map _).nodup hbn
    · have ee : (es.eraseIdxIfInBounds j).toList.Sublist es.toList := by
        rw [Array.eraseIdxIfInBounds_eq]
        split
        · rw [Array.toList_eraseIdx]
          exact List.eraseIdx_sublist _ _
        · exact List.Sublist.refl _
      exact fun e he => hbc e (ee.mem he)
  · exact absurd hn h1
end Go.Proofs.Ytfholpajdkjbbaa.DK
/- The program's disk in memory: its block, its map, a block and a row a file; what a change of one file does; conditions: those in each theorem. -/
namespace Go.Proofs.Ytfholpajdkjbbaa.DK
open Go.RowKit Go.Proofs.YtfholpajdkjbbaaW.PrintWords Go.Proofs.YtfholpajdkjbbaaW.PrintLast Go.Proofs.YtfholpajdkjbbaaW.PrintMore Go.Proofs.Ytfholpajdkjbbaa.Mo
set_option linter.unusedVariables false
structure PFiles (w : World) (mb : Nat) (q : ByteArray → Nat) (dv : ByteArray → Value) (X : Nat → Prop) (l : List F) : Prop where
  map : MapAt w mb (namesOf l) q
  file : ∀ f ∈ l, w.heap[q f.name]? = some (.cells #[dv f.name, .int .i64 f.sure.length] 81 (0, 0))
  row : ∀ f ∈ l, Row w (dv f.name) f.data
  qi : ∀ f ∈ l, ∀ g ∈ l, q f.name = q g.name → f.name = g.name
  di : ∀ f ∈ l, ∀ g ∈ l, f.name ≠ g.name → Dis (dv f.name) (dv g.name)
  xm : X mb
  xq : ∀ f ∈ l, X (q f.name)
  xd : ∀ f ∈ l, ∀ k, (dv f.name).ownBlock = some k → X k
def diskCells (m : Value) (s : St) : Array Value := #[m, .bool s.down, .bool (decide (0 ≤ s.left)), .int .i64 (max s.left 0), .int .i64 s.after, .int .i64 s.fails]
structure PDisk (w : World) (p : Nat) (X : Nat → Prop) (s : St) (mb : Nat) (q : ByteArray → Nat) (dv : ByteArray → Value) : Prop where
  head : w.heap[p]? = some (.cells (diskCells (.map (some mb)) s) 78 (0, 0))
  xp : X p
  bd : ∀ k, X k → k < w.heap.size
  files : PFiles w mb q dv X s.all
/-- The disk at p holds s, in blocks of X. -/
def Prog (w : World) (p : Nat) (X : Nat → Prop) (s : St) : Prop := ∃ mb q dv, PDisk w p X s mb q dv
theorem MapAt.lt {w : World} {mb : Nat} {dom : List ByteArray} {q : ByteArray → Nat} (h : MapAt w mb dom q) : mb < w.heap.size := by
  obtain ⟨es, c, hb, _⟩ := h
  exact blk_lt hb
theorem PFiles.upd {w w' : World} {mb : Nat} {q : ByteArray → Nat} {dv : ByteArray → Value} {X Y : Nat → Prop} {l : List F} (h : PFiles w mb q dv X l) (hu : Upd Y w w') (hy : ∀ k, X k → ¬ Y k) : PFiles w' mb q dv X l :=
  ⟨h.map.same (hu.same mb h.map.lt (hy mb h.xm)), fun f hf => blk_upd (h.file f hf) hu (hy _ (h.xq f hf)), fun f hf => (h.row f hf).upd hu (fun k hk => hy k (h.xd f hf k hk)), h.qi, h.di, h.xm, h.xq, h.xd⟩
theorem PFiles.mono {w : World} {mb : Nat} {q : ByteArray → Nat} {dv : ByteArray → Value} {X Y : Nat → Prop} {l : List F} (h : PFiles w mb q dv X l) (hy : ∀ k, X k → Y k) : PFiles w mb q dv Y l :=
  ⟨h.map, h.file, h.row, h.qi, h.di, hy _ h.xm, fun f hf => hy _ (h.xq f hf), fun f hf k hk => hy _ (h.xd f hf k hk)⟩
theorem PDisk.upd {w w' : World} {p mb : Nat} {q : ByteArray → Nat} {dv : ByteArray → Value} {X Y : Nat → Prop} {s : St} (h : PDisk w p X s mb q dv) (hu : Upd Y w w') (hy : ∀ k, X k → ¬ Y k) : PDisk w' p X s mb q dv :=
  ⟨blk_upd h.head hu (hy p h.xp), h.xp, fun k hk => Nat.lt_of_lt_of_le (h.bd k hk) hu.size, h.files.upd hu hy⟩
theorem PDisk.mono {w : World} {p mb : Nat} {q : ByteArray → Nat} {dv : ByteArray → Value} {X Y : Nat → Prop} {s : St} (h : PDisk w p X s mb q dv) (hy : ∀ k, X k → Y k) (hb : ∀ k, Y k → k < w.heap.size) : PDisk w p Y s mb q dv :=
  ⟨h.head, hy p h.xp, hb, h.files.mono hy⟩
theorem Prog.upd {w w' : World} {p : Nat} {X Y : Nat → Prop} {s : St} (h : Prog w p X s) (hu : Upd Y w w') (hy : ∀ k, X k → ¬ Y k) : Prog w' p X s := by
  obtain ⟨mb, q, dv, h⟩ := h
  exact ⟨mb, q, dv, h.upd hu hy⟩
theorem Prog.bd {w : World} {p : Nat} {X : Nat → Prop} {s : St} (h : Prog w p X s) : ∀ k, X k → k < w.heap.size := by
  obtain ⟨mb, q, dv, h⟩ := h
  exact h.bd
theorem Prog.mono {w : World} {p : Nat} {X Y : Nat → Prop} {s : St} (h : Prog w p X s) (hy : ∀ k, X k → Y k) (hb : ∀ k, Y k → k < w.heap.size) : Prog w p Y s := by
  obtain ⟨mb, q, dv, h⟩ := h
  exact ⟨mb, q, dv, h.mono hy hb⟩
theorem Prog.below {w w' : World} {p : Nat} {X : Nat → Prop} {s : St} (h : Prog w p X s) (hb : Below w.heap.size w w') : Prog w' p X s :=
  h.upd (Upd.of_below hb (fun _ => False)) (fun _ _ h => h)
theorem bd_more {X : Nat → Prop} {w w' : World} (hb : ∀ k, X k → k < w.heap.size) (hs : w.heap.size ≤ w'.heap.size) : ∀ k, More X w w' k → k < w'.heap.size :=
  fun k hk => hk.elim (fun h => Nat.lt_of_lt_of_le (hb k h) hs) (fun h => h.2)
/-- A call has made the disk another: it holds s' now; what it writes is its own, or new. -/
def PStep (p : Nat) (X : Nat → Prop) (w w' : World) (s' : St) : Prop := Prog w' p (More X w w') s' ∧ Upd X w w'
theorem PStep.refl {w : World} {p : Nat} {X : Nat → Prop} {s : St} (h : Prog w p X s) : PStep p X w w s :=
  ⟨h.mono (fun _ h => .inl h) (bd_more h.bd (Nat.le_refl _)), Upd.refl _ _⟩
theorem PStep.trans {w w1 w2 : World} {p : Nat} {X : Nat → Prop} {s1 s2 : St} (h : PStep p X w w1 s1) (k : PStep p (More X w w1) w1 w2 s2) : PStep p X w w2 s2 :=
  ⟨k.1.mono (fun b hb => (More.trans h.2.size k.2.size b).1 hb) (fun b hb => k.1.bd b ((More.trans h.2.size k.2.size b).2 hb)), h.2.more k.2⟩
/-- Only reads, and makes: the disk is as it was. -/
theorem PStep.below {w w' : World} {p : Nat} {X : Nat → Prop} {s : St} (h : Prog w p X s) (hb : Below w.heap.size w w') : PStep p X w w' s :=
  ⟨(h.below hb).mono (fun _ h => .inl h) (bd_more h.bd hb.size), Upd.of_below hb X⟩
theorem PStep.then_below {w w1 w2 : World} {p : Nat} {X : Nat → Prop} {s : St} (h : PStep p X w w1 s) (hb : Below w1.heap.size w1 w2) : PStep p X w w2 s := h.trans (PStep.below h.1 hb)
/-- The blocks may be told anew by more of them. -/
theorem PStep.more_ {w w1 w2 : World} {p : Nat} {X : Nat → Prop} {s : St} (h : PStep p X w1 w2 s) (hs : w.heap.size ≤ w1.heap.size) : PStep p (More X w w1) w1 w2 s := by
  refine ⟨h.1.mono (fun k hk => hk.elim (fun h => .inl (.inl h)) .inr) (fun k hk => ?_), h.2.mono (fun _ _ h => .inl h)⟩
  rcases hk with (hx | hn) | hk
  · exact h.1.bd k (.inl hx)
  · exact Nat.lt_of_lt_of_le hn.2 h.2.size
  · exact hk.2
/-- The disk's own block is written; the files stay. -/
theorem PDisk.set {w w' : World} {p mb : Nat} {q : ByteArray → Nat} {dv : ByteArray → Value} {X : Nat → Prop} {s s' : St} (h : PDisk w p X s mb q dv) (hall : s'.all = s.all) (hu : Upd (fun k => k = p) w w')
    (hh : w'.heap[p]? = some (.cells (diskCells (.map (some mb)) s') 78 (0, 0))) : PDisk w' p (More X w w') s' mb q dv ∧ Upd X w w' := by
  have hf := h.files
  have hq : ∀ f ∈ s.all, q f.name ≠ p := fun f hfm e => by
    have h1 := hf.file f hfm
    rw [e, h.head] at h1
    injection h1 with h1
    injection h1 with _ h1
    exact absurd h1 (by decide)
  have hd : ∀ f ∈ s.all, ∀ k, (dv f.name).ownBlock = some k → k ≠ p := fun f hfm k hk e => by
    obtain ⟨cells, hc⟩ := (hf.row f hfm).typed hk
    rw [e, h.head] at hc
    injection hc with h1
    injection h1 with _ h1
    exact absurd h1 (by decide)
  have hm : mb ≠ p := fun e => by
    obtain ⟨es, c, hb, _⟩ := hf.map
    rw [e, h.head] at hb
    cases hb
  refine ⟨⟨hh, .inl h.xp, bd_more h.bd hu.size, ?_⟩, hu.mono (fun b _ hb => by subst hb; exact h.xp)⟩
  rw [hall]
  refine PFiles.mono ⟨hf.map.same (hu.same mb hf.map.lt hm), fun f hfm => blk_upd (hf.file f hfm) hu (hq f hfm), fun f hfm => (hf.row f hfm).upd hu (hd f hfm), hf.qi, hf.di, hf.xm, hf.xq, hf.xd⟩ (fun _ h => .inl h)
theorem PDisk.put {w w' : World} {p mb : Nat} {q : ByteArray → Nat} {dv : ByteArray → Value} {X : Nat → Prop} {s s' : St} (h : PDisk w p X s mb q dv) (hall : s'.all = s.all) (hu : Upd (fun k => k = p) w w')
    (hh : w'.heap[p]? = some (.cells (diskCells (.map (some mb)) s') 78 (0, 0))) : PStep p X w w' s' :=
  ⟨⟨mb, q, dv, (h.set hall hu hh).1⟩, (h.set hall hu hh).2⟩
theorem PDisk.drew {w : World} {p mb : Nat} {q : ByteArray → Nat} {dv : ByteArray → Value} {X : Nat → Prop} {s : St} (h : PDisk w p X s mb q dv) : PDisk w.drew p X s mb q dv := h.upd (Y := fun _ => False) ((Upd.refl _ _).drew) (fun _ _ h => h)
theorem PDisk.refl {w : World} {p mb : Nat} {q : ByteArray → Nat} {dv : ByteArray → Value} {X : Nat → Prop} {s : St} (h : PDisk w p X s mb q dv) : PDisk w p (More X w w) s mb q dv ∧ Upd X w w :=
  ⟨h.mono (fun _ h => .inl h) (bd_more h.bd (Nat.le_refl _)), Upd.refl _ _⟩
end Go.Proofs.Ytfholpajdkjbbaa.DK
/- One file of the disk in memory is changed, put in, taken out; conditions: those in each theorem. -/
namespace Go.Proofs.Ytfholpajdkjbbaa.DK
open Go.RowKit Go.Proofs.YtfholpajdkjbbaaW.PrintWords Go.Proofs.YtfholpajdkjbbaaW.PrintLast Go.Proofs.YtfholpajdkjbbaaW.PrintMore Go.Proofs.Ytfholpajdkjbbaa.Mo
set_option linter.unusedVariables false
set_option linter.unusedSimpArgs false
theorem blk_ne {w : World} {g g' t t' : Nat} {cs cs' : Array Value} (h : w.heap[g]? = some (.cells cs t (0, 0))) (h' : w.heap[g']? = some (.cells cs' t' (0, 0))) (hne : t ≠ t') : g ≠ g' := by
  rintro rfl
  rw [h] at h'
  injection h' with h'
  injection h' with _ h'
  exact hne h'
theorem MapAt.ne {w : World} {mb g t : Nat} {dom : List ByteArray} {q : ByteArray → Nat} {cs : Array Value} (h : MapAt w mb dom q) (h' : w.heap[g]? = some (.cells cs t (0, 0))) : mb ≠ g := by
  rintro rfl
  obtain ⟨es, c, hb, _⟩ := h
  rw [hb] at h'
  cases h'
theorem MapAt.perm {w : World} {mb : Nat} {dom dom' : List ByteArray} {q : ByteArray → Nat} (h : MapAt w mb dom q) (hp : dom'.Perm dom) : MapAt w mb dom' q := by
  obtain ⟨es, c, hb, h1, h2, h3⟩ := h
  exact ⟨es, c, hb, h1.trans (hp.symm.map _), hp.nodup_iff.2 h2, h3⟩
theorem PFiles.nodup {w : World} {mb : Nat} {q : ByteArray → Nat} {dv : ByteArray → Value} {X : Nat → Prop} {l : List F} (h : PFiles w mb q dv X l) : (namesOf l).Nodup := by
  obtain ⟨es, c, _, _, h2, _⟩ := h.map
  exact h2
/-- One file's block and row are another's now. -/
theorem pfiles_change {w w' : World} {mb : Nat} {q : ByteArray → Nat} {dv : ByteArray → Value} {X Y : Nat → Prop} {l : List F} (h : PFiles w mb q dv X l) {f : F} (hf : f ∈ l) (g : F → F) (hg : ∀ x, (g x).name = x.name) (v' : Value)
    (hu : Upd Y w w') (hY : ∀ k, k < w.heap.size → Y k → k = q f.name ∨ (dv f.name).ownBlock = some k) (hfile : w'.heap[q f.name]? = some (.cells #[v', .int .i64 (g f).sure.length] 81 (0, 0))) (hrow : Row w' v' (g f).data)
    (hv : ∀ k, v'.ownBlock = some k → (dv f.name).ownBlock = some k ∨ w.heap.size ≤ k) : PFiles w' mb q (fun n => if n = f.name then v' else dv n) (More X w w') (upd f.name g l) := by
  have hnd := h.nodup
  have one : ∀ y ∈ l, y.name = f.name → y = f := fun y hy e => name_inj hnd hy hf e
  have hq : ∀ y ∈ l, y.name ≠ f.name → ¬ Y (q y.name) := fun y hy hne hY' => by
    rcases hY _ (blk_lt (h.file y hy)) hY' with e | e
    · exact hne (h.qi y hy f hf e)
    · obtain ⟨cells, hc⟩ := (h.row f hf).typed e
      exact blk_ne hc (h.file y hy) (by decide) rfl
  have hd : ∀ y ∈ l, y.name ≠ f.name → ∀ k, (dv y.name).ownBlock = some k → ¬ Y k := fun y hy hne k hk hY' => by
    rcases hY _ ((h.row y hy).lt hk) hY' with e | e
    · obtain ⟨cells, hc⟩ := (h.row y hy).typed hk
      exact blk_ne (h.file f hf) hc (by decide) e.symm
    · exact h.di y hy f hf hne k hk e
  refine ⟨?_, fun x hx => ?_, fun x hx => ?_, fun x hx y hy => ?_, fun x hx y hy => ?_, .inl h.xm, fun x hx => ?_, fun x hx => ?_⟩
  · rw [upd_names hg]
    refine h.map.same (hu.same mb h.map.lt (fun hY' => ?_))
    rcases hY _ h.map.lt hY' with e | e
    · exact h.map.ne (h.file f hf) e
    · obtain ⟨cells, hc⟩ := (h.row f hf).typed e
      exact h.map.ne hc rfl
  · obtain ⟨y, hy, rfl⟩ := mem_upd hx
    by_cases e : y.name = f.name
    · obtain rfl := one y hy e
      simp only [if_pos, hg]
      exact hfile
    · simp only [if_neg e]
      exact blk_upd (h.file y hy) hu (hq y hy e)
  · obtain ⟨y, hy, rfl⟩ := mem_upd hx
    by_cases e : y.name = f.name
    · obtain rfl := one y hy e
      simp only [if_pos, hg]
      exact hrow
    · simp only [if_neg e]
      exact (h.row y hy).upd hu (hd y hy e)
  · obtain ⟨a, ha, rfl⟩ := mem_upd hx
    obtain ⟨b, hb, rfl⟩ := mem_upd hy
    have e : ∀ f' : F, (if f'.name = f.name then g f' else f').name = f'.name := fun f' => by
      split
      · exact hg f'
      · rfl
    rw [e, e]
    exact h.qi a ha b hb
  · obtain ⟨a, ha, rfl⟩ := mem_upd hx
    obtain ⟨b, hb, rfl⟩ := mem_upd hy
    have e : ∀ f' : F, (if f'.name = f.name then g f' else f').name = f'.name := fun f' => by
      split
      · exact hg f'
      · rfl
    rw [e, e]
    intro hne
    by_cases ea : a.name = f.name
    · have eb : ¬ b.name = f.name := fun eb => hne (ea.trans eb.symm)
      rw [if_pos ea, if_neg eb]
      intro k hk hk2
      rcases hv k hk with h1 | h1
      · exact h.di f hf b hb (fun h2 => eb h2.symm) k h1 hk2
      · have := (h.row b hb).lt hk2
        omega
    · rw [if_neg ea]
      by_cases eb : b.name = f.name
      · rw [if_pos eb]
        intro k hk hk2
        rcases hv k hk2 with h1 | h1
        · exact h.di a ha f hf ea k hk h1
        · have := (h.row a ha).lt hk
          omega
      · rw [if_neg eb]
        exact h.di a ha b hb hne
  · obtain ⟨y, hy, rfl⟩ := mem_upd hx
    have e : (if y.name = f.name then g y else y).name = y.name := by
      split
      · exact hg y
      · rfl
    rw [e]
    exact .inl (h.xq y hy)
  · obtain ⟨y, hy, rfl⟩ := mem_upd hx
    have e : (if y.name = f.name then g y else y).name = y.name := by
      split
      · exact hg y
      · rfl
    rw [e]
    intro k hk
    by_cases ey : y.name = f.name
    · rw [if_pos ey] at hk
      rcases hv k hk with h1 | h1
      · exact .inl (h.xd f hf k h1)
      · exact .inr ⟨h1, hrow.lt hk⟩
    · rw [if_neg ey] at hk
      exact .inl (h.xd y hy k hk)
theorem pdisk_change' {w w' : World} {p mb : Nat} {q : ByteArray → Nat} {dv : ByteArray → Value} {X Y : Nat → Prop} {s : St} (h : PDisk w p X s mb q dv) {f : F} (hf : f ∈ s.all) (g : F → F) (hg : ∀ x, (g x).name = x.name) (v' : Value)
    (hu : Upd Y w w') (hY : ∀ k, k < w.heap.size → Y k → k = q f.name ∨ (dv f.name).ownBlock = some k) (hfile : w'.heap[q f.name]? = some (.cells #[v', .int .i64 (g f).sure.length] 81 (0, 0))) (hrow : Row w' v' (g f).data)
    (hv : ∀ k, v'.ownBlock = some k → (dv f.name).ownBlock = some k ∨ w.heap.size ≤ k) : PDisk w' p (More X w w') { s with all := upd f.name g s.all } mb q (fun n => if n = f.name then v' else dv n) ∧ Upd X w w' := by
  have hp : ¬ Y p := fun hY' => by
    rcases hY _ (blk_lt h.head) hY' with e | e
    · exact blk_ne h.head (h.files.file f hf) (by decide) e
    · obtain ⟨cells, hc⟩ := (h.files.row f hf).typed e
      exact blk_ne h.head hc (by decide) rfl
  refine ⟨⟨blk_upd h.head hu hp, .inl h.xp, bd_more h.bd hu.size, pfiles_change h.files hf g hg v' hu hY hfile hrow hv⟩, hu.mono (fun k hk hY' => ?_)⟩
  rcases hY k hk hY' with e | e
  · rw [e]
    exact h.files.xq f hf
  · exact h.files.xd f hf k e
theorem pdisk_change {w w' : World} {p mb : Nat} {q : ByteArray → Nat} {dv : ByteArray → Value} {X Y : Nat → Prop} {s : St} (h : PDisk w p X s mb q dv) {f : F} (hf : f ∈ s.all) (g : F → F) (hg : ∀ x, (g x).name = x.name) (v' : Value)
    (hu : Upd Y w w') (hY : ∀ k, k < w.heap.size → Y k → k = q f.name ∨ (dv f.name).ownBlock = some k) (hfile : w'.heap[q f.name]? = some (.cells #[v', .int .i64 (g f).sure.length] 81 (0, 0))) (hrow : Row w' v' (g f).data)
    (hv : ∀ k, v'.ownBlock = some k → (dv f.name).ownBlock = some k ∨ w.heap.size ≤ k) : PStep p X w w' { s with all := upd f.name g s.all } :=
  let h := pdisk_change' h hf g hg v' hu hY hfile hrow hv
  ⟨⟨_, _, _, h.1⟩, h.2⟩
/-- A new, empty file is put in. -/
theorem pdisk_add {w w' : World} {p mb : Nat} {q : ByteArray → Nat} {dv : ByteArray → Value} {X : Nat → Prop} {s : St} (h : PDisk w p X s mb q dv) (f : F) (hn : f.name ∉ namesOf s.all) (b : Nat) (v' : Value)
    (hu : Upd (fun k => k = mb) w w') (hb : w.heap.size ≤ b) (hm : MapAt w' mb (f.name :: namesOf s.all) (fun n => if n = f.name then b else q n)) (hfile : w'.heap[b]? = some (.cells #[v', .int .i64 f.sure.length] 81 (0, 0))) (hrow : Row w' v' f.data)
    (hv : ∀ k, v'.ownBlock = some k → w.heap.size ≤ k) : PDisk w' p (More X w w') { s with all := put f s.all } mb (fun n => if n = f.name then b else q n) (fun n => if n = f.name then v' else dv n) ∧ Upd X w w' := by
  have hf := h.files
  have hp : p ≠ mb := fun e => hf.map.ne h.head e.symm
  have hne : ∀ y ∈ s.all, y.name ≠ f.name := fun y hy e => hn (by rw [← e]; exact List.mem_map_of_mem hy)
  have hq : ∀ y ∈ s.all, q y.name ≠ mb := fun y hy e => hf.map.ne (hf.file y hy) e.symm
  have hd : ∀ y ∈ s.all, ∀ k, (dv y.name).ownBlock = some k → k ≠ mb := fun y hy k hk e => by
    obtain ⟨cells, hc⟩ := (hf.row y hy).typed hk
    exact hf.map.ne hc e.symm
  refine ⟨⟨blk_upd h.head hu hp, .inl h.xp, bd_more h.bd hu.size, ?_⟩, hu.mono (fun k hk e => by rw [e]; exact hf.xm)⟩
  refine ⟨hm.perm ((put_perm f s.all).map _), fun x hx => ?_, fun x hx => ?_, fun x hx y hy => ?_, fun x hx y hy => ?_, .inl hf.xm, fun x hx => ?_, fun x hx => ?_⟩
  · rcases mem_put.1 hx with rfl | hx1
    · simp only [if_pos]
      exact hfile
    · simp only [if_neg (hne x hx1)]
      exact blk_upd (hf.file x hx1) hu (hq x hx1)
  · rcases mem_put.1 hx with rfl | hx1
    · simp only [if_pos]
      exact hrow
    · simp only [if_neg (hne x hx1)]
      exact (hf.row x hx1).upd hu (hd x hx1)
  · rcases mem_put.1 hx with rfl | hx1
    · rcases mem_put.1 hy with rfl | hy1
      · exact fun _ => rfl
      · simp only [if_pos, if_neg (hne y hy1)]
        intro e
        have := blk_lt (hf.file y hy1)
        omega
    · rcases mem_put.1 hy with rfl | hy1
      · simp only [if_pos, if_neg (hne x hx1)]
        intro e
        have := blk_lt (hf.file x hx1)
        omega
      · simp only [if_neg (hne x hx1), if_neg (hne y hy1)]
        exact hf.qi x hx1 y hy1
  · rcases mem_put.1 hx with rfl | hx1
    · rcases mem_put.1 hy with rfl | hy1
      · exact fun e => absurd rfl e
      · simp only [if_pos, if_neg (hne y hy1)]
        intro _ k hk hk2
        have := (hf.row y hy1).lt hk2
        have := hv k hk
        omega
    · rcases mem_put.1 hy with rfl | hy1
      · simp only [if_pos, if_neg (hne x hx1)]
        intro _ k hk hk2
        have := (hf.row x hx1).lt hk
        have := hv k hk2
        omega
      · simp only [if_neg (hne x hx1), if_neg (hne y hy1)]
        exact hf.di x hx1 y hy1
  · rcases mem_put.1 hx with rfl | hx1
    · simp only [if_pos]
      exact .inr ⟨hb, blk_lt hfile⟩
    · simp only [if_neg (hne x hx1)]
      exact .inl (hf.xq x hx1)
  · rcases mem_put.1 hx with rfl | hx1
    · simp only [if_pos]
      exact fun k hk => .inr ⟨hv k hk, hrow.lt hk⟩
    · simp only [if_neg (hne x hx1)]
      exact fun k hk => .inl (hf.xd x hx1 k hk)
/-- A file is taken out. -/
theorem pdisk_drop' {w w' : World} {p mb : Nat} {q : ByteArray → Nat} {dv : ByteArray → Value} {X : Nat → Prop} {s : St} (h : PDisk w p X s mb q dv) (nm : ByteArray)
    (hu : Upd (fun k => k = mb) w w') (hm : MapAt w' mb ((namesOf s.all).filter fun n => decide (n ≠ nm)) q) : PDisk w' p (More X w w') { s with all := s.all.filter fun f => decide (f.name ≠ nm) } mb q dv ∧ Upd X w w' := by
  have hf := h.files
  have hp : p ≠ mb := fun e => hf.map.ne h.head e.symm
  have hq : ∀ y ∈ s.all, q y.name ≠ mb := fun y hy e => hf.map.ne (hf.file y hy) e.symm
  have hd : ∀ y ∈ s.all, ∀ k, (dv y.name).ownBlock = some k → k ≠ mb := fun y hy k hk e => by
    obtain ⟨cells, hc⟩ := (hf.row y hy).typed hk
    exact hf.map.ne hc e.symm
  have hs : ∀ x, x ∈ s.all.filter (fun f => decide (f.name ≠ nm)) → x ∈ s.all := fun x hx => (List.mem_filter.1 hx).1
  refine ⟨⟨blk_upd h.head hu hp, .inl h.xp, bd_more h.bd hu.size, ?_⟩, hu.mono (fun k hk e => by rw [e]; exact hf.xm)⟩
  refine ⟨?_, fun x hx => blk_upd (hf.file x (hs x hx)) hu (hq x (hs x hx)), fun x hx => (hf.row x (hs x hx)).upd hu (hd x (hs x hx)), fun x hx y hy => hf.qi x (hs x hx) y (hs y hy), fun x hx y hy => hf.di x (hs x hx) y (hs y hy), .inl hf.xm, fun x hx => .inl (hf.xq x (hs x hx)), fun x hx k hk => .inl (hf.xd x (hs x hx) k hk)⟩
  have e : namesOf (s.all.filter fun f => decide (f.name ≠ nm)) = (namesOf s.all).filter fun n => decide (n ≠ nm) := by
    unfold namesOf
    rw [List.filter_map]
    rfl
  rw [e]
  exact hm
/-- Bytes have been laid on at a file's row: its block is as it was .. -/
theorem lay_cell {W w4 : World} {p mb : Nat} {q : ByteArray → Nat} {dv : ByteArray → Value} {X : Nat → Prop} {s : St} (h : PDisk W p X s mb q dv) {f : F} (hf : f ∈ s.all) (hg : W.grownBy w4 (dv f.name).ownBlock) :
    w4.heap[q f.name]? = some (.cells #[dv f.name, .int .i64 f.sure.length] 81 (0, 0)) := by
  refine blk_grown (h.files.file f hf) hg (fun e => ?_)
  obtain ⟨cells, hc⟩ := (h.files.row f hf).typed e.symm
  exact blk_ne (h.files.file f hf) hc (by decide) rfl
/-- .. and then is set. -/
theorem lay_done {W w4 : World} {p mb : Nat} {q : ByteArray → Nat} {dv : ByteArray → Value} {X : Nat → Prop} {s : St} (h : PDisk W p X s mb q dv) {f : F} (hf : f ∈ s.all) (data : List Int) {v1 : Value}
    (ho : (Kd.int .u8).R 5 w4 0 (fun _ => True) v1 (f.data ++ data)) (hg : W.grownBy w4 (dv f.name).ownBlock) (hat : v1.ownBlock = (dv f.name).ownBlock ∨ ∃ b, v1.ownBlock = some b ∧ W.heap.size ≤ b) :
    PStep p X W (w4.setCell ⟨q f.name, 0, none⟩ v1) { s with all := upd f.name (fun f => { f with loose := f.loose ++ data }) s.all } := by
  have hc4 := lay_cell h hf hg
  have hu : Upd (fun k => k = q f.name ∨ (dv f.name).ownBlock = some k) W (w4.setCell ⟨q f.name, 0, none⟩ v1) := ((Upd.refl _ W).grown hg (fun k hk => .inl (.inr hk))).set (.inl (.inl rfl)) v1
  refine pdisk_change h hf (fun f => { f with loose := f.loose ++ data }) (fun _ => rfl) v1 hu (fun k _ hk => hk) (blk_set hc4) ?_ (fun k hk => ?_)
  · have hr : Row w4 v1 ({ f with loose := f.loose ++ data } : F).data := by
      show Row w4 v1 (f.sure ++ (f.loose ++ data))
      rw [← List.append_assoc]
      exact ho
    exact hr.same (fun k hk => Below.heap_setCell w4 _ _ k (fun e => by
      obtain ⟨cells, hc⟩ := hr.typed hk
      exact blk_ne hc hc4 (by decide) e))
  · rcases hat with e | ⟨b, hb, hle⟩
    · exact .inl (by rw [← e]; exact hk)
    · rw [hb] at hk
      injection hk with hk
      exact .inr (by omega)
end Go.Proofs.Ytfholpajdkjbbaa.DK
/- What the small functions compute: names, equal lists, copies; conditions: lengths that a list in memory has. (Plain Lean.) -/
namespace Go.Proofs.Ytfholpajdkjbbaa.DK
open Go.RowKit Go.Proofs.YtfholpajdkjbbaaW.PrintWords Go.Proofs.YtfholpajdkjbbaaW.PrintLast Go.Proofs.YtfholpajdkjbbaaW.PrintMore Go.Proofs.Ytfholpajdkjbbaa.Mo Go.Proofs.Ytfholpajdkjbbaa.PD
set_option linter.unusedVariables false
theorem w64 {x : Int} (h0 : -9223372036854775808 ≤ x) (h1 : x ≤ 9223372036854775807) : wrap64 x = x := by unfold wrap64; omega
theorem toList_inj {a b : ByteArray} : a.toList = b.toList ↔ a = b := by
  rw [ByteArray.toList_eq, ByteArray.toList_eq]
  constructor
  · intro h
    cases a; cases b
    simp at h
    rw [h]
  · intro h
    rw [h]
theorem bt_nat (s : ByteArray) (i : Nat) (h : i < s.size) : bt s (i : Int) = ((s.data.toList[i]'(by simpa using h)).toNat : Int) := by
  unfold bt
  rw [dif_pos (by rw [Int.toNat_natCast]; exact h)]
  simp only [Int.toNat_natCast]
  congr 1
theorem okByte_iff (c : UInt8) : okByte c = true ↔ ((97 ≤ (c.toNat : Int) ∧ (c.toNat : Int) ≤ 122) ∨ (48 ≤ (c.toNat : Int) ∧ (c.toNat : Int) ≤ 57) ∨ (c.toNat : Int) = 45) := by
  unfold okByte
  simp only [Bool.or_eq_true, Bool.and_eq_true, decide_eq_true_eq, beq_iff_eq, UInt8.le_iff_toNat_le, ← UInt8.toNat_inj]
  have h1 : (97 : UInt8).toNat = 97 := rfl
  have h2 : (122 : UInt8).toNat = 122 := rfl
  have h3 : (48 : UInt8).toNat = 48 := rfl
  have h4 : (57 : UInt8).toNat = 57 := rfl
  have h5 : (45 : UInt8).toNat = 45 := rfl
  rw [h1, h2, h3, h4, h5]
  omega
theorem plain_l0 (s : ByteArray) (hs : s.size ≤ 12) : ∀ d i, i + d = s.size → Ev (fun k => disk_plain.l0 k s (i : Int)) ((s.data.toList.drop i).all okByte) := by
  intro d
  induction d with
  | zero =>
    intro i hi
    obtain rfl : i = s.size := by omega
    rw [List.drop_of_length_le (by simp)]
    exact Ev.step (f := fun _ => some _) (fun k => by simp only [disk_plain.l0]; rw [if_neg (by omega)]; rfl) (Ev.now _)
  | succ d ih =>
    intro i hi
    have hlt : i < s.size := by omega
    have hd : s.data.toList.drop i = (s.data.toList[i]'(by simpa using hlt)) :: s.data.toList.drop (i + 1) := List.drop_eq_getElem_cons (by simpa using hlt)
    rw [hd, List.all_cons]
    have hb := bt_nat s i hlt
    have hk := okByte_iff (s.data.toList[i]'(by simpa using hlt))
    rw [← hb] at hk
    have hw : wrap64 ((i : Int) + 1) = ((i + 1 : Nat) : Int) := by rw [w64 (by omega) (by omega)]; omega
    by_cases hok : okByte (s.data.toList[i]'(by simpa using hlt)) = true
    · rw [hok, Bool.true_and]
      have hk2 := hk.1 hok
      refine Ev.step (fun k => ?_) (ih (i + 1) (by omega))
      simp only [disk_plain.l0, hw]
      rw [if_pos (by omega), if_pos (by omega)]
      generalize bt s (i : Int) = x at hk2
      repeat' split
      all_goals first | rfl | (exfalso; omega)
    · have hk2 : ¬ _ := fun h => hok (hk.2 h)
      rw [Bool.not_eq_true] at hok
      rw [hok, Bool.false_and]
      refine Ev.step (f := fun _ => some false) (fun k => ?_) (Ev.now _)
      simp only [disk_plain.l0, hw]
      rw [if_pos (by omega), if_pos (by omega)]
      generalize bt s (i : Int) = x at hk2
      repeat' split
      all_goals first | rfl | (exfalso; omega)
theorem plain_f (s : ByteArray) : Ev (fun k => disk_plain.f k s) (isName s) := by
  unfold disk_plain.f isName
  by_cases h0 : s.toList = []
  · simp only [if_pos h0]
    have : s.size = 0 := by rw [ByteArray.toList_eq] at h0; have := congrArg List.length h0; simpa using this
    rw [show decide (1 ≤ s.size) = false from decide_eq_false (by omega), Bool.false_and, Bool.false_and]
    exact Ev.step (f := fun _ => some false) (fun k => by simp only [disk_plain.j0]; rw [if_pos trivial]) (Ev.now _)
  · simp only [if_neg h0]
    have h1 : 1 ≤ s.size := by
      rcases Nat.eq_zero_or_pos s.size with h | h
      · exact absurd (by rw [ByteArray.toList_eq]; exact List.length_eq_zero_iff.1 (by simpa using h)) h0
      · exact h
    rw [show decide (1 ≤ s.size) = true from decide_eq_true (by omega), Bool.true_and]
    by_cases h12 : s.size ≤ 12
    · rw [show decide (s.size ≤ 12) = true by simp; omega, Bool.true_and, show decide ((s.size : Int) > 12) = false by simp; omega]
      refine Ev.step (fun k => by simp only [disk_plain.j0]; rw [if_neg (by simp)]) ?_
      exact plain_l0 s h12 s.size 0 (by omega)
    · rw [show decide (s.size ≤ 12) = false by simp; omega, Bool.false_and, show decide ((s.size : Int) > 12) = true by simp; omega]
      exact Ev.step (f := fun _ => some false) (fun k => by simp only [disk_plain.j0]; rw [if_pos trivial]) (Ev.now _)
theorem namedR_l0 (s : ByteArray) (hs : s.size ≤ 12) : ∀ d i, i + d = s.size → Ev (fun k => eddyref10_named.l0 k s (i : Int)) ((s.data.toList.drop i).all okByte) := by
  intro d
  induction d with
  | zero =>
    intro i hi
    obtain rfl : i = s.size := by omega
    rw [List.drop_of_length_le (by simp)]
    exact Ev.step (f := fun _ => some _) (fun k => by simp only [eddyref10_named.l0]; rw [if_neg (by omega)]; rfl) (Ev.now _)
  | succ d ih =>
    intro i hi
    have hlt : i < s.size := by omega
    have hd : s.data.toList.drop i = (s.data.toList[i]'(by simpa using hlt)) :: s.data.toList.drop (i + 1) := List.drop_eq_getElem_cons (by simpa using hlt)
    rw [hd, List.all_cons]
    have hb := bt_nat s i hlt
    have hk := okByte_iff (s.data.toList[i]'(by simpa using hlt))
    rw [← hb] at hk
    have hw : wrap64 ((i : Int) + 1) = ((i + 1 : Nat) : Int) := by rw [w64 (by omega) (by omega)]; omega
    by_cases hok : okByte (s.data.toList[i]'(by simpa using hlt)) = true
    · rw [hok, Bool.true_and]
      have hk2 := hk.1 hok
      refine Ev.step (fun k => ?_) (ih (i + 1) (by omega))
      simp only [eddyref10_named.l0, hw]
      rw [if_pos (by omega), if_pos (by omega)]
      generalize bt s (i : Int) = x at hk2
      repeat' split
      all_goals first | rfl | (exfalso; omega)
    · have hk2 : ¬ _ := fun h => hok (hk.2 h)
      rw [Bool.not_eq_true] at hok
      rw [hok, Bool.false_and]
      refine Ev.step (f := fun _ => some false) (fun k => ?_) (Ev.now _)
      simp only [eddyref10_named.l0, hw]
      rw [if_pos (by omega), if_pos (by omega)]
      generalize bt s (i : Int) = x at hk2
      repeat' split
      all_goals first | rfl | (exfalso; omega)
theorem namedR_f (s : ByteArray) : Ev (fun k => eddyref10_named.f k s) (isName s) := by
  unfold eddyref10_named.f isName
  by_cases h1 : 1 ≤ s.size
  · rw [show decide (1 ≤ s.size) = true from decide_eq_true (by omega), Bool.true_and]
    by_cases h12 : s.size ≤ 12
    · rw [show decide (s.size ≤ 12) = true by simp; omega, Bool.true_and, show decide ((s.size : Int) > 12) = false by simp; omega]
      refine Ev.congr (fun k => if_neg (by omega)) ?_
      refine Ev.step (fun k => by simp only [eddyref10_named.j0]; rw [if_neg (by simp)]) ?_
      exact namedR_l0 s h12 s.size 0 (by omega)
    · rw [show decide (s.size ≤ 12) = false by simp; omega, Bool.false_and, show decide ((s.size : Int) > 12) = true by simp; omega]
      refine Ev.congr (fun k => if_neg (by omega)) ?_
      exact Ev.step (f := fun _ => some false) (fun k => by simp only [eddyref10_named.j0]; rw [if_pos trivial]) (Ev.now _)
  · rw [show decide (1 ≤ s.size) = false from decide_eq_false (by omega), Bool.false_and, Bool.false_and]
    refine Ev.congr (fun k => if_pos (by omega)) ?_
    exact Ev.step (f := fun _ => some false) (fun k => by simp only [eddyref10_named.j0]; rw [if_pos trivial]) (Ev.now _)
/-! ### equal lists, copies -/
theorem rd_nat (l : List Int) (i : Nat) (h : i < l.length) : rd l (i : Int) = l[i] := by
  unfold rd
  rw [Int.toNat_natCast, List.getD_eq_getElem?_getD, List.getElem?_eq_getElem h]
  rfl
theorem rd67_nat (l : List S67) (i : Nat) (h : i < l.length) : rd_T67 l (i : Int) = l[i] := by
  unfold rd_T67
  rw [Int.toNat_natCast, List.getD_eq_getElem?_getD, List.getElem?_eq_getElem h]
  rfl
theorem dropeq {α : Type} (l m : List α) (i : Nat) (h1 : i < l.length) (h2 : i < m.length) : l.drop i = m.drop i ↔ l[i] = m[i] ∧ l.drop (i + 1) = m.drop (i + 1) := by
  rw [List.drop_eq_getElem_cons h1, List.drop_eq_getElem_cons h2, List.cons.injEq]
open Classical in
theorem same_l0 (l m : List Int) (he : l.length = m.length) (hl : l.length < 2 ^ 62) : ∀ d i, i + d = l.length → Ev (fun k => eddylaw10_same.l0 k l m (i : Int)) (decide (l.drop i = m.drop i)) := by
  intro d
  induction d with
  | zero =>
    intro i hi
    obtain rfl : i = l.length := by omega
    rw [List.drop_length, List.drop_of_length_le (by omega)]
    exact Ev.step (f := fun _ => some _) (fun k => by simp only [eddylaw10_same.l0]; rw [if_neg (by omega)]; simp) (Ev.now _)
  | succ d ih =>
    intro i hi
    have hw : wrap64 ((i : Int) + 1) = ((i + 1 : Nat) : Int) := by rw [w64 (by omega) (by omega)]; omega
    by_cases hx : l[i]'(by omega) = m[i]'(by omega)
    · rw [show decide (l.drop i = m.drop i) = decide (l.drop (i + 1) = m.drop (i + 1)) by rw [decide_eq_decide, dropeq l m i (by omega) (by omega)]; simp [hx]]
      refine Ev.step (fun k => ?_) (ih (i + 1) (by omega))
      simp only [eddylaw10_same.l0, hw]
      rw [if_pos (by omega), if_pos (by omega), if_pos (by omega), rd_nat l i (by omega), rd_nat m i (by omega), if_pos hx]
    · rw [show decide (l.drop i = m.drop i) = false by rw [decide_eq_false_iff_not, dropeq l m i (by omega) (by omega)]; simp [hx]]
      refine Ev.step (f := fun _ => some false) (fun k => ?_) (Ev.now _)
      simp only [eddylaw10_same.l0, hw]
      rw [if_pos (by omega), if_pos (by omega), if_pos (by omega), rd_nat l i (by omega), rd_nat m i (by omega), if_neg hx]
open Classical in
theorem same_f (l m : List Int) (hl : l.length < 2 ^ 62) : Ev (fun k => eddylaw10_same.f k l m) (decide (l = m)) := by
  unfold eddylaw10_same.f
  by_cases he : l.length = m.length
  · refine Ev.congr (fun k => if_pos (by omega)) ?_
    exact same_l0 l m he hl l.length 0 (by omega)
  · rw [show decide (l = m) = false by rw [decide_eq_false_iff_not]; intro h; rw [h] at he; exact he rfl]
    exact Ev.congr (f := fun _ => some false) (fun k => if_neg (by omega)) (Ev.now _)
open Classical in
theorem alike_l0 (l m : List S67) (he : l.length = m.length) (hl : l.length < 2 ^ 62) (hd : ∀ x ∈ l, x.f1.length < 2 ^ 62) : ∀ d i, i + d = l.length → Ev (fun k => eddylaw10_alike.l0 k l m (i : Int)) (decide (l.drop i = m.drop i)) := by
  intro d
  induction d with
  | zero =>
    intro i hi
    obtain rfl : i = l.length := by omega
    rw [List.drop_length, List.drop_of_length_le (by omega)]
    exact Ev.step (f := fun _ => some _) (fun k => by simp only [eddylaw10_alike.l0]; rw [if_neg (by omega)]; simp) (Ev.now _)
  | succ d ih =>
    intro i hi
    have hw : wrap64 ((i : Int) + 1) = ((i + 1 : Nat) : Int) := by rw [w64 (by omega) (by omega)]; omega
    have hE := dropeq l m i (by omega) (by omega)
    have hI := ih (i + 1) (by omega)
    have r1 := rd67_nat l i (by omega)
    have r2 := rd67_nat m i (by omega)
    have hs := same_f (l[i]'(by omega)).f1 (m[i]'(by omega)).f1 (hd _ (List.getElem_mem _))
    generalize l[i]'(by omega) = x at *
    generalize m[i]'(by omega) = y at *
    rcases x with ⟨xn, xd, xs⟩
    rcases y with ⟨yn, yd, ys⟩
    simp only [S67.mk.injEq] at hE
    by_cases hn : xn = yn
    · by_cases hz : xs = ys
      · by_cases hb : xd = yd
        · rw [show decide (l.drop i = m.drop i) = decide (l.drop (i + 1) = m.drop (i + 1)) by rw [decide_eq_decide, hE]; simp [hn, hz, hb]]
          refine Ev.step (f := fun k => (eddylaw10_same.f k xd yd).bind fun t => if t = true then eddylaw10_alike.l0 k l m ((i + 1 : Nat) : Int) else some false) (fun k => ?_) (Ev.bind hs ?_)
          · simp only [eddylaw10_alike.l0, hw, r1, r2]
            rw [if_pos (by omega), if_pos (by omega), if_pos (by omega), if_pos (toList_inj.2 hn), if_pos hz]
          · simp only [hb, decide_true, if_true]
            exact hI
        · rw [show decide (l.drop i = m.drop i) = false by rw [decide_eq_false_iff_not, hE]; simp [hb]]
          refine Ev.step (f := fun k => (eddylaw10_same.f k xd yd).bind fun t => if t = true then eddylaw10_alike.l0 k l m ((i + 1 : Nat) : Int) else some false) (fun k => ?_) (Ev.bind hs ?_)
          · simp only [eddylaw10_alike.l0, hw, r1, r2]
            rw [if_pos (by omega), if_pos (by omega), if_pos (by omega), if_pos (toList_inj.2 hn), if_pos hz]
          · simp only [hb, decide_false]
            exact Ev.now _
      · rw [show decide (l.drop i = m.drop i) = false by rw [decide_eq_false_iff_not, hE]; simp [hz]]
        refine Ev.step (f := fun _ => some false) (fun k => ?_) (Ev.now _)
        simp only [eddylaw10_alike.l0, hw, r1, r2]
        rw [if_pos (by omega), if_pos (by omega), if_pos (by omega), if_pos (toList_inj.2 hn), if_neg hz]
    · rw [show decide (l.drop i = m.drop i) = false by rw [decide_eq_false_iff_not, hE]; simp [hn]]
      refine Ev.step (f := fun _ => some false) (fun k => ?_) (Ev.now _)
      simp only [eddylaw10_alike.l0, hw, r1, r2]
      rw [if_pos (by omega), if_pos (by omega), if_pos (by omega), if_neg (fun h => hn (toList_inj.1 h))]
open Classical in
theorem alike_f (l m : List S67) (hl : l.length < 2 ^ 62) (hd : ∀ x ∈ l, x.f1.length < 2 ^ 62) : Ev (fun k => eddylaw10_alike.f k l m) (decide (l = m)) := by
  unfold eddylaw10_alike.f
  by_cases he : l.length = m.length
  · refine Ev.congr (fun k => if_pos (by omega)) ?_
    exact alike_l0 l m he hl hd l.length 0 (by omega)
  · rw [show decide (l = m) = false by rw [decide_eq_false_iff_not]; intro h; rw [h] at he; exact he rfl]
    exact Ev.congr (f := fun _ => some false) (fun k => if_neg (by omega)) (Ev.now _)
theorem rdB_nat (l : List ByteArray) (i : Nat) (h : i < l.length) : rdOf ByteArray.empty l (i : Int) = l[i] := by
  unfold rdOf
  rw [Int.toNat_natCast, List.getD_eq_getElem?_getD, List.getElem?_eq_getElem h]
  rfl
open Classical in
theorem listed_l0 (l m : List ByteArray) (he : l.length = m.length) (hl : l.length < 2 ^ 62) : ∀ d i, i + d = l.length → Ev (fun k => eddylaw10_listed.l0 k l m (i : Int)) (decide (l.drop i = m.drop i)) := by
  intro d
  induction d with
  | zero =>
    intro i hi
    obtain rfl : i = l.length := by omega
    rw [List.drop_length, List.drop_of_length_le (by omega)]
    exact Ev.step (f := fun _ => some _) (fun k => by simp only [eddylaw10_listed.l0]; rw [if_neg (by omega)]; simp) (Ev.now _)
  | succ d ih =>
    intro i hi
    have hw : wrap64 ((i : Int) + 1) = ((i + 1 : Nat) : Int) := by rw [w64 (by omega) (by omega)]; omega
    by_cases hx : l[i]'(by omega) = m[i]'(by omega)
    · rw [show decide (l.drop i = m.drop i) = decide (l.drop (i + 1) = m.drop (i + 1)) by rw [decide_eq_decide, dropeq l m i (by omega) (by omega)]; simp [hx]]
      refine Ev.step (fun k => ?_) (ih (i + 1) (by omega))
      simp only [eddylaw10_listed.l0, hw]
      rw [if_pos (by omega), if_pos (by omega), if_pos (by omega), rdB_nat l i (by omega), rdB_nat m i (by omega), if_pos (toList_inj.2 hx)]
    · rw [show decide (l.drop i = m.drop i) = false by rw [decide_eq_false_iff_not, dropeq l m i (by omega) (by omega)]; simp [hx]]
      refine Ev.step (f := fun _ => some false) (fun k => ?_) (Ev.now _)
      simp only [eddylaw10_listed.l0, hw]
      rw [if_pos (by omega), if_pos (by omega), if_pos (by omega), rdB_nat l i (by omega), rdB_nat m i (by omega), if_neg (fun h => hx (toList_inj.1 h))]
open Classical in
theorem listed_f (l m : List ByteArray) (hl : l.length < 2 ^ 62) : Ev (fun k => eddylaw10_listed.f k l m) (decide (l = m)) := by
  unfold eddylaw10_listed.f
  by_cases he : l.length = m.length
  · refine Ev.congr (fun k => if_pos (by omega)) ?_
    exact listed_l0 l m he hl l.length 0 (by omega)
  · rw [show decide (l = m) = false by rw [decide_eq_false_iff_not]; intro h; rw [h] at he; exact he rfl]
    exact Ev.congr (f := fun _ => some false) (fun k => if_neg (by omega)) (Ev.now _)
theorem copyBytes_f (l : List Int) (hl : l.length < 140737488355328) : eddylaw10_copyBytes.f l = some l := by
  unfold eddylaw10_copyBytes.f
  rw [if_pos (by simpa using hl)]
  rfl
theorem take_snoc' {α : Type} (l : List α) (i : Nat) (h : i < l.length) : l.take (i + 1) = l.take i ++ [l[i]] := by
  rw [List.take_succ_eq_append_getElem h]
theorem copyFiles_l0 (l : List S67) (hl : l.length < 2 ^ 40) (hd : ∀ x ∈ l, x.f1.length < 140737488355328) : ∀ d i, i + d = l.length → Ev (fun k => eddylaw10_copyFiles.l0 k l (l.take i) (i : Int)) l := by
  intro d
  induction d with
  | zero =>
    intro i hi
    obtain rfl : i = l.length := by omega
    rw [List.take_length]
    exact Ev.step (f := fun _ => some l) (fun k => by simp only [eddylaw10_copyFiles.l0]; rw [if_neg (by omega)]) (Ev.now _)
  | succ d ih =>
    intro i hi
    have hw : wrap64 ((i : Int) + 1) = ((i + 1 : Nat) : Int) := by rw [w64 (by omega) (by omega)]; omega
    have hI := ih (i + 1) (by omega)
    rw [take_snoc' l i (by omega)] at hI
    refine Ev.step (fun k => ?_) hI
    simp only [eddylaw10_copyFiles.l0, hw, rd67_nat l i (by omega)]
    rw [if_pos (by omega), if_pos (by omega), copyBytes_f _ (hd _ (List.getElem_mem _)), Option.bind_some, if_pos (by rw [List.length_take]; omega)]
theorem copyFiles_f (l : List S67) (hl : l.length < 2 ^ 40) (hd : ∀ x ∈ l, x.f1.length < 140737488355328) : Ev (fun k => eddylaw10_copyFiles.f k l) l := copyFiles_l0 l hl hd l.length 0 (by omega)
theorem fresh_l0 (l : List Int) (a b : Nat) (hb : b ≤ l.length) (hl : l.length < 140737488355328) : ∀ d i, i + d = b → a ≤ i → Ev (fun k => eddyref10_fresh.l0 k l (b : Int) ((l.take i).drop a) (i : Int)) ((l.take b).drop a) := by
  intro d
  induction d with
  | zero =>
    intro i hi ha
    obtain rfl : i = b := by omega
    exact Ev.step (f := fun _ => some _) (fun k => by simp only [eddyref10_fresh.l0]; rw [if_neg (by omega)]) (Ev.now _)
  | succ d ih =>
    intro i hi ha
    have hw : wrap64 ((i : Int) + 1) = ((i + 1 : Nat) : Int) := by rw [w64 (by omega) (by omega)]; omega
    have hI := ih (i + 1) (by omega) (by omega)
    rw [take_snoc' l i (by omega), List.drop_append_of_le_length (by rw [List.length_take]; omega)] at hI
    refine Ev.step (fun k => ?_) hI
    simp only [eddyref10_fresh.l0, hw, rd_nat l i (by omega)]
    rw [if_pos (by omega), if_pos (by omega), if_pos (by omega), if_pos (by rw [List.length_drop, List.length_take]; omega)]
theorem fresh_f (l : List Int) (a b : Nat) (hab : a ≤ b) (hb : b ≤ l.length) (hl : l.length < 140737488355328) : Ev (fun k => eddyref10_fresh.f k l (a : Int) (b : Int)) ((l.take b).drop a) := by
  have h := fresh_l0 l a b hb hl (b - a) a (by omega) (Nat.le_refl _)
  rw [List.drop_of_length_le (by rw [List.length_take]; omega)] at h
  exact h
end Go.Proofs.Ytfholpajdkjbbaa.DK
/- The program's disk: Crash, pay, Arm, Fail, may: what each makes of the disk in memory; conditions: those in each theorem. -/
namespace Go.Proofs.Ytfholpajdkjbbaa.DK
open Go.RowKit Go.Proofs.YtfholpajdkjbbaaW.PrintWords Go.Proofs.YtfholpajdkjbbaaW.PrintLast Go.Proofs.YtfholpajdkjbbaaW.PrintMore Go.Proofs.Ytfholpajdkjbbaa.Mo
set_option linter.unusedVariables false
set_option linter.unusedSimpArgs false
theorem eqA76 (d : Nat) (w : World) (x0 y0 : Bool) (x1 y1 : Int) (x2 y2 : Int) (x3 y3 : Int) :
    (Op.equalIn (d + 2) 76 (.agg #[.bool x0, .int .i64 x1, .int .i64 x2, .int .i64 x3]) (.agg #[.bool y0, .int .i64 y1, .int .i64 y2, .int .i64 y3])).run Try.prog w = .ok (x0 == y0 && (x1 == y1 && (x2 == y2 && (x3 == y3)))) w := by
  refine eqA_of Try.underlying76 (by kernel_rfl) ?_
  refine eqf_cons (by rfl) (by go_simp; rfl) (by go_simp; rfl) (by go_simp) ?_
  refine eqf_cons (by rfl) (by go_simp; rfl) (by go_simp; rfl) (by go_simp) ?_
  refine eqf_cons (by rfl) (by go_simp; rfl) (by go_simp; rfl) (by go_simp) ?_
  exact eqf_last (by rfl) (by go_simp; rfl) (by go_simp; rfl) (by go_simp)
attribute [local go_sem high] eqA76
set_option maxHeartbeats 1000000 in
theorem crash_raw (w : World) (p : Nat) (m : Value) (dn ar : Bool) (l a f : Int) (hp : w.heap[p]? = some (.cells #[m, .bool dn, .bool ar, .int .i64 l, .int .i64 a, .int .i64 f] 78 (0, 0))) :
    Calls Try.prog 46 #[.pointer (some ⟨p, 0, none⟩)] w fun e w' => e = .returned (.tuple #[]) ∧ Upd (fun k => k = p) w w' ∧ w'.heap[p]? = some (.cells #[m, .bool true, .bool false, .int .i64 0, .int .i64 0, .int .i64 0] 78 (0, 0)) := by
  have c0 := blk_cell hp 0
  have c1 := blk_cell hp 1
  have c2 := blk_cell hp 2
  have c3 := blk_cell hp 3
  have c4 := blk_cell hp 4
  have c5 := blk_cell hp 5
  have fc0 := blk_frozen hp 0
  have fc1 := blk_frozen hp 1
  have fc2 := blk_frozen hp 2
  have fc3 := blk_frozen hp 3
  have fc4 := blk_frozen hp 4
  have fc5 := blk_frozen hp 5
  simp only [List.getElem?_toArray, List.getElem?_cons_succ, List.getElem?_cons_zero] at c0 c1 c2 c3 c4 c5
  have hlt := blk_lt hp
  have HP := Aside0.mk hp
  clear hp
  go_enter Try.func46, Try.ntmps46
  go_wp2
  go_quiet (fail)
  go_wp2
  all_goals (first | go_end0 | ((try simp only [Exit.inBlock, Exit.then]); refine bodyPost_ret (results_none rfl _ _ _) rfl ?_))
  · exact ⟨rfl, (by repeat (with_reducible first | exact Upd.refl _ _ | apply Upd.set1 | apply Upd.alloc | apply Upd.drewN | apply Upd.drew)), (by simp only [heap_set, heap_drewN, heap_drew, heap_alloc_lt _ _ _ hlt, HP.out, Option.map_some] <;> rfl)⟩
  · rename_i hz
    simp only [Bool.not_eq_false', beq_iff_eq] at hz
    obtain ⟨rfl, rfl, rfl, rfl⟩ := hz
    exact ⟨rfl, (by repeat (with_reducible first | exact Upd.refl _ _ | apply Upd.set1 | apply Upd.alloc | apply Upd.drewN | apply Upd.drew)), (by simp only [heap_set, heap_drewN, heap_drew, heap_alloc_lt _ _ _ hlt, HP.out, Option.map_some] <;> rfl)⟩
theorem crash_calls (w : World) (p : Nat) (X : Nat → Prop) (s : St) (h : Prog w p X s) : Calls Try.prog 46 #[.pointer (some ⟨p, 0, none⟩)] w fun e w' => e = .returned (.tuple #[]) ∧ PStep p X w w' s.fall := by
  obtain ⟨mb, q, dv, h⟩ := h
  refine (crash_raw w p _ _ _ _ _ _ h.head).mono fun e w' ⟨h1, h2, h3⟩ => ⟨h1, h.put rfl h2 h3⟩
/-! ### pay -/
set_option maxHeartbeats 1000000 in
theorem pay_free (w : World) (p : Nat) (m : Value) (dn : Bool) (l a f cost : Int) (hp : w.heap[p]? = some (.cells #[m, .bool dn, .bool false, .int .i64 l, .int .i64 a, .int .i64 f] 78 (0, 0))) :
    Calls Try.prog 54 #[.pointer (some ⟨p, 0, none⟩), .int .i64 cost] w fun e w' => e = .returned (.tuple #[.bool true, .int .i64 0]) ∧ w' = w := by
  have c0 := blk_cell hp 0
  have c1 := blk_cell hp 1
  have c2 := blk_cell hp 2
  have c3 := blk_cell hp 3
  have c4 := blk_cell hp 4
  have c5 := blk_cell hp 5
  have fc0 := blk_frozen hp 0
  have fc1 := blk_frozen hp 1
  have fc2 := blk_frozen hp 2
  have fc3 := blk_frozen hp 3
  have fc4 := blk_frozen hp 4
  have fc5 := blk_frozen hp 5
  simp only [List.getElem?_toArray, List.getElem?_cons_succ, List.getElem?_cons_zero] at c0 c1 c2 c3 c4 c5
  clear hp
  go_enter Try.func54, Try.ntmps54
  go_wp2
  go_ret2
  exact ⟨rfl, rfl⟩
set_option maxHeartbeats 1000000 in
theorem pay_yes (w : World) (p : Nat) (m : Value) (dn : Bool) (l a f cost : Int) (hp : w.heap[p]? = some (.cells #[m, .bool dn, .bool true, .int .i64 l, .int .i64 a, .int .i64 f] 78 (0, 0))) (h0 : 0 ≤ cost) (h1 : cost ≤ l) (h2 : l ≤ 9223372036854775807) :
    Calls Try.prog 54 #[.pointer (some ⟨p, 0, none⟩), .int .i64 cost] w fun e w' => e = .returned (.tuple #[.bool true, .int .i64 0]) ∧ Upd (fun k => k = p) w w' ∧ w'.heap[p]? = some (.cells #[m, .bool dn, .bool true, .int .i64 (l - cost), .int .i64 a, .int .i64 f] 78 (0, 0)) := by
  have c0 := blk_cell hp 0
  have c1 := blk_cell hp 1
  have c2 := blk_cell hp 2
  have c3 := blk_cell hp 3
  have c4 := blk_cell hp 4
  have c5 := blk_cell hp 5
  have fc0 := blk_frozen hp 0
  have fc1 := blk_frozen hp 1
  have fc2 := blk_frozen hp 2
  have fc3 := blk_frozen hp 3
  have fc4 := blk_frozen hp 4
  have fc5 := blk_frozen hp 5
  simp only [List.getElem?_toArray, List.getElem?_cons_succ, List.getElem?_cons_zero] at c0 c1 c2 c3 c4 c5
  have hlt := blk_lt hp
  have HP := Aside0.mk hp
  clear hp
  go_enter Try.func54, Try.ntmps54
  go_wp2
  go_ret2
  exact ⟨rfl, (by repeat (with_reducible first | exact Upd.refl _ _ | apply Upd.set1 | apply Upd.alloc | apply Upd.drewN | apply Upd.drew)), (by simp only [heap_set, heap_drewN, heap_drew, heap_alloc_lt _ _ _ hlt, HP.out, Option.map_some] <;> rfl)⟩
set_option maxHeartbeats 1000000 in
theorem pay_no (w : World) (p : Nat) (m : Value) (dn : Bool) (l a f cost : Int) (hp : w.heap[p]? = some (.cells #[m, .bool dn, .bool true, .int .i64 l, .int .i64 a, .int .i64 f] 78 (0, 0))) (h1 : ¬ cost ≤ l) :
    Calls Try.prog 54 #[.pointer (some ⟨p, 0, none⟩), .int .i64 cost] w fun e w' => e = .returned (.tuple #[.bool false, .int .i64 l]) ∧ Upd (fun k => k = p) w w' ∧ w'.heap[p]? = some (.cells #[m, .bool true, .bool false, .int .i64 0, .int .i64 0, .int .i64 0] 78 (0, 0)) := by
  have c0 := blk_cell hp 0
  have c1 := blk_cell hp 1
  have c2 := blk_cell hp 2
  have c3 := blk_cell hp 3
  have c4 := blk_cell hp 4
  have c5 := blk_cell hp 5
  have fc0 := blk_frozen hp 0
  have fc1 := blk_frozen hp 1
  have fc2 := blk_frozen hp 2
  have fc3 := blk_frozen hp 3
  have fc4 := blk_frozen hp 4
  have fc5 := blk_frozen hp 5
  simp only [List.getElem?_toArray, List.getElem?_cons_succ, List.getElem?_cons_zero] at c0 c1 c2 c3 c4 c5
  have hlt := blk_lt hp
  have HC := Aside0.mk (crash_raw w p _ _ _ _ _ _ hp)
  clear hp
  go_enter Try.func54, Try.ntmps54
  go_wp2_with (go_at_call 46; refine HC.out.mono ?_; rintro e w1 ⟨rfl, hu, hh⟩)
  go_ret2
  exact ⟨rfl, hu, hh⟩
theorem pay_ctx (w : World) (p : Nat) (X : Nat → Prop) (s : St) (cost : Int) (mb : Nat) (q : ByteArray → Nat) (dv : ByteArray → Value) (h : PDisk w p X s mb q dv) (ok : Ok s) (h0 : 0 ≤ cost) :
    Calls Try.prog 54 #[.pointer (some ⟨p, 0, none⟩), .int .i64 cost] w fun e w' => e = .returned (.tuple #[.bool (s.pays cost).2, .int .i64 (if (s.pays cost).2 = true then 0 else s.left)]) ∧ PDisk w' p (More X w w') (if (s.pays cost).2 = true then (s.pays cost).1 else s.fall) mb q dv ∧ Upd X w w' := by
  have h' := h
  have hd := h.head
  unfold diskCells at hd
  by_cases hl : s.left < 0
  · have e : s.pays cost = (s, true) := if_pos hl
    rw [e]
    rw [show decide (0 ≤ s.left) = false from decide_eq_false (by omega)] at hd
    refine (pay_free w p _ _ _ _ _ cost hd).mono fun e w' ⟨h1, h2⟩ => ⟨h1, ?_⟩
    subst h2
    exact h'.refl
  · rw [show decide (0 ≤ s.left) = true from decide_eq_true (by omega), show max s.left 0 = s.left from by omega] at hd
    by_cases hc : cost ≤ s.left
    · have e : s.pays cost = ({ s with left := s.left - cost }, true) := by unfold St.pays; rw [if_neg hl, if_pos hc]
      rw [e]
      simp only [↓reduceIte]
      refine (pay_yes w p _ _ _ _ _ cost hd h0 hc ok.l1).mono fun e w' ⟨h1, h2, h3⟩ => ⟨h1, h.set rfl h2 ?_⟩
      rw [h3]
      unfold diskCells
      dsimp only
      rw [show decide (0 ≤ s.left - cost) = true from decide_eq_true (by omega), show max (s.left - cost) 0 = s.left - cost from by omega]
    · have e : s.pays cost = (s, false) := by unfold St.pays; rw [if_neg hl, if_neg hc]
      rw [e]
      refine (pay_no w p _ _ _ _ _ cost hd hc).mono fun e w' ⟨h1, h2, h3⟩ => ⟨h1, h.set rfl h2 h3⟩
/-! ### Arm, Fail -/
attribute [local go_sem] max2_int min2_int max_two min_two
set_option maxHeartbeats 1000000 in
theorem arm_down (w : World) (p : Nat) (m : Value) (ar : Bool) (l a f u : Int) (hp : w.heap[p]? = some (.cells #[m, .bool true, .bool ar, .int .i64 l, .int .i64 a, .int .i64 f] 78 (0, 0))) :
    Calls Try.prog 30 #[.pointer (some ⟨p, 0, none⟩), .int .i64 u] w fun e w' => e = .returned (.tuple #[]) ∧ w' = w := by
  have c0 := blk_cell hp 0
  have c1 := blk_cell hp 1
  have c2 := blk_cell hp 2
  have c3 := blk_cell hp 3
  have c4 := blk_cell hp 4
  have c5 := blk_cell hp 5
  have fc0 := blk_frozen hp 0
  have fc1 := blk_frozen hp 1
  have fc2 := blk_frozen hp 2
  have fc3 := blk_frozen hp 3
  have fc4 := blk_frozen hp 4
  have fc5 := blk_frozen hp 5
  simp only [List.getElem?_toArray, List.getElem?_cons_succ, List.getElem?_cons_zero] at c0 c1 c2 c3 c4 c5
  clear hp
  go_enter Try.func30, Try.ntmps30
  go_wp2
  all_goals (first | go_end0 | ((try simp only [Exit.inBlock, Exit.then]); refine bodyPost_ret (results_none rfl _ _ _) rfl ?_))
  exact ⟨rfl, rfl⟩
set_option maxHeartbeats 1000000 in
theorem arm_up (w : World) (p : Nat) (m : Value) (ar : Bool) (l a f u : Int) (hp : w.heap[p]? = some (.cells #[m, .bool false, .bool ar, .int .i64 l, .int .i64 a, .int .i64 f] 78 (0, 0))) :
    Calls Try.prog 30 #[.pointer (some ⟨p, 0, none⟩), .int .i64 u] w fun e w' => e = .returned (.tuple #[]) ∧ Upd (fun k => k = p) w w' ∧ w'.heap[p]? = some (.cells #[m, .bool false, .bool (decide (0 ≤ u)), .int .i64 (max u 0), .int .i64 a, .int .i64 f] 78 (0, 0)) := by
  have c0 := blk_cell hp 0
  have c1 := blk_cell hp 1
  have c2 := blk_cell hp 2
  have c3 := blk_cell hp 3
  have c4 := blk_cell hp 4
  have c5 := blk_cell hp 5
  have fc0 := blk_frozen hp 0
  have fc1 := blk_frozen hp 1
  have fc2 := blk_frozen hp 2
  have fc3 := blk_frozen hp 3
  have fc4 := blk_frozen hp 4
  have fc5 := blk_frozen hp 5
  simp only [List.getElem?_toArray, List.getElem?_cons_succ, List.getElem?_cons_zero] at c0 c1 c2 c3 c4 c5
  have hlt := blk_lt hp
  have HP := Aside0.mk hp
  clear hp
  go_enter Try.func30, Try.ntmps30
  go_wp2
  all_goals (first | go_end0 | ((try simp only [Exit.inBlock, Exit.then]); refine bodyPost_ret (results_none rfl _ _ _) rfl ?_))
  all_goals first
    | (rw [show max u 0 = u from by omega]; exact ⟨rfl, (by repeat (with_reducible first | exact Upd.refl _ _ | apply Upd.set1 | apply Upd.alloc | apply Upd.drewN | apply Upd.drew)), (by simp only [heap_set, heap_drewN, heap_drew, heap_alloc_lt _ _ _ hlt, HP.out, Option.map_some] <;> rfl)⟩)
    | (rw [show max u 0 = 0 from by omega]; exact ⟨rfl, (by repeat (with_reducible first | exact Upd.refl _ _ | apply Upd.set1 | apply Upd.alloc | apply Upd.drewN | apply Upd.drew)), (by simp only [heap_set, heap_drewN, heap_drew, heap_alloc_lt _ _ _ hlt, HP.out, Option.map_some] <;> rfl)⟩)
set_option maxHeartbeats 1000000 in
theorem fail_down (w : World) (p : Nat) (m : Value) (ar : Bool) (l a f u v : Int) (hp : w.heap[p]? = some (.cells #[m, .bool true, .bool ar, .int .i64 l, .int .i64 a, .int .i64 f] 78 (0, 0))) :
    Calls Try.prog 34 #[.pointer (some ⟨p, 0, none⟩), .int .i64 u, .int .i64 v] w fun e w' => e = .returned (.tuple #[]) ∧ w' = w := by
  have c0 := blk_cell hp 0
  have c1 := blk_cell hp 1
  have c2 := blk_cell hp 2
  have c3 := blk_cell hp 3
  have c4 := blk_cell hp 4
  have c5 := blk_cell hp 5
  have fc0 := blk_frozen hp 0
  have fc1 := blk_frozen hp 1
  have fc2 := blk_frozen hp 2
  have fc3 := blk_frozen hp 3
  have fc4 := blk_frozen hp 4
  have fc5 := blk_frozen hp 5
  simp only [List.getElem?_toArray, List.getElem?_cons_succ, List.getElem?_cons_zero] at c0 c1 c2 c3 c4 c5
  clear hp
  go_enter Try.func34, Try.ntmps34
  go_wp2
  all_goals (first | go_end0 | ((try simp only [Exit.inBlock, Exit.then]); refine bodyPost_ret (results_none rfl _ _ _) rfl ?_))
  exact ⟨rfl, rfl⟩
set_option maxHeartbeats 1000000 in
theorem fail_yes (w : World) (p : Nat) (m : Value) (ar : Bool) (l a f u v : Int) (hp : w.heap[p]? = some (.cells #[m, .bool false, .bool ar, .int .i64 l, .int .i64 a, .int .i64 f] 78 (0, 0))) (hu : 0 ≤ u) (hv : 0 < v) :
    Calls Try.prog 34 #[.pointer (some ⟨p, 0, none⟩), .int .i64 u, .int .i64 v] w fun e w' => e = .returned (.tuple #[]) ∧ Upd (fun k => k = p) w w' ∧ w'.heap[p]? = some (.cells #[m, .bool false, .bool ar, .int .i64 l, .int .i64 u, .int .i64 v] 78 (0, 0)) := by
  have c0 := blk_cell hp 0
  have c1 := blk_cell hp 1
  have c2 := blk_cell hp 2
  have c3 := blk_cell hp 3
  have c4 := blk_cell hp 4
  have c5 := blk_cell hp 5
  have fc0 := blk_frozen hp 0
  have fc1 := blk_frozen hp 1
  have fc2 := blk_frozen hp 2
  have fc3 := blk_frozen hp 3
  have fc4 := blk_frozen hp 4
  have fc5 := blk_frozen hp 5
  simp only [List.getElem?_toArray, List.getElem?_cons_succ, List.getElem?_cons_zero] at c0 c1 c2 c3 c4 c5
  have hlt := blk_lt hp
  have HP := Aside0.mk hp
  clear hp
  go_enter Try.func34, Try.ntmps34
  go_wp2
  all_goals (first | go_end0 | ((try simp only [Exit.inBlock, Exit.then]); refine bodyPost_ret (results_none rfl _ _ _) rfl ?_))
  exact ⟨rfl, (by repeat (with_reducible first | exact Upd.refl _ _ | apply Upd.set1 | apply Upd.alloc | apply Upd.drewN | apply Upd.drew)), (by simp only [heap_set, heap_drewN, heap_drew, heap_alloc_lt _ _ _ hlt, HP.out, Option.map_some] <;> rfl)⟩
set_option maxHeartbeats 1000000 in
theorem fail_no (w : World) (p : Nat) (m : Value) (ar : Bool) (l a f u v : Int) (hp : w.heap[p]? = some (.cells #[m, .bool false, .bool ar, .int .i64 l, .int .i64 a, .int .i64 f] 78 (0, 0))) (hu : ¬ (0 ≤ u ∧ 0 < v)) :
    Calls Try.prog 34 #[.pointer (some ⟨p, 0, none⟩), .int .i64 u, .int .i64 v] w fun e w' => e = .returned (.tuple #[]) ∧ Upd (fun k => k = p) w w' ∧ w'.heap[p]? = some (.cells #[m, .bool false, .bool ar, .int .i64 l, .int .i64 0, .int .i64 0] 78 (0, 0)) := by
  have c0 := blk_cell hp 0
  have c1 := blk_cell hp 1
  have c2 := blk_cell hp 2
  have c3 := blk_cell hp 3
  have c4 := blk_cell hp 4
  have c5 := blk_cell hp 5
  have fc0 := blk_frozen hp 0
  have fc1 := blk_frozen hp 1
  have fc2 := blk_frozen hp 2
  have fc3 := blk_frozen hp 3
  have fc4 := blk_frozen hp 4
  have fc5 := blk_frozen hp 5
  simp only [List.getElem?_toArray, List.getElem?_cons_succ, List.getElem?_cons_zero] at c0 c1 c2 c3 c4 c5
  have hlt := blk_lt hp
  have HP := Aside0.mk hp
  clear hp
  by_cases h1 : 0 ≤ u
  · have h2 : ¬ 0 < v := fun h => hu ⟨h1, h⟩
    clear hu
    go_enter Try.func34, Try.ntmps34
    go_wp2
    all_goals (first | go_end0 | ((try simp only [Exit.inBlock, Exit.then]); refine bodyPost_ret (results_none rfl _ _ _) rfl ?_))
    exact ⟨rfl, (by repeat (with_reducible first | exact Upd.refl _ _ | apply Upd.set1 | apply Upd.alloc | apply Upd.drewN | apply Upd.drew)), (by simp only [heap_set, heap_drewN, heap_drew, heap_alloc_lt _ _ _ hlt, HP.out, Option.map_some] <;> rfl)⟩
  · clear hu
    go_enter Try.func34, Try.ntmps34
    go_wp2
    all_goals (first | go_end0 | ((try simp only [Exit.inBlock, Exit.then]); refine bodyPost_ret (results_none rfl _ _ _) rfl ?_))
    exact ⟨rfl, (by repeat (with_reducible first | exact Upd.refl _ _ | apply Upd.set1 | apply Upd.alloc | apply Upd.drewN | apply Upd.drew)), (by simp only [heap_set, heap_drewN, heap_drew, heap_alloc_lt _ _ _ hlt, HP.out, Option.map_some] <;> rfl)⟩
theorem arm_calls (w : World) (p : Nat) (X : Nat → Prop) (s : St) (u : Int) (h : Prog w p X s) : Calls Try.prog 30 #[.pointer (some ⟨p, 0, none⟩), .int .i64 u] w fun e w' => e = .returned (.tuple #[]) ∧ PStep p X w w' (s.arm u) := by
  have h' := h
  obtain ⟨mb, q, dv, h⟩ := h
  have hd := h.head
  unfold diskCells at hd
  unfold St.arm
  by_cases hn : s.down = true
  · rw [hn] at hd
    rw [if_pos hn]
    refine (arm_down w p _ _ _ _ _ u hd).mono fun e w' ⟨h1, h2⟩ => ⟨h1, ?_⟩
    subst h2
    exact PStep.refl h'
  · rw [if_neg hn]
    rw [Bool.not_eq_true] at hn
    rw [hn] at hd
    refine (arm_up w p _ _ _ _ _ u hd).mono fun e w' ⟨h1, h2, h3⟩ => ⟨h1, h.put rfl h2 ?_⟩
    rw [h3]
    unfold diskCells
    dsimp only
    rw [hn, show decide (0 ≤ max u (-1)) = decide (0 ≤ u) from decide_eq_decide.2 (by omega), show max (max u (-1)) 0 = max u 0 from by omega]
theorem fail_calls (w : World) (p : Nat) (X : Nat → Prop) (s : St) (u v : Int) (h : Prog w p X s) : Calls Try.prog 34 #[.pointer (some ⟨p, 0, none⟩), .int .i64 u, .int .i64 v] w fun e w' => e = .returned (.tuple #[]) ∧ PStep p X w w' (s.fail u v) := by
  have h' := h
  obtain ⟨mb, q, dv, h⟩ := h
  have hd := h.head
  unfold diskCells at hd
  unfold St.fail
  by_cases hn : s.down = true
  · rw [hn] at hd
    rw [if_pos hn]
    refine (fail_down w p _ _ _ _ _ u v hd).mono fun e w' ⟨h1, h2⟩ => ⟨h1, ?_⟩
    subst h2
    exact PStep.refl h'
  · rw [if_neg hn]
    rw [Bool.not_eq_true] at hn
    rw [hn] at hd
    by_cases hc : 0 ≤ u ∧ 0 < v
    · rw [if_pos hc]
      refine (fail_yes w p _ _ _ _ _ u v hd hc.1 hc.2).mono fun e w' ⟨h1, h2, h3⟩ => ⟨h1, h.put rfl h2 ?_⟩
      rw [h3]
      unfold diskCells
      rw [hn]
    · rw [if_neg hc]
      refine (fail_no w p _ _ _ _ _ u v hd hc).mono fun e w' ⟨h1, h2, h3⟩ => ⟨h1, h.put rfl h2 ?_⟩
      rw [h3]
      unfold diskCells
      rw [hn]
/-! ### may -/
theorem named_calls (nm : ByteArray) (b : Bool) (hn : isName nm = b) (w : World) : Calls Try.prog 43 #[.string nm] w fun e w' => e = .returned (.bool b) ∧ Drawn0 w w' := by
  obtain ⟨k, hk⟩ := Ev.rounds (plain_f nm)
  rw [hn] at hk
  exact PD.disk_plain.calls k nm b w hk
set_option maxHeartbeats 1000000 in
theorem may_raw (w : World) (p : Nat) (m : Value) (dn ar ch : Bool) (l a f : Int) (nm : ByteArray) (hp : w.heap[p]? = some (.cells #[m, .bool dn, .bool ar, .int .i64 l, .int .i64 a, .int .i64 f] 78 (0, 0)))
    (a0 : 0 ≤ a) (a1 : a ≤ 9223372036854775807) (f0 : 0 ≤ f) (f1 : f ≤ 9223372036854775807) :
    Calls Try.prog 53 #[.pointer (some ⟨p, 0, none⟩), .string nm, .bool ch] w fun e w' =>
      if isName nm = false then e = .returned (.int .i64 102) ∧ Upd (fun k => k = p) w w' ∧ w'.heap[p]? = some (.cells #[m, .bool dn, .bool ar, .int .i64 l, .int .i64 a, .int .i64 f] 78 (0, 0))
      else if dn = true then e = .returned (.int .i64 100) ∧ Upd (fun k => k = p) w w' ∧ w'.heap[p]? = some (.cells #[m, .bool dn, .bool ar, .int .i64 l, .int .i64 a, .int .i64 f] 78 (0, 0))
      else if ch = false ∨ f = 0 then e = .returned (.int .i64 0) ∧ Upd (fun k => k = p) w w' ∧ w'.heap[p]? = some (.cells #[m, .bool dn, .bool ar, .int .i64 l, .int .i64 a, .int .i64 f] 78 (0, 0))
      else if a = 0 then e = .returned (.int .i64 101) ∧ Upd (fun k => k = p) w w' ∧ w'.heap[p]? = some (.cells #[m, .bool dn, .bool ar, .int .i64 l, .int .i64 a, .int .i64 (f - 1)] 78 (0, 0))
      else e = .returned (.int .i64 0) ∧ Upd (fun k => k = p) w w' ∧ w'.heap[p]? = some (.cells #[m, .bool dn, .bool ar, .int .i64 l, .int .i64 (a - 1), .int .i64 f] 78 (0, 0)) := by
  by_cases hn : isName nm = false
  · simp only [if_pos hn]
    have HC := Aside0.mk (named_calls nm false hn w)
    have c0 := blk_cell hp 0
    have c1 := blk_cell hp 1
    have c2 := blk_cell hp 2
    have c3 := blk_cell hp 3
    have c4 := blk_cell hp 4
    have c5 := blk_cell hp 5
    have fc0 := blk_frozen hp 0
    have fc1 := blk_frozen hp 1
    have fc2 := blk_frozen hp 2
    have fc3 := blk_frozen hp 3
    have fc4 := blk_frozen hp 4
    have fc5 := blk_frozen hp 5
    simp only [List.getElem?_toArray, List.getElem?_cons_succ, List.getElem?_cons_zero] at c0 c1 c2 c3 c4 c5
    have hlt := blk_lt hp
    have HP := Aside0.mk hp
    clear hp hn
    go_enter Try.func53, Try.ntmps53
    go_wp2_with (go_at_call 43; refine HC.out.mono ?_; rintro e w1 ⟨rfl, ⟨⟨nd, rfl⟩⟩⟩)
    go_ret
    exact ⟨rfl, (by repeat (with_reducible first | exact Upd.refl _ _ | apply Upd.set1 | apply Upd.alloc | apply Upd.drewN | apply Upd.drew)), (by simp only [heap_set, heap_drewN, heap_drew, heap_alloc_lt _ _ _ hlt, HP.out, Option.map_some] <;> rfl)⟩
  · simp only [if_neg hn]
    have HC := Aside0.mk (named_calls nm true (by simpa using hn) w)
    clear hn
    cases dn with
    | true =>
      simp only [↓reduceIte]
      have c0 := blk_cell hp 0
      have c1 := blk_cell hp 1
      have c2 := blk_cell hp 2
      have c3 := blk_cell hp 3
      have c4 := blk_cell hp 4
      have c5 := blk_cell hp 5
      have fc0 := blk_frozen hp 0
      have fc1 := blk_frozen hp 1
      have fc2 := blk_frozen hp 2
      have fc3 := blk_frozen hp 3
      have fc4 := blk_frozen hp 4
      have fc5 := blk_frozen hp 5
      simp only [List.getElem?_toArray, List.getElem?_cons_succ, List.getElem?_cons_zero] at c0 c1 c2 c3 c4 c5
      have hlt := blk_lt hp
      have HP := Aside0.mk hp
      clear hp
      go_enter Try.func53, Try.ntmps53
      go_wp2_with (go_at_call 43; refine HC.out.mono ?_; rintro e w1 ⟨rfl, ⟨⟨nd, rfl⟩⟩⟩)
      go_ret
      exact ⟨rfl, (by repeat (with_reducible first | exact Upd.refl _ _ | apply Upd.set1 | apply Upd.alloc | apply Upd.drewN | apply Upd.drew)), (by simp only [heap_set, heap_drewN, heap_drew, heap_alloc_lt _ _ _ hlt, HP.out, Option.map_some] <;> rfl)⟩
    | false =>
      simp only [Bool.false_eq_true, ↓reduceIte]
      by_cases hc : ch = false ∨ f = 0
      · simp only [if_pos hc]
        have c0 := blk_cell hp 0
        have c1 := blk_cell hp 1
        have c2 := blk_cell hp 2
        have c3 := blk_cell hp 3
        have c4 := blk_cell hp 4
        have c5 := blk_cell hp 5
        have fc0 := blk_frozen hp 0
        have fc1 := blk_frozen hp 1
        have fc2 := blk_frozen hp 2
        have fc3 := blk_frozen hp 3
        have fc4 := blk_frozen hp 4
        have fc5 := blk_frozen hp 5
        simp only [List.getElem?_toArray, List.getElem?_cons_succ, List.getElem?_cons_zero] at c0 c1 c2 c3 c4 c5
        have hlt := blk_lt hp
        have HP := Aside0.mk hp
        clear hp
        cases ch with
        | false =>
          clear hc
          go_enter Try.func53, Try.ntmps53
          go_wp2_with (go_at_call 43; refine HC.out.mono ?_; rintro e w1 ⟨rfl, ⟨⟨nd, rfl⟩⟩⟩)
          go_ret
          exact ⟨rfl, (by repeat (with_reducible first | exact Upd.refl _ _ | apply Upd.set1 | apply Upd.alloc | apply Upd.drewN | apply Upd.drew)), (by simp only [heap_set, heap_drewN, heap_drew, heap_alloc_lt _ _ _ hlt, HP.out, Option.map_some] <;> rfl)⟩
        | true =>
          obtain rfl : f = 0 := by simpa using hc
          clear hc
          go_enter Try.func53, Try.ntmps53
          go_wp2_with (go_at_call 43; refine HC.out.mono ?_; rintro e w1 ⟨rfl, ⟨⟨nd, rfl⟩⟩⟩)
          go_ret
          exact ⟨rfl, (by repeat (with_reducible first | exact Upd.refl _ _ | apply Upd.set1 | apply Upd.alloc | apply Upd.drewN | apply Upd.drew)), (by simp only [heap_set, heap_drewN, heap_drew, heap_alloc_lt _ _ _ hlt, HP.out, Option.map_some] <;> rfl)⟩
      · simp only [if_neg hc]
        obtain rfl : ch = true := by cases ch <;> simp_all
        have hf : 0 < f := by
          have : ¬ f = 0 := fun h => hc (.inr h)
          omega
        clear hc
        by_cases ha : a = 0
        · simp only [if_pos ha]
          subst ha
          have c0 := blk_cell hp 0
          have c1 := blk_cell hp 1
          have c2 := blk_cell hp 2
          have c3 := blk_cell hp 3
          have c4 := blk_cell hp 4
          have c5 := blk_cell hp 5
          have fc0 := blk_frozen hp 0
          have fc1 := blk_frozen hp 1
          have fc2 := blk_frozen hp 2
          have fc3 := blk_frozen hp 3
          have fc4 := blk_frozen hp 4
          have fc5 := blk_frozen hp 5
          simp only [List.getElem?_toArray, List.getElem?_cons_succ, List.getElem?_cons_zero] at c0 c1 c2 c3 c4 c5
          have hlt := blk_lt hp
          have HP := Aside0.mk hp
          clear hp
          go_enter Try.func53, Try.ntmps53
          go_wp2_with (go_at_call 43; refine HC.out.mono ?_; rintro e w1 ⟨rfl, ⟨⟨nd, rfl⟩⟩⟩)
          go_ret
          exact ⟨rfl, (by repeat (with_reducible first | exact Upd.refl _ _ | apply Upd.set1 | apply Upd.alloc | apply Upd.drewN | apply Upd.drew)), (by simp only [heap_set, heap_drewN, heap_drew, heap_alloc_lt _ _ _ hlt, HP.out, Option.map_some] <;> rfl)⟩
        · simp only [if_neg ha]
          have ha' : 0 < a := by omega
          clear ha
          have c0 := blk_cell hp 0
          have c1 := blk_cell hp 1
          have c2 := blk_cell hp 2
          have c3 := blk_cell hp 3
          have c4 := blk_cell hp 4
          have c5 := blk_cell hp 5
          have fc0 := blk_frozen hp 0
          have fc1 := blk_frozen hp 1
          have fc2 := blk_frozen hp 2
          have fc3 := blk_frozen hp 3
          have fc4 := blk_frozen hp 4
          have fc5 := blk_frozen hp 5
          simp only [List.getElem?_toArray, List.getElem?_cons_succ, List.getElem?_cons_zero] at c0 c1 c2 c3 c4 c5
          have hlt := blk_lt hp
          have HP := Aside0.mk hp
          clear hp
          go_enter Try.func53, Try.ntmps53
          go_wp2_with (go_at_call 43; refine HC.out.mono ?_; rintro e w1 ⟨rfl, ⟨⟨nd, rfl⟩⟩⟩)
          go_ret
          exact ⟨rfl, (by repeat (with_reducible first | exact Upd.refl _ _ | apply Upd.set1 | apply Upd.alloc | apply Upd.drewN | apply Upd.drew)), (by simp only [heap_set, heap_drewN, heap_drew, heap_alloc_lt _ _ _ hlt, HP.out, Option.map_some] <;> rfl)⟩
theorem may_calls (w : World) (p : Nat) (X : Nat → Prop) (s : St) (nm : ByteArray) (ch : Bool) (h : Prog w p X s) (ok : Ok s) : Calls Try.prog 53 #[.pointer (some ⟨p, 0, none⟩), .string nm, .bool ch] w fun e w' => e = .returned (.int .i64 (s.ahead nm ch).2) ∧ PStep p X w w' (s.ahead nm ch).1 := by
  obtain ⟨mb, q, dv, h⟩ := h
  refine (may_raw w p _ _ _ ch _ _ _ nm h.head ok.a0 ok.a1 ok.f0 ok.f1).mono fun e w' hh => ?_
  unfold St.ahead
  by_cases h1 : isName nm = false
  · rw [if_pos h1] at hh ⊢
    exact ⟨hh.1, h.put rfl hh.2.1 hh.2.2⟩
  · rw [if_neg h1] at hh ⊢
    by_cases h2 : s.down = true
    · rw [if_pos h2] at hh ⊢
      exact ⟨hh.1, h.put rfl hh.2.1 hh.2.2⟩
    · rw [if_neg h2] at hh ⊢
      by_cases h3 : ch = false ∨ s.fails = 0
      · rw [if_pos h3] at hh ⊢
        exact ⟨hh.1, h.put rfl hh.2.1 hh.2.2⟩
      · rw [if_neg h3] at hh ⊢
        by_cases h4 : s.after = 0
        · rw [if_pos h4] at hh ⊢
          exact ⟨hh.1, h.put rfl hh.2.1 hh.2.2⟩
        · rw [if_neg h4] at hh ⊢
          exact ⟨hh.1, h.put rfl hh.2.1 hh.2.2⟩
end Go.Proofs.Ytfholpajdkjbbaa.DK
/- Clone, the sorted names, one file's changes in memory; conditions: those in each theorem. -/
namespace Go.Proofs.Ytfholpajdkjbbaa.DK
open Go.RowKit Go.Proofs.YtfholpajdkjbbaaW.PrintWords Go.Proofs.YtfholpajdkjbbaaW.PrintLast Go.Proofs.YtfholpajdkjbbaaW.PrintMore Go.Proofs.Ytfholpajdkjbbaa.Mo
set_option linter.unusedVariables false
set_option linter.unusedSimpArgs false
/-! ### slices.Clone of bytes -/
set_option maxHeartbeats 1000000 in
theorem clone_calls (w : World) (A : Option Addr) (c : Nat) (xs : List Int) (hr : (Kd.int .u8).C w A xs.length xs) (hc : xs.length ≤ c) (hl : xs.length ≤ 2 ^ 40) :
    Calls Try.prog 41 #[.slice A xs.length c] w fun e w' => ∃ v, e = .returned v ∧ (Kd.int .u8).R 5 w' w.heap.size (fun _ => True) v xs ∧ Below w.heap.size w w' := by
  have q38 : ∀ (w : World) (a : Option Addr) (n c n' c' : Nat), (binOp .eql 38 (.slice a n c) (.slice none n' c')).run Try.prog w = .ok (.bool a.isNone) w := fun w a n c n' c' => Lib.run_eql_slice_nil w _ _ a n c n' c' Try.underlying38
  have HR := Aside0.mk hr
  cases A with
  | none =>
    have h0 : xs = [] := by
      rcases Nat.eq_zero_or_pos xs.length with h | h
      · exact List.eq_nil_of_length_eq_zero h
      · obtain ⟨ad, h, _⟩ := hr.2.2 h
        cases h
    subst h0
    clear hr
    go_enter Try.func41, Try.ntmps41
    go_wp2
    go_ret
    exact ⟨_, rfl, Kd.R_nil _ _ _ _ _, Below.refl _ _⟩
  | some ad =>
    clear hr
    have HL := Aside0.mk hl
    clear hl
    go_enter Try.func41, Try.ntmps41
    go_wp2_with (first
      | ((with_reducible refine gate_builtin (b := .append) (xs := #[.tmp 5, .tmp 6]) rfl ?_); at_builtin; refine Kd.R_append_rows (Kd.int .u8) (w0 := w) w.heap.size rfl (.tmp 5) (.tmp 6) 38 5 (.int .u8 0) 1 rfl Try.underlying38 PD.info5 rfl (by decide) (by omega) _ ([] : List Int) xs _ _ _ (fun _ => True) (fun _ => False) rfl rfl ?aO ?aR (fun _ _ h => h) (fun _ h => h.elim) ?aF ?aB ?aS ?aL ?_; (case aR => exact Kd.C_alloc HR.out _); (case aB => exact below_alloc (Below.refl _ _) _); (case aF => exact fun _ _ => trivial); (case aS => simp); (case aL => have := HL.out; simp; omega); (case aO => exact ⟨fun _ _ => trivial, [], World.ownsRow_made w #[] 0 (Nat.le_refl _) (Nat.zero_le _) rfl, Reps.none _ _⟩); intro v1 w1 ho hb hg hat; have n0_ := Aside0.mk hb; have n1_ := Aside0.mk ho; clear ho hb hg hat))
    go_ret
    exact ⟨_, rfl, n1_.out, n0_.out⟩
theorem clone_row (w : World) (v : Value) (xs : List Int) (h : Row w v xs) (hl : xs.length ≤ 2 ^ 40) :
    Calls Try.prog 41 #[v] w fun e w' => ∃ v1, e = .returned v1 ∧ (Kd.int .u8).R 5 w' w.heap.size (fun _ => True) v1 xs ∧ Below w.heap.size w w' := by
  obtain ⟨A, c, rfl, hc, hr⟩ := Kd.R_reads h
  exact clone_calls w A c xs hr hc hl
end Go.Proofs.Ytfholpajdkjbbaa.DK
/- The program's disk: Read, Spoil; conditions: those in each theorem. -/
namespace Go.Proofs.Ytfholpajdkjbbaa.DK
open Go.RowKit Go.Proofs.YtfholpajdkjbbaaW.PrintWords Go.Proofs.YtfholpajdkjbbaaW.PrintLast Go.Proofs.YtfholpajdkjbbaaW.PrintMore Go.Proofs.Ytfholpajdkjbbaa.Mo
set_option linter.unusedVariables false
set_option linter.unusedSimpArgs false
/-! ### may, asked by what only reads -/
set_option maxHeartbeats 1000000 in
theorem may_look (w : World) (p : Nat) (m : Value) (dn ar : Bool) (l a f : Int) (nm : ByteArray) (hp : w.heap[p]? = some (.cells #[m, .bool dn, .bool ar, .int .i64 l, .int .i64 a, .int .i64 f] 78 (0, 0))) :
    Calls Try.prog 53 #[.pointer (some ⟨p, 0, none⟩), .string nm, .bool false] w fun e w' => e = .returned (.int .i64 (if isName nm = false then 102 else if dn = true then 100 else 0)) ∧ Drawn0 w w' := by
  by_cases hn : isName nm = false
  · simp only [if_pos hn]
    have HC := Aside0.mk (named_calls nm false hn w)
    have c0 := blk_cell hp 0
    have c1 := blk_cell hp 1
    have c2 := blk_cell hp 2
    have c3 := blk_cell hp 3
    have c4 := blk_cell hp 4
    have c5 := blk_cell hp 5
    have fc0 := blk_frozen hp 0
    have fc1 := blk_frozen hp 1
    have fc2 := blk_frozen hp 2
    have fc3 := blk_frozen hp 3
    have fc4 := blk_frozen hp 4
    have fc5 := blk_frozen hp 5
    simp only [List.getElem?_toArray, List.getElem?_cons_succ, List.getElem?_cons_zero] at c0 c1 c2 c3 c4 c5
    clear hp hn
    go_enter Try.func53, Try.ntmps53
    go_wp2_with (go_at_call 43; refine HC.out.mono ?_; rintro e w1 ⟨rfl, ⟨⟨nd, rfl⟩⟩⟩)
    go_ret
    exact ⟨rfl, ⟨⟨_, rfl⟩⟩⟩
  · simp only [if_neg hn]
    have HC := Aside0.mk (named_calls nm true (by simpa using hn) w)
    clear hn
    have c0 := blk_cell hp 0
    have c1 := blk_cell hp 1
    have c2 := blk_cell hp 2
    have c3 := blk_cell hp 3
    have c4 := blk_cell hp 4
    have c5 := blk_cell hp 5
    have fc0 := blk_frozen hp 0
    have fc1 := blk_frozen hp 1
    have fc2 := blk_frozen hp 2
    have fc3 := blk_frozen hp 3
    have fc4 := blk_frozen hp 4
    have fc5 := blk_frozen hp 5
    simp only [List.getElem?_toArray, List.getElem?_cons_succ, List.getElem?_cons_zero] at c0 c1 c2 c3 c4 c5
    clear hp
    cases dn with
    | true =>
      simp only [↓reduceIte]
      go_enter Try.func53, Try.ntmps53
      go_wp2_with (go_at_call 43; refine HC.out.mono ?_; rintro e w1 ⟨rfl, ⟨⟨nd, rfl⟩⟩⟩)
      go_ret
      exact ⟨rfl, ⟨⟨_, rfl⟩⟩⟩
    | false =>
      simp only [Bool.false_eq_true, ↓reduceIte]
      go_enter Try.func53, Try.ntmps53
      go_wp2_with (go_at_call 43; refine HC.out.mono ?_; rintro e w1 ⟨rfl, ⟨⟨nd, rfl⟩⟩⟩)
      go_ret
      exact ⟨rfl, ⟨⟨_, rfl⟩⟩⟩
theorem ahead_look (s : St) (nm : ByteArray) : s.ahead nm false = (s, if isName nm = false then 102 else if s.down = true then 100 else 0) := by
  unfold St.ahead
  split
  · rfl
  · split
    · rfl
    · rw [if_pos (.inl rfl)]
theorem may_reads (w : World) (p : Nat) (X : Nat → Prop) (s : St) (nm : ByteArray) (h : Prog w p X s) : Calls Try.prog 53 #[.pointer (some ⟨p, 0, none⟩), .string nm, .bool false] w fun e w' => e = .returned (.int .i64 (s.ahead nm false).2) ∧ Drawn0 w w' := by
  obtain ⟨mb, q, dv, h⟩ := h
  rw [ahead_look]
  exact may_look w p _ _ _ _ _ _ nm h.head
theorem mem_names {l : List F} {nm : ByteArray} {f : F} (h : find l nm = some f) : nm ∈ namesOf l := by
  obtain ⟨h1, rfl⟩ := find_some h
  exact List.mem_map_of_mem h1
open Classical in
theorem PDisk.look_some {w : World} {p mb : Nat} {q : ByteArray → Nat} {dv : ByteArray → Value} {X : Nat → Prop} {s : St} (h : PDisk w p X s mb q dv) {nm : ByteArray} {f : F} (hf : find s.all nm = some f) (n : Nat) :
    (Instr.lookup 74 (.map (some mb)) (.string nm) false).run Try.prog (w.drewN n) = .ok (.pointer (some ⟨q f.name, 0, none⟩)) (w.drewN n) := by
  have := MapAt.lookup (w := w.drewN n) (h.files.map.same rfl) nm
  rw [if_pos (mem_names hf)] at this
  rw [(find_some hf).2]
  exact this
open Classical in
theorem PDisk.look_none {w : World} {p mb : Nat} {q : ByteArray → Nat} {dv : ByteArray → Value} {X : Nat → Prop} {s : St} (h : PDisk w p X s mb q dv) {nm : ByteArray} (hf : find s.all nm = none) (n : Nat) :
    (Instr.lookup 74 (.map (some mb)) (.string nm) false).run Try.prog (w.drewN n) = .ok (.pointer none) (w.drewN n) := by
  have := MapAt.lookup (w := w.drewN n) (h.files.map.same rfl) nm
  rwa [if_neg (find_none hf)] at this
theorem data_length (f : F) : f.data.length = f.len := List.length_append
/-! ### Read -/
def ReadPost (w : World) (p : Nat) (X : Nat → Prop) (s : St) (r : List Int × Int) (e : Ending) (w' : World) : Prop :=
  ∃ v, e = .returned (.tuple #[v, .int .i64 r.2]) ∧ (Kd.int .u8).R 5 w' w.heap.size (fun _ => True) v r.1 ∧ Below w.heap.size w w'
set_option maxHeartbeats 1000000 in
theorem read_calls (w : World) (p : Nat) (X : Nat → Prop) (s : St) (nm : ByteArray) (h : Prog w p X s) (ok : Ok s) : Calls Try.prog 36 #[.pointer (some ⟨p, 0, none⟩), .string nm] w (ReadPost w p X s (s.read nm)) := by
  have HM := Aside0.mk (may_reads w p X s nm h)
  obtain ⟨mb, q, dv, h⟩ := h
  have hp := h.head
  unfold diskCells at hp
  unfold St.read
  by_cases hc : (s.ahead nm false).2 ≠ 0
  · rw [if_pos hc]
    generalize (s.ahead nm false).2 = c at HM hc
    have hb1 : (c == 0) = false := by simpa using hc
    have hb2 : (c != 0) = true := by simpa using hc
    clear hc hp
    go_enter Try.func36, Try.ntmps36
    go_wp2_with (go_at_call 53; refine HM.out.mono ?_; rintro e w1 ⟨rfl, ⟨⟨nd, rfl⟩⟩⟩)
    go_ret2
    exact ⟨_, rfl, Kd.R_nil _ _ _ _ _, pw_below_drewN (Below.refl _ _) _⟩
  · rw [if_neg hc]
    have h0 : (s.ahead nm false).2 = 0 := by omega
    rw [h0] at HM
    clear hc h0
    cases hf : find s.all nm with
    | none =>
      have HL := h.look_none hf
      have c0 := blk_cell hp 0
      have c1 := blk_cell hp 1
      have c2 := blk_cell hp 2
      have c3 := blk_cell hp 3
      have c4 := blk_cell hp 4
      have c5 := blk_cell hp 5
      have fc0 := blk_frozen hp 0
      have fc1 := blk_frozen hp 1
      have fc2 := blk_frozen hp 2
      have fc3 := blk_frozen hp 3
      have fc4 := blk_frozen hp 4
      have fc5 := blk_frozen hp 5
      simp only [List.getElem?_toArray, List.getElem?_cons_succ, List.getElem?_cons_zero] at c0 c1 c2 c3 c4 c5
      clear hp hf
      dsimp only
      go_enter Try.func36, Try.ntmps36
      go_wp2_with (go_at_call 53; refine HM.out.mono ?_; rintro e w1 ⟨rfl, ⟨⟨nd, rfl⟩⟩⟩)
      go_ret2
      exact ⟨_, rfl, Kd.R_nil _ _ _ _ _, pw_below_drewN (Below.refl _ _) _⟩
    | some f =>
      have HL := h.look_some hf
      have hfile := h.files.file f (find_some hf).1
      have hrow := h.files.row f (find_some hf).1
      have hsm := ok.small f (find_some hf).1
      have c0 := blk_cell hp 0
      have c1 := blk_cell hp 1
      have c2 := blk_cell hp 2
      have c3 := blk_cell hp 3
      have c4 := blk_cell hp 4
      have c5 := blk_cell hp 5
      have fc0 := blk_frozen hp 0
      have fc1 := blk_frozen hp 1
      have fc2 := blk_frozen hp 2
      have fc3 := blk_frozen hp 3
      have fc4 := blk_frozen hp 4
      have fc5 := blk_frozen hp 5
      simp only [List.getElem?_toArray, List.getElem?_cons_succ, List.getElem?_cons_zero] at c0 c1 c2 c3 c4 c5
      have d0 := blk_cell hfile 0
      have d1 := blk_cell hfile 1
      have fd0 := blk_frozen hfile 0
      have fd1 := blk_frozen hfile 1
      simp only [List.getElem?_toArray, List.getElem?_cons_succ, List.getElem?_cons_zero] at d0 d1
      have HC := Aside0.mk (fun n => clone_row (w.drewN n) _ _ (hrow.upd (X := fun _ => False) ((Upd.refl _ _).drewN n) (fun _ _ h => h)) (by rw [data_length]; omega))
      clear hp hf hfile hrow hsm
      dsimp only
      go_enter Try.func36, Try.ntmps36
      go_wp2_with (first
        | (go_at_call 53; refine HM.out.mono ?_; rintro e w1 ⟨rfl, ⟨⟨nd, rfl⟩⟩⟩)
        | (go_at_call 41; refine (HC.out _).mono ?_; rintro e w2 ⟨v1, rfl, hR, hB⟩))
      go_ret2
      exact ⟨_, rfl, hR, (pw_below_drewN (Below.refl _ _) _).trans hB⟩
end Go.Proofs.Ytfholpajdkjbbaa.DK
/- The program's disk: Spoil; conditions: those in each theorem. -/
namespace Go.Proofs.Ytfholpajdkjbbaa.DK
open Go.RowKit Go.Proofs.YtfholpajdkjbbaaW.PrintWords Go.Proofs.YtfholpajdkjbbaaW.PrintLast Go.Proofs.YtfholpajdkjbbaaW.PrintMore Go.Proofs.Ytfholpajdkjbbaa.Mo
set_option linter.unusedVariables false
set_option linter.unusedSimpArgs false
theorem PDisk.see_some {w : World} {p mb : Nat} {q : ByteArray → Nat} {dv : ByteArray → Value} {X : Nat → Prop} {s : St} (h : PDisk w p X s mb q dv) {nm : ByteArray} {f : F} (hf : find s.all nm = some f) :
    (Instr.lookup 74 (.map (some mb)) (.string nm) false).run Try.prog w = .ok (.pointer (some ⟨q f.name, 0, none⟩)) w := h.look_some hf 0
theorem PDisk.see_none {w : World} {p mb : Nat} {q : ByteArray → Nat} {dv : ByteArray → Value} {X : Nat → Prop} {s : St} (h : PDisk w p X s mb q dv) {nm : ByteArray} (hf : find s.all nm = none) :
    (Instr.lookup 74 (.map (some mb)) (.string nm) false).run Try.prog w = .ok (.pointer none) w := h.look_none hf 0
set_option maxHeartbeats 1000000 in
theorem spoil_calls (w : World) (p : Nat) (X : Nat → Prop) (s : St) (nm : ByteArray) (bit : Int) (hbit : bit ≤ 9223372036854775807) (h : Prog w p X s) (ok : Ok s) : Calls Try.prog 47 #[.pointer (some ⟨p, 0, none⟩), .string nm, .int .i64 bit] w fun e w' => e = .returned (.bool (s.spoil nm bit).2) ∧ PStep p X w w' (s.spoil nm bit).1 := by
  have h' := h
  obtain ⟨mb, q, dv, h⟩ := h
  have hp := h.head
  unfold diskCells at hp
  unfold St.spoil
  cases hf : find s.all nm with
  | none =>
    have HL := h.see_none hf
    have HF := Aside0.mk h'
    have c0 := blk_cell hp 0
    have c1 := blk_cell hp 1
    have c2 := blk_cell hp 2
    have c3 := blk_cell hp 3
    have c4 := blk_cell hp 4
    have c5 := blk_cell hp 5
    have fc0 := blk_frozen hp 0
    have fc1 := blk_frozen hp 1
    have fc2 := blk_frozen hp 2
    have fc3 := blk_frozen hp 3
    have fc4 := blk_frozen hp 4
    have fc5 := blk_frozen hp 5
    simp only [List.getElem?_toArray, List.getElem?_cons_succ, List.getElem?_cons_zero] at c0 c1 c2 c3 c4 c5
    clear hp hf h' h
    dsimp only
    go_enter Try.func47, Try.ntmps47
    go_wp2
    go_ret
    exact ⟨rfl, PStep.refl HF.out⟩
  | some f =>
    have hfm := (find_some hf).1
    have HL := h.see_some hf
    have hfile := h.files.file f hfm
    have hrow := h.files.row f hfm
    have hsm := ok.small f hfm
    have hlen := data_length f
    obtain ⟨A, c, he, hc, hC⟩ := Kd.R_reads hrow
    rw [he] at hfile
    dsimp only
    by_cases hb : bit < 0 ∨ (f.len : Int) ≤ bit / 8
    · rw [if_pos hb]
      have HF := Aside0.mk h'
      have c0 := blk_cell hp 0
      have c1 := blk_cell hp 1
      have c2 := blk_cell hp 2
      have c3 := blk_cell hp 3
      have c4 := blk_cell hp 4
      have c5 := blk_cell hp 5
      have fc0 := blk_frozen hp 0
      have fc1 := blk_frozen hp 1
      have fc2 := blk_frozen hp 2
      have fc3 := blk_frozen hp 3
      have fc4 := blk_frozen hp 4
      have fc5 := blk_frozen hp 5
      simp only [List.getElem?_toArray, List.getElem?_cons_succ, List.getElem?_cons_zero] at c0 c1 c2 c3 c4 c5
      have d0 := blk_cell hfile 0
      have d1 := blk_cell hfile 1
      have fd0 := blk_frozen hfile 0
      have fd1 := blk_frozen hfile 1
      simp only [List.getElem?_toArray, List.getElem?_cons_succ, List.getElem?_cons_zero] at d0 d1
      rw [hlen] at d0
      clear hp hf h' h hfile hrow he hC
      by_cases hb0 : bit < 0
      · clear hb
        go_enter Try.func47, Try.ntmps47
        go_wp2
        go_ret
        exact ⟨rfl, PStep.refl HF.out⟩
      · have hb1 : 0 ≤ bit := by omega
        have hq : Int.tdiv bit 8 = bit / 8 := by rw [Int.tdiv_eq_ediv_of_nonneg hb1]
        have hb2 : (f.len : Int) ≤ bit / 8 := by omega
        have hz1 : bit / 8 ≤ 1152921504606846975 := by omega
        clear hb hb0
        generalize bit / 8 = z at *
        have hz0 : 0 ≤ z := by omega
        go_enter Try.func47, Try.ntmps47
        go_wp2
        go_ret
        exact ⟨rfl, PStep.refl HF.out⟩
    · rw [if_neg hb]
      have hb1 : 0 ≤ bit := by omega
      have hq : Int.tdiv bit 8 = bit / 8 := by rw [Int.tdiv_eq_ediv_of_nonneg hb1]
      have hr : Int.tmod bit 8 = bit % 8 := by rw [Int.tmod_eq_emod_of_nonneg hb1]
      have hz2 : bit / 8 < (f.len : Int) := by omega
      have hz0 : 0 ≤ bit / 8 := by omega
      have hy0 : 0 ≤ bit % 8 := by omega
      have hy1 : bit % 8 < 8 := by omega
      clear hb
      generalize bit / 8 = z at *
      generalize bit % 8 = y at *
      have hz1 : z ≤ 65536 := by omega
      obtain ⟨g, rfl⟩ : ∃ g, A = some ⟨g, 0, none⟩ := by
        obtain ⟨g, cap, e, _⟩ := Kd.R_form hrow (by omega)
        rw [he] at e
        injection e with e _ _
        exact ⟨g, e⟩
      have hrow' := hrow
      rw [he] at hrow'
      have HCF := Aside0.mk (Kd.R_cell (0 : Int) hrow' z hz0 (by omega))
      have HF := Aside0.mk h
      have HR := Aside0.mk hrow'
      have HE := Aside0.mk he
      have HFF := Aside0.mk hf
      have c0 := blk_cell hp 0
      have c1 := blk_cell hp 1
      have c2 := blk_cell hp 2
      have c3 := blk_cell hp 3
      have c4 := blk_cell hp 4
      have c5 := blk_cell hp 5
      have fc0 := blk_frozen hp 0
      have fc1 := blk_frozen hp 1
      have fc2 := blk_frozen hp 2
      have fc3 := blk_frozen hp 3
      have fc4 := blk_frozen hp 4
      have fc5 := blk_frozen hp 5
      simp only [List.getElem?_toArray, List.getElem?_cons_succ, List.getElem?_cons_zero] at c0 c1 c2 c3 c4 c5
      have d0 := blk_cell hfile 0
      have d1 := blk_cell hfile 1
      have fd0 := blk_frozen hfile 0
      have fd1 := blk_frozen hfile 1
      simp only [List.getElem?_toArray, List.getElem?_cons_succ, List.getElem?_cons_zero] at d0 d1
      rw [hlen] at d0
      clear hp hf h' h hfile hrow hrow' he hC
      go_enter Try.func47, Try.ntmps47
      set_option maxRecDepth 100000 in
      go_wp2
      obtain ⟨hcell, hfro⟩ := HCF.out
      clear HCF
      have hwz : wrap64 z = z := w64 (by omega) (by omega)
      have hwy : wrap64 y = y := w64 (by omega) (by omega)
      refine start_ (n := 14) (S := fun w' => w'.cell? ⟨q f.name, 0, none⟩ = some (.slice (some ⟨g, 0, none⟩) f.len c) ∧ w'.cell? ⟨g, z.toNat, none⟩ = some (.int .u8 (rdOf (0 : Int) f.data z)) ∧ w'.frozen? ⟨g, z.toNat, none⟩ = false) (ds := [13]) #[false, false, false, false, false, false, false, false, false, false, false, false, false, false] (by kernel_rfl) rfl rfl ⟨d0, hcell, hfro⟩ (fun hHeld => ?_)
      refine zp 0 (some 30) ?_ rfl rfl (by kernel_rfl) (fun _ _ _ h => h) (by rfl) ?_ ?_ ?_ ?_ ?_
      rotate_left; · (intro w'; go_simp; with_reducible rfl)
      rotate_left 2; · (simp only [Act.put, zla, zlb, zlc, i64_w, i32_w, hwz, hwy]; rfl)
      refine zp 1 (some 31) ?_ rfl rfl (by kernel_rfl) (fun _ _ _ h => h) (by rfl) ?_ ?_ ?_ ?_ ?_
      rotate_left; · (intro w'; go_simp; with_reducible rfl)
      rotate_left 2; · (simp only [Act.put, zla, zlb, zlc, i64_w, i32_w, hwz, hwy]; rfl)
      refine zp 2 (some 32) ?_ rfl rfl (by kernel_rfl) (fun _ _ _ h => h) (by rfl) ?_ ?_ ?_ ?_ ?_
      rotate_left; · (intro w'; go_simp; with_reducible rfl)
      rotate_left 2; · (simp only [Act.put, zla, zlb, zlc, i64_w, i32_w, hwz, hwy]; rfl)
      refine zp 4 (some 34) ?_ rfl rfl (by kernel_rfl) (fun _ _ _ h => h) (by rfl) ?_ ?_ ?_ ?_ ?_
      rotate_left; · (intro w'; go_simp; with_reducible rfl)
      rotate_left 2; · (simp only [Act.put, zla, zlb, zlc, i64_w, i32_w, hwz, hwy]; rfl)
      refine zp 5 (some 35) ?_ rfl rfl (by kernel_rfl) (fun _ _ _ h => h) (by rfl) ?_ ?_ ?_ ?_ ?_
      rotate_left; · (intro w'; go_simp; with_reducible rfl)
      rotate_left 2; · (simp only [Act.put, zla, zlb, zlc, i64_w, i32_w, hwz, hwy]; rfl)
      refine zp 8 (some 38) ?_ rfl rfl (by kernel_rfl) (fun _ _ _ h => h) (by rfl) ?_ ?_ ?_ ?_ ?_
      rotate_left; · (intro w'; go_simp; with_reducible rfl)
      rotate_left 2; · (simp only [Act.put, zla, zlb, zlc, i64_w, i32_w, hwz, hwy]; rfl)
      refine zp 9 (some 39) ?_ rfl rfl (by kernel_rfl) (fun _ _ _ h => h) (by rfl) ?_ ?_ ?_ ?_ ?_
      rotate_left; · (intro w'; go_simp; with_reducible rfl)
      rotate_left 2; · (simp only [Act.put, zla, zlb, zlc, i64_w, i32_w, hwz, hwy]; rfl)
      refine zp 10 (some 40) ?_ rfl rfl (by kernel_rfl) (fun _ _ _ h => h) (by rfl) ?_ ?_ ?_ ?_ ?_
      rotate_left; · (intro w'; go_simp; with_reducible rfl)
      rotate_left 2; · (simp only [Act.put, zla, zlb, zlc, i64_w, i32_w, hwz, hwy]; rfl)
      refine zt 3 (some 33) ?_ rfl rfl (by kernel_rfl) (fun _ _ _ h => h) (by rfl) ?_ hHeld ?_ ?_ ?_ ?_
      rotate_left; · (rintro w' ⟨s0, s1, s2⟩; go_simp; with_reducible rfl)
      rotate_left 2; · (simp only [Act.put, zla, zlb, zlc, i64_w, i32_w, hwz, hwy]; rfl)
      refine zp 6 (some 36) ?_ rfl rfl (by kernel_rfl) (fun _ _ _ h => h) (by rfl) ?_ ?_ ?_ ?_ ?_
      rotate_left; · (intro w'; go_simp; with_reducible rfl)
      rotate_left 2; · (simp only [Act.put, zla, zlb, zlc, i64_w, i32_w, hwz, hwy]; rfl)
      refine zt 7 (some 37) ?_ rfl rfl (by kernel_rfl) (fun _ _ _ h => h) (by rfl) ?_ hHeld ?_ ?_ ?_ ?_
      rotate_left; · (rintro w' ⟨s0, s1, s2⟩; go_simp; with_reducible rfl)
      rotate_left 2; · (simp only [Act.put, zla, zlb, zlc, i64_w, i32_w, hwz, hwy]; rfl)
      refine zp 11 (some 41) ?_ rfl rfl (by kernel_rfl) (fun _ _ _ h => h) (by rfl) ?_ ?_ ?_ ?_ ?_
      rotate_left; · (intro w'; go_simp; with_reducible rfl)
      rotate_left 2; · (simp only [Act.put, zla, zlb, zlc, i64_w, i32_w, hwz, hwy]; rfl)
      refine zp 12 (some 42) ?_ rfl rfl (by kernel_rfl) (fun _ _ _ h => h) (by rfl) ?_ ?_ ?_ ?_ ?_
      rotate_left; · (intro w'; go_simp; with_reducible rfl)
      rotate_left 2; · (simp only [Act.put, zla, zlb, zlc, i64_w, i32_w, hwz, hwy]; rfl)
      refine last_ (i := 13) (N := none) #[true, true, true, true, true, true, true, true, true, true, true, true, true, true] rfl rfl (by kernel_rfl) (by decide) (fun K hK => ?_)
      refine skip_ (w1 := ?_) (by rfl) rfl ?_ ?_
      rotate_left
      · go_simp
        rfl
      refine hK.out _ _ ?_
      clear hK K
      refine done_ (by kernel_rfl) ?_
      go_wp2
      go_ret
      refine ⟨rfl, ?_⟩
      have he' := HE.out
      have hyb : IntKind.u8.wrap (2 ^ y.toNat) = 2 ^ y.toNat := by
        obtain ⟨y', rfl⟩ := Int.eq_ofNat_of_zero_le hy0
        have : y' < 8 := by omega
        rw [Int.toNat_natCast]
        have h2 : ∀ n : Fin 8, IntKind.u8.wrap (2 ^ n.val) = 2 ^ n.val := by decide
        exact h2 ⟨y', this⟩
      rw [hyb]
      have hnm := (find_some HFF.out).2
      have hrow2 := Kd.R_put HR.out z (bits BinOp.xor IntKind.u8 (rdOf 0 f.data z) (2 ^ y.toNat))
      have hdat := spoilt_data f z.toNat (2 ^ y.toNat)
      rw [← hnm]
      refine PStep.then_below (w1 := w.setCell ⟨g, z.toNat, none⟩ (.int .u8 (bits BinOp.xor IntKind.u8 (rdOf 0 f.data z) (2 ^ y.toNat)))) ?_ (below_drew (Below.refl _ _))
      refine pdisk_change HF.out hfm (fun f => St.F.spoilt f z.toNat (2 ^ y.toNat)) (fun f => spoilt_name f _ _) (dv f.name) (Y := fun k => k = g) ((Upd.refl _ w).set1 z.toNat _) (fun k _ hk => .inr (by rw [he', hk]; rfl)) ?_ ?_ (fun k hk => .inl hk)
      · rw [spoilt_sure]
        refine (blk_upd (HF.out.files.file f hfm) ((Upd.refl (fun k => k = g) w).set1 z.toNat _) (fun e => ?_))
        obtain ⟨cells, hc2⟩ := Kd.R_typed HR.out g (by simp [Value.ownBlock])
        exact blk_ne (HF.out.files.file f hfm) hc2 (by decide) e
      · show Row _ _ (St.F.spoilt f z.toNat (2 ^ y.toNat)).data
        rw [hdat, he']
        exact hrow2.1
end Go.Proofs.Ytfholpajdkjbbaa.DK
