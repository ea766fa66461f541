/- Parts Vr, R1, R2, Vs, R3 of this work, in one text. -/
import Derived.Test.YtfholpajdkjbbaaQdGa
/- The reference's disk in memory: its block, a row of bare triples, two rows a file; what a change of one file does; conditions: those in each theorem. -/
namespace Go.Proofs.Ytfholpajdkjbbaa.DK
open Go.RowKit Go.Proofs.YtfholpajdkjbbaaW.PrintWords Go.Proofs.YtfholpajdkjbbaaW.PrintLast Go.Proofs.YtfholpajdkjbbaaW.PrintMore Go.Proofs.Ytfholpajdkjbbaa.Mo
set_option linter.unusedVariables false
set_option linter.unusedSimpArgs false
/-- A slice's value, bare. -/
structure Sl where
  A : Option Addr
  n : Nat
  c : Nat
def Sl.v (s : Sl) : Value := .slice s.A s.n s.c
def Sl.nil : Sl := ⟨none, 0, 0⟩
def kSl : Kd Sl := Kd.scalar Sl.v (fun _ => rfl)
/-- A file's cells, bare. -/
structure Tri where
  nm : ByteArray
  s : Sl
  l : Sl
def Tri.cells (t : Tri) : List Value := [.string t.nm, t.s.v, t.l.v]
instance : Inhabited Tri := ⟨⟨.empty, Sl.nil, Sl.nil⟩⟩
def kT : Kd Tri := Kd.iso (Kd.pair Kd.string (Kd.pair kSl kSl)) (fun t => (t.nm, t.s, t.l))
theorem kT_M {w : World} {base : Nat} {ok : Nat → Prop} {t : Tri} {cs : List Value} : kT.M w base ok t cs ↔ cs = t.cells := by
  constructor
  · rintro ⟨c0, c1, rfl, h0, c2, c3, rfl, h2, h3⟩
    have e0 : c0 = [.string t.nm] := h0
    have e2 : c2 = [t.s.v] := h2
    have e3 : c3 = [t.l.v] := h3
    rw [e0, e2, e3]; rfl
  · rintro rfl
    exact ⟨[.string t.nm], [t.s.v, t.l.v], rfl, rfl, [t.s.v], [t.l.v], rfl, rfl, rfl⟩
def tri (rv : Bool → ByteArray → Sl) (f : F) : Tri := ⟨f.name, rv false f.name, rv true f.name⟩
def fpart (b : Bool) (f : F) : List Int := match b with | false => f.sure | true => f.loose
structure RFiles (w : World) (av : Sl) (rv : Bool → ByteArray → Sl) (X : Nat → Prop) (l : List F) : Prop where
  outer : kT.R 86 w 0 (fun _ => True) av.v (l.map (tri rv))
  row : ∀ f ∈ l, ∀ b, Row w (rv b f.name).v (fpart b f)
  di : ∀ f ∈ l, ∀ g ∈ l, ∀ b c, (b = c → f.name ≠ g.name) → Dis (rv b f.name).v (rv c g.name).v
  nd : (namesOf l).Nodup
  xo : ∀ k, av.v.ownBlock = some k → X k
  xr : ∀ f ∈ l, ∀ b k, (rv b f.name).v.ownBlock = some k → X k
theorem outer_row {w : World} {av : Sl} {l : List Tri} {v : Value} {xs : List Int} (h : kT.R 86 w 0 (fun _ => True) av.v l) (hr : Row w v xs) {k : Nat} (h1 : av.v.ownBlock = some k) (h2 : v.ownBlock = some k) : False := by
  obtain ⟨c1, e1⟩ := Kd.R_typed h k h1
  obtain ⟨c2, e2⟩ := hr.typed h2
  exact blk_ne e1 e2 (by decide) rfl
theorem RFiles.upd {w w' : World} {av : Sl} {rv : Bool → ByteArray → Sl} {X Y : Nat → Prop} {l : List F} (h : RFiles w av rv X l) (hu : Upd Y w w') (hy : ∀ k, X k → ¬ Y k) : RFiles w' av rv X l :=
  ⟨Kd.R_mono (Kd.R_step (Kd.R_tight rfl h.outer) (fun k hk hlt => hu.same k hlt (hy k (h.xo k hk.symm)))) (fun _ _ => trivial), fun f hf b => (h.row f hf b).upd hu (fun k hk => hy k (h.xr f hf b k hk)), h.di, h.nd, h.xo, h.xr⟩
theorem RFiles.mono {w : World} {av : Sl} {rv : Bool → ByteArray → Sl} {X Y : Nat → Prop} {l : List F} (h : RFiles w av rv X l) (hy : ∀ k, X k → Y k) : RFiles w av rv Y l :=
  ⟨h.outer, h.row, h.di, h.nd, fun k hk => hy k (h.xo k hk), fun f hf b k hk => hy k (h.xr f hf b k hk)⟩
structure RDisk (w : World) (p : Nat) (X : Nat → Prop) (s : St) (av : Sl) (rv : Bool → ByteArray → Sl) (a : Int) : Prop where
  head : w.heap[p]? = some (.cells #[av.v, .bool s.down, .int .i64 s.left, .int .i64 a, .int .i64 s.fails] 84 (0, 0))
  aft : s.fails ≠ 0 → a = s.after
  xp : X p
  bd : ∀ k, X k → k < w.heap.size
  files : RFiles w av rv X s.all
/-- The reference's disk at p holds s, in blocks of X. -/
def RefD (w : World) (p : Nat) (X : Nat → Prop) (s : St) : Prop := ∃ av rv a, RDisk w p X s av rv a
theorem RDisk.upd {w w' : World} {p : Nat} {X Y : Nat → Prop} {s : St} {av : Sl} {rv : Bool → ByteArray → Sl} {a : Int} (h : RDisk w p X s av rv a) (hu : Upd Y w w') (hy : ∀ k, X k → ¬ Y k) : RDisk w' p X s av rv a :=
  ⟨blk_upd h.head hu (hy p h.xp), h.aft, h.xp, fun k hk => Nat.lt_of_lt_of_le (h.bd k hk) hu.size, h.files.upd hu hy⟩
theorem RDisk.mono {w : World} {p : Nat} {X Y : Nat → Prop} {s : St} {av : Sl} {rv : Bool → ByteArray → Sl} {a : Int} (h : RDisk w p X s av rv a) (hy : ∀ k, X k → Y k) (hb : ∀ k, Y k → k < w.heap.size) : RDisk w p Y s av rv a :=
  ⟨h.head, h.aft, hy p h.xp, hb, h.files.mono hy⟩
theorem RefD.upd {w w' : World} {p : Nat} {X Y : Nat → Prop} {s : St} (h : RefD w p X s) (hu : Upd Y w w') (hy : ∀ k, X k → ¬ Y k) : RefD w' p X s := by
  obtain ⟨av, rv, a, h⟩ := h
  exact ⟨av, rv, a, h.upd hu hy⟩
theorem RefD.bd {w : World} {p : Nat} {X : Nat → Prop} {s : St} (h : RefD w p X s) : ∀ k, X k → k < w.heap.size := by
  obtain ⟨av, rv, a, h⟩ := h
  exact h.bd
theorem RefD.mono {w : World} {p : Nat} {X Y : Nat → Prop} {s : St} (h : RefD w p X s) (hy : ∀ k, X k → Y k) (hb : ∀ k, Y k → k < w.heap.size) : RefD w p Y s := by
  obtain ⟨av, rv, a, h⟩ := h
  exact ⟨av, rv, a, h.mono hy hb⟩
theorem RefD.below {w w' : World} {p : Nat} {X : Nat → Prop} {s : St} (h : RefD w p X s) (hb : Below w.heap.size w w') : RefD w' p X s :=
  h.upd (Upd.of_below hb (fun _ => False)) (fun _ _ h => h)
/-- A call has made the disk another: it holds s' now; what it writes is its own, or new. -/
def RStep (p : Nat) (X : Nat → Prop) (w w' : World) (s' : St) : Prop := RefD w' p (More X w w') s' ∧ Upd X w w'
theorem RStep.refl {w : World} {p : Nat} {X : Nat → Prop} {s : St} (h : RefD w p X s) : RStep p X w w s :=
  ⟨h.mono (fun _ h => .inl h) (bd_more h.bd (Nat.le_refl _)), Upd.refl _ _⟩
theorem RStep.trans {w w1 w2 : World} {p : Nat} {X : Nat → Prop} {s1 s2 : St} (h : RStep p X w w1 s1) (k : RStep p (More X w w1) w1 w2 s2) : RStep p X w w2 s2 :=
  ⟨k.1.mono (fun b hb => (More.trans h.2.size k.2.size b).1 hb) (fun b hb => k.1.bd b ((More.trans h.2.size k.2.size b).2 hb)), h.2.more k.2⟩
theorem RStep.below {w w' : World} {p : Nat} {X : Nat → Prop} {s : St} (h : RefD w p X s) (hb : Below w.heap.size w w') : RStep p X w w' s :=
  ⟨(h.below hb).mono (fun _ h => .inl h) (bd_more h.bd hb.size), Upd.of_below hb X⟩
theorem RStep.then_below {w w1 w2 : World} {p : Nat} {X : Nat → Prop} {s : St} (h : RStep p X w w1 s) (hb : Below w1.heap.size w1 w2) : RStep p X w w2 s := h.trans (RStep.below h.1 hb)
/-- p lies apart from the files. -/
theorem RDisk.ne_outer {w : World} {p : Nat} {X : Nat → Prop} {s : St} {av : Sl} {rv : Bool → ByteArray → Sl} {a : Int} (h : RDisk w p X s av rv a) : av.v.ownBlock ≠ some p := fun e => by
  obtain ⟨c, hc⟩ := Kd.R_typed h.files.outer p e
  exact blk_ne hc h.head (by decide) rfl
theorem RDisk.ne_row {w : World} {p : Nat} {X : Nat → Prop} {s : St} {av : Sl} {rv : Bool → ByteArray → Sl} {a : Int} (h : RDisk w p X s av rv a) {f : F} (hf : f ∈ s.all) (b : Bool) : (rv b f.name).v.ownBlock ≠ some p := fun e => by
  obtain ⟨c, hc⟩ := (h.files.row f hf b).typed e
  exact blk_ne hc h.head (by decide) rfl
/-- The disk's own block is written; the files stay. -/
theorem RDisk.set {w w' : World} {p : Nat} {X : Nat → Prop} {s s' : St} {av : Sl} {rv : Bool → ByteArray → Sl} {a a' : Int} (h : RDisk w p X s av rv a) (hall : s'.all = s.all) (hu : Upd (fun k => k = p) w w')
    (hh : w'.heap[p]? = some (.cells #[av.v, .bool s'.down, .int .i64 s'.left, .int .i64 a', .int .i64 s'.fails] 84 (0, 0))) (ha : s'.fails ≠ 0 → a' = s'.after) : RDisk w' p (More X w w') s' av rv a' ∧ Upd X w w' := by
  refine ⟨⟨hh, ha, .inl h.xp, bd_more h.bd hu.size, ?_⟩, hu.mono (fun b _ hb => by subst hb; exact h.xp)⟩
  rw [hall]
  refine RFiles.mono (X := X) ⟨Kd.R_mono (Kd.R_step (Kd.R_tight rfl h.files.outer) (fun k hk hlt => hu.same k hlt (fun e => h.ne_outer (by rw [← e]; exact hk.symm)))) (fun _ _ => trivial), fun f hf b => (h.files.row f hf b).upd hu (fun k hk e => h.ne_row hf b (by rw [← e]; exact hk)), h.files.di, h.files.nd, h.files.xo, h.files.xr⟩ (fun _ h => .inl h)
theorem RDisk.put {w w' : World} {p : Nat} {X : Nat → Prop} {s s' : St} {av : Sl} {rv : Bool → ByteArray → Sl} {a a' : Int} (h : RDisk w p X s av rv a) (hall : s'.all = s.all) (hu : Upd (fun k => k = p) w w')
    (hh : w'.heap[p]? = some (.cells #[av.v, .bool s'.down, .int .i64 s'.left, .int .i64 a', .int .i64 s'.fails] 84 (0, 0))) (ha : s'.fails ≠ 0 → a' = s'.after) : RStep p X w w' s' :=
  ⟨⟨av, rv, a', (h.set hall hu hh ha).1⟩, (h.set hall hu hh ha).2⟩
end Go.Proofs.Ytfholpajdkjbbaa.DK
/- The reference's disk: the small calls; conditions: those in each theorem. -/
namespace Go.Proofs.Ytfholpajdkjbbaa.DK
open Go.RowKit Go.Proofs.YtfholpajdkjbbaaW.PrintWords Go.Proofs.YtfholpajdkjbbaaW.PrintLast Go.Proofs.YtfholpajdkjbbaaW.PrintMore Go.Proofs.Ytfholpajdkjbbaa.Mo
set_option linter.unusedVariables false
set_option linter.unusedSimpArgs false
end Go.Proofs.Ytfholpajdkjbbaa.DK
/- The reference's disk: find, there; conditions: those in each theorem. -/
namespace Go.Proofs.Ytfholpajdkjbbaa.DK
open Go.RowKit Go.Proofs.YtfholpajdkjbbaaW.PrintWords Go.Proofs.YtfholpajdkjbbaaW.PrintLast Go.Proofs.YtfholpajdkjbbaaW.PrintMore Go.Proofs.Ytfholpajdkjbbaa.Mo
set_option linter.unusedVariables false
set_option linter.unusedSimpArgs false
theorem RFiles.len {w : World} {av : Sl} {rv : Bool → ByteArray → Sl} {X : Nat → Prop} {l : List F} (h : RFiles w av rv X l) : av.n = l.length := by
  have := (Kd.R_reads' (show kT.R 86 w 0 (fun _ => True) (.slice av.A av.n av.c) (l.map (tri rv)) from h.outer)).1
  rw [List.length_map] at this
  exact this
theorem RFiles.cap {w : World} {av : Sl} {rv : Bool → ByteArray → Sl} {X : Nat → Prop} {l : List F} (h : RFiles w av rv X l) : av.n ≤ av.c :=
  (Kd.R_reads' (show kT.R 86 w 0 (fun _ => True) (.slice av.A av.n av.c) (l.map (tri rv)) from h.outer)).2.1
/-- What file i's cells hold. -/
theorem RFiles.at_ {w : World} {av : Sl} {rv : Bool → ByteArray → Sl} {X : Nat → Prop} {l : List F} (h : RFiles w av rv X l) (i : Nat) (hi : i < l.length) :
    ∃ g, av.A = some ⟨g, 0, none⟩ ∧ g < w.heap.size ∧ w.cell? ⟨g, i * 3, none⟩ = some (.string (l[i]).name) ∧ w.cell? ⟨g, i * 3 + 1, none⟩ = some (rv false (l[i]).name).v ∧ w.cell? ⟨g, i * 3 + 2, none⟩ = some (rv true (l[i]).name).v ∧
      w.frozen? ⟨g, i * 3 + 1, none⟩ = false ∧ w.frozen? ⟨g, i * 3 + 2, none⟩ = false ∧ w.frozen? ⟨g, i * 3, none⟩ = false := by
  obtain ⟨g, cap, e, _, hg, _⟩ := Kd.R_form h.outer (by rw [List.length_map]; omega)
  have e' : Value.slice av.A av.n av.c = .slice (some ⟨g, 0, none⟩) (l.map (tri rv)).length cap := e
  injection e' with e1 e2 e3
  obtain ⟨c, hcl, hM, hc, hf⟩ := Kd.R_elem (show kT.R 86 w 0 (fun _ => True) (.slice (some ⟨g, 0, none⟩) av.n av.c) (l.map (tri rv)) by rw [← e1]; exact h.outer) (default : Tri) (i : Int) (by omega) (by rw [h.len]; omega)
  rw [Int.toNat_natCast] at hM hc hf
  have ht : (l.map (tri rv)).getD i default = tri rv l[i] := by
    rw [List.getD_eq_getElem?_getD, List.getElem?_map, List.getElem?_eq_getElem hi]
    rfl
  rw [ht] at hM
  rw [kT_M] at hM
  subst hM
  exact ⟨g, e1, hg, hc 0 _ rfl, hc 1 _ rfl, hc 2 _ rfl, hf 1, hf 2, hf 0⟩
end Go.Proofs.Ytfholpajdkjbbaa.DK
/- The reference's disk: a store into one file's cells; conditions: those in each theorem. -/
namespace Go.Proofs.Ytfholpajdkjbbaa.DK
open Go.RowKit Go.Proofs.YtfholpajdkjbbaaW.PrintWords Go.Proofs.YtfholpajdkjbbaaW.PrintLast Go.Proofs.YtfholpajdkjbbaaW.PrintMore Go.Proofs.Ytfholpajdkjbbaa.Mo
set_option linter.unusedVariables false
set_option linter.unusedSimpArgs false
/-- What is known behind an append to one file's row. -/
theorem RDisk.grown {w w4 : World} {p : Nat} {X : Nat → Prop} {s : St} {av : Sl} {rv : Bool → ByteArray → Sl} {a : Int} (h : RDisk w p X s av rv a) (i : Nat) (hi : i < s.all.length) (b : Bool) (hg : w.grownBy w4 (rv b (s.all[i]).name).v.ownBlock) :
    w4.heap[p]? = some (.cells #[av.v, .bool s.down, .int .i64 s.left, .int .i64 a, .int .i64 s.fails] 84 (0, 0)) ∧ kT.R 86 w4 0 (fun _ => True) av.v (s.all.map (tri rv)) ∧
      Row w4 (rv (!b) (s.all[i]).name).v (fpart (!b) (s.all[i])) := by
  have hm : s.all[i] ∈ s.all := List.getElem_mem hi
  refine ⟨(hg.block p (blk_lt h.head) (fun e => h.ne_row hm b e.symm)).trans h.head, ?_, ?_⟩
  · exact Kd.R_mono (Kd.R_step (Kd.R_tight rfl h.files.outer) (fun k hk hlt => hg.block k hlt (fun e => outer_row h.files.outer (h.files.row _ hm b) hk.symm e.symm))) (fun _ _ => trivial)
  · refine (h.files.row _ hm (!b)).same (fun k hk => hg.block k ((h.files.row _ hm (!b)).lt hk) (fun e => ?_))
    exact h.files.di _ hm _ hm (!b) b (fun e2 => by cases b <;> cases e2) k hk e.symm
theorem cells_of {w : World} {av : Sl} {l : List Tri} (h : kT.R 86 w 0 (fun _ => True) av.v l) {g : Nat} (hA : av.A = some ⟨g, 0, none⟩) (i : Nat) (hi : i < l.length) :
    w.cell? ⟨g, i * 3, none⟩ = some (.string (l[i]).nm) ∧ w.cell? ⟨g, i * 3 + 1, none⟩ = some (l[i]).s.v ∧ w.cell? ⟨g, i * 3 + 2, none⟩ = some (l[i]).l.v ∧
      w.frozen? ⟨g, i * 3, none⟩ = false ∧ w.frozen? ⟨g, i * 3 + 1, none⟩ = false ∧ w.frozen? ⟨g, i * 3 + 2, none⟩ = false := by
  have h' : kT.R 86 w 0 (fun _ => True) (.slice (some ⟨g, 0, none⟩) av.n av.c) l := by rw [← hA]; exact h
  have hn := (Kd.R_reads' h').1
  obtain ⟨c, hcl, hM, hc, hf⟩ := Kd.R_elem h' (default : Tri) (i : Int) (by omega) (by omega)
  rw [Int.toNat_natCast] at hM hc hf
  rw [List.getD_eq_getElem?_getD, List.getElem?_eq_getElem hi, kT_M] at hM
  have hM : c = (l[i]).cells := hM
  subst hM
  exact ⟨hc 0 _ rfl, hc 1 _ rfl, hc 2 _ rfl, hf 0, hf 1, hf 2⟩
end Go.Proofs.Ytfholpajdkjbbaa.DK
/- The reference's disk: Sync; conditions: those in each theorem. -/
namespace Go.Proofs.Ytfholpajdkjbbaa.DK
open Go.RowKit Go.Proofs.YtfholpajdkjbbaaW.PrintWords Go.Proofs.YtfholpajdkjbbaaW.PrintLast Go.Proofs.YtfholpajdkjbbaaW.PrintMore Go.Proofs.Ytfholpajdkjbbaa.Mo
set_option linter.unusedVariables false
set_option linter.unusedSimpArgs false
theorem Row.sl {w : World} {t : Sl} {xs : List Int} (h : Row w t.v xs) : t.n = xs.length ∧ t.n ≤ t.c ∧ (Kd.int .u8).C w t.A xs.length xs := by
  have h' : (Kd.int .u8).R 5 w 0 (fun _ => True) (.slice t.A t.n t.c) xs := h
  obtain ⟨h1, h2, h3⟩ := Kd.R_reads' h'
  exact ⟨h1, h2, h3⟩
theorem RDisk.drew {w : World} {p : Nat} {X : Nat → Prop} {s : St} {av : Sl} {rv : Bool → ByteArray → Sl} {a : Int} (h : RDisk w p X s av rv a) : RDisk w.drew p X s av rv a := h.upd (Y := fun _ => False) ((Upd.refl _ _).drew) (fun _ _ h => h)
/-- File i, laid open. -/
structure FileAt (w : World) (p : Nat) (X : Nat → Prop) (s : St) (av : Sl) (rv : Bool → ByteArray → Sl) (a : Int) (i : Nat) (f : F) (g cav : Nat) (A1 : Option Addr) (c1 : Nat) (A2 : Option Addr) (c2 : Nat) : Prop where
  disk : RDisk w p X s av rv a
  hi : i < s.all.length
  hf : ∀ h : i < s.all.length, s.all[i] = f
  hA : av.A = some ⟨g, 0, none⟩
  hav : av.v = .slice (some ⟨g, 0, none⟩) s.all.length cav
  ne : p ≠ g
  lt : g < w.heap.size
  s1 : rv false f.name = ⟨A1, f.sure.length, c1⟩
  s2 : rv true f.name = ⟨A2, f.loose.length, c2⟩
  l1 : f.sure.length ≤ c1
  l2 : f.loose.length ≤ c2
  r1 : Row w (.slice A1 f.sure.length c1) f.sure
  r2 : Row w (.slice A2 f.loose.length c2) f.loose
  q1 : (Kd.int .u8).C w A1 f.sure.length f.sure
  q2 : (Kd.int .u8).C w A2 f.loose.length f.loose
  di : Dis (.slice A1 f.sure.length c1) (.slice A2 f.loose.length c2)
  head : w.heap[p]? = some (.cells #[.slice (some ⟨g, 0, none⟩) s.all.length cav, .bool s.down, .int .i64 s.left, .int .i64 a, .int .i64 s.fails] 84 (0, 0))
  k0 : w.cell? ⟨g, i * 3, none⟩ = some (.string f.name)
  k1 : w.cell? ⟨g, i * 3 + 1, none⟩ = some (.slice A1 f.sure.length c1)
  k2 : w.cell? ⟨g, i * 3 + 2, none⟩ = some (.slice A2 f.loose.length c2)
  f0 : w.frozen? ⟨g, i * 3, none⟩ = false
  f1 : w.frozen? ⟨g, i * 3 + 1, none⟩ = false
  f2 : w.frozen? ⟨g, i * 3 + 2, none⟩ = false
theorem RDisk.open_ {w : World} {p : Nat} {X : Nat → Prop} {s : St} {av : Sl} {rv : Bool → ByteArray → Sl} {a : Int} (h : RDisk w p X s av rv a) (i : Nat) (hi : i < s.all.length) : ∃ g cav A1 c1 A2 c2, FileAt w p X s av rv a i (s.all[i]) g cav A1 c1 A2 c2 := by
  have hm : s.all[i] ∈ s.all := List.getElem_mem hi
  obtain ⟨g, hA, hg, _⟩ := h.files.at_ i hi
  have hav : av.v = .slice (some ⟨g, 0, none⟩) s.all.length av.c := by unfold Sl.v; rw [hA, h.files.len]
  obtain ⟨k0, k1, k2, f0, f1, f2⟩ := cells_of h.files.outer hA i (by rw [List.length_map]; exact hi)
  rw [List.getElem_map] at k0 k1 k2
  have r1 := h.files.row _ hm false
  have r2 := h.files.row _ hm true
  obtain ⟨n1, m1, q1⟩ := r1.sl
  obtain ⟨n2, m2, q2⟩ := r2.sl
  have e1 : rv false (s.all[i]).name = ⟨(rv false (s.all[i]).name).A, (s.all[i]).sure.length, (rv false (s.all[i]).name).c⟩ := by
    rw [show (s.all[i]).sure.length = (rv false (s.all[i]).name).n from n1.symm]
  have e2 : rv true (s.all[i]).name = ⟨(rv true (s.all[i]).name).A, (s.all[i]).loose.length, (rv true (s.all[i]).name).c⟩ := by
    rw [show (s.all[i]).loose.length = (rv true (s.all[i]).name).n from n2.symm]
  have v1 : (rv false (s.all[i]).name).v = .slice (rv false (s.all[i]).name).A (s.all[i]).sure.length (rv false (s.all[i]).name).c := by unfold Sl.v; rw [show (s.all[i]).sure.length = (rv false (s.all[i]).name).n from n1.symm]
  have v2 : (rv true (s.all[i]).name).v = .slice (rv true (s.all[i]).name).A (s.all[i]).loose.length (rv true (s.all[i]).name).c := by unfold Sl.v; rw [show (s.all[i]).loose.length = (rv true (s.all[i]).name).n from n2.symm]
  refine ⟨g, av.c, _, _, _, _, h, hi, fun _ => rfl, hA, hav, fun e => h.ne_outer (by rw [hav, e]; rfl), hg, e1, e2, ?_, ?_, by rw [← v1]; exact r1, by rw [← v2]; exact r2, q1, q2, ?_, by rw [← hav]; exact h.head, k0, by rw [← v1]; exact k1, by rw [← v2]; exact k2, f0, f1, f2⟩
  · exact Nat.le_trans (Nat.le_of_eq n1.symm) m1
  · exact Nat.le_trans (Nat.le_of_eq n2.symm) m2
  · rw [← v1, ← v2]
    exact h.files.di _ hm _ hm false true (fun h => nomatch h)
theorem FileAt.drew {w : World} {p : Nat} {X : Nat → Prop} {s : St} {av : Sl} {rv : Bool → ByteArray → Sl} {a : Int} {i : Nat} {f : F} {g cav : Nat} {A1 : Option Addr} {c1 : Nat} {A2 : Option Addr} {c2 : Nat} (h : FileAt w p X s av rv a i f g cav A1 c1 A2 c2) : FileAt w.drew p X s av rv a i f g cav A1 c1 A2 c2 :=
  ⟨h.disk.drew, h.hi, h.hf, h.hA, h.hav, h.ne, h.lt, h.s1, h.s2, h.l1, h.l2, Kd.R_drew h.r1, Kd.R_drew h.r2, Kd.C_drew h.q1, Kd.C_drew h.q2, h.di, h.head, h.k0, h.k1, h.k2, h.f0, h.f1, h.f2⟩
end Go.Proofs.Ytfholpajdkjbbaa.DK
