/- Parts Vr, R1, R2, Vs, R3 of this work, in one text. -/
import Derived.Test.YtfholpajdkjbbaaQeGa
/- The reference's disk in memory: its block, a row of bare triples, two rows a file; what a change of one file does; conditions: those in each theorem. -/
namespace Go.Proofs.Ytfholpajdkjbbaa.DK
open Go.RowKit Go.Proofs.YtfholpajdkjbbaaW.PrintWords Go.Proofs.YtfholpajdkjbbaaW.PrintLast Go.Proofs.YtfholpajdkjbbaaW.PrintMore Go.Proofs.Ytfholpajdkjbbaa.Mo
set_option linter.unusedVariables false
set_option linter.unusedSimpArgs false
/-- A slice's value, bare. -/
structure Sl where
  A : Option Addr
  n : Nat
  c : Nat
def Sl.v (s : Sl) : Value := .slice s.A s.n s.c
def Sl.nil : Sl := ⟨none, 0, 0⟩
def kSl : Kd Sl := Kd.scalar Sl.v (fun _ => rfl)
/-- A file's cells, bare. -/
structure Tri where
  nm : ByteArray
  s : Sl
  l : Sl
def Tri.cells (t : Tri) : List Value := [.string t.nm, t.s.v, t.l.v]
instance : Inhabited Tri := ⟨⟨.empty, Sl.nil, Sl.nil⟩⟩
def kT : Kd Tri := Kd.iso (Kd.pair Kd.string (Kd.pair kSl kSl)) (fun t => (t.nm, t.s, t.l))
theorem kT_M {w : World} {base : Nat} {ok : Nat → Prop} {t : Tri} {cs : List Value} : kT.M w base ok t cs ↔ cs = t.cells := by
  constructor
  · rintro ⟨c0, c1, rfl, h0, c2, c3, rfl, h2, h3⟩
    have e0 : c0 = [.string t.nm] := h0
    have e2 : c2 = [t.s.v] := h2
    have e3 : c3 = [t.l.v] := h3
    rw [e0, e2, e3]; rfl
  · rintro rfl
    exact ⟨[.string t.nm], [t.s.v, t.l.v], rfl, rfl, [t.s.v], [t.l.v], rfl, rfl, rfl⟩
theorem kT_sz : kT.sz = 3 := rfl
def tri (rv : Bool → ByteArray → Sl) (f : F) : Tri := ⟨f.name, rv false f.name, rv true f.name⟩
def fpart (b : Bool) (f : F) : List Int := match b with | false => f.sure | true => f.loose
structure RFiles (w : World) (av : Sl) (rv : Bool → ByteArray → Sl) (X : Nat → Prop) (l : List F) : Prop where
  outer : kT.R 86 w 0 (fun _ => True) av.v (l.map (tri rv))
  row : ∀ f ∈ l, ∀ b, Row w (rv b f.name).v (fpart b f)
  di : ∀ f ∈ l, ∀ g ∈ l, ∀ b c, (b = c → f.name ≠ g.name) → Dis (rv b f.name).v (rv c g.name).v
  nd : (namesOf l).Nodup
  xo : ∀ k, av.v.ownBlock = some k → X k
  xr : ∀ f ∈ l, ∀ b k, (rv b f.name).v.ownBlock = some k → X k
theorem outer_row {w : World} {av : Sl} {l : List Tri} {v : Value} {xs : List Int} (h : kT.R 86 w 0 (fun _ => True) av.v l) (hr : Row w v xs) {k : Nat} (h1 : av.v.ownBlock = some k) (h2 : v.ownBlock = some k) : False := by
  obtain ⟨c1, e1⟩ := Kd.R_typed h k h1
  obtain ⟨c2, e2⟩ := hr.typed h2
  exact blk_ne e1 e2 (by decide) rfl
theorem RFiles.gen {w w' : World} {av av' : Sl} {rv : Bool → ByteArray → Sl} {X Y : Nat → Prop} {l l' : List F} (h : RFiles w av rv X l) (hnd : (namesOf l').Nodup) (nm0 : ByteArray) (t' : Bool → Sl) (hl : ∀ f ∈ l', f.name ≠ nm0 → f ∈ l)
    (h0 : ∀ f ∈ l', f.name = nm0 → ∀ b, Row w' (t' b).v (fpart b f)) (hd : Dis (t' false).v (t' true).v) (hv : ∀ b k, (t' b).v.ownBlock = some k → (∃ f ∈ l, f.name = nm0 ∧ ∃ c, (rv c nm0).v.ownBlock = some k) ∨ w.heap.size ≤ k)
    (hu : Upd Y w w') (hY : ∀ k, k < w.heap.size → Y k → av.v.ownBlock = some k ∨ ∃ f ∈ l, f.name = nm0 ∧ ∃ c, (rv c nm0).v.ownBlock = some k)
    (houter : kT.R 86 w' 0 (fun _ => True) av'.v (l'.map (tri fun b n => if n = nm0 then t' b else rv b n))) (hav : ∀ k, av'.v.ownBlock = some k → av.v.ownBlock = some k ∨ w.heap.size ≤ k) :
    RFiles w' av' (fun b n => if n = nm0 then t' b else rv b n) (More X w w') l' := by
  have hrow : ∀ f ∈ l', ∀ b, Row w' (if f.name = nm0 then t' b else rv b f.name).v (fpart b f) := fun f hf b => by
    by_cases e : f.name = nm0
    · rw [if_pos e]; exact h0 f hf e b
    · rw [if_neg e]
      have hfl := hl f hf e
      refine (h.row f hfl b).upd hu (fun k hk hy => ?_)
      rcases hY k ((h.row f hfl b).lt hk) hy with h1 | ⟨f1, hf1, e1, c, h1⟩
      · exact outer_row h.outer (h.row f hfl b) h1 hk
      · rw [← e1] at h1
        exact h.di f hfl f1 hf1 b c (fun _ e2 => e (e2.trans e1)) k hk h1
  have hmix : ∀ b, ∀ g ∈ l', g.name ≠ nm0 → ∀ c, Dis (t' b).v (rv c g.name).v := fun b g hg eg c k hk hk2 => by
    rcases hv b k hk with ⟨f1, hf1, e1, c1, h1⟩ | h1
    · rw [← e1] at h1
      exact h.di f1 hf1 g (hl g hg eg) c1 c (fun _ e2 => eg (e2.symm.trans e1)) k h1 hk2
    · exact absurd ((h.row g (hl g hg eg) c).lt hk2) (Nat.not_lt.2 h1)
  refine ⟨houter, hrow, fun f hf g hg b c hbc => ?_, hnd, fun k hk => ?_, fun f hf b k hk => ?_⟩
  · show Dis (if f.name = nm0 then t' b else rv b f.name).v (if g.name = nm0 then t' c else rv c g.name).v
    by_cases ef : f.name = nm0 <;> by_cases eg : g.name = nm0
    · rw [if_pos ef, if_pos eg]
      have hne : b ≠ c := fun e => hbc e (ef.trans eg.symm)
      cases b <;> cases c
      · exact absurd rfl hne
      · exact hd
      · exact hd.symm
      · exact absurd rfl hne
    · rw [if_pos ef, if_neg eg]; exact hmix b g hg eg c
    · rw [if_neg ef, if_pos eg]; exact (hmix c f hf ef b).symm
    · rw [if_neg ef, if_neg eg]; exact h.di f (hl f hf ef) g (hl g hg eg) b c hbc
  · rcases hav k hk with h1 | h1
    · exact .inl (h.xo k h1)
    · exact .inr ⟨h1, Kd.R_lt houter k hk⟩
  · have hlt := (hrow f hf b).lt hk
    have hk' : (if f.name = nm0 then t' b else rv b f.name).v.ownBlock = some k := hk
    by_cases e : f.name = nm0
    · rw [if_pos e] at hk'
      rcases hv b k hk' with ⟨f1, hf1, e1, c, h1⟩ | h1
      · rw [← e1] at h1
        exact .inl (h.xr f1 hf1 c k h1)
      · exact .inr ⟨h1, hlt⟩
    · rw [if_neg e] at hk'
      exact .inl (h.xr f (hl f hf e) b k hk')
theorem RFiles.upd {w w' : World} {av : Sl} {rv : Bool → ByteArray → Sl} {X Y : Nat → Prop} {l : List F} (h : RFiles w av rv X l) (hu : Upd Y w w') (hy : ∀ k, X k → ¬ Y k) : RFiles w' av rv X l :=
  ⟨Kd.R_mono (Kd.R_step (Kd.R_tight rfl h.outer) (fun k hk hlt => hu.same k hlt (hy k (h.xo k hk.symm)))) (fun _ _ => trivial), fun f hf b => (h.row f hf b).upd hu (fun k hk => hy k (h.xr f hf b k hk)), h.di, h.nd, h.xo, h.xr⟩
theorem RFiles.mono {w : World} {av : Sl} {rv : Bool → ByteArray → Sl} {X Y : Nat → Prop} {l : List F} (h : RFiles w av rv X l) (hy : ∀ k, X k → Y k) : RFiles w av rv Y l :=
  ⟨h.outer, h.row, h.di, h.nd, fun k hk => hy k (h.xo k hk), fun f hf b k hk => hy k (h.xr f hf b k hk)⟩
structure RDisk (w : World) (p : Nat) (X : Nat → Prop) (s : St) (av : Sl) (rv : Bool → ByteArray → Sl) (a : Int) : Prop where
  head : w.heap[p]? = some (.cells #[av.v, .bool s.down, .int .i64 s.left, .int .i64 a, .int .i64 s.fails] 84 (0, 0))
  aft : s.fails ≠ 0 → a = s.after
  xp : X p
  bd : ∀ k, X k → k < w.heap.size
  files : RFiles w av rv X s.all
/-- The reference's disk at p holds s, in blocks of X. -/
def RefD (w : World) (p : Nat) (X : Nat → Prop) (s : St) : Prop := ∃ av rv a, RDisk w p X s av rv a
theorem RDisk.upd {w w' : World} {p : Nat} {X Y : Nat → Prop} {s : St} {av : Sl} {rv : Bool → ByteArray → Sl} {a : Int} (h : RDisk w p X s av rv a) (hu : Upd Y w w') (hy : ∀ k, X k → ¬ Y k) : RDisk w' p X s av rv a :=
  ⟨blk_upd h.head hu (hy p h.xp), h.aft, h.xp, fun k hk => Nat.lt_of_lt_of_le (h.bd k hk) hu.size, h.files.upd hu hy⟩
theorem RDisk.mono {w : World} {p : Nat} {X Y : Nat → Prop} {s : St} {av : Sl} {rv : Bool → ByteArray → Sl} {a : Int} (h : RDisk w p X s av rv a) (hy : ∀ k, X k → Y k) (hb : ∀ k, Y k → k < w.heap.size) : RDisk w p Y s av rv a :=
  ⟨h.head, h.aft, hy p h.xp, hb, h.files.mono hy⟩
theorem RefD.upd {w w' : World} {p : Nat} {X Y : Nat → Prop} {s : St} (h : RefD w p X s) (hu : Upd Y w w') (hy : ∀ k, X k → ¬ Y k) : RefD w' p X s := by
  obtain ⟨av, rv, a, h⟩ := h
  exact ⟨av, rv, a, h.upd hu hy⟩
theorem RefD.bd {w : World} {p : Nat} {X : Nat → Prop} {s : St} (h : RefD w p X s) : ∀ k, X k → k < w.heap.size := by
  obtain ⟨av, rv, a, h⟩ := h
  exact h.bd
theorem RefD.mono {w : World} {p : Nat} {X Y : Nat → Prop} {s : St} (h : RefD w p X s) (hy : ∀ k, X k → Y k) (hb : ∀ k, Y k → k < w.heap.size) : RefD w p Y s := by
  obtain ⟨av, rv, a, h⟩ := h
  exact ⟨av, rv, a, h.mono hy hb⟩
theorem RefD.below {w w' : World} {p : Nat} {X : Nat → Prop} {s : St} (h : RefD w p X s) (hb : Below w.heap.size w w') : RefD w' p X s :=
  h.upd (Upd.of_below hb (fun _ => False)) (fun _ _ h => h)
/-- A call has made the disk another: it holds s' now; what it writes is its own, or new. -/
def RStep (p : Nat) (X : Nat → Prop) (w w' : World) (s' : St) : Prop := RefD w' p (More X w w') s' ∧ Upd X w w'
theorem RStep.refl {w : World} {p : Nat} {X : Nat → Prop} {s : St} (h : RefD w p X s) : RStep p X w w s :=
  ⟨h.mono (fun _ h => .inl h) (bd_more h.bd (Nat.le_refl _)), Upd.refl _ _⟩
theorem RStep.trans {w w1 w2 : World} {p : Nat} {X : Nat → Prop} {s1 s2 : St} (h : RStep p X w w1 s1) (k : RStep p (More X w w1) w1 w2 s2) : RStep p X w w2 s2 :=
  ⟨k.1.mono (fun b hb => (More.trans h.2.size k.2.size b).1 hb) (fun b hb => k.1.bd b ((More.trans h.2.size k.2.size b).2 hb)), h.2.more k.2⟩
theorem RStep.below {w w' : World} {p : Nat} {X : Nat → Prop} {s : St} (h : RefD w p X s) (hb : Below w.heap.size w w') : RStep p X w w' s :=
  ⟨(h.below hb).mono (fun _ h => .inl h) (bd_more h.bd hb.size), Upd.of_below hb X⟩
theorem RStep.then_below {w w1 w2 : World} {p : Nat} {X : Nat → Prop} {s : St} (h : RStep p X w w1 s) (hb : Below w1.heap.size w1 w2) : RStep p X w w2 s := h.trans (RStep.below h.1 hb)
/-- p lies apart from the files. -/
theorem RDisk.ne_outer {w : World} {p : Nat} {X : Nat → Prop} {s : St} {av : Sl} {rv : Bool → ByteArray → Sl} {a : Int} (h : RDisk w p X s av rv a) : av.v.ownBlock ≠ some p := fun e => by
  obtain ⟨c, hc⟩ := Kd.R_typed h.files.outer p e
  exact blk_ne hc h.head (by decide) rfl
theorem RDisk.ne_row {w : World} {p : Nat} {X : Nat → Prop} {s : St} {av : Sl} {rv : Bool → ByteArray → Sl} {a : Int} (h : RDisk w p X s av rv a) {f : F} (hf : f ∈ s.all) (b : Bool) : (rv b f.name).v.ownBlock ≠ some p := fun e => by
  obtain ⟨c, hc⟩ := (h.files.row f hf b).typed e
  exact blk_ne hc h.head (by decide) rfl
/-- The disk's own block is written; the files stay. -/
theorem RDisk.set {w w' : World} {p : Nat} {X : Nat → Prop} {s s' : St} {av : Sl} {rv : Bool → ByteArray → Sl} {a a' : Int} (h : RDisk w p X s av rv a) (hall : s'.all = s.all) (hu : Upd (fun k => k = p) w w')
    (hh : w'.heap[p]? = some (.cells #[av.v, .bool s'.down, .int .i64 s'.left, .int .i64 a', .int .i64 s'.fails] 84 (0, 0))) (ha : s'.fails ≠ 0 → a' = s'.after) : RDisk w' p (More X w w') s' av rv a' ∧ Upd X w w' := by
  refine ⟨⟨hh, ha, .inl h.xp, bd_more h.bd hu.size, ?_⟩, hu.mono (fun b _ hb => by subst hb; exact h.xp)⟩
  rw [hall]
  refine RFiles.mono (X := X) ⟨Kd.R_mono (Kd.R_step (Kd.R_tight rfl h.files.outer) (fun k hk hlt => hu.same k hlt (fun e => h.ne_outer (by rw [← e]; exact hk.symm)))) (fun _ _ => trivial), fun f hf b => (h.files.row f hf b).upd hu (fun k hk e => h.ne_row hf b (by rw [← e]; exact hk)), h.files.di, h.files.nd, h.files.xo, h.files.xr⟩ (fun _ h => .inl h)
theorem RDisk.put {w w' : World} {p : Nat} {X : Nat → Prop} {s s' : St} {av : Sl} {rv : Bool → ByteArray → Sl} {a a' : Int} (h : RDisk w p X s av rv a) (hall : s'.all = s.all) (hu : Upd (fun k => k = p) w w')
    (hh : w'.heap[p]? = some (.cells #[av.v, .bool s'.down, .int .i64 s'.left, .int .i64 a', .int .i64 s'.fails] 84 (0, 0))) (ha : s'.fails ≠ 0 → a' = s'.after) : RStep p X w w' s' :=
  ⟨⟨av, rv, a', (h.set hall hu hh ha).1⟩, (h.set hall hu hh ha).2⟩
end Go.Proofs.Ytfholpajdkjbbaa.DK
/- The reference's disk: the small calls; conditions: those in each theorem. -/
namespace Go.Proofs.Ytfholpajdkjbbaa.DK
open Go.RowKit Go.Proofs.YtfholpajdkjbbaaW.PrintWords Go.Proofs.YtfholpajdkjbbaaW.PrintLast Go.Proofs.YtfholpajdkjbbaaW.PrintMore Go.Proofs.Ytfholpajdkjbbaa.Mo
set_option linter.unusedVariables false
set_option linter.unusedSimpArgs false
set_option maxHeartbeats 1000000 in
theorem rfall_raw (w : World) (p : Nat) (m : Value) (dn : Bool) (l a f : Int) (hp : w.heap[p]? = some (.cells #[m, .bool dn, .int .i64 l, .int .i64 a, .int .i64 f] 84 (0, 0))) :
    Calls Try.prog 60 #[.pointer (some ⟨p, 0, none⟩)] w fun e w' => e = .returned (.tuple #[]) ∧ Upd (fun k => k = p) w w' ∧ w'.heap[p]? = some (.cells #[m, .bool true, .int .i64 (-1), .int .i64 a, .int .i64 0] 84 (0, 0)) := by
  have c0 := blk_cell hp 0
  have c1 := blk_cell hp 1
  have c2 := blk_cell hp 2
  have c3 := blk_cell hp 3
  have c4 := blk_cell hp 4
  have fc0 := blk_frozen hp 0
  have fc1 := blk_frozen hp 1
  have fc2 := blk_frozen hp 2
  have fc3 := blk_frozen hp 3
  have fc4 := blk_frozen hp 4
  simp only [List.getElem?_toArray, List.getElem?_cons_succ, List.getElem?_cons_zero] at c0 c1 c2 c3 c4
  have hlt := blk_lt hp
  have HP := Aside0.mk hp
  clear hp
  go_enter Try.func60, Try.ntmps60
  go_wp2
  all_goals (first | go_end0 | ((try simp only [Exit.inBlock, Exit.then]); refine bodyPost_ret (results_none rfl _ _ _) rfl ?_))
  exact ⟨rfl, (by repeat (with_reducible first | exact Upd.refl _ _ | apply Upd.set1 | apply Upd.alloc | apply Upd.drewN | apply Upd.drew)), (by simp only [heap_set, heap_drewN, heap_drew, heap_alloc_lt _ _ _ hlt, HP.out, Option.map_some] <;> rfl)⟩
theorem rfall_calls (w : World) (p : Nat) (X : Nat → Prop) (s : St) (h : RefD w p X s) : Calls Try.prog 60 #[.pointer (some ⟨p, 0, none⟩)] w fun e w' => e = .returned (.tuple #[]) ∧ RStep p X w w' s.fall := by
  obtain ⟨av, rv, a, h⟩ := h
  exact (rfall_raw w p _ _ _ _ _ h.head).mono fun e w' ⟨h1, h2, h3⟩ => ⟨h1, h.put (s' := s.fall) rfl h2 h3 (fun hf => absurd rfl hf)⟩
set_option maxHeartbeats 1000000 in
theorem rcrash_calls (w : World) (p : Nat) (X : Nat → Prop) (s : St) (h : RefD w p X s) : Calls Try.prog 73 #[.pointer (some ⟨p, 0, none⟩)] w fun e w' => e = .returned (.tuple #[]) ∧ RStep p X w w' s.fall := by
  have HC := Aside0.mk (rfall_calls w p X s h)
  clear h
  go_enter Try.func73, Try.ntmps73
  go_wp2_with (go_at_call 60; refine HC.out.mono ?_; rintro e w1 ⟨rfl, hP⟩)
  all_goals (first | go_end0 | ((try simp only [Exit.inBlock, Exit.then]); refine bodyPost_ret (results_none rfl _ _ _) rfl ?_))
  exact ⟨rfl, hP⟩
set_option maxHeartbeats 1000000 in
theorem rpays_free (w : World) (p : Nat) (m : Value) (dn : Bool) (l a f cost : Int) (hp : w.heap[p]? = some (.cells #[m, .bool dn, .int .i64 l, .int .i64 a, .int .i64 f] 84 (0, 0))) (hl : l < 0) :
    Calls Try.prog 58 #[.pointer (some ⟨p, 0, none⟩), .int .i64 cost] w fun e w' => e = .returned (.bool true) ∧ w' = w := by
  have c0 := blk_cell hp 0
  have c1 := blk_cell hp 1
  have c2 := blk_cell hp 2
  have c3 := blk_cell hp 3
  have c4 := blk_cell hp 4
  have fc0 := blk_frozen hp 0
  have fc1 := blk_frozen hp 1
  have fc2 := blk_frozen hp 2
  have fc3 := blk_frozen hp 3
  have fc4 := blk_frozen hp 4
  simp only [List.getElem?_toArray, List.getElem?_cons_succ, List.getElem?_cons_zero] at c0 c1 c2 c3 c4
  clear hp
  go_enter Try.func58, Try.ntmps58
  go_wp2
  go_ret
  exact ⟨rfl, rfl⟩
set_option maxHeartbeats 1000000 in
theorem rpays_no (w : World) (p : Nat) (m : Value) (dn : Bool) (l a f cost : Int) (hp : w.heap[p]? = some (.cells #[m, .bool dn, .int .i64 l, .int .i64 a, .int .i64 f] 84 (0, 0))) (hl : 0 ≤ l) (h1 : l < cost) :
    Calls Try.prog 58 #[.pointer (some ⟨p, 0, none⟩), .int .i64 cost] w fun e w' => e = .returned (.bool false) ∧ w' = w := by
  have c0 := blk_cell hp 0
  have c1 := blk_cell hp 1
  have c2 := blk_cell hp 2
  have c3 := blk_cell hp 3
  have c4 := blk_cell hp 4
  have fc0 := blk_frozen hp 0
  have fc1 := blk_frozen hp 1
  have fc2 := blk_frozen hp 2
  have fc3 := blk_frozen hp 3
  have fc4 := blk_frozen hp 4
  simp only [List.getElem?_toArray, List.getElem?_cons_succ, List.getElem?_cons_zero] at c0 c1 c2 c3 c4
  clear hp
  go_enter Try.func58, Try.ntmps58
  go_wp2
  go_ret
  exact ⟨rfl, rfl⟩
set_option maxHeartbeats 1000000 in
theorem rpays_yes (w : World) (p : Nat) (m : Value) (dn : Bool) (l a f cost : Int) (hp : w.heap[p]? = some (.cells #[m, .bool dn, .int .i64 l, .int .i64 a, .int .i64 f] 84 (0, 0))) (hl : 0 ≤ l) (h0 : 0 ≤ cost) (h1 : cost ≤ l) (h2 : l ≤ 9223372036854775807) :
    Calls Try.prog 58 #[.pointer (some ⟨p, 0, none⟩), .int .i64 cost] w fun e w' => e = .returned (.bool true) ∧ Upd (fun k => k = p) w w' ∧ w'.heap[p]? = some (.cells #[m, .bool dn, .int .i64 (l - cost), .int .i64 a, .int .i64 f] 84 (0, 0)) := by
  have c0 := blk_cell hp 0
  have c1 := blk_cell hp 1
  have c2 := blk_cell hp 2
  have c3 := blk_cell hp 3
  have c4 := blk_cell hp 4
  have fc0 := blk_frozen hp 0
  have fc1 := blk_frozen hp 1
  have fc2 := blk_frozen hp 2
  have fc3 := blk_frozen hp 3
  have fc4 := blk_frozen hp 4
  simp only [List.getElem?_toArray, List.getElem?_cons_succ, List.getElem?_cons_zero] at c0 c1 c2 c3 c4
  have hlt := blk_lt hp
  have HP := Aside0.mk hp
  clear hp
  go_enter Try.func58, Try.ntmps58
  go_wp2
  go_ret
  exact ⟨rfl, (by repeat (with_reducible first | exact Upd.refl _ _ | apply Upd.set1 | apply Upd.alloc | apply Upd.drewN | apply Upd.drew)), (by simp only [heap_set, heap_drewN, heap_drew, heap_alloc_lt _ _ _ hlt, HP.out, Option.map_some] <;> rfl)⟩
theorem rpays_calls (w : World) (p : Nat) (X : Nat → Prop) (s : St) (cost : Int) (h : RefD w p X s) (ok : Ok s) (h0 : 0 ≤ cost) : Calls Try.prog 58 #[.pointer (some ⟨p, 0, none⟩), .int .i64 cost] w fun e w' => e = .returned (.bool (s.pays cost).2) ∧ RStep p X w w' (s.pays cost).1 := by
  have h' := h
  obtain ⟨av, rv, a, h⟩ := h
  unfold St.pays
  by_cases hl : s.left < 0
  · rw [if_pos hl]
    refine (rpays_free w p _ _ _ _ _ cost h.head hl).mono fun e w' ⟨h1, h2⟩ => ⟨h1, ?_⟩
    subst h2
    exact RStep.refl h'
  · rw [if_neg hl]
    by_cases hc : cost ≤ s.left
    · rw [if_pos hc]
      exact (rpays_yes w p _ _ _ _ _ cost h.head (by omega) h0 hc ok.l1).mono fun e w' ⟨h1, h2, h3⟩ => ⟨h1, h.put (s' := { s with left := s.left - cost }) rfl h2 h3 h.aft⟩
    · rw [if_neg hc]
      refine (rpays_no w p _ _ _ _ _ cost h.head (by omega) (by omega)).mono fun e w' ⟨h1, h2⟩ => ⟨h1, ?_⟩
      subst h2
      exact RStep.refl h'
set_option maxHeartbeats 1000000 in
theorem rarm_down (w : World) (p : Nat) (m : Value) (l a f u : Int) (hp : w.heap[p]? = some (.cells #[m, .bool true, .int .i64 l, .int .i64 a, .int .i64 f] 84 (0, 0))) :
    Calls Try.prog 71 #[.pointer (some ⟨p, 0, none⟩), .int .i64 u] w fun e w' => e = .returned (.tuple #[]) ∧ w' = w := by
  have c0 := blk_cell hp 0
  have c1 := blk_cell hp 1
  have c2 := blk_cell hp 2
  have c3 := blk_cell hp 3
  have c4 := blk_cell hp 4
  have fc0 := blk_frozen hp 0
  have fc1 := blk_frozen hp 1
  have fc2 := blk_frozen hp 2
  have fc3 := blk_frozen hp 3
  have fc4 := blk_frozen hp 4
  simp only [List.getElem?_toArray, List.getElem?_cons_succ, List.getElem?_cons_zero] at c0 c1 c2 c3 c4
  clear hp
  go_enter Try.func71, Try.ntmps71
  go_wp2
  all_goals (first | go_end0 | ((try simp only [Exit.inBlock, Exit.then]); refine bodyPost_ret (results_none rfl _ _ _) rfl ?_))
  exact ⟨rfl, rfl⟩
set_option maxHeartbeats 1000000 in
theorem rarm_up (w : World) (p : Nat) (m : Value) (l a f u : Int) (hp : w.heap[p]? = some (.cells #[m, .bool false, .int .i64 l, .int .i64 a, .int .i64 f] 84 (0, 0))) :
    Calls Try.prog 71 #[.pointer (some ⟨p, 0, none⟩), .int .i64 u] w fun e w' => e = .returned (.tuple #[]) ∧ Upd (fun k => k = p) w w' ∧ w'.heap[p]? = some (.cells #[m, .bool false, .int .i64 (max u (-1)), .int .i64 a, .int .i64 f] 84 (0, 0)) := by
  have c0 := blk_cell hp 0
  have c1 := blk_cell hp 1
  have c2 := blk_cell hp 2
  have c3 := blk_cell hp 3
  have c4 := blk_cell hp 4
  have fc0 := blk_frozen hp 0
  have fc1 := blk_frozen hp 1
  have fc2 := blk_frozen hp 2
  have fc3 := blk_frozen hp 3
  have fc4 := blk_frozen hp 4
  simp only [List.getElem?_toArray, List.getElem?_cons_succ, List.getElem?_cons_zero] at c0 c1 c2 c3 c4
  have hlt := blk_lt hp
  have HP := Aside0.mk hp
  clear hp
  go_enter Try.func71, Try.ntmps71
  go_wp2
  all_goals (first | go_end0 | ((try simp only [Exit.inBlock, Exit.then]); refine bodyPost_ret (results_none rfl _ _ _) rfl ?_))
  all_goals first
    | (rw [show max u (-1) = u from by omega]; exact ⟨rfl, (by repeat (with_reducible first | exact Upd.refl _ _ | apply Upd.set1 | apply Upd.alloc | apply Upd.drewN | apply Upd.drew)), (by simp only [heap_set, heap_drewN, heap_drew, heap_alloc_lt _ _ _ hlt, HP.out, Option.map_some] <;> rfl)⟩)
    | (rw [show max u (-1) = -1 from by omega]; exact ⟨rfl, (by repeat (with_reducible first | exact Upd.refl _ _ | apply Upd.set1 | apply Upd.alloc | apply Upd.drewN | apply Upd.drew)), (by simp only [heap_set, heap_drewN, heap_drew, heap_alloc_lt _ _ _ hlt, HP.out, Option.map_some] <;> rfl)⟩)
theorem rarm_calls (w : World) (p : Nat) (X : Nat → Prop) (s : St) (u : Int) (h : RefD w p X s) : Calls Try.prog 71 #[.pointer (some ⟨p, 0, none⟩), .int .i64 u] w fun e w' => e = .returned (.tuple #[]) ∧ RStep p X w w' (s.arm u) := by
  have h' := h
  obtain ⟨av, rv, a, h⟩ := h
  have hd := h.head
  unfold St.arm
  by_cases hn : s.down = true
  · rw [hn] at hd
    rw [if_pos hn]
    refine (rarm_down w p _ _ _ _ u hd).mono fun e w' ⟨h1, h2⟩ => ⟨h1, ?_⟩
    subst h2
    exact RStep.refl h'
  · rw [if_neg hn]
    rw [Bool.not_eq_true] at hn
    rw [hn] at hd
    refine (rarm_up w p _ _ _ _ u hd).mono fun e w' ⟨h1, h2, h3⟩ => ⟨h1, h.put (s' := { s with left := max u (-1) }) rfl h2 ?_ h.aft⟩
    rw [h3]
    dsimp only
    rw [hn]
set_option maxHeartbeats 1000000 in
theorem rfail_down (w : World) (p : Nat) (m : Value) (l a f u v : Int) (hp : w.heap[p]? = some (.cells #[m, .bool true, .int .i64 l, .int .i64 a, .int .i64 f] 84 (0, 0))) :
    Calls Try.prog 72 #[.pointer (some ⟨p, 0, none⟩), .int .i64 u, .int .i64 v] w fun e w' => e = .returned (.tuple #[]) ∧ w' = w := by
  have c0 := blk_cell hp 0
  have c1 := blk_cell hp 1
  have c2 := blk_cell hp 2
  have c3 := blk_cell hp 3
  have c4 := blk_cell hp 4
  have fc0 := blk_frozen hp 0
  have fc1 := blk_frozen hp 1
  have fc2 := blk_frozen hp 2
  have fc3 := blk_frozen hp 3
  have fc4 := blk_frozen hp 4
  simp only [List.getElem?_toArray, List.getElem?_cons_succ, List.getElem?_cons_zero] at c0 c1 c2 c3 c4
  clear hp
  go_enter Try.func72, Try.ntmps72
  go_wp2
  all_goals (first | go_end0 | ((try simp only [Exit.inBlock, Exit.then]); refine bodyPost_ret (results_none rfl _ _ _) rfl ?_))
  exact ⟨rfl, rfl⟩
set_option maxHeartbeats 1000000 in
theorem rfail_up (w : World) (p : Nat) (m : Value) (l a f u v : Int) (hp : w.heap[p]? = some (.cells #[m, .bool false, .int .i64 l, .int .i64 a, .int .i64 f] 84 (0, 0))) :
    Calls Try.prog 72 #[.pointer (some ⟨p, 0, none⟩), .int .i64 u, .int .i64 v] w fun e w' => e = .returned (.tuple #[]) ∧ Upd (fun k => k = p) w w' ∧ w'.heap[p]? = some (.cells #[m, .bool false, .int .i64 l, .int .i64 (if 0 ≤ u ∧ 0 < v then u else 0), .int .i64 (if 0 ≤ u ∧ 0 < v then v else 0)] 84 (0, 0)) := by
  have c0 := blk_cell hp 0
  have c1 := blk_cell hp 1
  have c2 := blk_cell hp 2
  have c3 := blk_cell hp 3
  have c4 := blk_cell hp 4
  have fc0 := blk_frozen hp 0
  have fc1 := blk_frozen hp 1
  have fc2 := blk_frozen hp 2
  have fc3 := blk_frozen hp 3
  have fc4 := blk_frozen hp 4
  simp only [List.getElem?_toArray, List.getElem?_cons_succ, List.getElem?_cons_zero] at c0 c1 c2 c3 c4
  have hlt := blk_lt hp
  have HP := Aside0.mk hp
  clear hp
  by_cases h1 : 0 ≤ u
  · by_cases h2 : 0 < v
    · simp only [if_pos (And.intro h1 h2)]
      go_enter Try.func72, Try.ntmps72
      go_wp2
      all_goals (first | go_end0 | ((try simp only [Exit.inBlock, Exit.then]); refine bodyPost_ret (results_none rfl _ _ _) rfl ?_))
      exact ⟨rfl, (by repeat (with_reducible first | exact Upd.refl _ _ | apply Upd.set1 | apply Upd.alloc | apply Upd.drewN | apply Upd.drew)), (by simp only [heap_set, heap_drewN, heap_drew, heap_alloc_lt _ _ _ hlt, HP.out, Option.map_some] <;> rfl)⟩
    · simp only [if_neg (show ¬ (0 ≤ u ∧ 0 < v) from fun h => h2 h.2)]
      go_enter Try.func72, Try.ntmps72
      go_wp2
      all_goals (first | go_end0 | ((try simp only [Exit.inBlock, Exit.then]); refine bodyPost_ret (results_none rfl _ _ _) rfl ?_))
      exact ⟨rfl, (by repeat (with_reducible first | exact Upd.refl _ _ | apply Upd.set1 | apply Upd.alloc | apply Upd.drewN | apply Upd.drew)), (by simp only [heap_set, heap_drewN, heap_drew, heap_alloc_lt _ _ _ hlt, HP.out, Option.map_some] <;> rfl)⟩
  · simp only [if_neg (show ¬ (0 ≤ u ∧ 0 < v) from fun h => h1 h.1)]
    go_enter Try.func72, Try.ntmps72
    go_wp2
    all_goals (first | go_end0 | ((try simp only [Exit.inBlock, Exit.then]); refine bodyPost_ret (results_none rfl _ _ _) rfl ?_))
    exact ⟨rfl, (by repeat (with_reducible first | exact Upd.refl _ _ | apply Upd.set1 | apply Upd.alloc | apply Upd.drewN | apply Upd.drew)), (by simp only [heap_set, heap_drewN, heap_drew, heap_alloc_lt _ _ _ hlt, HP.out, Option.map_some] <;> rfl)⟩
theorem rfail_calls (w : World) (p : Nat) (X : Nat → Prop) (s : St) (u v : Int) (h : RefD w p X s) : Calls Try.prog 72 #[.pointer (some ⟨p, 0, none⟩), .int .i64 u, .int .i64 v] w fun e w' => e = .returned (.tuple #[]) ∧ RStep p X w w' (s.fail u v) := by
  have h' := h
  obtain ⟨av, rv, a, h⟩ := h
  have hd := h.head
  unfold St.fail
  by_cases hn : s.down = true
  · rw [hn] at hd
    rw [if_pos hn]
    refine (rfail_down w p _ _ _ _ u v hd).mono fun e w' ⟨h1, h2⟩ => ⟨h1, ?_⟩
    subst h2
    exact RStep.refl h'
  · rw [if_neg hn]
    rw [Bool.not_eq_true] at hn
    rw [hn] at hd
    by_cases hc : 0 ≤ u ∧ 0 < v
    · rw [if_pos hc]
      refine (rfail_up w p _ _ _ _ u v hd).mono fun e w' ⟨h1, h2, h3⟩ => ⟨h1, h.put (s' := { s with after := u, fails := v }) rfl h2 ?_ (fun _ => rfl)⟩
      rw [h3]
      simp only [if_pos hc, hn]
    · rw [if_neg hc]
      refine (rfail_up w p _ _ _ _ u v hd).mono fun e w' ⟨h1, h2, h3⟩ => ⟨h1, h.put (s' := { s with after := 0, fails := 0 }) rfl h2 ?_ (fun _ => rfl)⟩
      rw [h3]
      simp only [if_neg hc, hn]
/-! ### may -/
theorem rnamed_calls (nm : ByteArray) (b : Bool) (hn : isName nm = b) (w : World) : Calls Try.prog 61 #[.string nm] w fun e w' => e = .returned (.bool b) ∧ Drawn0 w w' := by
  obtain ⟨k, hk⟩ := Ev.rounds (namedR_f nm)
  rw [hn] at hk
  exact PD.eddyref10_named.calls k nm b w hk
set_option maxHeartbeats 1000000 in
theorem rahead_raw (w : World) (p : Nat) (m : Value) (dn ch : Bool) (l a f : Int) (nm : ByteArray) (hp : w.heap[p]? = some (.cells #[m, .bool dn, .int .i64 l, .int .i64 a, .int .i64 f] 84 (0, 0)))
    (a0 : f ≠ 0 → 0 ≤ a) (a1 : f ≠ 0 → a ≤ 9223372036854775807) (f0 : 0 ≤ f) (f1 : f ≤ 9223372036854775807) :
    Calls Try.prog 56 #[.pointer (some ⟨p, 0, none⟩), .string nm, .bool ch] w fun e w' =>
      if isName nm = false then e = .returned (.int .i64 102) ∧ Upd (fun k => k = p) w w' ∧ w'.heap[p]? = some (.cells #[m, .bool dn, .int .i64 l, .int .i64 a, .int .i64 f] 84 (0, 0))
      else if dn = true then e = .returned (.int .i64 100) ∧ Upd (fun k => k = p) w w' ∧ w'.heap[p]? = some (.cells #[m, .bool dn, .int .i64 l, .int .i64 a, .int .i64 f] 84 (0, 0))
      else if ch = false ∨ f = 0 then e = .returned (.int .i64 0) ∧ Upd (fun k => k = p) w w' ∧ w'.heap[p]? = some (.cells #[m, .bool dn, .int .i64 l, .int .i64 a, .int .i64 f] 84 (0, 0))
      else if a = 0 then e = .returned (.int .i64 101) ∧ Upd (fun k => k = p) w w' ∧ w'.heap[p]? = some (.cells #[m, .bool dn, .int .i64 l, .int .i64 a, .int .i64 (f - 1)] 84 (0, 0))
      else e = .returned (.int .i64 0) ∧ Upd (fun k => k = p) w w' ∧ w'.heap[p]? = some (.cells #[m, .bool dn, .int .i64 l, .int .i64 (a - 1), .int .i64 f] 84 (0, 0)) := by
  by_cases hn : isName nm = false
  · simp only [if_pos hn]
    have HC := Aside0.mk (rnamed_calls nm false hn w)
    have c0 := blk_cell hp 0
    have c1 := blk_cell hp 1
    have c2 := blk_cell hp 2
    have c3 := blk_cell hp 3
    have c4 := blk_cell hp 4
    have fc0 := blk_frozen hp 0
    have fc1 := blk_frozen hp 1
    have fc2 := blk_frozen hp 2
    have fc3 := blk_frozen hp 3
    have fc4 := blk_frozen hp 4
    simp only [List.getElem?_toArray, List.getElem?_cons_succ, List.getElem?_cons_zero] at c0 c1 c2 c3 c4
    have hlt := blk_lt hp
    have HP := Aside0.mk hp
    clear hp hn a0 a1
    go_enter Try.func56, Try.ntmps56
    go_wp2_with (go_at_call 61; refine HC.out.mono ?_; rintro e w1 ⟨rfl, ⟨⟨nd, rfl⟩⟩⟩)
    go_ret
    exact ⟨rfl, (by repeat (with_reducible first | exact Upd.refl _ _ | apply Upd.set1 | apply Upd.alloc | apply Upd.drewN | apply Upd.drew)), (by simp only [heap_set, heap_drewN, heap_drew, heap_alloc_lt _ _ _ hlt, HP.out, Option.map_some] <;> rfl)⟩
  · simp only [if_neg hn]
    have HC := Aside0.mk (rnamed_calls nm true (by simpa using hn) w)
    clear hn
    cases dn with
    | true =>
      simp only [↓reduceIte]
      have c0 := blk_cell hp 0
      have c1 := blk_cell hp 1
      have c2 := blk_cell hp 2
      have c3 := blk_cell hp 3
      have c4 := blk_cell hp 4
      have fc0 := blk_frozen hp 0
      have fc1 := blk_frozen hp 1
      have fc2 := blk_frozen hp 2
      have fc3 := blk_frozen hp 3
      have fc4 := blk_frozen hp 4
      simp only [List.getElem?_toArray, List.getElem?_cons_succ, List.getElem?_cons_zero] at c0 c1 c2 c3 c4
      have hlt := blk_lt hp
      have HP := Aside0.mk hp
      clear hp a0 a1
      go_enter Try.func56, Try.ntmps56
      go_wp2_with (go_at_call 61; refine HC.out.mono ?_; rintro e w1 ⟨rfl, ⟨⟨nd, rfl⟩⟩⟩)
      go_ret
      exact ⟨rfl, (by repeat (with_reducible first | exact Upd.refl _ _ | apply Upd.set1 | apply Upd.alloc | apply Upd.drewN | apply Upd.drew)), (by simp only [heap_set, heap_drewN, heap_drew, heap_alloc_lt _ _ _ hlt, HP.out, Option.map_some] <;> rfl)⟩
    | false =>
      simp only [Bool.false_eq_true, ↓reduceIte]
      by_cases hc : ch = false ∨ f = 0
      · simp only [if_pos hc]
        have c0 := blk_cell hp 0
        have c1 := blk_cell hp 1
        have c2 := blk_cell hp 2
        have c3 := blk_cell hp 3
        have c4 := blk_cell hp 4
        have fc0 := blk_frozen hp 0
        have fc1 := blk_frozen hp 1
        have fc2 := blk_frozen hp 2
        have fc3 := blk_frozen hp 3
        have fc4 := blk_frozen hp 4
        simp only [List.getElem?_toArray, List.getElem?_cons_succ, List.getElem?_cons_zero] at c0 c1 c2 c3 c4
        have hlt := blk_lt hp
        have HP := Aside0.mk hp
        clear hp a0 a1
        cases ch with
        | false =>
          clear hc
          go_enter Try.func56, Try.ntmps56
          go_wp2_with (go_at_call 61; refine HC.out.mono ?_; rintro e w1 ⟨rfl, ⟨⟨nd, rfl⟩⟩⟩)
          go_ret
          exact ⟨rfl, (by repeat (with_reducible first | exact Upd.refl _ _ | apply Upd.set1 | apply Upd.alloc | apply Upd.drewN | apply Upd.drew)), (by simp only [heap_set, heap_drewN, heap_drew, heap_alloc_lt _ _ _ hlt, HP.out, Option.map_some] <;> rfl)⟩
        | true =>
          obtain rfl : f = 0 := by simpa using hc
          clear hc
          go_enter Try.func56, Try.ntmps56
          go_wp2_with (go_at_call 61; refine HC.out.mono ?_; rintro e w1 ⟨rfl, ⟨⟨nd, rfl⟩⟩⟩)
          go_ret
          exact ⟨rfl, (by repeat (with_reducible first | exact Upd.refl _ _ | apply Upd.set1 | apply Upd.alloc | apply Upd.drewN | apply Upd.drew)), (by simp only [heap_set, heap_drewN, heap_drew, heap_alloc_lt _ _ _ hlt, HP.out, Option.map_some] <;> rfl)⟩
      · simp only [if_neg hc]
        obtain rfl : ch = true := by cases ch <;> simp_all
        have hf : 0 < f := by
          have : ¬ f = 0 := fun h => hc (.inr h)
          omega
        clear hc
        have a0 := a0 (by omega)
        have a1 := a1 (by omega)
        by_cases ha : a = 0
        · simp only [if_pos ha]
          subst ha
          have c0 := blk_cell hp 0
          have c1 := blk_cell hp 1
          have c2 := blk_cell hp 2
          have c3 := blk_cell hp 3
          have c4 := blk_cell hp 4
          have fc0 := blk_frozen hp 0
          have fc1 := blk_frozen hp 1
          have fc2 := blk_frozen hp 2
          have fc3 := blk_frozen hp 3
          have fc4 := blk_frozen hp 4
          simp only [List.getElem?_toArray, List.getElem?_cons_succ, List.getElem?_cons_zero] at c0 c1 c2 c3 c4
          have hlt := blk_lt hp
          have HP := Aside0.mk hp
          clear hp
          go_enter Try.func56, Try.ntmps56
          go_wp2_with (go_at_call 61; refine HC.out.mono ?_; rintro e w1 ⟨rfl, ⟨⟨nd, rfl⟩⟩⟩)
          go_ret
          exact ⟨rfl, (by repeat (with_reducible first | exact Upd.refl _ _ | apply Upd.set1 | apply Upd.alloc | apply Upd.drewN | apply Upd.drew)), (by simp only [heap_set, heap_drewN, heap_drew, heap_alloc_lt _ _ _ hlt, HP.out, Option.map_some] <;> rfl)⟩
        · simp only [if_neg ha]
          have ha' : 0 < a := by omega
          clear ha
          have c0 := blk_cell hp 0
          have c1 := blk_cell hp 1
          have c2 := blk_cell hp 2
          have c3 := blk_cell hp 3
          have c4 := blk_cell hp 4
          have fc0 := blk_frozen hp 0
          have fc1 := blk_frozen hp 1
          have fc2 := blk_frozen hp 2
          have fc3 := blk_frozen hp 3
          have fc4 := blk_frozen hp 4
          simp only [List.getElem?_toArray, List.getElem?_cons_succ, List.getElem?_cons_zero] at c0 c1 c2 c3 c4
          have hlt := blk_lt hp
          have HP := Aside0.mk hp
          clear hp
          go_enter Try.func56, Try.ntmps56
          go_wp2_with (go_at_call 61; refine HC.out.mono ?_; rintro e w1 ⟨rfl, ⟨⟨nd, rfl⟩⟩⟩)
          go_ret
          exact ⟨rfl, (by repeat (with_reducible first | exact Upd.refl _ _ | apply Upd.set1 | apply Upd.alloc | apply Upd.drewN | apply Upd.drew)), (by simp only [heap_set, heap_drewN, heap_drew, heap_alloc_lt _ _ _ hlt, HP.out, Option.map_some] <;> rfl)⟩
theorem rahead_calls (w : World) (p : Nat) (X : Nat → Prop) (s : St) (nm : ByteArray) (ch : Bool) (h : RefD w p X s) (ok : Ok s) : Calls Try.prog 56 #[.pointer (some ⟨p, 0, none⟩), .string nm, .bool ch] w fun e w' => e = .returned (.int .i64 (s.ahead nm ch).2) ∧ RStep p X w w' (s.ahead nm ch).1 := by
  obtain ⟨av, rv, a, h⟩ := h
  refine (rahead_raw w p _ _ ch _ a _ nm h.head (fun hf => by rw [h.aft hf]; exact ok.a0) (fun hf => by rw [h.aft hf]; exact ok.a1) ok.f0 ok.f1).mono fun e w' hh => ?_
  unfold St.ahead
  by_cases h1 : isName nm = false
  · rw [if_pos h1] at hh ⊢
    exact ⟨hh.1, h.put rfl hh.2.1 hh.2.2 h.aft⟩
  · rw [if_neg h1] at hh ⊢
    by_cases h2 : s.down = true
    · rw [if_pos h2] at hh ⊢
      exact ⟨hh.1, h.put rfl hh.2.1 hh.2.2 h.aft⟩
    · rw [if_neg h2] at hh ⊢
      by_cases h3 : ch = false ∨ s.fails = 0
      · rw [if_pos h3] at hh ⊢
        exact ⟨hh.1, h.put rfl hh.2.1 hh.2.2 h.aft⟩
      · rw [if_neg h3] at hh ⊢
        have hf : s.fails ≠ 0 := fun h => h3 (.inr h)
        have ha := h.aft hf
        subst ha
        by_cases h4 : s.after = 0
        · rw [if_pos h4] at hh ⊢
          exact ⟨hh.1, h.put (s' := { s with fails := s.fails - 1 }) rfl hh.2.1 hh.2.2 (fun _ => rfl)⟩
        · rw [if_neg h4] at hh ⊢
          exact ⟨hh.1, h.put (s' := { s with after := s.after - 1 }) rfl hh.2.1 hh.2.2 (fun _ => rfl)⟩
end Go.Proofs.Ytfholpajdkjbbaa.DK
/- The reference's disk: find, there; conditions: those in each theorem. -/
namespace Go.Proofs.Ytfholpajdkjbbaa.DK
open Go.RowKit Go.Proofs.YtfholpajdkjbbaaW.PrintWords Go.Proofs.YtfholpajdkjbbaaW.PrintLast Go.Proofs.YtfholpajdkjbbaaW.PrintMore Go.Proofs.Ytfholpajdkjbbaa.Mo
set_option linter.unusedVariables false
set_option linter.unusedSimpArgs false
theorem RFiles.len {w : World} {av : Sl} {rv : Bool → ByteArray → Sl} {X : Nat → Prop} {l : List F} (h : RFiles w av rv X l) : av.n = l.length := by
  have := (Kd.R_reads' (show kT.R 86 w 0 (fun _ => True) (.slice av.A av.n av.c) (l.map (tri rv)) from h.outer)).1
  rw [List.length_map] at this
  exact this
theorem RFiles.cap {w : World} {av : Sl} {rv : Bool → ByteArray → Sl} {X : Nat → Prop} {l : List F} (h : RFiles w av rv X l) : av.n ≤ av.c :=
  (Kd.R_reads' (show kT.R 86 w 0 (fun _ => True) (.slice av.A av.n av.c) (l.map (tri rv)) from h.outer)).2.1
/-- What file i's cells hold. -/
theorem RFiles.at_ {w : World} {av : Sl} {rv : Bool → ByteArray → Sl} {X : Nat → Prop} {l : List F} (h : RFiles w av rv X l) (i : Nat) (hi : i < l.length) :
    ∃ g, av.A = some ⟨g, 0, none⟩ ∧ g < w.heap.size ∧ w.cell? ⟨g, i * 3, none⟩ = some (.string (l[i]).name) ∧ w.cell? ⟨g, i * 3 + 1, none⟩ = some (rv false (l[i]).name).v ∧ w.cell? ⟨g, i * 3 + 2, none⟩ = some (rv true (l[i]).name).v ∧
      w.frozen? ⟨g, i * 3 + 1, none⟩ = false ∧ w.frozen? ⟨g, i * 3 + 2, none⟩ = false ∧ w.frozen? ⟨g, i * 3, none⟩ = false := by
  obtain ⟨g, cap, e, _, hg, _⟩ := Kd.R_form h.outer (by rw [List.length_map]; omega)
  have e' : Value.slice av.A av.n av.c = .slice (some ⟨g, 0, none⟩) (l.map (tri rv)).length cap := e
  injection e' with e1 e2 e3
  obtain ⟨c, hcl, hM, hc, hf⟩ := Kd.R_elem (show kT.R 86 w 0 (fun _ => True) (.slice (some ⟨g, 0, none⟩) av.n av.c) (l.map (tri rv)) by rw [← e1]; exact h.outer) (default : Tri) (i : Int) (by omega) (by rw [h.len]; omega)
  rw [Int.toNat_natCast] at hM hc hf
  have ht : (l.map (tri rv)).getD i default = tri rv l[i] := by
    rw [List.getD_eq_getElem?_getD, List.getElem?_map, List.getElem?_eq_getElem hi]
    rfl
  rw [ht] at hM
  rw [kT_M] at hM
  subst hM
  exact ⟨g, e1, hg, hc 0 _ rfl, hc 1 _ rfl, hc 2 _ rfl, hf 1, hf 2, hf 0⟩
/-- Where the file of this name lies: -1 if nowhere. -/
def Found (l : List F) (nm : ByteArray) (r : Int) : Prop :=
  match find l nm with
  | none => r = -1
  | some f => ∃ i : Nat, r = i ∧ l[i]? = some f
theorem found_none {l : List F} {nm : ByteArray} (h : ∀ j (hj : j < l.length), (l[j]).name ≠ nm) : Found l nm (-1) := by
  unfold Found
  cases hf : find l nm with
  | none => rfl
  | some f =>
    obtain ⟨h1, h2⟩ := find_some hf
    obtain ⟨j, hj, rfl⟩ := List.getElem_of_mem h1
    exact absurd h2 (h j hj)
theorem found_at {l : List F} (hn : (namesOf l).Nodup) (i : Nat) (hi : i < l.length) : Found l (l[i]).name (i : Int) := by
  unfold Found
  rw [find_of_mem hn (List.getElem_mem hi)]
  exact ⟨i, rfl, List.getElem?_eq_getElem hi⟩
def SeekE (l : List F) (nm : ByteArray) (w : World) (iv : Value) (wr : World) : Prop := ∃ i : Nat, iv = .int .i64 i ∧ i ≤ l.length ∧ wr = w ∧ ∀ j (hj : j < l.length), j < i → (l[j]).name ≠ nm
set_option maxHeartbeats 1000000 in
theorem rfind_ctx (w : World) (p : Nat) (X : Nat → Prop) (s : St) (nm : ByteArray) (av : Sl) (rv : Bool → ByteArray → Sl) (a : Int) (h : RDisk w p X s av rv a) (hl : s.all.length ≤ 2 ^ 40) :
    Calls Try.prog 57 #[.pointer (some ⟨p, 0, none⟩), .string nm] w fun e w' => ∃ r, e = .returned (.int .i64 r) ∧ w' = w ∧ Found s.all nm r := by
  have hp := h.head
  have hn := h.files.len
  obtain ⟨A, n, c⟩ := av
  dsimp only at hn
  subst hn
  unfold Sl.v at hp
  dsimp only at hp
  have c0 := blk_cell hp 0
  have c1 := blk_cell hp 1
  have c2 := blk_cell hp 2
  have c3 := blk_cell hp 3
  have c4 := blk_cell hp 4
  have fc0 := blk_frozen hp 0
  have fc1 := blk_frozen hp 1
  have fc2 := blk_frozen hp 2
  have fc3 := blk_frozen hp 3
  have fc4 := blk_frozen hp 4
  simp only [List.getElem?_toArray, List.getElem?_cons_succ, List.getElem?_cons_zero] at c0 c1 c2 c3 c4
  have H := Aside0.mk h
  clear hp h
  go_enter Try.func57, Try.ntmps57
  go_wp2
  go_loopw [5] (fun iv wr => SeekE s.all nm w iv wr) (fun iv _ => s.all.length - (intOf iv).toNat)
  case atStart => exact ⟨0, rfl, Nat.zero_le _, rfl, fun j _ h => absurd h (Nat.not_lt_zero _)⟩
  case round =>
    obtain ⟨i, rfl, hle, hw, hne⟩ := hrel
    subst hw
    have HNE := Aside0.mk hne
    by_cases hlt : i < s.all.length
    · obtain ⟨g, hA, hg, k0, k1, k2, _⟩ := H.out.files.at_ i hlt
      dsimp only at hA
      subst hA
      have HNX := Aside0.mk (found_at H.out.files.nd i hlt)
      have HE := Aside0.mk (rfl : (s.all[i]).name = (s.all[i]).name)
      by_cases hnm : (s.all[i]).name = nm
      · rw [hnm] at k0 HNX
        clear hnm k1 k2 hne
        go_wp2
        go_ret
        exact ⟨_, rfl, rfl, HNX.out⟩
      · have HB := Aside0.mk hnm
        generalize hx : (s.all[i]).name = x at k0 hnm
        have HX := Aside0.mk hx
        have hb : (x.toList == nm.toList) = false := by
          rw [beq_eq_false_iff_ne]
          exact fun e => hnm (toList_inj.1 e)
        clear k1 k2 hne HNX HE hx hnm
        go_wp2
        go_roundw
        case rel => exact ⟨i + 1, by simp, hlt, rfl, fun j hj hji => by
          rcases Nat.lt_succ_iff_lt_or_eq.1 hji with h1 | h1
          · exact HNE.out j hj h1
          · subst h1; exact HB.out⟩
        case measure => simp [intOf]; omega
    · have hi : i = s.all.length := by omega
      subst hi
      clear hne
      go_wp2
      go_ret
      exact ⟨-1, rfl, rfl, found_none (fun j hj => HNE.out j hj hj)⟩
theorem rfind_calls (w : World) (p : Nat) (X : Nat → Prop) (s : St) (nm : ByteArray) (h : RefD w p X s) (ok : Ok s) : Calls Try.prog 57 #[.pointer (some ⟨p, 0, none⟩), .string nm] w fun e w' => ∃ r, e = .returned (.int .i64 r) ∧ w' = w ∧ Found s.all nm r := by
  obtain ⟨av, rv, a, h⟩ := h
  exact rfind_ctx w p X s nm av rv a h (by have := ok.few; omega)
def TherePost (s : St) (nm : ByteArray) (p : Nat) (X : Nat → Prop) (w : World) (r : St × Int) (e : Ending) (w' : World) : Prop :=
  ∃ i, e = .returned (.tuple #[.int .i64 i, .int .i64 r.2]) ∧ RStep p X w w' r.1 ∧ (r.2 = 0 → Found s.all nm i)
set_option maxHeartbeats 2000000 in
theorem rthere_calls (w : World) (p : Nat) (X : Nat → Prop) (s : St) (nm : ByteArray) (h : RefD w p X s) (ok : Ok s) : Calls Try.prog 78 #[.pointer (some ⟨p, 0, none⟩), .string nm] w (TherePost s nm p X w (s.there nm)) := by
  have HM := Aside0.mk (rahead_calls w p X s nm true h ok)
  have ok1 := ok.ahead nm true
  have ha1 := ahead_all s nm true
  unfold St.there
  by_cases hc0 : (s.ahead nm true).2 ≠ 0
  · rw [if_pos hc0]
    generalize s.ahead nm true = r at *
    obtain ⟨s1, c1⟩ := r
    dsimp only at *
    have hb1 : (c1 == 0) = false := by simpa using hc0
    have hb2 : (c1 != 0) = true := by simpa using hc0
    have HC := Aside0.mk hc0
    clear hc0 h ok ok1 ha1
    go_enter Try.func78, Try.ntmps78
    go_wp2_with (go_at_call 56; refine HM.out.mono ?_; rintro e w1 ⟨rfl, hP⟩)
    go_ret2
    exact ⟨_, rfl, hP, fun h => absurd h HC.out⟩
  · rw [if_neg hc0]
    have hc1 : (s.ahead nm true).2 = 0 := by omega
    rw [hc1] at HM
    generalize (s.ahead nm true).1 = s1 at *
    have HFD := Aside0.mk (fun w1 (h1 : RefD w1 p (More X w w1) s1) => rfind_calls w1 p (More X w w1) s1 nm h1 ok1)
    have HPY := Aside0.mk (fun w1 (h1 : RefD w1 p (More X w w1) s1) => rpays_calls w1 p (More X w w1) s1 1 h1 ok1 (by decide))
    have HFL := Aside0.mk (fun w1 w2 (h1 : RefD w2 p (More (More X w w1) w1 w2) s1) => rfall_calls w2 p (More (More X w w1) w1 w2) s1 h1)
    rw [ha1] at HFD
    have HPA := Aside0.mk (pays_no (s := s1) (cost := 1))
    clear hc0 hc1 h ok ok1 ha1
    cases hf : find s.all nm with
    | none =>
      simp only [Option.isNone_none, ↓reduceIte]
      have HF := Aside0.mk hf
      clear hf
      go_enter Try.func78, Try.ntmps78
      go_wp2_with fail
      refine HM.out.mono ?_
      rintro e w1 ⟨rfl, h1⟩
      have H1 := Aside0.mk h1
      clear h1
      go_wp2_with fail
      refine (HFD.out w1 H1.out.1).mono ?_
      rintro e w2 ⟨r, rfl, rfl, hfd⟩
      unfold Found at hfd
      rw [HF.out] at hfd
      have hfd : r = -1 := hfd
      subst hfd
      go_wp2
      go_ret2
      exact ⟨_, rfl, H1.out, fun h => nomatch h⟩
    | some f =>
      simp only [Option.isNone_some, Bool.false_eq_true, ↓reduceIte]
      have HF := Aside0.mk hf
      clear hf
      by_cases hy : (s1.pays 1).2 = true
      · rw [if_pos hy]
        rw [hy] at HPY
        clear hy
        go_enter Try.func78, Try.ntmps78
        go_wp2_with fail
        refine HM.out.mono ?_
        rintro e w1 ⟨rfl, h1⟩
        have H1 := Aside0.mk h1
        clear h1
        go_wp2_with fail
        refine (HFD.out w1 H1.out.1).mono ?_
        rintro e w2 ⟨r, rfl, rfl, hfd⟩
        have HFN := Aside0.mk hfd
        unfold Found at hfd
        rw [HF.out] at hfd
        obtain ⟨i, rfl, _⟩ := hfd
        go_wp2_with fail
        refine (HPY.out w2 H1.out.1).mono ?_
        rintro e w3 ⟨rfl, h3⟩
        have H3 := Aside0.mk h3
        clear h3
        go_wp2
        go_ret2
        exact ⟨_, rfl, RStep.trans H1.out H3.out, fun _ => HFN.out⟩
      · rw [if_neg hy]
        rw [show (s1.pays 1).2 = false by simpa using hy] at HPY
        have HY := Aside0.mk (show (s1.pays 1).1 = s1 by unfold St.pays at hy ⊢; split <;> (try split) <;> simp_all)
        clear hy
        go_enter Try.func78, Try.ntmps78
        go_wp2_with fail
        refine HM.out.mono ?_
        rintro e w1 ⟨rfl, h1⟩
        have H1 := Aside0.mk h1
        clear h1
        go_wp2_with fail
        refine (HFD.out w1 H1.out.1).mono ?_
        rintro e w2 ⟨r, rfl, rfl, hfd⟩
        have HFN := Aside0.mk hfd
        unfold Found at hfd
        rw [HF.out] at hfd
        obtain ⟨i, rfl, _⟩ := hfd
        go_wp2_with fail
        refine (HPY.out w2 H1.out.1).mono ?_
        rintro e w3 ⟨rfl, h3⟩
        have H3 := Aside0.mk h3
        clear h3
        go_wp2_with fail
        refine (HFL.out w2 w3 (by have := H3.out.1; rw [HY.out] at this; exact this)).mono ?_
        rintro e w4 ⟨rfl, h4⟩
        have H4 := Aside0.mk h4
        clear h4
        go_wp2
        go_ret2
        exact ⟨_, rfl, RStep.trans (RStep.trans H1.out (by have := H3.out; rw [HY.out] at this; exact this)) ((fun x => ⟨x.1.mono (fun k hk => hk.elim (fun h => .inl ((More.trans H1.out.2.size H3.out.2.size k).1 h)) .inr) (fun k hk => x.1.bd k (hk.elim (fun h => .inl ((More.trans H1.out.2.size H3.out.2.size k).2 h)) .inr)), x.2.mono (fun k _ hk => (More.trans H1.out.2.size H3.out.2.size k).1 hk)⟩ : RStep p (More (More X w w2) w2 w3) w3 w4 s1.fall → RStep p (More X w w3) w3 w4 s1.fall) H4.out), fun h => nomatch h⟩
end Go.Proofs.Ytfholpajdkjbbaa.DK
/- The reference's disk: a store into one file's cells; conditions: those in each theorem. -/
namespace Go.Proofs.Ytfholpajdkjbbaa.DK
open Go.RowKit Go.Proofs.YtfholpajdkjbbaaW.PrintWords Go.Proofs.YtfholpajdkjbbaaW.PrintLast Go.Proofs.YtfholpajdkjbbaaW.PrintMore Go.Proofs.Ytfholpajdkjbbaa.Mo
set_option linter.unusedVariables false
set_option linter.unusedSimpArgs false
theorem outer_set {w : World} {av : Sl} {l : List Tri} (h : kT.R 86 w 0 (fun _ => True) av.v l) {g : Nat} (hA : av.A = some ⟨g, 0, none⟩) (i : Nat) (hi : i < l.length) (j : Nat) (u : Value) (t' : Tri) (hj : j < 3)
    (ht : t'.cells = (l[i]).cells.set j u) : kT.R 86 (w.setCell ⟨g, i * 3 + j, none⟩ u) 0 (fun _ => True) av.v (l.set i t') := by
  have h' : kT.R 86 w 0 (fun _ => True) (.slice (some ⟨g, 0, none⟩) av.n av.c) l := by rw [← hA]; exact h
  have hn := (Kd.R_reads' h').1
  obtain ⟨c, hcl, hM, hc, hf⟩ := Kd.R_elem h' (default : Tri) (i : Int) (by omega) (by omega)
  rw [Int.toNat_natCast] at hM hc hf
  rw [List.getD_eq_getElem?_getD, List.getElem?_eq_getElem hi, kT_M] at hM
  have hM : c = (l[i]).cells := hM
  have := (Kd.R_seg (okp := fun k => True ∧ k ≠ g) h' (i : Int) (by omega) (by omega) hcl (by rw [Int.toNat_natCast]; exact hc) (j := j) (seg := [u]) (by rw [kT_sz, List.length_singleton]; omega) (x' := t') (kT_M.2 (by
    rw [ht, hM]
    have h3 : (l[i]).cells = [.string (l[i]).nm, (l[i]).s.v, (l[i]).l.v] := rfl
    rw [h3]
    obtain _ | _ | _ | j := j
    · rfl
    · rfl
    · rfl
    · omega)) (fun k hk => ⟨hk.1, hk.2⟩)).1
  rw [Int.toNat_natCast] at this
  show kT.R 86 _ 0 _ (.slice av.A av.n av.c) _
  rw [hA]
  exact this
theorem tri_set {l : List F} (hnd : (namesOf l).Nodup) (rv : Bool → ByteArray → Sl) (g : F → F) (hg : ∀ x, (g x).name = x.name) (i : Nat) (hi : i < l.length) (t' : Bool → Sl) :
    (l.map (tri rv)).set i ⟨(l[i]).name, t' false, t' true⟩ = (upd (l[i]).name g l).map (tri fun b n => if n = (l[i]).name then t' b else rv b n) := by
  refine List.ext_getElem (by simp [upd]) (fun j h1 h2 => ?_)
  have hj : j < l.length := by simpa using h1
  have hp := List.pairwise_map.1 hnd
  have hinj : (l[j]).name = (l[i]).name ↔ j = i := by
    refine ⟨fun e => ?_, fun e => by subst e; rfl⟩
    rcases Nat.lt_trichotomy j i with hji | hji | hji
    · exact absurd e (List.pairwise_iff_getElem.1 hp j i hj hi hji)
    · exact hji
    · exact absurd e.symm (List.pairwise_iff_getElem.1 hp i j hi hj hji)
  rw [List.getElem_set, List.getElem_map, List.getElem_map]
  simp only [upd, List.getElem_map]
  by_cases e : i = j
  · subst e
    rw [if_pos rfl, if_pos rfl]
    simp only [tri, hg, if_pos]
  · have hne : ¬ (l[j]).name = (l[i]).name := fun h => e (hinj.1 h).symm
    rw [if_neg e, if_neg hne]
    simp only [tri, if_neg hne]
/-- One file has got other cells. -/
theorem RDisk.slot {w w' : World} {p : Nat} {X Y : Nat → Prop} {s : St} {av : Sl} {rv : Bool → ByteArray → Sl} {a : Int} (h : RDisk w p X s av rv a) (i : Nat) (hi : i < s.all.length) (g : F → F) (hg : ∀ x, (g x).name = x.name) (t' : Bool → Sl)
    (hrow : ∀ b, Row w' (t' b).v (fpart b (g (s.all[i])))) (hd : Dis (t' false).v (t' true).v) (hv : ∀ b k, (t' b).v.ownBlock = some k → (∃ c, (rv c (s.all[i]).name).v.ownBlock = some k) ∨ w.heap.size ≤ k)
    (hu : Upd Y w w') (hY : ∀ k, k < w.heap.size → Y k → av.v.ownBlock = some k ∨ ∃ c, (rv c (s.all[i]).name).v.ownBlock = some k)
    (houter : kT.R 86 w' 0 (fun _ => True) av.v ((s.all.map (tri rv)).set i ⟨(s.all[i]).name, t' false, t' true⟩)) :
    RDisk w' p (More X w w') { s with all := Mo.upd (s.all[i]).name g s.all } av (fun b n => if n = (s.all[i]).name then t' b else rv b n) a ∧ Upd X w w' := by
  have hm : s.all[i] ∈ s.all := List.getElem_mem hi
  have hYp : ∀ k, k < w.heap.size → Y k → X k := fun k hk hy => by
    rcases hY k hk hy with h1 | ⟨c, h1⟩
    · exact h.files.xo k h1
    · exact h.files.xr _ hm c k h1
  have hp : ¬ Y p := fun hy => by
    rcases hY p (blk_lt h.head) hy with h1 | ⟨c, h1⟩
    · exact h.ne_outer h1
    · exact h.ne_row hm c h1
  refine ⟨⟨blk_upd h.head hu hp, h.aft, .inl h.xp, bd_more h.bd hu.size, ?_⟩, hu.mono hYp⟩
  rw [tri_set h.files.nd rv g hg i hi t'] at houter
  refine h.files.gen (by rw [upd_names hg]; exact h.files.nd) _ t' (fun f hf hne => ?_) (fun f hf he b => ?_) hd (fun b k hk => ?_) hu (fun k hk hy => ?_) houter (fun k hk => .inl hk)
  · obtain ⟨y, hy, rfl⟩ := mem_upd hf
    by_cases e : y.name = (s.all[i]).name
    · rw [if_pos e] at hne
      exact absurd ((hg y).trans e) hne
    · rw [if_neg e]; exact hy
  · obtain ⟨y, hy, rfl⟩ := mem_upd hf
    by_cases e : y.name = (s.all[i]).name
    · rw [if_pos e]
      rw [name_inj h.files.nd hy hm e]
      exact hrow b
    · rw [if_neg e] at he
      exact absurd he e
  · rcases hv b k hk with ⟨c, h1⟩ | h1
    · exact .inl ⟨_, hm, rfl, c, h1⟩
    · exact .inr h1
  · rcases hY k hk hy with h1 | ⟨c, h1⟩
    · exact .inl h1
    · exact .inr ⟨_, hm, rfl, c, h1⟩
theorem RDisk.slot' {w w' : World} {p : Nat} {X Y : Nat → Prop} {s : St} {av : Sl} {rv : Bool → ByteArray → Sl} {a : Int} (h : RDisk w p X s av rv a) (i : Nat) (hi : i < s.all.length) (g : F → F) (hg : ∀ x, (g x).name = x.name) (t' : Bool → Sl)
    (hrow : ∀ b, Row w' (t' b).v (fpart b (g (s.all[i])))) (hd : Dis (t' false).v (t' true).v) (hv : ∀ b k, (t' b).v.ownBlock = some k → (∃ c, (rv c (s.all[i]).name).v.ownBlock = some k) ∨ w.heap.size ≤ k)
    (hu : Upd Y w w') (hY : ∀ k, k < w.heap.size → Y k → av.v.ownBlock = some k ∨ ∃ c, (rv c (s.all[i]).name).v.ownBlock = some k)
    (houter : kT.R 86 w' 0 (fun _ => True) av.v ((s.all.map (tri rv)).set i ⟨(s.all[i]).name, t' false, t' true⟩)) :
    RStep p X w w' { s with all := Mo.upd (s.all[i]).name g s.all } :=
  let k := h.slot i hi g hg t' hrow hd hv hu hY houter
  ⟨⟨_, _, _, k.1⟩, k.2⟩
/-- What is known behind an append to one file's row. -/
theorem RDisk.grown {w w4 : World} {p : Nat} {X : Nat → Prop} {s : St} {av : Sl} {rv : Bool → ByteArray → Sl} {a : Int} (h : RDisk w p X s av rv a) (i : Nat) (hi : i < s.all.length) (b : Bool) (hg : w.grownBy w4 (rv b (s.all[i]).name).v.ownBlock) :
    w4.heap[p]? = some (.cells #[av.v, .bool s.down, .int .i64 s.left, .int .i64 a, .int .i64 s.fails] 84 (0, 0)) ∧ kT.R 86 w4 0 (fun _ => True) av.v (s.all.map (tri rv)) ∧
      Row w4 (rv (!b) (s.all[i]).name).v (fpart (!b) (s.all[i])) := by
  have hm : s.all[i] ∈ s.all := List.getElem_mem hi
  refine ⟨(hg.block p (blk_lt h.head) (fun e => h.ne_row hm b e.symm)).trans h.head, ?_, ?_⟩
  · exact Kd.R_mono (Kd.R_step (Kd.R_tight rfl h.files.outer) (fun k hk hlt => hg.block k hlt (fun e => outer_row h.files.outer (h.files.row _ hm b) hk.symm e.symm))) (fun _ _ => trivial)
  · refine (h.files.row _ hm (!b)).same (fun k hk => hg.block k ((h.files.row _ hm (!b)).lt hk) (fun e => ?_))
    exact h.files.di _ hm _ hm (!b) b (fun e2 => by cases b <;> cases e2) k hk e.symm
theorem cells_of {w : World} {av : Sl} {l : List Tri} (h : kT.R 86 w 0 (fun _ => True) av.v l) {g : Nat} (hA : av.A = some ⟨g, 0, none⟩) (i : Nat) (hi : i < l.length) :
    w.cell? ⟨g, i * 3, none⟩ = some (.string (l[i]).nm) ∧ w.cell? ⟨g, i * 3 + 1, none⟩ = some (l[i]).s.v ∧ w.cell? ⟨g, i * 3 + 2, none⟩ = some (l[i]).l.v ∧
      w.frozen? ⟨g, i * 3, none⟩ = false ∧ w.frozen? ⟨g, i * 3 + 1, none⟩ = false ∧ w.frozen? ⟨g, i * 3 + 2, none⟩ = false := by
  have h' : kT.R 86 w 0 (fun _ => True) (.slice (some ⟨g, 0, none⟩) av.n av.c) l := by rw [← hA]; exact h
  have hn := (Kd.R_reads' h').1
  obtain ⟨c, hcl, hM, hc, hf⟩ := Kd.R_elem h' (default : Tri) (i : Int) (by omega) (by omega)
  rw [Int.toNat_natCast] at hM hc hf
  rw [List.getD_eq_getElem?_getD, List.getElem?_eq_getElem hi, kT_M] at hM
  have hM : c = (l[i]).cells := hM
  subst hM
  exact ⟨hc 0 _ rfl, hc 1 _ rfl, hc 2 _ rfl, hf 0, hf 1, hf 2⟩
/-- Other files, or one of other rows: what RFiles.gen says, with the bounds left open. -/
theorem RFiles.gen2 {w w' : World} {av av' : Sl} {rv : Bool → ByteArray → Sl} {X X' Y : Nat → Prop} {l l' : List F} (h : RFiles w av rv X l) (hnd : (namesOf l').Nodup) (nm0 : ByteArray) (t' : Bool → Sl) (hl : ∀ f ∈ l', f.name ≠ nm0 → f ∈ l)
    (h0 : ∀ f ∈ l', f.name = nm0 → ∀ b, Row w' (t' b).v (fpart b f)) (hd : Dis (t' false).v (t' true).v) (hmix : ∀ b, ∀ g ∈ l', g.name ≠ nm0 → ∀ c, Dis (t' b).v (rv c g.name).v)
    (hu : Upd Y w w') (hY : ∀ f ∈ l, ∀ b k, (rv b f.name).v.ownBlock = some k → ¬ Y k)
    (houter : kT.R 86 w' 0 (fun _ => True) av'.v (l'.map (tri fun b n => if n = nm0 then t' b else rv b n))) (hX : ∀ k, X k → X' k) (hx0 : ∀ b k, (t' b).v.ownBlock = some k → X' k) (hxo : ∀ k, av'.v.ownBlock = some k → X' k) :
    RFiles w' av' (fun b n => if n = nm0 then t' b else rv b n) X' l' := by
  refine ⟨houter, fun f hf b => ?_, fun f hf g hg b c hbc => ?_, hnd, hxo, fun f hf b k hk => ?_⟩
  · show Row w' (if f.name = nm0 then t' b else rv b f.name).v (fpart b f)
    by_cases e : f.name = nm0
    · rw [if_pos e]; exact h0 f hf e b
    · rw [if_neg e]
      exact (h.row f (hl f hf e) b).upd hu (fun k hk => hY f (hl f hf e) b k hk)
  · show Dis (if f.name = nm0 then t' b else rv b f.name).v (if g.name = nm0 then t' c else rv c g.name).v
    by_cases ef : f.name = nm0 <;> by_cases eg : g.name = nm0
    · rw [if_pos ef, if_pos eg]
      have hne : b ≠ c := fun e => hbc e (ef.trans eg.symm)
      cases b <;> cases c
      · exact absurd rfl hne
      · exact hd
      · exact hd.symm
      · exact absurd rfl hne
    · rw [if_pos ef, if_neg eg]; exact hmix b g hg eg c
    · rw [if_neg ef, if_pos eg]; exact (hmix c f hf ef b).symm
    · rw [if_neg ef, if_neg eg]; exact h.di f (hl f hf ef) g (hl g hg eg) b c hbc
  · have hk' : (if f.name = nm0 then t' b else rv b f.name).v.ownBlock = some k := hk
    by_cases e : f.name = nm0
    · rw [if_pos e] at hk'; exact hx0 b k hk'
    · rw [if_neg e] at hk'; exact hX k (h.xr f (hl f hf e) b k hk')
end Go.Proofs.Ytfholpajdkjbbaa.DK
/- The reference's disk: Sync; conditions: those in each theorem. -/
namespace Go.Proofs.Ytfholpajdkjbbaa.DK
open Go.RowKit Go.Proofs.YtfholpajdkjbbaaW.PrintWords Go.Proofs.YtfholpajdkjbbaaW.PrintLast Go.Proofs.YtfholpajdkjbbaaW.PrintMore Go.Proofs.Ytfholpajdkjbbaa.Mo
set_option linter.unusedVariables false
set_option linter.unusedSimpArgs false
theorem there_all (s : St) (nm : ByteArray) : (s.there nm).1.all = s.all := by
  unfold St.there
  have h1 := ahead_all s nm true
  split
  · exact h1
  · split
    · exact h1
    · split
      · exact (pays_all _ _).trans h1
      · exact h1
theorem Row.sl {w : World} {t : Sl} {xs : List Int} (h : Row w t.v xs) : t.n = xs.length ∧ t.n ≤ t.c ∧ (Kd.int .u8).C w t.A xs.length xs := by
  have h' : (Kd.int .u8).R 5 w 0 (fun _ => True) (.slice t.A t.n t.c) xs := h
  obtain ⟨h1, h2, h3⟩ := Kd.R_reads' h'
  exact ⟨h1, h2, h3⟩
theorem RDisk.drew {w : World} {p : Nat} {X : Nat → Prop} {s : St} {av : Sl} {rv : Bool → ByteArray → Sl} {a : Int} (h : RDisk w p X s av rv a) : RDisk w.drew p X s av rv a := h.upd (Y := fun _ => False) ((Upd.refl _ _).drew) (fun _ _ h => h)
theorem find_idx {l : List F} {nm : ByteArray} {i : Int} (h : Found l nm i) {f : F} (hf : find l nm = some f) : ∃ n : Nat, i = n ∧ ∃ hn : n < l.length, l[n] = f := by
  unfold Found at h
  rw [hf] at h
  obtain ⟨n, h1, h2⟩ := h
  obtain ⟨hn, h3⟩ := List.getElem?_eq_some_iff.1 h2
  exact ⟨n, h1, hn, h3⟩
theorem there_find {s : St} {nm : ByteArray} (h : (s.there nm).2 = 0) : ∃ f, find s.all nm = some f := by
  unfold St.there at h
  split at h
  · exact absurd h (by assumption)
  · split at h
    · exact absurd (show (103 : Int) = 0 from h) (by decide)
    · rename_i h2
      cases hf : find s.all nm with
      | none => rw [hf] at h2; exact absurd rfl h2
      | some f => exact ⟨f, rfl⟩
theorem RStep.of_drew {p : Nat} {X : Nat → Prop} {w w' : World} {s : St} (h : RStep p X w.drew w' s) : RStep p X w w' s := ⟨h.1, ⟨h.2.os, h.2.tape, h.2.output, h.2.size, h.2.same⟩⟩
/-- File i, laid open. -/
structure FileAt (w : World) (p : Nat) (X : Nat → Prop) (s : St) (av : Sl) (rv : Bool → ByteArray → Sl) (a : Int) (i : Nat) (f : F) (g cav : Nat) (A1 : Option Addr) (c1 : Nat) (A2 : Option Addr) (c2 : Nat) : Prop where
  disk : RDisk w p X s av rv a
  hi : i < s.all.length
  hf : ∀ h : i < s.all.length, s.all[i] = f
  hA : av.A = some ⟨g, 0, none⟩
  hav : av.v = .slice (some ⟨g, 0, none⟩) s.all.length cav
  ne : p ≠ g
  lt : g < w.heap.size
  s1 : rv false f.name = ⟨A1, f.sure.length, c1⟩
  s2 : rv true f.name = ⟨A2, f.loose.length, c2⟩
  l1 : f.sure.length ≤ c1
  l2 : f.loose.length ≤ c2
  r1 : Row w (.slice A1 f.sure.length c1) f.sure
  r2 : Row w (.slice A2 f.loose.length c2) f.loose
  q1 : (Kd.int .u8).C w A1 f.sure.length f.sure
  q2 : (Kd.int .u8).C w A2 f.loose.length f.loose
  di : Dis (.slice A1 f.sure.length c1) (.slice A2 f.loose.length c2)
  head : w.heap[p]? = some (.cells #[.slice (some ⟨g, 0, none⟩) s.all.length cav, .bool s.down, .int .i64 s.left, .int .i64 a, .int .i64 s.fails] 84 (0, 0))
  k0 : w.cell? ⟨g, i * 3, none⟩ = some (.string f.name)
  k1 : w.cell? ⟨g, i * 3 + 1, none⟩ = some (.slice A1 f.sure.length c1)
  k2 : w.cell? ⟨g, i * 3 + 2, none⟩ = some (.slice A2 f.loose.length c2)
  f0 : w.frozen? ⟨g, i * 3, none⟩ = false
  f1 : w.frozen? ⟨g, i * 3 + 1, none⟩ = false
  f2 : w.frozen? ⟨g, i * 3 + 2, none⟩ = false
theorem RDisk.open_ {w : World} {p : Nat} {X : Nat → Prop} {s : St} {av : Sl} {rv : Bool → ByteArray → Sl} {a : Int} (h : RDisk w p X s av rv a) (i : Nat) (hi : i < s.all.length) : ∃ g cav A1 c1 A2 c2, FileAt w p X s av rv a i (s.all[i]) g cav A1 c1 A2 c2 := by
  have hm : s.all[i] ∈ s.all := List.getElem_mem hi
  obtain ⟨g, hA, hg, _⟩ := h.files.at_ i hi
  have hav : av.v = .slice (some ⟨g, 0, none⟩) s.all.length av.c := by unfold Sl.v; rw [hA, h.files.len]
  obtain ⟨k0, k1, k2, f0, f1, f2⟩ := cells_of h.files.outer hA i (by rw [List.length_map]; exact hi)
  rw [List.getElem_map] at k0 k1 k2
  have r1 := h.files.row _ hm false
  have r2 := h.files.row _ hm true
  obtain ⟨n1, m1, q1⟩ := r1.sl
  obtain ⟨n2, m2, q2⟩ := r2.sl
  have e1 : rv false (s.all[i]).name = ⟨(rv false (s.all[i]).name).A, (s.all[i]).sure.length, (rv false (s.all[i]).name).c⟩ := by
    rw [show (s.all[i]).sure.length = (rv false (s.all[i]).name).n from n1.symm]
  have e2 : rv true (s.all[i]).name = ⟨(rv true (s.all[i]).name).A, (s.all[i]).loose.length, (rv true (s.all[i]).name).c⟩ := by
    rw [show (s.all[i]).loose.length = (rv true (s.all[i]).name).n from n2.symm]
  have v1 : (rv false (s.all[i]).name).v = .slice (rv false (s.all[i]).name).A (s.all[i]).sure.length (rv false (s.all[i]).name).c := by unfold Sl.v; rw [show (s.all[i]).sure.length = (rv false (s.all[i]).name).n from n1.symm]
  have v2 : (rv true (s.all[i]).name).v = .slice (rv true (s.all[i]).name).A (s.all[i]).loose.length (rv true (s.all[i]).name).c := by unfold Sl.v; rw [show (s.all[i]).loose.length = (rv true (s.all[i]).name).n from n2.symm]
  refine ⟨g, av.c, _, _, _, _, h, hi, fun _ => rfl, hA, hav, fun e => h.ne_outer (by rw [hav, e]; rfl), hg, e1, e2, ?_, ?_, by rw [← v1]; exact r1, by rw [← v2]; exact r2, q1, q2, ?_, by rw [← hav]; exact h.head, k0, by rw [← v1]; exact k1, by rw [← v2]; exact k2, f0, f1, f2⟩
  · exact Nat.le_trans (Nat.le_of_eq n1.symm) m1
  · exact Nat.le_trans (Nat.le_of_eq n2.symm) m2
  · rw [← v1, ← v2]
    exact h.files.di _ hm _ hm false true (fun h => nomatch h)
/-- What is known behind an append to the sure row. -/
theorem FileAt.grown1 {w w4 : World} {p : Nat} {X : Nat → Prop} {s : St} {av : Sl} {rv : Bool → ByteArray → Sl} {a : Int} {i : Nat} {f : F} {g cav : Nat} {A1 : Option Addr} {c1 : Nat} {A2 : Option Addr} {c2 : Nat} (h : FileAt w p X s av rv a i f g cav A1 c1 A2 c2) (b : Bool)
    (hg : w.grownBy w4 (if b then (Value.slice A2 f.loose.length c2) else (Value.slice A1 f.sure.length c1)).ownBlock) :
    w4.heap[p]? = some (.cells #[.slice (some ⟨g, 0, none⟩) s.all.length cav, .bool s.down, .int .i64 s.left, .int .i64 a, .int .i64 s.fails] 84 (0, 0)) ∧ kT.R 86 w4 0 (fun _ => True) av.v (s.all.map (tri rv)) ∧
      Row w4 (if b then (Value.slice A1 f.sure.length c1) else (Value.slice A2 f.loose.length c2)) (fpart (!b) f) ∧
      w4.cell? ⟨g, i * 3, none⟩ = some (.string f.name) ∧ w4.cell? ⟨g, i * 3 + 1, none⟩ = some (.slice A1 f.sure.length c1) ∧ w4.cell? ⟨g, i * 3 + 2, none⟩ = some (.slice A2 f.loose.length c2) ∧
      w4.frozen? ⟨g, i * 3, none⟩ = false ∧ w4.frozen? ⟨g, i * 3 + 1, none⟩ = false ∧ w4.frozen? ⟨g, i * 3 + 2, none⟩ = false := by
  have hfi := h.hf h.hi
  have e : (if b then (Value.slice A2 f.loose.length c2) else (Value.slice A1 f.sure.length c1)) = (rv b (s.all[i]'h.hi).name).v := by
    rw [hfi]
    cases b
    · rw [h.s1]; rfl
    · rw [h.s2]; rfl
  rw [e] at hg
  obtain ⟨h1, h2, h3⟩ := h.disk.grown i h.hi b hg
  rw [h.hav] at h1
  have e2 : (if b then (Value.slice A1 f.sure.length c1) else (Value.slice A2 f.loose.length c2)) = (rv (!b) (s.all[i]'h.hi).name).v := by
    rw [hfi]
    cases b
    · simp only [Bool.not_false, h.s2]; rfl
    · simp only [Bool.not_true, h.s1]; rfl
  have h3' := h3
  rw [← e2, hfi] at h3'
  obtain ⟨k0, k1, k2, f0, f1, f2⟩ := cells_of h2 h.hA i (by rw [List.length_map]; exact h.hi)
  rw [List.getElem_map, hfi] at k0 k1 k2
  simp only [tri, h.s1, h.s2] at k0 k1 k2
  exact ⟨h1, h2, h3', k0, k1, k2, f0, f1, f2⟩
theorem FileAt.drew {w : World} {p : Nat} {X : Nat → Prop} {s : St} {av : Sl} {rv : Bool → ByteArray → Sl} {a : Int} {i : Nat} {f : F} {g cav : Nat} {A1 : Option Addr} {c1 : Nat} {A2 : Option Addr} {c2 : Nat} (h : FileAt w p X s av rv a i f g cav A1 c1 A2 c2) : FileAt w.drew p X s av rv a i f g cav A1 c1 A2 c2 :=
  ⟨h.disk.drew, h.hi, h.hf, h.hA, h.hav, h.ne, h.lt, h.s1, h.s2, h.l1, h.l2, Kd.R_drew h.r1, Kd.R_drew h.r2, Kd.C_drew h.q1, Kd.C_drew h.q2, h.di, h.head, h.k0, h.k1, h.k2, h.f0, h.f1, h.f2⟩
/-- Both slices of file i are stored anew. -/
theorem FileAt.two2 {w w4 : World} {p : Nat} {X Y : Nat → Prop} {s : St} {av : Sl} {rv : Bool → ByteArray → Sl} {a : Int} {i : Nat} {f : F} {g cav : Nat} {A1 : Option Addr} {c1 : Nat} {A2 : Option Addr} {c2 : Nat} (h : FileAt w p X s av rv a i f g cav A1 c1 A2 c2)
    (hu : Upd Y w w4) (hY : ∀ k, k < w.heap.size → Y k → ((Value.slice A1 f.sure.length c1).ownBlock = some k ∨ (Value.slice A2 f.loose.length c2).ownBlock = some k) ∨ k = g) (ht : kT.R 86 w4 0 (fun _ => True) av.v (s.all.map (tri rv)))
    (G : F → F) (hG : ∀ x, (G x).name = x.name) (t1 t2 : Sl) (h1 : Row w4 t1.v (G f).sure) (h2 : Row w4 t2.v (G f).loose) (hd : Dis t1.v t2.v)
    (hv : ∀ (b : Bool) k, (if b then t2 else t1).v.ownBlock = some k → ((Value.slice A1 f.sure.length c1).ownBlock = some k ∨ (Value.slice A2 f.loose.length c2).ownBlock = some k) ∨ w.heap.size ≤ k) :
    RStep p X w ((w4.setCell ⟨g, i * 3 + 1, none⟩ t1.v).setCell ⟨g, i * 3 + 2, none⟩ t2.v) { s with all := upd f.name G s.all } := by
  have hfi := h.hf h.hi
  have hb1 : (Value.slice A1 f.sure.length c1) = (rv false (s.all[i]'h.hi).name).v := by rw [hfi, h.s1]; rfl
  have hb2 : (Value.slice A2 f.loose.length c2) = (rv true (s.all[i]'h.hi).name).v := by rw [hfi, h.s2]; rfl
  have hown : ∀ k, ((Value.slice A1 f.sure.length c1).ownBlock = some k ∨ (Value.slice A2 f.loose.length c2).ownBlock = some k) → ∃ c, (rv c (s.all[i]'h.hi).name).v.ownBlock = some k := fun k hk => by
    rw [hb1, hb2] at hk
    rcases hk with hk | hk
    · exact ⟨false, hk⟩
    · exact ⟨true, hk⟩
  have ho1 := outer_set ht h.hA i (by rw [List.length_map]; exact h.hi) 1 t1.v ⟨f.name, t1, rv true f.name⟩ (by decide) (by rw [List.getElem_map, hfi]; rfl)
  have ho2 := outer_set ho1 h.hA i (by rw [List.length_set, List.length_map]; exact h.hi) 2 t2.v ⟨f.name, t1, t2⟩ (by decide) (by rw [List.getElem_set_self]; rfl)
  rw [List.set_set] at ho2
  have hgo : av.v.ownBlock = some g := by rw [h.hav]; rfl
  have hrw : ∀ (t : Sl) (xs : List Int), Row w4 t.v xs → Row ((w4.setCell ⟨g, i * 3 + 1, none⟩ t1.v).setCell ⟨g, i * 3 + 2, none⟩ t2.v) t.v xs := fun t xs hr => hr.same (fun k hk => by
    have hne : k ≠ g := fun e => outer_row ht hr (by rw [e]; exact hgo) hk
    rw [Below.heap_setCell _ _ _ _ hne, Below.heap_setCell _ _ _ _ hne])
  have := h.disk.slot' i h.hi G hG (fun b => if b then t2 else t1) (Y := fun k => Y k ∨ k = g) (fun b => by
      rw [hfi]
      cases b
      · exact hrw t1 _ h1
      · exact hrw t2 _ h2) hd (fun b k hk => (hv b k hk).imp (hown k) id) (((hu.trans ((Upd.refl (fun k => k = g) w4).set1 (i * 3 + 1) t1.v) (fun _ h => .inl h) (fun _ _ h => .inr h)).trans ((Upd.refl (fun k => k = g) _).set1 (i * 3 + 2) t2.v) (fun _ h => h) (fun _ _ h => .inr h)))
      (fun k hk hy => hy.elim (fun h => (hY k hk h).elim (fun h => .inr (hown k h)) (fun e => .inl (by rw [e]; exact hgo))) (fun e => .inl (by rw [e]; exact hgo))) (by rw [hfi]; exact ho2)
  rw [hfi] at this
  exact this
theorem FileAt.two {w w4 : World} {p : Nat} {X Y : Nat → Prop} {s : St} {av : Sl} {rv : Bool → ByteArray → Sl} {a : Int} {i : Nat} {f : F} {g cav : Nat} {A1 : Option Addr} {c1 : Nat} {A2 : Option Addr} {c2 : Nat} (h : FileAt w p X s av rv a i f g cav A1 c1 A2 c2)
    (hu : Upd Y w w4) (hY : ∀ k, k < w.heap.size → Y k → (Value.slice A1 f.sure.length c1).ownBlock = some k ∨ (Value.slice A2 f.loose.length c2).ownBlock = some k) (ht : kT.R 86 w4 0 (fun _ => True) av.v (s.all.map (tri rv)))
    (G : F → F) (hG : ∀ x, (G x).name = x.name) (t1 t2 : Sl) (h1 : Row w4 t1.v (G f).sure) (h2 : Row w4 t2.v (G f).loose) (hd : Dis t1.v t2.v)
    (hv : ∀ (b : Bool) k, (if b then t2 else t1).v.ownBlock = some k → ((Value.slice A1 f.sure.length c1).ownBlock = some k ∨ (Value.slice A2 f.loose.length c2).ownBlock = some k) ∨ w.heap.size ≤ k) :
    RStep p X w ((w4.setCell ⟨g, i * 3 + 1, none⟩ t1.v).setCell ⟨g, i * 3 + 2, none⟩ t2.v) { s with all := upd f.name G s.all } :=
  h.two2 hu (fun k hk hy => .inl (hY k hk hy)) ht G hG t1 t2 h1 h2 hd hv
set_option maxHeartbeats 4000000 in
set_option maxRecDepth 100000 in
theorem rsync_calls (w : World) (p : Nat) (X : Nat → Prop) (s : St) (nm : ByteArray) (h : RefD w p X s) (ok : Ok s) : Calls Try.prog 65 #[.pointer (some ⟨p, 0, none⟩), .string nm] w fun e w' => e = .returned (.int .i64 (s.sync nm).2) ∧ RStep p X w w' (s.sync nm).1 := by
  have HT := Aside0.mk (rthere_calls w p X s nm h ok)
  unfold TherePost at HT
  unfold St.sync St.change
  by_cases hc0 : (s.there nm).2 ≠ 0
  · rw [if_pos hc0]
    generalize s.there nm = r at *
    obtain ⟨s1, c1⟩ := r
    dsimp only at *
    have hb1 : (c1 == 0) = false := by simpa using hc0
    have hb2 : (c1 != 0) = true := by simpa using hc0
    clear hc0 h ok
    go_enter Try.func65, Try.ntmps65
    go_wp2_with (go_at_call 78; refine HT.out.mono ?_; rintro e w1 ⟨i, rfl, hP, _⟩)
    go_ret
    exact ⟨rfl, hP⟩
  · rw [if_neg hc0]
    have hc1 : (s.there nm).2 = 0 := by omega
    obtain ⟨f, hf⟩ := there_find hc1
    have HF := Aside0.mk hf
    have hall := there_all s nm
    have hsm := ok.small f (find_some hf).1
    have HSM := Aside0.mk hsm
    rw [hc1] at HT
    generalize (s.there nm).1 = s1 at *
    have HALL := Aside0.mk hall
    clear hc0 hc1 h ok hf hall
    go_enter Try.func65, Try.ntmps65
    go_wp2_with fail
    refine HT.out.mono ?_
    rintro e w1 ⟨r, rfl, h1, hfd⟩
    obtain ⟨i, rfl, hi0, hfi⟩ := find_idx (hfd (by trivial)) HF.out
    have hnmf := (find_some HF.out).2
    have H1 := Aside0.mk h1
    obtain ⟨⟨av, rv, a, hR⟩, hU⟩ := h1
    have hi : i < s1.all.length := by rw [HALL.out]; exact hi0
    obtain ⟨g, cav, A1, c1, A2, c2, ho⟩ := hR.open_ i hi
    rw [show s1.all[i] = f by simp only [HALL.out]; exact hfi] at ho
    have HO := Aside0.mk ho
    have hp := ho.head
    have m0 := blk_cell hp 0
    have m1 := blk_cell hp 1
    have m2 := blk_cell hp 2
    have m3 := blk_cell hp 3
    have m4 := blk_cell hp 4
    have fm0 := blk_frozen hp 0
    have fm1 := blk_frozen hp 1
    have fm2 := blk_frozen hp 2
    have fm3 := blk_frozen hp 3
    have fm4 := blk_frozen hp 4
    simp only [List.getElem?_toArray, List.getElem?_cons_succ, List.getElem?_cons_zero] at m0 m1 m2 m3 m4
    have k0 := ho.k0
    have k1 := ho.k1
    have k2 := ho.k2
    have fk1 := ho.f1
    have fk2 := ho.f2
    have hne := ho.ne
    clear hfd hfi hnmf hR hU hp ho
    go_wp2
    refine start_ (n := 25) (S := fun w' => w'.cell? ⟨p, 0, none⟩ = some (.slice (some ⟨g, 0, none⟩) s1.all.length cav) ∧ w'.cell? ⟨g, i * 3 + 1, none⟩ = some (.slice A1 f.sure.length c1) ∧ w'.cell? ⟨g, i * 3 + 2, none⟩ = some (.slice A2 f.loose.length c2)) (ds := [24]) #[false, false, false, false, false, false, false, false, false, false, false, false, false, false, false, false, false, false, false, false, false, false, false, false, false] (by kernel_rfl) rfl rfl ⟨m0, k1, k2⟩ (fun hHeld => ?_)
    refine zq 0 (some 16) ?_
    refine zq 1 (some 17) ?_
    refine zq 2 (some 18) ?_
    refine zq 4 (some 20) ?_
    refine zq 5 (some 21) ?_
    refine zq 6 (some 22) ?_
    refine zq 7 (some 23) ?_
    refine zq 9 (some 25) ?_
    refine zq 13 (some 29) ?_
    refine zq 14 (some 30) ?_
    refine zq 15 (some 31) ?_
    refine zq 17 (some 33) ?_
    refine zu 3 (some 19) hHeld ?_
    refine zu 8 (some 24) hHeld ?_
    refine zq 10 (some 26) ?_
    refine zq 11 (some 27) ?_
    refine zu 12 (some 28) hHeld ?_
    refine zu 16 (some 32) hHeld ?_
    refine zq 18 (some 34) ?_
    refine zq 19 (some 35) ?_
    refine zu 20 (some 36) hHeld ?_
    refine one_ (i := 21) (N := some 37) #[true, true, true, true, true, true, true, true, true, true, true, true, true, true, true, true, true, true, true, true, true, true, false, false, false] rfl rfl (by kernel_rfl) (by decide) (fun K hK => ?_)
    refine Kd.R_append_rows_step (Kd.int .u8) (w0 := w1.drew) 0 (by rfl) (.tmp 28) (.tmp 36) 38 5 (.int .u8 0) 1 rfl Try.underlying38 PD.info5 rfl (by decide) (by decide) _ f.sure f.loose _ _ _ (fun _ => True) (fun _ => False) rfl rfl HO.out.drew.r1 HO.out.drew.q2 (fun _ _ h => h) (fun _ h => h.elim) (fun _ _ => trivial) (Below.refl _ _) (Nat.zero_le _) (by have := HSM.out; unfold Mo.F.len at this; omega) ?_
    intro v1 w4 ho hb hg hat
    obtain ⟨A5, c5, rfl, hc5, _⟩ := Kd.R_reads ho
    generalize hn1 : (f.sure ++ f.loose).length = n1 at ho hat hc5 ⊢
    have HN1 := Aside0.mk hn1
    obtain ⟨hp4, ht4, hr4, e0, e1, e2, fe0, fe1, fe2⟩ := HO.out.drew.grown1 false hg
    have HP4 := Aside0.mk hp4
    have n0 := blk_cell hp4 0
    have n1 := blk_cell hp4 1
    have n2 := blk_cell hp4 2
    have n3 := blk_cell hp4 3
    have n4 := blk_cell hp4 4
    have fn0 := blk_frozen hp4 0
    have fn1 := blk_frozen hp4 1
    have fn2 := blk_frozen hp4 2
    have fn3 := blk_frozen hp4 3
    have fn4 := blk_frozen hp4 4
    simp only [List.getElem?_toArray, List.getElem?_cons_succ, List.getElem?_cons_zero] at n0 n1 n2 n3 n4
    have H4 := Aside0.mk ho
    have HG := Aside0.mk hg
    have HAT := Aside0.mk hat
    have HT4 := Aside0.mk ht4
    have HR4 := Aside0.mk hr4
    clear ho hb hg hat hn1 hp4 ht4 hr4 hc5 k0 k1 k2 fk1 fk2 m0 m1 m2 m3 m4 fm0 fm1 fm2 fm3 fm4
    refine hK.out _ _ ⟨n0, e1, e2⟩ (fun hHeld => ?_)
    clear hK K
    refine norm_ (a' := ?_) ?_ ?_
    rotate_left
    · show Act.put _ (some 37) _ = _
      simp only [Act.put, zla, zlb, zlc, i64_w, i32_w]
      rfl
    refine zq 22 (some 38) ?_
    refine zq 23 (some 39) ?_
    refine last_ (i := 24) (N := none) #[true, true, true, true, true, true, true, true, true, true, true, true, true, true, true, true, true, true, true, true, true, true, true, true, true] rfl rfl (by kernel_rfl) (by decide) (fun K hK => ?_)
    refine skip_ (w1 := ?_) (by rfl) rfl ?_ ?_
    rotate_left
    · go_simp
      rfl
    refine hK.out _ _ ?_
    clear hK K
    refine done_ (by kernel_rfl) ?_
    go_wp2
    go_ret
    refine ⟨rfl, ?_⟩
    have hx := HO.out.drew.two (w4 := w4) (Y := fun k => (Value.slice A1 f.sure.length c1).ownBlock = some k) ((Upd.refl _ _).grown HG.out (fun k hk => .inl hk)) (fun k _ hk => .inl hk) HT4.out (fun f => { f with sure := f.sure ++ f.loose, loose := [] }) (fun _ => rfl) ⟨A5, _, c5⟩ Sl.nil H4.out (Kd.R_nil _ _ _ _ _) (fun k _ hk => by cases hk) (fun b k hk => by
      cases b
      · rcases HAT.out with h1 | ⟨b5, h1, h2⟩
        · exact .inl (.inl (h1 ▸ hk))
        · have e9 := h1.symm.trans hk
          injection e9 with e9
          exact .inr (e9 ▸ h2)
      · cases hk)
    rw [(find_some HF.out).2] at hx
    exact RStep.trans H1.out (RStep.of_drew hx)
end Go.Proofs.Ytfholpajdkjbbaa.DK
