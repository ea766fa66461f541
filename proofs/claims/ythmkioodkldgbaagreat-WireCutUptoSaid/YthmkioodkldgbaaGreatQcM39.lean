/- What a row's opening gives of an argument: kinds by kinds, then one of the five things; conditions: those in each theorem. -/
import Derived.Test.YthmkioodkldgbaaGreatQcM34
import Derived.ChangeSame
import Derived.Deep.SlicePairs
import Derived.DataShut
namespace Go.Proofs.YthmkioodkldgbaaGreat.DK
open Go.Proofs.YthmkioodkldgbaaGreat.PD
open Go.ChangeShapes Go.WideShapes Go.Deep Go.Proofs.YthmkioodkldgbaaGreatW.PrintWords
set_option linter.unusedVariables false
set_option maxRecDepth 100000
/-- One value laid out as cells of type t, read by d, is such. -/
def Opens {H : Type} (enc : TypeId × Value → H) (W : World) {α : Type} (n : Nat) (t : TypeId) (d : Kd α) (ok : α → Prop) : Prop :=
 ∀ cs x, DataW.trod enc Tryz.prog W 0 (fun _ => true) true n t cs = some x → ∃ y : α, d.K W y cs ∧ ok y
section
variable {H : Type} {enc : TypeId × Value → H} {W : World} {n : Nat}
theorem opens_int {t : TypeId} {k : IntKind} (hu : Tryz.prog.underlying t = some (.int k)) : Opens enc W n t (Kd.int k) (fun y => (Lit.int k y).wf = true) := fun cs x h => by
 obtain ⟨y, rfl, _, hw⟩ := DataW.trod_int hu h
 exact ⟨y, rfl, hw⟩
theorem opens_str {t : TypeId} (hu : Tryz.prog.underlying t = some .string) : Opens enc W n t Kd.string (fun _ => True) := fun cs x h => by
 obtain ⟨y, rfl, _, hw⟩ := DataW.trod_string hu h
 exact ⟨y, rfl, trivial⟩
theorem list_of {α : Type} {P : Nat → α → Prop} : ∀ m, (∀ j, j < m → ∃ p, P j p) → ∃ l : List α, l.length = m ∧ ∀ j p, l[j]? = some p → P j p
 | 0, _ => ⟨[], rfl, fun j p h => by simp at h⟩
 | m + 1, h => by
  obtain ⟨l, hl, hp⟩ := list_of m (fun j hj => h j (by omega))
  obtain ⟨p, hq⟩ := h m (by omega)
  refine ⟨l ++ [p], by simp [hl], fun j q hj => ?_⟩
  by_cases hjm : j < m
  ·rw [List.getElem?_append_left (by omega)] at hj
   exact hp j q hj
  ·rw [List.getElem?_append_right (by omega)] at hj
   have hj2 : j - l.length < [p].length := (List.getElem?_eq_some_iff.1 hj).1
   simp only [List.length_cons, List.length_nil] at hj2
   obtain rfl : j = m := by omega
   rw [show j - l.length = 0 by omega] at hj
   simp at hj
   exact hj ▸ hq
theorem opens_slice {t e e' : TypeId} {α : Type} {d : Kd α} {ok : α → Prop} (hu : Tryz.prog.underlying t = some (.slice e)) (he : Tryz.prog.cellsOf e = d.sz) (h : ∀ m, m < n → Opens enc W m e d ok) : Opens enc W n t (Kd.slice e' d) (fun l => ∀ y ∈ l, ok y) := fun cs x hx => by
 rcases DataW.trod_slice hu hx with ⟨rfl, _⟩ | ⟨a, len, cap, elems, rest, m, rfl, rfl, _, _, hl, hm, hlen, hel, _, _⟩
 ·exact ⟨[], ⟨none, 0, rfl, Nat.le_refl _, ⟨rfl, Nat.zero_le _, fun hh => absurd hh (Nat.lt_irrefl _)⟩⟩, fun y hy => by cases hy⟩
 ·obtain ⟨l, hll, hp⟩ := list_of (P := fun i y => (∃ c, c.length = d.sz ∧ d.K W y c ∧ ∀ j u, c[j]? = some u → W.cell? (a.add (i * d.sz + j)) = some u) ∧ ok y) len (fun i hi => by
   have h1 := hel i hi
   rw [List.getElem?_eq_getElem (by omega)] at h1
   cases hc : W.cells? 0 (a.add (i * Tryz.prog.cellsOf e)) (Tryz.prog.cellsOf e) with
   | none => rw [hc] at h1; cases h1
   | some c =>
    rw [hc] at h1
    obtain ⟨_, hcl, hcc⟩ := World.cells?_some hc
    obtain ⟨y, hK, hok⟩ := h m (by omega) c _ h1
    rw [he] at hcl hcc
    refine ⟨y, ⟨c, hcl, hK, fun j u hju => ?_⟩, hok⟩
    have hj : j < d.sz := by have := (List.getElem?_eq_some_iff.1 hju).1; omega
    have h2 := hcc j hj
    rw [Deep.add_add] at h2
    rw [h2, hju])
  subst hll
  exact ⟨l, ⟨some a, cap, rfl, hl, ⟨rfl, Nat.le_trans hl hm, fun _ => ⟨a, rfl, fun j p hj => (hp j p hj).1⟩⟩⟩, fun y hy => by
   obtain ⟨i, hi⟩ := List.mem_iff_getElem?.1 hy
   exact (hp i y hi).2⟩
theorem fld {t : TypeId} {fs : Array Field} {cs : List Value} {x : DataW H × List MemPlace} (hu : Tryz.prog.underlying t = some (.struct fs)) (h : DataW.trod enc Tryz.prog W 0 (fun _ => true) true n t cs = some x) :
  cs.length = Tryz.prog.cellsOf t ∧ ∃ m, n = m + 1 ∧ ∀ (i : Nat) (f : Field), fs[i]? = some f → ∃ y, DataW.trod enc Tryz.prog W 0 (fun _ => true) true m f.type ((cs.drop f.offset).take (Tryz.prog.cellsOf f.type)) = some y := by
 obtain ⟨xs, m, rfl, _, hl, hlen, hf⟩ := DataW.trod_struct hu h
 refine ⟨hl, m, rfl, fun i f hi => ?_⟩
 have h1 := hf i f hi
 have hi2 : i < fs.size := (Array.getElem?_eq_some_iff.1 hi).1
 rw [List.getElem?_eq_getElem (by omega)] at h1
 exact ⟨_, h1⟩
theorem f_last {α : Type} {d : Kd α} {ok : α → Prop} {t : TypeId} {cs : List Value} (off : Nat) (h : Opens enc W n t d ok) (hl : cs.length = off + Tryz.prog.cellsOf t) (g : ∃ y, DataW.trod enc Tryz.prog W 0 (fun _ => true) true n t ((cs.drop off).take (Tryz.prog.cellsOf t)) = some y) :
  ∃ y, d.K W y (cs.drop off) ∧ ok y := by
 obtain ⟨y, g⟩ := g
 rw [List.take_of_length_le (by rw [List.length_drop]; omega)] at g
 exact h _ _ g
theorem f_cons {α β : Type} {a : Kd α} {b : Kd β} {oka : α → Prop} {okb : β → Prop} {t : TypeId} {cs : List Value} (off s : Nat) (h : Opens enc W n t a oka) (he : Tryz.prog.cellsOf t = s) (g : ∃ y, DataW.trod enc Tryz.prog W 0 (fun _ => true) true n t ((cs.drop off).take (Tryz.prog.cellsOf t)) = some y)
  (k : ∃ y, b.K W y (cs.drop (off + s)) ∧ okb y) : ∃ y : α × β, (Kd.pair a b).K W y (cs.drop off) ∧ (oka y.1 ∧ okb y.2) := by
 obtain ⟨y, g⟩ := g
 rw [he] at g
 obtain ⟨y0, h0, o0⟩ := h _ _ g
 obtain ⟨y1, h1, o1⟩ := k
 exact ⟨(y0, y1), ⟨(cs.drop off).take s, cs.drop (off + s), by rw [← List.drop_drop, List.take_append_drop], h0, h1⟩, o0, o1⟩
theorem okL_of : ∀ {l : List S25}, (∀ y ∈ l, okS y) → okL l
 | [], _ => by rw [okL]; trivial
 | x :: l, h => by
  rw [okL]
  exact ⟨h x (List.mem_cons_self ..), okL_of (fun y hy => h y (List.mem_cons_of_mem _ hy))⟩
theorem wf64 {y : Int} (h : (Lit.int .i64 y).wf = true) : -9223372036854775808 ≤ y ∧ y ≤ 9223372036854775807 := by have := (Lit.wf_int_iff _ _).1 h; exact ⟨this.1, this.2⟩
theorem wf32 {y : Int} (h : (Lit.int .u32 y).wf = true) : 0 ≤ y ∧ y ≤ 4294967295 := by have := (Lit.wf_int_iff _ _).1 h; exact ⟨this.1, this.2⟩
theorem ce3 : Tryz.prog.cellsOf 3 = 1 := by kernel_rfl
theorem ce2 : Tryz.prog.cellsOf 2 = 1 := by kernel_rfl
theorem ce9 : Tryz.prog.cellsOf 9 = 1 := by kernel_rfl
theorem ce32 : Tryz.prog.cellsOf 31 = 1 := by kernel_rfl
theorem ce23 : Tryz.prog.cellsOf 22 = 1 := by kernel_rfl
theorem ce25 : Tryz.prog.cellsOf 24 = 4 := by kernel_rfl
theorem ce26 : Tryz.prog.cellsOf 25 = 1 := by kernel_rfl
theorem ce28 : Tryz.prog.cellsOf 27 = 6 := by kernel_rfl
theorem ce29 : Tryz.prog.cellsOf 28 = 1 := by kernel_rfl
theorem ce31 : Tryz.prog.cellsOf 30 = 2 := by kernel_rfl
theorem ce33 : Tryz.prog.cellsOf 32 = 1 := by kernel_rfl
theorem ce35 : Tryz.prog.cellsOf 34 = 3 := by kernel_rfl
theorem ce36 : Tryz.prog.cellsOf 35 = 1 := by kernel_rfl
theorem ce37 : Tryz.prog.cellsOf 36 = 1 := by kernel_rfl
theorem ce39 : Tryz.prog.cellsOf 38 = 11 := by kernel_rfl
theorem ce40 : Tryz.prog.cellsOf 39 = 1 := by kernel_rfl
theorem ce42 : Tryz.prog.cellsOf 41 = 3 := by kernel_rfl
theorem ce44 : Tryz.prog.cellsOf 43 = 7 := by kernel_rfl
theorem ce46 : Tryz.prog.cellsOf 45 = 30 := by kernel_rfl
theorem ce108 : Tryz.prog.cellsOf 111 = 2 := by kernel_rfl
theorem ce121 : Tryz.prog.cellsOf 129 = 2 := by kernel_rfl
theorem opens25 : ∀ n, Opens enc W n 24 k25 okS := fun n => by
 induction n using Nat.strongRecOn with
 | _ n ih =>
  intro cs x h
  obtain ⟨hl, m, rfl, hf⟩ := fld Tryz.underlying24 h
  rw [ce25] at hl
  obtain ⟨⟨y0, y1, y2, y3⟩, hK, o0, o1, _, o3⟩ := f_cons 0 1 (opens_int Tryz.underlying3) ce3 (hf 0 _ rfl) (f_cons 1 1 (opens_int Tryz.underlying2) ce2 (hf 1 _ rfl) (f_cons 2 1 (opens_str Tryz.underlying9) ce9 (hf 2 _ rfl)
   (f_last 3 (opens_slice (e' := 24) Tryz.underlying22 ce25 (fun m' hm' => ih m' (by omega))) (by rw [ce23, hl]) (hf 3 _ rfl))))
  obtain ⟨_, _, e, rfl, _, _, rfl, rfl, _, _, rfl, rfl, A3, c3, rfl, l3, g3⟩ := hK
  rw [List.drop_zero] at e
  subst e
  exact ⟨⟨y0, y1, y2, y3⟩, k25_mk W ⟨y0, y1, y2, y3⟩ l3 g3, by rw [okS_eq]; exact ⟨wf64 o0, wf64 o1, okL_of o3⟩⟩
theorem opens121 : Opens enc W n 129 k121 (fun x => okL x.f1) := fun cs x h => by
 obtain ⟨hl, m, rfl, hf⟩ := fld Tryz.underlying129 h
 rw [ce121] at hl
 obtain ⟨⟨y0, y1⟩, hK, _, o1⟩ := f_cons 0 1 (opens_str Tryz.underlying9) ce9 (hf 0 _ rfl) (f_last 1 (opens_slice (e' := 24) Tryz.underlying22 ce25 (fun m' _ => opens25 m')) (by rw [ce23, hl]) (hf 1 _ rfl))
 rw [List.drop_zero] at hK
 exact ⟨⟨y0, y1⟩, hK, okL_of o1⟩
theorem opens28 : Opens enc W n 27 k28 (fun x => okS x.f1) := fun cs x h => by
 obtain ⟨hl, m, rfl, hf⟩ := fld Tryz.underlying27 h
 rw [ce28] at hl
 obtain ⟨⟨y0, y1, y2⟩, hK, _, o1, _⟩ := f_cons 0 1 (opens_str Tryz.underlying9) ce9 (hf 0 _ rfl) (f_cons 1 4 (opens25 m) ce25 (hf 1 _ rfl) (f_last 5 (opens_slice (e' := 3) (d := Kd.int .i64) Tryz.underlying25 ce3 (fun m' _ => opens_int Tryz.underlying3)) (by rw [ce26, hl]) (hf 2 _ rfl)))
 rw [List.drop_zero] at hK
 exact ⟨⟨y0, y1, y2⟩, hK, o1⟩
theorem opens108 : Opens enc W n 111 k108 (fun x => 0 ≤ x.f1 ∧ x.f1 ≤ 4294967295) := fun cs x h => by
 obtain ⟨hl, m, rfl, hf⟩ := fld Tryz.underlying111 h
 rw [ce108] at hl
 obtain ⟨⟨y0, y1⟩, hK, _, o1⟩ := f_cons 0 1 (opens_int Tryz.underlying3) ce3 (hf 0 _ rfl) (f_last 1 (opens_int Tryz.underlying31) (by rw [ce32, hl]) (hf 1 _ rfl))
 rw [List.drop_zero] at hK
 exact ⟨⟨y0, y1⟩, hK, wf32 o1⟩
def kSt : Kd (Int × List S121) := Kd.pair (Kd.int .i64) (Kd.slice 129 k121)
def kDl : Kd (Int × List S121 × List ByteArray) := Kd.pair (Kd.int .i64) (Kd.pair (Kd.slice 129 k121) (Kd.slice 9 Kd.string))
def kSg : Kd (Int × Int × Int × Int × (Int × List S121) × (Int × List S121 × List ByteArray) × List (List S28) × List S28) :=
 Kd.pair (Kd.int .i64) (Kd.pair (Kd.int .i64) (Kd.pair (Kd.int .i64) (Kd.pair (Kd.int .u32) (Kd.pair kSt (Kd.pair kDl (Kd.pair (Kd.slice 36 (Kd.slice 27 k28)) (Kd.slice 27 k28)))))))
def kMn : Kd (Int × Int × List S108) := Kd.pair (Kd.int .i64) (Kd.pair (Kd.int .u32) (Kd.slice 111 k108))
def kRw : Kd (Int × S28) := Kd.pair (Kd.int .i64) k28
theorem opens31 : Opens enc W n 30 kSt (fun y => ∀ x ∈ y.2, okL x.f1) := fun cs x h => by
 obtain ⟨hl, m, rfl, hf⟩ := fld Tryz.underlying30 h
 rw [ce31] at hl
 obtain ⟨y, hK, _, o1⟩ := f_cons 0 1 (opens_int Tryz.underlying3) ce3 (hf 0 _ rfl) (f_last 1 (opens_slice (e' := 129) Tryz.underlying28 ce121 (fun m' _ => opens121)) (by rw [ce29, hl]) (hf 1 _ rfl))
 rw [List.drop_zero] at hK
 exact ⟨y, hK, o1⟩
theorem opens35 : Opens enc W n 34 kDl (fun y => ∀ x ∈ y.2.1, okL x.f1) := fun cs x h => by
 obtain ⟨hl, m, rfl, hf⟩ := fld Tryz.underlying34 h
 rw [ce35] at hl
 obtain ⟨y, hK, _, o1, _⟩ := f_cons 0 1 (opens_int Tryz.underlying3) ce3 (hf 0 _ rfl) (f_cons 1 1 (opens_slice (e' := 129) Tryz.underlying28 ce121 (fun m' _ => opens121)) ce29 (hf 1 _ rfl) (f_last 2 (opens_slice (e' := 9) (d := Kd.string) Tryz.underlying32 ce9 (fun m' _ => opens_str Tryz.underlying9)) (by rw [ce33, hl]) (hf 2 _ rfl)))
 rw [List.drop_zero] at hK
 exact ⟨y, hK, o1⟩
theorem opens37 : Opens enc W n 36 (Kd.slice 27 k28) (fun l => ∀ x ∈ l, okS x.f1) := opens_slice Tryz.underlying36 ce28 (fun m' _ => opens28)
def SgOk (y : Int × Int × Int × Int × (Int × List S121) × (Int × List S121 × List ByteArray) × List (List S28) × List S28) : Prop :=
 (0 ≤ y.2.2.2.1 ∧ y.2.2.2.1 ≤ 4294967295) ∧ (∀ x ∈ y.2.2.2.2.1.2, okL x.f1) ∧ (∀ x ∈ y.2.2.2.2.2.1.2.1, okL x.f1) ∧ (∀ l ∈ y.2.2.2.2.2.2.1, ∀ x ∈ l, okS x.f1) ∧ ∀ x ∈ y.2.2.2.2.2.2.2, okS x.f1
theorem opens39 : Opens enc W n 38 kSg SgOk := fun cs x h => by
 obtain ⟨hl, m, rfl, hf⟩ := fld Tryz.underlying38 h
 rw [ce39] at hl
 obtain ⟨y, hK, _, _, _, o1, o2, o3, o4, o5⟩ := f_cons 0 1 (opens_int Tryz.underlying3) ce3 (hf 0 _ rfl) (f_cons 1 1 (opens_int Tryz.underlying3) ce3 (hf 1 _ rfl) (f_cons 2 1 (opens_int Tryz.underlying3) ce3 (hf 2 _ rfl) (f_cons 3 1 (opens_int Tryz.underlying31) ce32 (hf 3 _ rfl)
  (f_cons 4 2 opens31 ce31 (hf 4 _ rfl) (f_cons 6 3 opens35 ce35 (hf 5 _ rfl) (f_cons 9 1 (opens_slice (e' := 36) (d := Kd.slice 27 k28) Tryz.underlying35 ce37 (fun m' _ => opens37)) ce36 (hf 6 _ rfl) (f_last 10 opens37 (by rw [ce37, hl]) (hf 7 _ rfl))))))))
 rw [List.drop_zero] at hK
 exact ⟨y, hK, wf32 o1, o2, o3, o4, o5⟩
theorem opens42 : Opens enc W n 41 kMn (fun y => (0 ≤ y.2.1 ∧ y.2.1 ≤ 4294967295) ∧ ∀ x ∈ y.2.2, 0 ≤ x.f1 ∧ x.f1 ≤ 4294967295) := fun cs x h => by
 obtain ⟨hl, m, rfl, hf⟩ := fld Tryz.underlying41 h
 rw [ce42] at hl
 obtain ⟨y, hK, _, o1, o2⟩ := f_cons 0 1 (opens_int Tryz.underlying3) ce3 (hf 0 _ rfl) (f_cons 1 1 (opens_int Tryz.underlying31) ce32 (hf 1 _ rfl) (f_last 2 (opens_slice (e' := 111) Tryz.underlying39 ce108 (fun m' _ => opens108)) (by rw [ce40, hl]) (hf 2 _ rfl)))
 rw [List.drop_zero] at hK
 exact ⟨y, hK, wf32 o1, o2⟩
theorem opens44 : Opens enc W n 43 kRw (fun y => okS y.2.f1) := fun cs x h => by
 obtain ⟨hl, m, rfl, hf⟩ := fld Tryz.underlying43 h
 rw [ce44] at hl
 obtain ⟨y, hK, _, o1⟩ := f_cons 0 1 (opens_int Tryz.underlying3) ce3 (hf 0 _ rfl) (f_last 1 opens28 (by rw [ce28, hl]) (hf 1 _ rfl))
 rw [List.drop_zero] at hK
 exact ⟨y, hK, o1⟩
theorem thing_in {cs : List Value} {x : DataW H × List MemPlace} (h : DataW.trod enc Tryz.prog W 0 (fun _ => true) true n 45 cs = some x) :
  ∃ (t : Thg) (a1 a2 a3 a4 a5 a6 a7 a8 a9 a10 a11 : Option Addr) (c1 c2 c3 c4 c5 c6 c7 c8 c9 c10 c11 : Nat), cs = [.int .i64 t.kind, .string t.r.f0, .int .i64 t.r.f1.f0, .int .i64 t.r.f1.f1, .string t.r.f1.f2, .slice a1 t.r.f1.f3.length c1, .slice a2 t.r.f2.length c2, .int .i64 t.sn, .slice a3 t.sc.length c3,
   .int .i64 t.g.id, .int .i64 t.g.task, .int .i64 t.g.base, .int .u32 t.g.sum, .int .i64 t.g.snum, .slice a4 t.g.cells.length c4, .int .i64 t.g.dnum, .slice a5 t.g.set.length c5, .slice a6 t.g.gone.length c6, .slice a7 t.g.logs.length c7, .slice a8 t.g.pend.length c8,
   .int .i64 t.mi, .int .u32 t.ms, .slice a9 t.mr.length c9, .int .i64 t.oa, .string t.ox.f0, .int .i64 t.ox.f1.f0, .int .i64 t.ox.f1.f1, .string t.ox.f1.f2, .slice a10 t.ox.f1.f3.length c10, .slice a11 t.ox.f2.length c11] ∧
   ThIn W t a1 a2 a3 a4 a5 a6 a7 a8 a9 a10 a11 c1 c2 c3 c4 c5 c6 c7 c8 c9 c10 c11 ∧ t.Ok := by
 obtain ⟨hl, m, rfl, hf⟩ := fld Tryz.underlying45 h
 rw [ce46] at hl
 obtain ⟨⟨y0, r, st, g, mn, rw⟩, hK, _, o1, o2, o3, o4, o5⟩ := f_cons 0 1 (opens_int Tryz.underlying3) ce3 (hf 0 _ rfl) (f_cons 1 6 opens28 ce28 (hf 1 _ rfl) (f_cons 7 2 opens31 ce31 (hf 2 _ rfl) (f_cons 9 11 opens39 ce39 (hf 3 _ rfl) (f_cons 20 3 opens42 ce42 (hf 4 _ rfl) (f_last 23 opens44 (by rw [ce44, hl]) (hf 5 _ rfl))))))
 obtain ⟨sn, sc⟩ := st
 obtain ⟨id, task, base, sum, ⟨snum, cells⟩, ⟨dnum, set_, gone⟩, logs, pend⟩ := g
 obtain ⟨mi, ms, mr⟩ := mn
 obtain ⟨oa, ox⟩ := rw
 obtain ⟨p0, q0, e, k0, p1, q1, e1, k1, p2, q2, e2, k2, p3, q3, e3, k3, p4, q4, e4, k4, k5⟩ := hK
 obtain ⟨a1, c1, a2, c2, f1, l1, i1, l2, i2⟩ := k28_open k1
 obtain ⟨_, _, f2, rfl, a3, c3, rfl, l3, i3⟩ := k2
 obtain ⟨_, _, f3, rfl, _, _, rfl, rfl, _, _, rfl, rfl, _, _, rfl, rfl, _, _, rfl, ⟨_, _, rfl, rfl, a4, c4, rfl, l4, i4⟩, _, _, rfl, ⟨_, _, rfl, rfl, _, _, rfl, ⟨a5, c5, rfl, l5, i5⟩, a6, c6, rfl, l6, i6⟩, _, _, rfl, ⟨a7, c7, rfl, l7, i7⟩, a8, c8, rfl, l8, i8⟩ := k3
 obtain ⟨_, _, f4, rfl, _, _, rfl, rfl, a9, c9, rfl, l9, i9⟩ := k4
 obtain ⟨_, _, f5, rfl, k5⟩ := k5
 obtain ⟨a10, c10, a11, c11, f6, l10, i10, l11, i11⟩ := k28_open k5
 obtain ⟨w1, w2, w3, w4, w5⟩ := o3
 rw [List.drop_zero] at e
 refine ⟨⟨y0, r, sn, sc, ⟨id, task, base, sum, snum, cells, dnum, set_, gone, logs, pend⟩, mi, ms, mr, oa, ox⟩, a1, a2, a3, a4, a5, a6, a7, a8, a9, a10, a11, c1, c2, c3, c4, c5, c6, c7, c8, c9, c10, c11, ?_,
  ⟨i1, i2, i3, i4, i5, i6, i7, i8, i9, i10, i11, l1, l2, l3, l4, l5, l6, l7, l8, l9, l10, l11⟩, ⟨o1, o2, ⟨w1, w2, w3, w4, w5⟩, o4.1, o4.2, o5⟩⟩
 have k0' : p0 = [.int .i64 y0] := k0
 rw [e, k0', e1, f1, e2, f2, e3, f3, e4, f4, f5, f6]
 rfl
theorem thing_arg {v : Value} {d : DataW H} {ps : List MemPlace} (h : DataW.Trod enc Tryz.prog W 0 (fun _ => true) true 45 v d ps) :
  ∃ (t : Thg) (a1 a2 a3 a4 a5 a6 a7 a8 a9 a10 a11 : Option Addr) (c1 c2 c3 c4 c5 c6 c7 c8 c9 c10 c11 : Nat), v = .agg #[.int .i64 t.kind, .string t.r.f0, .int .i64 t.r.f1.f0, .int .i64 t.r.f1.f1, .string t.r.f1.f2, .slice a1 t.r.f1.f3.length c1, .slice a2 t.r.f2.length c2, .int .i64 t.sn, .slice a3 t.sc.length c3,
   .int .i64 t.g.id, .int .i64 t.g.task, .int .i64 t.g.base, .int .u32 t.g.sum, .int .i64 t.g.snum, .slice a4 t.g.cells.length c4, .int .i64 t.g.dnum, .slice a5 t.g.set.length c5, .slice a6 t.g.gone.length c6, .slice a7 t.g.logs.length c7, .slice a8 t.g.pend.length c8,
   .int .i64 t.mi, .int .u32 t.ms, .slice a9 t.mr.length c9, .int .i64 t.oa, .string t.ox.f0, .int .i64 t.ox.f1.f0, .int .i64 t.ox.f1.f1, .string t.ox.f1.f2, .slice a10 t.ox.f1.f3.length c10, .slice a11 t.ox.f2.length c11] ∧
   ThIn W t a1 a2 a3 a4 a5 a6 a7 a8 a9 a10 a11 c1 c2 c3 c4 c5 c6 c7 c8 c9 c10 c11 ∧ t.Ok := by
 obtain ⟨n, h⟩ := h
 obtain ⟨t, a1, a2, a3, a4, a5, a6, a7, a8, a9, a10, a11, c1, c2, c3, c4, c5, c6, c7, c8, c9, c10, c11, e, i, o⟩ := thing_in h
 refine ⟨t, a1, a2, a3, a4, a5, a6, a7, a8, a9, a10, a11, c1, c2, c3, c4, c5, c6, c7, c8, c9, c10, c11, ?_, i, o⟩
 cases v with
 | agg cs =>
  have e' : cs.toList = _ := e
  congr 1
  rw [← Array.toList_inj, e']
 | _ =>
  have h1 := congrArg List.length e
  simp [Value.cells] at h1
end
end Go.Proofs.YthmkioodkldgbaaGreat.DK
