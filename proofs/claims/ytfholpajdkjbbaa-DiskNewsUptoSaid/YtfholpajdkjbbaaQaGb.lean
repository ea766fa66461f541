/- Parts P5, P6, P7, Shelf, P8, P9 of this work, in one text. -/
import Derived.Test.YtfholpajdkjbbaaQaGa
import Derived.Test.YtfholpajdkjbbaaProg
import Derived.Shelf.Sort.Plain
import Derived.Shelf.Slices.In.SortNone
import Derived.Sort.OwnSorted
import Derived.Sort.KeysCollected
/- The program's disk: Append; conditions: those in each theorem. -/
namespace Go.Proofs.Ytfholpajdkjbbaa.DK
open Go.RowKit Go.Proofs.YtfholpajdkjbbaaW.PrintWords Go.Proofs.YtfholpajdkjbbaaW.PrintLast Go.Proofs.YtfholpajdkjbbaaW.PrintMore Go.Proofs.Ytfholpajdkjbbaa.Mo
set_option linter.unusedVariables false
set_option linter.unusedSimpArgs false
end Go.Proofs.Ytfholpajdkjbbaa.DK
/- The program's disk: Sync, Trim, Remove, and change beneath them; conditions: those in each theorem. -/
namespace Go.Proofs.Ytfholpajdkjbbaa.DK
open Go.RowKit Go.Proofs.YtfholpajdkjbbaaW.PrintWords Go.Proofs.YtfholpajdkjbbaaW.PrintLast Go.Proofs.YtfholpajdkjbbaaW.PrintMore Go.Proofs.Ytfholpajdkjbbaa.Mo
set_option linter.unusedVariables false
set_option linter.unusedSimpArgs false
/-- What the function handed to change does. -/
def Does (k : Nat) (caps : Array Value) (w : World) (p : Nat) (X : Nat → Prop) (l : List F) (nm : ByteArray) (gm : List F → List F) : Prop :=
  ∀ w2 s2 mb q dv f, Upd X w w2 → PDisk w2 p (More X w w2) s2 mb q dv → s2.all = l → find l nm = some f → Calls Try.prog k (#[.pointer (some ⟨q f.name, 0, none⟩)] ++ caps) w2 fun e w' => e = .returned (.tuple #[]) ∧ PStep p (More X w w2) w2 w' { s2 with all := gm s2.all }
theorem Does.at_ {k : Nat} {caps : Array Value} {w : World} {p : Nat} {X : Nat → Prop} {l : List F} {nm : ByteArray} {gm : List F → List F} (h : Does k caps w p X l nm gm) {w1 w2 : World} {s2 : St} {mb : Nat} {q : ByteArray → Nat} {dv : ByteArray → Value} {f : F}
    (h1 : Upd X w w1) (h2 : Upd (More X w w1) w1 w2) (hd : PDisk w2 p (More (More X w w1) w1 w2) s2 mb q dv) (hl : s2.all = l) (hf : find l nm = some f) {args : Array Value} (ha : #[.pointer (some ⟨q f.name, 0, none⟩)] ++ caps = args) :
    Calls Try.prog k args w2 fun e w' => e = .returned (.tuple #[]) ∧ PStep p (More X w w2) w2 w' { s2 with all := gm s2.all } := by
  subst ha
  exact h w2 s2 mb q dv f (h1.more h2) (hd.mono (fun k hk => (More.trans h1.size h2.size k).1 hk) (fun k hk => hd.bd k ((More.trans h1.size h2.size k).2 hk))) hl hf
end Go.Proofs.Ytfholpajdkjbbaa.DK
/- The program's disk: what Sync, Trim and Remove hand to change, and they themselves; conditions: those in each theorem. -/
namespace Go.Proofs.Ytfholpajdkjbbaa.DK
open Go.RowKit Go.Proofs.YtfholpajdkjbbaaW.PrintWords Go.Proofs.YtfholpajdkjbbaaW.PrintLast Go.Proofs.YtfholpajdkjbbaaW.PrintMore Go.Proofs.Ytfholpajdkjbbaa.Mo
set_option linter.unusedVariables false
set_option linter.unusedSimpArgs false
attribute [local go_sem] max2_int min2_int max_two min_two
end Go.Proofs.Ytfholpajdkjbbaa.DK
/-
  DERIVED: THE SHELF's CONTRACTS AT THIS DUMP, IN PLAIN WORDS (tools/lay-plain.mjs out of 'YtfholpajdkjbbaaSh0.lean', which tools/lay-shelf.mjs wrote): THE SAME DECLARATIONS UNDER THE SAME NAMES: 'import', 'namespace', 'open', 'def', 'theorem' AND NOTHING ELSE: no command of the shelf's: FOR A HAND-IN. Each laying: the table of numbers ('.._ren') and one theorem, a field a fact of the dump's own or the kernel's comparison; each contract: ONE APPLICATION.
-/
namespace Go.Proofs
open Go.Shelf
def Try.lays190_ren : Go.Shelf.Ren := ⟨fun | 190 => 62 | 125 => 77 | 258 => 76 | 128 => 88 | 129 => 89 | 302 => 79 | 303 => 80 | 304 => 81 | 305 => 82 | 306 => 83 | 307 => 84 | 308 => 85 | 309 => 86 | 310 => 87 | 333 => 90 | 329 => 91 | 330 => 92 | 334 => 93 | 335 => 94 | 336 => 95 | 344 => 96 | n => n, fun | 31 => 45 | 9 => 9 | 3 => 3 | 46 => 110 | 0 => 0 | 51 => 122 | 53 => 124 | 4 => 4 | 183 => 114 | 182 => 113 | 131 => 119 | 5 => 5 | 218 => 125 | 222 => 129 | 228 => 131 | 229 => 92 | n => n, fun | n => n⟩
theorem Try.lays190 : Go.Proofs.Lays.n190 Try.prog Try.lays190_ren := {
  mixed := by kernel_rfl
  f125 := Try.func77.trans (congrArg some (by kernel_rfl))
  f128 := Try.func88.trans (congrArg some (by kernel_rfl))
  f129 := Try.func89.trans (congrArg some (by kernel_rfl))
  f190 := Try.func62.trans (congrArg some (by kernel_rfl))
  f258 := Try.func76.trans (congrArg some (by kernel_rfl))
  f302 := Try.func79.trans (congrArg some (by kernel_rfl))
  f303 := Try.func80.trans (congrArg some (by kernel_rfl))
  f304 := Try.func81.trans (congrArg some (by kernel_rfl))
  f305 := Try.func82.trans (congrArg some (by kernel_rfl))
  f306 := Try.func83.trans (congrArg some (by kernel_rfl))
  f307 := Try.func84.trans (congrArg some (by kernel_rfl))
  f308 := Try.func85.trans (congrArg some (by kernel_rfl))
  f309 := Try.func86.trans (congrArg some (by kernel_rfl))
  f310 := Try.func87.trans (congrArg some (by kernel_rfl))
  f329 := Try.func91.trans (congrArg some (by kernel_rfl))
  f330 := Try.func92.trans (congrArg some (by kernel_rfl))
  f333 := Try.func90.trans (congrArg some (by kernel_rfl))
  f334 := Try.func93.trans (congrArg some (by kernel_rfl))
  f335 := Try.func94.trans (congrArg some (by kernel_rfl))
  f336 := Try.func95.trans (congrArg some (by kernel_rfl))
  f344 := Try.func96.trans (congrArg some (by kernel_rfl))
  t0 := Try.underlying0
  a0 := Try.isAgg0
  z0 := Try.sizeOf0
  v0 := Try.zeroValue0
  t3 := Try.underlying3
  a3 := Try.isAgg3
  z3 := Try.sizeOf3
  v3 := Try.zeroValue3
  t4 := Try.underlying4
  a4 := Try.isAgg4
  z4 := Try.sizeOf4
  v4 := Try.zeroValue4
  t5 := Try.underlying5
  a5 := Try.isAgg5
  z5 := Try.sizeOf5
  v5 := Try.zeroValue5
  t9 := Try.underlying9
  a9 := Try.isAgg9
  z9 := Try.sizeOf9
  v9 := Try.zeroValue9
  t31 := Try.underlying45
  a31 := Try.isAgg45
  z31 := Try.sizeOf45
  v31 := Try.zeroValue45
  t46 := Try.underlying110
  a46 := Try.isAgg110
  z46 := Try.sizeOf110
  v46 := Try.zeroValue110
  t51 := Try.underlying122
  a51 := Try.isAgg122
  z51 := Try.sizeOf122
  v51 := Try.zeroValue122
  t53 := Try.underlying124
  a53 := Try.isAgg124
  z53 := Try.sizeOf124
  v53 := Try.zeroValue124
  t131 := Try.underlying119
  a131 := Try.isAgg119
  z131 := Try.sizeOf119
  v131 := Try.zeroValue119
  t182 := Try.underlying113
  a182 := Try.isAgg113
  z182 := Try.sizeOf113
  v182 := Try.zeroValue113
  t183 := Try.underlying114
  a183 := Try.isAgg114
  z183 := Try.sizeOf114
  v183 := Try.zeroValue114
  t218 := Try.underlying125
  a218 := Try.isAgg125
  z218 := Try.sizeOf125
  v218 := Try.zeroValue125
  t222 := Try.underlying129
  a222 := Try.isAgg129
  z222 := Try.sizeOf129
  v222 := Try.zeroValue129
  t228 := Try.underlying131
  a228 := Try.isAgg131
  z228 := Try.sizeOf131
  v228 := Try.zeroValue131
  t229 := Try.underlying92
  a229 := Try.isAgg92
  z229 := Try.sizeOf92
  v229 := Try.zeroValue92 }
end Go.Proofs
/- The program's disk: the sorted names; conditions: those in each theorem. -/
namespace Go.Proofs.Ytfholpajdkjbbaa.DK
open Go.RowKit Go.Proofs.YtfholpajdkjbbaaW.PrintWords Go.Proofs.YtfholpajdkjbbaaW.PrintLast Go.Proofs.YtfholpajdkjbbaaW.PrintMore Go.Proofs.Ytfholpajdkjbbaa.Mo
set_option linter.unusedVariables false
set_option linter.unusedSimpArgs false
theorem enc_data (b : ByteArray) : encStr b.data.toList = .string b := by
  cases b
  rfl
theorem sorted_eq {ns l0 : List ByteArray} (hp : ns.Perm l0) (hs : l0.Pairwise fun a b => lt a b = true) : (ns.map (·.data.toList)).mergeSort (fun x y => decide (x ≤ y)) = l0.map (·.data.toList) := by
  have h1 : (ns.map (·.data.toList)).mergeSort leB = (l0.map (·.data.toList)).mergeSort leB := mergeSort_of_perm (hp.map _)
  have h2 : (l0.map (·.data.toList)).mergeSort leB = l0.map (·.data.toList) := by
    refine List.mergeSort_of_pairwise (List.pairwise_map.2 (hs.imp (fun {a b} hab => ?_)))
    exact decide_eq_true (List.le_of_lt (of_decide_eq_true hab))
  exact h1.trans h2
theorem sort_calls (w : World) (v : Value) (ns l0 : List ByteArray) (base : Nat) (h : Kd.string.R 9 w base (fun _ => True) v ns) (hl : ns.length ≤ 2 ^ 40) (hp : ns.Perm l0) (hs : l0.Pairwise fun a b => lt a b = true) :
    Calls Try.prog 62 #[v] w fun e w' => e = .returned (.tuple #[]) ∧ Kd.string.R 9 w' base (fun _ => True) v l0 ∧ Upd (fun k => v.ownBlock = some k) w w' := by
  have ho : w.ownsRow base 9 1 v ns.length (ns.map Value.string) := Kd.own_of_R h
  obtain ⟨hil, hh⟩ := ho
  rcases hh with ⟨rfl, h0⟩ | ⟨g, cap, cur, rfl, hbase, hg, h1, h2, h3, h4⟩
  · have : ns = [] := List.eq_nil_of_length_eq_zero h0
    subst this
    obtain rfl : l0 = [] := hp.nil_eq.symm
    refine Calls.mono (show Calls Try.prog 62 #[.slice none 0 0] w fun e w' => e = .returned (.tuple #[]) ∧ w' = w from calls_of_every_depth fun D => AnyS.slices_Sort_string_none_in Try.lays190 D none 0 w) ?_
    rintro e w' ⟨rfl, rfl⟩
    exact ⟨rfl, Kd.R_nil _ _ _ _ _, Upd.refl _ _⟩
  · have e1 : ns.map Value.string = (ns.map (·.data.toList)).map encStr := by
      rw [List.map_map]
      exact List.map_congr_left (fun b _ => (enc_data b).symm)
    have hlen : (ns.map (·.data.toList)).length = ns.length := List.length_map _
    have hHolds := holds_of_block (ss := ns.map (·.data.toList)) hg (by rw [hlen, ← e1, ← h4, Nat.mul_one])
    have hC := Any.slices_Sort_string Try.lays190 g 0 cap (ns.map (·.data.toList)) w hHolds (blk_lt hg) (by rw [hlen]; omega)
    rw [hlen] at hC
    refine Calls.mono (show Calls Try.prog 62 #[.slice (some ⟨g, 0, none⟩) ns.length cap] w _ from hC) ?_
    rintro e w' ⟨rfl, k, os, rfl⟩
    rw [sorted_eq hp hs]
    refine ⟨rfl, ?_, ?_⟩
    · have ho2 := ownsRow_sorted (n := k) (os := os) (ss := ns.map (·.data.toList)) (ts := l0.map (·.data.toList)) (by rw [hlen, List.length_map, hp.length_eq]) hbase hg (by rw [hlen]; exact h1) h2 h3
      rw [hlen, hp.length_eq] at ho2
      have e2 : (l0.map (·.data.toList)).map encStr = l0.map Value.string := by
        rw [List.map_map]
        exact List.map_congr_left (fun b _ => enc_data b)
      rw [e2] at ho2
      rw [hp.length_eq]
      exact Kd.R_of_own ho2 (fun _ _ => trivial)
    · have hgr := grownBy_sorted (w := w) (g := g) (n := k) (os := os) (l0.map (·.data.toList)).toArray
      exact (Upd.refl _ w).grown hgr (fun b hb => .inl (by simpa [Value.ownBlock] using hb))
/-! ### what a range over the map has met -/
/-- The entries that were met, in their order, and their names. -/
structure Met (w : World) (it mb : Nat) (es : Array MapEntry) (clock : Nat) (sl : List MapEntry) : Prop where
  hit : w.heap[it]? = some (.mapIter (some mb) clock (sl.map (·.born)).toArray clock)
  hmb : w.heap[mb]? = some (.map es clock)
  nd : (sl.map (·.born)).Nodup
  sub : ∀ e ∈ sl, e ∈ es.toList
theorem next_run {w : World} {it mb : Nat} {es L : Array MapEntry} {clock since last : Nat} {seen : Array Nat} (hb : w.heap[it]? = some (.mapIter (some mb) since seen last)) (hm : w.heap[mb]? = some (.map es clock)) (T : TypeId)
    (h1 : (!seen.isEmpty && !es.isEmpty && es.all (·.born ≥ last)) = false) (h2 : es.filter (fun e => !seen.contains e.born) = L) (h3 : L.filter (·.born < since) = L) (h4 : L.filter (·.born ≥ since) = #[]) :
    (L = #[] ∧ (Instr.next (.pointer (some ⟨it, 0, none⟩)) false T).run Try.prog w = .ok (.tuple #[.bool false]) w) ∨
    ∃ e n, e ∈ L ∧ (Instr.next (.pointer (some ⟨it, 0, none⟩)) false T).run Try.prog w = .ok (.tuple #[.bool true, e.key, e.val]) (putObj (w.drewN n) it (.mapIter (some mb) since (seen.push e.born) clock)) := by
  have hgo : (Instr.next (.pointer (some ⟨it, 0, none⟩)) false T).run Try.prog w = ((do
      match ((if L.isEmpty then #[none] else #[]) ++ (L ++ #[]).map some)[← choose (.mapNext ((if L.isEmpty then #[none] else #[]) ++ (L ++ #[]).map some).size)]? with
      | some (some e) => do
        setObj it (.mapIter (some mb) since (seen.push e.born) clock)
        pure (.tuple #[.bool true, e.key, e.val])
      | some none => pure (.tuple #[.bool false])
      | none => stuck "Next: no such candidate" : Sem Value)).run Try.prog w := by
    unfold Instr.next
    simp only [getObj, Sem.run_bind, Sem.run, hb, hm, Result.andThen_ok]
    simp only [h1, h2, h3, h4, Bool.false_eq_true, if_false, Sem.run_bind]
    rfl
  have hput : ∀ (n : Nat) (e : MapEntry), ((do setObj it (.mapIter (some mb) since (seen.push e.born) clock); pure (.tuple #[.bool true, e.key, e.val]) : Sem Value)).run Try.prog (w.drewN n) = .ok (.tuple #[.bool true, e.key, e.val]) (putObj (w.drewN n) it (.mapIter (some mb) since (seen.push e.born) clock)) := by
    intro n e
    simp [setObj, Sem.run, hb, putObj]
  by_cases hL : L = #[]
  · left
    refine ⟨hL, ?_⟩
    rw [hgo, hL]
    simp [choose, Sem.run, Question.forced]
  · right
    have hs : 0 < L.size := by
      rcases Nat.eq_zero_or_pos L.size with h0 | h0
      · exact absurd (by simpa using h0) hL
      · exact h0
    have he : L.isEmpty = false := by simpa using hL
    have ea : ((if L.isEmpty then #[none] else #[]) ++ (L ++ #[]).map some : Array (Option MapEntry)) = L.map some := by rw [he]; simp
    rw [hgo, ea]
    have hch : ∃ i n, i < L.size ∧ (choose (.mapNext (L.map some).size)).run Try.prog w = .ok i (w.drewN n) := by
      by_cases h1 : (L.map some).size ≤ 1
      · exact ⟨0, 0, hs, by simp [choose, Sem.run, Question.forced] at h1 ⊢; simp [h1]; rfl⟩
      · refine ⟨w.tape w.drawn (.mapNext (L.map some).size) % (L.map some).size, 1, ?_, ?_⟩
        · have := Nat.mod_lt (w.tape w.drawn (.mapNext (L.map some).size)) (show 0 < (L.map some).size by omega)
          simpa using this
        · simp [choose, Sem.run, Question.forced, Question.cut] at h1 ⊢
          rw [if_neg (by omega)]
          rfl
    obtain ⟨i, n, hi, hc⟩ := hch
    refine ⟨L[i], n, Array.getElem_mem hi, ?_⟩
    simp only [Sem.run_bind] at hc ⊢
    rw [hc]
    simp only [Result.andThen_ok]
    rw [show (L.map some)[i]? = some (some L[i]) by simp [hi]]
    exact hput n L[i]
theorem born_inj {l : List MapEntry} (hn : (l.map (·.born)).Nodup) {a b : MapEntry} (ha : a ∈ l) (hb : b ∈ l) (h : a.born = b.born) : a = b := by
  induction l with
  | nil => cases ha
  | cons x l ih =>
    rw [List.map_cons, List.nodup_cons] at hn
    rcases List.mem_cons.1 ha with rfl | ha
    · rcases List.mem_cons.1 hb with rfl | hb
      · rfl
      · exact absurd (by rw [h]; exact List.mem_map_of_mem (f := (·.born)) hb) hn.1
    · rcases List.mem_cons.1 hb with hb | hb
      · exact absurd (by rw [← hb, ← h]; exact List.mem_map_of_mem (f := (·.born)) ha) hn.1
      · exact ih hn.2 ha hb
theorem entry_run {w : World} {it mb : Nat} {es : Array MapEntry} {clock since : Nat} {seen : Array Nat} {stamp : Nat} {e : MapEntry} (hb : w.heap[it]? = some (.mapIter (some mb) since seen clock)) (hm : w.heap[mb]? = some (.map es clock)) (hs : seen.back? = some stamp) (hf : es.find? (fun x => x.born == stamp) = some e) :
    (Instr.entry (.pointer (some ⟨it, 0, none⟩))).run Try.prog w = .ok (.tuple #[e.key, e.val]) w := by
  simp [Instr.entry, getObj, Sem.run, hb, hm, hs, hf]
theorem nodup_len : ∀ (l m : List Nat), l.Nodup → (∀ x ∈ l, x ∈ m) → l.length ≤ m.length
  | [], _, _, _ => Nat.zero_le _
  | x :: l, m, hn, hs => by
    obtain ⟨h1, h2⟩ := List.nodup_cons.1 hn
    have hx := hs x List.mem_cons_self
    have := nodup_len l (m.erase x) h2 (fun y hy => (List.mem_erase_of_ne (fun e => h1 (by rw [← e]; exact hy))).2 (hs y (List.mem_cons_of_mem _ hy)))
    rw [List.length_erase_of_mem hx] at this
    have h3 : 0 < m.length := List.length_pos_of_mem hx
    rw [List.length_cons]
    omega
theorem met_next {w : World} {it mb : Nat} {es : Array MapEntry} {clock : Nat} {sl : List MapEntry} (h : Met w it mb es clock sl) (hbn : (es.toList.map (·.born)).Nodup) (hc : ∀ e ∈ es.toList, e.born < clock) (hne : mb ≠ it) (T : TypeId) :
    ((∀ e ∈ es.toList, e ∈ sl) ∧ (Instr.next (.pointer (some ⟨it, 0, none⟩)) false T).run Try.prog w = .ok (.tuple #[.bool false]) w) ∨
    ∃ e w', e ∈ es.toList ∧ (Instr.next (.pointer (some ⟨it, 0, none⟩)) false T).run Try.prog w = .ok (.tuple #[.bool true, e.key, e.val]) w' ∧ Met w' it mb es clock (sl ++ [e]) ∧ Upd (fun k => k = it) w w' ∧ (Instr.entry (.pointer (some ⟨it, 0, none⟩))).run Try.prog w' = .ok (.tuple #[e.key, e.val]) w' := by
  have h1 : (!(sl.map (·.born)).toArray.isEmpty && !es.isEmpty && es.all (·.born ≥ clock)) = false := by
    by_cases he : es.isEmpty = true
    · simp [he]
    · have : es.all (·.born ≥ clock) = false := by
        rw [Bool.eq_false_iff]
        intro ha
        rw [Array.all_eq_true_iff_forall_mem] at ha
        have hs : 0 < es.size := by
          rcases Nat.eq_zero_or_pos es.size with h0 | h0
          · exact absurd (by simpa using h0) he
          · exact h0
        have h2 := ha es[0] (Array.getElem_mem hs)
        have h3 := hc es[0] (Array.getElem_mem_toList hs)
        simp at h2
        omega
      simp [this]
  have hmem : ∀ e, e ∈ es.filter (fun e => !(sl.map (·.born)).toArray.contains e.born) → e ∈ es.toList ∧ e.born ∉ sl.map (·.born) := by
    intro e he
    rw [Array.mem_filter] at he
    refine ⟨Array.mem_toList_iff.2 he.1, ?_⟩
    have := he.2
    simpa using this
  have h3 : (es.filter (fun e => !(sl.map (·.born)).toArray.contains e.born)).filter (·.born < clock) = es.filter (fun e => !(sl.map (·.born)).toArray.contains e.born) := by
    rw [Array.filter_eq_self]
    intro e he
    exact decide_eq_true (hc e (hmem e he).1)
  have h4 : (es.filter (fun e => !(sl.map (·.born)).toArray.contains e.born)).filter (·.born ≥ clock) = #[] := by
    rw [Array.filter_eq_empty_iff]
    intro e he
    have := hc e (hmem e he).1
    simp
    omega
  rcases next_run h.hit h.hmb T h1 rfl h3 h4 with ⟨hL, hr⟩ | ⟨e, n, he, hr⟩
  · left
    refine ⟨fun e he => ?_, hr⟩
    rw [Array.filter_eq_empty_iff] at hL
    have h5 := hL e (Array.mem_toList_iff.1 he)
    have h6 : e.born ∈ sl.map (·.born) := by
      simp only [Bool.not_eq_true', Bool.not_eq_false] at h5
      simpa using h5
    obtain ⟨e', he', hb⟩ := List.mem_map.1 h6
    rw [← born_inj hbn (h.sub e' he') he hb]
    exact he'
  · right
    obtain ⟨h5, h6⟩ := hmem e he
    have hsl : ((sl ++ [e]).map (·.born)).toArray = (sl.map (·.born)).toArray.push e.born := by simp
    have hit' : (putObj (w.drewN n) it (.mapIter (some mb) clock ((sl.map (·.born)).toArray.push e.born) clock)).heap[it]? = some (.mapIter (some mb) clock ((sl.map (·.born)).toArray.push e.born) clock) := putObj_at (w := w.drewN n) h.hit
    have hu : Upd (fun k => k = it) w (putObj (w.drewN n) it (.mapIter (some mb) clock ((sl.map (·.born)).toArray.push e.born) clock)) := ((Upd.refl _ w).drewN n).trans (putObj_upd _ _ _) (fun _ h => h) (fun _ _ h => h)
    have hmb' := blk_upd h.hmb hu hne
    refine ⟨e, _, h5, hr, ⟨by rw [hsl]; exact hit', hmb', ?_, ?_⟩, hu, ?_⟩
    · rw [List.map_append, List.nodup_append]
      exact ⟨h.nd, by simp, fun a ha b hb => by simp at hb; subst hb; intro e2; subst e2; exact h6 ha⟩
    · intro x hx
      rcases List.mem_append.1 hx with hx | hx
      · exact h.sub x hx
      · simp at hx
        subst hx
        exact h5
    · have hfind : es.find? (fun x => x.born == e.born) = some e := by
        rw [← Array.find?_toList]
        have hs : (es.toList.find? (fun x => x.born == e.born)).isSome := by
          rw [List.find?_isSome]
          exact ⟨e, h5, by simp⟩
        obtain ⟨x, hx⟩ := Option.isSome_iff_exists.1 hs
        have hx1 := List.mem_of_find?_eq_some hx
        have hx2 := List.find?_some hx
        rw [hx, born_inj hbn hx1 h5 (by simpa using hx2)]
      exact entry_run hit' hmb' (by simp) hfind
def sliceLen : Value → Nat
  | .slice _ n _ => n
  | _ => 0
/-- What is known while the names are collected. -/
structure Coll (w wr : World) (it mb : Nat) (es : Array MapEntry) (clock : Nat) (v : Value) (sl : List MapEntry) (ns : List ByteArray) : Prop where
  met : Met wr it mb es clock sl
  row : Kd.string.R 9 wr w.heap.size (fun _ => True) v ns
  keys : sl.map (·.key) = ns.map Value.string
  bel : Below w.heap.size w wr
def CollE (w : World) (it mb : Nat) (es : Array MapEntry) (clock : Nat) (v : Value) (wr : World) : Prop := ∃ sl ns, Coll w wr it mb es clock v sl ns
theorem coll_le {w wr : World} {it mb : Nat} {es : Array MapEntry} {clock : Nat} {v : Value} {sl : List MapEntry} {ns : List ByteArray} (h : Coll w wr it mb es clock v sl ns) (hbn : (es.toList.map (·.born)).Nodup) : ns.length ≤ es.size := by
  have h1 : sl.length = ns.length := by have := congrArg List.length h.keys; simpa using this
  have h3 := nodup_len _ _ h.met.nd (fun x hx => by
    obtain ⟨e, he, rfl⟩ := List.mem_map.1 hx
    exact List.mem_map_of_mem (f := (·.born)) (h.met.sub e he))
  simp at h3
  omega
theorem coll_full {w wr : World} {it mb : Nat} {es : Array MapEntry} {clock : Nat} {v : Value} {sl : List MapEntry} {ns l0 : List ByteArray} {q : ByteArray → Nat} (h : Coll w wr it mb es clock v sl ns) (hbn : (es.toList.map (·.born)).Nodup) (hall : ∀ e ∈ es.toList, e ∈ sl)
    (hperm : (es.toList.map fun e => (e.key, e.val)).Perm (l0.map (ent q))) : ns.Perm l0 := by
  have hsn : sl.Nodup := by
    have := h.met.nd
    unfold List.Nodup at this ⊢
    rw [List.pairwise_map] at this
    exact this.imp (fun hab e => hab (by rw [e]))
  have hen : es.toList.Nodup := by
    unfold List.Nodup at hbn ⊢
    rw [List.pairwise_map] at hbn
    exact hbn.imp (fun hab e => hab (by rw [e]))
  have h1 : sl.Perm es.toList := (List.perm_ext_iff_of_nodup hsn hen).2 (fun e => ⟨h.met.sub e, hall e⟩)
  have h2 : (ns.map Value.string).Perm (l0.map Value.string) := by
    rw [← h.keys]
    refine (h1.map _).trans ?_
    have h3 := hperm.map Prod.fst
    rw [List.map_map, List.map_map] at h3
    exact h3
  have h4 := h2.map (fun v => match v with | .string b => b | _ => ByteArray.empty)
  rw [List.map_map, List.map_map] at h4
  have e : ∀ l : List ByteArray, l.map ((fun v => match v with | .string b => b | _ => ByteArray.empty) ∘ Value.string) = l := fun l => by
    conv => rhs; rw [← List.map_id l]
    rfl
  rwa [e, e] at h4
theorem collect_step {w wr w2 w3 : World} {it mb : Nat} {es : Array MapEntry} {clock : Nat} {u3 v1 : Value} {sl : List MapEntry} {ns : List ByteArray} {e : MapEntry} {nm : ByteArray} (h : Coll w wr it mb es clock u3 sl ns) (hm : Met w2 it mb es clock (sl ++ [e])) (hk : e.key = .string nm)
    (hown : ∀ k, u3.ownBlock = some k → k ≠ it ∧ k ≠ mb) (hb : Below w.heap.size w w3) (ho : Kd.string.R 9 w3 w.heap.size (fun _ => True) v1 (ns ++ [nm])) (hg : w2.grownBy w3 u3.ownBlock) : CollE w it mb es clock v1 w3 ∧ Coll w w3 it mb es clock v1 (sl ++ [e]) (ns ++ [nm]) := by
  have hc : Coll w w3 it mb es clock v1 (sl ++ [e]) (ns ++ [nm]) :=
    ⟨⟨blk_grown hm.hit hg (fun e2 => (hown it e2.symm).1 rfl), blk_grown hm.hmb hg (fun e2 => (hown mb e2.symm).2 rfl), hm.nd, hm.sub⟩, ho, by rw [List.map_append, List.map_append, h.keys]; simp [hk], hb⟩
  exact ⟨⟨_, _, hc⟩, hc⟩
set_option maxHeartbeats 2000000 in
set_option maxRecDepth 100000 in
theorem names_calls (w : World) (p : Nat) (X : Nat → Prop) (s : St) (h : Prog w p X s) (ok : Ok s) : Calls Try.prog 40 #[.pointer (some ⟨p, 0, none⟩)] w fun e w' => ∃ v, e = .returned v ∧ Kd.string.R 9 w' w.heap.size (fun _ => True) v (namesOf s.all) ∧ Below w.heap.size w w' := by
  obtain ⟨mb, q, dv, h⟩ := h
  have hp := h.head
  unfold diskCells at hp
  obtain ⟨es, clock, hmb, hperm, hnd, hbn, hbc⟩ := h.files.map
  have hmlt := blk_lt hmb
  have hrange : (Instr.range 74 (.map (some mb))).run Try.prog w = .ok (.pointer (some ⟨w.heap.size, 0, none⟩)) (w.alloc (.mapIter (some mb) clock #[] clock)) := by
    simp [Instr.range, run_underlying Try.underlying74, getObj, newObj, Sem.run, hmb]
  have HC0 := Aside0.mk (show CollE w w.heap.size mb es clock (.slice none 0 0) (w.alloc (.mapIter (some mb) clock #[] clock)) from ⟨[], [], ⟨heap_alloc_new w _, blk_alloc hmb _, List.nodup_nil, fun _ h => by cases h⟩, Kd.R_nil _ _ _ _ _, rfl, below_alloc (Below.refl _ _) _⟩)
  have c0 := blk_cell hp 0
  have c1 := blk_cell hp 1
  have c2 := blk_cell hp 2
  have c3 := blk_cell hp 3
  have c4 := blk_cell hp 4
  have c5 := blk_cell hp 5
  have fc0 := blk_frozen hp 0
  have fc1 := blk_frozen hp 1
  have fc2 := blk_frozen hp 2
  have fc3 := blk_frozen hp 3
  have fc4 := blk_frozen hp 4
  have fc5 := blk_frozen hp 5
  simp only [List.getElem?_toArray, List.getElem?_cons_succ, List.getElem?_cons_zero] at c0 c1 c2 c3 c4 c5
  have HN := Aside0.mk hbn
  have HBC := Aside0.mk hbc
  have HPE := Aside0.mk hperm
  have HS := Aside0.mk ok.sorted
  have HSZ := Aside0.mk (show es.size ≤ 400 by have := hperm.length_eq; simp at this; have := ok.few; omega)
  clear hp hmb hperm hnd hbn hbc
  go_enter Try.func40, Try.ntmps40
  go_wp2
  go_loopw [3] (fun v wr => CollE w w.heap.size mb es clock v wr) (fun v _ => es.size - sliceLen v)
  case atStart => exact HC0.out
  case round =>
    obtain ⟨sl, ns, hc⟩ := hrel
    have hle := coll_le hc HN.out
    have hsn : sliceLen u3 = ns.length := by
      obtain ⟨A, c, e⟩ := Kd.R_slice hc.row
      rw [e]
      rfl
    have HCO := Aside0.mk hc
    have HLE := Aside0.mk hle
    have HSN := Aside0.mk hsn
    rcases met_next hc.met HN.out HBC.out (Nat.ne_of_lt hmlt) 0 with ⟨hall, hnext⟩ | ⟨e, w2, he, hnext, hmet, hupd, hentry⟩
    · have HPR := Aside0.mk (coll_full hc HN.out hall HPE.out)
      have hsort := sort_calls wr u3 ns (namesOf s.all) w.heap.size hc.row (by have := HSZ.out; omega) HPR.out (List.pairwise_map.2 HS.out)
      have HSO := Aside0.mk hsort
      clear hc hle hsn hall hsort
      go_wp2_with (go_at_call 62; refine HSO.out.mono ?_; rintro e w' ⟨rfl, hR, hU⟩)
      go_ret
      refine ⟨_, rfl, hR, HCO.out.bel.trans (hU.below (HCO.out.bel.size) (fun k hk => Kd.R_base HCO.out.row k hk))⟩
    · obtain ⟨nm, hkey⟩ : ∃ nm, e.key = .string nm := by
        obtain ⟨n, _, h1, _⟩ := ent_mem HPE.out he
        exact ⟨n, h1⟩
      rw [hkey] at hnext hentry
      have HME := Aside0.mk hmet
      have HUP := Aside0.mk hupd
      have HK := Aside0.mk hkey
      clear hc hle hsn hmet hupd he
      generalize e.val = ev at *
      have hown : ∀ k, u3.ownBlock = some k → k ≠ w.heap.size ∧ k ≠ mb := fun k hk => by
        obtain ⟨cells, hcl⟩ := Kd.R_typed HCO.out.row k hk
        constructor
        · rintro rfl
          rw [HCO.out.met.hit] at hcl
          cases hcl
        · rintro rfl
          rw [HCO.out.met.hmb] at hcl
          cases hcl
      have HOW := Aside0.mk hown
      have HRW := Aside0.mk (Kd.R_mono (Kd.R_move (Kd.R_tight rfl HCO.out.row) (w1 := w2) (fun k hk => HUP.out.same k (Kd.R_lt HCO.out.row k hk.symm) (hown k hk.symm).1)) (fun _ _ => trivial))
      clear hown
      have HBL := Aside0.mk (HCO.out.bel.trans (HUP.out.below HCO.out.bel.size (fun k hk => by rw [hk]; exact Nat.le_refl _)))
      go_wp2_with ((with_reducible refine gate_builtin (b := .append) (xs := #[.tmp 14, .tmp 16]) rfl ?_); at_builtin; refine Kd.R_append Kd.string (w0 := w) (W := w2) w.heap.size rfl (.tmp 14) (.tmp 16) 45 9 (.string ⟨#[]⟩) 16 rfl Try.underlying45 PD.info9 rfl (by decide) (by decide) u3 ns nm [.string nm] (fun _ => True) (fun _ => False) rfl rfl rfl (fun _ h => h.elim) (fun _ _ => trivial) HRW.out HBL.out HBL.out.size (by have := HLE.out; have := HSZ.out; omega) ?_; intro v1 w3 ho hb hg hat; have HO := Aside0.mk ho; have HBB := Aside0.mk hb; have HG := Aside0.mk hg; clear ho hb hg hat)
      go_roundw
      case rel => exact (collect_step HCO.out HME.out HK.out HOW.out HBB.out HO.out HG.out).1
      case measure =>
        have h1 := coll_le (collect_step HCO.out HME.out HK.out HOW.out HBB.out HO.out HG.out).2 HN.out
        have h2 := HSN.out
        have h3 : sliceLen v1 = (ns ++ [nm]).length := by
          obtain ⟨A, c, e⟩ := Kd.R_slice HO.out
          rw [e]
          rfl
        rw [List.length_append] at h1 h3
        simp at h1 h3 ⊢
        omega
end Go.Proofs.Ytfholpajdkjbbaa.DK
/- The program's disk: List, Files; conditions: those in each theorem. -/
namespace Go.Proofs.Ytfholpajdkjbbaa.DK
open Go.Proofs.Ytfholpajdkjbbaa.PD
open Go.RowKit Go.Proofs.YtfholpajdkjbbaaW.PrintWords Go.Proofs.YtfholpajdkjbbaaW.PrintLast Go.Proofs.YtfholpajdkjbbaaW.PrintMore Go.Proofs.Ytfholpajdkjbbaa.Mo
set_option linter.unusedVariables false
set_option linter.unusedSimpArgs false
/-! ### Files -/
def to67 (x : ByteArray × List Int × Int) : S67 := ⟨x.1, x.2.1, x.2.2⟩
def files67 (s : St) : List S67 := s.files.map to67
theorem files67_len (s : St) : (files67 s).length = s.all.length := by simp [files67, St.files]
theorem files67_at (s : St) (i : Nat) (h : i < s.all.length) : (files67 s)[i]'(by rw [files67_len]; exact h) = ⟨(s.all[i]).name, (s.all[i]).data, ((s.all[i]).sure.length : Int)⟩ := by
  simp [files67, St.files, to67]
/-- What is known while the files are told. -/
structure Tell (w wr : World) (s : St) (vN v : Value) (i : Nat) : Prop where
  le : i ≤ s.all.length
  row : k67.R 67 wr w.heap.size (fun _ => True) v ((files67 s).take i)
  nms : Kd.string.R 9 wr w.heap.size (fun _ => True) vN (namesOf s.all)
  bel : Below w.heap.size w wr
def TellE (w : World) (s : St) (vN v iv : Value) (wr : World) : Prop := ∃ i : Nat, iv = .int .i64 i ∧ Tell w wr s vN v i
set_option maxHeartbeats 4000000 in
set_option maxRecDepth 100000 in
theorem files_calls (w : World) (p : Nat) (X : Nat → Prop) (s : St) (h : Prog w p X s) (ok : Ok s) : Calls Try.prog 18 #[.pointer (some ⟨p, 0, none⟩)] w fun e w' => ∃ v, e = .returned v ∧ k67.R 67 w' w.heap.size (fun _ => True) v (files67 s) ∧ Below w.heap.size w w' := by
  have HN := Aside0.mk (names_calls w p X s h ok)
  have HH := Aside0.mk h
  have OK := Aside0.mk ok
  have hlen : s.all.length ≤ 400 := ok.few
  clear h ok
  go_enter Try.func18, Try.ntmps18
  go_wp2_with (go_at_call 40; refine HN.out.mono ?_; rintro e w1 ⟨v, rfl, hR, hB⟩; obtain ⟨A, c, rfl, hc, _⟩ := Kd.R_reads hR; rw [show (namesOf s.all).length = s.all.length from List.length_map _] at hR ⊢; have HR := Aside0.mk hR; have HB := Aside0.mk hB; clear hR hB hc)
  go_loopw [3, 10] (fun v iv wr => TellE w s (.slice A s.all.length c) v iv wr) (fun _ iv _ => s.all.length - (intOf iv).toNat)
  case atStart => exact ⟨0, rfl, Nat.zero_le _, Kd.R_nil _ _ _ _ _, HR.out, HB.out⟩
  case round =>
    obtain ⟨i, rfl, ht⟩ := hrel
    have HT := Aside0.mk ht
    by_cases hlt : i < s.all.length
    · obtain ⟨mb, q, dv, h0⟩ := HH.out
      have h1 := h0.upd (Y := fun _ => False) (Upd.of_below ht.bel _) (fun _ _ h => h)
      have hfm : s.all[i] ∈ s.all := List.getElem_mem hlt
      have hfind := find_of_mem h1.files.nodup hfm
      have hlook := h1.see_some hfind
      have hfile := h1.files.file _ hfm
      have hrow := h1.files.row _ hfm
      have hsm := OK.out.small _ hfm
      have hat := files67_at s i hlt
      have HAT := Aside0.mk hat
      obtain ⟨g, cap, he, _⟩ := Kd.R_form ht.nms (by rw [List.length_map]; omega)
      rw [show (namesOf s.all).length = s.all.length from List.length_map _] at he
      injection he with he h_ hcap
      subst he
      clear h_ hcap
      obtain ⟨hcell, _⟩ := Kd.R_celln ByteArray.empty ht.nms (i : Int) (by omega) (by omega)
      have hrd : rdOf ByteArray.empty (namesOf s.all) (i : Int) = (s.all[i]).name := by
        rw [rdB_nat _ i (by rw [List.length_map]; exact hlt), List.getElem_map]
      rw [hrd, Int.toNat_natCast] at hcell
      have hp1 := h1.head
      unfold diskCells at hp1
      have c0 := blk_cell hp1 0
      have c1 := blk_cell hp1 1
      have c2 := blk_cell hp1 2
      have c3 := blk_cell hp1 3
      have c4 := blk_cell hp1 4
      have c5 := blk_cell hp1 5
      have fc0 := blk_frozen hp1 0
      have fc1 := blk_frozen hp1 1
      have fc2 := blk_frozen hp1 2
      have fc3 := blk_frozen hp1 3
      have fc4 := blk_frozen hp1 4
      have fc5 := blk_frozen hp1 5
      simp only [List.getElem?_toArray, List.getElem?_cons_succ, List.getElem?_cons_zero] at c0 c1 c2 c3 c4 c5
      have d0 := blk_cell hfile 0
      have d1 := blk_cell hfile 1
      have fd0 := blk_frozen hfile 0
      have fd1 := blk_frozen hfile 1
      simp only [List.getElem?_toArray, List.getElem?_cons_succ, List.getElem?_cons_zero] at d0 d1
      obtain ⟨A2, c2, he2, _, _⟩ := Kd.R_reads hrow
      rw [he2] at d0 hrow
      have HRW := Aside0.mk hrow
      have HSM := Aside0.mk hsm
      have HQ := Aside0.mk h1
      have HCL := Aside0.mk (fun (W : World) (hW : Row W (.slice A2 (s.all[i]).data.length c2) (s.all[i]).data) => clone_row W _ _ hW (by rw [data_length]; omega))
      clear h0 h1 hfind hfile hrow hat ht hp1 he2 hrd
      generalize s.all[i] = f at *
      have HRN := Aside0.mk HT.out.row
      have HNM := Aside0.mk HT.out.nms
      have HBL := Aside0.mk HT.out.bel
      go_wp2
      refine start_ (n := 15) (S := fun w' => w'.cell? ⟨q f.name, 0, none⟩ = some (.slice A2 f.data.length c2) ∧ w'.cell? ⟨q f.name, 1, none⟩ = some (.int .i64 f.sure.length)) (ds := [13]) #[false, false, false, false, false, false, false, false, false, false, false, false, false, false, false] (by kernel_rfl) rfl rfl ⟨d0, d1⟩ (fun hHeld => ?_)
      refine pure_ (i := 0) (N := some 20) (v := ?_) (a' := ?_) #[true, false, false, false, false, false, false, false, false, false, false, false, false, false, false] rfl rfl (by kernel_rfl) (fun _ _ _ h => h) (Or.inl ⟨by rfl, ?_⟩) ?_ ?_
      rotate_left
      · intro w'
        go_simp
        with_reducible rfl
      rotate_left
      · simp only [Act.put, List.setIfInBounds_toArray, List.set_cons_zero, List.set_cons_succ, i64_w, i32_w]
        rfl
      refine pure_ (i := 1) (N := some 21) (v := ?_) (a' := ?_) #[true, true, false, false, false, false, false, false, false, false, false, false, false, false, false] rfl rfl (by kernel_rfl) (fun _ _ _ h => h) (Or.inl ⟨by rfl, ?_⟩) ?_ ?_
      rotate_left
      · intro w'
        go_simp
        with_reducible rfl
      rotate_left
      · simp only [Act.put, List.setIfInBounds_toArray, List.set_cons_zero, List.set_cons_succ, i64_w, i32_w]
        rfl
      refine pure_ (i := 2) (N := some 22) (v := ?_) (a' := ?_) #[true, true, true, false, false, false, false, false, false, false, false, false, false, false, false] rfl rfl (by kernel_rfl) (fun _ _ _ h => h) (Or.inl ⟨by rfl, ?_⟩) ?_ ?_
      rotate_left
      · intro w'
        go_simp
        with_reducible rfl
      rotate_left
      · simp only [Act.put, List.setIfInBounds_toArray, List.set_cons_zero, List.set_cons_succ, i64_w, i32_w]
        rfl
      refine pure_ (i := 3) (N := some 23) (v := ?_) (a' := ?_) #[true, true, true, true, false, false, false, false, false, false, false, false, false, false, false] rfl rfl (by kernel_rfl) (fun _ _ _ h => h) (Or.inl ⟨by rfl, ?_⟩) ?_ ?_
      rotate_left
      · intro w'
        go_simp
        with_reducible rfl
      rotate_left
      · simp only [Act.put, List.setIfInBounds_toArray, List.set_cons_zero, List.set_cons_succ, i64_w, i32_w]
        rfl
      refine pure_ (i := 4) (N := some 24) (v := ?_) (a' := ?_) #[true, true, true, true, true, false, false, false, false, false, false, false, false, false, false] rfl rfl (by kernel_rfl) (fun _ _ _ h => h) (Or.inl ⟨by rfl, ?_⟩) ?_ ?_
      rotate_left
      · intro w'
        go_simp
        with_reducible rfl
      rotate_left
      · simp only [Act.put, List.setIfInBounds_toArray, List.set_cons_zero, List.set_cons_succ, i64_w, i32_w]
        rfl
      refine pure_ (i := 7) (N := some 27) (v := ?_) (a' := ?_) #[true, true, true, true, true, false, false, true, false, false, false, false, false, false, false] rfl rfl (by kernel_rfl) (fun _ _ _ h => h) (Or.inl ⟨by rfl, ?_⟩) ?_ ?_
      rotate_left
      · intro w'
        go_simp
        with_reducible rfl
      rotate_left
      · simp only [Act.put, List.setIfInBounds_toArray, List.set_cons_zero, List.set_cons_succ, i64_w, i32_w]
        rfl
      refine pure_ (i := 8) (N := some 28) (v := ?_) (a' := ?_) #[true, true, true, true, true, false, false, true, true, false, false, false, false, false, false] rfl rfl (by kernel_rfl) (fun _ _ _ h => h) (Or.inl ⟨by rfl, ?_⟩) ?_ ?_
      rotate_left
      · intro w'
        go_simp
        with_reducible rfl
      rotate_left
      · simp only [Act.put, List.setIfInBounds_toArray, List.set_cons_zero, List.set_cons_succ, i64_w, i32_w]
        rfl
      refine pure_ (i := 9) (N := some 29) (v := ?_) (a' := ?_) #[true, true, true, true, true, false, false, true, true, true, false, false, false, false, false] rfl rfl (by kernel_rfl) (fun _ _ _ h => h) (Or.inl ⟨by rfl, ?_⟩) ?_ ?_
      rotate_left
      · intro w'
        go_simp
        with_reducible rfl
      rotate_left
      · simp only [Act.put, List.setIfInBounds_toArray, List.set_cons_zero, List.set_cons_succ, i64_w, i32_w]
        rfl
      refine take_ (i := 5) (N := some 25) (v := ?_) (a' := ?_) #[true, true, true, true, true, true, false, true, true, true, false, false, false, false, false] rfl rfl (by kernel_rfl) (fun _ _ _ h => h) (Or.inl ⟨by rfl, ?_⟩) hHeld ?_ ?_
      rotate_left
      · rintro w' ⟨s0, s1⟩
        go_simp
        with_reducible rfl
      rotate_left
      · simp only [Act.put, List.setIfInBounds_toArray, List.set_cons_zero, List.set_cons_succ, i64_w, i32_w]
        rfl
      refine take_ (i := 10) (N := some 30) (v := ?_) (a' := ?_) #[true, true, true, true, true, true, false, true, true, true, true, false, false, false, false] rfl rfl (by kernel_rfl) (fun _ _ _ h => h) (Or.inl ⟨by rfl, ?_⟩) hHeld ?_ ?_
      rotate_left
      · rintro w' ⟨s0, s1⟩
        go_simp
        with_reducible rfl
      rotate_left
      · simp only [Act.put, List.setIfInBounds_toArray, List.set_cons_zero, List.set_cons_succ, i64_w, i32_w]
        rfl
      refine one_ (i := 6) (N := some 26) #[true, true, true, true, true, true, true, true, true, true, true, false, false, false, false] rfl rfl (by kernel_rfl) (by decide) (fun K hK => ?_)
      refine goes_ Try.func41 (by kernel_rfl) rfl #[.slice A2 f.data.length c2] (by rfl) rfl rfl (by simp only [List.map_toArray, List.map_cons, List.map_nil]; rfl) ?_
      refine (HCL.out _ (Kd.R_drew HRW.out)).mono ?_
      rintro e w6 ⟨v6, rfl, r6, b6⟩
      obtain ⟨A6, c6, rfl, _, _⟩ := Kd.R_reads r6
      refine ⟨_, rfl, ?_⟩
      have B6 := Aside0.mk b6
      have R6 := Aside0.mk r6
      clear b6 r6
      refine hK.out _ _ ⟨pw_cell_below B6.out hHeld.1, pw_cell_below B6.out hHeld.2⟩ (fun hHeld => ?_)
      clear hK K
      refine norm_ (a' := ?_) ?_ ?_
      rotate_left
      · show Act.put _ (some 26) _ = _
        simp only [Act.put, List.setIfInBounds_toArray, List.set_cons_zero, List.set_cons_succ, i64_w, i32_w]
        rfl
      refine pure_ (i := 11) (N := some 31) (v := ?_) (a' := ?_) #[true, true, true, true, true, true, true, true, true, true, true, true, false, false, false] rfl rfl (by kernel_rfl) (fun _ _ _ h => h) (Or.inl ⟨by rfl, ?_⟩) ?_ ?_
      rotate_left
      · intro w'
        go_simp
        with_reducible rfl
      rotate_left
      · simp only [Act.put, List.setIfInBounds_toArray, List.set_cons_zero, List.set_cons_succ, i64_w, i32_w]
        rfl
      refine one_ (i := 12) (N := some 32) #[true, true, true, true, true, true, true, true, true, true, true, true, true, false, false] rfl rfl (by kernel_rfl) (by decide) (fun K hK => ?_)
      refine value_ (w1 := ?_) (v := ?_) (by rfl) rfl ?_ ?_
      rotate_left 2
      · go_simp
        constructor
        · rfl
        · rfl
      refine hK.out _ _ ⟨pw_cell_below (below_alloc (Below.refl _ _) _) hHeld.1, pw_cell_below (below_alloc (Below.refl _ _) _) hHeld.2⟩ (fun hHeld => ?_)
      clear hK K
      refine norm_ (a' := ?_) ?_ ?_
      rotate_left
      · show Act.put _ (some 32) _ = _
        simp only [Act.put, List.setIfInBounds_toArray, List.set_cons_zero, List.set_cons_succ, i64_w, i32_w]
        rfl
      refine last_ (i := 13) (N := some 33) #[true, true, true, true, true, true, true, true, true, true, true, true, true, true, false] rfl rfl (by kernel_rfl) (by decide) (fun K hK => ?_)
      refine Kd.R_append_step k67 (w0 := w) (W := w6) w.heap.size (by rfl) (.tmp 20) (.tmp 32) 22 67 (.agg #[(.string ⟨#[]⟩), (.slice none 0 0), (.int .i64 0)]) 48 rfl Try.underlying22 info67 rfl (by decide) (by decide) u3 ((files67 s).take i) ⟨f.name, f.data, (f.sure.length : Int)⟩ [.string f.name, .slice A6 f.data.length c6, .int .i64 f.sure.length] (fun _ => True) (fun k => wr.heap.size ≤ k) rfl rfl (k67_mkM w6 w.heap.size _ _ (Kd.R_lower (Kd.R_mono (Kd.R_bound R6.out) (fun k hk => hk.2.1)) HBL.out.size)) (fun k hk => ⟨trivial, fun e => absurd (Kd.R_lt HRN.out k e.symm) (Nat.not_lt.2 hk)⟩) (fun _ _ => trivial) (Kd.R_below (Kd.R_drew HRN.out) B6.out) ((HBL.out.drew).trans (B6.out.mono HBL.out.size)) (Nat.le_trans HBL.out.size B6.out.size) (by rw [List.length_take]; omega) ?_
      intro v7 w7 ho hb hg hat7
      have HO := Aside0.mk ho
      have HB7 := Aside0.mk hb
      have HG := Aside0.mk (show w6.grownBy w7 u3.ownBlock from hg)
      clear ho hb hg hat7
      refine hK.out _ _ ?_
      clear hK K
      refine norm_ (a' := ?_) ?_ ?_
      rotate_left
      · show Act.put _ (some 33) _ = _
        simp only [Act.put, List.setIfInBounds_toArray, List.set_cons_zero, List.set_cons_succ, i64_w, i32_w]
        rfl
      refine pure_ (i := 14) (N := some 3) (v := ?_) (a' := ?_) #[true, true, true, true, true, true, true, true, true, true, true, true, true, true, true] rfl rfl (by kernel_rfl) (fun _ _ _ h => h) (Or.inl ⟨by rfl, ?_⟩) ?_ ?_
      rotate_left
      · intro w'
        go_simp
        with_reducible rfl
      rotate_left
      · simp only [Act.put, List.setIfInBounds_toArray, List.set_cons_zero, List.set_cons_succ, i64_w, i32_w]
        rfl
      refine done_ (by kernel_rfl) ?_
      go_wp2
      have HF7 := Aside0.mk (show Tell w w7 s (.slice (some ⟨g, 0, none⟩) s.all.length c) v7 (i + 1) from ⟨hlt, by rw [take_snoc' _ i (by rw [files67_len]; exact hlt), HAT.out]; exact HO.out, Kd.R_over' (Kd.R_below (Kd.R_drew HNM.out) B6.out) (fun k hk => Kd.R_typed (Kd.R_below (Kd.R_drew HRN.out) B6.out) k hk) (by decide) HG.out, HB7.out⟩)
      go_roundw
      case rel => exact ⟨i + 1, by simp, HF7.out⟩
      case measure => simp [intOf]; omega
    · have hi : i = s.all.length := by have := ht.le; omega
      subst hi
      have h2 := ht.row
      rw [List.take_of_length_le (by rw [files67_len]; exact Nat.le_refl _)] at h2
      have HR2 := Aside0.mk h2
      clear ht h2
      go_wp2
      go_ret
      exact ⟨_, rfl, HR2.out, HT.out.bel⟩
end Go.Proofs.Ytfholpajdkjbbaa.DK
