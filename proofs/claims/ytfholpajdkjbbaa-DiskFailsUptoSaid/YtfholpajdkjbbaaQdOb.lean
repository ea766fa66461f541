/- A disk that is up and without rigs is what its files tell; conditions: those in each theorem. (Plain Lean.) -/
import Derived.Test.YtfholpajdkjbbaaQdOa
namespace Go.Proofs.Ytfholpajdkjbbaa.Mo
set_option linter.unusedVariables false
theorem lt_asymm {a b : ByteArray} (h : lt a b = true) : lt b a = false := by
  cases hq : lt b a with
  | false => rfl
  | true => rw [← lt_irrefl a]; exact (lt_trans h hq).symm
theorem put_last (f : F) : ∀ acc : List F, (∀ g ∈ acc, lt g.name f.name = true) → put f acc = acc ++ [f]
  | [], _ => rfl
  | g :: acc, h => by
    unfold put
    rw [if_neg (by rw [lt_asymm (h g List.mem_cons_self)]; decide), put_last f acc (fun x hx => h x (List.mem_cons_of_mem _ hx))]
    rfl
def triOf (f : F) : ByteArray × List Int × Int := (f.name, f.data, (f.sure.length : Int))
theorem newF_tri (f : F) : newF (triOf f) = f := by
  obtain ⟨n, s, l⟩ := f
  simp only [newF, triOf, F.data, Int.toNat_natCast, List.take_left, List.drop_left]
theorem newGo_files : ∀ (l acc : List F), Sorted (acc ++ l) → (∀ f ∈ l, isName f.name = true) → (∀ f ∈ l, f.len ≤ 65536) → newGo (l.map triOf) acc = some (acc ++ l)
  | [], acc, _, _, _ => by simp [newGo]
  | f :: l, acc, hs, hn, hl => by
    have hp := List.pairwise_append.1 hs
    have hlt : ∀ g ∈ acc, lt g.name f.name = true := fun g hg => hp.2.2 g hg f List.mem_cons_self
    have hfind : find acc f.name = none := by
      cases hq : find acc f.name with
      | none => rfl
      | some g =>
        obtain ⟨h1, h2⟩ := find_some hq
        have := hlt g h1
        rw [h2, lt_irrefl] at this
        cases this
    have hd : f.data.length = f.len := by unfold F.data F.len; rw [List.length_append]
    have hsm := hl f List.mem_cons_self
    have hfits : fits (triOf f) acc = true := by
      unfold fits triOf
      dsimp only
      rw [hn f List.mem_cons_self, hfind, hd]
      simp only [Option.isNone_none, Bool.true_and, Bool.and_eq_true, decide_eq_true_eq]
      unfold F.len at hsm ⊢
      omega
    rw [List.map_cons]
    unfold newGo
    rw [if_pos hfits, newF_tri, put_last f acc hlt, newGo_files l (acc ++ [f]) (by rw [List.append_assoc]; exact hs) (fun x hx => hn x (List.mem_cons_of_mem _ hx)) (fun x hx => hl x (List.mem_cons_of_mem _ hx)), List.append_assoc]
    rfl
theorem new_of {s : St} (ok : Ok s) (h1 : s.down = false) (h2 : s.left = -1) (h3 : s.after = 0) (h4 : s.fails = 0) : St.new s.files = some s := by
  unfold St.new
  have hlen : s.files.length = s.all.length := List.length_map _
  rw [if_neg (by rw [hlen]; have := ok.few; omega)]
  have := newGo_files s.all [] (by exact ok.sorted) ok.names ok.small
  rw [List.nil_append] at this
  rw [show s.files = s.all.map triOf from rfl, this]
  obtain ⟨a, b, c, d, e⟩ := s
  dsimp only at h1 h2 h3 h4
  subst h1 h2 h3 h4
  rfl
end Go.Proofs.Ytfholpajdkjbbaa.Mo
