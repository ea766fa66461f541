/- eddyref4.Bag.write; conditions: those in each theorem. -/
import Derived.Test.YthmkioodkldgbaaQpM20
import Derived.Test.YthmkioodkldgbaaQpM18
import Derived.Lib.Strings
namespace Go.Proofs.Ythmkioodkldgbaa.DK
open Go.Proofs.Ythmkioodkldgbaa.PD
open Go.RowKit Go.Proofs.YthmkioodkldgbaaW.PrintWords Go.Proofs.YthmkioodkldgbaaW.PrintLast Go.Proofs.YthmkioodkldgbaaW.PrintMore
set_option linter.unusedVariables false
set_option linter.unusedSimpArgs false
set_option maxRecDepth 100000
theorem R5.ut {T : List Nat} {b : Nat} {w w1 : World} {v : Value} {xs : List Int} (h : R5 b w v xs) (hu : UT T b w w1) (he : 5 ∉ T) : R5 b w1 v xs :=
 own_move h (fun k hk => by obtain ⟨cs, hc⟩ := own_typed h k hk; exact (hu.blk hc he).trans hc.symm)
theorem bytesOf_extract (f : ByteArray) (a c : Nat) (h : a ≤ c) (hc : c ≤ f.size) : bytesOf (f.extract a c) = ((bytesOf f).drop a).take (c - a) := by
 unfold bytesOf
 rw [Lib.extract_data, ← List.map_drop, ← List.map_take]
theorem slice_str (f : ByteArray) (a c : Nat) (h : a ≤ c) (hc : c ≤ f.size) (hm : f.size ≤ 100000) (W : World) : (Instr.slice 9 (.string f) (some (.int .i64 a)) (some (.int .i64 c)) none).run Try.prog W = .ok (.string (f.extract a c)) W := by
 have hu := Try.underlying9
 have h0 : (0 : Int) ≤ a := by omega
 have h1 : (a : Int) ≤ c := by omega
 have h2 : (c : Int) ≤ f.size := by omega
 go_simp
theorem list_len (r : Bool) (c : Int) (fs : List Form) : (Form.list r c fs).str.length = (strs fs).length + 3 := by
 rw [Form.str]; simp only [List.length_cons, List.length_append, List.length_nil]
/-- What the writing of a form leaves. -/
def WrP (Rel : World → Prop) (b : Nat) (w : World) (g : Nat) (ns : List Int) (ks : List ByteArray) (vs : List S25) (un uk uv : Value) (zs : List Int) (q : Left) (e : Ending) (w' : World) : Prop :=
 ∃ (u' : Value) (i' j' k' : Nat), e = .returned u' ∧ R5 b w' u' zs ∧ Bag Rel b w' g ns ks vs i' j' k' un uk uv ∧ UT [101, 5] b w w' ∧ q = ⟨ns.drop i', ks.drop j', vs.drop k'⟩
theorem WrP.mk {Rel : World → Prop} {b : Nat} {w w' : World} {g : Nat} {ns : List Int} {ks : List ByteArray} {vs : List S25} {un uk uv : Value} {zs : List Int} {q : Left} {e : Ending} (u' : Value) (i' j' k' : Nat) (h1 : e = .returned u') (h2 : R5 b w' u' zs) (h3 : Bag Rel b w' g ns ks vs i' j' k' un uk uv) (h4 : UT [101, 5] b w w') (h5 : q = ⟨ns.drop i', ks.drop j', vs.drop k'⟩) : WrP Rel b w g ns ks vs un uk uv zs q e w' := ⟨u', i', j', k', h1, h2, h3, h4, h5⟩
structure WrI (Rel : World → Prop) (b : Nat) (w : World) (g : Nat) (ns : List Int) (ks : List ByteArray) (vs : List S25) (un uk uv : Value) (fs : List Form) (f : ByteArray) (zs : List Int) (q : Left) (u : Value) (p i j k : Nat) (rs : List Form) (ys ts : List Int) (wr : World) : Prop where
 le : p ≤ f.size
 ok : OkF rs
 str : (bytesOf f).drop p = strs rs
 sz : SizeOf.sizeOf rs ≤ SizeOf.sizeOf fs
 row : R5 b wr u ys
 bag : Bag Rel b wr g ns ks vs i j k un uk uv
 up : UT [101, 5] b w wr
 wr : wrs rs ⟨ns.drop i, ks.drop j, vs.drop k⟩ = some (ts, q)
 eq : ys ++ ts = zs
def WrE (Rel : World → Prop) (b : Nat) (w : World) (g : Nat) (ns : List Int) (ks : List ByteArray) (vs : List S25) (un uk uv : Value) (fs : List Form) (f : ByteArray) (zs : List Int) (q : Left) (u pv : Value) (wr : World) : Prop := ∃ (p i j k : Nat) (rs : List Form) (ys ts : List Int), pv = .int .i64 p ∧ WrI Rel b w g ns ks vs un uk uv fs f zs q u p i j k rs ys ts wr
structure WrJ (Rel : World → Prop) (b : Nat) (w : World) (g : Nat) (ns : List Int) (ks : List ByteArray) (vs : List S25) (un uk uv : Value) (it rs : List Form) (zs : List Int) (q : Left) (n : Nat) (u : Value) (m i j k : Nat) (ys ts : List Int) (q1 : Left) (t2 : List Int) (wr : World) : Prop where
 le : m ≤ n
 row : R5 b wr u ys
 bag : Bag Rel b wr g ns ks vs i j k un uk uv
 up : UT [101, 5] b w wr
 wr : iter (wrs it) (n - m) ⟨ns.drop i, ks.drop j, vs.drop k⟩ = some (ts, q1)
 wr2 : wrs rs q1 = some (t2, q)
 eq : ys ++ ts ++ t2 = zs
def WrF (Rel : World → Prop) (b : Nat) (w : World) (g : Nat) (ns : List Int) (ks : List ByteArray) (vs : List S25) (un uk uv : Value) (it rs : List Form) (zs : List Int) (q : Left) (n : Nat) (u mv : Value) (wr : World) : Prop := ∃ (m i j k : Nat) (ys ts : List Int) (q1 : Left) (t2 : List Int), mv = .int .i64 m ∧ WrJ Rel b w g ns ks vs un uk uv it rs zs q n u m i j k ys ts q1 t2 wr
theorem iter_succ (g : Left → Option (List Int × Left)) (m : Nat) (st : Left) {z : List Int} {q : Left} (h : iter g (m + 1) st = some (z, q)) : ∃ z1 q1 z2, g st = some (z1, q1) ∧ iter g m q1 = some (z2, q) ∧ z = z1 ++ z2 := by
 rw [iter] at h
 obtain ⟨⟨z1, q1⟩, h1, h2⟩ := Option.bind_eq_some_iff.1 h
 obtain ⟨⟨z2, q2⟩, h3, h4⟩ := Option.bind_eq_some_iff.1 h2
 injection h4 with h4
 injection h4 with h5 h6
 subst h6
 exact ⟨z1, q1, z2, h1, h3, h5.symm⟩
theorem wrs_cons {f : Form} {fs : List Form} {st : Left} {z : List Int} {q : Left} (h : wrs (f :: fs) st = some (z, q)) : ∃ z1 q1 z2, f.wr st = some (z1, q1) ∧ wrs fs q1 = some (z2, q) ∧ z = z1 ++ z2 := by
 rw [wrs] at h
 obtain ⟨⟨z1, q1⟩, h1, h2⟩ := Option.bind_eq_some_iff.1 h
 obtain ⟨⟨z2, q2⟩, h3, h4⟩ := Option.bind_eq_some_iff.1 h2
 injection h4 with h4
 injection h4 with h5 h6
 subst h6
 exact ⟨z1, q1, z2, h1, h3, h5.symm⟩
theorem drop_get {α : Type} {l : List α} {i : Nat} {x : α} {t : List α} (h : l.drop i = x :: t) : ∃ hi : i < l.length, l[i] = x ∧ t = l.drop (i + 1) := by
 have hi : i < l.length := by
  rcases Nat.lt_or_ge i l.length with h1 | h1
  ·exact h1
  ·rw [List.drop_of_length_le h1] at h; simp at h
 rw [List.drop_eq_getElem_cons hi] at h
 injection h with h1 h2
 exact ⟨hi, h1, h2.symm⟩
theorem str_pos (f : Form) : 0 < f.str.length := by cases f <;> rw [Form.str] <;> simp
theorem key_wr {st q : Left} {z : List Int} (h : Form.key.wr st = some (z, q)) : ∃ x l, st.k = x :: l ∧ x.size ≤ 140737488355328 ∧ z = keyB x ∧ q = { st with k := l } := by
 rw [Form.wr] at h
 split at h
 ·simp at h
 ·rename_i x l e
  split at h
  ·rename_i hx
   injection h with h; injection h with h1 h2
   exact ⟨x, l, e, hx, h1.symm, h2.symm⟩
  ·simp at h
theorem val_wr {st q : Left} {z : List Int} (h : Form.val.wr st = some (z, q)) : ∃ x l, st.v = x :: l ∧ okV x ∧ z = encM x ∧ q = { st with v := l } := by
 rw [Form.wr] at h
 split at h
 ·simp at h
 ·rename_i x l e
  split at h
  ·rename_i hx
   injection h with h; injection h with h1 h2
   exact ⟨x, l, e, hx, h1.symm, h2.symm⟩
  ·simp at h
theorem word_wr {st q : Left} {z : List Int} (h : Form.word.wr st = some (z, q)) : ∃ x l, st.n = x :: l ∧ (0 ≤ x ∧ x ≤ 4294967295) ∧ z = word x ∧ q = { st with n := l } := by
 rw [Form.wr] at h
 split at h
 ·simp at h
 ·rename_i x l e
  split at h
  ·rename_i hx
   injection h with h; injection h with h1 h2
   exact ⟨x, l, e, hx, h1.symm, h2.symm⟩
  ·simp at h
theorem num_wr {c : Int} {st q : Left} {z : List Int} (h : (Form.num c).wr st = some (z, q)) : ∃ x l, st.n = x :: l ∧ (0 ≤ x ∧ x ≤ 9223372036854775807) ∧ z = grp x ∧ q = { st with n := l } := by
 rw [Form.wr] at h
 split at h
 ·simp at h
 ·rename_i x l e
  split at h
  ·rename_i hx
   injection h with h; injection h with h1 h2
   exact ⟨x, l, e, hx, h1.symm, h2.symm⟩
  ·simp at h
theorem list_wr {r : Bool} {c : Int} {fs : List Form} {st q : Left} {z : List Int} (h : (Form.list r c fs).wr st = some (z, q)) : ∃ x l z1, st.n = x :: l ∧ (0 ≤ x ∧ x ≤ 9223372036854775807) ∧ z = grp x ++ z1 ∧ iter (wrs fs) x.toNat { st with n := l } = some (z1, q) := by
 rw [Form.wr] at h
 split at h
 ·simp at h
 ·rename_i x l e
  split at h
  ·rename_i hx
   obtain ⟨⟨z1, q1⟩, h1, h2⟩ := Option.bind_eq_some_iff.1 h
   injection h2 with h2; injection h2 with h3 h4
   subst h4
   exact ⟨x, l, z1, e, hx, h3.symm, h1⟩
  ·simp at h
theorem Bag.cast {Rel : World → Prop} {b : Nat} {w : World} {g : Nat} {ns : List Int} {ks : List ByteArray} {vs : List S25} {i j k i' j' k' : Int} {un uk uv : Value} (h : Bag Rel b w g ns ks vs i j k un uk uv) (hi : i = i') (hj : j = j') (hk : k = k') : Bag Rel b w g ns ks vs i' j' k' un uk uv := by subst hi hj hk; exact h
theorem str1 {c x : Int} {d t : List Int} (h : x :: d = [c] ++ t) : x = c ∧ d = t := by injection h with h1 h2; exact ⟨h1, h2⟩
set_option maxHeartbeats 40000000 in
theorem write_calls (Rel : World → Prop) (n : Nat) : ∀ (fs : List Form) (hn : SizeOf.sizeOf fs ≤ n) (hf : OkF fs) (f : ByteArray) (hfs : f.size ≤ 100000) (hs : bytesOf f = strs fs) (b : Nat) (w : World) (u : Value) (xs : List Int) (g : Nat) (ns : List Int) (ks : List ByteArray) (vs : List S25) (i j k : Nat) (un uk uv : Value) (HO : R5 b w u xs) (hb : b ≤ w.heap.size) (hbag : Bag Rel b w g ns ks vs i j k un uk uv) (hR : ∀ W, Below b w W → Rel W) (q : Left) (zs : List Int) (hw : wrs fs ⟨ns.drop i, ks.drop j, vs.drop k⟩ = some (zs, q)) (hl : (xs ++ zs).length ≤ 140737488355328),
  Calls Try.prog 70 #[.pointer (some ⟨g, 0, none⟩), u, .string f] w (WrP Rel b w g ns ks vs un uk uv (xs ++ zs) q) := by
 induction n with
 | zero =>
  intro fs hn
  cases fs <;> simp at hn
 | succ n ih =>
  intro fs hn hf f hfs hs b w u xs g ns ks vs i j k un uk uv HO hb hbag hR q zs hw hl
  have HIH := Aside0.mk ih
  have HR0 := Aside0.mk HO
  have HB0 := Aside0.mk hbag
  have HREL := Aside0.mk hR
  have HW := Aside0.mk hw
  have HS := Aside0.mk hs
  have HF := Aside0.mk hf
  have HN := Aside0.mk hn
  have HL := Aside0.mk hl
  clear ih HO hbag hR hw hs hf hn hl
  go_enter Try.func70, Try.ntmps70
  go_wp2
  go_loopw [1, 7] (fun u pv wr => WrE Rel b w g ns ks vs un uk uv fs f (xs ++ zs) q u pv wr) (fun _ pv _ => f.size - (intOf pv).toNat)
  case atStart => exact ⟨0, i, j, k, fs, xs, zs, rfl, Nat.zero_le _, HF.out, HS.out, Nat.le_refl _, HR0.out, HB0.out, UT.refl _ _ _, HW.out, rfl⟩
  case round =>
   obtain ⟨p, i, j, k, rs, ys, ts, rfl, hle, hok, hstr, hsz, hrow, hbag, hup, hwr, heq⟩ := hrel
   have HR := Aside0.mk hrow
   have HB := Aside0.mk hbag
   have HU := Aside0.mk hup
   have HST := Aside0.mk hstr
   have HWR := Aside0.mk hwr
   have HEQ := Aside0.mk heq
   have HSZ := Aside0.mk hsz
   have HOK := Aside0.mk hok
   have hbr : b ≤ wr.heap.size := Nat.le_trans hb hup.size
   have HBL := Aside0.mk (hup.below hb)
   have hlen := congrArg List.length hstr
   rw [List.length_drop, bytesOf_length] at hlen
   have hlt1 : (ys ++ ts).length ≤ 140737488355328 := by rw [heq]; exact HL.out
   clear hrow hbag hup hstr hwr heq hsz hok
   cases rs with
   | nil =>
    have hsp : ¬ (p : Int) < (f.size : Int) := by rw [strs] at hlen; simp at hlen; omega
    have hfin := HWR.out
    rw [wrs] at hfin
    injection hfin with hfin
    injection hfin with e1 e2
    have HQ := Aside0.mk e2
    have HT := Aside0.mk e1
    clear e1 e2 hlen
    go_wp2
    go_ret
    exact WrP.mk _ i j k rfl (by have h := HR.out; rwa [show ys = xs ++ zs by rw [← HEQ.out, ← HT.out, List.append_nil]] at h) HB.out HU.out HQ.out.symm
   | cons fm rs =>
    have hpl : p < f.size := by rw [strs, List.length_append] at hlen; have := str_pos fm; omega
    obtain ⟨z1, q1, z2, hw1, hw2, rfl⟩ := wrs_cons HWR.out
    have hok := HOK.out
    rw [OkF] at hok
    have HOK1 := Aside0.mk hok.1
    have HOK2 := Aside0.mk hok.2
    have HW1 := Aside0.mk hw1
    have HW2 := Aside0.mk hw2
    have hidx := idx_str f p hpl
    have hst2 := HST.out
    rw [bt_drop f p hpl, strs] at hst2
    have HST2 := Aside0.mk hst2
    have HIX := Aside0.mk hidx
    clear hok hw1 hw2 hlen hst2 hidx
    cases fm with
    | mark c =>
     obtain ⟨hbt, hdr⟩ := str1 HST2.out
     have hix := HIX.out
     rw [hbt] at hix
     have HDR := Aside0.mk hdr
     clear hdr hbt
     have hw1 := HW1.out
     rw [Form.wr] at hw1
     injection hw1 with hw1
     injection hw1 with e1 e2
     subst e1 e2
     have hokc := HOK1.out
     rw [Form.Ok] at hokc
     have e1 : (c == 91) = false := by simp; omega
     have e2 : (c == 60) = false := by simp; omega
     have hc1 : 65 ≤ c := hokc.1
     have hc2 : c ≤ 90 := hokc.2
     go_wp2_with (at_builtin; refine app1 rfl (.tmp 65) (.tmp 67) rfl _ ys c rfl (by first | (go_simp; done) | (go_simp; rfl)) HR.out hbr (by have h := hlt1; simp only [keyB, word, List.length_append, List.length_cons, List.length_nil, bytesOf_length] at h ⊢; omega) ?_; intro v2 w2 h1 h2; (have HR2 := Aside0.mk h1); (have HB2 := Aside0.mk (HB.out.ut (UT.of5 h2 (T := [5]) (by decide)) (by decide))); (have HU2 := Aside0.mk (HU.out.trans (UT.of5 h2 (by decide)))); (have hb2 : b ≤ w2.heap.size := Nat.le_trans hb HU2.out.size); clear h1 h2)
     go_roundw
     case rel => exact ⟨p + 1, i, j, k, rs, _, z2, by simp, by omega, HOK2.out, HDR.out, by have := HSZ.out; simp at this ⊢; omega, HR2.out, HB2.out.cast (by omega) (by omega) (by omega), HU2.out, HW2.out, by rw [← HEQ.out]; simp only [List.append_assoc, List.cons_append, List.nil_append]⟩
     case measure => simp [intOf]; omega
    | key =>
     obtain ⟨hbt, hdr⟩ := str1 HST2.out
     have hix := HIX.out
     rw [hbt] at hix
     have HDR := Aside0.mk hdr
     clear hdr hbt
     obtain ⟨x, l, hk1, hx, rfl, rfl⟩ := key_wr HW1.out
     obtain ⟨hj, hjx, rfl⟩ := drop_get hk1
     clear hk1
     have HC := Aside0.mk (fun (W : World) (hW : Bag Rel b W g ns ks vs i j k un uk uv) => by have h := key_calls hW (by omega) (by omega); rw [rdS ks j hj, hjx] at h; exact h)
     go_wp2_with fail
     refine (HC.out _ HB.out).mono ?_
     rintro e w1 ⟨rfl, hb2, hu2⟩
     have HB1 := Aside0.mk hb2
     have HR1 := Aside0.mk (HR.out.ut hu2 (by decide))
     have HU1 := Aside0.mk (HU.out.trans (hu2.mono (by simp)))
     have hb1 : b ≤ w1.heap.size := Nat.le_trans hb HU1.out.size
     clear hb2 hu2
     go_wp2_with fail
     refine (rgroups_calls _ (x.size : Int) (by omega) (by omega) (by have h := hlt1; simp only [keyB, word, List.length_append, List.length_cons, List.length_nil, bytesOf_length] at h ⊢; omega)).mono ?_
     rintro e w2 ⟨v2, rfl, h1, h2⟩
     have HQ2 := Aside0.mk h1
     have HB2 := Aside0.mk (HB1.out.below h2)
     have HR2 := Aside0.mk (HR1.out.below h2)
     have HU2 := Aside0.mk (HU1.out.trans (UT.of_below _ _ h2))
     have hb2 : b ≤ w2.heap.size := Nat.le_trans hb HU2.out.size
     clear h1 h2
     go_wp2_with (first | (at_builtin; refine appOwn rfl (.tmp 74) (.tmp 77) rfl _ v2 (ys) (grp x.size) rfl rfl HR2.out HQ2.out hb2 (by have h := hlt1; simp only [keyB, word, List.length_append, List.length_cons, List.length_nil, bytesOf_length] at h ⊢; omega) ?_; intro v3 w3 h1 h2; (have HR3 := Aside0.mk h1); (have HB3 := Aside0.mk (HB2.out.ut (UT.of5 h2 (T := [5]) (by decide)) (by decide))); (have HU3 := Aside0.mk (HU2.out.trans (UT.of5 h2 (by decide)))); (have hb3 : b ≤ w3.heap.size := Nat.le_trans hb HU3.out.size); clear h1 h2) | (at_builtin; refine appStr rfl (.tmp 79) (.tmp 80) rfl v3 _ x rfl rfl HR3.out hb3 (by have h := hlt1; simp only [keyB, word, List.length_append, List.length_cons, List.length_nil, bytesOf_length] at h ⊢; omega) ?_; intro v4 w4 h1 h2; (have HR4 := Aside0.mk h1); (have HB4 := Aside0.mk (HB3.out.ut (UT.of5 h2 (T := [5]) (by decide)) (by decide))); (have HU4 := Aside0.mk (HU3.out.trans (UT.of5 h2 (by decide)))); (have hb4 : b ≤ w4.heap.size := Nat.le_trans hb HU4.out.size); clear h1 h2))
     go_roundw
     case rel => exact ⟨p + 1, i, (j + 1), k, rs, _, z2, by simp, by omega, HOK2.out, HDR.out, by have := HSZ.out; simp at this ⊢; omega, HR4.out, HB4.out.cast (by omega) (by omega) (by omega), HU4.out, HW2.out, by rw [← HEQ.out]; simp only [keyB, List.append_assoc, List.cons_append, List.nil_append]⟩
     case measure => simp [intOf]; omega
    | val =>
     obtain ⟨hbt, hdr⟩ := str1 HST2.out
     have hix := HIX.out
     rw [hbt] at hix
     have HDR := Aside0.mk hdr
     clear hdr hbt
     obtain ⟨x, l, hk1, hx, rfl, rfl⟩ := val_wr HW1.out
     obtain ⟨hj, hjx, rfl⟩ := drop_get hk1
     have HX := Aside0.mk hx
     clear hk1 hx
     have HC := Aside0.mk (fun (W : World) (hW : Bag Rel b W g ns ks vs i j k un uk uv) => by have h := val_calls hW (by omega) (by omega); rw [rd25 vs k hj, hjx] at h; exact h)
     go_wp2_with fail
     refine (HC.out _ HB.out).mono ?_
     rintro e w1 ⟨A3, c3, rfl, hl3, hg3, hb2, hu2⟩
     have HB1 := Aside0.mk hb2
     have HR1 := Aside0.mk (HR.out.ut hu2 (by decide))
     have HU1 := Aside0.mk (HU.out.trans (hu2.mono (by simp)))
     have hb1 : b ≤ w1.heap.size := Nat.le_trans hb HU1.out.size
     have HG := Aside0.mk hg3
     clear hb2 hu2 hg3
     go_wp2_with fail
     refine (rEncode_calls x _ A3 c3 (HG.out _ (HREL.out _ (HU1.out.below hb))) hl3 HX.out).mono ?_
     rintro e w2 ⟨v2, rfl, h1, h2⟩
     have HQ2 := Aside0.mk h1
     have HB2 := Aside0.mk (HB1.out.below h2)
     have HR2 := Aside0.mk (HR1.out.below h2)
     have HU2 := Aside0.mk (HU1.out.trans (UT.of_below _ _ h2))
     have hb2 : b ≤ w2.heap.size := Nat.le_trans hb HU2.out.size
     clear h1 h2
     go_wp2_with (at_builtin; refine appOwn rfl (.tmp 85) (.tmp 88) rfl _ v2 (ys) (encM x) rfl rfl HR2.out HQ2.out hb2 (by have h := hlt1; simp only [keyB, word, List.length_append, List.length_cons, List.length_nil, bytesOf_length] at h ⊢; omega) ?_; intro v3 w3 h1 h2; (have HR3 := Aside0.mk h1); (have HB3 := Aside0.mk (HB2.out.ut (UT.of5 h2 (T := [5]) (by decide)) (by decide))); (have HU3 := Aside0.mk (HU2.out.trans (UT.of5 h2 (by decide)))); (have hb3 : b ≤ w3.heap.size := Nat.le_trans hb HU3.out.size); clear h1 h2)
     go_roundw
     case rel => exact ⟨p + 1, i, j, (k + 1), rs, _, z2, by simp, by omega, HOK2.out, HDR.out, by have := HSZ.out; simp at this ⊢; omega, HR3.out, HB3.out.cast (by omega) (by omega) (by omega), HU3.out, HW2.out, by rw [← HEQ.out]; simp only [List.append_assoc, List.cons_append, List.nil_append]⟩
     case measure => simp [intOf]; omega
    | word =>
     obtain ⟨hbt, hdr⟩ := str1 HST2.out
     have hix := HIX.out
     rw [hbt] at hix
     have HDR := Aside0.mk hdr
     clear hdr hbt
     obtain ⟨x, l, hk1, hx, rfl, rfl⟩ := word_wr HW1.out
     obtain ⟨hj, hjx, rfl⟩ := drop_get hk1
     clear hk1
     have HC := Aside0.mk (fun (W : World) (hW : Bag Rel b W g ns ks vs i j k un uk uv) => by have h := num_calls hW (by omega) (by omega); rw [rdI ns i hj, hjx] at h; exact h)
     go_wp2_with fail
     refine (HC.out _ HB.out).mono ?_
     rintro e w1 ⟨rfl, hb2, hu2⟩
     have HB1 := Aside0.mk hb2
     have HR1 := Aside0.mk (HR.out.ut hu2 (by decide))
     have HU1 := Aside0.mk (HU.out.trans (hu2.mono (by simp)))
     have hb1 : b ≤ w1.heap.size := Nat.le_trans hb HU1.out.size
     clear hb2 hu2
     have hx2 : x / 16777216 % 256 = x / 16777216 := by omega
     obtain ⟨hx0, hx9⟩ := hx
     go_wp2_with (at_builtin; refine appLit rfl (.tmp 95) (.tmp 110) rfl _ ys (word x) rfl _ (by first | rfl | (unfold word nums; simp)) 4 rfl _ (by first | (go_simp; done) | (go_simp; rfl)) (by simp) HR1.out hb1 (by have h := hlt1; simp only [keyB, word, List.length_append, List.length_cons, List.length_nil, bytesOf_length] at h ⊢; omega) ?_; intro v2 w2 h1 h2; (have HR2 := Aside0.mk h1); (have HB2 := Aside0.mk (HB1.out.ut (UT.of5 h2 (T := [5]) (by decide)) (by decide))); (have HU2 := Aside0.mk (HU1.out.trans (UT.of5 h2 (by decide)))); (have hb2 : b ≤ w2.heap.size := Nat.le_trans hb HU2.out.size); clear h1 h2)
     go_roundw
     case rel => exact ⟨p + 1, (i + 1), j, k, rs, _, z2, by simp, by omega, HOK2.out, HDR.out, by have := HSZ.out; simp at this ⊢; omega, HR2.out, HB2.out.cast (by omega) (by omega) (by omega), HU2.out, HW2.out, by rw [← HEQ.out]; simp only [List.append_assoc, List.cons_append, List.nil_append]⟩
     case measure => simp [intOf]; omega
    | num c =>
     obtain ⟨hbt, hdr⟩ := str1 HST2.out
     have hix := HIX.out
     rw [hbt] at hix
     have HDR := Aside0.mk hdr
     clear hdr hbt
     obtain ⟨x, l, hk1, hx, rfl, rfl⟩ := num_wr HW1.out
     obtain ⟨hj, hjx, rfl⟩ := drop_get hk1
     clear hk1
     have HC := Aside0.mk (fun (W : World) (hW : Bag Rel b W g ns ks vs i j k un uk uv) => by have h := num_calls hW (by omega) (by omega); rw [rdI ns i hj, hjx] at h; exact h)
     have hokc := HOK1.out
     rw [Form.Ok] at hokc
     have e91 : (c == 91) = false := by simp; omega
     have e60 : (c == 60) = false := by simp; omega
     have e107 : (c == 107) = false := by simp; omega
     have e118 : (c == 118) = false := by simp; omega
     have e119 : (c == 119) = false := by simp; omega
     have hc1 : 65 ≤ c := by omega
     have hc2 : ¬ c ≤ 90 := by omega
     go_wp2_with fail
     refine (HC.out _ HB.out).mono ?_
     rintro e w1 ⟨rfl, hb2, hu2⟩
     have HB1 := Aside0.mk hb2
     have HR1 := Aside0.mk (HR.out.ut hu2 (by decide))
     have HU1 := Aside0.mk (HU.out.trans (hu2.mono (by simp)))
     have hb1 : b ≤ w1.heap.size := Nat.le_trans hb HU1.out.size
     clear hb2 hu2
     go_wp2_with fail
     refine (rgroups_calls _ x hx.1 hx.2 (by have h := hlt1; simp only [keyB, word, List.length_append, List.length_cons, List.length_nil, bytesOf_length] at h ⊢; omega)).mono ?_
     rintro e w2 ⟨v2, rfl, h1, h2⟩
     have HQ2 := Aside0.mk h1
     have HB2 := Aside0.mk (HB1.out.below h2)
     have HR2 := Aside0.mk (HR1.out.below h2)
     have HU2 := Aside0.mk (HU1.out.trans (UT.of_below _ _ h2))
     have hb2 : b ≤ w2.heap.size := Nat.le_trans hb HU2.out.size
     clear h1 h2
     go_wp2_with (at_builtin; refine appOwn rfl (.tmp 23) (.tmp 26) rfl _ v2 (ys) (grp x) rfl rfl HR2.out HQ2.out hb2 (by have h := hlt1; simp only [keyB, word, List.length_append, List.length_cons, List.length_nil, bytesOf_length] at h ⊢; omega) ?_; intro v3 w3 h1 h2; (have HR3 := Aside0.mk h1); (have HB3 := Aside0.mk (HB2.out.ut (UT.of5 h2 (T := [5]) (by decide)) (by decide))); (have HU3 := Aside0.mk (HU2.out.trans (UT.of5 h2 (by decide)))); (have hb3 : b ≤ w3.heap.size := Nat.le_trans hb HU3.out.size); clear h1 h2)
     go_roundw
     case rel => exact ⟨p + 1, (i + 1), j, k, rs, _, z2, by simp, by omega, HOK2.out, HDR.out, by have := HSZ.out; simp at this ⊢; omega, HR3.out, HB3.out.cast (by omega) (by omega) (by omega), HU3.out, HW2.out, by rw [← HEQ.out]; simp only [List.append_assoc, List.cons_append, List.nil_append]⟩
     case measure => simp [intOf]; omega
    | list r c it =>
     have hst := HST2.out
     have hokc := HOK1.out
     rw [Form.Ok] at hokc
     have hsc := scan_list r c it HOK1.out ((f.size : Int) - 1) (strs rs) p
     have hst0 := HST.out
     rw [strs] at hst0
     have hdl := congrArg List.length hst0
     simp only [List.length_drop, bytesOf_length, List.length_append, list_len] at hdl
     have hM := match_calls f p
     rw [hst0, hsc] at hM
     have HM := Aside0.mk (fun W => hM W hfs hle)
     clear hM hsc
     obtain ⟨e, he⟩ : ∃ e : Nat, e = p + 2 + (strs it).length := ⟨_, rfl⟩
     have hee : (p : Int) + 2 + ((strs it).length : Int) = (e : Int) := by omega
     rw [hee] at HM
     have hd3 : (bytesOf f).drop (p + 2) = strs it ++ ((if r then 62 else 93) :: strs rs) := by rw [← List.drop_drop, hst0, Form.str]; simp
     have hit : bytesOf (f.extract (p + 2) e) = strs it := by rw [bytesOf_extract f _ _ (by omega) (by omega), hd3, show e - (p + 2) = (strs it).length by omega, List.take_left]
     have hdr : (bytesOf f).drop (e + 1) = strs rs := by rw [show e + 1 = (p + 2) + ((strs it).length + 1) by omega, ← List.drop_drop, hd3, ← List.drop_drop, List.drop_left]; rfl
     have hep : p + 2 ≤ e := by omega
     have hef : e < f.size := by omega
     have hsl := slice_str f (p + 2) e hep (by omega) hfs
     rw [show (((p + 2 : Nat)) : Int) = (p : Int) + 2 by omega] at hsl
     have hisz : (f.extract (p + 2) e).size ≤ 100000 := by have h := congrArg List.length hit; rw [bytesOf_length] at h; omega
     have HDR := Aside0.mk hdr
     have HIT := Aside0.mk hit
     generalize f.extract (p + 2) e = itm at *
     have HSL := Aside0.mk hsl
     clear hdr hit hst0 hd3 hst hdl hee he hsl
     obtain ⟨x, l, z1', hk1, hx, rfl, hit1⟩ := list_wr HW1.out
     obtain ⟨hj, hjx, rfl⟩ := drop_get hk1
     have HIT1 := Aside0.mk hit1
     clear hk1 hit1
     have HC := Aside0.mk (fun (W : World) (hW : Bag Rel b W g ns ks vs i j k un uk uv) => by have h := num_calls hW (by omega) (by omega); rw [rdI ns i hj, hjx] at h; exact h)
     have HIS := Aside0.mk (show SizeOf.sizeOf it ≤ n by have h1 := HSZ.out; have h2 := HN.out; simp at h1; omega)
     obtain ⟨m, rfl⟩ : ∃ m : Nat, x = (m : Int) := ⟨x.toNat, by omega⟩
     rw [Int.toNat_natCast] at HIT1
     have hbt : (if r then (60 : Int) else 91) = bt f p := by have h := HST2.out; rw [Form.str] at h; injection h with h1 h2; exact h1.symm
     have HBT := Aside0.mk hbt
     clear hbt
     have hix := HIX.out
     rw [← HBT.out] at hix
     cases r
     ·skip
      simp only [Bool.false_eq_true, if_false] at hix
      go_wp2_with fail
      refine (HM.out _).mono ?_
      rintro e' w' ⟨rfl, rfl⟩
      go_wp2_with fail
      refine (HC.out _ HB.out).mono ?_
      rintro e w1 ⟨rfl, hb2, hu2⟩
      have HB1 := Aside0.mk hb2
      have HR1 := Aside0.mk (HR.out.ut hu2 (by decide))
      have HU1 := Aside0.mk (HU.out.trans (hu2.mono (by simp)))
      have hb1 : b ≤ w1.heap.size := Nat.le_trans hb HU1.out.size
      clear hb2 hu2
      go_wp2_with fail
      refine (rgroups_calls _ (m : Int) hx.1 hx.2 (by have h := hlt1; simp only [keyB, word, List.length_append, List.length_cons, List.length_nil, bytesOf_length] at h ⊢; omega)).mono ?_
      rintro e w2 ⟨v2, rfl, h1, h2⟩
      have HQ2 := Aside0.mk h1
      have HB2 := Aside0.mk (HB1.out.below h2)
      have HR2 := Aside0.mk (HR1.out.below h2)
      have HU2 := Aside0.mk (HU1.out.trans (UT.of_below _ _ h2))
      have hb2 : b ≤ w2.heap.size := Nat.le_trans hb HU2.out.size
      clear h1 h2
      go_wp2_with (at_builtin; refine appOwn rfl (.tmp 40) (.tmp 42) rfl _ v2 (ys) (grp (m : Int)) rfl rfl HR2.out HQ2.out hb2 (by have h := hlt1; simp only [keyB, word, List.length_append, List.length_cons, List.length_nil, bytesOf_length] at h ⊢; omega) ?_; intro v3 w3 h1 h2; (have HR3 := Aside0.mk h1); (have HB3 := Aside0.mk (HB2.out.ut (UT.of5 h2 (T := [5]) (by decide)) (by decide))); (have HU3 := Aside0.mk (HU2.out.trans (UT.of5 h2 (by decide)))); (have hb3 : b ≤ w3.heap.size := Nat.le_trans hb HU3.out.size); clear h1 h2)
      clear hix
      go_loopw [1, 11] (fun u mv W => WrF Rel b w g ns ks vs un uk uv it rs (xs ++ zs) q m u mv W) (fun _ mv _ => m - (intOf mv).toNat)
      case atStart => exact ⟨0, i + 1, j, k, _, z1', q1, z2, rfl, Nat.zero_le _, HR3.out, HB3.out.cast (by omega) rfl rfl, HU3.out, HIT1.out, HW2.out, by rw [← HEQ.out]; simp only [List.append_assoc]⟩
      case round =>
       obtain ⟨wo, rfl⟩ : ∃ wo : World, wo = wr := ⟨_, rfl⟩
       obtain ⟨m1, i1, j1, k1, ys1, ts1, q1', t2, rfl, hle1, hrow1, hbag1, hup1, hwr1, hwr2, heq1⟩ := hrel
       have HRJ := Aside0.mk hrow1
       have HBJ := Aside0.mk hbag1
       have HUJ := Aside0.mk hup1
       have HWJ := Aside0.mk hwr1
       have HWK := Aside0.mk hwr2
       have HEJ := Aside0.mk heq1
       have hbj : b ≤ wo.heap.size := Nat.le_trans hb hup1.size
       have hlj : (ys1 ++ ts1).length ≤ 140737488355328 := by have h := HL.out; rw [← heq1] at h; simp only [List.length_append] at h ⊢; omega
       clear hrow1 hbag1 hup1 hwr1 hwr2 heq1
       by_cases hm1 : m1 < m
       ·have h := HWJ.out
        rw [show m - m1 = (m - m1 - 1) + 1 by omega] at h
        obtain ⟨za, qa, zb, hga, hgb, rfl⟩ := iter_succ _ _ _ h
        have HGB := Aside0.mk hgb
        have HX := Aside0.mk (HIH.out it HIS.out hokc.2 itm hisz HIT.out b wo u1 ys1 g ns ks vs i1 j1 k1 un uk uv HRJ.out hbj HBJ.out (fun W hW => HREL.out W ((HUJ.out.below hb).trans hW)) qa za hga (by simp only [List.length_append] at hlj ⊢; omega))
        have hsl := HSL.out
        clear h hga hgb
        go_wp2_with fail
        refine HX.out.mono ?_
        rintro e' w6 hp6
        obtain ⟨u6, i6, j6, k6, rfl, r6, b6, t6, rfl⟩ := hp6
        have HR6 := Aside0.mk r6
        have HB6 := Aside0.mk b6
        have HU6 := Aside0.mk (HUJ.out.trans t6)
        clear r6 b6 t6 hsl
        go_wp2
        go_roundw
        case rel => exact ⟨m1 + 1, i6, j6, k6, _, zb, q1', t2, by simp, by omega, HR6.out, HB6.out, HU6.out, (by have h := HGB.out; rwa [show m - m1 - 1 = m - (m1 + 1) by omega] at h), HWK.out, by rw [← HEJ.out]; simp only [List.append_assoc]⟩
        case measure => simp [intOf]; omega
       ·have h := HWJ.out
        rw [show m - m1 = 0 by omega, iter] at h
        injection h with h
        injection h with h1 h2
        subst h1 h2
        have hmr : ¬ (m1 : Int) < (m : Int) := by omega
        go_wp2
        go_roundw
        case rel => exact ⟨e + 1, i1, j1, k1, rs, _, t2, by simp, by omega, HOK2.out, HDR.out, by have := HSZ.out; simp at this ⊢; omega, HRJ.out, HBJ.out, HUJ.out, HWK.out, by rw [← HEJ.out]; simp only [List.append_nil]⟩
        case measure => simp [intOf]; omega
     ·skip
      simp only [if_true] at hix
      go_wp2_with fail
      refine (HM.out _).mono ?_
      rintro e' w' ⟨rfl, rfl⟩
      go_wp2_with fail
      refine (HC.out _ HB.out).mono ?_
      rintro e w1 ⟨rfl, hb2, hu2⟩
      have HB1 := Aside0.mk hb2
      have HR1 := Aside0.mk (HR.out.ut hu2 (by decide))
      have HU1 := Aside0.mk (HU.out.trans (hu2.mono (by simp)))
      have hb1 : b ≤ w1.heap.size := Nat.le_trans hb HU1.out.size
      clear hb2 hu2
      go_wp2_with fail
      refine (rgroups_calls _ (m : Int) hx.1 hx.2 (by have h := hlt1; simp only [keyB, word, List.length_append, List.length_cons, List.length_nil, bytesOf_length] at h ⊢; omega)).mono ?_
      rintro e w2 ⟨v2, rfl, h1, h2⟩
      have HQ2 := Aside0.mk h1
      have HB2 := Aside0.mk (HB1.out.below h2)
      have HR2 := Aside0.mk (HR1.out.below h2)
      have HU2 := Aside0.mk (HU1.out.trans (UT.of_below _ _ h2))
      have hb2 : b ≤ w2.heap.size := Nat.le_trans hb HU2.out.size
      clear h1 h2
      go_wp2_with (at_builtin; refine appOwn rfl (.tmp 40) (.tmp 42) rfl _ v2 (ys) (grp (m : Int)) rfl rfl HR2.out HQ2.out hb2 (by have h := hlt1; simp only [keyB, word, List.length_append, List.length_cons, List.length_nil, bytesOf_length] at h ⊢; omega) ?_; intro v3 w3 h1 h2; (have HR3 := Aside0.mk h1); (have HB3 := Aside0.mk (HB2.out.ut (UT.of5 h2 (T := [5]) (by decide)) (by decide))); (have HU3 := Aside0.mk (HU2.out.trans (UT.of5 h2 (by decide)))); (have hb3 : b ≤ w3.heap.size := Nat.le_trans hb HU3.out.size); clear h1 h2)
      clear hix
      go_loopw [1, 11] (fun u mv W => WrF Rel b w g ns ks vs un uk uv it rs (xs ++ zs) q m u mv W) (fun _ mv _ => m - (intOf mv).toNat)
      case atStart => exact ⟨0, i + 1, j, k, _, z1', q1, z2, rfl, Nat.zero_le _, HR3.out, HB3.out.cast (by omega) rfl rfl, HU3.out, HIT1.out, HW2.out, by rw [← HEQ.out]; simp only [List.append_assoc]⟩
      case round =>
       obtain ⟨wo, rfl⟩ : ∃ wo : World, wo = wr := ⟨_, rfl⟩
       obtain ⟨m1, i1, j1, k1, ys1, ts1, q1', t2, rfl, hle1, hrow1, hbag1, hup1, hwr1, hwr2, heq1⟩ := hrel
       have HRJ := Aside0.mk hrow1
       have HBJ := Aside0.mk hbag1
       have HUJ := Aside0.mk hup1
       have HWJ := Aside0.mk hwr1
       have HWK := Aside0.mk hwr2
       have HEJ := Aside0.mk heq1
       have hbj : b ≤ wo.heap.size := Nat.le_trans hb hup1.size
       have hlj : (ys1 ++ ts1).length ≤ 140737488355328 := by have h := HL.out; rw [← heq1] at h; simp only [List.length_append] at h ⊢; omega
       clear hrow1 hbag1 hup1 hwr1 hwr2 heq1
       by_cases hm1 : m1 < m
       ·have h := HWJ.out
        rw [show m - m1 = (m - m1 - 1) + 1 by omega] at h
        obtain ⟨za, qa, zb, hga, hgb, rfl⟩ := iter_succ _ _ _ h
        have HGB := Aside0.mk hgb
        have HX := Aside0.mk (HIH.out it HIS.out hokc.2 itm hisz HIT.out b wo u1 ys1 g ns ks vs i1 j1 k1 un uk uv HRJ.out hbj HBJ.out (fun W hW => HREL.out W ((HUJ.out.below hb).trans hW)) qa za hga (by simp only [List.length_append] at hlj ⊢; omega))
        have hsl := HSL.out
        clear h hga hgb
        go_wp2_with fail
        refine HX.out.mono ?_
        rintro e' w6 hp6
        obtain ⟨u6, i6, j6, k6, rfl, r6, b6, t6, rfl⟩ := hp6
        have HR6 := Aside0.mk r6
        have HB6 := Aside0.mk b6
        have HU6 := Aside0.mk (HUJ.out.trans t6)
        clear r6 b6 t6 hsl
        go_wp2
        go_roundw
        case rel => exact ⟨m1 + 1, i6, j6, k6, _, zb, q1', t2, by simp, by omega, HR6.out, HB6.out, HU6.out, (by have h := HGB.out; rwa [show m - m1 - 1 = m - (m1 + 1) by omega] at h), HWK.out, by rw [← HEJ.out]; simp only [List.append_assoc]⟩
        case measure => simp [intOf]; omega
       ·have h := HWJ.out
        rw [show m - m1 = 0 by omega, iter] at h
        injection h with h
        injection h with h1 h2
        subst h1 h2
        have hmr : ¬ (m1 : Int) < (m : Int) := by omega
        go_wp2
        go_roundw
        case rel => exact ⟨e + 1, i1, j1, k1, rs, _, t2, by simp, by omega, HOK2.out, HDR.out, by have := HSZ.out; simp at this ⊢; omega, HRJ.out, HBJ.out, HUJ.out, HWK.out, by rw [← HEJ.out]; simp only [List.append_nil]⟩
        case measure => simp [intOf]; omega
end Go.Proofs.Ythmkioodkldgbaa.DK
