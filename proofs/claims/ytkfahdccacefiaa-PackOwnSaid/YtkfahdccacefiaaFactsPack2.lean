
/- What the printed functions of pack and of its reference tell: texts, lists of texts, sizes, and what is put. -/
import Derived.Test.YtkfahdccacefiaaFactsPack
import Derived.Test.YtkfahdccacefiaaPrint1
import Derived.Test.YtkfahdccacefiaaPrint2
import Derived.Test.YtkfahdccacefiaaPrint3
import Derived.Test.YtkfahdccacefiaaPrint4
namespace Go.Proofs.Ytkfahdccacefiaa.Facts
set_option linter.unusedVariables false
set_option linter.unusedSimpArgs false
open Go.RowKit Go.Proofs.Ytkfahdccacefiaa.Print Go.Proofs.YtkfahdccacefiaaW.PrintWords Go.Proofs.YtkfahdccacefiaaW.PrintLast Go.Proofs.YtkfahdccacefiaaW.PrintMore
def ansTT : Option (List UInt8 × List UInt8) → ByteArray × ByteArray × Int
  | some (t, r) => (lB t, lB r, 0)
  | none => ((⟨#[]⟩ : ByteArray), (⟨#[]⟩ : ByteArray), 70)
def ansK : List ByteArray → Option (List (List UInt8) × List UInt8) → List ByteArray × ByteArray × Int
  | o, some (l, r) => (o ++ l.map lB, lB r, 0)
  | _, none => ([], (⟨#[]⟩ : ByteArray), 70)
theorem rest_le {s : List UInt8} {v : Int} {r : List UInt8} (h : takeS s = some (v, r)) : r.length < s.length := takeS_lt h
theorem pack_TakeText_eq (s : ByteArray) (hs : s.size ≤ 1152921504606846976) (k : Nat) (hk : 10 < k) : pack_TakeText.f k s = some (ansTT (takeTextS (bL s))) := by
  unfold pack_TakeText.f takeTextS
  rw [pack_Take_eq s hs k hk]
  cases h : takeS (bL s) with
  | none => simp [ansT, ansTT]
  | some p =>
    obtain ⟨v, r⟩ := p
    have hl := takeS_lt h
    rw [bL_size] at hl
    obtain ⟨g1, g2, _⟩ := takeS_some h
    simp only [ansT, Option.bind_some, lB_size]
    rw [nwr (by omega) (by omega)]
    by_cases c : v ≤ (r.length : Int)
    · rw [if_pos trivial, if_neg (by omega), if_pos g1, if_pos c, if_pos c, extract_head, ← lB_size, extract_tail, bL_lB]; rfl
    · rw [if_pos trivial, if_pos (by omega), if_neg c]; rfl
theorem ref07_TakeText_eq (s : ByteArray) (hs : s.size ≤ 1152921504606846976) (k : Nat) (hk : 33 < k) : linhayref07_TakeText.f k s = some (ansTT (takeTextS (bL s))) := by
  unfold linhayref07_TakeText.f takeTextS
  rw [ref07_Take_eq s hs k hk]
  cases h : takeS (bL s) with
  | none => simp [ansT, ansTT]
  | some p =>
    obtain ⟨v, r⟩ := p
    have hl := takeS_lt h
    rw [bL_size] at hl
    obtain ⟨g1, g2, _⟩ := takeS_some h
    simp only [ansT, Option.bind_some, lB_size]
    rw [nwr (by omega) (by omega)]
    by_cases c : v ≤ (r.length : Int)
    · rw [if_pos trivial, if_neg (by omega), nw64 (by omega) (by omega), if_pos g1, if_pos c, if_pos c, extract_head, ← lB_size, extract_tail, bL_lB]; rfl
    · rw [if_pos trivial, if_pos (by omega), if_neg c]; rfl
theorem ansK_cons (o : List ByteArray) (t : List UInt8) (x : Option (List (List UInt8) × List UInt8)) : ansK (o ++ [lB t]) x = ansK o (x.bind fun q => some (t :: q.1, q.2)) := by
  cases x with
  | none => rfl
  | some q => simp [ansK]
theorem pack_TakeTexts_loop (j : Nat) : ∀ (k : Nat) (s : ByteArray) (o : List ByteArray) (m i : Nat), (bL s).length ≤ j → j ≤ 1000000 → o.length + j ≤ 1000000 → i + m < 1152921504606846976 → j + 11 < k →
    pack_TakeTexts.l0 k o s ((i + m : Nat) : Int) (i : Int) = some (ansK o (takeK m (bL s))) := by
  induction j with
  | zero =>
    intro k s o m i hl hj ho him hk
    obtain ⟨k, rfl⟩ : ∃ q, k = q + 1 := ⟨k - 1, by omega⟩
    simp only [pack_TakeTexts.l0]
    cases m with
    | zero => rw [if_neg (by omega)]; simp [takeK, ansK, lB_bL]
    | succ m =>
      rw [if_pos (by omega), takeK_few (m + 1) (bL s) (by omega), pack_TakeText_eq s (by rw [← bL_size]; omega) k (by omega)]
      cases h : takeTextS (bL s) with
      | none => simp [ansTT, ansK]
      | some p => have := takeTextS_lt (t := p.1) (r := p.2) h; omega
  | succ j ih =>
    intro k s o m i hl hj ho him hk
    obtain ⟨k, rfl⟩ : ∃ q, k = q + 1 := ⟨k - 1, by omega⟩
    simp only [pack_TakeTexts.l0]
    cases m with
    | zero => rw [if_neg (by omega)]; simp [takeK, ansK, lB_bL]
    | succ m =>
      rw [if_pos (by omega), pack_TakeText_eq s (by rw [← bL_size]; omega) k (by omega)]
      simp only [takeK]
      cases h : takeTextS (bL s) with
      | none => simp [ansTT, ansK]
      | some p =>
        obtain ⟨t, r⟩ := p
        have hr := takeTextS_lt h
        simp only [ansTT, Option.bind_some]
        rw [if_pos trivial, if_pos (by omega)]
        have e : IntKind.u64.wrap ((i : Int) + 1) = ((i + 1 : Nat) : Int) := by rw [nwr (by omega) (by omega)]; omega
        have e2 : i + (m + 1) = (i + 1) + m := by omega
        rw [e, e2, ih k (lB r) (o ++ [lB t]) m (i + 1) (by rw [bL_lB]; omega) (by omega) (by simp; omega) (by omega) (by omega), bL_lB, ansK_cons]
theorem pack_TakeTexts_eq (s : ByteArray) (hs : s.size ≤ 900000) (k : Nat) (hk : s.size + 20 < k) : pack_TakeTexts.f k s = some (ansK [] (takeTextsS (bL s))) := by
  unfold pack_TakeTexts.f takeTextsS
  rw [pack_Take_eq s (by omega) k (by omega)]
  obtain ⟨k, rfl⟩ : ∃ q, k = q + 1 := ⟨k - 1, by omega⟩
  cases h : takeS (bL s) with
  | none => simp [ansT, pack_TakeTexts.j0, ansK]
  | some p =>
    obtain ⟨v, r⟩ := p
    have hl := takeS_lt h
    rw [bL_size] at hl
    obtain ⟨g1, g2, _⟩ := takeS_some h
    simp only [ansT, Option.bind_some, lB_size]
    rw [nwr (by omega) (by omega), if_pos trivial]
    simp only [pack_TakeTexts.j0]
    by_cases c : v > (r.length : Int)
    · rw [decide_eq_true c, if_pos rfl, takeK_few _ _ (by omega)]; rfl
    · rw [decide_eq_false c, if_neg (by simp)]
      have := pack_TakeTexts_loop r.length k (lB r) [] v.toNat 0 (by rw [bL_lB]; omega) (by omega) (by simp; omega) (by omega) (by omega)
      rw [bL_lB, Nat.zero_add, Int.toNat_of_nonneg g1] at this
      exact this
theorem ref07_TakeTexts_loop (j : Nat) : ∀ (k : Nat) (s : ByteArray) (o : List ByteArray) (v : Int), (bL s).length ≤ j → j ≤ 1000000 → o.length + j ≤ 1000000 → (o.length : Int) ≤ v → j + 40 < k →
    linhayref07_TakeTexts.l0 k v s o = some (ansK o (takeK (v - o.length).toNat (bL s))) := by
  induction j with
  | zero =>
    intro k s o v hl hj ho hv hk
    obtain ⟨k, rfl⟩ : ∃ q, k = q + 1 := ⟨k - 1, by omega⟩
    simp only [linhayref07_TakeTexts.l0]
    rw [nwr (by omega) (by omega)]
    by_cases c : (o.length : Int) < v
    · rw [if_pos c, takeK_few _ (bL s) (by omega), ref07_TakeText_eq s (by rw [← bL_size]; omega) k (by omega)]
      cases h : takeTextS (bL s) with
      | none => simp [ansTT, ansK]
      | some p => have := takeTextS_lt (t := p.1) (r := p.2) h; omega
    · have : (v - o.length).toNat = 0 := by omega
      rw [if_neg c, this]; simp [takeK, ansK, lB_bL]
  | succ j ih =>
    intro k s o v hl hj ho hv hk
    obtain ⟨k, rfl⟩ : ∃ q, k = q + 1 := ⟨k - 1, by omega⟩
    simp only [linhayref07_TakeTexts.l0]
    rw [nwr (by omega) (by omega)]
    by_cases c : (o.length : Int) < v
    · obtain ⟨m, hm⟩ : ∃ m, (v - o.length).toNat = m + 1 := ⟨(v - o.length).toNat - 1, by omega⟩
      rw [if_pos c, hm, ref07_TakeText_eq s (by rw [← bL_size]; omega) k (by omega)]
      simp only [takeK]
      cases h : takeTextS (bL s) with
      | none => simp [ansTT, ansK]
      | some p =>
        obtain ⟨t, r⟩ := p
        have hr := takeTextS_lt h
        simp only [ansTT, Option.bind_some]
        rw [if_pos trivial, if_pos (by omega)]
        have e : (v - ((o ++ [lB t]).length : Int)).toNat = m := by simp; omega
        rw [ih k (lB r) (o ++ [lB t]) v (by rw [bL_lB]; omega) (by omega) (by simp; omega) (by simp; omega) (by omega), bL_lB, e, ansK_cons]
    · have : (v - o.length).toNat = 0 := by omega
      rw [if_neg c, this]; simp [takeK, ansK, lB_bL]
theorem ref07_TakeTexts_eq (s : ByteArray) (hs : s.size ≤ 900000) (k : Nat) (hk : s.size + 40 < k) : linhayref07_TakeTexts.f k s = some (ansK [] (takeTextsS (bL s))) := by
  unfold linhayref07_TakeTexts.f takeTextsS
  rw [ref07_Take_eq s (by omega) k (by omega)]
  cases h : takeS (bL s) with
  | none => simp [ansT, ansK]
  | some p =>
    obtain ⟨v, r⟩ := p
    have hl := takeS_lt h
    rw [bL_size] at hl
    obtain ⟨g1, g2, _⟩ := takeS_some h
    simp only [ansT, Option.bind_some]
    rw [if_pos trivial]
    have := ref07_TakeTexts_loop r.length k (lB r) [] v (by rw [bL_lB]; omega) (by omega) (by simp; omega) (by simpa using g1) (by omega)
    rw [bL_lB] at this
    simpa using this
def W64l (l : List Int) : Prop := ∀ x ∈ l, 0 ≤ x ∧ x < 18446744073709551616
theorem pack_Put_eq (a : ByteArray) (l : List Int) (hl : W64l l) (hs : a.size + 10 * l.length ≤ 1099511627000) : pack_Put.f a l = some (lB (bL a ++ encs l)) := by
  unfold pack_Put.f
  rw [if_pos ⟨hl, hs⟩]; rfl
theorem encs_one (n : Int) : encs [n] = enc n := by simp [Print.encs]
theorem encs_cons (n : Int) (l : List Int) : encs (n :: l) = enc n ++ encs l := by simp [Print.encs]
theorem encs_append (a b : List Int) : encs (a ++ b) = encs a ++ encs b := by simp [Print.encs]
theorem enc_len (n : Int) : (enc n).length ≤ 10 := encF_len 9 n
theorem w64_one {n : Int} (h0 : 0 ≤ n) (h1 : n < 18446744073709551616) : W64l [n] := by intro x hx; simp at hx; subst hx; exact ⟨h0, h1⟩
theorem pack_Text_eq (a t : ByteArray) (hs : a.size + t.size ≤ 109951162700) : pack_Text.f a t = some (lB (bL a ++ textS (bL t))) := by
  unfold pack_Text.f
  rw [pack_Put_eq a _ (w64_one (by omega) (by omega)) (by simp; omega), encs_one]
  simp only [Option.bind_some]
  have := enc_len (t.size : Int)
  rw [if_pos (by rw [lB_size, List.length_append, bL_size]; omega)]
  unfold textS
  rw [bL_size, ← List.append_assoc]
  conv => lhs; arg 1; arg 2; rw [← lB_bL t]
  rw [lB_append]
def bLs (l : List ByteArray) : List (List UInt8) := l.map bL
def tot (l : List ByteArray) : Nat := l.foldr (fun t n => t.size + 20 + n) 0
theorem tot_cons (t : ByteArray) (l : List ByteArray) : tot (t :: l) = t.size + 20 + tot l := rfl
theorem textS_len (t : List UInt8) : (textS t).length ≤ t.length + 10 := by have := enc_len (t.length : Int); unfold textS; simp; omega
theorem rdOf_drop {l : List ByteArray} {i : Nat} {t : ByteArray} {r : List ByteArray} (h : l.drop i = t :: r) : rdOf ByteArray.empty l (i : Int) = t ∧ i < l.length ∧ l.drop (i + 1) = r := by
  have hl : i < l.length := by
    rcases Nat.lt_or_ge i l.length with k | k
    · exact k
    · rw [List.drop_eq_nil_of_le k] at h; cases h
  have e := List.drop_eq_getElem_cons hl
  rw [h] at e
  obtain ⟨e1, e2⟩ := List.cons.inj e
  refine ⟨?_, hl, e2.symm⟩
  unfold rdOf
  rw [Int.toNat_natCast, List.getD_eq_getElem?_getD, List.getElem?_eq_getElem hl, ← e1]; rfl
theorem rd_drop {l : List Int} {i : Nat} {t : Int} {r : List Int} (h : l.drop i = t :: r) : rd l (i : Int) = t ∧ i < l.length ∧ l.drop (i + 1) = r := by
  have hl : i < l.length := by
    rcases Nat.lt_or_ge i l.length with k | k
    · exact k
    · rw [List.drop_eq_nil_of_le k] at h; cases h
  have e := List.drop_eq_getElem_cons hl
  rw [h] at e
  obtain ⟨e1, e2⟩ := List.cons.inj e
  refine ⟨?_, hl, e2.symm⟩
  unfold rd
  rw [Int.toNat_natCast, List.getD_eq_getElem?_getD, List.getElem?_eq_getElem hl, ← e1]; rfl
theorem pack_Texts_loop (l : List ByteArray) (hl : l.length ≤ 1000000) (r : List ByteArray) : ∀ (k i : Nat) (a : ByteArray), l.drop i = r → i ≤ l.length → a.size + tot r ≤ 10000000000 → r.length < k →
    pack_Texts.l0 k a l (l.length : Int) (i : Int) = some (lB (bL a ++ textsK (bLs r))) := by
  induction r with
  | nil =>
    intro k i a hr hi hs hk
    obtain ⟨k, rfl⟩ : ∃ q, k = q + 1 := ⟨k - 1, by simp at hk; omega⟩
    have : l.length ≤ i := List.drop_eq_nil_iff.mp hr
    simp only [pack_Texts.l0]
    rw [if_neg (by omega)]
    simp [bLs, textsK, lB_bL]
  | cons t r ih =>
    intro k i a hr hi hs hk
    simp only [List.length_cons] at hk
    obtain ⟨k, rfl⟩ : ∃ q, k = q + 1 := ⟨k - 1, by omega⟩
    obtain ⟨e1, e2, e3⟩ := rdOf_drop hr
    rw [tot_cons] at hs
    have hx := textS_len (bL t)
    rw [bL_size] at hx
    have w1 : wrap64 ((i : Int) + 1) = ((i + 1 : Nat) : Int) := by unfold wrap64; omega
    simp only [pack_Texts.l0]
    rw [if_pos (by omega), if_pos (by omega), if_pos (by omega), e1, pack_Text_eq a t (by omega)]
    simp only [Option.bind_some]
    rw [w1, ih k (i + 1) _ e3 (by omega) (by rw [lB_size, List.length_append, bL_size]; omega) (by omega), bL_lB]
    simp [bLs, textsK]
theorem pack_Texts_eq (a : ByteArray) (l : List ByteArray) (hl : l.length ≤ 1000000) (hs : a.size + tot l ≤ 9000000000) (k : Nat) (hk : l.length < k) : pack_Texts.f k a l = some (lB (bL a ++ textsS (bLs l))) := by
  unfold pack_Texts.f
  rw [nwr (by omega) (by omega), pack_Put_eq a _ (w64_one (by omega) (by omega)) (by simp; omega), encs_one]
  simp only [Option.bind_some]
  have := enc_len (l.length : Int)
  have e := pack_Texts_loop l hl l k 0 (lB (bL a ++ enc (l.length : Int))) rfl (by omega) (by rw [lB_size, List.length_append, bL_size]; omega) hk
  rw [bL_lB] at e
  have e2 : textsS (bLs l) = enc (l.length : Int) ++ textsK (bLs l) := by unfold textsS bLs; rw [List.length_map]
  rw [e2, ← List.append_assoc]
  exact e
theorem ref07_Put_loop (l : List Int) (hl : l.length ≤ 1000000) (hw : W64l l) (r : List Int) : ∀ (k i : Nat) (a : ByteArray), l.drop i = r → i ≤ l.length → a.size + 10 * r.length ≤ 10000000000 → r.length + 10 < k →
    linhayref07_Put.l0 k a l (i : Int) = some (lB (bL a ++ encs r)) := by
  induction r with
  | nil =>
    intro k i a hr hi hs hk
    obtain ⟨k, rfl⟩ : ∃ q, k = q + 1 := ⟨k - 1, by simp at hk; omega⟩
    have : l.length ≤ i := List.drop_eq_nil_iff.mp hr
    simp only [linhayref07_Put.l0]
    rw [if_neg (by omega)]
    simp [Print.encs, lB_bL]
  | cons t r ih =>
    intro k i a hr hi hs hk
    simp only [List.length_cons] at hk hs
    obtain ⟨k, rfl⟩ : ∃ q, k = q + 1 := ⟨k - 1, by omega⟩
    obtain ⟨e1, e2, e3⟩ := rd_drop hr
    have ht0 : t ∈ l.drop i := by rw [hr]; exact List.mem_cons_self ..
    have ht := hw t (List.mem_of_mem_drop ht0)
    have hx := enc_len t
    have w1 : wrap64 ((i : Int) + 1) = ((i + 1 : Nat) : Int) := by unfold wrap64; omega
    simp only [linhayref07_Put.l0]
    rw [if_pos (by omega), if_pos (by omega), e1, ref07_One_eq ht.1 ht.2 k (by omega)]
    simp only [Option.bind_some]
    rw [if_pos (by rw [lB_size]; omega)]
    have ea : a ++ lB (enc t) = lB (bL a ++ enc t) := by rw [← lB_append, lB_bL]
    rw [w1, ea, ih k (i + 1) _ e3 (by omega) (by rw [lB_size, List.length_append, bL_size]; omega) (by omega), bL_lB, encs_cons, List.append_assoc]
theorem ref07_Put_eq (a : ByteArray) (l : List Int) (hw : W64l l) (hl : l.length ≤ 1000000) (hs : a.size ≤ 1000000) (k : Nat) (hk : l.length + 10 < k) : linhayref07_Put.f k a l = some (lB (bL a ++ encs l)) :=
  ref07_Put_loop l hl hw l k 0 a rfl (by omega) (by omega) hk
theorem ref07_Text_eq (a t : ByteArray) (hs : a.size + t.size ≤ 109951162700) (k : Nat) (hk : 10 < k) : linhayref07_Text.f k a t = some (lB (bL a ++ textS (bL t))) := by
  unfold linhayref07_Text.f
  rw [ref07_One_eq (by omega) (by omega) k (by omega)]
  simp only [Option.bind_some]
  have := enc_len (t.size : Int)
  have ea : a ++ lB (enc (t.size : Int)) = lB (bL a ++ enc (t.size : Int)) := by rw [← lB_append, lB_bL]
  rw [if_pos (by rw [lB_size]; omega), ea, if_pos (by rw [lB_size, List.length_append, bL_size]; omega)]
  unfold textS
  rw [bL_size, ← List.append_assoc]
  conv => lhs; arg 1; arg 2; rw [← lB_bL t]
  rw [lB_append]
theorem ref07_Texts_loop (l : List ByteArray) (hl : l.length ≤ 1000000) (r : List ByteArray) : ∀ (k i : Nat) (a : ByteArray), l.drop i = r → i ≤ l.length → a.size + tot r ≤ 10000000000 → r.length + 11 < k →
    linhayref07_Texts.l0 k a l (i : Int) = some (lB (bL a ++ textsK (bLs r))) := by
  induction r with
  | nil =>
    intro k i a hr hi hs hk
    obtain ⟨k, rfl⟩ : ∃ q, k = q + 1 := ⟨k - 1, by simp at hk; omega⟩
    have : l.length ≤ i := List.drop_eq_nil_iff.mp hr
    simp only [linhayref07_Texts.l0]
    rw [if_neg (by omega)]
    simp [bLs, textsK, lB_bL]
  | cons t r ih =>
    intro k i a hr hi hs hk
    simp only [List.length_cons] at hk
    obtain ⟨k, rfl⟩ : ∃ q, k = q + 1 := ⟨k - 1, by omega⟩
    obtain ⟨e1, e2, e3⟩ := rdOf_drop hr
    rw [tot_cons] at hs
    have hx := textS_len (bL t)
    rw [bL_size] at hx
    have w1 : wrap64 ((i : Int) + 1) = ((i + 1 : Nat) : Int) := by unfold wrap64; omega
    simp only [linhayref07_Texts.l0]
    rw [if_pos (by omega), if_pos (by omega), e1, ref07_Text_eq a t (by omega) k (by omega)]
    simp only [Option.bind_some]
    rw [w1, ih k (i + 1) _ e3 (by omega) (by rw [lB_size, List.length_append, bL_size]; omega) (by omega), bL_lB]
    simp [bLs, textsK]
theorem ref07_Texts_eq (a : ByteArray) (l : List ByteArray) (hl : l.length ≤ 1000000) (hs : a.size + tot l ≤ 9000000000) (k : Nat) (hk : l.length + 11 < k) : linhayref07_Texts.f k a l = some (lB (bL a ++ textsS (bLs l))) := by
  unfold linhayref07_Texts.f
  rw [nwr (by omega) (by omega), ref07_One_eq (by omega) (by omega) k (by omega)]
  simp only [Option.bind_some]
  have := enc_len (l.length : Int)
  have ea : a ++ lB (enc (l.length : Int)) = lB (bL a ++ enc (l.length : Int)) := by rw [← lB_append, lB_bL]
  rw [if_pos (by rw [lB_size]; omega), ea]
  have e := ref07_Texts_loop l hl l k 0 (lB (bL a ++ enc (l.length : Int))) rfl (by omega) (by rw [lB_size, List.length_append, bL_size]; omega) hk
  rw [bL_lB] at e
  have e2 : textsS (bLs l) = enc (l.length : Int) ++ textsK (bLs l) := by unfold textsS bLs; rw [List.length_map]
  rw [e2, ← List.append_assoc]
  exact e
theorem ref07_Same_loop (l : List ByteArray) (hl : l.length ≤ 1000000) (j : Nat) : ∀ (k i : Nat), i + j = l.length → j < k → linhayref07_Same.l0 k l l (i : Int) = some true := by
  induction j with
  | zero =>
    intro k i hi hk
    obtain ⟨k, rfl⟩ : ∃ q, k = q + 1 := ⟨k - 1, by omega⟩
    simp only [linhayref07_Same.l0]
    rw [if_neg (by omega)]
  | succ j ih =>
    intro k i hi hk
    obtain ⟨k, rfl⟩ : ∃ q, k = q + 1 := ⟨k - 1, by omega⟩
    have w1 : wrap64 ((i : Int) + 1) = ((i + 1 : Nat) : Int) := by unfold wrap64; omega
    simp only [linhayref07_Same.l0]
    rw [if_pos (by omega), if_pos (by omega), if_pos (by omega), if_pos trivial, w1]
    exact ih k (i + 1) (by omega) (by omega)
theorem ref07_Same_eq (l : List ByteArray) (hl : l.length ≤ 1000000) (k : Nat) (hk : l.length < k) : linhayref07_Same.f k l l = some true := by
  unfold linhayref07_Same.f
  rw [if_pos rfl]
  exact ref07_Same_loop l hl l.length k 0 (by omega) hk
theorem ref07_Few_loop (l : List ByteArray) (hl : l.length ≤ 9223372036854775807) (m : Int) (r : List ByteArray) : ∀ (k i : Nat), l.drop i = r → i ≤ l.length → r.length < k → ∃ b, linhayref07_Few.l0 k l m (i : Int) = some b ∧ (b = true → (∀ t ∈ r, t.size ≤ 1000) ∧ (l.length : Int) ≤ m) := by
  induction r with
  | nil =>
    intro k i hr hi hk
    obtain ⟨k, rfl⟩ : ∃ q, k = q + 1 := ⟨k - 1, by simp at hk; omega⟩
    have : l.length ≤ i := List.drop_eq_nil_iff.mp hr
    simp only [linhayref07_Few.l0]
    rw [if_neg (by omega)]
    exact ⟨_, rfl, fun h => ⟨by simp, by simpa using h⟩⟩
  | cons t r ih =>
    intro k i hr hi hk
    simp only [List.length_cons] at hk
    obtain ⟨k, rfl⟩ : ∃ q, k = q + 1 := ⟨k - 1, by omega⟩
    obtain ⟨e1, e2, e3⟩ := rdOf_drop hr
    have w1 : wrap64 ((i : Int) + 1) = ((i + 1 : Nat) : Int) := by unfold wrap64; omega
    simp only [linhayref07_Few.l0]
    rw [if_pos (by omega), if_pos (by omega), e1]
    by_cases c : (t.size : Int) > 1000
    · rw [if_pos c]; exact ⟨false, rfl, by simp⟩
    · rw [if_neg c, w1]
      obtain ⟨b, hb, hh⟩ := ih k (i + 1) e3 (by omega) (by omega)
      refine ⟨b, hb, fun h => ⟨?_, (hh h).2⟩⟩
      intro x hx
      rcases List.mem_cons.mp hx with rfl | hx
      · omega
      · exact (hh h).1 x hx
theorem ref07_Few_eq (l : List ByteArray) (hl : l.length ≤ 9223372036854775807) (m : Int) (k : Nat) (hk : l.length < k) : ∃ b, linhayref07_Few.f k l m = some b ∧ (b = true → (∀ t ∈ l, t.size ≤ 1000) ∧ (l.length : Int) ≤ m) :=
  ref07_Few_loop l hl m l k 0 rfl (by omega) hk
theorem tot_le (l : List ByteArray) (h : ∀ t ∈ l, t.size ≤ 1000) : tot l ≤ 1020 * l.length := by
  induction l with
  | nil => simp [tot]
  | cons t l ih =>
    rw [tot_cons, List.length_cons]
    have := ih (fun x hx => h x (List.mem_cons_of_mem _ hx))
    have := h t (List.mem_cons_self ..)
    omega
theorem or1_lt (x j k : Nat) (hk : k = j + 1) (h : x < 18446744073709551616) : (x ||| 1 : Nat) < 18446744073709551616 := by
  have e : (18446744073709551616 : Nat) = 2 ^ 64 := by decide
  rw [e] at h ⊢
  exact Nat.or_lt_two_pow h (Nat.one_lt_two_pow (by decide))
theorem or_one (n : Int) (h0 : 0 ≤ n) (h1 : n < 18446744073709551616) : ∃ m : Nat, Go.bits .or .u64 n 1 = (m : Int) ∧ m ≠ 0 ∧ n ≤ m ∧ (m : Int) < 18446744073709551616 ∧ ∀ q : Nat, n < 128 ^ (q + 1) → (m : Int) < 128 ^ (q + 1) := by
  obtain ⟨x, rfl⟩ : ∃ x : Nat, n = x := ⟨n.toNat, by omega⟩
  refine ⟨x ||| 1, ?_, ?_, ?_, ?_, ?_⟩
  · have := bits_or_u64_nat x 1 (by omega) (by omega)
    exact this
  · have := Nat.right_le_or (n := x) (m := 1); omega
  · have := Nat.left_le_or (n := x) (m := 1); omega
  · have := or1_lt x 63 64 rfl (by omega)
    omega
  · intro q hq
    have e : (128 : Int) ^ (q + 1) = ((2 ^ (7 * (q + 1)) : Nat) : Int) := by rw [← pow7, Int.natCast_pow]; rfl
    rw [e] at hq ⊢
    have h2 : 1 < 2 ^ (7 * (q + 1)) := Nat.one_lt_two_pow (by omega)
    have h3 := Nat.or_lt_two_pow (n := 7 * (q + 1)) (x := x) (y := 1) (Int.ofNat_lt.mp hq) h2
    exact Int.ofNat_lt.mpr h3
theorem pack_Size_eq (n : Int) (h0 : 0 ≤ n) (h1 : n < 18446744073709551616) : pack_Size.f n = some ((enc n).length : Int) := by
  obtain ⟨m, e, m0, mn_, m64, mq⟩ := or_one n h0 h1
  obtain ⟨b1, b2, b3, b4⟩ := bitLen_spec m m0 (by omega)
  unfold pack_Size.f bits_Len64.f
  rw [e, if_pos (by omega), if_pos (by omega), Int.toNat_natCast]
  simp only [Option.bind_some]
  have hn10 : n < 128 ^ (9 + 1) := by
    have : (128 : Int) ^ (9 + 1) = 1180591620717411303424 := by decide
    omega
  have up := encF_up 9 n h0 hn10
  have lo := encF_len_step 9 n h0 hn10
  have hpos := encF_pos 9 n
  have hle := encF_len 9 n
  have el : (enc n).length = (encF 9 n).length := rfl
  rw [el]
  generalize (encF 9 n).length = q at *
  generalize Lib.bitLen m = b at *
  have hup := mq (q - 1) (by rw [Nat.sub_add_cancel hpos]; exact up)
  rw [Nat.sub_add_cancel hpos, ← pow7] at hup
  have c1 : b - 1 < 7 * q := by
    rcases Nat.lt_or_ge (b - 1) (7 * q) with k | k
    · exact k
    · exact absurd (Int.lt_of_lt_of_le hup (Int.le_trans (npow_le k) b3)) (Int.lt_irrefl _)
  have c2 : 7 * (q - 1) < b := by
    rcases lo with lo | lo
    · rw [← pow7] at lo
      rcases Nat.lt_or_ge (7 * (q - 1)) b with k | k
      · exact k
      · exact absurd (Int.lt_of_lt_of_le b4 (Int.le_trans (npow_le k) (Int.le_trans lo mn_))) (Int.lt_irrefl _)
    · clear b3 b4 hup up mq; subst lo; omega
  clear b3 b4 hup up lo mq hn10
  have e1 : wrap64 ((b : Int) + 7) = b + 7 := by unfold wrap64; omega
  have e2 : wrap64 ((b : Int) + 7 - 1) = b + 6 := by unfold wrap64; omega
  rw [e1, e2, Int.tdiv_eq_ediv_of_nonneg (by omega)]
  have e3 : wrap64 (((b : Int) + 6) / 7) = ((b : Int) + 6) / 7 := by unfold wrap64; omega
  rw [e3]
  congr 1
  omega
theorem ref07_Size_eq (n : Int) (h0 : 0 ≤ n) (h1 : n < 18446744073709551616) (k : Nat) (hk : 10 < k) : linhayref07_Size.f k n = some ((enc n).length : Int) := by
  unfold linhayref07_Size.f
  rw [ref07_One_eq h0 h1 k (by omega)]
  simp only [Option.bind_some, lB_size]
end Go.Proofs.Ytkfahdccacefiaa.Facts
