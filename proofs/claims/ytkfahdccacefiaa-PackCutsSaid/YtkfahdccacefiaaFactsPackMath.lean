
/- Numbers, texts, and lists of texts as bytes: what is put is taken again. Plain lists, without the program. -/
import Derived.Test.YtkfahdccacefiaaPrint2
namespace Go.Proofs.Ytkfahdccacefiaa.Facts
set_option linter.unusedVariables false
set_option linter.unusedSimpArgs false
open Go.Proofs.Ytkfahdccacefiaa.Print
/-- What the bytes say from the i-th digit on, n being what those ahead say. -/
def takeL : Nat → Int → List UInt8 → Option (Int × List UInt8)
  | _, _, [] => none
  | i, n, d :: r => if i ≥ 10 then none else if (d.toNat : Int) ≥ 128 then takeL (i + 1) (n + ((d.toNat : Int) - 128) * 128 ^ i) r
      else if (i > 0 ∧ d.toNat = 0) ∨ (i = 9 ∧ d.toNat > 1) then none else some (n + (d.toNat : Int) * 128 ^ i, r)
def takeS (s : List UInt8) : Option (Int × List UInt8) := takeL 0 0 s
theorem p128 (i : Nat) : (0 : Int) < 128 ^ i := Int.pow_pos (by decide)
theorem p128s (i : Nat) : (128 : Int) ^ (i + 1) = 128 ^ i * 128 := Int.pow_succ _ _
theorem p9 : (128 : Int) ^ 9 = 9223372036854775808 := by decide
theorem ofNat_toNat {x : Int} (h0 : 0 ≤ x) (h1 : x < 256) : ((UInt8.ofNat x.toNat).toNat : Int) = x := by
  simp; omega

theorem takeL_enc (f : Nat) : ∀ (i : Nat) (m n : Int) (r : List UInt8), f + i = 9 → 0 ≤ n → n * 128 ^ i < 18446744073709551616 → (i > 0 → 0 < n) →
    takeL i m (encF f n ++ r) = some (m + n * 128 ^ i, r) := by
  induction f with
  | zero =>
    intro i m n r hi h0 h1 h2
    have hi : i = 9 := by omega
    subst hi
    rw [p9] at h1
    have hn : n ≤ 1 := by omega
    have e := ofNat_toNat h0 (by omega)
    have e' : (UInt8.ofNat n.toNat).toNat = n.toNat := by omega
    simp only [encF, List.cons_append, List.nil_append, takeL]
    rw [if_neg (by omega), if_neg (by omega), if_neg (by omega), e]
  | succ f ih =>
    intro i m n r hi h0 h1 h2
    unfold encF
    by_cases c : n ≥ 128
    · rw [if_pos c]
      have e := ofNat_toNat (x := n % 128 + 128) (by omega) (by omega)
      simp only [List.cons_append, takeL]
      rw [if_neg (by omega), if_pos (by omega), e]
      have hp := p128 i
      have hps := p128s i
      have hmul : n / 128 * 128 ^ (i + 1) + n % 128 * 128 ^ i = n * 128 ^ i := by
        rw [hps]
        have : n = n / 128 * 128 + n % 128 := by omega
        generalize n / 128 = a at *
        generalize n % 128 = b at *
        generalize (128 : Int) ^ i = p at *
        subst this
        grind
      have hm0 : 0 ≤ n % 128 * 128 ^ i := Int.mul_nonneg (by omega) (by omega)
      rw [ih (i + 1) _ (n / 128) r (by omega) (by omega) (by omega) (by intro _; omega)]
      congr 2
      have : n % 128 + 128 - 128 = n % 128 := by omega
      rw [this]
      omega
    · rw [if_neg c]
      have e := ofNat_toNat (x := n) h0 (by omega)
      have e' : (UInt8.ofNat n.toNat).toNat = n.toNat := by omega
      simp only [List.cons_append, List.nil_append, takeL]
      rw [if_neg (by omega), if_neg (by omega), if_neg (by omega), e]
theorem takeS_enc {n : Int} (h0 : 0 ≤ n) (h1 : n < 18446744073709551616) (r : List UInt8) : takeS (enc n ++ r) = some (n, r) := by
  have := takeL_enc 9 0 0 n r (by omega) h0 (by simpa using h1) (by omega)
  simpa [takeS, enc] using this
theorem takeL_some (s : List UInt8) : ∀ (i : Nat) (m v : Int) (r : List UInt8), takeL i m s = some (v, r) → ∃ n : Int, 0 ≤ n ∧ (i > 0 → 0 < n) ∧ v = m + n * 128 ^ i ∧ n * 128 ^ i < 18446744073709551616 ∧ s = encF (9 - i) n ++ r := by
  induction s with
  | nil => intro i m v r h; simp [takeL] at h
  | cons d s ih =>
    intro i m v r h
    unfold takeL at h
    by_cases c1 : i ≥ 10
    · rw [if_pos c1] at h; cases h
    · rw [if_neg c1] at h
      have hd := d.toNat_lt
      by_cases c2 : (d.toNat : Int) ≥ 128
      · rw [if_pos c2] at h
        obtain ⟨n, h0, h1, h2, h3, h4⟩ := ih _ _ _ _ h
        have h1 := h1 (by omega)
        have hps := p128s i
        have hp := p128 i
        by_cases c9 : i = 9
        · subst c9
          have : (128 : Int) ^ (9 + 1) = 1180591620717411303424 := by decide
          rw [this] at h3
          omega
        refine ⟨(d.toNat : Int) - 128 + 128 * n, by omega, by omega, ?_, ?_, ?_⟩
        · rw [h2, hps]; generalize (128 : Int) ^ i = p at *; grind
        · have hi : i ≤ 8 := by omega
          rw [hps] at h3
          have e1 : ((d.toNat : Int) - 128 + 128 * n) * 128 ^ i = ((d.toNat : Int) - 128) * 128 ^ i + n * (128 ^ i * 128) := by generalize (128 : Int) ^ i = p at *; grind
          have e2 : 18446744073709551616 = 128 ^ i * 128 * (2 ^ (57 - 7 * i) : Int) := by
            have : ∀ j : Fin 9, (18446744073709551616 : Int) = 128 ^ j.val * 128 * 2 ^ (57 - 7 * j.val) := by decide
            exact this ⟨i, by omega⟩
          rw [e1]
          rw [e2] at h3 ⊢
          generalize (128 : Int) ^ i = p at *
          generalize (2 : Int) ^ (57 - 7 * i) = q at *
          have h5 : n * (p * 128) < q * (p * 128) := by rw [Int.mul_comm q]; exact h3
          have h6 : n < q := Int.lt_of_mul_lt_mul_right h5 (by omega)
          have h7 : (n + 1) * (p * 128) ≤ q * (p * 128) := Int.mul_le_mul_of_nonneg_right (by omega) (by omega)
          have h8 : ((d.toNat : Int) - 128) * p < 128 * p := Int.mul_lt_mul_of_pos_right (by omega) hp
          have e3 : p * 128 * q = q * (p * 128) := Int.mul_comm _ _
          have e4 : (n + 1) * (p * 128) = n * (p * 128) + 128 * p := by grind
          omega
        · have e : 9 - i = (9 - (i + 1)) + 1 := by omega
          rw [h4, e, encF, if_pos (by omega)]
          have e5 : ((d.toNat : Int) - 128 + 128 * n) % 128 + 128 = d.toNat := by omega
          have e6 : ((d.toNat : Int) - 128 + 128 * n) / 128 = n := by omega
          rw [e5, e6]
          simp
      · rw [if_neg c2] at h
        by_cases c3 : (i > 0 ∧ d.toNat = 0) ∨ (i = 9 ∧ d.toNat > 1)
        · rw [if_pos c3] at h; cases h
        · rw [if_neg c3] at h
          simp only [Option.some.injEq, Prod.mk.injEq] at h
          obtain ⟨rfl, rfl⟩ := h
          refine ⟨d.toNat, by omega, by omega, rfl, ?_, ?_⟩
          · by_cases c9 : i = 9
            · subst c9; rw [p9]; omega
            · have : ∀ j : Fin 9, (128 : Int) ^ j.val ≤ 72057594037927936 := by decide
              have hq : (128 : Int) ^ i ≤ 72057594037927936 := this ⟨i, by omega⟩
              have : (d.toNat : Int) * 128 ^ i ≤ 127 * 72057594037927936 := Int.mul_le_mul (by omega) hq (Int.le_of_lt (p128 i)) (by decide)
              omega
          · cases hk : 9 - i with
            | zero => simp [encF]
            | succ g => rw [encF, if_neg (by omega)]; simp
theorem takeS_some {s : List UInt8} {v : Int} {r : List UInt8} (h : takeS s = some (v, r)) : 0 ≤ v ∧ v < 18446744073709551616 ∧ s = enc v ++ r := by
  obtain ⟨n, h0, _, h2, h3, h4⟩ := takeL_some s 0 0 v r h
  simp at h2 h3
  subst h2
  exact ⟨h0, h3, h4⟩
theorem takeL_more (s : List UInt8) : ∀ (i : Nat) (m v : Int) (r t : List UInt8), takeL i m s = some (v, r) → takeL i m (s ++ t) = some (v, r ++ t) := by
  induction s with
  | nil => intro i m v r t h; simp [takeL] at h
  | cons d s ih =>
    intro i m v r t h
    simp only [List.cons_append]
    unfold takeL at h ⊢
    split at h
    · cases h
    · rw [if_neg ‹_›]
      split at h
      · rw [if_pos ‹_›]; exact ih _ _ _ _ t h
      · rw [if_neg ‹_›]
        split at h
        · cases h
        · rw [if_neg ‹_›]
          simp only [Option.some.injEq, Prod.mk.injEq] at h ⊢
          exact ⟨h.1, by rw [h.2]⟩
theorem takeS_more {s : List UInt8} {v : Int} {r : List UInt8} (t : List UInt8) (h : takeS s = some (v, r)) : takeS (s ++ t) = some (v, r ++ t) := takeL_more s 0 0 v r t h
/-- Bytes that are cut are none. -/
theorem takeS_cut {n : Int} (h0 : 0 ≤ n) (h1 : n < 18446744073709551616) {p q : List UInt8} (h : p ++ q = enc n) (hq : q ≠ []) : takeS p = none := by
  cases hp : takeS p with
  | none => rfl
  | some vr =>
    obtain ⟨v, r⟩ := vr
    have a := takeS_more q hp
    have b := takeS_enc h0 h1 []
    rw [List.append_nil, ← h, a] at b
    simp only [Option.some.injEq, Prod.mk.injEq, List.append_eq_nil_iff] at b
    exact absurd b.2.2 hq
theorem encF_pos (f : Nat) (n : Int) : 0 < (encF f n).length := by
  cases f with
  | zero => simp [encF]
  | succ f => unfold encF; split <;> simp
theorem takeS_lt {s : List UInt8} {v : Int} {r : List UInt8} (h : takeS s = some (v, r)) : r.length < s.length := by
  obtain ⟨_, _, e⟩ := takeS_some h
  have := encF_pos 9 v
  rw [e]; unfold enc; simp; omega

def takeTextS (s : List UInt8) : Option (List UInt8 × List UInt8) := (takeS s).bind fun p => if p.1 ≤ (p.2.length : Int) then some (p.2.take p.1.toNat, p.2.drop p.1.toNat) else none
def takeK : Nat → List UInt8 → Option (List (List UInt8) × List UInt8)
  | 0, s => some ([], s)
  | m + 1, s => (takeTextS s).bind fun p => (takeK m p.2).bind fun q => some (p.1 :: q.1, q.2)
def takeTextsS (s : List UInt8) : Option (List (List UInt8) × List UInt8) := (takeS s).bind fun p => takeK p.1.toNat p.2
def textS (t : List UInt8) : List UInt8 := enc (t.length : Int) ++ t
def textsK (l : List (List UInt8)) : List UInt8 := l.flatMap textS
def textsS (l : List (List UInt8)) : List UInt8 := enc (l.length : Int) ++ textsK l

theorem takeTextS_text (t r : List UInt8) (h : t.length < 18446744073709551616) : takeTextS (textS t ++ r) = some (t, r) := by
  unfold takeTextS textS
  rw [List.append_assoc, takeS_enc (by omega) (by omega)]
  simp only [Option.bind_some]
  rw [if_pos (by simp; omega)]
  simp
theorem takeTextS_some {s t r : List UInt8} (h : takeTextS s = some (t, r)) : s = textS t ++ r := by
  unfold takeTextS at h
  obtain ⟨⟨v, q⟩, h1, h2⟩ := Option.bind_eq_some_iff.mp h
  obtain ⟨a, b, c⟩ := takeS_some h1
  simp only at h2
  by_cases k : v ≤ (q.length : Int)
  · rw [if_pos k] at h2
    simp only [Option.some.injEq, Prod.mk.injEq] at h2
    obtain ⟨rfl, rfl⟩ := h2
    have hl : (q.take v.toNat).length = v.toNat := by rw [List.length_take]; omega
    unfold textS
    rw [hl, Int.toNat_of_nonneg a, c, List.append_assoc, List.take_append_drop]
  · rw [if_neg k] at h2; cases h2
theorem takeTextS_lt {s t r : List UInt8} (h : takeTextS s = some (t, r)) : r.length < s.length := by
  have e := takeTextS_some h
  have := encF_pos 9 (t.length : Int)
  rw [e]; unfold textS enc; simp; omega
theorem takeTextS_more {s t r : List UInt8} (x : List UInt8) (h : takeTextS s = some (t, r)) (ht : t.length < 18446744073709551616) : takeTextS (s ++ x) = some (t, r ++ x) := by
  rw [takeTextS_some h, List.append_assoc]
  exact takeTextS_text t _ ht
theorem takeK_texts (l : List (List UInt8)) (r : List UInt8) (h : ∀ t ∈ l, t.length < 18446744073709551616) : takeK l.length (textsK l ++ r) = some (l, r) := by
  induction l with
  | nil => rfl
  | cons t l ih =>
    simp only [List.length_cons, takeK, textsK, List.flatMap_cons, List.append_assoc]
    rw [takeTextS_text t _ (h t (List.mem_cons_self ..))]
    have := ih (fun t ht => h t (List.mem_cons_of_mem _ ht))
    unfold textsK at this
    simp only [Option.bind_some, this]
theorem takeK_some (m : Nat) : ∀ (s : List UInt8) (l : List (List UInt8)) (r : List UInt8), takeK m s = some (l, r) → l.length = m ∧ s = textsK l ++ r := by
  induction m with
  | zero => intro s l r h; simp only [takeK, Option.some.injEq, Prod.mk.injEq] at h; obtain ⟨rfl, rfl⟩ := h; exact ⟨rfl, rfl⟩
  | succ m ih =>
    intro s l r h
    simp only [takeK] at h
    obtain ⟨⟨t, q⟩, h1, h2⟩ := Option.bind_eq_some_iff.mp h
    obtain ⟨⟨l', r'⟩, h3, h4⟩ := Option.bind_eq_some_iff.mp h2
    simp only [Option.some.injEq, Prod.mk.injEq] at h4
    obtain ⟨rfl, rfl⟩ := h4
    obtain ⟨e1, e2⟩ := ih _ _ _ h3
    refine ⟨by simp [e1], ?_⟩
    simp only at e2
    rw [takeTextS_some h1, e2]
    simp [textsK]
/-- More texts than bytes are none. -/
theorem takeK_few (m : Nat) : ∀ s : List UInt8, s.length < m → takeK m s = none := by
  induction m with
  | zero => intro s h; omega
  | succ m ih =>
    intro s h
    simp only [takeK]
    cases h1 : takeTextS s with
    | none => rfl
    | some p =>
      obtain ⟨t, q⟩ := p
      have := takeTextS_lt h1
      simp only [Option.bind_some]
      rw [ih q (by omega)]
      rfl
theorem takeK_more (m : Nat) : ∀ (s : List UInt8) (l : List (List UInt8)) (r x : List UInt8), s.length < 18446744073709551616 → takeK m s = some (l, r) → takeK m (s ++ x) = some (l, r ++ x) := by
  induction m with
  | zero => intro s l r x hs h; simp only [takeK, Option.some.injEq, Prod.mk.injEq] at h ⊢; exact ⟨h.1, by rw [h.2]⟩
  | succ m ih =>
    intro s l r x hs h
    simp only [takeK] at h ⊢
    obtain ⟨⟨t, q⟩, h1, h2⟩ := Option.bind_eq_some_iff.mp h
    have e := takeTextS_some h1
    have lt := takeTextS_lt h1
    have tl : t.length < 18446744073709551616 := by have := congrArg List.length e; unfold textS at this; simp at this; omega
    obtain ⟨⟨l', r'⟩, h3, h4⟩ := Option.bind_eq_some_iff.mp h2
    simp only [Option.some.injEq, Prod.mk.injEq] at h4
    obtain ⟨rfl, rfl⟩ := h4
    rw [takeTextS_more x h1 tl]
    simp only [Option.bind_some]
    rw [ih q l' r' x (by omega) h3]
    rfl
theorem takeTextsS_texts (l : List (List UInt8)) (r : List UInt8) (hl : l.length < 18446744073709551616) (h : ∀ t ∈ l, t.length < 18446744073709551616) : takeTextsS (textsS l ++ r) = some (l, r) := by
  unfold takeTextsS textsS
  rw [List.append_assoc, takeS_enc (by omega) (by omega)]
  simp only [Option.bind_some, Int.toNat_natCast]
  exact takeK_texts l r h
theorem takeTextsS_some {s : List UInt8} {l : List (List UInt8)} {r : List UInt8} (h : takeTextsS s = some (l, r)) : s = textsS l ++ r := by
  unfold takeTextsS at h
  obtain ⟨⟨v, q⟩, h1, h2⟩ := Option.bind_eq_some_iff.mp h
  obtain ⟨a, b, c⟩ := takeS_some h1
  obtain ⟨e1, e2⟩ := takeK_some _ _ _ _ h2
  unfold textsS
  simp only at e1 e2
  rw [e1, Int.toNat_of_nonneg a, c, e2, List.append_assoc]
theorem takeTextsS_more {s : List UInt8} {l : List (List UInt8)} {r : List UInt8} (x : List UInt8) (hs : s.length < 18446744073709551616) (h : takeTextsS s = some (l, r)) : takeTextsS (s ++ x) = some (l, r ++ x) := by
  unfold takeTextsS at h ⊢
  obtain ⟨⟨v, q⟩, h1, h2⟩ := Option.bind_eq_some_iff.mp h
  have lt := takeS_lt h1
  rw [takeS_more x h1]
  exact takeK_more _ _ _ _ _ (by omega) h2
theorem takeTextS_cut {t p q : List UInt8} (ht : t.length < 18446744073709551000) (h : p ++ q = textS t) (hq : q ≠ []) : takeTextS p = none := by
  cases hp : takeTextS p with
  | none => rfl
  | some vr =>
    obtain ⟨v, r⟩ := vr
    have e := takeTextS_some hp
    have b := takeTextS_text t [] (by omega)
    have hl := congrArg List.length e
    have hl2 := congrArg List.length h
    have tl : v.length < 18446744073709551616 := by
      have h5 := encF_len 9 (t.length : Int)
      have h6 := encF_pos 9 (v.length : Int)
      have h7 : 0 < q.length := by cases q with | nil => exact absurd rfl hq | cons a b => simp
      unfold textS enc at hl hl2; simp at hl hl2
      omega
    have a := takeTextS_more q hp tl
    rw [List.append_nil, ← h, a] at b
    simp only [Option.some.injEq, Prod.mk.injEq, List.append_eq_nil_iff] at b
    exact absurd b.2.2 hq
theorem takeTextsS_cut {l : List (List UInt8)} {p q : List UInt8} (hs : (textsS l).length < 18446744073709551616) (hl : l.length < 18446744073709551616) (hL : ∀ t ∈ l, t.length < 18446744073709551616) (h : p ++ q = textsS l) (hq : q ≠ []) : takeTextsS p = none := by
  cases hp : takeTextsS p with
  | none => rfl
  | some vr =>
    obtain ⟨v, r⟩ := vr
    have b := takeTextsS_texts l [] hl hL
    have a := takeTextsS_more q (by have := congrArg List.length h; simp at this; omega) hp
    rw [List.append_nil, ← h, a] at b
    simp only [Option.some.injEq, Prod.mk.injEq, List.append_eq_nil_iff] at b
    exact absurd b.2.2 hq
/-- The lengths of numbers' bytes. -/
theorem encF_len_step (f : Nat) : ∀ n : Int, 0 ≤ n → n < 128 ^ (f + 1) → 128 ^ ((encF f n).length - 1) ≤ n ∨ (encF f n).length = 1 := by
  induction f with
  | zero => intro n h0 h1; right; simp [encF]
  | succ f ih =>
    intro n h0 h1
    unfold encF
    by_cases c : n ≥ 128
    · rw [if_pos c]
      left
      have hs := p128s (f + 1)
      have hpos := encF_pos f (n / 128)
      simp only [List.length_cons, Nat.add_sub_cancel]
      rcases ih (n / 128) (by omega) (by omega) with h | h
      · have e : (encF f (n / 128)).length = ((encF f (n / 128)).length - 1) + 1 := by omega
        rw [e, p128s]
        omega
      · rw [h]; simpa using c
    · rw [if_neg c]; right; rfl
theorem encF_up (f : Nat) : ∀ n : Int, 0 ≤ n → n < 128 ^ (f + 1) → n < 128 ^ (encF f n).length := by
  induction f with
  | zero => intro n h0 h1; simpa [encF] using h1
  | succ f ih =>
    intro n h0 h1
    unfold encF
    by_cases c : n ≥ 128
    · rw [if_pos c]
      have hs := p128s (f + 1)
      have := ih (n / 128) (by omega) (by omega)
      simp only [List.length_cons]
      rw [p128s]
      omega
    · rw [if_neg c]; simp; omega
end Go.Proofs.Ytkfahdccacefiaa.Facts
