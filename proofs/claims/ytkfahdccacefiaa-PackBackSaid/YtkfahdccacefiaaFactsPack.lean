
/- What the printed functions of pack and of its reference tell: the bytes of numbers, texts and lists of texts. -/
import Derived.Test.YtkfahdccacefiaaFactsNum
import Derived.Test.YtkfahdccacefiaaFactsPackMath
import Derived.Test.YtkfahdccacefiaaPrint1
import Derived.Test.YtkfahdccacefiaaPrint2
import Derived.Test.YtkfahdccacefiaaPrint3
namespace Go.Proofs.Ytkfahdccacefiaa.Facts
set_option linter.unusedVariables false
set_option linter.unusedSimpArgs false
open Go.RowKit Go.Proofs.Ytkfahdccacefiaa.Print Go.Proofs.YtkfahdccacefiaaW.PrintWords Go.Proofs.YtkfahdccacefiaaW.PrintLast Go.Proofs.YtkfahdccacefiaaW.PrintMore
def bL (s : ByteArray) : List UInt8 := s.data.toList
def lB (l : List UInt8) : ByteArray := ⟨l.toArray⟩
theorem bL_lB (l : List UInt8) : bL (lB l) = l := by simp [bL, lB]
theorem lB_bL (s : ByteArray) : lB (bL s) = s := by cases s; simp [bL, lB]
theorem bL_size (s : ByteArray) : (bL s).length = s.size := by simp [bL]
theorem lB_size (l : List UInt8) : (lB l).size = l.length := by rw [← bL_size, bL_lB]
theorem bL_append (a b : ByteArray) : bL (a ++ b) = bL a ++ bL b := by simp [bL]
theorem lB_append (a b : List UInt8) : lB a ++ lB b = lB (a ++ b) := by rw [← lB_bL (lB a ++ lB b), bL_append, bL_lB, bL_lB]
theorem bL_toList (s : ByteArray) : s.toList = bL s := ByteArray.toList_eq s
theorem bL_extract (s : ByteArray) (a b : Nat) : bL (s.extract a b) = ((bL s).take b).drop a := by
  simp [bL, List.extract_eq_take_drop, List.drop_take]
theorem extract_tail (s : ByteArray) (a : Nat) : s.extract a s.size = lB ((bL s).drop a) := by
  rw [← lB_bL (s.extract a s.size), bL_extract, ← bL_size, List.take_length]
theorem extract_head (s : ByteArray) (a : Nat) : s.extract 0 a = lB ((bL s).take a) := by
  rw [← lB_bL (s.extract 0 a), bL_extract, List.drop_zero]
theorem bt_drop {s : ByteArray} {i : Nat} {d : UInt8} {r : List UInt8} (h : (bL s).drop i = d :: r) : bt s i = d.toNat ∧ i < s.size ∧ (bL s).drop (i + 1) = r ∧ (bL s).take (i + 1) = (bL s).take i ++ [d] := by
  have hl : i < (bL s).length := by
    rcases Nat.lt_or_ge i (bL s).length with k | k
    · exact k
    · rw [List.drop_eq_nil_of_le k] at h; cases h
  have e := List.drop_eq_getElem_cons hl
  rw [h] at e
  obtain ⟨e1, e2⟩ := List.cons.inj e
  have hs : i < s.size := by rw [← bL_size]; exact hl
  refine ⟨?_, hs, e2.symm, ?_⟩
  · unfold bt
    rw [dif_pos (by simpa using hs)]
    rw [e1]
    simp [bL]
    rfl
  · rw [List.take_succ_eq_append_getElem hl, ← e1]
theorem pow7 (i : Nat) : (2 : Int) ^ (7 * i) = 128 ^ i := by rw [Int.pow_mul]; rfl
theorem p128_le {i : Nat} (h : i ≤ 9) : (128 : Int) ^ i ≤ 9223372036854775808 := by
  have : ∀ j : Fin 10, (128 : Int) ^ j.val ≤ 9223372036854775808 := by decide
  exact this ⟨i, by omega⟩
theorem or_step {n d : Int} {i : Nat} (hi : i ≤ 9) (h0 : 0 ≤ n) (h1 : n < 128 ^ i) (hd : 0 ≤ d) (hd' : d ≤ 255) (hm : d % 128 * 128 ^ i < 18446744073709551616) :
    Go.bits .or .u64 n (shl .u64 (Int.tmod (IntKind.u64.wrap d) 128) (wrap64 (7 * (i : Int)))) = n + d % 128 * 128 ^ i := by
  rw [nwr hd (by omega), Int.tmod_eq_emod_of_nonneg hd, nw64 (by omega) (by omega)]
  have e : (7 * (i : Int)) = ((7 * i : Nat) : Int) := by omega
  have hp := p128 i
  have h9 := p128_le hi
  have hz : 0 ≤ d % 128 * 128 ^ i := Int.mul_nonneg (by omega) (by omega)
  rw [e, nshl _ _ (by omega) (by omega), pow7, Int.emod_eq_of_lt hz hm, nor_comm _ _ h0 (by omega) hz hm, ← pow7, nor _ _ _ (by omega) h0 (by rw [pow7]; exact h1) (by rw [pow7]; exact hm) (by omega)]
  omega
def ansT : Option (Int × List UInt8) → Int × ByteArray × Int
  | some (n, r) => (n, lB r, 0)
  | none => (0, (⟨#[]⟩ : ByteArray), 70)
theorem take1 : (pack_Take_1.f).bind (fun bt101 => (some (bt101.1, bt101.2.1, bt101.2.2))) = some (ansT none) := rfl
theorem takeL_nil (i : Nat) (n : Int) : takeL i n [] = none := rfl
theorem takeL_ten (n : Int) (s : List UInt8) : takeL 10 n s = none := by cases s <;> simp [takeL]
theorem pack_Take_loop (s : ByteArray) (hs : s.size ≤ 1152921504606846976) (j : Nat) : ∀ (k i : Nat) (n : Int), i + j = 10 → i ≤ s.size → (i ≤ 9 → 0 ≤ n ∧ n < 128 ^ i) → j < k →
    pack_Take.l0 k s n (mn (s.size : Int) 10) i = some (ansT (takeL i n ((bL s).drop i))) := by
  induction j with
  | zero =>
    intro k i n hi hl hn hk
    obtain ⟨k, rfl⟩ : ∃ m, k = m + 1 := ⟨k - 1, by omega⟩
    have : i = 10 := by omega
    subst this
    simp only [pack_Take.l0]
    rw [if_neg (by unfold mn; omega), take1, takeL_ten]
  | succ j ih =>
    intro k i n hi hl hn hk
    obtain ⟨k, rfl⟩ : ∃ m, k = m + 1 := ⟨k - 1, by omega⟩
    obtain ⟨h0, h1⟩ := hn (by omega)
    simp only [pack_Take.l0]
    cases hr : (bL s).drop i with
    | nil =>
      have : s.size ≤ i := by rw [← bL_size]; exact List.drop_eq_nil_iff.mp hr
      rw [if_neg (by unfold mn; omega), take1, takeL_nil]
    | cons d r =>
      obtain ⟨e1, e2, e3, e4⟩ := bt_drop hr
      have hd := d.toNat_lt
      rw [if_pos (by unfold mn; omega), if_pos (by omega), if_pos (by omega), if_pos (by rw [nw64 (by omega) (by omega)]; omega), e1]
      have w1 : wrap64 ((i : Int) + 1) = ((i + 1 : Nat) : Int) := by unfold wrap64; omega
      have wd : IntKind.u64.wrap ((d.toNat : Nat) : Int) = d.toNat := nwr (by omega) (by omega)
      unfold takeL
      rw [if_neg (by omega : ¬ i ≥ 10)]
      by_cases c : ((d.toNat : Nat) : Int) ≥ 128
      · rw [if_pos (by rw [wd]; exact c), if_pos c, w1]
        have hps := p128s i
        by_cases c9 : i = 9
        · subst c9
          have a := ih k (9 + 1) (Go.bits .or .u64 n (shl .u64 (Int.tmod (IntKind.u64.wrap ((d.toNat : Nat) : Int)) 128) (wrap64 (7 * ((9 : Nat) : Int))))) (by omega) (by omega) (by omega) (by omega)
          rw [a, e3, takeL_ten, takeL_ten]
        · have hp8 : (128 : Int) ^ i ≤ 72057594037927936 := by
            have : ∀ j : Fin 9, (128 : Int) ^ j.val ≤ 72057594037927936 := by decide
            exact this ⟨i, by omega⟩
          have hp := p128 i
          have hm : ((d.toNat : Nat) : Int) % 128 * 128 ^ i ≤ 127 * 128 ^ i := Int.mul_le_mul_of_nonneg_right (by omega) (by omega)
          have hm0 : 0 ≤ ((d.toNat : Nat) : Int) % 128 * 128 ^ i := Int.mul_nonneg (by omega) (by omega)
          rw [or_step (by omega) h0 h1 (by omega) (by omega) (by omega)]
          rw [ih k (i + 1) _ (by omega) (by omega) (by intro _; omega) (by omega), e3]
          have : ((d.toNat : Nat) : Int) % 128 = (d.toNat : Int) - 128 := by omega
          rw [this]
      · rw [if_neg (by rw [wd]; exact c), if_neg c, w1]
        have wn : Int.toNat ((i + 1 : Nat) : Int) = i + 1 := Int.toNat_natCast _
        have dm : ((d.toNat : Nat) : Int) % 128 = d.toNat := by omega
        have good : ¬ (i = 9 ∧ d.toNat > 1) → (if 0 ≤ ((i + 1 : Nat) : Int) then (if ((i + 1 : Nat) : Int) ≤ (s.size : Int) then (some (Go.bits .or .u64 n (shl .u64 (Int.tmod (IntKind.u64.wrap ((d.toNat : Nat) : Int)) 128) (wrap64 (7 * (i : Int)))), s.extract (((i + 1 : Nat) : Int)).toNat s.size, (0 : Int))) else (none)) else (none)) = some (ansT (some (n + (d.toNat : Int) * 128 ^ i, r))) := by
          intro hg
          have hm : ((d.toNat : Nat) : Int) % 128 * 128 ^ i < 18446744073709551616 := by
            rw [dm]
            by_cases c9 : i = 9
            · subst c9; rw [p9]; omega
            · have hp8 : (128 : Int) ^ i ≤ 72057594037927936 := by
                have : ∀ j : Fin 9, (128 : Int) ^ j.val ≤ 72057594037927936 := by decide
                exact this ⟨i, by omega⟩
              have : (d.toNat : Int) * 128 ^ i ≤ 127 * 72057594037927936 := Int.mul_le_mul (by omega) hp8 (Int.le_of_lt (p128 i)) (by decide)
              omega
          rw [if_pos (by omega), if_pos (by omega), or_step (by omega) h0 h1 (by omega) (by omega) hm, wn, extract_tail, e3, dm]
          rfl
        rw [wd] at *
        have n0 : (d.toNat : Int) = 0 ↔ d.toNat = 0 := by omega
        by_cases cb : (i > 0 ∧ d.toNat = 0) ∨ (i = 9 ∧ d.toNat > 1)
        · rw [if_pos cb, if_pos (show (i : Int) > 0 by omega)]
          by_cases cd : d.toNat = 0
          · rw [if_pos (show (d.toNat : Int) = 0 by omega), take1]
          · rw [if_neg (show ¬ (d.toNat : Int) = 0 by omega), if_pos (show (i : Int) = 9 by omega), if_pos (show (d.toNat : Int) > 1 by omega), take1]
        · rw [if_neg cb]
          by_cases ci : i = 0
          · rw [if_neg (show ¬ (i : Int) > 0 by omega), if_neg (show ¬ (i : Int) = 9 by omega)]
            exact good (by omega)
          · rw [if_pos (show (i : Int) > 0 by omega), if_neg (show ¬ (d.toNat : Int) = 0 by omega)]
            by_cases c9 : i = 9
            · rw [if_pos (show (i : Int) = 9 by omega), if_neg (show ¬ (d.toNat : Int) > 1 by omega)]
              exact good (by omega)
            · rw [if_neg (show ¬ (i : Int) = 9 by omega)]
              exact good (by omega)
theorem pack_Take_eq (s : ByteArray) (hs : s.size ≤ 1152921504606846976) (k : Nat) (hk : 10 < k) : pack_Take.f k s = some (ansT (takeS (bL s))) :=
  pack_Take_loop s hs 10 k 0 0 (by omega) (by omega) (by intro _; decide) hk
theorem ref07_One_loop (f : Nat) : ∀ (k : Nat) (n : Int), 0 ≤ n → n < 128 ^ (f + 1) → n < 18446744073709551616 → f ≤ 20 → f < k → linhayref07_One.f k n = some (lB (encF f n)) := by
  induction f with
  | zero =>
    intro k n h0 h1 h2 hf hk
    obtain ⟨k, rfl⟩ : ∃ m, k = m + 1 := ⟨k - 1, by omega⟩
    simp only [linhayref07_One.f]
    rw [if_pos (by simpa using h1)]
    have : n % 256 = n := by have : n < 128 := by simpa using h1
                             omega
    rw [this]; rfl
  | succ f ih =>
    intro k n h0 h1 h2 hf hk
    obtain ⟨k, rfl⟩ : ∃ m, k = m + 1 := ⟨k - 1, by omega⟩
    simp only [linhayref07_One.f]
    unfold encF
    by_cases c : n < 128
    · rw [if_pos c, if_neg (by omega)]
      have : n % 256 = n := by omega
      rw [this]; rfl
    · rw [if_neg c, if_pos (by omega)]
      have hs := p128s (f + 1)
      have e1 : IntKind.u64.wrap (Int.tdiv n 128) = n / 128 := by rw [Int.tdiv_eq_ediv_of_nonneg h0]; exact nwr (by omega) (by omega)
      have e2 : IntKind.u64.wrap (Int.tmod n 128 + 128) % 256 = n % 128 + 128 := by rw [Int.tmod_eq_emod_of_nonneg h0, nwr (by omega) (by omega)]; omega
      rw [e1, e2, ih k (n / 128) (by omega) (by omega) (by omega) (by omega) (by omega)]
      simp only [Option.bind_some]
      have hl := encF_len f (n / 128)
      rw [if_pos (by rw [strOfNums_size, lB_size]; simp only [List.length_cons, List.length_nil]; omega)]
      have : strOfNums [n % 128 + 128] = lB [UInt8.ofNat (n % 128 + 128).toNat] := rfl
      rw [this, lB_append]
      rfl
theorem ref07_One_eq {n : Int} (h0 : 0 ≤ n) (h1 : n < 18446744073709551616) (k : Nat) (hk : 9 < k) : linhayref07_One.f k n = some (lB (enc n)) :=
  ref07_One_loop 9 k n h0 (by have : (128 : Int) ^ (9 + 1) = 1180591620717411303424 := by decide
                              omega) h1 (by omega) hk
theorem ref07_Take_loop (s : ByteArray) (hs : s.size ≤ 1152921504606846976) (j : Nat) : ∀ (k i : Nat) (n b : Int), i + j = 10 → i ≤ s.size → (i ≤ 9 → 0 ≤ n ∧ n < 128 ^ i ∧ b = 128 ^ i ∧ ∀ t, takeS ((bL s).take i ++ t) = takeL i n t) → 2 * j + 12 < k →
    linhayref07_Take.l0 k s n b i = some (ansT (takeL i n ((bL s).drop i))) := by
  induction j with
  | zero =>
    intro k i n b hi hl hn hk
    obtain ⟨k, rfl⟩ : ∃ m, k = m + 2 := ⟨k - 2, by omega⟩
    have : i = 10 := by omega
    subst this
    have e : decide (((10 : Nat) : Int) < 10) = false := by decide
    simp only [linhayref07_Take.l0, e, linhayref07_Take.j1]
    rw [takeL_ten]
    split <;> simp [ansT]
  | succ j ih =>
    intro k i n b hi hl hn hk
    obtain ⟨k, rfl⟩ : ∃ m, k = m + 2 := ⟨k - 2, by omega⟩
    obtain ⟨h0, h1, h2, h3⟩ := hn (by omega)
    have e : decide ((i : Int) < 10) = true := decide_eq_true (by omega)
    simp only [linhayref07_Take.l0, e, linhayref07_Take.j1]
    cases hr : (bL s).drop i with
    | nil =>
      have : s.size ≤ i := by rw [← bL_size]; exact List.drop_eq_nil_iff.mp hr
      rw [if_neg (by omega), if_neg (by simp), takeL_nil]
      rfl
    | cons d r =>
      obtain ⟨e1, e2, e3, e4⟩ := bt_drop hr
      have hd := d.toNat_lt
      rw [if_pos (by omega), if_pos trivial, if_pos (by omega), if_pos (by omega), e1]
      have w1 : wrap64 ((i : Int) + 1) = ((i + 1 : Nat) : Int) := by unfold wrap64; omega
      have wd : IntKind.u64.wrap ((d.toNat : Nat) : Int) = d.toNat := nwr (by omega) (by omega)
      have hp := p128 i
      have h9 := p128_le (i := i) (by omega)
      have hps := p128s i
      have hm0 : 0 ≤ ((d.toNat : Nat) : Int) % 128 * 128 ^ i := Int.mul_nonneg (by omega) (by omega)
      have tm : Int.tmod ((d.toNat : Nat) : Int) 128 = (d.toNat : Int) % 128 := Int.tmod_eq_emod_of_nonneg (by omega)
      rw [w1, wd, tm, h2]
      have step : takeL i n (d :: r) = if i ≥ 10 then none else if (d.toNat : Int) ≥ 128 then takeL (i + 1) (n + ((d.toNat : Int) - 128) * 128 ^ i) r else if (i > 0 ∧ d.toNat = 0) ∨ (i = 9 ∧ d.toNat > 1) then none else some (n + (d.toNat : Int) * 128 ^ i, r) := rfl
      have step0 : takeL i n [d] = if i ≥ 10 then none else if (d.toNat : Int) ≥ 128 then takeL (i + 1) (n + ((d.toNat : Int) - 128) * 128 ^ i) [] else if (i > 0 ∧ d.toNat = 0) ∨ (i = 9 ∧ d.toNat > 1) then none else some (n + (d.toNat : Int) * 128 ^ i, []) := rfl
      rw [if_neg (by omega)] at step step0
      by_cases c : ((d.toNat : Nat) : Int) ≥ 128
      · rw [if_pos c] at step step0 ⊢
        by_cases c9 : i = 9
        · subst c9
          rw [ih k (9 + 1) _ _ (by omega) (by omega) (by omega) (by omega), e3, takeL_ten, step, takeL_ten]
        · have hp8 : (128 : Int) ^ i ≤ 72057594037927936 := by
            have : ∀ j : Fin 9, (128 : Int) ^ j.val ≤ 72057594037927936 := by decide
            exact this ⟨i, by omega⟩
          have hm : ((d.toNat : Nat) : Int) % 128 * 128 ^ i ≤ 127 * 128 ^ i := Int.mul_le_mul_of_nonneg_right (by omega) (by omega)
          have dm : ((d.toNat : Nat) : Int) % 128 = (d.toNat : Int) - 128 := by omega
          rw [nwr hm0 (by omega), nwr (by omega) (by omega), nwr (by omega) (by omega)]
          rw [ih k (i + 1) _ _ (by omega) (by omega) (fun _ => ⟨by omega, by omega, hps.symm, fun t => ?_⟩) (by omega), e3, step, dm]
          rw [e4, List.append_assoc, h3, dm]
          simp only [List.singleton_append]
          show takeL i n (d :: t) = _
          unfold takeL
          rw [if_neg (by omega), if_pos c]
          cases t <;> rfl
      · rw [if_neg c] at step step0 ⊢
        have dm : ((d.toNat : Nat) : Int) % 128 = (d.toNat : Int) := by omega
        have wn : Int.toNat ((i + 1 : Nat) : Int) = i + 1 := Int.toNat_natCast _
        rw [dm]
        have hv0 : 0 ≤ IntKind.u64.wrap (n + IntKind.u64.wrap ((d.toNat : Int) * 128 ^ i)) ∧ IntKind.u64.wrap (n + IntKind.u64.wrap ((d.toNat : Int) * 128 ^ i)) < 18446744073709551616 := by
          rw [IntKind.wrap_u64]; omega
        rw [ref07_One_eq hv0.1 hv0.2 k (by omega)]
        simp only [Option.bind_some]
        rw [if_pos (by omega), if_pos (by omega), wn, extract_head, extract_tail, bL_toList, bL_toList, bL_lB, bL_lB, e3, e4]
        have h4 := h3 [d]
        rw [step0] at h4
        by_cases cb : (i > 0 ∧ d.toNat = 0) ∨ (i = 9 ∧ d.toNat > 1)
        · rw [if_pos cb] at h4
          rw [step, if_pos cb, if_neg]
          · rfl
          · intro h5
            have h6 := takeS_enc hv0.1 hv0.2 []
            rw [List.append_nil, h5, h4] at h6
            cases h6
        · rw [if_neg cb] at h4
          rw [step, if_neg cb]
          obtain ⟨g1, g2, g3⟩ := takeS_some h4
          have hz : 0 ≤ (d.toNat : Int) * 128 ^ i := Int.mul_nonneg (by omega) (by omega)
          rw [nwr hz (by omega), nwr g1 g2]
          rw [List.append_nil] at g3
          rw [if_pos g3.symm]
          rfl
theorem ref07_Take_eq (s : ByteArray) (hs : s.size ≤ 1152921504606846976) (k : Nat) (hk : 33 < k) : linhayref07_Take.f k s = some (ansT (takeS (bL s))) :=
  ref07_Take_loop s hs 10 k 0 0 1 (by omega) (by omega) (by intro _; exact ⟨by decide, by decide, by decide, fun t => rfl⟩) (by omega)
end Go.Proofs.Ytkfahdccacefiaa.Facts
