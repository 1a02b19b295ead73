/- PackSizes: what its row says of pack, and awake holds. For all inputs, no condition. -/
import Derived.Test.YtkfahdccacefiaaFactsPack2
import Derived.Test.YtkfahdccacefiaaFactsAwake07
import Derived.Test.YtkfahdccacefiaaPrint7
import Derived.Test.YtkfahdccacefiaaPrint7
namespace Go.Proofs.Ytkfahdccacefiaa.Pure
set_option linter.unusedVariables false
set_option linter.unusedSimpArgs false
open Go.RowKit Go.Proofs.Ytkfahdccacefiaa.Print Go.Proofs.Ytkfahdccacefiaa.Facts Go.Proofs.YtkfahdccacefiaaW.PrintWords Go.Proofs.YtkfahdccacefiaaW.PrintLast Go.Proofs.YtkfahdccacefiaaW.PrintMore
theorem size_mono {a b : Int} (h0 : 0 ≤ a) (h : a ≤ b) (h1 : b < 18446744073709551616) : (enc a).length ≤ (enc b).length := by
  have hp : (128 : Int) ^ (9 + 1) = 1180591620717411303424 := by decide
  have up := encF_up 9 b (by omega) (by omega)
  have hpos := encF_pos 9 b
  rcases encF_len_step 9 a h0 (by omega) with lo | lo
  · unfold enc
    generalize (encF 9 a).length = p at *
    generalize (encF 9 b).length = q at *
    rcases Nat.lt_or_ge q p with k | k
    · exfalso
      have h7 : (2 : Int) ^ (7 * q) ≤ 2 ^ (7 * (p - 1)) := npow_le (by omega)
      rw [pow7, pow7] at h7
      exact absurd (Int.lt_of_lt_of_le up (Int.le_trans h7 (Int.le_trans lo h))) (Int.lt_irrefl _)
    · exact k
  · unfold enc; omega
theorem size_more {a : Int} (h0 : 0 < a) (h1 : a < 144115188075855872) : (enc (128 * a)).length = (enc a).length + 1 := by
  have e : enc (128 * a) = UInt8.ofNat (128 * a % 128 + 128).toNat :: encF 8 (128 * a / 128) := by unfold enc; rw [encF, if_pos (by omega)]
  have e2 : 128 * a / 128 = a := by omega
  rw [e, e2]
  have : ∀ (f : Nat) (n : Int), 0 ≤ n → n < 128 ^ (f + 1) → encF (f + 1) n = encF f n := by
    intro f
    induction f with
    | zero => intro n h0 h1; simp only [encF]; rw [if_neg (by simpa using h1)]
    | succ f ih =>
      intro n h0 h1
      rw [encF]
      conv => rhs; rw [encF]
      by_cases c : n ≥ 128
      · rw [if_pos c, if_pos c, ih _ (by omega) (by have := p128s (f + 1); omega)]
      · rw [if_neg c, if_neg c]
  have p9' : (128 : Int) ^ (8 + 1) = 9223372036854775808 := by decide
  unfold enc
  rw [this 8 a (by omega) (by omega)]
  simp
theorem PackSizes : linhaylaw07_PackSizes.Pure := by
  intro a b k l ha hb hk hk8 hkw hl hl8 hlw
  have ha := nwf_u64 ha
  have hb := nwf_u64 hb
  have hkw : W64l k := fun x hx => nwf_u64 (hkw x hx)
  have hlw : W64l l := fun x hx => nwf_u64 (hlw x hx)
  have mx_ : maxLen ≤ 9223372036854775807 := by decide
  refine ⟨60 + 2, ?_⟩
  unfold linhaylaw07_PackSizes.f
  rw [awake07_le _ (by omega)]
  simp only [Option.bind_some]
  by_cases c1 : (k.length : Int) > 100
  · rw [if_pos c1]; simp [linhaylaw07_PackSizes.j0]
  rw [if_neg c1]
  by_cases c2 : (l.length : Int) > 100
  · simp [linhaylaw07_PackSizes.j0, c2]
  have main : linhaylaw07_PackSizes.j1 61 k l true (mn a b) (mx a b) true = some true := by
    have m1 : 0 ≤ mn a b ∧ mn a b ≤ mx a b ∧ mx a b < 18446744073709551616 := by unfold mn mx; omega
    simp only [linhaylaw07_PackSizes.j1]
    have s1 := size_mono m1.1 m1.2.1 m1.2.2
    have s2 := encF_pos 9 (mn a b)
    have s3 := enc_len (mx a b)
    have k3 := encs_len k
    have l3 := encs_len l
    rw [pack_Size_eq _ m1.1 (by omega), pack_Size_eq _ (by omega) m1.2.2]
    simp only [Option.bind_some, if_true]
    have sz : (⟨#[]⟩ : ByteArray).size = 0 := rfl
    rw [if_pos (by omega), if_pos (by unfold enc; omega), if_pos (by omega), pack_Put_eq _ k hkw (by rw [sz]; omega)]
    simp only [Option.bind_some]
    rw [pack_Put_eq _ l hlw (by rw [lB_size, List.length_append]; simp [bL]; omega)]
    simp only [Option.bind_some, List.length_nil]
    rw [if_pos (by omega)]
    simp only [Option.bind_some, List.nil_append]
    rw [if_pos (by omega), pack_Put_eq _ (k ++ l) (by intro x hx; rcases List.mem_append.mp hx with h | h; exact hkw x h; exact hlw x h) (by rw [sz, List.length_append]; omega)]
    simp only [Option.bind_some, bL_lB, Facts.encs_append, List.append_assoc]
    simp
  simp only [linhaylaw07_PackSizes.j0]
  rw [decide_eq_false c2, if_neg (by simp)]
  by_cases c3 : a = 0
  · rw [if_pos c3]; exact main
  rw [if_neg c3]
  by_cases c4 : a ≥ 144115188075855872
  · rw [if_pos c4]; exact main
  rw [if_neg c4, nwr (by omega) (by omega), pack_Size_eq _ (by omega) (by omega), pack_Size_eq _ (by omega) (by omega), size_more (by omega) (by omega)]
  simp only [Option.bind_some]
  have s3 := enc_len a
  have e5 : wrap64 (((enc a).length : Int) + 1) = (((enc a).length + 1 : Nat) : Int) := by unfold wrap64; omega
  rw [e5]
  simpa using main
end Go.Proofs.Ytkfahdccacefiaa.Pure
