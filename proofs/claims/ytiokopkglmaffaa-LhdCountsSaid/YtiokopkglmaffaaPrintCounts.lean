/- The contract of the law LhdCounts. Conditions: those that each theorem says. -/
import Derived.Test.YtiokopkglmaffaaPrint7
import Derived.Test.YtiokopkglmaffaaPrintRank
import Derived.Deep.RegionHeld3
import Derived.Deep.MidRow
import Derived.IntWalk
namespace Go.Proofs.Ytiokopkglmaffaa.Print
open Go.RowKit Go.Proofs.YtiokopkglmaffaaW.PrintWords Go.Proofs.YtiokopkglmaffaaW.PrintLast Go.Proofs.YtiokopkglmaffaaW.PrintMore
attribute [local go_sem] max2_int min2_int max_two min_two max_three min_three max_four min_four
set_option linter.unusedVariables false
set_option linter.unusedSimpArgs false
set_option maxHeartbeats 8000000 in
set_option maxRecDepth 100000 in
theorem lhd_counts_calls (F : Nat) (xs xh xo : List Int) (age at_ d dh dd : Int) (w : World) (hx : xs.length = 16) (ha : 0 ≤ age ∧ age ≤ 255) (hb : 0 ≤ at_ ∧ at_ ≤ 255)
    (hs : (∃ i, i < 8 ∧ (1125899906842624 ≤ rkG xs i ∨ 1125899906842624 ≤ rkG xs (8 + i))) ∨
      (lhd_Density.f F xs (at_ % 8) = some d ∧ lhd_Hit.f xs (age % 8) = some xh ∧ lhd_Density.f F xh (at_ % 8) = some dh ∧ lhd_Out.f xs (age % 8) = some xo ∧ lhd_Density.f F xo (at_ % 8) = some dd ∧
        (if age % 8 < at_ % 8 then dh = d ∧ dd = d else dd ≤ d ∧ d ≤ 4294967296 ∧ (0 < age % 8 ∨ d ≤ dh ∨ d = 4294967296)))) :
    Calls Try.prog 5 #[.agg (rkV xs), .int .u8 age, .int .u8 at_] w fun e w' => e = .returned (.bool true) ∧ Below w.heap.size w w' := by
  have HX := Aside0.mk hx
  have HS := Aside0.mk hs
  obtain ⟨a0, a1⟩ := ha
  obtain ⟨b0, b1⟩ := hb
  clear hx hs
  go_enter Try.func5, Try.ntmps5
  go_wp2_with (first | ((with_reducible refine gate_dst (N := 3) rfl ?_); refine box_event ?hg (N := 3) ?hd (cs := rkV xs) (t := 25) ?hr ?_; (case hd => rfl); (case hg => rfl); (case hr => first | (go_simp; done) | (go_simp; rfl)); intro g gE w1 hb1 hB1; have HR := Aside0.mk (show RB w w1 g xs from ⟨hb1, hB1, by omega⟩); clear gE hb1 hB1) | (go_at_call 10; (with_reducible refine (lhd_awake_calls _).mono ?_); rintro e w9 ⟨rfl, hbl⟩; have n9 := Aside0.mk (HR.out.step hbl); clear HR hbl; have HR := n9; clear n9))
  go_loop [10] (fun i => ∃ j : Nat, j ≤ 8 ∧ i = .int .i64 j ∧ Aside0 (∀ q, q < j → ¬ (1125899906842624 ≤ rkG xs q ∨ 1125899906842624 ≤ rkG xs (8 + q)))) (fun i => 8 - (intOf i).toNat)
  case atStart => exact ⟨0, by omega, rfl, ⟨fun q hq => absurd hq (Nat.not_lt_zero _)⟩⟩
  case round =>
    obtain ⟨j, hj, rfl, HQ⟩ := hrel
    by_cases hlt : j < 8
    · have f0 := HR.out.cell j (by rw [HX.out]; omega)
      have f1 := HR.out.cell (8 + j) (by rw [HX.out]; omega)
      have p0 : (0 : Int) ≤ (j : Int) := Int.natCast_nonneg _
      have p1 : (j : Int) < 8 := by omega
      by_cases c0 : 1125899906842624 ≤ rkG xs j
      · have d0 : decide (1125899906842624 ≤ rkG xs j) = true := decide_eq_true c0
        go_wp2
        go_ret
        exact ⟨rfl, HR.out.base⟩
      · have d0 : decide (1125899906842624 ≤ rkG xs j) = false := decide_eq_false c0
        by_cases c1 : 1125899906842624 ≤ rkG xs (8 + j)
        · have d1 : decide (1125899906842624 ≤ rkG xs (8 + j)) = true := decide_eq_true c1
          clear c0
          go_wp2
          go_ret
          exact ⟨rfl, HR.out.base⟩
        · have d1 : decide (1125899906842624 ≤ rkG xs (8 + j)) = false := decide_eq_false c1
          have HC := Aside0.mk (And.intro c0 c1)
          clear c0 c1
          go_wp2
          go_round
          case rel => exact ⟨j + 1, by omega, by go_num, ⟨fun q hq => by rcases Nat.lt_succ_iff_lt_or_eq.mp hq with c | c; exact HQ.out q c; subst c; have := HC.out; omega⟩⟩
          case measure => simp [intOf]; omega
    · have hs := HS.out
      clear HS
      rcases hs with ⟨q, hq, hq2⟩ | ⟨h1, h2, h3, h4, h5, h6⟩
      · exact absurd hq2 (HQ.out q (by omega))
      have D1 := Aside0.mk h1
      have D2 := Aside0.mk h2
      have D3 := Aside0.mk h3
      have D4 := Aside0.mk h4
      have D5 := Aside0.mk h5
      clear h1 h2 h3 h4 h5 HQ
      by_cases cc : age % 8 < at_ % 8
      · rw [if_pos cc] at h6
        have e1 : decide (age % 8 < at_ % 8) = true := decide_eq_true cc
        have e2 : (dh == d) = true := beq_iff_eq.mpr h6.1
        have e3 : (dd == d) = true := beq_iff_eq.mpr h6.2
        clear h6 cc
        go_wp2_with (first | ((with_reducible refine gate_dst (N := 38) rfl ?_); refine wpList_load_mid rfl 25 _ rfl g 0 rfl (rkV xs).toList _ (rk_range HR.out.blk) Try.underlying25 rfl (by rw [rk_len HX.out]; exact rk_info) ?_; rw [Array.toArray_toList]) | ((with_reducible refine gate_dst (N := 41) rfl ?_); refine wpList_load_mid rfl 25 _ rfl g 0 rfl (rkV xs).toList _ (rk_range HR.out.blk) Try.underlying25 rfl (by rw [rk_len HX.out]; exact rk_info) ?_; rw [Array.toArray_toList]) | ((with_reducible refine gate_dst (N := 46) rfl ?_); refine wpList_load_mid rfl 25 _ rfl g 0 rfl (rkV xs).toList _ (rk_range HR.out.blk) Try.underlying25 rfl (by rw [rk_len HX.out]; exact rk_info) ?_; rw [Array.toArray_toList]) | (go_at_call 21; (with_reducible refine (lhd_Density.calls F xs (at_ % 8) d _ D1.out).mono ?_); rintro e w9 ⟨rfl, hbl⟩; have n9 := Aside0.mk (HR.out.step hbl); clear HR hbl; have HR := n9; clear n9) | (go_at_call 21; (with_reducible refine (lhd_Density.calls F xh (at_ % 8) dh _ D3.out).mono ?_); rintro e w9 ⟨rfl, hbl⟩; have n9 := Aside0.mk (HR.out.step hbl); clear HR hbl; have HR := n9; clear n9) | (go_at_call 21; (with_reducible refine (lhd_Density.calls F xo (at_ % 8) dd _ D5.out).mono ?_); rintro e w9 ⟨rfl, hbl⟩; have n9 := Aside0.mk (HR.out.step hbl); clear HR hbl; have HR := n9; clear n9) | (go_at_call 15; (with_reducible refine (lhd_Hit.calls xs (age % 8) xh _ D2.out).mono ?_); rintro e w9 ⟨rfl, hbl⟩; have n9 := Aside0.mk (HR.out.step hbl); clear HR hbl; have HR := n9; clear n9) | (go_at_call 17; (with_reducible refine (lhd_Out.calls xs (age % 8) xo _ D4.out).mono ?_); rintro e w9 ⟨rfl, hbl⟩; have n9 := Aside0.mk (HR.out.step hbl); clear HR hbl; have HR := n9; clear n9))
        go_ret
        exact ⟨by first | rfl | (simp; done) | (simp [*]; done), HR.out.base⟩
      · rw [if_neg cc] at h6
        have e1 : decide (age % 8 < at_ % 8) = false := decide_eq_false cc
        have e2 : decide (dd ≤ d) = true := decide_eq_true h6.1
        have e3 : decide (d ≤ 4294967296) = true := decide_eq_true h6.2.1
        obtain ⟨-, -, h7⟩ := h6
        have h8 : decide (0 < age % 8) = true ∨ (decide (0 < age % 8) = false ∧ decide (d ≤ dh) = true) ∨ (decide (0 < age % 8) = false ∧ decide (d ≤ dh) = false ∧ (d == 4294967296) = true) := by
          by_cases u : 0 < age % 8
          · exact .inl (decide_eq_true u)
          · by_cases v : d ≤ dh
            · exact .inr (.inl ⟨decide_eq_false u, decide_eq_true v⟩)
            · exact .inr (.inr ⟨decide_eq_false u, decide_eq_false v, beq_iff_eq.mpr (by omega)⟩)
        clear h7 cc
        rcases h8 with h8 | ⟨h8, h9⟩ | ⟨h8, h9, h10⟩
        all_goals
          go_wp2_with (first | ((with_reducible refine gate_dst (N := 38) rfl ?_); refine wpList_load_mid rfl 25 _ rfl g 0 rfl (rkV xs).toList _ (rk_range HR.out.blk) Try.underlying25 rfl (by rw [rk_len HX.out]; exact rk_info) ?_; rw [Array.toArray_toList]) | ((with_reducible refine gate_dst (N := 41) rfl ?_); refine wpList_load_mid rfl 25 _ rfl g 0 rfl (rkV xs).toList _ (rk_range HR.out.blk) Try.underlying25 rfl (by rw [rk_len HX.out]; exact rk_info) ?_; rw [Array.toArray_toList]) | ((with_reducible refine gate_dst (N := 46) rfl ?_); refine wpList_load_mid rfl 25 _ rfl g 0 rfl (rkV xs).toList _ (rk_range HR.out.blk) Try.underlying25 rfl (by rw [rk_len HX.out]; exact rk_info) ?_; rw [Array.toArray_toList]) | (go_at_call 21; (with_reducible refine (lhd_Density.calls F xs (at_ % 8) d _ D1.out).mono ?_); rintro e w9 ⟨rfl, hbl⟩; have n9 := Aside0.mk (HR.out.step hbl); clear HR hbl; have HR := n9; clear n9) | (go_at_call 21; (with_reducible refine (lhd_Density.calls F xh (at_ % 8) dh _ D3.out).mono ?_); rintro e w9 ⟨rfl, hbl⟩; have n9 := Aside0.mk (HR.out.step hbl); clear HR hbl; have HR := n9; clear n9) | (go_at_call 21; (with_reducible refine (lhd_Density.calls F xo (at_ % 8) dd _ D5.out).mono ?_); rintro e w9 ⟨rfl, hbl⟩; have n9 := Aside0.mk (HR.out.step hbl); clear HR hbl; have HR := n9; clear n9) | (go_at_call 15; (with_reducible refine (lhd_Hit.calls xs (age % 8) xh _ D2.out).mono ?_); rintro e w9 ⟨rfl, hbl⟩; have n9 := Aside0.mk (HR.out.step hbl); clear HR hbl; have HR := n9; clear n9) | (go_at_call 17; (with_reducible refine (lhd_Out.calls xs (age % 8) xo _ D4.out).mono ?_); rintro e w9 ⟨rfl, hbl⟩; have n9 := Aside0.mk (HR.out.step hbl); clear HR hbl; have HR := n9; clear n9))
          go_ret
          exact ⟨by first | rfl | (simp; done) | (simp [*]; done), HR.out.base⟩
def lhd_far (xs : List Int) : Bool := (List.range 8).any fun i => decide (1125899906842624 ≤ rkG xs i) || decide (1125899906842624 ≤ rkG xs (8 + i))
def linhaylaw19_LhdCounts.f (a0 : List Int) (a1 a2 : Int) : Option Bool :=
  if a0.length = 16 ∧ (0 ≤ a1 ∧ a1 ≤ 255) ∧ (0 ≤ a2 ∧ a2 ≤ 255) then
    (if lhd_far a0 = true then some true
     else (lhd_Density.f 100 a0 (a2 % 8)).bind fun d => (lhd_Hit.f a0 (a1 % 8)).bind fun xh => (lhd_Density.f 100 xh (a2 % 8)).bind fun dh => (lhd_Out.f a0 (a1 % 8)).bind fun xo => (lhd_Density.f 100 xo (a2 % 8)).bind fun dd =>
      if (if a1 % 8 < a2 % 8 then dh = d ∧ dd = d else dd ≤ d ∧ d ≤ 4294967296 ∧ (0 < a1 % 8 ∨ d ≤ dh ∨ d = 4294967296)) then some true else none)
  else none
theorem linhaylaw19_LhdCounts.calls (a0 : List Int) (a1 : Int) (a2 : Int) (r : Bool) (w : World) (h : linhaylaw19_LhdCounts.f a0 a1 a2 = some r) :
    Calls Try.prog 5 #[.agg (rkV a0), .int .u8 a1, .int .u8 a2] w fun e w' => e = .returned (.bool r) ∧ Below w.heap.size w w' := by
  unfold linhaylaw19_LhdCounts.f at h
  by_cases c : a0.length = 16 ∧ (0 ≤ a1 ∧ a1 ≤ 255) ∧ (0 ≤ a2 ∧ a2 ≤ 255)
  case neg => rw [if_neg c] at h; cases h
  rw [if_pos c] at h
  by_cases f : lhd_far a0 = true
  · rw [if_pos f] at h
    obtain rfl := Option.some.inj h
    unfold lhd_far at f
    rw [List.any_eq_true] at f
    obtain ⟨i, hi, hf⟩ := f
    simp only [List.mem_range, Bool.or_eq_true, decide_eq_true_eq] at hi hf
    exact lhd_counts_calls 100 a0 [] [] a1 a2 0 0 0 w c.1 c.2.1 c.2.2 (.inl ⟨i, hi, hf⟩)
  · rw [if_neg f] at h
    obtain ⟨d, h1, h⟩ := Option.bind_eq_some_iff.mp h
    obtain ⟨xh, h2, h⟩ := Option.bind_eq_some_iff.mp h
    obtain ⟨dh, h3, h⟩ := Option.bind_eq_some_iff.mp h
    obtain ⟨xo, h4, h⟩ := Option.bind_eq_some_iff.mp h
    obtain ⟨dd, h5, h⟩ := Option.bind_eq_some_iff.mp h
    by_cases q : (if a1 % 8 < a2 % 8 then dh = d ∧ dd = d else dd ≤ d ∧ d ≤ 4294967296 ∧ (0 < a1 % 8 ∨ d ≤ dh ∨ d = 4294967296))
    · rw [if_pos q] at h
      obtain rfl := Option.some.inj h
      exact lhd_counts_calls 100 a0 xh xo a1 a2 d dh dd w c.1 c.2.1 c.2.2 (.inr ⟨h1, h2, h3, h4, h5, q⟩)
    · rw [if_neg q] at h; cases h
end Go.Proofs.Ytiokopkglmaffaa.Print
