/- The contract of the law LhdSmall. Conditions: those that each theorem says. -/
import Derived.Test.YtiokopkglmaffaaPrint7
import Derived.Test.YtiokopkglmaffaaPrintRank
import Derived.Deep.RegionHeld3
import Derived.Deep.MidRow
import Derived.IntWalk
import Derived.Laws.Tables
namespace Go.Proofs.Ytiokopkglmaffaa.Print
open Go.RowKit Go.Proofs.YtiokopkglmaffaaW.PrintWords Go.Proofs.YtiokopkglmaffaaW.PrintLast Go.Proofs.YtiokopkglmaffaaW.PrintMore
attribute [local go_sem] max2_int min2_int max_two min_two max_three min_three max_four min_four
set_option linter.unusedVariables false
set_option linter.unusedSimpArgs false
theorem rk_b1 (a b c d e f g h : Int) : Try.prog.built 25 [(1, Value.agg #[.int .u64 a, .int .u64 b, .int .u64 c, .int .u64 d, .int .u64 e, .int .u64 f, .int .u64 g, .int .u64 h])] = some #[.int .u64 0, .int .u64 0, .int .u64 0, .int .u64 0, .int .u64 0, .int .u64 0, .int .u64 0, .int .u64 0, .int .u64 a, .int .u64 b, .int .u64 c, .int .u64 d, .int .u64 e, .int .u64 f, .int .u64 g, .int .u64 h] := by kernel_rfl
theorem rk_built1 (ys : List Int) (h : ys.length = 8) : Try.prog.built 25 (#[(1, Value.agg (rkV ys))] : Array (Nat × Value)).toList = some (rkV (List.replicate 8 0 ++ ys)) := by
  match ys, h with
  | [a, b, c, d, e, f, g, h], _ => exact rk_b1 a b c d e f g h
theorem RB.range8 {w W : World} {g : Nat} {xs : List Int} (h : RB w W g xs) : W.rangeAt g 8 (rkV (xs.drop 8)).toList := fun j v hj => by
  rw [blk_cell h.1]
  unfold rkV at *
  rw [List.getElem?_toArray]
  simpa [List.getElem?_map, List.getElem?_drop] using hj
theorem RB.far {w W : World} {g g' : Nat} {xs : List Int} (h : RB w W g xs) (ys : List Value) (hg : g ≠ g') (hs : w.heap.size ≤ g') (k : Nat) : RB w (W.setCells g' k ys) g xs := ⟨rk_far hg ys k h.1, rk_below ys hs k h.2.1, h.2.2⟩
theorem RB.stored {w W : World} {g : Nat} {xs ys : List Int} (h : RB w W g xs) (hl : xs.length = ys.length) : RB w (W.setCells g 0 (rkV ys).toList) g ys := ⟨rk_stored h.1 (by rw [rkV_size]; exact hl), rk_below _ h.2.2 0 h.2.1, h.2.2⟩
theorem RB.set1 {w W : World} {g : Nat} {xs : List Int} (h : RB w W g xs) (i : Nat) (v : Int) : RB w (W.setCell ⟨g, i, none⟩ (.int .u64 v)) g (xs.set i v) := ⟨by rw [← rkV_set]; exact blk_set h.1 i _, below_set h.2.1 h.2.2, h.2.2⟩
theorem RB.far1 {w W : World} {g g' : Nat} {xs : List Int} (h : RB w W g xs) (hg : g ≠ g') (hs : w.heap.size ≤ g') (i : Nat) (v : Value) : RB w (W.setCell ⟨g', i, none⟩ v) g xs := ⟨blk_far h.1 hg _, below_set h.2.1 hs, h.2.2⟩
theorem RB.loads {w W : World} {g : Nat} {xs : List Int} (h : RB w W g xs) (hx : xs.length = 16) : (Instr.loadAt 25 (.pointer (some ⟨g, 0, none⟩))).run Try.prog W = .ok (.agg (rkV xs)) W := rk_loads h.1 hx
/-- Are there evictions, from an age on? -/
def lhd_sm (xs : List Int) (k : Nat) : Nat → Bool
  | 0 => false
  | m + 1 => lhd_sm xs k m || decide (0 < rkG xs (8 + (k + m)))
def lhd_lost (xs : List Int) : List Int := List.replicate 8 0 ++ xs.drop 8
def lhd_alone (n : Int) : List Int := (List.replicate 16 0).set 0 n
theorem wpl_lost {ops : Array Oper} {rest : List Oper} {o : Oper} {a : Act} {w : World} {Q : Exit → Act → World → Prop} (hg : o.guard = none) (x : Operand) (ho : o.op = .build 25 #[(1, x)]) (ys : List Int) (hx : a.eval x = .agg (rkV ys)) (hy : ys.length = 8)
    (h : wpList Try.prog ops Q rest (a.put o.dst (.agg (rkV (List.replicate 8 0 ++ ys)))) w) : wpList Try.prog ops Q (o :: rest) a w := by
  refine wpList_build hg 25 #[(1, x)] ho ?_ ?_
  · simp only [List.map_toArray, List.map_cons, List.map_nil, hx]
    rw [rk_built1 ys hy]; rfl
  · simp only [List.map_toArray, List.map_cons, List.map_nil, hx]
    rw [rk_built1 ys hy]; exact h
section
attribute [-go_sem] Instr.loadAt
set_option maxHeartbeats 8000000 in
set_option maxRecDepth 100000 in
theorem lhd_small_calls (F : Nat) (xs : List Int) (n age d1 d2 : Int) (k : Nat) (w : World) (hx : xs.length = 16) (hn : 0 ≤ n ∧ n ≤ 4294967295) (ha : 0 ≤ age ∧ age ≤ 255) (hk : age % 8 = k)
    (h1 : lhd_Density.f F xs k = some d1) (h1' : d1 ≤ 4294967296) (h2 : lhd_Density.f F (lhd_lost xs) k = some d2) (h2' : (d2 == 0) = lhd_sm xs k (8 - k))
    (h3 : lhd_Density.f F (lhd_alone n) 0 = some 4294967296) (h4 : lhd_Density.f F (lhd_alone n) (1 + (k : Int) % 7) = some 4294967296) :
    Calls Try.prog 6 #[.agg (rkV xs), .int .u32 n, .int .u8 age] w fun e w' => e = .returned (.bool true) ∧ Below w.heap.size w w' := by
  have HX := Aside0.mk hx
  have HK := Aside0.mk hk
  have k8 : k < 8 := by omega
  have H1 := Aside0.mk (show lhd_Density.f F xs (age % 8) = some d1 by rw [hk]; exact h1)
  have H2 := Aside0.mk (show lhd_Density.f F (lhd_lost xs) (age % 8) = some d2 by rw [hk]; exact h2)
  have H2' := Aside0.mk h2'
  have H3 := Aside0.mk h3
  have H4 := Aside0.mk (show lhd_Density.f F (lhd_alone n) (1 + age % 8 % 7) = some 4294967296 by rw [hk]; exact h4)
  have e1 : decide (d1 ≤ 4294967296) = true := decide_eq_true h1'
  obtain ⟨a0, a1⟩ := ha
  obtain ⟨n0, n1⟩ := hn
  have XL := Aside0.mk (show (lhd_lost xs).length = 16 by unfold lhd_lost; simp; omega)
  have XA := Aside0.mk (show (lhd_alone n).length = 16 by unfold lhd_alone; simp)
  have X8 := Aside0.mk (show (xs.drop 8).length = 8 by simp; omega)
  clear hx hk h1 h2 h2' h3 h4 h1'
  go_enter Try.func6, Try.ntmps6
  go_wp2_with (first | ((with_reducible refine gate_dst (N := 3) rfl ?_); refine box_event ?hg (N := 3) ?hd (cs := rkV xs) (t := 25) ?hr ?_; (case hd => rfl); (case hg => rfl); (case hr => first | (go_simp; done) | (go_simp; rfl)); intro g gE w1 hb1 hB1; have HR := Aside0.mk (show RB w w1 g xs from ⟨hb1, hB1, by omega⟩); clear gE hb1 hB1) | (go_at_call 10; (with_reducible refine (lhd_awake_calls _).mono ?_); rintro e w9 ⟨rfl, hbl⟩; have n9 := Aside0.mk (HR.out.step hbl); clear HR hbl; have HR := n9; clear n9) |
    ((with_reducible refine gate_dst (N := 18) rfl ?_); refine wpList_load_mid rfl 23 _ rfl g 8 rfl (rkV (xs.drop 8)).toList _ HR.out.range8 Try.underlying23 rfl (by rw [r8_len X8.out]; exact r8_info) ?_; rw [Array.toArray_toList]) |
    ((with_reducible refine gate_dst (N := 19) rfl ?_); refine wpl_lost rfl _ rfl (xs.drop 8) rfl X8.out ?_) | ((with_reducible refine gate_dst (N := 9) rfl ?_); refine box_event ?hg (N := 9) ?hd (cs := rkV (List.replicate 16 0)) (t := 25) ?hr ?_; (case hd => rfl); (case hg => rfl); (case hr => first | (go_simp; done) | (go_simp; rfl)); intro g9 gE w9 hb1 hbl; have NE := Aside0.mk (show g ≠ g9 by have := blk_lt HR.out.blk; omega); have HZ := Aside0.mk (show RB w w9 g9 (List.replicate 16 0) from ⟨hb1, below_step HR.out.base hbl, by have := HR.out.base.size; omega⟩); have n9 := Aside0.mk (HR.out.step hbl); clear HR hbl gE hb1; have HR := n9; clear n9) | (refine wpList_store_mid rfl 25 _ _ rfl g9 0 (rkV (lhd_lost xs)) rfl rfl (rk_there HZ.out.blk _ (by rw [rkV_size, rkV_size, XL.out]; rfl)) (by rw [rkV_size, XL.out]; exact rk_info) (rk_one _) ?_; refine abs2 (fun W => RB w W g xs ∧ RB w W g9 (lhd_lost xs)) ⟨HR.out.far _ NE.out HZ.out.2.2 0, HZ.out.stored (by rw [XL.out]; rfl)⟩ ?_; clear HR HZ; rintro w8 ⟨hr8, hz8⟩; have HR := Aside0.mk hr8; have HZ := Aside0.mk hz8; clear hr8 hz8))
  go_loop [10, 11] (fun v10 v11 => ∃ m : Nat, k + m ≤ 8 ∧ v10 = .bool (lhd_sm xs k m) ∧ v11 = .int .i64 ((k + m : Nat) : Int)) (fun _ v11 => 8 - (intOf v11).toNat)
  case atStart => exact ⟨0, by omega, rfl, by rw [HK.out]; rfl⟩
  case round =>
    obtain ⟨m, hm, rfl, rfl⟩ := hrel
    obtain ⟨j, hj⟩ : ∃ j, j = k + m := ⟨_, rfl⟩
    have HJ := Aside0.mk hj
    rw [← hj] at hm
    have hs1 : lhd_sm xs k (m + 1) = (lhd_sm xs k m || decide (0 < rkG xs (8 + j))) := by rw [hj]; rfl
    rw [← hj]
    clear hj
    by_cases hlt : j < 8
    · have kc := lhd_ld22 (HR.out.cell (8 + j) (by rw [HX.out]; omega))
      have p0 : (0 : Int) ≤ (j : Int) := Int.natCast_nonneg _
      have p1 : (j : Int) < 8 := by omega
      generalize lhd_sm xs k m = b at hs1 ⊢
      cases b with
      | true =>
        have HS := Aside0.mk (show lhd_sm xs k (m + 1) = true by rw [hs1]; rfl)
        clear hs1
        go_wp2
        go_round
        case rel => exact ⟨m + 1, by have := HJ.out; omega, by rw [HS.out], by have := HJ.out; rw [show k + (m + 1) = j + 1 by omega]; go_num⟩
        case measure => simp [intOf]; omega
      | false =>
        obtain ⟨c, hc⟩ : ∃ c, c = decide (0 < rkG xs (8 + j)) := ⟨_, rfl⟩
        have HS := Aside0.mk (show lhd_sm xs k (m + 1) = c by rw [hs1, hc]; rfl)
        have hc' := hc.symm
        clear hs1 hc
        cases c
        all_goals
          go_wp2
          go_round
          case rel => exact ⟨m + 1, by have := HJ.out; omega, by rw [HS.out], by have := HJ.out; rw [show k + (m + 1) = j + 1 by omega]; go_num⟩
          case measure => simp [intOf]; omega
    · have hk8 : m = 8 - k := by have := HJ.out; omega
      have hb : (d2 == 0) = lhd_sm xs k m := by rw [hk8]; exact H2'.out
      clear hs1 hk8
      generalize lhd_sm xs k m = b at hb ⊢
      cases b
      all_goals
        go_wp2_with (first | ((with_reducible refine gate_dst (N := 12) rfl ?_); refine box_event ?hg (N := 12) ?hd (cs := rkV (List.replicate 16 0)) (t := 25) ?hr ?_; (case hd => rfl); (case hg => rfl); (case hr => first | (go_simp; done) | (go_simp; rfl)); intro ga gE w9 hb1 hbl; have NA := Aside0.mk (show g ≠ ga by have := blk_lt HR.out.blk; omega); have NB := Aside0.mk (show g9 ≠ ga by have := blk_lt HZ.out.blk; omega); have HA := Aside0.mk (show RB w w9 ga (List.replicate 16 0) from ⟨hb1, below_step HR.out.base hbl, by have := HR.out.base.size; omega⟩); have n1 := Aside0.mk (HR.out.step hbl); have n2 := Aside0.mk (HZ.out.step hbl); clear HR HZ hbl gE hb1; have HR := n1; have HZ := n2; clear n1 n2; have hc := HA.out.cell 0 (by decide); have hf := blk_frozen HA.out.blk 0; have n1 := Aside0.mk (HR.out.far1 NA.out HA.out.2.2 0 (.int .u64 n)); have n2 := Aside0.mk (HZ.out.far1 NB.out HA.out.2.2 0 (.int .u64 n)); have n3 := Aside0.mk (show RB w _ ga (lhd_alone n) from HA.out.set1 0 n); clear HR HZ HA; have HR := n1; have HZ := n2; have HA := n3; clear n1 n2 n3; have kl1 := HR.out.loads HX.out; have kl2 := HZ.out.loads XL.out; have kl3 := HA.out.loads XA.out) | (go_at_call 21; (with_reducible refine (lhd_Density.calls F xs (age % 8) d1 _ H1.out).mono ?_); rintro e w9 ⟨rfl, hbl⟩; have n1 := Aside0.mk (HR.out.step hbl); have n2 := Aside0.mk (HZ.out.step hbl); have n3 := Aside0.mk (HA.out.step hbl); clear kl1 kl2 kl3 HR HZ HA hbl; have HR := n1; have HZ := n2; have HA := n3; clear n1 n2 n3; (try clear kl1 kl2 kl3); have kl1 := HR.out.loads HX.out; have kl2 := HZ.out.loads XL.out; have kl3 := HA.out.loads XA.out) | (go_at_call 21; (with_reducible refine (lhd_Density.calls F (lhd_lost xs) (age % 8) d2 _ H2.out).mono ?_); rintro e w9 ⟨rfl, hbl⟩; have n1 := Aside0.mk (HR.out.step hbl); have n2 := Aside0.mk (HZ.out.step hbl); have n3 := Aside0.mk (HA.out.step hbl); clear kl1 kl2 kl3 HR HZ HA hbl; have HR := n1; have HZ := n2; have HA := n3; clear n1 n2 n3; (try clear kl1 kl2 kl3); have kl1 := HR.out.loads HX.out; have kl2 := HZ.out.loads XL.out; have kl3 := HA.out.loads XA.out) | (go_at_call 21; (with_reducible refine (lhd_Density.calls F (lhd_alone n) 0 4294967296 _ H3.out).mono ?_); rintro e w9 ⟨rfl, hbl⟩; have n1 := Aside0.mk (HR.out.step hbl); have n2 := Aside0.mk (HZ.out.step hbl); have n3 := Aside0.mk (HA.out.step hbl); clear kl1 kl2 kl3 HR HZ HA hbl; have HR := n1; have HZ := n2; have HA := n3; clear n1 n2 n3; (try clear kl1 kl2 kl3); have kl1 := HR.out.loads HX.out; have kl2 := HZ.out.loads XL.out; have kl3 := HA.out.loads XA.out) | (go_at_call 21; (with_reducible refine (lhd_Density.calls F (lhd_alone n) (1 + age % 8 % 7) 4294967296 _ H4.out).mono ?_); rintro e w9 ⟨rfl, hbl⟩; have n1 := Aside0.mk (HR.out.step hbl); have n2 := Aside0.mk (HZ.out.step hbl); have n3 := Aside0.mk (HA.out.step hbl); clear kl1 kl2 kl3 HR HZ HA hbl; have HR := n1; have HZ := n2; have HA := n3; clear n1 n2 n3; (try clear kl1 kl2 kl3); have kl1 := HR.out.loads HX.out; have kl2 := HZ.out.loads XL.out; have kl3 := HA.out.loads XA.out))
        go_ret
        exact ⟨by first | rfl | (simp; done) | (simp [*]; done), HR.out.base⟩
end
def linhaylaw19_LhdSmall.f (a0 : List Int) (a1 a2 : Int) : Option Bool :=
  if a0.length = 16 ∧ (0 ≤ a1 ∧ a1 ≤ 4294967295) ∧ (0 ≤ a2 ∧ a2 ≤ 255) then
    (lhd_Density.f 100 a0 (a2 % 8).toNat).bind fun d1 => (lhd_Density.f 100 (lhd_lost a0) (a2 % 8).toNat).bind fun d2 => (lhd_Density.f 100 (lhd_alone a1) 0).bind fun d3 => (lhd_Density.f 100 (lhd_alone a1) (1 + ((a2 % 8).toNat : Int) % 7)).bind fun d4 =>
      if d1 ≤ 4294967296 ∧ (d2 == 0) = lhd_sm a0 (a2 % 8).toNat (8 - (a2 % 8).toNat) ∧ d3 = 4294967296 ∧ d4 = 4294967296 then some true else none
  else none
theorem linhaylaw19_LhdSmall.calls (a0 : List Int) (a1 : Int) (a2 : Int) (r : Bool) (w : World) (h : linhaylaw19_LhdSmall.f a0 a1 a2 = some r) :
    Calls Try.prog 6 #[.agg (rkV a0), .int .u32 a1, .int .u8 a2] w fun e w' => e = .returned (.bool r) ∧ Below w.heap.size w w' := by
  unfold linhaylaw19_LhdSmall.f at h
  by_cases c : a0.length = 16 ∧ (0 ≤ a1 ∧ a1 ≤ 4294967295) ∧ (0 ≤ a2 ∧ a2 ≤ 255)
  case neg => rw [if_neg c] at h; cases h
  rw [if_pos c] at h
  obtain ⟨d1, h1, h⟩ := Option.bind_eq_some_iff.mp h
  obtain ⟨d2, h2, h⟩ := Option.bind_eq_some_iff.mp h
  obtain ⟨d3, h3, h⟩ := Option.bind_eq_some_iff.mp h
  obtain ⟨d4, h4, h⟩ := Option.bind_eq_some_iff.mp h
  by_cases q : d1 ≤ 4294967296 ∧ (d2 == 0) = lhd_sm a0 (a2 % 8).toNat (8 - (a2 % 8).toNat) ∧ d3 = 4294967296 ∧ d4 = 4294967296
  · rw [if_pos q] at h
    obtain rfl := Option.some.inj h
    obtain ⟨q1, q2, rfl, rfl⟩ := q
    exact lhd_small_calls 100 a0 a1 a2 d1 d2 (a2 % 8).toNat w c.1 c.2.1 c.2.2 (by omega) h1 q1 h2 q2 h3 h4
  · rw [if_neg q] at h; cases h
end Go.Proofs.Ytiokopkglmaffaa.Print
