/- Lean functions that answer what Go functions of the translation answer, and the proofs of it. Written by a program of this session (wip/tools/seatprint.py), over contracts that it proved by hand. Conditions: those that each theorem says. -/
import Derived.Test.YtiokopkglmaffaaPrint0
import Derived.Test.YtiokopkglmaffaaPrint2
import Derived.Test.YtiokopkglmaffaaPrint4
import Derived.Test.YtiokopkglmaffaaPrint6
namespace Go.Proofs.Ytiokopkglmaffaa.Print
open Go.RowKit Go.Proofs.YtiokopkglmaffaaW.PrintWords Go.Proofs.YtiokopkglmaffaaW.PrintLast Go.Proofs.YtiokopkglmaffaaW.PrintMore
attribute [local go_sem] max2_int min2_int max_two min_two max_three min_three max_four min_four   -- for this text's walks alone
set_option linter.unusedVariables false
set_option linter.unusedSimpArgs false

/-! ### lhd_Fade: function 19 -/
theorem r8_info : (Try.prog.info? 23).map (·.size) = some 8 := by kernel_rfl
theorem r8_len {xs : List Int} (h : xs.length = 8) : (rkV xs).toList.length = 8 := by simp [rkV, h]
theorem r8_loadv {w : World} {g : Nat} {t : TypeId} {xs : List Int} (h : w.heap[g]? = some (.cells (rkV xs) t (0, 0))) (hx : xs.length = 8) :
    (loadVar 23 ⟨g, 0, none⟩).run Try.prog w = .ok (.agg (rkV xs)) w := by
  have := run_loadVar_mid (P := Try.prog) w g 0 23 (rkV xs).toList _ (rk_range h) Try.underlying23 rfl (by rw [r8_len hx]; exact r8_info)
  simpa using this
/-- The first i of some numbers halved. -/
def hup (i : Nat) (xs : List Int) : List Int := (xs.take i).map (· / 2) ++ xs.drop i
theorem hup_len (i : Nat) (xs : List Int) : (hup i xs).length = xs.length := by unfold hup; simp; omega
theorem hup_get (i : Nat) (xs : List Int) (h : i < xs.length) : rkG (hup i xs) i = rkG xs i := by
  unfold hup rkG
  rw [List.getD_eq_getElem?_getD, List.getD_eq_getElem?_getD, List.getElem?_append_right (by simp; omega)]
  simp
  rw [show min i xs.length = i by omega]; simp
theorem hup_step (i : Nat) (xs : List Int) (h : i < xs.length) : (hup i xs).set i (rkG (hup i xs) i / 2) = hup (i + 1) xs := by
  rw [hup_get i xs h]
  have hl : ((xs.take i).map (· / 2)).length = i := by simp; omega
  unfold hup
  rw [List.set_append, if_neg (by omega), hl, Nat.sub_self, List.drop_eq_getElem_cons h, List.set_cons_zero, List.take_succ_eq_append_getElem h, List.map_append, List.append_assoc]
  unfold rkG
  rw [List.getD_eq_getElem?_getD, List.getElem?_eq_getElem h]
  rfl
theorem hup_all (xs : List Int) : hup xs.length xs = xs.map (· / 2) := by unfold hup; simp
set_option maxHeartbeats 4000000 in
set_option maxRecDepth 100000 in
theorem lhd_half.calls (xs : List Int) (w : World) (hx : xs.length = 8) :
    Calls Try.prog 30 #[.agg (rkV xs)] w fun e w' => e = .returned (.agg (rkV (xs.map (· / 2)))) ∧ Below w.heap.size w w' := by
  have HX := Aside0.mk hx
  clear hx
  go_enter Try.func30, Try.ntmps30
  go_wp2_with (first | ((with_reducible refine gate_dst (N := 1) rfl ?_); refine box_event ?hg (N := 1) ?hd (cs := rkV xs) (t := 23) ?hr ?_; (case hd => rfl); (case hg => rfl); (case hr => first | (go_simp; done) | (go_simp; rfl)); intro g gE w1 hb1 hB1; have GE := Aside0.mk gE; clear gE; have HB1 := Aside0.mk hb1; have HL1 := Aside0.mk hB1; clear hb1 hB1) | ((with_reducible refine gate_dst (N := 2) rfl ?_); refine box_event ?hg (N := 2) ?hd (cs := rkV (List.replicate 8 0)) (t := 23) ?hr ?_; (case hd => rfl); (case hg => rfl); (case hr => first | (go_simp; done) | (go_simp; rfl)); intro g2 gE2 w2 hb2 hB2; have NE := Aside0.mk (show g2 ≠ g by have := blk_lt HB1.out; omega); have HL2' := Aside0.mk (show w.heap.size ≤ g2 by have := HL1.out.size; omega); clear gE2; have HB3 := Aside0.mk ((hB2.block g (blk_lt HB1.out)).trans HB1.out); have HB2 := Aside0.mk hb2; have HL2 := Aside0.mk (below_step HL1.out hB2); clear hb2 hB2))
  go_loopg [4] 8 (fun kq v4 W => ∃ x : Int, v4 = .int .i64 x ∧ Aside0 (0 ≤ x ∧ x + kq = 8) ∧ Aside0 (W.heap[g]? = some (.cells (rkV (hup x.toNat xs)) 23 (0, 0))) ∧ Aside0 (W.heap[g2]? = some (.cells (rkV (List.replicate 8 0)) 23 (0, 0))) ∧ Aside0 (Below w.heap.size w W))
  case atStart => exact ⟨0, rfl, ⟨by omega⟩, ⟨by have h := HB3.out; simpa [hup] using h⟩, HB2, HL2⟩
  case round =>
    clear HB3 HB2 HL2
    obtain ⟨x, rfl, HI, HB3, HB2, HL2⟩ := hrel
    by_cases c : x < 8
    · have c1 : decide (x < 8) = true := decide_eq_true c
      have c2 : decide (0 ≤ x) = true := decide_eq_true HI.out.1
      have p1 := eq_true HI.out.1
      have p2 := eq_true c
      obtain ⟨k1, rfl⟩ : ∃ q, gk = q + 1 := ⟨gk - 1, by have := HI.out; omega⟩
      have hc := (blk_cell HB3.out x.toNat).trans (rkV_get _ x.toNat (by rw [hup_len, HX.out]; have := HI.out; omega))
      have hf := blk_frozen HB3.out x.toNat
      have W1 := Aside0.mk (show wrap64 (x + 1) = x + 1 by have := HI.out; unfold wrap64; omega)
      have C := Aside0.mk c
      clear c
      go_wp2
      go_roundg k1
      case measure => omega
      case rel => exact ⟨x + 1, (by first | rfl | (simp; done) | (simp; exact W1.out) | (simp [W1.out]; done)), ⟨by have := HI.out; omega⟩, ⟨by
        have e : (x + 1).toNat = x.toNat + 1 := by have := HI.out; omega
        rw [e, ← hup_step x.toNat xs (by rw [HX.out]; have := HI.out; have := C.out; omega)]
        exact blk_put HB3.out x.toNat _ (rkV_set _ _ _)⟩, ⟨blk_far HB2.out NE.out _⟩, ⟨HL2.out.setCell (by have := GE.out; simp; omega) _⟩⟩
    · have c1 : decide (x < 8) = false := decide_eq_false c
      have e8 : hup x.toNat xs = xs.map (· / 2) := by
        have := HI.out
        have e : x.toNat = xs.length := by rw [HX.out]; omega
        rw [e, hup_all]
      rw [e8] at HB3
      have LX : (xs.map (· / 2)).length = 8 := by rw [List.length_map]; exact HX.out
      have HXX := Aside0.mk LX
      clear LX e8 c
      go_wp2_with (first | ((with_reducible refine gate_dst (N := 13) rfl ?_); refine wpList_load_mid rfl 23 _ rfl g 0 rfl (rkV (xs.map (· / 2))).toList _ (rk_range HB3.out) Try.underlying23 rfl (by rw [r8_len HXX.out]; exact r8_info) ?_) | (refine wpList_store_mid rfl 23 _ _ rfl g2 0 _ rfl rfl (rk_there HB2.out _ (by simp [rkV, HX.out])) (by (try simp only [Array.toArray_toList]); rw [rkV_size, HXX.out]; exact r8_info) (by (try simp only [Array.toArray_toList]); exact rk_one _) ?_))
      have HB5 := rk_stored (xs := xs.map (· / 2)) HB2.out (by simp [rkV, HX.out])
      refine bodyPost_ret (v := .agg (rkV (xs.map (· / 2)))) (results_cell Try.results30 rfl (r8_loadv HB5 HXX.out)) rfl ⟨rfl, ?_⟩
      exact rk_below _ HL2'.out 0 HL2.out
theorem rk_part {w : World} {g : Nat} {t : TypeId} {xs ys : List Int} (o : Nat) (h : w.heap[g]? = some (.cells (rkV xs) t (0, 0))) (hy : ∀ j, j < ys.length → xs[o + j]? = ys[j]?) : w.rangeAt g o (rkV ys).toList := fun j v hj => by
  rw [blk_cell h (o + j)]
  have hl : j < ys.length := by
    rcases Nat.lt_or_ge j ys.length with c | c
    · exact c
    · rw [List.getElem?_eq_none (by simpa [rkV] using c)] at hj; cases hj
  rw [← hj]
  simp [rkV, hy j hl]
theorem rk_eight {l : List Int} (h : l.length = 8) : ∃ a0 a1 a2 a3 a4 a5 a6 a7, l = [a0, a1, a2, a3, a4, a5, a6, a7] := by
  match l, h with
  | [a0, a1, a2, a3, a4, a5, a6, a7], _ => exact ⟨a0, a1, a2, a3, a4, a5, a6, a7, rfl⟩
theorem rk_built (a b : List Int) (ha : a.length = 8) (hb : b.length = 8) : Try.prog.built 25 [(0, .agg (rkV a)), (1, .agg (rkV b))] = some (rkV (a ++ b)) := by
  obtain ⟨a0, a1, a2, a3, a4, a5, a6, a7, rfl⟩ := rk_eight ha
  obtain ⟨b0, b1, b2, b3, b4, b5, b6, b7, rfl⟩ := rk_eight hb
  clear ha hb
  kernel_rfl
theorem rk_take {xs : List Int} (h : xs.length = 16) : (xs.take 8).length = 8 ∧ (xs.drop 8).length = 8 := by simp; omega
set_option maxHeartbeats 4000000 in
set_option maxRecDepth 100000 in
theorem lhd_Fade_calls (xs : List Int) (w : World) (hx : xs.length = 16) :
    Calls Try.prog 19 #[.agg (rkV xs)] w fun e w' => e = .returned (.agg (rkV (xs.map (· / 2)))) ∧ Below w.heap.size w w' := by
  have HX := Aside0.mk hx
  have H8 := Aside0.mk (rk_take hx)
  clear hx
  go_enter Try.func19, Try.ntmps19
  go_wp2_with (first | ((with_reducible refine gate_dst (N := 1) rfl ?_); refine box_event ?hg (N := 1) ?hd (cs := rkV xs) (t := 25) ?hr ?_; (case hd => rfl); (case hg => rfl); (case hr => first | (go_simp; done) | (go_simp; rfl)); intro g gE w1 hb1 hB1; have GE := Aside0.mk gE; clear gE; have HB1 := Aside0.mk hb1; have HL1 := Aside0.mk hB1; clear hb1 hB1) | ((with_reducible refine gate_dst (N := 2) rfl ?_); refine box_event ?hg (N := 2) ?hd (cs := rkV (List.replicate 16 0)) (t := 25) ?hr ?_; (case hd => rfl); (case hg => rfl); (case hr => first | (go_simp; done) | (go_simp; rfl)); intro g2 gE2 w2 hb2 hB2; have NE := Aside0.mk (show g2 ≠ g by have := blk_lt HB1.out; omega); have HL2' := Aside0.mk (show w.heap.size ≤ g2 by have := HL1.out.size; omega); clear gE2; have HB3 := Aside0.mk ((hB2.block g (blk_lt HB1.out)).trans HB1.out); have HB2 := Aside0.mk hb2; have HL2 := Aside0.mk (below_step HL1.out hB2); clear hb2 hB2))
  refine wp_region_held_drew (S := fun W => W.heap[g]? = some (.cells (rkV xs) 25 (0, 0)) ∧ (∃ C, W.heap[g2]? = some (.cells C 25 (0, 0)) ∧ C.size = 16) ∧ Below w.heap.size w W) (by kernel_rfl) ⟨HB3.out, ⟨_, HB2.out, by simp [rkV]⟩, pw_below_drewN HL2.out 1⟩ (fun hH => ?_)
  refine wpAnyH_take (i := 0) (oi := _) (v := ?_) rfl (by kernel_rfl) (by kernel_rfl) (by kernel_rfl) (fun _ _ _ h => h) (Or.inl ⟨by rfl, ?_⟩) hH ?_
  case refine_2 => intro w hSw; go_simp; with_reducible rfl
  (try simp only [Act.put, List.setIfInBounds_toArray, List.set_cons_zero, List.set_cons_succ, Array.toArray_toList])
  refine wpAnyH_take (i := 1) (oi := _) (v := ?_) rfl (by kernel_rfl) (by kernel_rfl) (by kernel_rfl) (fun _ _ _ h => h) (Or.inl ⟨by rfl, ?_⟩) hH ?_
  case refine_2 => intro w hSw; go_simp; with_reducible rfl
  (try simp only [Act.put, List.setIfInBounds_toArray, List.set_cons_zero, List.set_cons_succ, Array.toArray_toList])
  refine wpAnyH_take (i := 2) (oi := _) (v := _) rfl (by kernel_rfl) (by kernel_rfl) (by kernel_rfl) (fun _ _ _ h => h) (yieldsIf_load_mid (by rfl) _ _ rfl g 0 rfl (rkV (xs.take 8)).toList _ (fun W hW => rk_part 0 hW.1 (by intro j hj; rw [Nat.zero_add, List.getElem?_take_of_lt (by have := H8.out; omega)])) Try.underlying23 rfl (by rw [r8_len H8.out.1]; exact r8_info)) hH ?_
  (try simp only [Act.put, List.setIfInBounds_toArray, List.set_cons_zero, List.set_cons_succ, Array.toArray_toList])
  refine wpAnyH_take (i := 4) (oi := _) (v := ?_) rfl (by kernel_rfl) (by kernel_rfl) (by kernel_rfl) (fun _ _ _ h => h) (Or.inl ⟨by rfl, ?_⟩) hH ?_
  case refine_2 => intro w hSw; go_simp; with_reducible rfl
  (try simp only [Act.put, List.setIfInBounds_toArray, List.set_cons_zero, List.set_cons_succ, Array.toArray_toList])
  refine wpAnyH_take (i := 5) (oi := _) (v := ?_) rfl (by kernel_rfl) (by kernel_rfl) (by kernel_rfl) (fun _ _ _ h => h) (Or.inl ⟨by rfl, ?_⟩) hH ?_
  case refine_2 => intro w hSw; go_simp; with_reducible rfl
  (try simp only [Act.put, List.setIfInBounds_toArray, List.set_cons_zero, List.set_cons_succ, Array.toArray_toList])
  refine wpAnyH_take (i := 6) (oi := _) (v := _) rfl (by kernel_rfl) (by kernel_rfl) (by kernel_rfl) (fun _ _ _ h => h) (yieldsIf_load_mid (by rfl) _ _ rfl g 8 rfl (rkV (xs.drop 8)).toList _ (fun W hW => rk_part 8 hW.1 (by intro j hj; rw [List.getElem?_drop])) Try.underlying23 rfl (by rw [r8_len H8.out.2]; exact r8_info)) hH ?_
  (try simp only [Act.put, List.setIfInBounds_toArray, List.set_cons_zero, List.set_cons_succ, Array.toArray_toList])
  refine wpAnyH_ready (rs := [3]) (by kernel_rfl) (by simp) ?_
  refine AllReadyH.cons (o := _) rfl (fun K hK => ?_) AllReadyH.nil
  rw [if_pos (by rfl)]
  go_simp
  refine (lhd_half.calls (xs.take 8) _ H8.out.1).mono ?_
  rintro e w4 ⟨rfl, hbl⟩
  go_simp
  refine hK.out _ _ ⟨(hbl.block g (blk_lt hH.1)).trans hH.1, hH.2.1.elim fun C hC => ⟨C, (hbl.block g2 (blk_lt hC.1)).trans hC.1, hC.2⟩, below_step hH.2.2 hbl⟩ (fun hH => ?_)
  clear hK K hbl
  (try simp only [Act.put, List.setIfInBounds_toArray, List.set_cons_zero, List.set_cons_succ, Array.toArray_toList])
  refine wpAnyH_ready (rs := [7]) (by kernel_rfl) (by simp) ?_
  refine AllReadyH.cons (o := _) rfl (fun K hK => ?_) AllReadyH.nil
  rw [if_pos (by rfl)]
  go_simp
  refine (lhd_half.calls (xs.drop 8) _ H8.out.2).mono ?_
  rintro e w4 ⟨rfl, hbl⟩
  go_simp
  refine hK.out _ _ ⟨(hbl.block g (blk_lt hH.1)).trans hH.1, hH.2.1.elim fun C hC => ⟨C, (hbl.block g2 (blk_lt hC.1)).trans hC.1, hC.2⟩, below_step hH.2.2 hbl⟩ (fun hH => ?_)
  clear hK K hbl
  (try simp only [Act.put, List.setIfInBounds_toArray, List.set_cons_zero, List.set_cons_succ, Array.toArray_toList])
  refine wpAnyH_take (i := 8) (oi := { dst := some 12, op := .build 25 #[(0, .tmp 7), (1, .tmp 11)], type := 25, pos := "lhd.go:43", after := #[{ on := 3, ground := .data }, { on := 7, ground := .data }], guard := none }) (v := .agg (rkV (xs.map (· / 2)))) rfl (by kernel_rfl) (by kernel_rfl) (by kernel_rfl) (fun _ _ _ h => h) (Or.inl ⟨by rfl, ?_⟩) hH ?_
  case refine_1 =>
    intro w hSw
    have hb := rk_built ((xs.map (· / 2)).take 8) ((xs.map (· / 2)).drop 8) (by rw [← List.map_take, List.length_map]; exact H8.out.1) (by rw [← List.map_drop, List.length_map]; exact H8.out.2)
    rw [List.take_append_drop] at hb
    unfold execOp
    simp only [Sem.run_bind, Sem.run_pure, Result.andThen_ok, List.map_toArray, List.map_cons, List.map_nil]
    have hr := run_build (P := Try.prog) w 25 #[(0, .agg (rkV ((xs.map (· / 2)).take 8))), (1, .agg (rkV ((xs.map (· / 2)).drop 8)))] (rkV (xs.map (· / 2))) hb
    have hr2 := congrArg (fun r => Result.andThen r (fun a w' => Result.ok (Next.value a) w')) hr
    exact hr2
  (try simp only [Act.put, List.setIfInBounds_toArray, List.set_cons_zero, List.set_cons_succ, Array.toArray_toList])
  refine wpAnyH_ready (rs := [9]) (by kernel_rfl) (by simp) ?_
  refine AllReadyH.cons (o := _) rfl (fun K hK => ?_) AllReadyH.nil
  rw [if_pos (by rfl)]
  obtain ⟨hb3, ⟨C, hC, hCs⟩, hl⟩ := hH
  have LM : (xs.map (· / 2)).length = 16 := by rw [List.length_map]; exact HX.out
  refine wp_store_mid _ _ _ rfl g2 0 (rkV (xs.map (· / 2))) rfl rfl (rk_there hC _ (by rw [hCs, rkV_size, LM])) (by rw [rkV_size, LM]; exact rk_info) (rk_one _) ?_
  have HB5 := rk_stored (xs := xs.map (· / 2)) hC (by rw [hCs, LM])
  refine hK.out _ _ ⟨rk_far (Ne.symm NE.out) _ 0 hb3, ⟨_, HB5, by rw [rkV_size, LM]⟩, rk_below _ HL2'.out 0 hl⟩ (fun hH => ?_)
  clear hK K
  refine wpAnyH_done (by kernel_rfl) ?_ _
  have HB6 := Aside0.mk HB5
  have HXX := Aside0.mk LM
  have HL6 := Aside0.mk hH.2.2
  clear hH HB5 LM hl hC hCs hb3
  go_wp2
  refine bodyPost_ret (v := .agg (rkV (xs.map (· / 2)))) (results_cell Try.results19 rfl (rk_loadv HB6.out HXX.out)) rfl ⟨rfl, HL6.out⟩
def lhd_Fade.f (xs : List Int) : Option (List Int) := if xs.length = 16 then some (xs.map (· / 2)) else none
theorem lhd_Fade.calls (xs : List Int) (r : List Int) (w : World) (h : lhd_Fade.f xs = some r) :
    Calls Try.prog 19 #[.agg (rkV xs)] w fun e w' => e = .returned (.agg (rkV r)) ∧ Below w.heap.size w w' := by
  unfold lhd_Fade.f at h
  by_cases hx : xs.length = 16
  · rw [if_pos hx] at h
    obtain rfl := Option.some.inj h
    exact lhd_Fade_calls xs w hx
  · rw [if_neg hx] at h; cases h

/-! ### linhaylaw19_awake: function 10 -/
theorem rk_R0 : (#[.int .u64 3, .int .u64 0, .int .u64 0, .int .u64 0, .int .u64 0, .int .u64 0, .int .u64 0, .int .u64 0, .int .u64 1, .int .u64 0, .int .u64 0, .int .u64 0, .int .u64 0, .int .u64 0, .int .u64 0, .int .u64 0] : Array Value) = rkV [3, 0, 0, 0, 0, 0, 0, 0, 1, 0, 0, 0, 0, 0, 0, 0] := rfl
theorem rk_S0 : (#[.int .u64 3, .int .u64 0, .int .u64 0, .int .u64 0, .int .u64 0, .int .u64 0, .int .u64 0, .int .u64 0, .int .u64 1, .int .u64 0, .int .u64 0, .int .u64 1, .int .u64 0, .int .u64 0, .int .u64 0, .int .u64 0] : Array Value) = rkV [3, 0, 0, 0, 0, 0, 0, 0, 1, 0, 0, 1, 0, 0, 0, 0] := rfl
theorem lhd_Density_lit {cs : Array Value} (fuel : Nat) (xs : List Int) (a : Int) (r : Int) (w : World) (e : cs = rkV xs) (h : lhd_Density.f fuel xs a = some r) :
    Calls Try.prog 21 #[.agg cs, .int .i64 a] w fun e w' => e = .returned (.int .u64 r) ∧ Below w.heap.size w w' := by
  subst e
  exact lhd_Density.calls fuel xs a r w h
theorem wpl_move {ops : Array Oper} {rest : List Oper} {o : Oper} {a : Act} {w : World} {Q : Exit → Act → World → Prop} (hg : o.guard = none) (x : Operand) (ho : o.op = .move x)
    (h : wpList Try.prog ops Q rest (a.put o.dst (a.eval x)) w) : wpList Try.prog ops Q (o :: rest) a w :=
  wpList_plain hg fun K hK => by
    unfold Oper.wp execOp
    simp only [ho, Sem.run_pure]
    exact hK _ _ h
theorem lhd_Victim_n (n1 n2 n3 : Nat) (fuel : Nat) (xs ages sizes smp : List Int) (r1 : Int) (r2 : Bool) (w : World) (A1 A2 A3 : Option Addr) (c1 c2 c3 : Nat) (e1 : ages.length = n1) (e2 : sizes.length = n2) (e3 : smp.length = n3)
    (hA : (Kd.int .i64).C w A1 ages.length ages) (hS : (Kd.int .u64).C w A2 sizes.length sizes) (hM : (Kd.int .i64).C w A3 smp.length smp) (h : lhd_Victim.f fuel xs ages sizes smp = some (r1, r2)) :
    Calls Try.prog 11 #[.agg (rkV xs), .slice A1 n1 c1, .slice A2 n2 c2, .slice A3 n3 c3] w fun e w' => e = .returned (.tuple #[.int .i64 r1, .bool r2]) ∧ Below w.heap.size w w' := by
  subst e1 e2 e3
  exact lhd_Victim.calls fuel xs ages sizes smp r1 r2 w A1 A2 A3 c1 c2 c3 hA hS hM h
theorem lhd_ld22 {w : World} {a : Addr} {v : Int} (h : w.cell? a = some (.int .u64 v)) : (Instr.loadAt 22 (.pointer (some a))).run Try.prog w = .ok (.int .u64 v) w := by go_simp
section
attribute [-go_sem] Instr.loadAt
set_option maxHeartbeats 4000000 in
set_option maxRecDepth 100000 in
theorem lhd_awake_calls (w : World) : Calls Try.prog 10 #[] w fun e w' => e = .returned (.bool true) ∧ Below w.heap.size w w' := by
  have HB := Aside0.mk (Below.refl w.heap.size w)
  go_enter Try.func10, Try.ntmps10
  go_wp2_with (first | ((with_reducible refine gate_dst (N := 8) rfl ?_); refine wpl_zero rfl rfl ?_) | (go_at_call 17; (with_reducible refine (lhd_Out.calls [0, 0, 0, 0, 0, 0, 0, 0, 0, 0, 0, 0, 0, 0, 0, 0] 0 [0, 0, 0, 0, 0, 0, 0, 0, 1, 0, 0, 0, 0, 0, 0, 0] _ (by decide +kernel)).mono ?_); rintro e w9 ⟨rfl, hbl⟩; have n_ := Aside0.mk (below_step HB.out hbl); clear HB; have HB := n_; clear n_; clear hbl) | (go_at_call 15; (with_reducible refine (lhd_Hit.calls [0, 0, 0, 0, 0, 0, 0, 0, 1, 0, 0, 0, 0, 0, 0, 0] 0 [1, 0, 0, 0, 0, 0, 0, 0, 1, 0, 0, 0, 0, 0, 0, 0] _ (by decide +kernel)).mono ?_); rintro e w9 ⟨rfl, hbl⟩; have n_ := Aside0.mk (below_step HB.out hbl); clear HB; have HB := n_; clear n_; clear hbl) | (go_at_call 15; (with_reducible refine (lhd_Hit.calls [1, 0, 0, 0, 0, 0, 0, 0, 1, 0, 0, 0, 0, 0, 0, 0] 0 [2, 0, 0, 0, 0, 0, 0, 0, 1, 0, 0, 0, 0, 0, 0, 0] _ (by decide +kernel)).mono ?_); rintro e w9 ⟨rfl, hbl⟩; have n_ := Aside0.mk (below_step HB.out hbl); clear HB; have HB := n_; clear n_; clear hbl) | (go_at_call 15; (with_reducible refine (lhd_Hit.calls [2, 0, 0, 0, 0, 0, 0, 0, 1, 0, 0, 0, 0, 0, 0, 0] 0 [3, 0, 0, 0, 0, 0, 0, 0, 1, 0, 0, 0, 0, 0, 0, 0] _ (by decide +kernel)).mono ?_); rintro e w9 ⟨rfl, hbl⟩; have n_ := Aside0.mk (below_step HB.out hbl); clear HB; have HB := n_; clear n_; clear hbl) | ((with_reducible refine gate_dst (N := 1) rfl ?_); refine box_event ?hg (N := 1) ?hd (cs := rkV (List.replicate 16 0)) (t := 25) ?hr ?_; (case hd => rfl); (case hg => rfl); (case hr => first | (go_simp; done) | (go_simp; rfl)); intro g1 gE w9 hb1 hbl; have Ng1 := Aside0.mk (show w.heap.size ≤ g1 by have := HB.out.size; omega); have Gg1 := Aside0.mk hb1; clear hb1; clear gE; have n_ := Aside0.mk (below_step HB.out hbl); clear HB; have HB := n_; clear n_; clear hbl) | (refine wpList_store_mid rfl 25 _ _ rfl g1 0 (rkV [3, 0, 0, 0, 0, 0, 0, 0, 1, 0, 0, 0, 0, 0, 0, 0]) rfl rfl (rk_there Gg1.out _ rfl) (by kernel_rfl) (rk_one _) ?_; refine wpl_abs (fun W => W.heap[g1]? = some (.cells (rkV [3, 0, 0, 0, 0, 0, 0, 0, 1, 0, 0, 0, 0, 0, 0, 0]) 25 (0, 0)) ∧ Below w.heap.size w W) ⟨rk_stored (xs := [3, 0, 0, 0, 0, 0, 0, 0, 1, 0, 0, 0, 0, 0, 0, 0]) Gg1.out rfl, rk_below _ Ng1.out 0 HB.out⟩ ?_; clear HB Gg1; rintro w9 ⟨h0, h9⟩; have Gg1 := Aside0.mk h0; have HB := Aside0.mk h9; clear h0 h9) | ((with_reducible refine gate_dst (N := 13) rfl ?_); (try (refine gate_guard (by rfl) ?_; dsimp only)); refine wpList_load_mid rfl 25 _ rfl g1 0 rfl (rkV [3, 0, 0, 0, 0, 0, 0, 0, 1, 0, 0, 0, 0, 0, 0, 0]).toList _ (rk_range Gg1.out) Try.underlying25 rfl (by kernel_rfl) ?_; rw [Array.toArray_toList]) | (go_at_call 17; (with_reducible refine (lhd_Out.calls [3, 0, 0, 0, 0, 0, 0, 0, 1, 0, 0, 0, 0, 0, 0, 0] 3 [3, 0, 0, 0, 0, 0, 0, 0, 1, 0, 0, 1, 0, 0, 0, 0] _ (by decide +kernel)).mono ?_); rintro e w9 ⟨rfl, hbl⟩; have ng1 := Aside0.mk ((hbl.block g1 (blk_lt Gg1.out)).trans Gg1.out); have n_ := Aside0.mk (below_step HB.out hbl); clear HB; clear Gg1; have HB := n_; have Gg1 := ng1; clear n_; clear ng1; clear hbl) | (go_at_call 17; (with_reducible refine (lhd_Out.calls [3, 0, 0, 0, 0, 0, 0, 0, 1, 0, 0, 1, 0, 0, 0, 0] 9 [3, 0, 0, 0, 0, 0, 0, 0, 1, 0, 0, 1, 0, 0, 0, 0] _ (by decide +kernel)).mono ?_); rintro e w9 ⟨rfl, hbl⟩; have ng1 := Aside0.mk ((hbl.block g1 (blk_lt Gg1.out)).trans Gg1.out); have n_ := Aside0.mk (below_step HB.out hbl); clear HB; clear Gg1; have HB := n_; have Gg1 := ng1; clear n_; clear ng1; clear hbl) | ((with_reducible refine gate_dst (N := 2) rfl ?_); refine box_event ?hg (N := 2) ?hd (cs := rkV (List.replicate 16 0)) (t := 25) ?hr ?_; (case hd => rfl); (case hg => rfl); (case hr => first | (go_simp; done) | (go_simp; rfl)); intro g2 gE w9 hb1 hbl; have Ng2 := Aside0.mk (show w.heap.size ≤ g2 by have := HB.out.size; omega); have Dg1g2 := Aside0.mk (show g1 ≠ g2 by have := blk_lt Gg1.out; omega); have Gg2 := Aside0.mk hb1; clear hb1; clear gE; have ng1 := Aside0.mk ((hbl.block g1 (blk_lt Gg1.out)).trans Gg1.out); have n_ := Aside0.mk (below_step HB.out hbl); clear HB; clear Gg1; have HB := n_; have Gg1 := ng1; clear n_; clear ng1; clear hbl) | (refine wpList_store_mid rfl 25 _ _ rfl g2 0 (rkV [3, 0, 0, 0, 0, 0, 0, 0, 1, 0, 0, 1, 0, 0, 0, 0]) rfl rfl (rk_there Gg2.out _ rfl) (by kernel_rfl) (rk_one _) ?_; refine wpl_abs (fun W => W.heap[g2]? = some (.cells (rkV [3, 0, 0, 0, 0, 0, 0, 0, 1, 0, 0, 1, 0, 0, 0, 0]) 25 (0, 0)) ∧ W.heap[g1]? = some (.cells (rkV [3, 0, 0, 0, 0, 0, 0, 0, 1, 0, 0, 0, 0, 0, 0, 0]) 25 (0, 0)) ∧ Below w.heap.size w W) ⟨rk_stored (xs := [3, 0, 0, 0, 0, 0, 0, 0, 1, 0, 0, 1, 0, 0, 0, 0]) Gg2.out rfl, rk_far Dg1g2.out _ 0 Gg1.out, rk_below _ Ng2.out 0 HB.out⟩ ?_; clear HB Gg2 Gg1; rintro w9 ⟨h0, hg1, h9⟩; have Gg2 := Aside0.mk h0; have Gg1 := Aside0.mk hg1; have HB := Aside0.mk h9; clear h0 h9 hg1) | ((with_reducible refine gate_dst (N := 17) rfl ?_); (try (refine gate_guard (by rfl) ?_; dsimp only)); refine wpList_load_mid rfl 25 _ rfl g1 0 rfl (rkV [3, 0, 0, 0, 0, 0, 0, 0, 1, 0, 0, 0, 0, 0, 0, 0]).toList _ (rk_range Gg1.out) Try.underlying25 rfl (by kernel_rfl) ?_; rw [Array.toArray_toList]) | ((with_reducible refine gate_dst (N := 18) rfl ?_); refine Kd.R_lit (Kd.int .i64) _ 3 ?hg (N := 18) ?hd (xs := ([0, 0, 1] : List Int)) (inner := [.int .i64 0, .int .i64 0, .int .i64 1]) (ok := fun _ => True) (okp := fun _ => True) ?hr ?hp (fun _ hk => hk) trivial (Below.refl _ _) (Nat.le_refl _) (by simp) ?_; (case hd => rfl); (case hg => rfl); (case hr => first | (go_simp; done) | (go_simp; rfl)); (case hp => exact (Reps.one (show Kd.M (Kd.int .i64) _ _ _ (0 : Int) [.int .i64 0] from rfl) (Reps.one (show Kd.M (Kd.int .i64) _ _ _ (0 : Int) [.int .i64 0] from rfl) (Reps.one (show Kd.M (Kd.int .i64) _ _ _ (1 : Int) [.int .i64 1] from rfl) (Reps.none _ _))))); intro v9 w9 ho6 hbl hg_ hnew_; clear hg_ hnew_; obtain ⟨Ba, ba, e6, hc6, hC6⟩ := Kd.R_reads ho6; subst e6; clear ho6 hc6; have Ca := Aside0.mk hC6; clear hC6; have ng1 := Aside0.mk ((hbl.block g1 (blk_lt Gg1.out)).trans Gg1.out); have ng2 := Aside0.mk ((hbl.block g2 (blk_lt Gg2.out)).trans Gg2.out); have n_ := Aside0.mk (below_step HB.out hbl); clear HB; clear Gg1; clear Gg2; have HB := n_; have Gg1 := ng1; have Gg2 := ng2; clear n_; clear ng1; clear ng2; clear hbl) | ((with_reducible refine gate_dst (N := 19) rfl ?_); refine Kd.R_lit (Kd.int .u64) _ 22 ?hg (N := 19) ?hd (xs := ([4, 8, 8] : List Int)) (inner := [.int .u64 4, .int .u64 8, .int .u64 8]) (ok := fun _ => True) (okp := fun _ => True) ?hr ?hp (fun _ hk => hk) trivial (Below.refl _ _) (Nat.le_refl _) (by simp) ?_; (case hd => rfl); (case hg => rfl); (case hr => first | (go_simp; done) | (go_simp; rfl)); (case hp => exact (Reps.one (show Kd.M (Kd.int .u64) _ _ _ (4 : Int) [.int .u64 4] from rfl) (Reps.one (show Kd.M (Kd.int .u64) _ _ _ (8 : Int) [.int .u64 8] from rfl) (Reps.one (show Kd.M (Kd.int .u64) _ _ _ (8 : Int) [.int .u64 8] from rfl) (Reps.none _ _))))); intro v9 w9 ho6 hbl hg_ hnew_; clear hg_ hnew_; obtain ⟨Bb, bb, e6, hc6, hC6⟩ := Kd.R_reads ho6; subst e6; clear ho6 hc6; have Cb := Aside0.mk hC6; clear hC6; have ma := Aside0.mk (Kd.C_below Ca.out hbl); have ng1 := Aside0.mk ((hbl.block g1 (blk_lt Gg1.out)).trans Gg1.out); have ng2 := Aside0.mk ((hbl.block g2 (blk_lt Gg2.out)).trans Gg2.out); have n_ := Aside0.mk (below_step HB.out hbl); clear HB; clear Gg1; clear Gg2; have HB := n_; have Gg1 := ng1; have Gg2 := ng2; clear n_; clear ng1; clear ng2; clear hbl; clear Ca; have Ca := ma; clear ma) | ((with_reducible refine gate_dst (N := 20) rfl ?_); refine Kd.R_lit (Kd.int .i64) _ 3 ?hg (N := 20) ?hd (xs := ([0, 1, 2, 7] : List Int)) (inner := [.int .i64 0, .int .i64 1, .int .i64 2, .int .i64 7]) (ok := fun _ => True) (okp := fun _ => True) ?hr ?hp (fun _ hk => hk) trivial (Below.refl _ _) (Nat.le_refl _) (by simp) ?_; (case hd => rfl); (case hg => rfl); (case hr => first | (go_simp; done) | (go_simp; rfl)); (case hp => exact (Reps.one (show Kd.M (Kd.int .i64) _ _ _ (0 : Int) [.int .i64 0] from rfl) (Reps.one (show Kd.M (Kd.int .i64) _ _ _ (1 : Int) [.int .i64 1] from rfl) (Reps.one (show Kd.M (Kd.int .i64) _ _ _ (2 : Int) [.int .i64 2] from rfl) (Reps.one (show Kd.M (Kd.int .i64) _ _ _ (7 : Int) [.int .i64 7] from rfl) (Reps.none _ _)))))); intro v9 w9 ho6 hbl hg_ hnew_; clear hg_ hnew_; obtain ⟨Bc, bc, e6, hc6, hC6⟩ := Kd.R_reads ho6; subst e6; clear ho6 hc6; have Cc := Aside0.mk hC6; clear hC6; have ma := Aside0.mk (Kd.C_below Ca.out hbl); have mb := Aside0.mk (Kd.C_below Cb.out hbl); have ng1 := Aside0.mk ((hbl.block g1 (blk_lt Gg1.out)).trans Gg1.out); have ng2 := Aside0.mk ((hbl.block g2 (blk_lt Gg2.out)).trans Gg2.out); have n_ := Aside0.mk (below_step HB.out hbl); clear HB; clear Gg1; clear Gg2; have HB := n_; have Gg1 := ng1; have Gg2 := ng2; clear n_; clear ng1; clear ng2; clear hbl; clear Ca; have Ca := ma; clear ma; clear Cb; have Cb := mb; clear mb) | (go_at_call 11; (with_reducible refine (lhd_Victim_n 3 3 4 2000 [3, 0, 0, 0, 0, 0, 0, 0, 1, 0, 0, 0, 0, 0, 0, 0] [0, 0, 1] [4, 8, 8] [0, 1, 2, 7] 1 true _ Ba Bb Bc ba bb bc rfl rfl rfl Ca.out Cb.out Cc.out (by decide +kernel)).mono ?_); rintro e w9 ⟨rfl, hbl⟩; have ng1 := Aside0.mk ((hbl.block g1 (blk_lt Gg1.out)).trans Gg1.out); have ng2 := Aside0.mk ((hbl.block g2 (blk_lt Gg2.out)).trans Gg2.out); have n_ := Aside0.mk (below_step HB.out hbl); clear HB; clear Gg1; clear Gg2; have HB := n_; have Gg1 := ng1; have Gg2 := ng2; clear n_; clear ng1; clear ng2; clear hbl) | ((with_reducible refine gate_dst (N := 25) rfl ?_); (try (refine gate_guard (by rfl) ?_; dsimp only)); refine wpList_load_mid rfl 25 _ rfl g1 0 rfl (rkV [3, 0, 0, 0, 0, 0, 0, 0, 1, 0, 0, 0, 0, 0, 0, 0]).toList _ (rk_range Gg1.out) Try.underlying25 rfl (by kernel_rfl) ?_; rw [Array.toArray_toList]) | ((with_reducible refine gate_dst (N := 26) rfl ?_); refine Kd.R_lit (Kd.int .i64) _ 3 ?hg (N := 26) ?hd (xs := ([0] : List Int)) (inner := [.int .i64 0]) (ok := fun _ => True) (okp := fun _ => True) ?hr ?hp (fun _ hk => hk) trivial (Below.refl _ _) (Nat.le_refl _) (by simp) ?_; (case hd => rfl); (case hg => rfl); (case hr => first | (go_simp; done) | (go_simp; rfl)); (case hp => exact (Reps.one (show Kd.M (Kd.int .i64) _ _ _ (0 : Int) [.int .i64 0] from rfl) (Reps.none _ _))); intro v9 w9 ho6 hbl hg_ hnew_; clear hg_ hnew_; obtain ⟨Bd, bd, e6, hc6, hC6⟩ := Kd.R_reads ho6; subst e6; clear ho6 hc6; have Cd := Aside0.mk hC6; clear hC6; have ng1 := Aside0.mk ((hbl.block g1 (blk_lt Gg1.out)).trans Gg1.out); have ng2 := Aside0.mk ((hbl.block g2 (blk_lt Gg2.out)).trans Gg2.out); have n_ := Aside0.mk (below_step HB.out hbl); clear HB; clear Gg1; clear Gg2; have HB := n_; have Gg1 := ng1; have Gg2 := ng2; clear n_; clear ng1; clear ng2; clear hbl) | (go_at_call 11; (with_reducible refine (lhd_Victim_n 0 0 1 2000 [3, 0, 0, 0, 0, 0, 0, 0, 1, 0, 0, 0, 0, 0, 0, 0] [] [] [0] 0 false _ none none Bd 0 0 bd rfl rfl rfl (Kd.C_nil _ _) (Kd.C_nil _ _) Cd.out (by decide +kernel)).mono ?_); rintro e w9 ⟨rfl, hbl⟩; have ng1 := Aside0.mk ((hbl.block g1 (blk_lt Gg1.out)).trans Gg1.out); have ng2 := Aside0.mk ((hbl.block g2 (blk_lt Gg2.out)).trans Gg2.out); have n_ := Aside0.mk (below_step HB.out hbl); clear HB; clear Gg1; clear Gg2; have HB := n_; have Gg1 := ng1; have Gg2 := ng2; clear n_; clear ng1; clear ng2; clear hbl) | ((with_reducible refine gate_dst (N := 30) rfl ?_); (try (refine gate_guard (by rfl) ?_; dsimp only)); refine wpList_load_mid rfl 25 _ rfl g2 0 rfl (rkV [3, 0, 0, 0, 0, 0, 0, 0, 1, 0, 0, 1, 0, 0, 0, 0]).toList _ (rk_range Gg2.out) Try.underlying25 rfl (by kernel_rfl) ?_; rw [Array.toArray_toList]) | (go_at_call 19; (with_reducible refine (lhd_Fade.calls [3, 0, 0, 0, 0, 0, 0, 0, 1, 0, 0, 1, 0, 0, 0, 0] [1, 0, 0, 0, 0, 0, 0, 0, 0, 0, 0, 0, 0, 0, 0, 0] _ (by decide +kernel)).mono ?_); rintro e w9 ⟨rfl, hbl⟩; have ng1 := Aside0.mk ((hbl.block g1 (blk_lt Gg1.out)).trans Gg1.out); have ng2 := Aside0.mk ((hbl.block g2 (blk_lt Gg2.out)).trans Gg2.out); have n_ := Aside0.mk (below_step HB.out hbl); clear HB; clear Gg1; clear Gg2; have HB := n_; have Gg1 := ng1; have Gg2 := ng2; clear n_; clear ng1; clear ng2; clear hbl) | ((with_reducible refine gate_dst (N := 7) rfl ?_); refine box_event ?hg (N := 7) ?hd (cs := rkV (List.replicate 16 0)) (t := 25) ?hr ?_; (case hd => rfl); (case hg => rfl); (case hr => first | (go_simp; done) | (go_simp; rfl)); intro g7 gE w9 hb1 hbl; have Ng7 := Aside0.mk (show w.heap.size ≤ g7 by have := HB.out.size; omega); have Dg1g7 := Aside0.mk (show g1 ≠ g7 by have := blk_lt Gg1.out; omega); have Dg2g7 := Aside0.mk (show g2 ≠ g7 by have := blk_lt Gg2.out; omega); have Gg7 := Aside0.mk hb1; clear hb1; clear gE; have ng1 := Aside0.mk ((hbl.block g1 (blk_lt Gg1.out)).trans Gg1.out); have ng2 := Aside0.mk ((hbl.block g2 (blk_lt Gg2.out)).trans Gg2.out); have n_ := Aside0.mk (below_step HB.out hbl); clear HB; clear Gg1; clear Gg2; have HB := n_; have Gg1 := ng1; have Gg2 := ng2; clear n_; clear ng1; clear ng2; clear hbl) | (refine wpList_store_mid rfl 25 _ _ rfl g7 0 (rkV [1, 0, 0, 0, 0, 0, 0, 0, 0, 0, 0, 0, 0, 0, 0, 0]) rfl rfl (rk_there Gg7.out _ rfl) (by kernel_rfl) (rk_one _) ?_; refine wpl_abs (fun W => W.heap[g7]? = some (.cells (rkV [1, 0, 0, 0, 0, 0, 0, 0, 0, 0, 0, 0, 0, 0, 0, 0]) 25 (0, 0)) ∧ W.heap[g1]? = some (.cells (rkV [3, 0, 0, 0, 0, 0, 0, 0, 1, 0, 0, 0, 0, 0, 0, 0]) 25 (0, 0)) ∧ W.heap[g2]? = some (.cells (rkV [3, 0, 0, 0, 0, 0, 0, 0, 1, 0, 0, 1, 0, 0, 0, 0]) 25 (0, 0)) ∧ Below w.heap.size w W) ⟨rk_stored (xs := [1, 0, 0, 0, 0, 0, 0, 0, 0, 0, 0, 0, 0, 0, 0, 0]) Gg7.out rfl, rk_far Dg1g7.out _ 0 Gg1.out, rk_far Dg2g7.out _ 0 Gg2.out, rk_below _ Ng7.out 0 HB.out⟩ ?_; clear HB Gg7 Gg1 Gg2; rintro w9 ⟨h0, hg1, hg2, h9⟩; have Gg7 := Aside0.mk h0; have Gg1 := Aside0.mk hg1; have Gg2 := Aside0.mk hg2; have HB := Aside0.mk h9; clear h0 h9 hg1 hg2) | (go_at_call 13; (with_reducible refine (lhd_Age.calls 0 0 _ (by decide +kernel)).mono ?_); rintro e w9 ⟨rfl, hbl⟩; have ng1 := Aside0.mk ((hbl.block g1 (blk_lt Gg1.out)).trans Gg1.out); have ng2 := Aside0.mk ((hbl.block g2 (blk_lt Gg2.out)).trans Gg2.out); have ng7 := Aside0.mk ((hbl.block g7 (blk_lt Gg7.out)).trans Gg7.out); have n_ := Aside0.mk (below_step HB.out hbl); clear HB; clear Gg1; clear Gg2; clear Gg7; have HB := n_; have Gg1 := ng1; have Gg2 := ng2; have Gg7 := ng7; clear n_; clear ng1; clear ng2; clear ng7; clear hbl) | (go_at_call 13; (with_reducible refine (lhd_Age.calls 5 3 _ (by decide +kernel)).mono ?_); rintro e w9 ⟨rfl, hbl⟩; have ng1 := Aside0.mk ((hbl.block g1 (blk_lt Gg1.out)).trans Gg1.out); have ng2 := Aside0.mk ((hbl.block g2 (blk_lt Gg2.out)).trans Gg2.out); have ng7 := Aside0.mk ((hbl.block g7 (blk_lt Gg7.out)).trans Gg7.out); have n_ := Aside0.mk (below_step HB.out hbl); clear HB; clear Gg1; clear Gg2; clear Gg7; have HB := n_; have Gg1 := ng1; have Gg2 := ng2; have Gg7 := ng7; clear n_; clear ng1; clear ng2; clear ng7; clear hbl) | (go_at_call 13; (with_reducible refine (lhd_Age.calls 64 7 _ (by decide +kernel)).mono ?_); rintro e w9 ⟨rfl, hbl⟩; have ng1 := Aside0.mk ((hbl.block g1 (blk_lt Gg1.out)).trans Gg1.out); have ng2 := Aside0.mk ((hbl.block g2 (blk_lt Gg2.out)).trans Gg2.out); have ng7 := Aside0.mk ((hbl.block g7 (blk_lt Gg7.out)).trans Gg7.out); have n_ := Aside0.mk (below_step HB.out hbl); clear HB; clear Gg1; clear Gg2; clear Gg7; have HB := n_; have Gg1 := ng1; have Gg2 := ng2; have Gg7 := ng7; clear n_; clear ng1; clear ng2; clear ng7; clear hbl) | (go_at_call 13; (with_reducible refine (lhd_Age.calls 9223372036854775808 7 _ (by decide +kernel)).mono ?_); rintro e w9 ⟨rfl, hbl⟩; have ng1 := Aside0.mk ((hbl.block g1 (blk_lt Gg1.out)).trans Gg1.out); have ng2 := Aside0.mk ((hbl.block g2 (blk_lt Gg2.out)).trans Gg2.out); have ng7 := Aside0.mk ((hbl.block g7 (blk_lt Gg7.out)).trans Gg7.out); have n_ := Aside0.mk (below_step HB.out hbl); clear HB; clear Gg1; clear Gg2; clear Gg7; have HB := n_; have Gg1 := ng1; have Gg2 := ng2; have Gg7 := ng7; clear n_; clear ng1; clear ng2; clear ng7; clear hbl; (try clear kl); have kl := rk_loads Gg1.out (show ([3, 0, 0, 0, 0, 0, 0, 0, 1, 0, 0, 0, 0, 0, 0, 0] : List Int).length = 16 from rfl)) | (go_at_call 21; (with_reducible refine (lhd_Density.calls 2000 [3, 0, 0, 0, 0, 0, 0, 0, 1, 0, 0, 0, 0, 0, 0, 0] 0 3221225472 _ (by decide +kernel)).mono ?_); rintro e w9 ⟨rfl, hbl⟩; have ng1 := Aside0.mk ((hbl.block g1 (blk_lt Gg1.out)).trans Gg1.out); have ng2 := Aside0.mk ((hbl.block g2 (blk_lt Gg2.out)).trans Gg2.out); have ng7 := Aside0.mk ((hbl.block g7 (blk_lt Gg7.out)).trans Gg7.out); have n_ := Aside0.mk (below_step HB.out hbl); clear HB; clear Gg1; clear Gg2; clear Gg7; have HB := n_; have Gg1 := ng1; have Gg2 := ng2; have Gg7 := ng7; clear n_; clear ng1; clear ng2; clear ng7; clear hbl; (try clear kl); have kl := rk_loads Gg1.out (show ([3, 0, 0, 0, 0, 0, 0, 0, 1, 0, 0, 0, 0, 0, 0, 0] : List Int).length = 16 from rfl)) | (go_at_call 21; (with_reducible refine (lhd_Density.calls 2000 [3, 0, 0, 0, 0, 0, 0, 0, 1, 0, 0, 0, 0, 0, 0, 0] 1 4294967296 _ (by decide +kernel)).mono ?_); rintro e w9 ⟨rfl, hbl⟩; have ng1 := Aside0.mk ((hbl.block g1 (blk_lt Gg1.out)).trans Gg1.out); have ng2 := Aside0.mk ((hbl.block g2 (blk_lt Gg2.out)).trans Gg2.out); have ng7 := Aside0.mk ((hbl.block g7 (blk_lt Gg7.out)).trans Gg7.out); have n_ := Aside0.mk (below_step HB.out hbl); clear HB; clear Gg1; clear Gg2; clear Gg7; have HB := n_; have Gg1 := ng1; have Gg2 := ng2; have Gg7 := ng7; clear n_; clear ng1; clear ng2; clear ng7; clear hbl; (try clear kl); have kl := rk_loads Gg2.out (show ([3, 0, 0, 0, 0, 0, 0, 0, 1, 0, 0, 1, 0, 0, 0, 0] : List Int).length = 16 from rfl)) | (go_at_call 21; (with_reducible refine (lhd_Density.calls 2000 [3, 0, 0, 0, 0, 0, 0, 0, 1, 0, 0, 1, 0, 0, 0, 0] 3 0 _ (by decide +kernel)).mono ?_); rintro e w9 ⟨rfl, hbl⟩; have ng1 := Aside0.mk ((hbl.block g1 (blk_lt Gg1.out)).trans Gg1.out); have ng2 := Aside0.mk ((hbl.block g2 (blk_lt Gg2.out)).trans Gg2.out); have ng7 := Aside0.mk ((hbl.block g7 (blk_lt Gg7.out)).trans Gg7.out); have n_ := Aside0.mk (below_step HB.out hbl); clear HB; clear Gg1; clear Gg2; clear Gg7; have HB := n_; have Gg1 := ng1; have Gg2 := ng2; have Gg7 := ng7; clear n_; clear ng1; clear ng2; clear ng7; clear hbl; (try clear kl); have kl := rk_loads Gg2.out (show ([3, 0, 0, 0, 0, 0, 0, 0, 1, 0, 0, 1, 0, 0, 0, 0] : List Int).length = 16 from rfl)) | (go_at_call 21; (with_reducible refine (lhd_Density.calls 2000 [3, 0, 0, 0, 0, 0, 0, 0, 1, 0, 0, 1, 0, 0, 0, 0] 0 1073741824 _ (by decide +kernel)).mono ?_); rintro e w9 ⟨rfl, hbl⟩; have ng1 := Aside0.mk ((hbl.block g1 (blk_lt Gg1.out)).trans Gg1.out); have ng2 := Aside0.mk ((hbl.block g2 (blk_lt Gg2.out)).trans Gg2.out); have ng7 := Aside0.mk ((hbl.block g7 (blk_lt Gg7.out)).trans Gg7.out); have n_ := Aside0.mk (below_step HB.out hbl); clear HB; clear Gg1; clear Gg2; clear Gg7; have HB := n_; have Gg1 := ng1; have Gg2 := ng2; have Gg7 := ng7; clear n_; clear ng1; clear ng2; clear ng7; clear hbl; (try clear kl); have kl := rk_loads Gg2.out (show ([3, 0, 0, 0, 0, 0, 0, 0, 1, 0, 0, 1, 0, 0, 0, 0] : List Int).length = 16 from rfl)) | (go_at_call 21; (with_reducible refine (lhd_Density.calls 2000 [3, 0, 0, 0, 0, 0, 0, 0, 1, 0, 0, 1, 0, 0, 0, 0] 8 0 _ (by decide +kernel)).mono ?_); rintro e w9 ⟨rfl, hbl⟩; have ng1 := Aside0.mk ((hbl.block g1 (blk_lt Gg1.out)).trans Gg1.out); have ng2 := Aside0.mk ((hbl.block g2 (blk_lt Gg2.out)).trans Gg2.out); have ng7 := Aside0.mk ((hbl.block g7 (blk_lt Gg7.out)).trans Gg7.out); have n_ := Aside0.mk (below_step HB.out hbl); clear HB; clear Gg1; clear Gg2; clear Gg7; have HB := n_; have Gg1 := ng1; have Gg2 := ng2; have Gg7 := ng7; clear n_; clear ng1; clear ng2; clear ng7; clear hbl; (try clear kl); have k0 := lhd_ld22 ((blk_cell Gg7.out 0).trans (show (rkV [1, 0, 0, 0, 0, 0, 0, 0, 0, 0, 0, 0, 0, 0, 0, 0])[0]? = some (.int .u64 1) from rfl)); have k8 := lhd_ld22 ((blk_cell Gg7.out 8).trans (show (rkV [1, 0, 0, 0, 0, 0, 0, 0, 0, 0, 0, 0, 0, 0, 0, 0])[8]? = some (.int .u64 0) from rfl)); have k11 := lhd_ld22 ((blk_cell Gg7.out 11).trans (show (rkV [1, 0, 0, 0, 0, 0, 0, 0, 0, 0, 0, 0, 0, 0, 0, 0])[11]? = some (.int .u64 0) from rfl))))
  go_ret
  exact ⟨by first | rfl | (simp; done) | (simp [*]; done), HB.out⟩
end
def linhaylaw19_awake.f : Option (Bool) := some true
theorem linhaylaw19_awake.calls (r : Bool) (w : World) (h : linhaylaw19_awake.f = some r) :
    Calls Try.prog 10 #[] w fun e w' => e = .returned (.bool r) ∧ Below w.heap.size w w' := by
  obtain rfl := Option.some.inj (show some true = some r from h)
  exact lhd_awake_calls w

/-! ### linhaylaw19_LhdAges: function 4 -/
def lhdages_ok (a t : Int) : Prop := (t = 0 ∧ a = 0) ∨ (t = 1 ∧ 1 ≤ a ∧ a < 2) ∨ (t = 2 ∧ 2 ≤ a ∧ a < 4) ∨ (t = 3 ∧ 4 ≤ a ∧ a < 8) ∨ (t = 4 ∧ 8 ≤ a ∧ a < 16) ∨ (t = 5 ∧ 16 ≤ a ∧ a < 32) ∨ (t = 6 ∧ 32 ≤ a ∧ a < 64) ∨ (t = 7 ∧ 64 ≤ a)
instance (a t : Int) : Decidable (lhdages_ok a t) := by unfold lhdages_ok; infer_instance
set_option maxHeartbeats 8000000 in
set_option maxRecDepth 100000 in
theorem lhdages_calls (a b t v : Int) (w : World) (hu : if b < a then v ≤ t else t ≤ v) (ha : 0 ≤ a ∧ a < 18446744073709551616) (h0 : lhd_Age.f a = some t) (h2 : lhd_Age.f b = some v) (hk : lhdages_ok a t) :
    Calls Try.prog 4 #[.int .u64 a, .int .u64 b] w fun e w' => e = .returned (.bool true) ∧ Below w.heap.size w w' := by
  have HB := Aside0.mk (Below.refl w.heap.size w)
  have A0 := Aside0.mk h0
  have A2 := Aside0.mk h2
  clear h0 h2
  unfold lhdages_ok at hk
  have hcb : (b < a ∧ v ≤ t ∧ (a ≤ b) = False ∧ (b ≤ a) = True ∧ decide (a < b) = false) ∨ ((b < a) = False ∧ t ≤ v ∧ a ≤ b) := by
    by_cases cb : b < a
    · rw [if_pos cb] at hu; exact .inl ⟨cb, hu, eq_false (by omega), eq_true (by omega), decide_eq_false (by omega)⟩
    · rw [if_neg cb] at hu; exact .inr ⟨eq_false cb, hu, by omega⟩
  clear hu
  rcases hcb with ⟨k1, k2, k3, k4, k5⟩ | ⟨k1, k2, k3⟩
  all_goals have k6 := decide_eq_true k2
  all_goals rcases hk with ⟨rfl, rfl⟩ | ⟨rfl, h3, h4⟩ | ⟨rfl, h3, h4⟩ | ⟨rfl, h3, h4⟩ | ⟨rfl, h3, h4⟩ | ⟨rfl, h3, h4⟩ | ⟨rfl, h3, h4⟩ | ⟨rfl, h3⟩
  all_goals go_enter Try.func4, Try.ntmps4
  all_goals go_wp2_with (first | (go_at_call 10; (with_reducible refine (lhd_awake_calls _).mono ?_); rintro e w9 ⟨rfl, hbl⟩; have n_ := Aside0.mk (below_step HB.out hbl); clear HB; have HB := n_; clear n_; clear hbl) | (go_at_call 13; (with_reducible refine (lhd_Age.calls a _ _ A0.out).mono ?_); rintro e w9 ⟨rfl, hbl⟩; have n_ := Aside0.mk (below_step HB.out hbl); clear HB; have HB := n_; clear n_; clear hbl) | (go_at_call 13; (with_reducible refine (lhd_Age.calls 0 _ _ A0.out).mono ?_); rintro e w9 ⟨rfl, hbl⟩; have n_ := Aside0.mk (below_step HB.out hbl); clear HB; have HB := n_; clear n_; clear hbl) | (go_at_call 13; (with_reducible refine (lhd_Age.calls b _ _ A2.out).mono ?_); rintro e w9 ⟨rfl, hbl⟩; have n_ := Aside0.mk (below_step HB.out hbl); clear HB; have HB := n_; clear n_; clear hbl))
  all_goals go_ret
  all_goals exact ⟨by first | rfl | (simp; done) | (simp [*]; done), HB.out⟩
def linhaylaw19_LhdAges.f (a0 : Int) (a1 : Int) : Option (Bool) := (lhd_Age.f a0).bind fun t => (lhd_Age.f a1).bind fun v => (if ((0 ≤ a0 ∧ a0 < 18446744073709551616) ∧ lhdages_ok a0 t) ∧ (if a1 < a0 then v ≤ t else t ≤ v) then some true else none)
theorem linhaylaw19_LhdAges.calls (a0 : Int) (a1 : Int) (r : Bool) (w : World) (h : linhaylaw19_LhdAges.f a0 a1 = some r) :
    Calls Try.prog 4 #[.int .u64 a0, .int .u64 a1] w fun e w' => e = .returned (.bool r) ∧ Below w.heap.size w w' := by
  unfold linhaylaw19_LhdAges.f at h
  obtain ⟨t, h0, h⟩ := Option.bind_eq_some_iff.mp h
  obtain ⟨v, h1, h⟩ := Option.bind_eq_some_iff.mp h
  by_cases c : ((0 ≤ a0 ∧ a0 < 18446744073709551616) ∧ lhdages_ok a0 t) ∧ (if a1 < a0 then v ≤ t else t ≤ v)
  · rw [if_pos c] at h
    obtain rfl := Option.some.inj h
    exact lhdages_calls a0 a1 t v w c.2 c.1.1 h0 h1 c.1.2
  · rw [if_neg c] at h; cases h

end Go.Proofs.Ytiokopkglmaffaa.Print
