/- GdsAlike: of objects of one size, and one cost, one goes out for each miss, once the cache is full. For all inputs, no condition. -/
import Derived.Test.YtmacngkgokibeaaFactsNum
import Derived.Test.YtmacngkgokibeaaFactsWide
import Derived.Test.YtmacngkgokibeaaFactsGds
import Derived.Test.YtmacngkgokibeaaFactsGdsRun
import Derived.Test.YtmacngkgokibeaaFactsGdsRuns
import Derived.Test.YtmacngkgokibeaaFactsAwake18
import Derived.Test.YtmacngkgokibeaaPrint0
import Derived.Test.YtmacngkgokibeaaPrint4
import Derived.Test.YtmacngkgokibeaaPrint5
import Derived.Test.YtmacngkgokibeaaPrint9
namespace Go.Proofs.Ytmacngkgokibeaa.Pure
set_option linter.unusedVariables false
set_option linter.unusedSimpArgs false
open Go.RowKit Go.Proofs.Ytmacngkgokibeaa.Print Go.Proofs.Ytmacngkgokibeaa.Facts Go.Proofs.YtmacngkgokibeaaW.PrintWords Go.Proofs.YtmacngkgokibeaaW.PrintLast Go.Proofs.YtmacngkgokibeaaW.PrintMore
theorem rd_uni {m : Nat} {e : Int} {i : Nat} (h : i < m) : rd (List.replicate m e) i = e := by
  unfold rd
  rw [Int.toNat_natCast, List.getD_eq_getElem?_getD, List.getElem?_eq_getElem (by simpa using h)]
  simp
theorem gsum_uni : ∀ (ins : List Bool) (e : Int), gsum ins (List.replicate ins.length e) = e * gcnt ins
  | [], e => by simp [gsum, gcnt]
  | x :: xs, e => by
    have hg : gsum (x :: xs) (List.replicate (x :: xs).length e) = (if x then e else 0) + gsum xs (List.replicate xs.length e) := rfl
    have hc : gcnt (x :: xs) = gcnt xs + (if x then 1 else 0) := by unfold gcnt; cases x <;> simp
    rw [hg, hc, gsum_uni xs e]
    cases x
    · simp
    · simp [Int.mul_add]; omega
theorem full1 {s e : Int} {c : Nat} (he : 1 ≤ e) : (s * e < e * (c : Int) + e) ↔ s ≤ c := by
  refine ⟨fun h => ?_, fun h => ?_⟩
  · rcases Int.lt_or_le (c : Int) s with q | q
    · have := Int.mul_le_mul_of_nonneg_right (show (c : Int) + 1 ≤ s by omega) (show 0 ≤ e by omega)
      rw [Int.add_mul, Int.one_mul, Int.mul_comm (c : Int) e] at this
      omega
    · exact q
  · have := Int.mul_le_mul_of_nonneg_right h (show 0 ≤ e by omega)
    rw [Int.mul_comm (c : Int) e] at this
    omega
theorem full2 {s e : Int} {c : Nat} (he : 1 ≤ e) : (s * e + e - 1 < e * (c : Int) + e) ↔ s ≤ c := by
  refine ⟨fun h => ?_, fun h => ?_⟩
  · rcases Int.lt_or_le (c : Int) s with q | q
    · have := Int.mul_le_mul_of_nonneg_right (show (c : Int) + 1 ≤ s by omega) (show 0 ≤ e by omega)
      rw [Int.add_mul, Int.one_mul, Int.mul_comm (c : Int) e] at this
      omega
    · exact q
  · have := Int.mul_le_mul_of_nonneg_right h (show 0 ≤ e by omega)
    rw [Int.mul_comm (c : Int) e] at this
    omega
theorem groom_uni {s e : Int} (he : 1 ≤ e) (m : Nat) (rk : List Int) : ∀ (k : Nat) (ins : List Bool) (lv : Int) (outs : List Int), ins.length = m →
    groom k (List.replicate m e) rk (s * e) e ins lv (gsum ins (List.replicate m e)) outs = groom k (List.replicate m e) rk (s * e + e - 1) e ins lv (gsum ins (List.replicate m e)) outs
  | 0, _, _, _, _ => rfl
  | k + 1, ins, lv, outs, hl => by
    rw [groom, groom]
    have hs := gsum_uni ins e
    rw [hl] at hs
    by_cases c : 0 ≤ gsum ins (List.replicate m e) ∧ gsum ins (List.replicate m e) ≤ 1000000 ∧ outs.length ≤ 1000
    · rw [if_pos c, if_pos c]
      by_cases d : s ≤ (gcnt ins : Int)
      · have d1 : s * e < gsum ins (List.replicate m e) + e := by rw [hs]; exact (full1 he).mpr d
        have d2 : s * e + e - 1 < gsum ins (List.replicate m e) + e := by rw [hs]; exact (full2 he).mpr d
        rw [if_pos d1, if_pos d2]
        by_cases g : gleast ins rk < 0
        · rw [if_pos g, if_pos g]
        · rw [if_neg g, if_neg g]
          obtain ⟨b, hb1, hb2, hb3⟩ := gleast_some g
          rw [hb1, Int.toNat_natCast, ← gsum_set_out ins _ b hb3]
          exact groom_uni he m rk k (ins.set b false) _ _ (by rw [List.length_set]; exact hl)
      · have d1 : ¬ s * e < gsum ins (List.replicate m e) + e := by rw [hs]; exact fun x => d ((full1 he).mp x)
        have d2 : ¬ s * e + e - 1 < gsum ins (List.replicate m e) + e := by rw [hs]; exact fun x => d ((full2 he).mp x)
        rw [if_neg d1, if_neg d2]
    · rw [if_neg c, if_neg c]
theorem grun_uni {s e c : Int} (he : 1 ≤ e ∧ e ≤ 50) (hs : 1 ≤ s ∧ s ≤ 10) (m : Nat) (hw : wOK (List.replicate m e) (List.replicate m c)) (k : Nat) (hk : 70 ≤ k) : ∀ (cs : List Int), (∀ x ∈ cs, 0 ≤ x ∧ x < (m : Int)) → ∀ (ins : List Bool) (rk : List Int) (lv : Int) (out : List S40), ins.length = m → rk.length = m →
    grun k (List.replicate m e) (List.replicate m c) (s * e) cs ins rk lv (gsum ins (List.replicate m e)) out = grun k (List.replicate m e) (List.replicate m c) (s * e + e - 1) cs ins rk lv (gsum ins (List.replicate m e)) out
  | [], _, _, _, _, _, _, _ => by rw [grun, grun]
  | x :: cs, hx, ins, rk, lv, out, hl, hr => by
    obtain ⟨i, rfl⟩ : ∃ i : Nat, x = i := ⟨x.toNat, by have := hx x (by simp); omega⟩
    have hi : i < m := by have := (hx i (by simp)).2; omega
    have hse : e ≤ s * e := by have := Int.mul_le_mul_of_nonneg_right hs.1 (show 0 ≤ e by omega); omega
    have hg : gserve k (List.replicate m e) (List.replicate m c) (s * e) ins rk lv (gsum ins (List.replicate m e)) i = gserve k (List.replicate m e) (List.replicate m c) (s * e + e - 1) ins rk lv (gsum ins (List.replicate m e)) i := by
      unfold gserve
      rw [rd_uni hi, if_neg (show ¬ s * e < e by omega), if_neg (show ¬ s * e + e - 1 < e by omega), groom_uni he.1 m rk k ins lv [] hl]
    obtain ⟨ins', rk', lv', hit, outs, h1, h2, h3, h4⟩ := gserve_spec k hk hw (s * e) ins rk lv i (by simpa using hi) (by simpa using hl) (by simpa using hr)
    rw [grun, grun, Int.toNat_natCast, ← hg, h1, Option.bind_some, Option.bind_some]
    simp only [List.length_replicate] at h2 h3
    rw [if_pos (by simp [h2, h3]), if_pos (by simp [h2, h3])]
    exact grun_uni he hs m hw k hk cs (fun y hy => hx y (by simp [hy])) ins' rk' lv' _ h2 h3
theorem same08_l0 (l : List Int) (hn : l.length ≤ 1000000) : ∀ (d k j : Nat), j + d = l.length → d < k → linhayref08_Same.l0 k l l j = some true
  | 0, k, j, hj, hk => by
    obtain ⟨k, rfl⟩ : ∃ m, k = m + 1 := ⟨k - 1, by omega⟩
    rw [linhayref08_Same.l0, if_neg (by omega)]
  | d + 1, k, j, hj, hk => by
    obtain ⟨k, rfl⟩ : ∃ m, k = m + 1 := ⟨k - 1, by omega⟩
    have ih := same08_l0 l hn d k (j + 1) (by omega) (by omega)
    rw [linhayref08_Same.l0, if_pos (by omega), if_pos (by omega), if_pos (by omega), if_pos rfl, nw64s j (by omega)]
    exact ih
theorem same08 (k : Nat) (l : List Int) (hn : l.length < k) (hm : l.length ≤ 1000000) : linhayref08_Same.f k l l = some true := by
  unfold linhayref08_Same.f
  rw [if_pos rfl]
  exact same08_l0 l hm l.length k 0 (by omega) hn
theorem rd_T_mem (os : List S40) (j : Nat) (h : j < os.length) : rd_T40 os j ∈ os := by
  unfold rd_T40
  rw [Int.toNat_natCast, List.getD_eq_getElem?_getD, List.getElem?_eq_getElem h]
  exact List.getElem_mem h
theorem same18_l0 (os : List S40) (hn : os.length ≤ 1000) (ho : ∀ x ∈ os, x.f1.length ≤ 1000) : ∀ (d k j : Nat), j + d = os.length → d + 1100 < k → linhayref18_Same.l0 k os os j = some true
  | 0, k, j, hj, hk => by
    obtain ⟨k, rfl⟩ : ∃ m, k = m + 1 := ⟨k - 1, by omega⟩
    rw [linhayref18_Same.l0, if_neg (by omega)]
  | d + 1, k, j, hj, hk => by
    obtain ⟨k, rfl⟩ : ∃ m, k = m + 1 := ⟨k - 1, by omega⟩
    have ih := same18_l0 os hn ho d k (j + 1) (by omega) (by omega)
    have hm := ho _ (rd_T_mem os j (by omega))
    rw [linhayref18_Same.l0, if_pos (by omega), if_pos (by omega), if_pos (by omega), same08 k _ (by omega) (by omega), Option.bind_some, if_pos rfl, if_neg (by simp), nw64s j (by omega)]
    exact ih
theorem same18 (k : Nat) (os : List S40) (hn : os.length ≤ 1000) (ho : ∀ x ∈ os, x.f1.length ≤ 1000) (hk : 2200 ≤ k) : linhayref18_Same.f k os os = some true := by
  unfold linhayref18_Same.f
  rw [if_pos rfl]
  exact same18_l0 os hn ho os.length k 0 (by omega) (by omega)
/-- Of alike objects none goes out before the cache is full, then one. -/
theorem chain_uni {s e : Int} (he : 1 ≤ e) {m : Nat} {ins ins' : List Bool} {os : List Int} (h : Chain (List.replicate m e) (s * e) e ins os ins') (hl : ins.length = m) (hc : (gcnt ins : Int) ≤ s) (hm : gsum ins' (List.replicate m e) + e ≤ s * e) : os.length = if (gcnt ins : Int) = s then 1 else 0 := by
  cases h with
  | nil =>
    have hs := gsum_uni ins e
    rw [hl] at hs
    have : ¬ s ≤ (gcnt ins : Int) := fun x => by have := (full1 (s := s) he).mpr x; omega
    rw [if_neg (by omega)]; rfl
  | cons _ b os _ hb hi hn h =>
    have hs := gsum_uni ins e
    rw [hl] at hs
    have h1 : s ≤ (gcnt ins : Int) := (full1 he).mp (by rw [← hs]; exact hn)
    rw [if_pos (by omega)]
    cases h with
    | nil => rfl
    | cons _ b2 os _ hb2 hi2 hn2 h =>
      have hs2 := gsum_uni (ins.set b false) e
      rw [List.length_set, hl] at hs2
      have h2 : s ≤ (gcnt (ins.set b false) : Int) := (full1 he).mp (by rw [← hs2]; exact hn2)
      have := gcnt_set_out ins b hi
      omega
theorem runs_outs {s e : Int} (he : 1 ≤ e) (hs : 1 ≤ s) {m : Nat} {cs : List Int} {ins : List Bool} {os : List S40} (h : Runs (List.replicate m e) (s * e) cs ins os) (hl : ins.length = m) : ∀ x ∈ os, x.f1.length ≤ m := by
  induction h with
  | nil => intro x hx; cases hx
  | cons i cs ins hit outs ins' out hi hst hr ih =>
    intro x hx
    rcases List.mem_cons.mp hx with rfl | hx
    · cases hst with
      | hit => simp
      | big => simp
      | room _ ins1 h1 h2 hch hm => have := hch.lenLe; have := gcnt_le ins; show outs.length ≤ m; omega
    · exact ih (by rw [hst.len]; exact hl) x hx
theorem alike_l2 {s e : Int} (he : 1 ≤ e) (hs : 1 ≤ s ∧ s ≤ 10) {m : Nat} (hm : m ≤ 64) (res : List S40) (hres : res.length ≤ 60) (ho : ∀ x ∈ res, x.f1.length ≤ 1000) :
    ∀ (cs : List Int) (os : List S40) (ins : List Bool) (t n : Nat), Runs (List.replicate m e) (s * e) cs ins os → res.drop t = os → ins.length = m → (gcnt ins : Int) = min (n : Int) s → n ≤ t →
    ∀ k, os.length + 3000 ≤ k → linhaylaw18_GdsAlike.l2 k true s res 0 res 0 n t = some true
  | cs, [], ins, t, n, h, hd, hl, hc, hnt, k, hk => by
    obtain ⟨k, rfl⟩ : ∃ q, k = q + 1 := ⟨k - 1, by omega⟩
    have : res.length ≤ t := by
      rcases Nat.lt_or_ge t res.length with c | c
      · rw [List.drop_eq_getElem_cons c] at hd; cases hd
      · exact c
    rw [linhaylaw18_GdsAlike.l2, if_neg (by omega), if_pos rfl, if_pos rfl, if_pos rfl, same18 k res (by omega) ho (by simp at hk; omega)]
    rfl
  | _, _ :: os, ins, t, n, .cons i cs _ hit outs ins' _ hi hst hr, hd, hl, hc, hnt, k, hk => by
    simp at hk
    obtain ⟨k, rfl⟩ : ∃ q, k = q + 1 := ⟨k - 1, by omega⟩
    have hq : t < res.length := by
      rcases Nat.lt_or_ge t res.length with c | c
      · exact c
      · rw [List.drop_of_length_le c] at hd; cases hd
    have hd2 := hd
    rw [List.drop_eq_getElem_cons hq] at hd2
    injection hd2 with e1 e2
    have he1 : rd_T40 res t = ⟨hit, outs⟩ := by
      unfold rd_T40
      rw [Int.toNat_natCast, List.getD_eq_getElem?_getD, List.getElem?_eq_getElem hq]
      exact e1
    have ih := fun n' => alike_l2 he hs hm res hres ho cs os ins' (t + 1) n' hr e2 (by rw [hst.len]; exact hl)
    rw [linhaylaw18_GdsAlike.l2, if_pos (by omega), if_pos (by omega), he1]
    cases hst with
    | hit hin =>
      rw [if_pos rfl, if_neg (by simp), if_neg (by simp), nw64s t (by omega)]
      exact ih n hc (by omega) k (by omega)
    | big hin hb =>
      simp only [List.length_replicate] at hi
      rw [rd_uni hi] at hb
      have := Int.mul_le_mul_of_nonneg_right hs.1 (show 0 ≤ e by omega)
      omega
    | room _ ins1 hin hle hch hmm =>
      simp only [List.length_replicate] at hi
      rw [rd_uni hi] at hch hmm
      have hlen := chain_uni he hch hl (by omega) hmm
      have hcnt := hch.lenLe
      have hset := gcnt_set_in ins1 i (by rw [hch.len]; omega) (hch.out i hin)
      rw [if_neg (by simp), nw64s n (by omega), nw64s t (by omega)]
      have hmore := ih (n + 1) (by rw [hset]; split at hlen <;> omega) (by omega) k (by omega)
      by_cases q : (gcnt ins : Int) = s
      · rw [if_pos q] at hlen
        rw [hlen, if_neg (by decide), decide_eq_true (by omega), if_neg (by decide)]
        exact hmore
      · rw [if_neg q] at hlen
        rw [hlen, if_neg (by decide), decide_eq_false (by omega), if_neg (by decide)]
        exact hmore
theorem alike_l0 (x3 : Int) (hx3 : 0 ≤ x3 ∧ x3 ≤ 65535) (x4 : List Int) (b : Bool) (m : Nat) (hm : m ≤ 1000) (e s : Int) : ∀ (d j : Nat), j + d = m → ∀ k, linhaylaw18_GdsAlike.l0 (k + d + 1) x3 x4 b m e s (List.replicate j e) (List.replicate j x3) j = linhaylaw18_GdsAlike.l1 k x4 b m e s (List.replicate m e) (List.replicate m x3) [] 0
  | 0, j, hj, k => by
    obtain rfl : j = m := by omega
    rw [linhaylaw18_GdsAlike.l0, if_neg (by omega)]
  | d + 1, j, hj, k => by
    rw [← Nat.add_assoc, linhaylaw18_GdsAlike.l0, if_pos (by omega), if_pos (by simp; omega), if_pos (by simp; omega), nw64s j (by omega), nw64 (n := x3) (by omega) (by omega), ← List.replicate_succ', ← List.replicate_succ']
    exact alike_l0 x3 hx3 x4 b m hm e s d (j + 1) (by omega) k
theorem alike_l1 (x4 : List Int) (h4 : ∀ x ∈ x4, 0 ≤ x ∧ x ≤ 255) (hn : x4.length ≤ 1000) (b : Bool) (m : Nat) (hm0 : 0 < m) (e s : Int) (l1 l2 : List Int) : ∀ (d j : Nat), j + d = x4.length → ∀ k, linhaylaw18_GdsAlike.l1 (k + d + 1) x4 b m e s l1 l2 ((x4.take j).map (· % (m : Int))) j =
    (gds_Run.f k (wrap64 (s * e)) l1 l2 (x4.map (· % (m : Int)))).bind fun p => (gds_Run.f k (wrap64 (wrap64 (wrap64 (s * e) + e) - 1)) l1 l2 (x4.map (· % (m : Int)))).bind fun q => linhaylaw18_GdsAlike.l2 k b s p.1 p.2 q.1 q.2 0 0
  | 0, j, hj, k => by
    rw [linhaylaw18_GdsAlike.l1, if_neg (by omega), List.take_of_length_le (by omega)]
  | d + 1, j, hj, k => by
    have hx := h4 (rd x4 j) (by unfold rd; rw [Int.toNat_natCast, List.getD_eq_getElem?_getD, List.getElem?_eq_getElem (show j < x4.length by omega)]; exact List.getElem_mem _)
    have ht : (x4.take j).map (· % (m : Int)) ++ [rd x4 j % (m : Int)] = (x4.take (j + 1)).map (· % (m : Int)) := by
      rw [List.take_succ_eq_append_getElem (show j < x4.length by omega), List.map_append]
      unfold rd
      rw [Int.toNat_natCast, List.getD_eq_getElem?_getD, List.getElem?_eq_getElem (show j < x4.length by omega)]; rfl
    rw [← Nat.add_assoc, linhaylaw18_GdsAlike.l1, if_pos (by omega), if_pos (by omega), if_neg (by omega), if_pos (by simp; omega), nw64 (n := rd x4 j) (by omega) (by omega), Int.tmod_eq_emod_of_nonneg hx.1, ht, nw64s j (by omega)]
    exact alike_l1 x4 h4 hn b m hm0 e s l1 l2 d (j + 1) (by omega) k
theorem GdsAlike : linhaylaw18_GdsAlike.Pure := by
  intro a0 a1 a2 a3 l4 w0 w1 w2 w3 _ _ w4
  have h0 := nwf_u8 w0
  have h1 := nwf_u8 w1
  have h2 := nwf_u8 w2
  have h3 := nwf_u16 w3
  have h4 : ∀ x ∈ l4, 0 ≤ x ∧ x ≤ 255 := fun x hx => nwf_u8 (w4 x hx)
  refine ⟨10000, ?_⟩
  unfold linhaylaw18_GdsAlike.f
  rw [awake18 _ (by omega), Option.bind_some]
  by_cases c : (l4.length : Int) > 60
  · rw [if_pos c]
  · rw [if_neg c, Int.tmod_eq_emod_of_nonneg h0.1, Int.tmod_eq_emod_of_nonneg h1.1, Int.tmod_eq_emod_of_nonneg h2.1, nw64 (n := a0 % 20) (by omega) (by omega), nw64 (n := a1 % 10) (by omega) (by omega), nw64 (n := a2 % 50) (by omega) (by omega), nw64 (by omega) (by omega), nw64 (by omega) (by omega), nw64 (by omega) (by omega)]
    obtain ⟨m, hm⟩ : ∃ m : Nat, 1 + a0 % 20 = m := ⟨(1 + a0 % 20).toNat, by omega⟩
    have hm1 : 1 ≤ m ∧ m ≤ 20 := by omega
    obtain ⟨e, hee⟩ : ∃ e, 1 + a2 % 50 = e := ⟨_, rfl⟩
    have he : 1 ≤ e ∧ e ≤ 50 := by omega
    obtain ⟨s, hss⟩ : ∃ s, 1 + a1 % 10 = s := ⟨_, rfl⟩
    have hs : 1 ≤ s ∧ s ≤ 10 := by omega
    rw [hm, hee, hss]
    obtain ⟨k, hk⟩ : ∃ k, 10000 = k + l4.length + 1 + m + 1 := ⟨10000 - l4.length - m - 2, by omega⟩
    have hL := alike_l0 a3 h3 l4 true m (by omega) e s m 0 (by omega) (k + l4.length + 1)
    have hM := alike_l1 l4 h4 (by omega) true m (by omega) e s (List.replicate m e) (List.replicate m a3) l4.length 0 (by omega) k
    rw [hk]
    simp only [List.take_zero, List.map_nil, List.replicate_zero, Int.natCast_zero] at hL hM
    have hz : ∀ n : Nat, ((0 : Nat) : Int) = 0 := fun _ => rfl
    rw [hL, hM]
    have hse : s * e ≤ 500 := by have := Int.mul_le_mul hs.2 he.2 (by omega) (by omega); omega
    have hse0 : 1 ≤ s * e := by have := Int.mul_le_mul hs.1 he.1 (by omega) (by omega); omega
    rw [nw64 (n := s * e) (by omega) (by omega), nw64 (n := s * e + e) (by omega) (by omega), nw64 (n := s * e + e - 1) (by omega) (by omega)]
    have hw : wOK (List.replicate m e) (List.replicate m a3) := ⟨by simp, by simp; omega, fun j hj => by
      simp only [List.length_replicate] at hj
      unfold goodAt
      rw [rd_uni hj, rd_uni hj]; omega⟩
    have hcs : callsOK (List.replicate m e).length (l4.map (· % (m : Int))) := fun x hx => by
      obtain ⟨y, hy, rfl⟩ := List.mem_map.mp hx
      simp only [List.length_replicate]
      exact ⟨Int.emod_nonneg _ (by omega), Int.emod_lt_of_pos _ (by omega)⟩
    have hml : (l4.map (· % (m : Int))).length ≤ 1000000 := by rw [List.length_map]; omega
    obtain ⟨os, r1, r2, _⟩ := gds_Run_runs k (by omega) (s * e) (List.replicate m e) (List.replicate m a3) (l4.map (· % (m : Int))) (by simp; omega) (by omega) hw hml hcs
    have r3 : gds_Run.f k (s * e + e - 1) (List.replicate m e) (List.replicate m a3) (l4.map (· % (m : Int))) = some (os, 0) := by
      rw [← r1, gds_Run_ok k (by omega) _ _ _ _ (by simp; omega) (by omega) hw hml, gds_Run_ok k (by omega) _ _ _ _ (by simp; omega) (by omega) hw hml]
      have hu := grun_uni he hs m hw k (by omega) (l4.map (· % (m : Int))) (fun x hx => by have := hcs x hx; simpa using this) (List.replicate m false) (List.replicate m 0) 0 [] (by simp) (by simp)
      rw [gsum_replicate] at hu
      simp only [List.length_replicate]
      rw [hu]
    have hrl := r2.len
    rw [List.length_map] at hrl
    rw [r1, Option.bind_some, r3, Option.bind_some]
    have hfin := alike_l2 he.1 hs (m := m) (by omega) os (by omega) (fun x hx => by have := runs_outs he.1 hs.1 r2 (by simp) x hx; omega) (l4.map (· % (m : Int))) os (List.replicate (List.replicate m e).length false) 0 0 r2 rfl (by simp) (by unfold gcnt; rw [List.countP_replicate]; simp; omega) (by omega) k (by omega)
    exact hfin
end Go.Proofs.Ytmacngkgokibeaa.Pure
