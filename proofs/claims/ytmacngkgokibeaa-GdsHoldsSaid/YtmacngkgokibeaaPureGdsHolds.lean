/- GdsHolds: what is in the cache is never more than it may be, and nobody goes out who need not. For all inputs, no condition. -/
import Derived.Test.YtmacngkgokibeaaFactsNum
import Derived.Test.YtmacngkgokibeaaFactsWide
import Derived.Test.YtmacngkgokibeaaFactsGds
import Derived.Test.YtmacngkgokibeaaFactsGdsRun
import Derived.Test.YtmacngkgokibeaaFactsGdsRuns
import Derived.Test.YtmacngkgokibeaaFactsAwake18
import Derived.Test.YtmacngkgokibeaaPrint0
import Derived.Test.YtmacngkgokibeaaPrint8
namespace Go.Proofs.Ytmacngkgokibeaa.Pure
set_option linter.unusedVariables false
set_option linter.unusedSimpArgs false
open Go.RowKit Go.Proofs.Ytmacngkgokibeaa.Print Go.Proofs.Ytmacngkgokibeaa.Facts Go.Proofs.YtmacngkgokibeaaW.PrintWords Go.Proofs.YtmacngkgokibeaaW.PrintLast Go.Proofs.YtmacngkgokibeaaW.PrintMore
theorem rdOf_nat (ins : List Bool) (i : Nat) : rdOf false ins (i : Int) = ins.getD i false := by unfold rdOf; rw [Int.toNat_natCast]
theorem drop_cons {l : List Int} {q : Nat} {o : Int} {os : List Int} (h : l.drop q = o :: os) : q < l.length ∧ rd l q = o ∧ l.drop (q + 1) = os := by
  have hq : q < l.length := by
    rcases Nat.lt_or_ge q l.length with c | c
    · exact c
    · rw [List.drop_of_length_le c] at h; cases h
  rw [List.drop_eq_getElem_cons hq] at h
  injection h with h1 h2
  refine ⟨hq, ?_, h2⟩
  unfold rd
  rw [Int.toNat_natCast, List.getD_eq_getElem?_getD, List.getElem?_eq_getElem hq]
  exact h1
/-- The law's own book behind those who went out. -/
theorem holds_l1 (a0 : Int) (l1 l3 : List Int) (res : List S40) (t c : Nat) (e : S40) (he : rd_T40 res t = e) (ht : t < res.length) (hsz : ∀ j : Nat, j < l1.length → 0 ≤ rd l1 j ∧ rd l1 j ≤ 4096) (h64 : l1.length ≤ 64) (sz : Int) (hz : 0 ≤ sz ∧ sz ≤ 4096) (hit : e.f0 = false) (hn : e.f1.length ≤ 1000000) :
    ∀ (os : List Int) (ins ins' : List Bool) (q : Nat) (last : Int) , Chain l1 a0 sz ins os ins' → e.f1.drop q = os → q + os.length = e.f1.length → ins.length = l1.length → (0 ≤ last ∧ last ≤ 4096) → (0 < last → a0 < gsum ins l1 + last + sz) →
    ∃ last', (0 ≤ last' ∧ last' ≤ 4096) ∧ (0 < last' → a0 < gsum ins' l1 + last' + sz) ∧ ∀ k, linhaylaw18_GdsHolds.l1 (k + os.length) a0 l1 l3 true res ins (gsum ins l1) t c last q = linhaylaw18_GdsHolds.l1 k a0 l1 l3 true res ins' (gsum ins' l1) t c last' e.f1.length
  | [], ins, ins', q, last, h, hd, hq, hl, h0, hp => by
    cases h
    refine ⟨last, h0, hp, fun k => ?_⟩
    have : q = e.f1.length := by simpa using hq
    rw [this]; rfl
  | o :: os, ins, ins', q, last, h, hd, hq, hl, h0, hp => by
    obtain ⟨hq1, hq2, hq3⟩ := drop_cons hd
    cases h with
    | cons _ b _ _ hb hi hm h =>
      have hs := hsz b (by omega)
      have hbd := gsum_bounds ins l1 (fun j hj => hsz j (by omega))
      have hcn := gcnt_le ins
      obtain ⟨last', h1, h2, h3⟩ := holds_l1 a0 l1 l3 res t c e he ht hsz h64 sz hz hit hn os (ins.set b false) ins' (q + 1) (rd l1 b) h hq3 (by simp at hq; omega) (by rw [List.length_set]; exact hl) hs (fun _ => by rw [gsum_set_out ins l1 b hi]; omega)
      refine ⟨last', h1, h2, fun k => ?_⟩
      rw [List.length_cons, ← Nat.add_assoc, linhaylaw18_GdsHolds.l1, if_pos (by omega), if_pos (by omega), he, if_pos (by omega), if_pos (by omega), hq2, if_neg (by omega), if_neg (by omega), if_pos (by omega), if_pos (by omega), rdOf_nat, hi, if_pos rfl, hit, if_neg (by decide), if_pos (by omega), Int.toNat_natCast,
        nw64 (n := gsum ins l1 - rd l1 b) (by omega) (by omega), nw64s q (by omega), ← gsum_set_out ins l1 b hi]
      exact h3 k
theorem rd_at {res : List S40} {t : Nat} {e : S40} {r : List S40} (h : res.drop t = e :: r) : t < res.length ∧ rd_T40 res t = e ∧ res.drop (t + 1) = r := by
  have hq : t < res.length := by
    rcases Nat.lt_or_ge t res.length with c | c
    · exact c
    · rw [List.drop_of_length_le c] at h; cases h
  rw [List.drop_eq_getElem_cons hq] at h
  injection h with h1 h2
  refine ⟨hq, ?_, h2⟩
  unfold rd_T40
  rw [Int.toNat_natCast, List.getD_eq_getElem?_getD, List.getElem?_eq_getElem hq]
  exact h1
theorem holds_l0 (a0 : Int) (l1 l2 l3 : List Int) (hw : wOK l1 l2) (ha : 1 ≤ a0 ∧ a0 ≤ 65536) (res : List S40) (hr : res.length = l3.length) (h3 : l3.length ≤ 60) :
    ∀ (cs : List Int) (os : List S40) (ins : List Bool) (t : Nat), Runs l1 a0 cs ins os → l3.drop t = cs → res.drop t = os → ins.length = l1.length → gsum ins l1 ≤ a0 →
    ∀ k, 100 * (cs.length + 1) ≤ k → linhaylaw18_GdsHolds.l0 k a0 l1 l3 true res ins (gsum ins l1) t = some true
  | [], os, ins, t, h, hc, ho, hl, hg, k, hk => by
    obtain ⟨k, rfl⟩ : ∃ m, k = m + 1 := ⟨k - 1, by omega⟩
    have : l3.length ≤ t := by
      rcases Nat.lt_or_ge t l3.length with c | c
      · rw [List.drop_eq_getElem_cons c] at hc; cases hc
      · exact c
    rw [linhaylaw18_GdsHolds.l0, if_neg (by omega)]
  | x :: cs, os, ins, t, h, hc, ho, hl, hg, k, hk => by
    have hsz : ∀ j : Nat, j < l1.length → 0 ≤ rd l1 j ∧ rd l1 j ≤ 4096 := fun j hj => by have := hw.2.2 j hj; unfold goodAt at this; omega
    have h64 := hw.2.1
    obtain ⟨hq1, hq2, hq3⟩ := drop_cons hc
    cases h with
    | cons i _ _ hit outs ins' out hi hst hrun =>
    obtain ⟨ht, he, ho2⟩ := rd_at ho
    simp at hk
    obtain ⟨k, rfl⟩ : ∃ m, k = m + 1 := ⟨k - 1, by omega⟩
    have hs := hsz i hi
    have ih := holds_l0 a0 l1 l2 l3 hw ha res hr h3 cs out ins' (t + 1) hrun hq3 ho2 (by rw [hst.len]; exact hl)
    rw [linhaylaw18_GdsHolds.l0, if_pos (by omega), if_pos (by omega), if_pos (by omega), hq2]
    cases hst with
    | hit hin =>
      have ih := ih hg
      obtain ⟨k, rfl⟩ : ∃ m, k = m + 3 := ⟨k - 3, by omega⟩
      rw [linhaylaw18_GdsHolds.l1, if_pos (by omega), if_pos (by omega), he, if_neg (by simp), if_pos (by omega), if_pos (by omega), rdOf_nat, hin, if_neg (by decide), if_neg (by decide),
        linhaylaw18_GdsHolds.j2, if_neg (by decide), if_pos (by omega), if_pos (by omega), he, if_pos rfl, linhaylaw18_GdsHolds.j3, if_neg (by decide), if_neg (by omega), nw64s t (by omega)]
      exact ih k (by omega)
    | big hin hb =>
      have ih := ih hg
      obtain ⟨k, rfl⟩ : ∃ m, k = m + 3 := ⟨k - 3, by omega⟩
      rw [linhaylaw18_GdsHolds.l1, if_pos (by omega), if_pos (by omega), he, if_neg (by simp), if_pos (by omega), if_pos (by omega), rdOf_nat, hin, if_neg (by decide), if_neg (by decide),
        linhaylaw18_GdsHolds.j2, if_neg (by decide), if_pos (by omega), if_pos (by omega), he, if_neg (by decide), if_pos (by omega), if_pos (by omega), decide_eq_false (by omega), linhaylaw18_GdsHolds.j3, if_neg (by decide), if_neg (by omega), nw64s t (by omega)]
      exact ih k (by omega)
    | room _ ins1 hin hle hch hm =>
      have hl1 := hch.len
      have hsum := gsum_set_in ins1 l1 i (by omega) (hch.out i hin)
      have ih := ih (by rw [hsum]; exact hm)
      have hcn := hch.lenLe
      have hcl := gcnt_le ins
      obtain ⟨last', p1, p2, p3⟩ := holds_l1 a0 l1 l3 res t i ⟨false, outs⟩ he ht hsz h64 (rd l1 i) hs rfl (by simp; omega) outs ins ins1 0 0 hch rfl (by simp) hl ⟨by decide, by decide⟩ (fun x => absurd x (by decide))
      obtain ⟨k, rfl⟩ : ∃ m, k = m + 3 + outs.length := ⟨k - 3 - outs.length, by omega⟩
      have hb1 := gsum_bounds ins1 l1 (fun j hj => hsz j (by omega))
      have hc1 := gcnt_le ins1
      have p3' := p3 (k + 3)
      rw [Int.natCast_zero] at p3'
      rw [p3', linhaylaw18_GdsHolds.l1, if_pos (by omega), if_pos (by omega), he, if_neg (by simp), if_pos (by omega), if_pos (by omega), rdOf_nat, hch.out i hin, if_neg (by simp)]
      have hj2 : ∀ b, b = false → linhaylaw18_GdsHolds.j2 (k + 2) a0 l1 l3 true res ins1 (gsum ins1 l1) t i b = some true := by
        rintro b rfl
        rw [linhaylaw18_GdsHolds.j2, if_neg (by decide), if_pos (by omega), if_pos (by omega), he, if_neg (by simp), if_pos (by omega), if_pos (by omega), decide_eq_true hle, linhaylaw18_GdsHolds.j3, if_pos rfl, if_pos (by omega), if_pos (by omega), if_pos (by omega), nw64 (n := gsum ins1 l1 + rd l1 i) (by omega) (by omega), if_neg (by omega), nw64s t (by omega), Int.toNat_natCast, ← hsum]
        exact ih k (by omega)
      by_cases z : last' > 0
      · rw [if_pos z, if_pos (by omega)]
        apply hj2
        apply decide_eq_false
        have := p2 z
        rw [nw64 (n := gsum ins1 l1 + last') (by omega) (by omega), nw64 (by omega) (by omega)]
        omega
      · rw [if_neg z]
        exact hj2 _ rfl
theorem GdsHolds : linhaylaw18_GdsHolds.Pure := by
  intro a0 l1 l2 l3 wa _ _ _ _ _ _ _ _ _
  obtain ⟨a1, a2⟩ := nwf_i64 wa
  refine ⟨10000, ?_⟩
  unfold linhaylaw18_GdsHolds.f
  rw [awake18 _ (by omega), Option.bind_some]
  by_cases f : l1.length ≤ 100 ∧ l2.length ≤ 100 ∧ l3.length ≤ 60
  · rw [few_yes f, Option.bind_some, if_pos rfl]
    by_cases c : (1 ≤ a0 ∧ a0 ≤ 65536) ∧ wOK l1 l2
    · by_cases d : callsOK l1.length l3
      · obtain ⟨os, h1, h2, _⟩ := gds_Run_runs 10000 (by omega) a0 l1 l2 l3 (by omega) c.1 c.2 (by omega) d
        rw [h1, Option.bind_some, if_pos rfl, if_pos (by rw [h2.len]), if_pos (by omega), if_pos (by omega), Int.toNat_natCast]
        have := holds_l0 a0 l1 l2 l3 c.2 c.1 os h2.len f.2.2 l3 os (List.replicate l1.length false) 0 h2 rfl rfl (by simp) (by rw [gsum_replicate]; omega) 10000 (by omega)
        rw [gsum_replicate] at this
        exact this
      · rw [gds_Run_call 10000 (by omega) a0 l1 l2 l3 (by omega) c.1 c.2 (by omega) d, Option.bind_some, if_neg (by decide), if_pos rfl]; rfl
    · rw [gds_Run_config 10000 (by omega) a0 l1 l2 l3 (by omega) c, Option.bind_some, if_neg (by decide), if_pos rfl]; rfl
  · rw [few_no f, Option.bind_some, if_neg (by decide)]
end Go.Proofs.Ytmacngkgokibeaa.Pure
