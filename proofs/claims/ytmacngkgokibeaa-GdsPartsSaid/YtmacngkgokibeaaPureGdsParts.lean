/- GdsParts: a run of the first calls is the beginning of that of all, and what is paid is the sum of what is paid for the parts. For all inputs, no condition. -/
import Derived.Test.YtmacngkgokibeaaFactsNum
import Derived.Test.YtmacngkgokibeaaFactsWide
import Derived.Test.YtmacngkgokibeaaFactsGds
import Derived.Test.YtmacngkgokibeaaFactsGdsRun
import Derived.Test.YtmacngkgokibeaaFactsGdsRuns
import Derived.Test.YtmacngkgokibeaaFactsGdsSame
import Derived.Test.YtmacngkgokibeaaFactsAwake18
import Derived.Test.YtmacngkgokibeaaPrintParts

namespace Go.Proofs.Ytmacngkgokibeaa.Pure
set_option linter.unusedVariables false
set_option linter.unusedSimpArgs false
open Go.RowKit Go.Proofs.Ytmacngkgokibeaa.Print Go.Proofs.Ytmacngkgokibeaa.Facts Go.Proofs.YtmacngkgokibeaaW.PrintWords Go.Proofs.YtmacngkgokibeaaW.PrintLast Go.Proofs.YtmacngkgokibeaaW.PrintMore
theorem GdsParts : linhaylaw18_GdsParts.Pure := by
  intro a0 l1 l2 l3 a4 wa _ _ _ _ _ _ _ _ _ w4
  obtain ⟨a1, a2⟩ := nwf_i64 wa
  have h4 := nwf_u8 w4
  refine ⟨10000, ?_⟩
  unfold linhaylaw18_GdsParts.f
  rw [awake18 _ (by omega), Option.bind_some]
  by_cases f : l1.length ≤ 100 ∧ l2.length ≤ 100 ∧ l3.length ≤ 60
  · rw [few_yes f, Option.bind_some, if_pos rfl, nw64s l3.length (by omega), if_neg (by omega), nw64 (n := a4) (by omega) (by omega), Int.tmod_eq_emod_of_nonneg h4.1]
    obtain ⟨j, hj⟩ : ∃ j : Nat, a4 % ((l3.length + 1 : Nat) : Int) = j := ⟨(a4 % ((l3.length + 1 : Nat) : Int)).toNat, by have := Int.emod_nonneg a4 (show ((l3.length + 1 : Nat) : Int) ≠ 0 by omega); omega⟩
    have hj2 : j ≤ l3.length := by have := Int.emod_lt_of_pos a4 (show (0 : Int) < ((l3.length + 1 : Nat) : Int) by omega); omega
    rw [hj, Int.toNat_natCast]
    by_cases c : (1 ≤ a0 ∧ a0 ≤ 65536) ∧ wOK l1 l2
    · by_cases d : callsOK l1.length l3
      · obtain ⟨os, r1, r2, r3⟩ := gds_Run_runs 10000 (by omega) a0 l1 l2 l3 (by omega) c.1 c.2 (by omega) d
        have hlen := r2.len
        have hdt : callsOK l1.length (l3.take j) := fun x hx => d x (List.mem_of_mem_take hx)
        have hdd : callsOK l1.length (l3.drop j) := fun x hx => d x (List.mem_of_mem_drop hx)
        have ho := runs_outs64 r2 (by simp; exact c.2.2.1)
        have hsp := paidL_split l1 l2 j l3 os hlen.symm
        have b1 := paidL_bound c.2 (l3.take j) (os.take j) hdt
        have b2 := paidL_bound c.2 (l3.drop j) (os.drop j) hdd
        have hl1 : (l3.take j).length ≤ 60 := by rw [List.length_take]; omega
        have hl2 : (l3.drop j).length ≤ 60 := by rw [List.length_drop]; omega
        rw [r1, Option.bind_some, if_pos (by omega), if_pos (by omega), r3 j, Option.bind_some, if_pos rfl, if_pos (by rw [hlen]), gds_Paid_eq c.2 l3 os hlen.symm f.2.2 d 10000 (by omega), Option.bind_some, if_pos rfl, if_pos rfl, if_pos (by show (j : Int) ≤ (os.length : Int); omega),
          same18 10000 (os.take j) (by rw [List.length_take]; omega) (fun x hx => by have := ho x (List.mem_of_mem_take hx); omega) (by omega), Option.bind_some, if_pos rfl,
          gds_Paid_eq c.2 (l3.take j) (os.take j) (by rw [List.length_take, List.length_take, hlen]) hl1 hdt 10000 (by omega), Option.bind_some,
          gds_Paid_eq c.2 (l3.drop j) (os.drop j) (by rw [List.length_drop, List.length_drop, hlen]) hl2 hdd 10000 (by omega), Option.bind_some, nwr (by omega) (by omega), ← hsp]
        simp
      · rw [gds_Run_call 10000 (by omega) a0 l1 l2 l3 (by omega) c.1 c.2 (by omega) d, Option.bind_some, if_pos (by omega), if_pos (by omega)]
        by_cases d2 : callsOK l1.length (l3.take j)
        · obtain ⟨os, r1, r2, r3⟩ := gds_Run_runs 10000 (by omega) a0 l1 l2 (l3.take j) (by omega) c.1 c.2 (by rw [List.length_take]; omega) d2
          rw [r1, Option.bind_some, if_neg (by decide), if_pos rfl, if_neg (by simp), if_pos rfl]; rfl
        · rw [gds_Run_call 10000 (by omega) a0 l1 l2 (l3.take j) (by omega) c.1 c.2 (by rw [List.length_take]; omega) d2, Option.bind_some, if_neg (by decide), if_pos rfl, if_pos rfl]
    · rw [gds_Run_config 10000 (by omega) a0 l1 l2 l3 (by omega) c, Option.bind_some, if_pos (by omega), if_pos (by omega), gds_Run_config 10000 (by omega) a0 l1 l2 (l3.take j) (by omega) c, Option.bind_some, if_neg (by decide), if_pos rfl, if_pos rfl]
  · rw [few_no f, Option.bind_some, if_neg (by decide)]
end Go.Proofs.Ytmacngkgokibeaa.Pure
