/- The pure statement of the law PackCuts, and that its Go function answers true if it holds. Written by a program of this session (wip/tools/row.py). -/
import Derived.SliceStrings
import Derived.ChangeSlices
import Derived.Test.YtkfahdccacefiaaPrint7
namespace Go.Proofs.Ytkfahdccacefiaa.Print
open Go.RowKit Go.Proofs.YtkfahdccacefiaaW.PrintWords Go.Proofs.YtkfahdccacefiaaW.PrintLast Go.Proofs.YtkfahdccacefiaaW.PrintMore
set_option linter.unusedVariables false
def linhaylaw07_PackCuts.Pure : Prop := ∀ (a0 : Int) (l1 : List ByteArray) (a2 : Int), (Lit.int .u64 a0).wf = true → (l1.length ≤ maxLen) → (∀ x ∈ l1, x.size ≤ maxLen) → (Lit.int .u16 a2).wf = true → ∃ k, linhaylaw07_PackCuts.f k a0 l1 a2 = some true
theorem linhaylaw07_PackCuts.walk (P : linhaylaw07_PackCuts.Pure) (a0 : Int) (A1 : Option Addr) (c1 : Nat) (l1 : List ByteArray) (a2 : Int) (w : World) (w_a0 : (Lit.int .u64 a0).wf = true) (hm_l1 : (l1.length ≤ maxLen)) (hw_l1 : (∀ x ∈ l1, x.size ≤ maxLen)) (w_a2 : (Lit.int .u16 a2).wf = true) (hr1 : Kd.C Kd.string w A1 l1.length l1) (hc1 : l1.length ≤ c1)  :
    Calls Try.prog 6 #[.int .u64 a0, .slice A1 l1.length c1, .int .u16 a2] w fun e w' => e = .returned (.bool true) ∧ Below w.heap.size w w' := by
  obtain ⟨k, h⟩ := P a0 l1 a2 w_a0 hm_l1 hw_l1 w_a2
  refine (linhaylaw07_PackCuts.calls k a0 A1 c1 l1 a2 true w hr1 hc1 h).mono ?_
  rintro e w' ⟨rfl, hd⟩
  exact ⟨rfl, hd⟩
open Go.ChangeShapes Go.WideShapes
theorem openStrs {H : Type} {enc : TypeId × Value → H} {P : Program} {W : World} {base : Nat} {spare : Nat → Bool} {held : Bool} {t e : TypeId} {a : Option Addr} {len cap : Nat} {d : DataW H} {ps : List MemPlace}
    (hu : P.underlying t = some (.slice e)) (he : P.underlying e = some .string) (hc : P.cellsOf e = 1) (h : DataW.Trod enc P W base spare held t (.slice a len cap) d ps) :
    ∃ l : List ByteArray, len = l.length ∧ Kd.C Kd.string W a l.length l ∧ l.length ≤ cap ∧ l.length ≤ maxLen ∧ ∀ x ∈ l, x.size ≤ maxLen := by
  obtain ⟨fuel, hf⟩ := h
  rcases open_strings hu he hc hf with ⟨hcs, _⟩ | ⟨x, l, c, zs, hcs, hb, hl, hm, hz, _, hcell, hwz⟩
  · simp [Value.cells] at hcs
    obtain ⟨rfl, rfl, rfl⟩ := hcs
    exact ⟨[], rfl, ⟨rfl, Nat.zero_le _, fun h => absurd h (Nat.lt_irrefl 0)⟩, Nat.zero_le _, Nat.zero_le _, fun x hx => by simp at hx⟩
  · simp [Value.cells] at hcs
    obtain ⟨rfl, rfl, rfl⟩ := hcs
    have hle : len ≤ zs.length := by rw [hz]; split <;> omega
    have hlen : (zs.take len).length = len := by rw [List.length_take]; omega
    refine ⟨zs.take len, hlen.symm, Kd.C_of_reads (d := (ByteArray.empty : ByteArray)) (h1 := fun _ => rfl) ⟨rfl, ?_, fun _ => ⟨x, rfl, fun j hj => ?_⟩⟩, by rw [hlen]; exact hl, by rw [hlen]; omega, fun y hy => hwz y (List.mem_of_mem_take hy)⟩
    · rw [hlen]; have : maxLen ≤ 9223372036854775807 := by decide
      omega
    · rw [hlen] at hj
      rw [hcell j (by omega)]
      congr 2
      rw [List.getD_eq_getElem?_getD, List.getD_eq_getElem?_getD, List.getElem?_take, if_pos hj]

end Go.Proofs.Ytkfahdccacefiaa.Print
