/- The pure statement of the law LhdSmall, and that its Go function answers true if it holds. Written by a program of this session (wip/tools/row.py). -/
import Derived.OpenShut
import Derived.Lib.SmallJoins
import Derived.Test.YtiokopkglmaffaaPrintSmall
namespace Go.Proofs.Ytiokopkglmaffaa.Print
open Go.RowKit Go.Proofs.YtiokopkglmaffaaW.PrintWords Go.Proofs.YtiokopkglmaffaaW.PrintLast Go.Proofs.YtiokopkglmaffaaW.PrintMore
set_option linter.unusedVariables false
def linhaylaw19_LhdSmall.Pure : Prop := ∀ (a0 : List Int) (a1 : Int) (a2 : Int), (a0.length = 16) → (∀ y ∈ a0, (Lit.int .u64 y).wf = true) → (Lit.int .u32 a1).wf = true → (Lit.int .u8 a2).wf = true → linhaylaw19_LhdSmall.f a0 a1 a2 = some true
theorem linhaylaw19_LhdSmall.walk (P : linhaylaw19_LhdSmall.Pure) (a0 : List Int) (a1 : Int) (a2 : Int) (w : World) (hx_a0 : (a0.length = 16)) (w_a0 : (∀ y ∈ a0, (Lit.int .u64 y).wf = true)) (w_a1 : (Lit.int .u32 a1).wf = true) (w_a2 : (Lit.int .u8 a2).wf = true)  :
    Calls Try.prog 6 #[.agg (rkV a0), .int .u32 a1, .int .u8 a2] w fun e w' => e = .returned (.bool true) ∧ Below w.heap.size w w' := by
  have h := P a0 a1 a2 hx_a0 w_a0 w_a1 w_a2
  refine (linhaylaw19_LhdSmall.calls a0 a1 a2 true w  h).mono ?_
  rintro e w' ⟨rfl, hd⟩
  exact ⟨rfl, hd⟩
open Go.ChangeShapes Go.WideShapes in
theorem rank_cell {H : Type} {enc : TypeId × Value → H} {P : Program} {W : World} {base : Nat} {spare : Nat → Bool} {held : Bool} {t e : TypeId} {fuel n : Nat} {cs : List Value} {x : DataW H × List MemPlace}
    (ht : P.underlying t = some (.array n e)) (he : P.underlying e = some (.int .u64)) (ce : P.cellsOf e = 1) (h : DataW.trod enc P W base spare held fuel t cs = some x) : ∀ i, i < n → ∃ a : Int, cs[i]? = some (.int .u64 a) ∧ (Lit.int .u64 a).wf = true := by
  obtain ⟨xs, m, _, _, _, hl, hd⟩ := DataW.trod_array ht h
  intro i hi
  have := hd i hi
  rw [ce, Nat.mul_one, List.getElem?_eq_getElem (by omega)] at this
  obtain ⟨a, h1, _, h2⟩ := DataW.trod_int he this
  refine ⟨a, ?_, h2⟩
  have h3 : (cs.drop i)[0]? = some (.int .u64 a) := by
    have := congrArg (fun l => l[0]?) h1
    simpa [List.getElem?_take] using this
  simpa using h3
def rkInt : Value → Int
  | .int _ n => n
  | _ => 0
open Go.ChangeShapes Go.WideShapes in
theorem openRank {H : Type} {enc : TypeId × Value → H} {P : Program} {W : World} {base : Nat} {spare : Nat → Bool} {held : Bool} {t e : TypeId} {f0 f1 : Field} {r : Reach} {b0 : Nat} {v : Value} {d : DataW H} {ps : List MemPlace}
    (hs : P.underlying t = some (.struct #[f0, f1])) (u0 : P.underlying f0.type = some (.array 8 e)) (u1 : P.underlying f1.type = some (.array 8 e)) (he : P.underlying e = some (.int .u64)) (ce : P.cellsOf e = 1) (c0 : P.cellsOf f0.type = 8) (c1 : P.cellsOf f1.type = 8) (hC : P.cellsOf t = 16) (o0 : f0.offset = 0) (o1 : f1.offset = 8)
    (hv : Value.okWide P W r b0 t v) (h : DataW.Trod enc P W base spare held t v d ps) : ∃ xs : List Int, v = .agg (rkV xs) ∧ xs.length = 16 ∧ ∀ x ∈ xs, (Lit.int .u64 x).wf = true := by
  obtain ⟨cs, rfl, hsz⟩ := okWide_struct hs hv
  rw [hC] at hsz
  obtain ⟨fuel, hf⟩ := h
  obtain ⟨y0, y1, n, _, _, h0, h1⟩ := trod_struct2 hs hf
  rw [o0, c0] at h0
  rw [o1, c1] at h1
  have k0 := rank_cell u0 he ce h0
  have k1 := rank_cell u1 he ce h1
  have hcell : ∀ j, j < 16 → ∃ a : Int, cs[j]? = some (.int .u64 a) ∧ (Lit.int .u64 a).wf = true := by
    intro j hj
    rcases Nat.lt_or_ge j 8 with c | c
    · obtain ⟨a, e1, e2⟩ := k0 j c
      refine ⟨a, ?_, e2⟩
      simpa [Value.cells, List.getElem?_take, c] using e1
    · obtain ⟨a, e1, e2⟩ := k1 (j - 8) (by omega)
      refine ⟨a, ?_, e2⟩
      rw [List.getElem?_take, if_pos (by omega), List.getElem?_drop, show 8 + (j - 8) = j by omega] at e1
      simpa [Value.cells] using e1
  have hcs : cs = rkV (cs.toList.map rkInt) := by
    unfold rkV
    apply Array.ext_getElem?
    intro j
    by_cases c : j < 16
    · obtain ⟨a, e1, _⟩ := hcell j c
      rw [e1]
      simp [e1, rkInt]
    · rw [Array.getElem?_eq_none (by omega), Array.getElem?_eq_none (by simp; omega)]
  refine ⟨cs.toList.map rkInt, by rw [← hcs], by simp [hsz], ?_⟩
  intro x hx
  obtain ⟨y, hy, rfl⟩ := List.mem_map.mp hx
  obtain ⟨j, hj, rfl⟩ := List.getElem_of_mem hy
  obtain ⟨a, e1, e2⟩ := hcell j (by simpa [hsz] using hj)
  have : cs.toList[j] = .int .u64 a := by
    have := e1
    rw [← Array.getElem?_toList, List.getElem?_eq_getElem hj] at this
    exact Option.some.inj this
  rw [this]; exact e2

end Go.Proofs.Ytiokopkglmaffaa.Print
