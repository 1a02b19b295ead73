/- The pure statement of the law RatioLeast, and that its Go function answers true if it holds. Written by a program of this session (wip/tools/row.py). -/
import Derived.Deep.SlicePairs
import Derived.Test.YtnobdpenncfghaaPrint0
import Derived.Test.YtnobdpenncfghaaPrint5
namespace Go.Proofs.Ytnobdpenncfghaa.Print
open Go.RowKit Go.Proofs.YtnobdpenncfghaaW.PrintWords Go.Proofs.YtnobdpenncfghaaW.PrintLast Go.Proofs.YtnobdpenncfghaaW.PrintMore
set_option linter.unusedVariables false
def linhaylaw03_RatioLeast.Pure : Prop := ∀ (l0 : List (S24)), (l0.length ≤ maxLen) → (∀ x ∈ l0, (Lit.int .u64 x.f0).wf = true ∧ (Lit.int .u64 x.f1).wf = true) → ∃ k, linhaylaw03_RatioLeast.f k l0 = some true
theorem linhaylaw03_RatioLeast.walk (P : linhaylaw03_RatioLeast.Pure) (A0 : Option Addr) (c0 : Nat) (l0 : List (S24)) (w : World) (hm_l0 : (l0.length ≤ maxLen)) (hw_l0 : (∀ x ∈ l0, (Lit.int .u64 x.f0).wf = true ∧ (Lit.int .u64 x.f1).wf = true)) (hr0 : Kd.C k24 w A0 l0.length l0) (hc0 : l0.length ≤ c0)  :
    Calls Try.prog 7 #[.slice A0 l0.length c0] w fun e w' => e = .returned (.bool true) ∧ Below w.heap.size w w' := by
  obtain ⟨k, h⟩ := P l0 hm_l0 hw_l0
  refine (linhaylaw03_RatioLeast.calls k A0 c0 l0 true w hr0 hc0 h).mono ?_
  rintro e w' ⟨rfl, hd⟩
  exact ⟨rfl, hd⟩
open Go.ChangeShapes Go.WideShapes
def vintOf : Value → Int
  | .int _ n => n
  | _ => 0
theorem openPairs24 {H : Type} {enc : TypeId × Value → H} {P : Program} {W : World} {base : Nat} {spare : Nat → Bool} {held : Bool} {t e : TypeId} {g0 g1 : Field} {a : Option Addr} {len cap : Nat} {d : DataW H} {ps : List MemPlace}
    (hu : P.underlying t = some (.slice e)) (he : P.underlying e = some (.struct #[g0, g1])) (ce : P.cellsOf e = 2) (o0 : g0.offset = 0) (o1 : g1.offset = 1) (c0 : P.cellsOf g0.type = 1) (c1 : P.cellsOf g1.type = 1)
    (u0 : P.underlying g0.type = some (.int .u64)) (u1 : P.underlying g1.type = some (.int .u64)) (h : DataW.Trod enc P W base spare held t (.slice a len cap) d ps) :
    ∃ l : List S24, len = l.length ∧ Kd.C k24 W a l.length l ∧ l.length ≤ cap ∧ l.length ≤ maxLen ∧ ∀ x ∈ l, (Lit.int .u64 x.f0).wf = true ∧ (Lit.int .u64 x.f1).wf = true := by
  obtain ⟨fuel, hf⟩ := h
  rcases Go.Deep.open_slice_pairs hu he ce o0 o1 c0 c1 hf with ⟨hcs, _⟩ | ⟨x, l, c, m, n, V0, V1, D0, D1, P0, P1, hcs, hb, hl, hm, hmm, _, hcell⟩
  · simp [Value.cells] at hcs
    obtain ⟨rfl, rfl, rfl⟩ := hcs
    exact ⟨[], rfl, ⟨rfl, Nat.zero_le _, fun h => absurd h (Nat.lt_irrefl 0)⟩, Nat.zero_le _, Nat.zero_le _, fun x hx => by simp at hx⟩
  · simp [Value.cells] at hcs
    obtain ⟨rfl, rfl, rfl⟩ := hcs
    have hlm : len ≤ m := by rw [hmm]; split <;> omega
    have hi : ∀ i, i < len → V0 i = .int .u64 (vintOf (V0 i)) ∧ V1 i = .int .u64 (vintOf (V1 i)) ∧ (Lit.int .u64 (vintOf (V0 i))).wf = true ∧ (Lit.int .u64 (vintOf (V1 i))).wf = true := by
      intro i hi
      obtain ⟨_, _, t0, t1⟩ := hcell i (by omega)
      obtain ⟨y0, e0, -, w0⟩ := DataW.trod_int u0 t0
      obtain ⟨y1, e1, -, w1⟩ := DataW.trod_int u1 t1
      have e0 := List.cons.inj e0 |>.1
      have e1 := List.cons.inj e1 |>.1
      rw [e0, e1]
      exact ⟨rfl, rfl, w0, w1⟩
    have hlen : ((List.range len).map fun i => (⟨vintOf (V0 i), vintOf (V1 i)⟩ : S24)).length = len := by simp
    refine ⟨(List.range len).map fun i => (⟨vintOf (V0 i), vintOf (V1 i)⟩ : S24), hlen.symm, ⟨rfl, ?_, fun _ => ⟨x, rfl, ?_⟩⟩, by rw [hlen]; exact hl, by rw [hlen]; omega, ?_⟩
    · rw [hlen]; have : maxLen ≤ 9223372036854775807 := by decide
      omega
    · intro j p hj
      obtain ⟨hj1, hj2⟩ := List.getElem?_eq_some_iff.1 hj
      have hj3 : j < len := by rw [hlen] at hj1; exact hj1
      have hp : p = ⟨vintOf (V0 j), vintOf (V1 j)⟩ := by rw [← hj2]; simp
      obtain ⟨q0, q1, _, _⟩ := hcell j (by omega)
      obtain ⟨i0, i1, _, _⟩ := hi j hj3
      refine ⟨[.int .u64 p.f0, .int .u64 p.f1], rfl, ⟨[_], [_], rfl, rfl, rfl⟩, fun i u hu => ?_⟩
      subst hp
      match i, hu with
      | 0, hu => simp at hu; subst hu; rw [← i0]; exact q0
      | 1, hu => simp at hu; subst hu; rw [← i1]; exact q1
    · intro y hy
      simp only [List.mem_map, List.mem_range] at hy
      obtain ⟨i, hi2, rfl⟩ := hy
      exact ⟨(hi i hi2).2.2.1, (hi i hi2).2.2.2⟩

end Go.Proofs.Ytnobdpenncfghaa.Print
