/- Lean functions that answer what Go functions of the translation answer, and the proofs of it. Written by a program of this session (wip/tools/seatprint.py), over contracts that it proved by hand. Conditions: those that each theorem says. -/
import Derived.Test.YtkfahdccacefiaaPrint0
import Derived.Test.YtkfahdccacefiaaPrint1
namespace Go.Proofs.Ytkfahdccacefiaa.Print
open Go.RowKit Go.Proofs.YtkfahdccacefiaaW.PrintWords Go.Proofs.YtkfahdccacefiaaW.PrintLast Go.Proofs.YtkfahdccacefiaaW.PrintMore
attribute [local go_sem] max2_int min2_int max_two min_two max_three min_three max_four min_four   -- for this text's walks alone
set_option linter.unusedVariables false
set_option linter.unusedSimpArgs false

/-! ### pack_Put: function 18 -/
/-- The cells of bytes. -/
def byteVals (L : List UInt8) : List Value := L.map fun b => Value.int .u8 (b.toNat : Int)
/-- A slice of bytes of the call's own, in a block from B on. -/
def BufB (B : Nat) (w : World) (v : Value) (L : List Value) : Prop :=
  ∃ g cap, v = .slice (some ⟨g, 0, none⟩) L.length cap ∧ B ≤ g ∧ g < w.heap.size ∧ L.length ≤ cap ∧ (∀ j u, L[j]? = some u → w.cell? ⟨g, j, none⟩ = some u) ∧ (∀ j, L.length ≤ j → j < cap → (w.cell? ⟨g, j, none⟩).isSome = true ∧ w.frozen? ⟨g, j, none⟩ = false)
theorem BufB.alloc {B : Nat} {w : World} {v : Value} {L : List Value} (h : BufB B w v L) (o : Obj) : BufB B (w.alloc o) v L := by
  obtain ⟨g, cap, h1, h2, h3, h4, h5, h6⟩ := h
  have e : ∀ j, (w.alloc o).cell? ⟨g, j, none⟩ = w.cell? ⟨g, j, none⟩ := fun j => World.cell?_of_block (Below.heap_alloc w o g h3)
  have f : ∀ j, (w.alloc o).frozen? ⟨g, j, none⟩ = w.frozen? ⟨g, j, none⟩ := fun j => World.frozen?_of_block (Below.heap_alloc w o g h3)
  exact ⟨g, cap, h1, h2, by simp; omega, h4, fun j u hu => (e j).trans (h5 j u hu), fun j a b => by rw [e, f]; exact h6 j a b⟩
theorem setCells_heap_size (b : Nat) : ∀ (vs : List Value) (o : Nat) (w : World), (w.setCells b o vs).heap.size = w.heap.size
  | [], _, _ => rfl
  | v :: vs, o, w => by show ((w.setCell ⟨b, o, none⟩ v).setCells b (o + 1) vs).heap.size = _; rw [setCells_heap_size b vs]; simp [World.setCell]
theorem below_cells {B b : Nat} {a : World} (hb : B ≤ b) : ∀ (vs : List Value) (o : Nat) (w : World), Below B a w → Below B a (w.setCells b o vs)
  | [], _, _, h => h
  | v :: vs, o, w, h => by show Below B a ((w.setCell ⟨b, o, none⟩ v).setCells b (o + 1) vs); exact below_cells hb vs _ _ (h.setCell hb v)
theorem run_append_buf {P : Program} (w : World) (t ty e : TypeId) (i : TypeInfo) (z : Value) (ht : P.underlying t = some (.slice e)) (hi : P.info? e = some i) (hz : i.zero = some z) (hsize : i.size = 1) (hby : i.bytes = 1) (hzs : z.cells.size = 1)
    {B : Nat} {v : Value} {L : List Value} (h : BufB B w v L) (hB : B ≤ w.heap.size) (ad : Addr) (c : Nat) (u : Value) (hu : w.cell? ad = some u) (h1 : u.oneCell' = true) (hlen : L.length + 1 ≤ 1099511627776) :
    ∃ v' w', (Builtin.append_ #[t, t] ty #[v, .slice (some ad) 1 c]).run P w = .ok v' w' ∧ BufB B w' v' (L ++ [u]) ∧ Below B w w' := by
  obtain ⟨g, cap, rfl, h2, h3, h4, h5, h6⟩ := h
  have hnews : ∀ j u', [u][j]? = some u' → w.cell? (ad.add j) = some u' := by
    intro j u' hj
    match j with
    | 0 => simp at hj; subst hj; simpa [Addr.add] using hu
    | j + 1 => simp at hj
  have hone : ∀ u' ∈ [u], u'.oneCell' = true := by intro u' hm; simp at hm; subst hm; exact h1
  by_cases hr : L.length + 1 ≤ cap
  · have e0 : 0 + L.length * i.size = L.length := by rw [hsize]; omega
    have hsome : ∀ j, j < [u].length → (w.cell? ⟨g, 0 + L.length * i.size + j, none⟩).isSome = true := fun j hj => by rw [e0]; simp at hj; subst hj; exact (h6 L.length (Nat.le_refl _) (by omega)).1
    have hrun := run_append_room_cells (P := P) w t ty e i ht hi g 0 L.length cap ad 1 c [u] (by simp [hsize]) hnews hone hr hsome (fun j hj => by rw [e0]; simp at hj; subst hj; exact (h6 L.length (Nat.le_refl _) (by omega)).2)
    rw [e0] at hrun hsome
    refine ⟨_, _, hrun, ⟨g, cap, by simp, h2, by rw [setCells_heap_size]; exact h3, by simpa using hr, ?_, ?_⟩, below_cells h2 _ _ _ (Below.refl _ _)⟩
    · intro j x hx
      by_cases hj : j < L.length
      · rw [World.cell?_setCells_out g _ _ _ _ (fun _ _ => Or.inl hj)]
        rw [List.getElem?_append_left hj] at hx
        exact h5 j x hx
      · have hj' : j = L.length := by have := (List.getElem?_eq_some_iff.1 hx).1; simp at this; omega
        subst hj'
        have := World.cell?_setCells_in g [u] L.length w hsome 0 (by simp)
        rw [Nat.add_zero] at this
        rw [this]; simpa using hx
    · intro j a b
      simp only [List.length_append, List.length_singleton] at a
      rw [World.frozen?_setCells, World.cell?_setCells_out g _ _ _ _ (fun _ _ => Or.inr (by simp; omega))]
      exact h6 j (by omega) b
  · obtain ⟨v', w', hrun, r1, r2⟩ := run_append_arg_grows (P := P) w t ty e i z 1 1 ht hi hz hsize hby hzs (by decide) ⟨g, 0, none⟩ L.length cap L (by simp) (fun j u hj => by rw [Addr.add_lit, Nat.zero_add]; exact h5 j u hj) ad 1 c [u] (by simp) hnews (by omega) (by unfold maxLen; omega) (by omega)
    refine ⟨v', w', hrun, ?_, ⟨r2.os, r2.tape, r2.output, r2.size, fun k hk => r2.block k (by omega) (by simp)⟩⟩
    rcases r1.2 with ⟨_, h0⟩ | ⟨g', cap', cur, rfl, hb, hg, hnc, hcm, hcs, htk⟩
    · omega
    · have hlt : g' < w'.heap.size := by
        rcases Nat.lt_or_ge g' w'.heap.size with hlt | hge
        · exact hlt
        · rw [Array.getElem?_eq_none hge] at hg; cases hg
      have hcell : ∀ j, w'.cell? ⟨g', j, none⟩ = cur[j]? := fun j => by unfold World.cell?; simp [hg]
      refine ⟨g', cap', by simp, by omega, hlt, by simpa using hnc, ?_, ?_⟩
      · intro j x hx
        rw [hcell, ← hx, ← htk, List.getElem?_take, if_pos (by have := (List.getElem?_eq_some_iff.1 hx).1; simp at this; omega)]
        simp
      · intro j a b
        rw [hcell]
        have hj : j < cur.size := by omega
        refine ⟨by rw [Array.getElem?_eq_getElem hj]; rfl, ?_⟩
        unfold World.frozen?; simp [hg]
theorem wpList_append_buf {P : Program} (w : World) {ops : Array Oper} {rest : List Oper} {o : Oper} {a : Act} {Q : Exit → Act → World → Prop} (hgd : o.guard = none) (s x : Operand) (t : TypeId)
    (ho : o.op = .call { callee := .builtin .append, args := #[s, x], argTypes := #[t, t] }) (e : TypeId) (i : TypeInfo) (z : Value) (ht : P.underlying t = some (.slice e)) (hi : P.info? e = some i) (hz : i.zero = some z) (hsize : i.size = 1) (hby : i.bytes = 1) (hzs : z.cells.size = 1)
    {B : Nat} {v : Value} {L : List Value} (hs : a.eval s = v) (h : BufB B w v L) (hB : B ≤ w.heap.size) (ad : Addr) (c : Nat) (u : Value) (hx : a.eval x = .slice (some ad) 1 c) (hu : w.cell? ad = some u) (h1 : u.oneCell' = true) (hlen : L.length + 1 ≤ 1099511627776)
    (hK : ∀ v' w', BufB B w' v' (L ++ [u]) → Below B w w' → wpList P ops Q rest (a.put o.dst v') w') : wpList P ops Q (o :: rest) a w := by
  refine wpList_plain hgd fun K hK' => ?_
  obtain ⟨v', w', hrun, r1, r2⟩ := run_append_buf (P := P) w t o.type e i z ht hi hz hsize hby hzs h hB ad c u hu h1 hlen
  unfold Oper.wp
  simp [execOp, ho, resolve, invoke, builtin, hs, hx, hrun, Result.andThen]
  exact hK' _ _ (hK v' w' r1 r2)
theorem bufB_bytes (w : World) (s : ByteArray) (cap : Nat) (e : TypeId) (hcap : s.size ≤ cap) :
    BufB w.heap.size (w.drew.alloc (.cells (bytesRow s cap) e ((bytesRow s cap).size, (bytesRow s cap).size + 1))) (.slice (some ⟨w.heap.size, 0, none⟩) s.size cap) (byteVals s.data.toList) := by
  have hsz : (bytesRow s cap).size = cap := by unfold bytesRow; simp; show s.data.size + (cap - s.size) = cap; have : s.data.size = s.size := rfl; omega
  have hlen : (byteVals s.data.toList).length = s.size := by unfold byteVals; simp
  have hc : ∀ j, (w.drew.alloc (.cells (bytesRow s cap) e ((bytesRow s cap).size, (bytesRow s cap).size + 1))).cell? ⟨w.heap.size, j, none⟩ = (bytesRow s cap)[j]? := fun j => World.cell?_alloc_mark w.drew _ _ _ j
  have hf : ∀ j, (w.drew.alloc (.cells (bytesRow s cap) e ((bytesRow s cap).size, (bytesRow s cap).size + 1))).frozen? ⟨w.heap.size, j, none⟩ = _ := fun j => World.frozen?_alloc_mark w.drew _ _ _ _ j
  refine ⟨w.heap.size, cap, by rw [hlen], Nat.le_refl _, by simp, by omega, ?_, ?_⟩
  · intro j u hu
    rw [hc]
    unfold byteVals at hu
    have hj : j < s.data.size := by have := (List.getElem?_eq_some_iff.1 hu).1; simpa using this
    rw [bytesRow_at s cap j hj, ← hu]
    simp [Array.getElem?_eq_getElem hj]
  · intro j a b
    rw [hc, hf]
    refine ⟨by rw [Array.getElem?_eq_getElem (by omega)]; rfl, ?_⟩
    simp; omega
/-- The bytes of a number: at most f of them above 127. -/
def encF : Nat → Int → List UInt8
  | 0, n => [UInt8.ofNat n.toNat]
  | f + 1, n => if n ≥ 128 then UInt8.ofNat (n % 128 + 128).toNat :: encF f (n / 128) else [UInt8.ofNat n.toNat]
def enc (n : Int) : List UInt8 := encF 9 n
def encs (l : List Int) : List UInt8 := l.flatMap enc
theorem encF_len (f : Nat) : ∀ n, (encF f n).length ≤ f + 1 := by
  induction f with
  | zero => intro n; simp [encF]
  | succ f ih => intro n; unfold encF; split <;> simp; have := ih (n / 128); omega
theorem encs_len (l : List Int) : (encs l).length ≤ 10 * l.length := by
  induction l with
  | nil => simp [encs]
  | cons x l ih => have h := encF_len 9 x; unfold encs at *; simp only [List.flatMap_cons, List.length_append, List.length_cons]; unfold enc at *; omega
def pack_Put.okk (a0 : ByteArray) (l1 : List Int) : Prop := (∀ x ∈ l1, 0 ≤ x ∧ x < 18446744073709551616) ∧ a0.size + 10 * l1.length ≤ 1099511627000
instance pack_Put.dec (a0 : ByteArray) (l1 : List Int) : Decidable (pack_Put.okk a0 l1) := by unfold pack_Put.okk; infer_instance
def pack_Put.f (a0 : ByteArray) (l1 : List Int) : Option (ByteArray) := if pack_Put.okk a0 l1 then some ⟨(a0.data.toList ++ encs l1).toArray⟩ else none
theorem BufB.back {P : Program} {B : Nat} {w : World} {v : Value} {L : List UInt8} (h : BufB B w v (byteVals L)) (src dst e : TypeId) (hs : P.underlying src = some (.slice e)) (he : P.underlying e = some (.int .u8)) (hd : P.underlying dst = some .string) :
    (convert src dst v).run P w = .ok (.string ⟨L.toArray⟩) w := by
  obtain ⟨g, cap, rfl, h2, h3, h4, h5, h6⟩ := h
  have hl : (byteVals L).length = L.length := by simp [byteVals]
  rw [hl]
  refine run_convert_bytes_back w src dst e ⟨g, 0, none⟩ cap L hs he hd ?_
  intro j hj
  have := h5 j (.int .u8 (L[j].toNat : Int)) (by simp [byteVals, hj])
  rw [Addr.add_lit, Nat.zero_add]; exact this
theorem byteVals_snoc (L : List UInt8) (x : Int) (h0 : 0 ≤ x) (h1 : x < 256) : byteVals L ++ [.int .u8 x] = byteVals (L ++ [UInt8.ofNat x.toNat]) := by
  simp [byteVals]; omega
theorem put_or {x : Int} (h0 : 0 ≤ x) (h1 : x < 256) : Go.bits .or .u8 x 128 = x % 128 + 128 := by
  obtain ⟨n, rfl⟩ : ∃ n : Nat, x = n := ⟨x.toNat, by omega⟩
  have hn : n < 256 := by omega
  have all : ∀ m : Fin 256, Go.bits .or .u8 ((m.val : Nat) : Int) 128 = ((m.val : Nat) : Int) % 128 + 128 := by decide +kernel
  exact all ⟨n, hn⟩
set_option maxHeartbeats 4000000 in
set_option maxRecDepth 100000 in
theorem pack_Put.calls (a0 : ByteArray) (A1 : Option Addr) (c1 : Nat) (l1 : List Int) (r : ByteArray) (w : World) (hr1 : Kd.C (Kd.int .u64) w A1 l1.length l1) (hc1 : l1.length ≤ c1) (h : pack_Put.f a0 l1 = some r) :
    Calls Try.prog 18 #[.string a0, .slice A1 l1.length c1] w fun e w' => e = .returned (.string r) ∧ Below w.heap.size w w' := by
  have HR1 := Aside0.mk hr1
  have HC1 := Aside0.mk hc1
  clear hr1 hc1
  unfold pack_Put.f at h
  by_cases hok : pack_Put.okk a0 l1
  case neg => rw [if_neg hok] at h; cases h
  rw [if_pos hok] at h
  obtain rfl := Option.some.inj h
  clear h
  have HO := Aside0.mk hok
  clear hok
  obtain ⟨i0, hi, hz0, hz1, hz2⟩ := info_parts info5
  obtain ⟨cap, hcap⟩ : ∃ cap, cap = grownCap w a0.size 0 5 := ⟨_, rfl⟩
  have hge : a0.size ≤ cap := by rw [hcap]; exact grownCap_ge w a0.size 0 _
  have kc := run_bytes_of_string (P := Try.prog) w 9 49 5 a0 Try.underlying9 Try.underlying49 Try.underlying5
  rw [← hcap] at kc
  have HBUF := Aside0.mk (bufB_bytes w a0 cap 5 hge)
  have HB0 := Aside0.mk (((Below.refl w.heap.size w).drew).alloc (Nat.le_refl _) (.cells (bytesRow a0 cap) 5 ((bytesRow a0 cap).size, (bytesRow a0 cap).size + 1)))
  clear hcap hge
  go_enter Try.func18, Try.ntmps18
  go_wp2
  clear kc
  go_loopg [5, 12] l1.length (fun kq v5 v12 w' => ∃ x : Int, Aside0 (0 ≤ x ∧ x + kq = l1.length) ∧ v12 = .int .i64 x ∧ Aside0 (BufB w.heap.size w' v5 (byteVals (a0.data.toList ++ encs (l1.take x.toNat)))) ∧ Aside0 (Below w.heap.size w w'))
  case atStart => exact ⟨0, ⟨by omega⟩, rfl, ⟨by have := HBUF.out; simp only [Int.toNat_zero, List.take_zero, encs, List.flatMap_nil, List.append_nil]; exact this⟩, HB0⟩
  case round =>
    clear HBUF HB0
    obtain ⟨x, HI, rfl, HBUF, HB⟩ := hrel
    by_cases hlt : x < (l1.length : Int)
    · have c3b0 : decide (x < (l1.length : Int)) = true := decide_eq_true hlt
      have HLT := Aside0.mk hlt
      clear hlt
      have c4b0 : decide (0 ≤ x) = true := decide_eq_true HI.out.1
      obtain ⟨ad, e1, hx⟩ := Kd.at_int HR1.out x HI.out.1 HLT.out
      cases e1
      replace hx := (HB.out.cell (World.block_lt_of_cell? w _ hx)).trans hx
      obtain ⟨k0, rfl⟩ : ∃ k0, gk = k0 + 1 := ⟨gk - 1, by have := HI.out; have := HLT.out; omega⟩
      have p158 := eq_true HI.out.1
      have q158 := eq_true HLT.out
      go_wp2
      have HX : Aside0 (0 ≤ rd l1 x ∧ rd l1 x < 18446744073709551616) := ⟨by
        have e : rd l1 x = l1[x.toNat]'(by have := HI.out; have := HLT.out; omega) := by unfold rd; rw [List.getD_eq_getElem?_getD, List.getElem?_eq_getElem (by have := HI.out; have := HLT.out; omega)]; rfl
        rw [e]; exact HO.out.1 _ (List.getElem_mem _)⟩
      go_loopg [5, 7] 9 (fun kq v5 v7 w' => ∃ (done : List UInt8) (y : Int), Aside0 (0 ≤ y ∧ y < 128 ^ (kq + 1) ∧ y < 18446744073709551616 ∧ done ++ encF kq y = enc (rd l1 x)) ∧ v7 = .int .u64 y ∧ Aside0 (BufB w.heap.size w' v5 (byteVals (a0.data.toList ++ encs (l1.take x.toNat) ++ done))) ∧ Aside0 (Below w.heap.size w w'))
      case atStart => exact ⟨[], rd l1 x, ⟨HX.out.1, by have := HX.out.2; omega, HX.out.2, rfl⟩, rfl, ⟨by rw [List.append_nil]; exact HBUF.out⟩, HB⟩
      case round =>
        clear HBUF HB hx
        obtain ⟨done, y, HY, rfl, HBUF, HB⟩ := hrel
        have y0 : 0 ≤ y := HY.out.1
        have LEN : Aside0 ((byteVals (a0.data.toList ++ encs (l1.take x.toNat) ++ done)).length + 1 ≤ 1099511627776) := ⟨by
          have h1 := encs_len (l1.take x.toNat)
          have h2 := HO.out.2
          have h3 : (l1.take x.toNat).length ≤ l1.length := by simp; omega
          have h4 : done.length ≤ 10 := by
            have := congrArg List.length HY.out.2.2.2
            have q := encF_len 9 (rd l1 x)
            unfold enc at this
            simp only [List.length_append] at this
            omega
          have h5 : a0.data.toList.length = a0.size := by simp
          simp only [byteVals, List.length_map, List.length_append]
          omega⟩
        by_cases hge : y ≥ 128
        · have g1 : decide (128 ≤ y) = true := decide_eq_true hge
          obtain ⟨k1, rfl⟩ : ∃ k1, gk = k1 + 1 := by
            cases gk with
            | zero => have := HY.out.2.1; simp at this; omega
            | succ k1 => exact ⟨k1, rfl⟩
          go_wp2_with (at_builtin; refine wpList_append_buf _ rfl _ _ _ rfl 5 i0 _ Try.underlying49 hi hz0 hz1 hz2 rfl rfl (HBUF.out.alloc _) (by have := HB.out.size; simp; omega) ⟨_, 0, none⟩ _ _ rfl (by first | exact World.cell?_alloc_mark _ _ _ _ 0 | (rw [World.cell?_alloc_mark]; rfl)) rfl LEN.out ?_; intro v5' w5 hbuf hb5)
          have T := Aside0.mk hbuf
          go_roundg k1
          case measure => omega
          case rel => exact ⟨done ++ [UInt8.ofNat (y % 128 + 128).toNat], y / 128, ⟨by
            obtain ⟨a1, a2, a3, a4⟩ := HY.out
            refine ⟨by omega, ?_, by omega, ?_⟩
            · have : (128 : Int) ^ (k1 + 1 + 1) = 128 ^ (k1 + 1) * 128 := Int.pow_succ _ _
              omega
            · rw [← a4, encF, if_pos (by omega), List.append_assoc]; rfl⟩, (by first | rfl | (simp; done) | (simp [*]; done)), ⟨by
            have h := T.out
            have q : Go.bits .or .u8 (y % 256) 128 = y % 128 + 128 := by rw [put_or (by omega) (by omega)]; omega
            rw [← List.append_assoc, ← byteVals_snoc _ (y % 128 + 128) (by omega) (by omega), ← q]
            exact h⟩, ⟨HB.out.trans ((((Below.refl _ _).alloc (by have := HB.out.size; omega) _)).trans hb5)⟩⟩
        · have g1 : decide (128 ≤ y) = false := decide_eq_false hge
          go_wp2_with (at_builtin; refine wpList_append_buf _ rfl _ _ _ rfl 5 i0 _ Try.underlying49 hi hz0 hz1 hz2 rfl rfl (HBUF.out.alloc _) (by have := HB.out.size; simp; omega) ⟨_, 0, none⟩ _ _ rfl (by first | exact World.cell?_alloc_mark _ _ _ _ 0 | (rw [World.cell?_alloc_mark]; rfl)) rfl LEN.out ?_; intro v5' w5 hbuf hb5)
          have T := Aside0.mk hbuf
          have W1 : Aside0 (wrap64 (x + 1) = x + 1) := ⟨by have := HI.out; have := HLT.out; have := HO.out.2; unfold wrap64; omega⟩
          go_roundg k0
          case measure => omega
          case rel => exact ⟨x + 1, ⟨by have := HI.out; omega⟩, (by rw [W1.out]), ⟨by
            have h := T.out
            obtain ⟨a1, a2, a3, a4⟩ := HY.out
            have e1 : encF gk y = [UInt8.ofNat y.toNat] := by
              cases gk with
              | zero => rfl
              | succ g => rw [encF, if_neg (by omega)]
            have e2 : l1.take (x + 1).toNat = l1.take x.toNat ++ [rd l1 x] := by
              have : (x + 1).toNat = x.toNat + 1 := by have := HI.out; omega
              rw [this, List.take_succ_eq_append_getElem (by have := HI.out; have := HLT.out; omega)]
              congr 2
              unfold rd; rw [List.getD_eq_getElem?_getD, List.getElem?_eq_getElem (by have := HI.out; have := HLT.out; omega)]; rfl
            have e3 : encs (l1.take (x + 1).toNat) = encs (l1.take x.toNat) ++ (done ++ [UInt8.ofNat y.toNat]) := by
              rw [e2]; unfold encs; rw [List.flatMap_append, List.flatMap_singleton, ← a4, e1]
            rw [e3, ← List.append_assoc, ← List.append_assoc, ← byteVals_snoc _ y (by omega) (by omega)]
            exact h⟩, ⟨HB.out.trans ((((Below.refl _ _).alloc (by have := HB.out.size; omega) _)).trans hb5)⟩⟩
    · have c3b0 : decide (x < (l1.length : Int)) = false := decide_eq_false hlt
      have hxl : x = l1.length := by have := HI.out; omega
      have kb := HBUF.out.back (P := Try.prog) 49 9 5 Try.underlying49 Try.underlying5 Try.underlying9
      rw [hxl, Int.toNat_natCast, List.take_length] at kb
      clear hlt hxl
      go_wp2
      go_ret
      exact ⟨by first | rfl | (simp [*]; done), HB.out⟩

/-! ### pack_Text: function 20 -/
def pack_Text.f (a0 : ByteArray) (a1 : ByteArray) : Option (ByteArray) := (pack_Put.f a0 (([(a1.size : Int)] : List Int))).bind fun t130 => (if t130.size + a1.size ≤ 9223372036854775807 then (some (t130 ++ a1)) else (none))
set_option maxHeartbeats 8000000 in
set_option maxRecDepth 100000 in
theorem pack_Text.calls (a0 : ByteArray) (a1 : ByteArray) (r : ByteArray) (w : World) (h : pack_Text.f a0 a1 = some r) :
    Calls Try.prog 20 #[.string a0, .string a1] w fun e w' => e = .returned (.string r) ∧ Below w.heap.size w w' := by
  have HB := Aside0.mk (Below.refl w.heap.size w)
  have H : ((pack_Put.f a0 (([(a1.size : Int)] : List Int))).bind fun t130 => (if t130.size + a1.size ≤ 9223372036854775807 then (some (t130 ++ a1)) else (none))) = some r := h
  clear h
  obtain ⟨y127, hy127⟩ : ∃ y_ : List Int, y_ = (([(a1.size : Int)] : List Int)) := ⟨_, rfl⟩
  replace H : ((pack_Put.f a0 y127).bind fun t130 => (if t130.size + a1.size ≤ 9223372036854775807 then (some (t130 ++ a1)) else (none))) = some r := by first | (rw [hy127]; with_reducible exact H) | (have H2_ := (Option.bind_some _ _).symm.trans H; rw [hy127]; with_reducible exact H2_) | (have H2_ := (Option.bind_some _ _).symm.trans H; with_reducible exact H2_) | with_reducible exact H | (rw [hy127]; exact H) | exact H
  have Ny127 := Aside0.mk hy127
  clear hy127
  replace H := Option.bind_eq_some_iff.mp H
  obtain ⟨t130, A30, H⟩ := H
  replace H : (if t130.size + a1.size ≤ 9223372036854775807 then (some (t130 ++ a1)) else (none)) = some r := H
  have A3 := Aside0.mk A30
  clear A30
  by_cases c4 : t130.size + a1.size ≤ 9223372036854775807
  · rw [if_pos c4] at H
    have c4b0 := eq_true c4
    have c4b1 : decide (t130.size + a1.size ≤ 9223372036854775807) = true := decide_eq_true c4
    try have c4b2 : (9223372036854775807 < t130.size + a1.size) = False := eq_false (Nat.not_lt.2 c4)
    obtain rfl := Option.some.inj H
    go_enter Try.func20, Try.ntmps20
    go_wp2_with (first | ((with_reducible refine gate_dst (N := 9) rfl ?_); refine Kd.R_lit (Kd.int .u64) _ 24 ?hg (N := 9) ?hd (xs := ([(a1.size : Int)] : List Int)) (inner := [.int .u64 (a1.size : Int)]) (ok := fun _ => True) (okp := fun _ => True) ?hr ?hp (fun _ hk => hk) trivial (Below.refl _ _) (Nat.le_refl _) (by simp) ?_; (case hd => rfl); (case hg => rfl); (case hr => first | (go_simp; done) | (go_simp; rfl)); (case hp => exact (Reps.one (show Kd.M (Kd.int .u64) _ _ _ (a1.size : Int) [.int .u64 (a1.size : Int)] from rfl) (Reps.none _ _))); intro v128 w5 ho6 hb hg_ hnew_; clear hg_ hnew_; (first | rw [← Ny127.out] at ho6 | (simp only [Int.reduceToNat] at ho6; rw [← Ny127.out] at ho6)); have n0_ := Aside0.mk (Kd.R_lower ho6 (below_size (by repeat (first | (with_reducible first | exact HB.out | apply below_alloc | apply pw_below_drewN | apply below_drew1) | exact HB.out)))); have n1_ := Aside0.mk (below_step (by repeat (first | (with_reducible first | exact HB.out | apply below_alloc | apply pw_below_drewN | apply below_drew1) | exact HB.out)) hb); clear HB; have HO129 := n0_; have HB := n1_; clear n0_ n1_; clear hb ho6; obtain ⟨Ao7, co7, eo7⟩ := Kd.R_slice HO129.out; subst eo7) | ((with_reducible refine gate_callee (f := 18) rfl ?_); refine goesL_ (some 10) rfl rfl Try.func18 (by kernel_rfl) rfl #[.string a0, .slice Ao7 y127.length co7] rfl (by (try simp only [List.map_toArray, List.map_cons, List.map_nil]); first | done | rfl | (simp only [List.length_drop, List.length_take]; rfl)) ?_; (with_reducible refine (pack_Put.calls a0 _ _ y127 t130 _ ?side1 ?side2 A3.out).mono ?_); (case side1 => repeat (first | exact (Kd.R_reads' HO129.out).2.2 | (with_reducible refine Kd.C_alloc ?_ _) | (with_reducible refine Kd.C_drewN ?_ _) | (with_reducible refine Kd.C_drew ?_))); (case side2 => exact (Kd.R_reads' HO129.out).2.1); rintro e w8 ⟨rfl, hb⟩; refine ⟨_, rfl, ?_⟩; have n0_ := Aside0.mk (Kd.R_below (by (with_reducible repeat (first | apply Kd.R_alloc | apply Kd.R_drewN | apply Kd.R_drew)); exact HO129.out) hb); have n1_ := Aside0.mk (below_step (by repeat (first | (with_reducible first | exact HB.out | apply below_alloc | apply pw_below_drewN | apply below_drew1) | exact HB.out)) hb); clear HO129; clear HB; have HO129 := n0_; have HB := n1_; clear n0_ n1_; (try clear hb); (try clear hb2); (try clear hk); (try clear hi)) | (go_at_call 18; (with_reducible refine (pack_Put.calls a0 _ _ y127 t130 _ ?side1 ?side2 A3.out).mono ?_); (case side1 => repeat (first | exact (Kd.R_reads' HO129.out).2.2 | (with_reducible refine Kd.C_alloc ?_ _) | (with_reducible refine Kd.C_drewN ?_ _) | (with_reducible refine Kd.C_drew ?_))); (case side2 => exact (Kd.R_reads' HO129.out).2.1); rintro e w8 ⟨rfl, hb⟩; have n0_ := Aside0.mk (Kd.R_below (by (with_reducible repeat (first | apply Kd.R_alloc | apply Kd.R_drewN | apply Kd.R_drew)); exact HO129.out) hb); have n1_ := Aside0.mk (below_step (by repeat (first | (with_reducible first | exact HB.out | apply below_alloc | apply pw_below_drewN | apply below_drew1) | exact HB.out)) hb); clear HO129; clear HB; have HO129 := n0_; have HB := n1_; clear n0_ n1_; (try clear hb); (try clear hb2); (try clear hk); (try clear hi)))
    go_ret
    exact ⟨by first | rfl | (simp [errW_none, errW_some] <;> rfl) | (simp [*, errW_none, errW_some] <;> rfl), by repeat (first | (with_reducible first | exact HB.out | apply below_alloc | apply pw_below_drewN | apply below_drew1) | exact HB.out)⟩
  · rw [if_neg c4] at H
    exact absurd H (by simp)

/-! ### pack_Texts: function 22 -/
def pack_Texts.l0 : Nat → ByteArray → List ByteArray → Int → Int → Option (ByteArray)
  | 0, _, _, _, _ => none
  | k + 1, x5, x14, x15, x16 => if x16 < x15 then (if 0 ≤ x16 then (if x16 < (x14.length : Int) then ((pack_Text.f x5 (rdOf ByteArray.empty x14 x16)).bind fun t136 => (pack_Texts.l0 k t136 x14 x15 (wrap64 (x16 + 1)))) else (none)) else (none)) else (some x5)
def pack_Texts.f (k : Nat) (a0 : ByteArray) (l1 : List ByteArray) : Option (ByteArray) := (pack_Put.f a0 (([IntKind.u64.wrap ((l1.length : Int))] : List Int))).bind fun t134 => (pack_Texts.l0 k t134 l1 (l1.length : Int) 0)
theorem pack_Texts.mono_l : ∀ k, (∀ y0 y1 y2 y3, LeO (pack_Texts.l0 k y0 y1 y2 y3) (pack_Texts.l0 (k + 1) y0 y1 y2 y3))
  | 0 => fun _ _ _ _ r h => by simp [pack_Texts.l0] at h
  | k + 1 => by
    have ih0 := pack_Texts.mono_l k
    · intro y0 y1 y2 y3
      unfold pack_Texts.l0
      repeat' first
      | (with_reducible exact ih0 _ _ _ _)
      | (with_reducible exact LeO.refl _)
      | (with_reducible exact LeO.none _)
      | (with_reducible refine LeO.ite ?_ ?_)
      | (with_reducible refine LeO.bind ?_ (fun _ => ?_))
      | exact ih0 _ _ _ _
      | exact LeO.none _
      | refine LeO.ite ?_ ?_
      | refine LeO.bind ?_ (fun _ => ?_)
theorem pack_Texts.mono : ∀ a0 a1 k, LeO (pack_Texts.f k a0 a1) (pack_Texts.f (k + 1) a0 a1) := by
  intro a0 a1 k
  have ih0 := pack_Texts.mono_l k
  unfold pack_Texts.f
  repeat' first
      | (with_reducible exact ih0 _ _ _ _)
      | (with_reducible exact LeO.refl _)
      | (with_reducible exact LeO.none _)
      | (with_reducible refine LeO.ite ?_ ?_)
      | (with_reducible refine LeO.bind ?_ (fun _ => ?_))
      | exact ih0 _ _ _ _
      | exact LeO.none _
      | refine LeO.ite ?_ ?_
      | refine LeO.bind ?_ (fun _ => ?_)
set_option maxHeartbeats 8000000 in
set_option maxRecDepth 100000 in
theorem pack_Texts.calls (k : Nat) (a0 : ByteArray) (A1 : Option Addr) (c1 : Nat) (l1 : List ByteArray) (r : ByteArray) (w : World) (hr1 : Kd.C Kd.string w A1 l1.length l1) (hc1 : l1.length ≤ c1) (h : pack_Texts.f k a0 l1 = some r) :
    Calls Try.prog 22 #[.string a0, .slice A1 l1.length c1] w fun e w' => e = .returned (.string r) ∧ Below w.heap.size w w' := by
  have HR1 := Aside0.mk hr1
  have HC1 := Aside0.mk hc1
  clear hr1 hc1
  have HB := Aside0.mk (Below.refl w.heap.size w)
  have H : ((pack_Put.f a0 (([IntKind.u64.wrap ((l1.length : Int))] : List Int))).bind fun t134 => (pack_Texts.l0 k t134 l1 (l1.length : Int) 0)) = some r := h
  clear h
  obtain ⟨y131, hy131⟩ : ∃ y_ : List Int, y_ = (([IntKind.u64.wrap ((l1.length : Int))] : List Int)) := ⟨_, rfl⟩
  replace H : ((pack_Put.f a0 y131).bind fun t134 => (pack_Texts.l0 k t134 l1 (l1.length : Int) 0)) = some r := by first | (rw [hy131]; with_reducible exact H) | (have H2_ := (Option.bind_some _ _).symm.trans H; rw [hy131]; with_reducible exact H2_) | (have H2_ := (Option.bind_some _ _).symm.trans H; with_reducible exact H2_) | with_reducible exact H | (rw [hy131]; exact H) | exact H
  have Ny131 := Aside0.mk hy131
  clear hy131
  replace H := Option.bind_eq_some_iff.mp H
  obtain ⟨t134, A30, H⟩ := H
  replace H : (pack_Texts.l0 k t134 l1 (l1.length : Int) 0) = some r := H
  have A3 := Aside0.mk A30
  clear A30
  have H' := Aside0.mk H
  clear H
  go_enter Try.func22, Try.ntmps22
  go_wp2_with (first | ((with_reducible refine gate_dst (N := 12) rfl ?_); refine Kd.R_lit (Kd.int .u64) _ 24 ?hg (N := 12) ?hd (xs := ([IntKind.u64.wrap ((l1.length : Int))] : List Int)) (inner := [.int .u64 (IntKind.u64.wrap ((l1.length : Int)))]) (ok := fun _ => True) (okp := fun _ => True) ?hr ?hp (fun _ hk => hk) trivial (Below.refl _ _) (Nat.le_refl _) (by simp) ?_; (case hd => rfl); (case hg => rfl); (case hr => first | (go_simp; done) | (go_simp; rfl)); (case hp => exact (Reps.one (show Kd.M (Kd.int .u64) _ _ _ (IntKind.u64.wrap ((l1.length : Int))) [.int .u64 (IntKind.u64.wrap ((l1.length : Int)))] from rfl) (Reps.none _ _))); intro v132 w4 ho5 hb hg_ hnew_; clear hg_ hnew_; (first | rw [← Ny131.out] at ho5 | (simp only [Int.reduceToNat] at ho5; rw [← Ny131.out] at ho5)); have n0_ := Aside0.mk (Kd.R_lower ho5 (below_size (by repeat (first | (with_reducible first | exact HB.out | apply below_alloc | apply pw_below_drewN | apply below_drew1) | exact HB.out)))); have n1_ := Aside0.mk (below_step (by repeat (first | (with_reducible first | exact HB.out | apply below_alloc | apply pw_below_drewN | apply below_drew1) | exact HB.out)) hb); clear HB; have HO133 := n0_; have HB := n1_; clear n0_ n1_; clear hb ho5; obtain ⟨Ao6, co6, eo6⟩ := Kd.R_slice HO133.out; subst eo6) | ((with_reducible refine gate_callee (f := 18) rfl ?_); refine goesL_ (some 13) rfl rfl Try.func18 (by kernel_rfl) rfl #[.string a0, .slice Ao6 y131.length co6] rfl (by (try simp only [List.map_toArray, List.map_cons, List.map_nil]); first | done | rfl | (simp only [List.length_drop, List.length_take]; rfl)) ?_; (with_reducible refine (pack_Put.calls a0 _ _ y131 t134 _ ?side1 ?side2 A3.out).mono ?_); (case side1 => repeat (first | exact (Kd.R_reads' HO133.out).2.2 | (with_reducible refine Kd.C_alloc ?_ _) | (with_reducible refine Kd.C_drewN ?_ _) | (with_reducible refine Kd.C_drew ?_))); (case side2 => exact (Kd.R_reads' HO133.out).2.1); rintro e w7 ⟨rfl, hb⟩; refine ⟨_, rfl, ?_⟩; have n0_ := Aside0.mk (Kd.R_below (by (with_reducible repeat (first | apply Kd.R_alloc | apply Kd.R_drewN | apply Kd.R_drew)); exact HO133.out) hb); have n1_ := Aside0.mk (below_step (by repeat (first | (with_reducible first | exact HB.out | apply below_alloc | apply pw_below_drewN | apply below_drew1) | exact HB.out)) hb); clear HO133; clear HB; have HO133 := n0_; have HB := n1_; clear n0_ n1_; (try clear hb); (try clear hb2); (try clear hk); (try clear hi)) | (go_at_call 18; (with_reducible refine (pack_Put.calls a0 _ _ y131 t134 _ ?side1 ?side2 A3.out).mono ?_); (case side1 => repeat (first | exact (Kd.R_reads' HO133.out).2.2 | (with_reducible refine Kd.C_alloc ?_ _) | (with_reducible refine Kd.C_drewN ?_ _) | (with_reducible refine Kd.C_drew ?_))); (case side2 => exact (Kd.R_reads' HO133.out).2.1); rintro e w7 ⟨rfl, hb⟩; have n0_ := Aside0.mk (Kd.R_below (by (with_reducible repeat (first | apply Kd.R_alloc | apply Kd.R_drewN | apply Kd.R_drew)); exact HO133.out) hb); have n1_ := Aside0.mk (below_step (by repeat (first | (with_reducible first | exact HB.out | apply below_alloc | apply pw_below_drewN | apply below_drew1) | exact HB.out)) hb); clear HO133; clear HB; have HO133 := n0_; have HB := n1_; clear n0_ n1_; (try clear hb); (try clear hb2); (try clear hk); (try clear hi)))
  go_loopg [5, 16] k (fun kq v5 v16 w' => ∃ (x5_1 : ByteArray) (x16_1 : Int), v5 = .string x5_1 ∧ v16 = .int .i64 x16_1 ∧ Aside0 (pack_Texts.l0 kq x5_1 l1 (l1.length : Int) x16_1 = some r) ∧ Aside0 (kq ≤ k) ∧ Aside0 (Below w.heap.size w w'))
  case atStart => exact ⟨(t134), (0), (by first | rfl | (simp; done) | (simp [*]; done)), (by first | rfl | (simp; done) | (simp [*]; done)), H', ⟨Nat.le_refl _⟩, ⟨by repeat (first | (with_reducible first | exact HB.out | apply below_alloc | apply pw_below_drewN | apply below_drew1) | exact HB.out)⟩⟩
  case round =>
    clear H'
    try clear c1
    try clear c2
    try clear p2
    obtain ⟨x5_1, x16_1, rfl, rfl, HA, HK1, HB⟩ := hrel
    cases gk with
    | zero => exact absurd HA.out (by simp [pack_Texts.l0])
    | succ k1 =>
      have H := HA.out
      clear HA
      simp only [pack_Texts.l0] at H
      by_cases c8 : x16_1 < (l1.length : Int)
      · rw [if_pos c8] at H
        have c8b0 : decide (x16_1 < (l1.length : Int)) = true := decide_eq_true c8
        clear c8
        by_cases c9 : 0 ≤ x16_1
        · rw [if_pos c9] at H
          have c9b0 : decide (0 ≤ x16_1) = true := decide_eq_true c9
          clear c9
          by_cases c10 : x16_1 < (l1.length : Int)
          · rw [if_pos c10] at H
            have c10b0 : decide (x16_1 < (l1.length : Int)) = true := decide_eq_true c10
            clear c10
            replace H := Option.bind_eq_some_iff.mp H
            obtain ⟨t136, A110, H⟩ := H
            replace H : (pack_Texts.l0 k1 t136 l1 (l1.length : Int) (wrap64 (x16_1 + 1))) = some r := H
            have A11 := Aside0.mk A110
            clear A110
            have H' := Aside0.mk H
            clear H
            have p135 : 0 ≤ (x16_1 : Int) := of_decide_eq_true (by first | (with_reducible assumption) | assumption)
            have q135 : x16_1 < (l1.length : Int) := of_decide_eq_true (by first | (with_reducible assumption) | assumption)
            obtain ⟨ad135, e135, hx135_0⟩ := Kd.at_string HR1.out x16_1 p135 q135
            cases e135
            replace hx135_0 := (HB.out.cell (World.block_lt_of_cell? w _ hx135_0)).trans hx135_0
            replace p135 := eq_true p135
            replace q135 := eq_true q135
            go_wp2_with (first | ((with_reducible refine gate_callee (f := 20) rfl ?_); refine goesL_ (some 22) rfl rfl Try.func20 (by kernel_rfl) rfl #[.string x5_1, .string (rdOf ByteArray.empty l1 x16_1)] rfl (by (try simp only [List.map_toArray, List.map_cons, List.map_nil]); first | done | rfl | (simp only [List.length_drop, List.length_take]; rfl)) ?_; (with_reducible refine (pack_Text.calls x5_1 (rdOf ByteArray.empty l1 x16_1) t136 _ A11.out).mono ?_); rintro e w12 ⟨rfl, hb⟩; refine ⟨_, rfl, ?_⟩; have n0_ := Aside0.mk (below_step (by repeat (first | (with_reducible first | exact HB.out | apply below_alloc | apply pw_below_drewN | apply below_drew1) | exact HB.out)) hb); clear HB; have HB := n0_; clear n0_; (try clear hb); (try clear hb2); (try clear hk); (try clear hi)) | (go_at_call 20; (with_reducible refine (pack_Text.calls x5_1 (rdOf ByteArray.empty l1 x16_1) t136 _ A11.out).mono ?_); rintro e w12 ⟨rfl, hb⟩; have n0_ := Aside0.mk (below_step (by repeat (first | (with_reducible first | exact HB.out | apply below_alloc | apply pw_below_drewN | apply below_drew1) | exact HB.out)) hb); clear HB; have HB := n0_; clear n0_; (try clear hb); (try clear hb2); (try clear hk); (try clear hi)))
            go_roundg k1
            case measure => have := HK1.out; omega
            case rel => exact ⟨(t136), (wrap64 (x16_1 + 1)), (by first | rfl | (simp; done) | (simp [*]; done)), (by first | rfl | (simp; done) | (simp [*]; done)), H', ⟨by have := HK1.out; omega⟩, ⟨by repeat (first | (with_reducible first | exact HB.out | apply below_alloc | apply pw_below_drewN | apply below_drew1) | exact HB.out)⟩⟩
          · rw [if_neg c10] at H
            exact absurd H (by simp)
        · rw [if_neg c9] at H
          exact absurd H (by simp)
      · rw [if_neg c8] at H
        have c8b0 : decide (x16_1 < (l1.length : Int)) = false := decide_eq_false c8
        clear c8
        obtain rfl := Option.some.inj H
        go_wp2
        go_ret
        exact ⟨by first | rfl | (simp [errW_none, errW_some] <;> rfl) | (simp [*, errW_none, errW_some] <;> rfl), by repeat (first | (with_reducible first | exact HB.out | apply below_alloc | apply pw_below_drewN | apply below_drew1) | exact HB.out)⟩

/-! ### bits_Len64: function 28 -/
def bits_Len64.ren : Go.Shelf.Ren := ⟨fun | 129 => 28 | n => n, fun | 53 => 24 | 3 => 3 | 4 => 4 | 46 => 50 | 5 => 5 | 9 => 9 | n => n, fun | n => n⟩
theorem bits_Len64.lays : Go.Proofs.Lays.n129 Try.prog bits_Len64.ren := {
  mixed := by kernel_rfl
  f129 := Try.func28.trans (congrArg some (by kernel_rfl))
  t3 := Try.underlying3
  a3 := Try.isAgg3
  z3 := Try.sizeOf3
  v3 := Try.zeroValue3
  t4 := Try.underlying4
  a4 := Try.isAgg4
  z4 := Try.sizeOf4
  v4 := Try.zeroValue4
  t5 := Try.underlying5
  a5 := Try.isAgg5
  z5 := Try.sizeOf5
  v5 := Try.zeroValue5
  t9 := Try.underlying9
  a9 := Try.isAgg9
  z9 := Try.sizeOf9
  v9 := Try.zeroValue9
  t46 := Try.underlying50
  a46 := Try.isAgg50
  z46 := Try.sizeOf50
  v46 := Try.zeroValue50
  t53 := Try.underlying24
  a53 := Try.isAgg24
  z53 := Try.sizeOf24
  v53 := Try.zeroValue24 }
def bits_Len64.f (a0 : Int) : Option (Int) := if 0 ≤ a0 then (if a0 ≤ 18446744073709551615 then some (Lib.bitLen a0.toNat : Int) else none) else none
theorem bits_Len64.calls (a0 : Int) (r : Int) (w : World) (h : bits_Len64.f a0 = some r) :
    Calls Try.prog 28 #[.int .u64 a0] w fun e w' => e = .returned (.int .i64 r) ∧ Drawn0 w w' := by
  unfold bits_Len64.f at h
  by_cases h0 : 0 ≤ a0
  · by_cases h1 : a0 ≤ 18446744073709551615
    · rw [if_pos h0, if_pos h1] at h
      obtain rfl := Option.some.inj h
      refine (Any.bits_Len64 bits_Len64.lays a0 w h0 h1).mono ?_
      rintro e w' ⟨rfl, rfl⟩
      exact ⟨rfl, Drawn0.refl _⟩
    · rw [if_pos h0, if_neg h1] at h; cases h
  · rw [if_neg h0] at h; cases h

/-! ### pack_Size: function 24 -/
def pack_Size.f (a0 : Int) : Option (Int) := (bits_Len64.f (Go.bits .or .u64 a0 1)).bind fun t137 => (some (wrap64 (Int.tdiv (wrap64 ((wrap64 (t137 + 7)) - 1)) 7)))
set_option maxHeartbeats 8000000 in
set_option maxRecDepth 100000 in
theorem pack_Size.calls (a0 : Int) (r : Int) (w : World) (h : pack_Size.f a0 = some r) :
    Calls Try.prog 24 #[.int .u64 a0] w fun e w' => e = .returned (.int .i64 r) ∧ Drawn0 w w' := by
  have H : ((bits_Len64.f (Go.bits .or .u64 a0 1)).bind fun t137 => (some (wrap64 (Int.tdiv (wrap64 ((wrap64 (t137 + 7)) - 1)) 7)))) = some r := h
  clear h
  replace H := Option.bind_eq_some_iff.mp H
  obtain ⟨t137, A20, H⟩ := H
  replace H : (some (wrap64 (Int.tdiv (wrap64 ((wrap64 (t137 + 7)) - 1)) 7))) = some r := H
  have A2 := Aside0.mk A20
  clear A20
  obtain rfl := Option.some.inj H
  go_enter Try.func24, Try.ntmps24
  go_wp2_with (first | ((with_reducible refine gate_callee (f := 28) rfl ?_); refine goesL_ (some 5) rfl rfl Try.func28 (by kernel_rfl) rfl #[.int .u64 (Go.bits .or .u64 a0 1)] rfl (by (try simp only [List.map_toArray, List.map_cons, List.map_nil]); first | done | rfl | (simp only [List.length_drop, List.length_take]; rfl)) ?_; (with_reducible refine (bits_Len64.calls (Go.bits .or .u64 a0 1) t137 _ A2.out).mono ?_); rintro e w' ⟨rfl, ⟨nd, rfl⟩⟩; refine ⟨_, rfl, ?_⟩) | (go_at_call 28; (with_reducible refine (bits_Len64.calls (Go.bits .or .u64 a0 1) t137 _ A2.out).mono ?_); rintro e w' ⟨rfl, ⟨nd, rfl⟩⟩))
  go_ret
  exact ⟨by first | rfl | (simp; done) | (simp [*]; done), by repeat (first | exact Drawn0.refl _ | apply Drawn0.step)⟩

/-! ### linhaylaw07_awake: function 9 -/
def linhaylaw07_awake.f (k : Nat)  : Option (Bool) := (pack_Put.f (⟨#[120]⟩ : ByteArray) (([5, 300, 0] : List Int))).bind fun t141 => ((pack_Take.f k (⟨#[172, 2, 121]⟩ : ByteArray)).bind fun bt142 => ((pack_Take.f k (⟨#[128, 0]⟩ : ByteArray)).bind fun bt145 => ((pack_Text.f (⟨#[]⟩ : ByteArray) (⟨#[97, 98]⟩ : ByteArray)).bind fun t148 => ((pack_TakeText.f k t148).bind fun bt149 => ((pack_Texts.f k (⟨#[]⟩ : ByteArray) (([(⟨#[97]⟩ : ByteArray), (⟨#[]⟩ : ByteArray)] : List ByteArray))).bind fun t155 => ((pack_TakeTexts.f k t155).bind fun bt156 => ((pack_TakeTexts.f k (⟨#[2, 0]⟩ : ByteArray)).bind fun bt161 => (if t141.toList = ([120, 5, 172, 2, 0] : List UInt8) then (if bt142.1 = 300 then (if bt142.2.1.toList = ([121] : List UInt8) then (if bt142.2.2 = 0 then (if bt145.2.2 = 70 then (if bt149.1.toList = ([97, 98] : List UInt8) then (if bt149.2.2 = 0 then ((linhayref07_Same.f k bt156.1 (([(⟨#[97]⟩ : ByteArray), (⟨#[]⟩ : ByteArray)] : List ByteArray))).bind fun t169 => (if t169 = true then (if bt156.2.2 = 0 then (if bt161.2.2 = 70 then ((pack_Size.f 127).bind fun t170 => (if t170 = 1 then ((pack_Size.f 128).bind fun t171 => (if t171 = 2 then ((pack_Size.f 18446744073709551615).bind fun t172 => (if t172 = 10 then (some true) else (none))) else (none))) else (none))) else (none)) else (none)) else (none))) else (none)) else (none)) else (none)) else (none)) else (none)) else (none)) else (none)))))))))
theorem linhaylaw07_awake.mono : ∀ k, LeO (linhaylaw07_awake.f k ) (linhaylaw07_awake.f (k + 1) ) := by
  intro  k
  unfold linhaylaw07_awake.f
  repeat' first
      | (with_reducible exact linhayref07_Same.mono _ _ _)
      | (with_reducible exact pack_Take.mono _ _)
      | (with_reducible exact pack_TakeText.mono _ _)
      | (with_reducible exact pack_TakeTexts.mono _ _)
      | (with_reducible exact pack_Texts.mono _ _ _)
      | (with_reducible exact LeO.refl _)
      | (with_reducible exact LeO.none _)
      | (with_reducible refine LeO.ite ?_ ?_)
      | (with_reducible refine LeO.bind ?_ (fun _ => ?_))
      | exact linhayref07_Same.mono _ _ _
      | exact pack_Take.mono _ _
      | exact pack_TakeText.mono _ _
      | exact pack_TakeTexts.mono _ _
      | exact pack_Texts.mono _ _ _
      | exact LeO.none _
      | refine LeO.ite ?_ ?_
      | refine LeO.bind ?_ (fun _ => ?_)
set_option maxHeartbeats 8000000 in
set_option maxRecDepth 100000 in
theorem linhaylaw07_awake.calls (k : Nat)  (r : Bool) (w : World) (h : linhaylaw07_awake.f k  = some r) :
    Calls Try.prog 9 #[] w fun e w' => e = .returned (.bool r) ∧ Below w.heap.size w w' := by
  have HB := Aside0.mk (Below.refl w.heap.size w)
  have H : ((pack_Put.f (⟨#[120]⟩ : ByteArray) (([5, 300, 0] : List Int))).bind fun t141 => ((pack_Take.f k (⟨#[172, 2, 121]⟩ : ByteArray)).bind fun bt142 => ((pack_Take.f k (⟨#[128, 0]⟩ : ByteArray)).bind fun bt145 => ((pack_Text.f (⟨#[]⟩ : ByteArray) (⟨#[97, 98]⟩ : ByteArray)).bind fun t148 => ((pack_TakeText.f k t148).bind fun bt149 => ((pack_Texts.f k (⟨#[]⟩ : ByteArray) (([(⟨#[97]⟩ : ByteArray), (⟨#[]⟩ : ByteArray)] : List ByteArray))).bind fun t155 => ((pack_TakeTexts.f k t155).bind fun bt156 => ((pack_TakeTexts.f k (⟨#[2, 0]⟩ : ByteArray)).bind fun bt161 => (if t141.toList = ([120, 5, 172, 2, 0] : List UInt8) then (if bt142.1 = 300 then (if bt142.2.1.toList = ([121] : List UInt8) then (if bt142.2.2 = 0 then (if bt145.2.2 = 70 then (if bt149.1.toList = ([97, 98] : List UInt8) then (if bt149.2.2 = 0 then ((linhayref07_Same.f k bt156.1 (([(⟨#[97]⟩ : ByteArray), (⟨#[]⟩ : ByteArray)] : List ByteArray))).bind fun t169 => (if t169 = true then (if bt156.2.2 = 0 then (if bt161.2.2 = 70 then ((pack_Size.f 127).bind fun t170 => (if t170 = 1 then ((pack_Size.f 128).bind fun t171 => (if t171 = 2 then ((pack_Size.f 18446744073709551615).bind fun t172 => (if t172 = 10 then (some true) else (none))) else (none))) else (none))) else (none)) else (none)) else (none))) else (none)) else (none)) else (none)) else (none)) else (none)) else (none)) else (none)))))))))) = some r := h
  clear h
  obtain ⟨y138, hy138⟩ : ∃ y_ : List Int, y_ = (([5, 300, 0] : List Int)) := ⟨_, rfl⟩
  replace H : ((pack_Put.f (⟨#[120]⟩ : ByteArray) y138).bind fun t141 => ((pack_Take.f k (⟨#[172, 2, 121]⟩ : ByteArray)).bind fun bt142 => ((pack_Take.f k (⟨#[128, 0]⟩ : ByteArray)).bind fun bt145 => ((pack_Text.f (⟨#[]⟩ : ByteArray) (⟨#[97, 98]⟩ : ByteArray)).bind fun t148 => ((pack_TakeText.f k t148).bind fun bt149 => ((pack_Texts.f k (⟨#[]⟩ : ByteArray) (([(⟨#[97]⟩ : ByteArray), (⟨#[]⟩ : ByteArray)] : List ByteArray))).bind fun t155 => ((pack_TakeTexts.f k t155).bind fun bt156 => ((pack_TakeTexts.f k (⟨#[2, 0]⟩ : ByteArray)).bind fun bt161 => (if t141.toList = ([120, 5, 172, 2, 0] : List UInt8) then (if bt142.1 = 300 then (if bt142.2.1.toList = ([121] : List UInt8) then (if bt142.2.2 = 0 then (if bt145.2.2 = 70 then (if bt149.1.toList = ([97, 98] : List UInt8) then (if bt149.2.2 = 0 then ((linhayref07_Same.f k bt156.1 (([(⟨#[97]⟩ : ByteArray), (⟨#[]⟩ : ByteArray)] : List ByteArray))).bind fun t169 => (if t169 = true then (if bt156.2.2 = 0 then (if bt161.2.2 = 70 then ((pack_Size.f 127).bind fun t170 => (if t170 = 1 then ((pack_Size.f 128).bind fun t171 => (if t171 = 2 then ((pack_Size.f 18446744073709551615).bind fun t172 => (if t172 = 10 then (some true) else (none))) else (none))) else (none))) else (none)) else (none)) else (none))) else (none)) else (none)) else (none)) else (none)) else (none)) else (none)) else (none)))))))))) = some r := by first | (rw [hy138]; with_reducible exact H) | (have H2_ := (Option.bind_some _ _).symm.trans H; rw [hy138]; with_reducible exact H2_) | (have H2_ := (Option.bind_some _ _).symm.trans H; with_reducible exact H2_) | with_reducible exact H | (rw [hy138]; exact H) | exact H
  have Ny138 := Aside0.mk hy138
  clear hy138
  replace H := Option.bind_eq_some_iff.mp H
  obtain ⟨t141, A10, H⟩ := H
  replace H : ((pack_Take.f k (⟨#[172, 2, 121]⟩ : ByteArray)).bind fun bt142 => ((pack_Take.f k (⟨#[128, 0]⟩ : ByteArray)).bind fun bt145 => ((pack_Text.f (⟨#[]⟩ : ByteArray) (⟨#[97, 98]⟩ : ByteArray)).bind fun t148 => ((pack_TakeText.f k t148).bind fun bt149 => ((pack_Texts.f k (⟨#[]⟩ : ByteArray) (([(⟨#[97]⟩ : ByteArray), (⟨#[]⟩ : ByteArray)] : List ByteArray))).bind fun t155 => ((pack_TakeTexts.f k t155).bind fun bt156 => ((pack_TakeTexts.f k (⟨#[2, 0]⟩ : ByteArray)).bind fun bt161 => (if t141.toList = ([120, 5, 172, 2, 0] : List UInt8) then (if bt142.1 = 300 then (if bt142.2.1.toList = ([121] : List UInt8) then (if bt142.2.2 = 0 then (if bt145.2.2 = 70 then (if bt149.1.toList = ([97, 98] : List UInt8) then (if bt149.2.2 = 0 then ((linhayref07_Same.f k bt156.1 (([(⟨#[97]⟩ : ByteArray), (⟨#[]⟩ : ByteArray)] : List ByteArray))).bind fun t169 => (if t169 = true then (if bt156.2.2 = 0 then (if bt161.2.2 = 70 then ((pack_Size.f 127).bind fun t170 => (if t170 = 1 then ((pack_Size.f 128).bind fun t171 => (if t171 = 2 then ((pack_Size.f 18446744073709551615).bind fun t172 => (if t172 = 10 then (some true) else (none))) else (none))) else (none))) else (none)) else (none)) else (none))) else (none)) else (none)) else (none)) else (none)) else (none)) else (none)) else (none))))))))) = some r := H
  have A1 := Aside0.mk A10
  clear A10
  replace H := Option.bind_eq_some_iff.mp H
  obtain ⟨⟨t142, t143, t144⟩, A20, H⟩ := H
  replace H : ((pack_Take.f k (⟨#[128, 0]⟩ : ByteArray)).bind fun bt145 => ((pack_Text.f (⟨#[]⟩ : ByteArray) (⟨#[97, 98]⟩ : ByteArray)).bind fun t148 => ((pack_TakeText.f k t148).bind fun bt149 => ((pack_Texts.f k (⟨#[]⟩ : ByteArray) (([(⟨#[97]⟩ : ByteArray), (⟨#[]⟩ : ByteArray)] : List ByteArray))).bind fun t155 => ((pack_TakeTexts.f k t155).bind fun bt156 => ((pack_TakeTexts.f k (⟨#[2, 0]⟩ : ByteArray)).bind fun bt161 => (if t141.toList = ([120, 5, 172, 2, 0] : List UInt8) then (if t142 = 300 then (if t143.toList = ([121] : List UInt8) then (if t144 = 0 then (if bt145.2.2 = 70 then (if bt149.1.toList = ([97, 98] : List UInt8) then (if bt149.2.2 = 0 then ((linhayref07_Same.f k bt156.1 (([(⟨#[97]⟩ : ByteArray), (⟨#[]⟩ : ByteArray)] : List ByteArray))).bind fun t169 => (if t169 = true then (if bt156.2.2 = 0 then (if bt161.2.2 = 70 then ((pack_Size.f 127).bind fun t170 => (if t170 = 1 then ((pack_Size.f 128).bind fun t171 => (if t171 = 2 then ((pack_Size.f 18446744073709551615).bind fun t172 => (if t172 = 10 then (some true) else (none))) else (none))) else (none))) else (none)) else (none)) else (none))) else (none)) else (none)) else (none)) else (none)) else (none)) else (none)) else (none)))))))) = some r := H
  have A2 := Aside0.mk A20
  clear A20
  replace H := Option.bind_eq_some_iff.mp H
  obtain ⟨⟨t145, t146, t147⟩, A30, H⟩ := H
  replace H : ((pack_Text.f (⟨#[]⟩ : ByteArray) (⟨#[97, 98]⟩ : ByteArray)).bind fun t148 => ((pack_TakeText.f k t148).bind fun bt149 => ((pack_Texts.f k (⟨#[]⟩ : ByteArray) (([(⟨#[97]⟩ : ByteArray), (⟨#[]⟩ : ByteArray)] : List ByteArray))).bind fun t155 => ((pack_TakeTexts.f k t155).bind fun bt156 => ((pack_TakeTexts.f k (⟨#[2, 0]⟩ : ByteArray)).bind fun bt161 => (if t141.toList = ([120, 5, 172, 2, 0] : List UInt8) then (if t142 = 300 then (if t143.toList = ([121] : List UInt8) then (if t144 = 0 then (if t147 = 70 then (if bt149.1.toList = ([97, 98] : List UInt8) then (if bt149.2.2 = 0 then ((linhayref07_Same.f k bt156.1 (([(⟨#[97]⟩ : ByteArray), (⟨#[]⟩ : ByteArray)] : List ByteArray))).bind fun t169 => (if t169 = true then (if bt156.2.2 = 0 then (if bt161.2.2 = 70 then ((pack_Size.f 127).bind fun t170 => (if t170 = 1 then ((pack_Size.f 128).bind fun t171 => (if t171 = 2 then ((pack_Size.f 18446744073709551615).bind fun t172 => (if t172 = 10 then (some true) else (none))) else (none))) else (none))) else (none)) else (none)) else (none))) else (none)) else (none)) else (none)) else (none)) else (none)) else (none)) else (none))))))) = some r := H
  have A3 := Aside0.mk A30
  clear A30
  replace H := Option.bind_eq_some_iff.mp H
  obtain ⟨t148, A40, H⟩ := H
  replace H : ((pack_TakeText.f k t148).bind fun bt149 => ((pack_Texts.f k (⟨#[]⟩ : ByteArray) (([(⟨#[97]⟩ : ByteArray), (⟨#[]⟩ : ByteArray)] : List ByteArray))).bind fun t155 => ((pack_TakeTexts.f k t155).bind fun bt156 => ((pack_TakeTexts.f k (⟨#[2, 0]⟩ : ByteArray)).bind fun bt161 => (if t141.toList = ([120, 5, 172, 2, 0] : List UInt8) then (if t142 = 300 then (if t143.toList = ([121] : List UInt8) then (if t144 = 0 then (if t147 = 70 then (if bt149.1.toList = ([97, 98] : List UInt8) then (if bt149.2.2 = 0 then ((linhayref07_Same.f k bt156.1 (([(⟨#[97]⟩ : ByteArray), (⟨#[]⟩ : ByteArray)] : List ByteArray))).bind fun t169 => (if t169 = true then (if bt156.2.2 = 0 then (if bt161.2.2 = 70 then ((pack_Size.f 127).bind fun t170 => (if t170 = 1 then ((pack_Size.f 128).bind fun t171 => (if t171 = 2 then ((pack_Size.f 18446744073709551615).bind fun t172 => (if t172 = 10 then (some true) else (none))) else (none))) else (none))) else (none)) else (none)) else (none))) else (none)) else (none)) else (none)) else (none)) else (none)) else (none)) else (none)))))) = some r := H
  have A4 := Aside0.mk A40
  clear A40
  replace H := Option.bind_eq_some_iff.mp H
  obtain ⟨⟨t149, t150, t151⟩, A50, H⟩ := H
  replace H : ((pack_Texts.f k (⟨#[]⟩ : ByteArray) (([(⟨#[97]⟩ : ByteArray), (⟨#[]⟩ : ByteArray)] : List ByteArray))).bind fun t155 => ((pack_TakeTexts.f k t155).bind fun bt156 => ((pack_TakeTexts.f k (⟨#[2, 0]⟩ : ByteArray)).bind fun bt161 => (if t141.toList = ([120, 5, 172, 2, 0] : List UInt8) then (if t142 = 300 then (if t143.toList = ([121] : List UInt8) then (if t144 = 0 then (if t147 = 70 then (if t149.toList = ([97, 98] : List UInt8) then (if t151 = 0 then ((linhayref07_Same.f k bt156.1 (([(⟨#[97]⟩ : ByteArray), (⟨#[]⟩ : ByteArray)] : List ByteArray))).bind fun t169 => (if t169 = true then (if bt156.2.2 = 0 then (if bt161.2.2 = 70 then ((pack_Size.f 127).bind fun t170 => (if t170 = 1 then ((pack_Size.f 128).bind fun t171 => (if t171 = 2 then ((pack_Size.f 18446744073709551615).bind fun t172 => (if t172 = 10 then (some true) else (none))) else (none))) else (none))) else (none)) else (none)) else (none))) else (none)) else (none)) else (none)) else (none)) else (none)) else (none)) else (none))))) = some r := H
  have A5 := Aside0.mk A50
  clear A50
  obtain ⟨y152, hy152⟩ : ∃ y_ : List ByteArray, y_ = (([(⟨#[97]⟩ : ByteArray), (⟨#[]⟩ : ByteArray)] : List ByteArray)) := ⟨_, rfl⟩
  replace H : ((pack_Texts.f k (⟨#[]⟩ : ByteArray) y152).bind fun t155 => ((pack_TakeTexts.f k t155).bind fun bt156 => ((pack_TakeTexts.f k (⟨#[2, 0]⟩ : ByteArray)).bind fun bt161 => (if t141.toList = ([120, 5, 172, 2, 0] : List UInt8) then (if t142 = 300 then (if t143.toList = ([121] : List UInt8) then (if t144 = 0 then (if t147 = 70 then (if t149.toList = ([97, 98] : List UInt8) then (if t151 = 0 then ((linhayref07_Same.f k bt156.1 (([(⟨#[97]⟩ : ByteArray), (⟨#[]⟩ : ByteArray)] : List ByteArray))).bind fun t169 => (if t169 = true then (if bt156.2.2 = 0 then (if bt161.2.2 = 70 then ((pack_Size.f 127).bind fun t170 => (if t170 = 1 then ((pack_Size.f 128).bind fun t171 => (if t171 = 2 then ((pack_Size.f 18446744073709551615).bind fun t172 => (if t172 = 10 then (some true) else (none))) else (none))) else (none))) else (none)) else (none)) else (none))) else (none)) else (none)) else (none)) else (none)) else (none)) else (none)) else (none))))) = some r := by first | (rw [hy152]; with_reducible exact H) | (have H2_ := (Option.bind_some _ _).symm.trans H; rw [hy152]; with_reducible exact H2_) | (have H2_ := (Option.bind_some _ _).symm.trans H; with_reducible exact H2_) | with_reducible exact H | (rw [hy152]; exact H) | exact H
  have Ny152 := Aside0.mk hy152
  clear hy152
  replace H := Option.bind_eq_some_iff.mp H
  obtain ⟨t155, A60, H⟩ := H
  replace H : ((pack_TakeTexts.f k t155).bind fun bt156 => ((pack_TakeTexts.f k (⟨#[2, 0]⟩ : ByteArray)).bind fun bt161 => (if t141.toList = ([120, 5, 172, 2, 0] : List UInt8) then (if t142 = 300 then (if t143.toList = ([121] : List UInt8) then (if t144 = 0 then (if t147 = 70 then (if t149.toList = ([97, 98] : List UInt8) then (if t151 = 0 then ((linhayref07_Same.f k bt156.1 (([(⟨#[97]⟩ : ByteArray), (⟨#[]⟩ : ByteArray)] : List ByteArray))).bind fun t169 => (if t169 = true then (if bt156.2.2 = 0 then (if bt161.2.2 = 70 then ((pack_Size.f 127).bind fun t170 => (if t170 = 1 then ((pack_Size.f 128).bind fun t171 => (if t171 = 2 then ((pack_Size.f 18446744073709551615).bind fun t172 => (if t172 = 10 then (some true) else (none))) else (none))) else (none))) else (none)) else (none)) else (none))) else (none)) else (none)) else (none)) else (none)) else (none)) else (none)) else (none)))) = some r := H
  have A6 := Aside0.mk A60
  clear A60
  replace H := Option.bind_eq_some_iff.mp H
  obtain ⟨⟨t156, t157, t158⟩, A70, H⟩ := H
  replace H : ((pack_TakeTexts.f k (⟨#[2, 0]⟩ : ByteArray)).bind fun bt161 => (if t141.toList = ([120, 5, 172, 2, 0] : List UInt8) then (if t142 = 300 then (if t143.toList = ([121] : List UInt8) then (if t144 = 0 then (if t147 = 70 then (if t149.toList = ([97, 98] : List UInt8) then (if t151 = 0 then ((linhayref07_Same.f k t156 (([(⟨#[97]⟩ : ByteArray), (⟨#[]⟩ : ByteArray)] : List ByteArray))).bind fun t169 => (if t169 = true then (if t158 = 0 then (if bt161.2.2 = 70 then ((pack_Size.f 127).bind fun t170 => (if t170 = 1 then ((pack_Size.f 128).bind fun t171 => (if t171 = 2 then ((pack_Size.f 18446744073709551615).bind fun t172 => (if t172 = 10 then (some true) else (none))) else (none))) else (none))) else (none)) else (none)) else (none))) else (none)) else (none)) else (none)) else (none)) else (none)) else (none)) else (none))) = some r := H
  have A7 := Aside0.mk A70
  clear A70
  replace H := Option.bind_eq_some_iff.mp H
  obtain ⟨⟨t161, t162, t163⟩, A80, H⟩ := H
  replace H : (if t141.toList = ([120, 5, 172, 2, 0] : List UInt8) then (if t142 = 300 then (if t143.toList = ([121] : List UInt8) then (if t144 = 0 then (if t147 = 70 then (if t149.toList = ([97, 98] : List UInt8) then (if t151 = 0 then ((linhayref07_Same.f k t156 (([(⟨#[97]⟩ : ByteArray), (⟨#[]⟩ : ByteArray)] : List ByteArray))).bind fun t169 => (if t169 = true then (if t158 = 0 then (if t163 = 70 then ((pack_Size.f 127).bind fun t170 => (if t170 = 1 then ((pack_Size.f 128).bind fun t171 => (if t171 = 2 then ((pack_Size.f 18446744073709551615).bind fun t172 => (if t172 = 10 then (some true) else (none))) else (none))) else (none))) else (none)) else (none)) else (none))) else (none)) else (none)) else (none)) else (none)) else (none)) else (none)) else (none)) = some r := H
  have A8 := Aside0.mk A80
  clear A80
  by_cases c9 : t141.toList = ([120, 5, 172, 2, 0] : List UInt8)
  · rw [if_pos c9] at H
    have c9b0 : (t141.toList == ([120, 5, 172, 2, 0] : List UInt8)) = true := beq_iff_eq.mpr c9
    have c9b1 : (t141.toList != ([120, 5, 172, 2, 0] : List UInt8)) = false := bne_eq_false_iff_eq.mpr c9
    clear c9
    by_cases c10 : t142 = 300
    · rw [if_pos c10] at H
      have c10b0 : (t142 == 300) = true := beq_iff_eq.mpr c10
      have c10b1 : (t142 != 300) = false := bne_eq_false_iff_eq.mpr c10
      clear c10
      by_cases c11 : t143.toList = ([121] : List UInt8)
      · rw [if_pos c11] at H
        have c11b0 : (t143.toList == ([121] : List UInt8)) = true := beq_iff_eq.mpr c11
        have c11b1 : (t143.toList != ([121] : List UInt8)) = false := bne_eq_false_iff_eq.mpr c11
        clear c11
        by_cases c12 : t144 = 0
        · rw [if_pos c12] at H
          have c12b0 : (t144 == 0) = true := beq_iff_eq.mpr c12
          have c12b1 : (t144 != 0) = false := bne_eq_false_iff_eq.mpr c12
          clear c12
          by_cases c13 : t147 = 70
          · rw [if_pos c13] at H
            have c13b0 : (t147 == 70) = true := beq_iff_eq.mpr c13
            have c13b1 : (t147 != 70) = false := bne_eq_false_iff_eq.mpr c13
            clear c13
            by_cases c14 : t149.toList = ([97, 98] : List UInt8)
            · rw [if_pos c14] at H
              have c14b0 : (t149.toList == ([97, 98] : List UInt8)) = true := beq_iff_eq.mpr c14
              have c14b1 : (t149.toList != ([97, 98] : List UInt8)) = false := bne_eq_false_iff_eq.mpr c14
              clear c14
              by_cases c15 : t151 = 0
              · rw [if_pos c15] at H
                have c15b0 : (t151 == 0) = true := beq_iff_eq.mpr c15
                have c15b1 : (t151 != 0) = false := bne_eq_false_iff_eq.mpr c15
                clear c15
                obtain ⟨y166, hy166⟩ : ∃ y_ : List ByteArray, y_ = (([(⟨#[97]⟩ : ByteArray), (⟨#[]⟩ : ByteArray)] : List ByteArray)) := ⟨_, rfl⟩
                replace H : ((linhayref07_Same.f k t156 y166).bind fun t169 => (if t169 = true then (if t158 = 0 then (if t163 = 70 then ((pack_Size.f 127).bind fun t170 => (if t170 = 1 then ((pack_Size.f 128).bind fun t171 => (if t171 = 2 then ((pack_Size.f 18446744073709551615).bind fun t172 => (if t172 = 10 then (some true) else (none))) else (none))) else (none))) else (none)) else (none)) else (none))) = some r := by first | (rw [hy166]; with_reducible exact H) | (have H2_ := (Option.bind_some _ _).symm.trans H; rw [hy166]; with_reducible exact H2_) | (have H2_ := (Option.bind_some _ _).symm.trans H; with_reducible exact H2_) | with_reducible exact H | (rw [hy166]; exact H) | exact H
                have Ny166 := Aside0.mk hy166
                clear hy166
                replace H := Option.bind_eq_some_iff.mp H
                obtain ⟨t169, A160, H⟩ := H
                replace H : (if t169 = true then (if t158 = 0 then (if t163 = 70 then ((pack_Size.f 127).bind fun t170 => (if t170 = 1 then ((pack_Size.f 128).bind fun t171 => (if t171 = 2 then ((pack_Size.f 18446744073709551615).bind fun t172 => (if t172 = 10 then (some true) else (none))) else (none))) else (none))) else (none)) else (none)) else (none)) = some r := H
                have A16 := Aside0.mk A160
                clear A160
                by_cases c17 : t169 = true
                · subst c17
                  have H1 : (if t158 = 0 then (if t163 = 70 then ((pack_Size.f 127).bind fun t170 => (if t170 = 1 then ((pack_Size.f 128).bind fun t171 => (if t171 = 2 then ((pack_Size.f 18446744073709551615).bind fun t172 => (if t172 = 10 then (some true) else (none))) else (none))) else (none))) else (none)) else (none)) = some r := by rw [if_pos rfl] at H; exact H
                  clear H
                  have H := H1
                  clear H1
                  by_cases c18 : t158 = 0
                  · rw [if_pos c18] at H
                    have c18b0 : (t158 == 0) = true := beq_iff_eq.mpr c18
                    have c18b1 : (t158 != 0) = false := bne_eq_false_iff_eq.mpr c18
                    clear c18
                    by_cases c19 : t163 = 70
                    · rw [if_pos c19] at H
                      have c19b0 : (t163 == 70) = true := beq_iff_eq.mpr c19
                      have c19b1 : (t163 != 70) = false := bne_eq_false_iff_eq.mpr c19
                      clear c19
                      replace H := Option.bind_eq_some_iff.mp H
                      obtain ⟨t170, A200, H⟩ := H
                      replace H : (if t170 = 1 then ((pack_Size.f 128).bind fun t171 => (if t171 = 2 then ((pack_Size.f 18446744073709551615).bind fun t172 => (if t172 = 10 then (some true) else (none))) else (none))) else (none)) = some r := H
                      have A20 := Aside0.mk A200
                      clear A200
                      by_cases c21 : t170 = 1
                      · rw [if_pos c21] at H
                        have c21b0 : (t170 == 1) = true := beq_iff_eq.mpr c21
                        have c21b1 : (t170 != 1) = false := bne_eq_false_iff_eq.mpr c21
                        clear c21
                        replace H := Option.bind_eq_some_iff.mp H
                        obtain ⟨t171, A220, H⟩ := H
                        replace H : (if t171 = 2 then ((pack_Size.f 18446744073709551615).bind fun t172 => (if t172 = 10 then (some true) else (none))) else (none)) = some r := H
                        have A22 := Aside0.mk A220
                        clear A220
                        by_cases c23 : t171 = 2
                        · rw [if_pos c23] at H
                          have c23b0 : (t171 == 2) = true := beq_iff_eq.mpr c23
                          have c23b1 : (t171 != 2) = false := bne_eq_false_iff_eq.mpr c23
                          clear c23
                          replace H := Option.bind_eq_some_iff.mp H
                          obtain ⟨t172, A240, H⟩ := H
                          replace H : (if t172 = 10 then (some true) else (none)) = some r := H
                          have A24 := Aside0.mk A240
                          clear A240
                          by_cases c25 : t172 = 10
                          · rw [if_pos c25] at H
                            have c25b0 : (t172 == 10) = true := beq_iff_eq.mpr c25
                            have c25b1 : (t172 != 10) = false := bne_eq_false_iff_eq.mpr c25
                            clear c25
                            obtain rfl := Option.some.inj H
                            go_enter Try.func9, Try.ntmps9
                            go_wp2_with (first | ((with_reducible refine gate_dst (N := 17) rfl ?_); (try (refine gate_guard (by rfl) ?_; dsimp only)); refine Kd.R_lit (Kd.int .u64) _ 24 ?hg (N := 17) ?hd (xs := ([5, 300, 0] : List Int)) (inner := [.int .u64 5, .int .u64 300, .int .u64 0]) (ok := fun _ => True) (okp := fun _ => True) ?hr ?hp (fun _ hk => hk) trivial (Below.refl _ _) (Nat.le_refl _) (by simp) ?_; (case hd => rfl); (case hg => rfl); (case hr => first | (go_simp; done) | (go_simp; rfl)); (case hp => exact (Reps.one (show Kd.M (Kd.int .u64) _ _ _ 5 [.int .u64 5] from rfl) (Reps.one (show Kd.M (Kd.int .u64) _ _ _ 300 [.int .u64 300] from rfl) (Reps.one (show Kd.M (Kd.int .u64) _ _ _ 0 [.int .u64 0] from rfl) (Reps.none _ _))))); intro v139 w26 ho27 hb hg_ hnew_; clear hg_ hnew_; (first | rw [← Ny138.out] at ho27 | (simp only [Int.reduceToNat] at ho27; rw [← Ny138.out] at ho27)); have n0_ := Aside0.mk (Kd.R_lower ho27 (below_size (by repeat (first | (with_reducible first | exact HB.out | apply below_alloc | apply pw_below_drewN | apply below_drew1) | exact HB.out)))); have n1_ := Aside0.mk (below_step (by repeat (first | (with_reducible first | exact HB.out | apply below_alloc | apply pw_below_drewN | apply below_drew1) | exact HB.out)) hb); clear HB; have HO140 := n0_; have HB := n1_; clear n0_ n1_; clear hb ho27; obtain ⟨Ao28, co28, eo28⟩ := Kd.R_slice HO140.out; subst eo28) | ((with_reducible refine gate_callee (f := 18) rfl ?_); refine goesL_ (some 18) rfl rfl Try.func18 (by kernel_rfl) rfl #[.string (⟨#[120]⟩ : ByteArray), .slice Ao28 y138.length co28] rfl (by (try simp only [List.map_toArray, List.map_cons, List.map_nil]); first | done | rfl | (simp only [List.length_drop, List.length_take]; rfl)) ?_; (with_reducible refine (pack_Put.calls (⟨#[120]⟩ : ByteArray) _ _ y138 t141 _ ?side1 ?side2 A1.out).mono ?_); (case side1 => repeat (first | exact (Kd.R_reads' HO140.out).2.2 | (with_reducible refine Kd.C_alloc ?_ _) | (with_reducible refine Kd.C_drewN ?_ _) | (with_reducible refine Kd.C_drew ?_))); (case side2 => exact (Kd.R_reads' HO140.out).2.1); rintro e w29 ⟨rfl, hb⟩; refine ⟨_, rfl, ?_⟩; have n0_ := Aside0.mk (Kd.R_below (by (with_reducible repeat (first | apply Kd.R_alloc | apply Kd.R_drewN | apply Kd.R_drew)); exact HO140.out) hb); have n1_ := Aside0.mk (below_step (by repeat (first | (with_reducible first | exact HB.out | apply below_alloc | apply pw_below_drewN | apply below_drew1) | exact HB.out)) hb); clear HO140; clear HB; have HO140 := n0_; have HB := n1_; clear n0_ n1_; (try clear hb); (try clear hb2); (try clear hk); (try clear hi)) | ((with_reducible refine gate_callee (f := 11) rfl ?_); refine goesL_ (some 20) rfl rfl Try.func11 (by kernel_rfl) rfl #[.string (⟨#[172, 2, 121]⟩ : ByteArray)] rfl (by (try simp only [List.map_toArray, List.map_cons, List.map_nil]); first | done | rfl | (simp only [List.length_drop, List.length_take]; rfl)) ?_; (with_reducible refine (pack_Take.calls k (⟨#[172, 2, 121]⟩ : ByteArray) t142 t143 t144 _ A2.out).mono ?_); rintro e w30 ⟨rfl, hb⟩; refine ⟨_, rfl, ?_⟩; have n0_ := Aside0.mk (Kd.R_below (by (with_reducible repeat (first | apply Kd.R_alloc | apply Kd.R_drewN | apply Kd.R_drew)); exact HO140.out) hb); have n1_ := Aside0.mk (below_step (by repeat (first | (with_reducible first | exact HB.out | apply below_alloc | apply pw_below_drewN | apply below_drew1) | exact HB.out)) hb); clear HO140; clear HB; have HO140 := n0_; have HB := n1_; clear n0_ n1_; (try clear hb); (try clear hb2); (try clear hk); (try clear hi)) | ((with_reducible refine gate_callee (f := 11) rfl ?_); refine goesL_ (some 25) rfl rfl Try.func11 (by kernel_rfl) rfl #[.string (⟨#[128, 0]⟩ : ByteArray)] rfl (by (try simp only [List.map_toArray, List.map_cons, List.map_nil]); first | done | rfl | (simp only [List.length_drop, List.length_take]; rfl)) ?_; (with_reducible refine (pack_Take.calls k (⟨#[128, 0]⟩ : ByteArray) t145 t146 t147 _ A3.out).mono ?_); rintro e w31 ⟨rfl, hb⟩; refine ⟨_, rfl, ?_⟩; have n0_ := Aside0.mk (Kd.R_below (by (with_reducible repeat (first | apply Kd.R_alloc | apply Kd.R_drewN | apply Kd.R_drew)); exact HO140.out) hb); have n1_ := Aside0.mk (below_step (by repeat (first | (with_reducible first | exact HB.out | apply below_alloc | apply pw_below_drewN | apply below_drew1) | exact HB.out)) hb); clear HO140; clear HB; have HO140 := n0_; have HB := n1_; clear n0_ n1_; (try clear hb); (try clear hb2); (try clear hk); (try clear hi)) | ((with_reducible refine gate_callee (f := 20) rfl ?_); refine goesL_ (some 30) rfl rfl Try.func20 (by kernel_rfl) rfl #[.string (⟨#[]⟩ : ByteArray), .string (⟨#[97, 98]⟩ : ByteArray)] rfl (by (try simp only [List.map_toArray, List.map_cons, List.map_nil]); first | done | rfl | (simp only [List.length_drop, List.length_take]; rfl)) ?_; (with_reducible refine (pack_Text.calls (⟨#[]⟩ : ByteArray) (⟨#[97, 98]⟩ : ByteArray) t148 _ A4.out).mono ?_); rintro e w32 ⟨rfl, hb⟩; refine ⟨_, rfl, ?_⟩; have n0_ := Aside0.mk (Kd.R_below (by (with_reducible repeat (first | apply Kd.R_alloc | apply Kd.R_drewN | apply Kd.R_drew)); exact HO140.out) hb); have n1_ := Aside0.mk (below_step (by repeat (first | (with_reducible first | exact HB.out | apply below_alloc | apply pw_below_drewN | apply below_drew1) | exact HB.out)) hb); clear HO140; clear HB; have HO140 := n0_; have HB := n1_; clear n0_ n1_; (try clear hb); (try clear hb2); (try clear hk); (try clear hi)) | ((with_reducible refine gate_callee (f := 13) rfl ?_); refine goesL_ (some 31) rfl rfl Try.func13 (by kernel_rfl) rfl #[.string t148] rfl (by (try simp only [List.map_toArray, List.map_cons, List.map_nil]); first | done | rfl | (simp only [List.length_drop, List.length_take]; rfl)) ?_; (with_reducible refine (pack_TakeText.calls k t148 t149 t150 t151 _ A5.out).mono ?_); rintro e w33 ⟨rfl, hb⟩; refine ⟨_, rfl, ?_⟩; have n0_ := Aside0.mk (Kd.R_below (by (with_reducible repeat (first | apply Kd.R_alloc | apply Kd.R_drewN | apply Kd.R_drew)); exact HO140.out) hb); have n1_ := Aside0.mk (below_step (by repeat (first | (with_reducible first | exact HB.out | apply below_alloc | apply pw_below_drewN | apply below_drew1) | exact HB.out)) hb); clear HO140; clear HB; have HO140 := n0_; have HB := n1_; clear n0_ n1_; (try clear hb); (try clear hb2); (try clear hk); (try clear hi)) | ((with_reducible refine gate_dst (N := 36) rfl ?_); (try (refine gate_guard (by rfl) ?_; dsimp only)); refine Kd.R_lit Kd.string _ 9 ?hg (N := 36) ?hd (xs := ([(⟨#[97]⟩ : ByteArray), (⟨#[]⟩ : ByteArray)] : List ByteArray)) (inner := [.string (⟨#[97]⟩ : ByteArray), .string (⟨#[]⟩ : ByteArray)]) (ok := fun _ => True) (okp := fun _ => True) ?hr ?hp (fun _ hk => hk) trivial (Below.refl _ _) (Nat.le_refl _) (by simp) ?_; (case hd => rfl); (case hg => rfl); (case hr => first | (go_simp; done) | (go_simp; rfl)); (case hp => exact (Reps.one (show Kd.M Kd.string _ _ _ (⟨#[97]⟩ : ByteArray) [.string (⟨#[97]⟩ : ByteArray)] from rfl) (Reps.one (show Kd.M Kd.string _ _ _ (⟨#[]⟩ : ByteArray) [.string (⟨#[]⟩ : ByteArray)] from rfl) (Reps.none _ _)))); intro v153 w34 ho35 hb hg_ hnew_; clear hg_ hnew_; (first | rw [← Ny152.out] at ho35 | (simp only [Int.reduceToNat] at ho35; rw [← Ny152.out] at ho35)); have n0_ := Aside0.mk (Kd.R_below (by (with_reducible repeat (first | apply Kd.R_alloc | apply Kd.R_drewN | apply Kd.R_drew)); exact HO140.out) hb); have n1_ := Aside0.mk (Kd.R_lower ho35 (below_size (by repeat (first | (with_reducible first | exact HB.out | apply below_alloc | apply pw_below_drewN | apply below_drew1) | exact HB.out)))); have n2_ := Aside0.mk (below_step (by repeat (first | (with_reducible first | exact HB.out | apply below_alloc | apply pw_below_drewN | apply below_drew1) | exact HB.out)) hb); clear HO140; clear HB; have HO140 := n0_; have HO154 := n1_; have HB := n2_; clear n0_ n1_ n2_; clear hb ho35; obtain ⟨Ao36, co36, eo36⟩ := Kd.R_slice HO154.out; subst eo36) | ((with_reducible refine gate_callee (f := 22) rfl ?_); refine goesL_ (some 37) rfl rfl Try.func22 (by kernel_rfl) rfl #[.string (⟨#[]⟩ : ByteArray), .slice Ao36 y152.length co36] rfl (by (try simp only [List.map_toArray, List.map_cons, List.map_nil]); first | done | rfl | (simp only [List.length_drop, List.length_take]; rfl)) ?_; (with_reducible refine (pack_Texts.calls k (⟨#[]⟩ : ByteArray) _ _ y152 t155 _ ?side1 ?side2 A6.out).mono ?_); (case side1 => repeat (first | exact (Kd.R_reads' HO154.out).2.2 | (with_reducible refine Kd.C_alloc ?_ _) | (with_reducible refine Kd.C_drewN ?_ _) | (with_reducible refine Kd.C_drew ?_))); (case side2 => exact (Kd.R_reads' HO154.out).2.1); rintro e w37 ⟨rfl, hb⟩; refine ⟨_, rfl, ?_⟩; have n0_ := Aside0.mk (Kd.R_below (by (with_reducible repeat (first | apply Kd.R_alloc | apply Kd.R_drewN | apply Kd.R_drew)); exact HO140.out) hb); have n1_ := Aside0.mk (Kd.R_below (by (with_reducible repeat (first | apply Kd.R_alloc | apply Kd.R_drewN | apply Kd.R_drew)); exact HO154.out) hb); have n2_ := Aside0.mk (below_step (by repeat (first | (with_reducible first | exact HB.out | apply below_alloc | apply pw_below_drewN | apply below_drew1) | exact HB.out)) hb); clear HO140; clear HO154; clear HB; have HO140 := n0_; have HO154 := n1_; have HB := n2_; clear n0_ n1_ n2_; (try clear hb); (try clear hb2); (try clear hk); (try clear hi)) | ((with_reducible refine gate_callee (f := 15) rfl ?_); refine goesL_ (some 38) rfl rfl Try.func15 (by kernel_rfl) rfl #[.string t155] rfl (by (try simp only [List.map_toArray, List.map_cons, List.map_nil]); first | done | rfl | (simp only [List.length_drop, List.length_take]; rfl)) ?_; (with_reducible refine (pack_TakeTexts.calls k t155 t156 t157 t158 _ A7.out).mono ?_); rintro e w38 ⟨v159, rfl, ho0, hb⟩; refine ⟨_, rfl, ?_⟩; have n0_ := Aside0.mk (Kd.R_below (by (with_reducible repeat (first | apply Kd.R_alloc | apply Kd.R_drewN | apply Kd.R_drew)); exact HO140.out) hb); have n1_ := Aside0.mk (Kd.R_elder' (by (with_reducible repeat (first | apply Kd.R_alloc | apply Kd.R_drewN | apply Kd.R_drew)); exact HO154.out) (Kd.R_base ho0) hb); have n2_ := Aside0.mk (Kd.R_lower (Kd.R_new' ho0 (Kd.R_lt (by (with_reducible repeat (first | apply Kd.R_alloc | apply Kd.R_drewN | apply Kd.R_drew)); exact HO154.out))) (below_size (by repeat (first | (with_reducible first | exact HB.out | apply below_alloc | apply pw_below_drewN | apply below_drew1) | exact HB.out)))); have n3_ := Aside0.mk (below_step (by repeat (first | (with_reducible first | exact HB.out | apply below_alloc | apply pw_below_drewN | apply below_drew1) | exact HB.out)) hb); clear HO140; clear HO154; clear HB; have HO140 := n0_; have HO154 := n1_; have HO160 := n2_; have HB := n3_; clear n0_ n1_ n2_ n3_; (try clear hb); (try clear hb2); (try clear hk); (try clear hi); (try clear ho0)) | ((with_reducible refine gate_callee (f := 15) rfl ?_); refine goesL_ (some 43) rfl rfl Try.func15 (by kernel_rfl) rfl #[.string (⟨#[2, 0]⟩ : ByteArray)] rfl (by (try simp only [List.map_toArray, List.map_cons, List.map_nil]); first | done | rfl | (simp only [List.length_drop, List.length_take]; rfl)) ?_; (with_reducible refine (pack_TakeTexts.calls k (⟨#[2, 0]⟩ : ByteArray) t161 t162 t163 _ A8.out).mono ?_); rintro e w39 ⟨v164, rfl, ho0, hb⟩; refine ⟨_, rfl, ?_⟩; have n0_ := Aside0.mk (Kd.R_below (by (with_reducible repeat (first | apply Kd.R_alloc | apply Kd.R_drewN | apply Kd.R_drew)); exact HO140.out) hb); have n1_ := Aside0.mk (Kd.R_elder' (by (with_reducible repeat (first | apply Kd.R_alloc | apply Kd.R_drewN | apply Kd.R_drew)); exact HO154.out) (Kd.R_base ho0) hb); have n2_ := Aside0.mk (Kd.R_elder' (by (with_reducible repeat (first | apply Kd.R_alloc | apply Kd.R_drewN | apply Kd.R_drew)); exact HO160.out) (Kd.R_base ho0) hb); have n3_ := Aside0.mk (Kd.R_lower (Kd.R_new' (Kd.R_new' ho0 (Kd.R_lt (by (with_reducible repeat (first | apply Kd.R_alloc | apply Kd.R_drewN | apply Kd.R_drew)); exact HO154.out))) (Kd.R_lt (by (with_reducible repeat (first | apply Kd.R_alloc | apply Kd.R_drewN | apply Kd.R_drew)); exact HO160.out))) (below_size (by repeat (first | (with_reducible first | exact HB.out | apply below_alloc | apply pw_below_drewN | apply below_drew1) | exact HB.out)))); have n4_ := Aside0.mk (below_step (by repeat (first | (with_reducible first | exact HB.out | apply below_alloc | apply pw_below_drewN | apply below_drew1) | exact HB.out)) hb); clear HO140; clear HO154; clear HO160; clear HB; have HO140 := n0_; have HO154 := n1_; have HO160 := n2_; have HO165 := n3_; have HB := n4_; clear n0_ n1_ n2_ n3_ n4_; (try clear hb); (try clear hb2); (try clear hk); (try clear hi); (try clear ho0)) | ((with_reducible refine gate_dst (N := 75) rfl ?_); (try (refine gate_guard (by rfl) ?_; dsimp only)); refine Kd.R_lit Kd.string _ 9 ?hg (N := 75) ?hd (xs := ([(⟨#[97]⟩ : ByteArray), (⟨#[]⟩ : ByteArray)] : List ByteArray)) (inner := [.string (⟨#[97]⟩ : ByteArray), .string (⟨#[]⟩ : ByteArray)]) (ok := fun _ => True) (okp := fun _ => True) ?hr ?hp (fun _ hk => hk) trivial (Below.refl _ _) (Nat.le_refl _) (by simp) ?_; (case hd => rfl); (case hg => rfl); (case hr => first | (go_simp; done) | (go_simp; rfl)); (case hp => exact (Reps.one (show Kd.M Kd.string _ _ _ (⟨#[97]⟩ : ByteArray) [.string (⟨#[97]⟩ : ByteArray)] from rfl) (Reps.one (show Kd.M Kd.string _ _ _ (⟨#[]⟩ : ByteArray) [.string (⟨#[]⟩ : ByteArray)] from rfl) (Reps.none _ _)))); intro v167 w40 ho41 hb hg_ hnew_; clear hg_ hnew_; (first | rw [← Ny166.out] at ho41 | (simp only [Int.reduceToNat] at ho41; rw [← Ny166.out] at ho41)); have n0_ := Aside0.mk (Kd.R_below (by (with_reducible repeat (first | apply Kd.R_alloc | apply Kd.R_drewN | apply Kd.R_drew)); exact HO140.out) hb); have n1_ := Aside0.mk (Kd.R_elder' (by (with_reducible repeat (first | apply Kd.R_alloc | apply Kd.R_drewN | apply Kd.R_drew)); exact HO154.out) (Kd.R_base ho41) hb); have n2_ := Aside0.mk (Kd.R_elder' (by (with_reducible repeat (first | apply Kd.R_alloc | apply Kd.R_drewN | apply Kd.R_drew)); exact HO160.out) (Kd.R_base ho41) hb); have n3_ := Aside0.mk (Kd.R_elder' (by (with_reducible repeat (first | apply Kd.R_alloc | apply Kd.R_drewN | apply Kd.R_drew)); exact HO165.out) (Kd.R_base ho41) hb); have n4_ := Aside0.mk (Kd.R_lower (Kd.R_new' (Kd.R_new' (Kd.R_new' ho41 (Kd.R_lt (by (with_reducible repeat (first | apply Kd.R_alloc | apply Kd.R_drewN | apply Kd.R_drew)); exact HO154.out))) (Kd.R_lt (by (with_reducible repeat (first | apply Kd.R_alloc | apply Kd.R_drewN | apply Kd.R_drew)); exact HO160.out))) (Kd.R_lt (by (with_reducible repeat (first | apply Kd.R_alloc | apply Kd.R_drewN | apply Kd.R_drew)); exact HO165.out))) (below_size (by repeat (first | (with_reducible first | exact HB.out | apply below_alloc | apply pw_below_drewN | apply below_drew1) | exact HB.out)))); have n5_ := Aside0.mk (below_step (by repeat (first | (with_reducible first | exact HB.out | apply below_alloc | apply pw_below_drewN | apply below_drew1) | exact HB.out)) hb); clear HO140; clear HO154; clear HO160; clear HO165; clear HB; have HO140 := n0_; have HO154 := n1_; have HO160 := n2_; have HO165 := n3_; have HO168 := n4_; have HB := n5_; clear n0_ n1_ n2_ n3_ n4_ n5_; clear hb ho41; obtain ⟨Ao42, co42, eo42⟩ := Kd.R_slice HO160.out; subst eo42; obtain ⟨Ao43, co43, eo43⟩ := Kd.R_slice HO168.out; subst eo43) | (go_at_call 17; (with_reducible refine (linhayref07_Same.calls k _ _ t156 _ _ y166 true _ ?side1 ?side2 ?side3 ?side4 A16.out).mono ?_); (case side1 => repeat (first | exact (Kd.R_reads' HO160.out).2.2 | (with_reducible refine Kd.C_alloc ?_ _) | (with_reducible refine Kd.C_drewN ?_ _) | (with_reducible refine Kd.C_drew ?_))); (case side2 => exact (Kd.R_reads' HO160.out).2.1); (case side3 => repeat (first | exact (Kd.R_reads' HO168.out).2.2 | (with_reducible refine Kd.C_alloc ?_ _) | (with_reducible refine Kd.C_drewN ?_ _) | (with_reducible refine Kd.C_drew ?_))); (case side4 => exact (Kd.R_reads' HO168.out).2.1); rintro e w' ⟨rfl, ⟨nd, rfl⟩⟩) | (go_at_call 24; (with_reducible refine (pack_Size.calls 127 t170 _ A20.out).mono ?_); rintro e w' ⟨rfl, ⟨nd, rfl⟩⟩) | (go_at_call 24; (with_reducible refine (pack_Size.calls 128 t171 _ A22.out).mono ?_); rintro e w' ⟨rfl, ⟨nd, rfl⟩⟩) | (go_at_call 24; (with_reducible refine (pack_Size.calls 18446744073709551615 t172 _ A24.out).mono ?_); rintro e w' ⟨rfl, ⟨nd, rfl⟩⟩) | (go_at_call 18; (with_reducible refine (pack_Put.calls (⟨#[120]⟩ : ByteArray) _ _ y138 t141 _ ?side1 ?side2 A1.out).mono ?_); (case side1 => repeat (first | exact (Kd.R_reads' HO140.out).2.2 | (with_reducible refine Kd.C_alloc ?_ _) | (with_reducible refine Kd.C_drewN ?_ _) | (with_reducible refine Kd.C_drew ?_))); (case side2 => exact (Kd.R_reads' HO140.out).2.1); rintro e w29 ⟨rfl, hb⟩; have n0_ := Aside0.mk (Kd.R_below (by (with_reducible repeat (first | apply Kd.R_alloc | apply Kd.R_drewN | apply Kd.R_drew)); exact HO140.out) hb); have n1_ := Aside0.mk (below_step (by repeat (first | (with_reducible first | exact HB.out | apply below_alloc | apply pw_below_drewN | apply below_drew1) | exact HB.out)) hb); clear HO140; clear HB; have HO140 := n0_; have HB := n1_; clear n0_ n1_; (try clear hb); (try clear hb2); (try clear hk); (try clear hi)) | (go_at_call 11; (with_reducible refine (pack_Take.calls k (⟨#[172, 2, 121]⟩ : ByteArray) t142 t143 t144 _ A2.out).mono ?_); rintro e w30 ⟨rfl, hb⟩; have n0_ := Aside0.mk (Kd.R_below (by (with_reducible repeat (first | apply Kd.R_alloc | apply Kd.R_drewN | apply Kd.R_drew)); exact HO140.out) hb); have n1_ := Aside0.mk (below_step (by repeat (first | (with_reducible first | exact HB.out | apply below_alloc | apply pw_below_drewN | apply below_drew1) | exact HB.out)) hb); clear HO140; clear HB; have HO140 := n0_; have HB := n1_; clear n0_ n1_; (try clear hb); (try clear hb2); (try clear hk); (try clear hi)) | (go_at_call 11; (with_reducible refine (pack_Take.calls k (⟨#[128, 0]⟩ : ByteArray) t145 t146 t147 _ A3.out).mono ?_); rintro e w31 ⟨rfl, hb⟩; have n0_ := Aside0.mk (Kd.R_below (by (with_reducible repeat (first | apply Kd.R_alloc | apply Kd.R_drewN | apply Kd.R_drew)); exact HO140.out) hb); have n1_ := Aside0.mk (below_step (by repeat (first | (with_reducible first | exact HB.out | apply below_alloc | apply pw_below_drewN | apply below_drew1) | exact HB.out)) hb); clear HO140; clear HB; have HO140 := n0_; have HB := n1_; clear n0_ n1_; (try clear hb); (try clear hb2); (try clear hk); (try clear hi)) | (go_at_call 20; (with_reducible refine (pack_Text.calls (⟨#[]⟩ : ByteArray) (⟨#[97, 98]⟩ : ByteArray) t148 _ A4.out).mono ?_); rintro e w32 ⟨rfl, hb⟩; have n0_ := Aside0.mk (Kd.R_below (by (with_reducible repeat (first | apply Kd.R_alloc | apply Kd.R_drewN | apply Kd.R_drew)); exact HO140.out) hb); have n1_ := Aside0.mk (below_step (by repeat (first | (with_reducible first | exact HB.out | apply below_alloc | apply pw_below_drewN | apply below_drew1) | exact HB.out)) hb); clear HO140; clear HB; have HO140 := n0_; have HB := n1_; clear n0_ n1_; (try clear hb); (try clear hb2); (try clear hk); (try clear hi)) | (go_at_call 13; (with_reducible refine (pack_TakeText.calls k t148 t149 t150 t151 _ A5.out).mono ?_); rintro e w33 ⟨rfl, hb⟩; have n0_ := Aside0.mk (Kd.R_below (by (with_reducible repeat (first | apply Kd.R_alloc | apply Kd.R_drewN | apply Kd.R_drew)); exact HO140.out) hb); have n1_ := Aside0.mk (below_step (by repeat (first | (with_reducible first | exact HB.out | apply below_alloc | apply pw_below_drewN | apply below_drew1) | exact HB.out)) hb); clear HO140; clear HB; have HO140 := n0_; have HB := n1_; clear n0_ n1_; (try clear hb); (try clear hb2); (try clear hk); (try clear hi)) | (go_at_call 22; (with_reducible refine (pack_Texts.calls k (⟨#[]⟩ : ByteArray) _ _ y152 t155 _ ?side1 ?side2 A6.out).mono ?_); (case side1 => repeat (first | exact (Kd.R_reads' HO154.out).2.2 | (with_reducible refine Kd.C_alloc ?_ _) | (with_reducible refine Kd.C_drewN ?_ _) | (with_reducible refine Kd.C_drew ?_))); (case side2 => exact (Kd.R_reads' HO154.out).2.1); rintro e w37 ⟨rfl, hb⟩; have n0_ := Aside0.mk (Kd.R_below (by (with_reducible repeat (first | apply Kd.R_alloc | apply Kd.R_drewN | apply Kd.R_drew)); exact HO140.out) hb); have n1_ := Aside0.mk (Kd.R_below (by (with_reducible repeat (first | apply Kd.R_alloc | apply Kd.R_drewN | apply Kd.R_drew)); exact HO154.out) hb); have n2_ := Aside0.mk (below_step (by repeat (first | (with_reducible first | exact HB.out | apply below_alloc | apply pw_below_drewN | apply below_drew1) | exact HB.out)) hb); clear HO140; clear HO154; clear HB; have HO140 := n0_; have HO154 := n1_; have HB := n2_; clear n0_ n1_ n2_; (try clear hb); (try clear hb2); (try clear hk); (try clear hi)) | (go_at_call 15; (with_reducible refine (pack_TakeTexts.calls k t155 t156 t157 t158 _ A7.out).mono ?_); rintro e w38 ⟨v159, rfl, ho0, hb⟩; have n0_ := Aside0.mk (Kd.R_below (by (with_reducible repeat (first | apply Kd.R_alloc | apply Kd.R_drewN | apply Kd.R_drew)); exact HO140.out) hb); have n1_ := Aside0.mk (Kd.R_elder' (by (with_reducible repeat (first | apply Kd.R_alloc | apply Kd.R_drewN | apply Kd.R_drew)); exact HO154.out) (Kd.R_base ho0) hb); have n2_ := Aside0.mk (Kd.R_lower (Kd.R_new' ho0 (Kd.R_lt (by (with_reducible repeat (first | apply Kd.R_alloc | apply Kd.R_drewN | apply Kd.R_drew)); exact HO154.out))) (below_size (by repeat (first | (with_reducible first | exact HB.out | apply below_alloc | apply pw_below_drewN | apply below_drew1) | exact HB.out)))); have n3_ := Aside0.mk (below_step (by repeat (first | (with_reducible first | exact HB.out | apply below_alloc | apply pw_below_drewN | apply below_drew1) | exact HB.out)) hb); clear HO140; clear HO154; clear HB; have HO140 := n0_; have HO154 := n1_; have HO160 := n2_; have HB := n3_; clear n0_ n1_ n2_ n3_; (try clear hb); (try clear hb2); (try clear hk); (try clear hi); (try clear ho0)) | (go_at_call 15; (with_reducible refine (pack_TakeTexts.calls k (⟨#[2, 0]⟩ : ByteArray) t161 t162 t163 _ A8.out).mono ?_); rintro e w39 ⟨v164, rfl, ho0, hb⟩; have n0_ := Aside0.mk (Kd.R_below (by (with_reducible repeat (first | apply Kd.R_alloc | apply Kd.R_drewN | apply Kd.R_drew)); exact HO140.out) hb); have n1_ := Aside0.mk (Kd.R_elder' (by (with_reducible repeat (first | apply Kd.R_alloc | apply Kd.R_drewN | apply Kd.R_drew)); exact HO154.out) (Kd.R_base ho0) hb); have n2_ := Aside0.mk (Kd.R_elder' (by (with_reducible repeat (first | apply Kd.R_alloc | apply Kd.R_drewN | apply Kd.R_drew)); exact HO160.out) (Kd.R_base ho0) hb); have n3_ := Aside0.mk (Kd.R_lower (Kd.R_new' (Kd.R_new' ho0 (Kd.R_lt (by (with_reducible repeat (first | apply Kd.R_alloc | apply Kd.R_drewN | apply Kd.R_drew)); exact HO154.out))) (Kd.R_lt (by (with_reducible repeat (first | apply Kd.R_alloc | apply Kd.R_drewN | apply Kd.R_drew)); exact HO160.out))) (below_size (by repeat (first | (with_reducible first | exact HB.out | apply below_alloc | apply pw_below_drewN | apply below_drew1) | exact HB.out)))); have n4_ := Aside0.mk (below_step (by repeat (first | (with_reducible first | exact HB.out | apply below_alloc | apply pw_below_drewN | apply below_drew1) | exact HB.out)) hb); clear HO140; clear HO154; clear HO160; clear HB; have HO140 := n0_; have HO154 := n1_; have HO160 := n2_; have HO165 := n3_; have HB := n4_; clear n0_ n1_ n2_ n3_ n4_; (try clear hb); (try clear hb2); (try clear hk); (try clear hi); (try clear ho0)))
                            go_ret
                            exact ⟨by first | rfl | (simp [errW_none, errW_some] <;> rfl) | (simp [*, errW_none, errW_some] <;> rfl), by repeat (first | (with_reducible first | exact HB.out | apply below_alloc | apply pw_below_drewN | apply below_drew1) | exact HB.out)⟩
                          · rw [if_neg c25] at H
                            exact absurd H (by simp)
                        · rw [if_neg c23] at H
                          exact absurd H (by simp)
                      · rw [if_neg c21] at H
                        exact absurd H (by simp)
                    · rw [if_neg c19] at H
                      exact absurd H (by simp)
                  · rw [if_neg c18] at H
                    exact absurd H (by simp)
                · replace c17 := Bool.eq_false_iff.mpr c17
                  subst c17
                  have H1 : (none) = some r := by rw [if_neg (show ¬ (false = true) by decide)] at H; exact H
                  clear H
                  have H := H1
                  clear H1
                  exact absurd H (by simp)
              · rw [if_neg c15] at H
                exact absurd H (by simp)
            · rw [if_neg c14] at H
              exact absurd H (by simp)
          · rw [if_neg c13] at H
            exact absurd H (by simp)
        · rw [if_neg c12] at H
          exact absurd H (by simp)
      · rw [if_neg c11] at H
        exact absurd H (by simp)
    · rw [if_neg c10] at H
      exact absurd H (by simp)
  · rw [if_neg c9] at H
    exact absurd H (by simp)

/-! ### linhayref07_Few: function 10 -/
def linhayref07_Few.l0 : Nat → List ByteArray → Int → Int → Option (Bool)
  | 0, _, _, _ => none
  | k + 1, x0, x1, x5 => if x5 < (x0.length : Int) then (if 0 ≤ x5 then (if ((rdOf ByteArray.empty x0 x5).size : Int) > 1000 then (some false) else (linhayref07_Few.l0 k x0 x1 (wrap64 (x5 + 1)))) else (none)) else (some (decide ((x0.length : Int) ≤ x1)))
def linhayref07_Few.f (k : Nat) (l0 : List ByteArray) (a1 : Int) : Option (Bool) := linhayref07_Few.l0 k l0 a1 0
theorem linhayref07_Few.mono_l : ∀ k, (∀ y0 y1 y2, LeO (linhayref07_Few.l0 k y0 y1 y2) (linhayref07_Few.l0 (k + 1) y0 y1 y2))
  | 0 => fun _ _ _ r h => by simp [linhayref07_Few.l0] at h
  | k + 1 => by
    have ih0 := linhayref07_Few.mono_l k
    · intro y0 y1 y2
      unfold linhayref07_Few.l0
      repeat' first
      | (with_reducible exact ih0 _ _ _)
      | (with_reducible exact LeO.refl _)
      | (with_reducible exact LeO.none _)
      | (with_reducible refine LeO.ite ?_ ?_)
      | (with_reducible refine LeO.bind ?_ (fun _ => ?_))
      | exact ih0 _ _ _
      | exact LeO.none _
      | refine LeO.ite ?_ ?_
      | refine LeO.bind ?_ (fun _ => ?_)
theorem linhayref07_Few.mono : ∀ a0 a1 k, LeO (linhayref07_Few.f k a0 a1) (linhayref07_Few.f (k + 1) a0 a1) := by
  intro a0 a1 k
  have ih0 := linhayref07_Few.mono_l k
  unfold linhayref07_Few.f
  repeat' first
      | (with_reducible exact ih0 _ _ _)
      | (with_reducible exact LeO.refl _)
      | (with_reducible exact LeO.none _)
      | (with_reducible refine LeO.ite ?_ ?_)
      | (with_reducible refine LeO.bind ?_ (fun _ => ?_))
      | exact ih0 _ _ _
      | exact LeO.none _
      | refine LeO.ite ?_ ?_
      | refine LeO.bind ?_ (fun _ => ?_)
set_option maxHeartbeats 8000000 in
set_option maxRecDepth 100000 in
theorem linhayref07_Few.calls (k : Nat) (A0 : Option Addr) (c0 : Nat) (l0 : List ByteArray) (a1 : Int) (r : Bool) (w : World) (hr0 : Kd.C Kd.string w A0 l0.length l0) (hc0 : l0.length ≤ c0) (h : linhayref07_Few.f k l0 a1 = some r) :
    Calls Try.prog 10 #[.slice A0 l0.length c0, .int .i64 a1] w fun e w' => e = .returned (.bool r) ∧ Drawn0 w w' := by
  have HR0 := Aside0.mk hr0
  have HC0 := Aside0.mk hc0
  clear hr0 hc0
  have H : (linhayref07_Few.l0 k l0 a1 0) = some r := h
  clear h
  have H' := Aside0.mk H
  clear H
  go_enter Try.func10, Try.ntmps10
  go_wp2
  go_loopg [5] k (fun kq v5 w' => ∃ (x5_1 : Int), v5 = .int .i64 x5_1 ∧ Aside0 (linhayref07_Few.l0 kq l0 a1 x5_1 = some r) ∧ Aside0 (kq ≤ k) ∧ Drawn0 w w')
  case atStart => exact ⟨(0), (by first | rfl | (simp; done) | (simp [*]; done)), H', ⟨Nat.le_refl _⟩, by repeat (first | exact Drawn0.refl _ | apply Drawn0.step)⟩
  case round =>
    clear H'
    try clear c1
    try clear p2
    obtain ⟨x5_1, rfl, HA, HK1, ⟨m1, rfl⟩⟩ := hrel
    cases gk with
    | zero => exact absurd HA.out (by simp [linhayref07_Few.l0])
    | succ k1 =>
      have H := HA.out
      clear HA
      simp only [linhayref07_Few.l0] at H
      by_cases c3 : x5_1 < (l0.length : Int)
      · rw [if_pos c3] at H
        have c3b0 : decide (x5_1 < (l0.length : Int)) = true := decide_eq_true c3
        clear c3
        by_cases c4 : 0 ≤ x5_1
        · rw [if_pos c4] at H
          have c4b0 : decide (0 ≤ x5_1) = true := decide_eq_true c4
          clear c4
          by_cases c5 : ((rdOf ByteArray.empty l0 x5_1).size : Int) > 1000
          · rw [if_pos c5] at H
            have c5b0 : decide (1000 < ((rdOf ByteArray.empty l0 x5_1).size : Int)) = true := decide_eq_true c5
            have c5b1 : decide (1000 < (rdOf ByteArray.empty l0 x5_1).size) = true := decide_eq_true (by omega)
            clear c5
            obtain rfl := Option.some.inj H
            have p173 : 0 ≤ (x5_1 : Int) := of_decide_eq_true (by first | (with_reducible assumption) | assumption)
            have q173 : x5_1 < (l0.length : Int) := of_decide_eq_true (by first | (with_reducible assumption) | assumption)
            obtain ⟨ad173, e173, hx173_0⟩ := Kd.at_string HR0.out x5_1 p173 q173
            cases e173
            replace p173 := eq_true p173
            replace q173 := eq_true q173
            go_wp2
            go_ret
            exact ⟨by first | rfl | (simp; done) | (simp [*]; done), by repeat (first | exact Drawn0.refl _ | apply Drawn0.step)⟩
          · rw [if_neg c5] at H
            have c5b0 : decide (1000 < ((rdOf ByteArray.empty l0 x5_1).size : Int)) = false := decide_eq_false c5
            have c5b1 : decide (1000 < (rdOf ByteArray.empty l0 x5_1).size) = false := decide_eq_false (by omega)
            clear c5
            have H' := Aside0.mk H
            clear H
            have p173 : 0 ≤ (x5_1 : Int) := of_decide_eq_true (by first | (with_reducible assumption) | assumption)
            have q173 : x5_1 < (l0.length : Int) := of_decide_eq_true (by first | (with_reducible assumption) | assumption)
            obtain ⟨ad173, e173, hx173_0⟩ := Kd.at_string HR0.out x5_1 p173 q173
            cases e173
            replace p173 := eq_true p173
            replace q173 := eq_true q173
            go_wp2
            go_roundg k1
            case measure => have := HK1.out; omega
            case rel => exact ⟨(wrap64 (x5_1 + 1)), (by first | rfl | (simp; done) | (simp [*]; done)), H', ⟨by have := HK1.out; omega⟩, by repeat (first | exact Drawn0.refl _ | apply Drawn0.step)⟩
        · rw [if_neg c4] at H
          exact absurd H (by simp)
      · rw [if_neg c3] at H
        have c3b0 : decide (x5_1 < (l0.length : Int)) = false := decide_eq_false c3
        clear c3
        obtain rfl := Option.some.inj H
        go_wp2
        go_ret
        exact ⟨by first | rfl | (simp; done) | (simp [*]; done), by repeat (first | exact Drawn0.refl _ | apply Drawn0.step)⟩

end Go.Proofs.Ytkfahdccacefiaa.Print
