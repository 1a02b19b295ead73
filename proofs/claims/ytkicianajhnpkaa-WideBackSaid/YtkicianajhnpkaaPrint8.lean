/- Lean functions that answer what Go functions of the translation answer, and the proofs of it. Written by a program of this session (wip/tools/seatprint.py), over contracts that it proved by hand. Conditions: those that each theorem says. -/
import Derived.Test.YtkicianajhnpkaaPrint0
import Derived.Test.YtkicianajhnpkaaPrint1
import Derived.Test.YtkicianajhnpkaaPrint2
import Derived.Test.YtkicianajhnpkaaPrint4
import Derived.Test.YtkicianajhnpkaaPrint6
import Derived.Test.YtkicianajhnpkaaPrint7
namespace Go.Proofs.Ytkicianajhnpkaa.Print
open Go.RowKit Go.Proofs.YtkicianajhnpkaaW.PrintWords Go.Proofs.YtkicianajhnpkaaW.PrintLast Go.Proofs.YtkicianajhnpkaaW.PrintMore
attribute [local go_sem] max2_int min2_int max_two min_two max_three min_three max_four min_four   -- for this text's walks alone
set_option linter.unusedVariables false
set_option linter.unusedSimpArgs false

attribute [local go_sem high] eqA24
/-! ### linhaylaw02_awake: function 9 -/
def linhaylaw02_awake.f (k : Nat)  : Option (Bool) := (wide_Of.f 2).bind fun bt125 => ((wide_Add.f 18446744073709551615 18446744073709551615 bt125.1 bt125.2).bind fun bt127 => ((wide_Of.f 1).bind fun bt131 => ((wide_Of.f 2).bind fun bt133 => ((wide_Sub.f bt131.1 bt131.2 bt133.1 bt133.2).bind fun bt135 => ((wide_Div.f k 3 7 2).bind fun bt139 => ((wide_Div.f k 18446744073709551615 18446744073709551615 0).bind fun bt144 => ((wide_Mul.f 9223372036854775808 6).bind fun bt149 => (if (bt149.1 == 3 && (bt149.2 == 0)) = true then ((wide_Of.f 1).bind fun bt151 => (if (bt127.1 == bt151.1 && (bt127.2.1 == bt151.2)) = true then (if bt127.2.2 = true then (if (bt135.1 == 18446744073709551615 && (bt135.2.1 == 18446744073709551615)) = true then (if bt135.2.2 = true then ((wide_Cmp.f k 18446744073709551615 18446744073709551615 bt127.1 bt127.2.1).bind fun t153 => (if t153 = 1 then ((wide_Cmp.f k bt127.1 bt127.2.1 bt127.1 bt127.2.1).bind fun t154 => (if t154 = 0 then ((wide_Cmp.f k bt127.1 bt127.2.1 bt135.1 bt135.2.1).bind fun t155 => (if t155 = (-1) then (if (bt139.1 == 1 && (bt139.2.1 == 9223372036854775811)) = true then (if bt139.2.2.1 = 1 then (if bt139.2.2.2 = 0 then (if bt144.2.2.2 = 20 then ((wide_Shr.f k 3 0 1).bind fun bt156 => (if (bt156.1 == 1 && (bt156.2 == 9223372036854775808)) = true then ((wide_Shr.f k 18446744073709551615 18446744073709551615 128).bind fun bt158 => (if (bt158.1 == 0 && (bt158.2 == 0)) = true then ((wide_Of.f 5).bind fun bt160 => (if (bt160.1 == 0 && (bt160.2 == 5)) = true then (some true) else (none))) else (none))) else (none))) else (none)) else (none)) else (none)) else (none)) else (none))) else (none))) else (none))) else (none)) else (none)) else (none)) else (none))) else (none)))))))))
theorem linhaylaw02_awake.mono : ∀ k, LeO (linhaylaw02_awake.f k ) (linhaylaw02_awake.f (k + 1) ) := by
  intro  k
  unfold linhaylaw02_awake.f
  repeat' first
      | (with_reducible exact wide_Cmp.mono _ _ _ _ _)
      | (with_reducible exact wide_Div.mono _ _ _ _)
      | (with_reducible exact wide_Shr.mono _ _ _ _)
      | (with_reducible exact LeO.refl _)
      | (with_reducible exact LeO.none _)
      | (with_reducible refine LeO.ite ?_ ?_)
      | (with_reducible refine LeO.bind ?_ (fun _ => ?_))
      | exact wide_Cmp.mono _ _ _ _ _
      | exact wide_Div.mono _ _ _ _
      | exact wide_Shr.mono _ _ _ _
      | exact LeO.none _
      | refine LeO.ite ?_ ?_
      | refine LeO.bind ?_ (fun _ => ?_)
def linhaylaw02_awake.T2 : Bool × List (List Nat × List Nat) := (true, [([], []), ([], []), ([0, 1, 1], [0, 1]), ([2], [2]), ([3], [3]), ([3], [3]), ([], []), ([6, 4, 2, 0, 1, 2, 3, 4, 6], [4, 6]), ([5, 7, 0, 1, 2, 3, 4, 5, 6, 7], [5])])
def linhaylaw02_awake.B2 : List Nat := [0, 0, 3, 7, 15, 15, 0, 95, 255]
theorem linhaylaw02_awake.tab2 : rtab .any (opsOf Try.f9 2) = linhaylaw02_awake.T2 := by kernel_rfl
theorem linhaylaw02_awake.bits2 : waitsOk linhaylaw02_awake.T2.2 linhaylaw02_awake.B2 = true := by kernel_rfl
def linhaylaw02_awake.T6 : Bool × List (List Nat × List Nat) := (true, [([], []), ([], []), ([0, 1], [0, 1]), ([2, 0], [2]), ([3], [3]), ([3, 3], [3]), ([4, 5, 3], [3, 4, 5]), ([3, 6], [3, 6]), ([7, 5], [7]), ([8], [8]), ([8, 9], [8, 9]), ([10, 8], [10]), ([11], [11]), ([11], [11]), ([12, 13, 11], [11, 12, 13]), ([11, 14], [11, 14]), ([15, 11], [15]), ([16], [16]), ([16, 17], [16, 17]), ([18, 16], [18]), ([19], [19]), ([19], [19]), ([20, 21, 19, 19], [19, 20, 21]), ([22, 19], [19, 22]), ([19, 23], [19, 23]), ([24, 22], [24]), ([25], [25]), ([25], [25]), ([26, 27, 25, 25], [25, 26, 27]), ([28, 25], [25, 28]), ([25, 29], [25, 29]), ([30, 28], [30]), ([31], [31]), ([31], [31]), ([32, 33, 31, 31], [31, 32, 33]), ([34, 31], [31, 34]), ([31, 35], [31, 35]), ([36, 34], [36]), ([37], [37]), ([37], [37]), ([38, 39, 37], [37, 38, 39]), ([37, 40], [37, 40]), ([41, 37], [41]), ([42], [42]), ([43, 42], [42, 43]), ([42, 44], [42, 44]), ([45, 42], [45]), ([46], [46]), ([47, 46], [46, 47]), ([46, 48], [46, 48]), ([49, 46], [49]), ([50], [50]), ([51, 50], [50, 51]), ([50, 52], [50, 52]), ([53, 50], [53]), ([54], [54]), ([55, 54, 54], [54, 55]), ([54], [54]), ([56, 57, 54], [54, 56, 57]), ([54, 58], [54, 58]), ([59, 56], [59]), ([60], [60]), ([61, 60, 60], [60, 61]), ([60], [60]), ([62, 63, 60], [60, 62, 63]), ([60, 64], [60, 64]), ([65, 62], [65]), ([66, 66], [66]), ([66], [66]), ([67, 68, 66], [66, 67, 68]), ([66, 69], [66, 69]), ([70, 67], [70]), ([71], [71]), ([72, 71, 0, 1, 2, 3, 4, 5, 6, 7, 8, 9, 10, 11, 12, 13, 14, 15, 16, 17, 18, 19, 20, 21, 22, 23, 24, 25, 26, 27, 28, 29, 30, 31, 32, 33, 34, 35, 36, 37, 38, 39, 40, 41, 42, 43, 44, 45, 46, 47, 48, 49, 50, 51, 52, 53, 54, 55, 56, 57, 58, 59, 60, 61, 62, 63, 64, 65, 66, 67, 68, 69, 70, 71, 72], [72])])
def linhaylaw02_awake.B6 : List Nat := [0, 0, 3, 7, 15, 15, 63, 127, 255, 511, 1023, 2047, 4095, 4095, 16383, 32767, 65535, 131071, 262143, 524287, 1048575, 1048575, 4194303, 8388607, 16777215, 33554431, 67108863, 67108863, 268435455, 536870911, 1073741823, 2147483647, 4294967295, 4294967295, 17179869183, 34359738367, 68719476735, 137438953471, 274877906943, 274877906943, 1099511627775, 2199023255551, 4398046511103, 8796093022207, 17592186044415, 35184372088831, 70368744177663, 140737488355327, 281474976710655, 562949953421311, 1125899906842623, 2251799813685247, 4503599627370495, 9007199254740991, 18014398509481983, 36028797018963967, 72057594037927935, 36028797018963967, 288230376151711743, 576460752303423487, 1152921504606846975, 2305843009213693951, 4611686018427387903, 2305843009213693951, 18446744073709551615, 36893488147419103231, 73786976294838206463, 147573952589676412927, 147573952589676412927, 590295810358705651711, 1180591620717411303423, 2361183241434822606847, 4722366482869645213695, 9444732965739290427391]
theorem linhaylaw02_awake.tab6 : rtab .any (opsOf Try.f9 6) = linhaylaw02_awake.T6 := by kernel_rfl
theorem linhaylaw02_awake.bits6 : waitsOk linhaylaw02_awake.T6.2 linhaylaw02_awake.B6 = true := by kernel_rfl
set_option maxHeartbeats 8000000 in
set_option maxRecDepth 100000 in
theorem linhaylaw02_awake.calls (k : Nat)  (r : Bool) (w : World) (h : linhaylaw02_awake.f k  = some r) :
    Calls Try.prog 9 #[] w fun e w' => e = .returned (.bool r) ∧ Below w.heap.size w w' := by
  have hu24 := Try.underlying24
  have HB := Aside0.mk (Below.refl w.heap.size w)
  have H : ((wide_Of.f 2).bind fun bt125 => ((wide_Add.f 18446744073709551615 18446744073709551615 bt125.1 bt125.2).bind fun bt127 => ((wide_Of.f 1).bind fun bt131 => ((wide_Of.f 2).bind fun bt133 => ((wide_Sub.f bt131.1 bt131.2 bt133.1 bt133.2).bind fun bt135 => ((wide_Div.f k 3 7 2).bind fun bt139 => ((wide_Div.f k 18446744073709551615 18446744073709551615 0).bind fun bt144 => ((wide_Mul.f 9223372036854775808 6).bind fun bt149 => (if (bt149.1 == 3 && (bt149.2 == 0)) = true then ((wide_Of.f 1).bind fun bt151 => (if (bt127.1 == bt151.1 && (bt127.2.1 == bt151.2)) = true then (if bt127.2.2 = true then (if (bt135.1 == 18446744073709551615 && (bt135.2.1 == 18446744073709551615)) = true then (if bt135.2.2 = true then ((wide_Cmp.f k 18446744073709551615 18446744073709551615 bt127.1 bt127.2.1).bind fun t153 => (if t153 = 1 then ((wide_Cmp.f k bt127.1 bt127.2.1 bt127.1 bt127.2.1).bind fun t154 => (if t154 = 0 then ((wide_Cmp.f k bt127.1 bt127.2.1 bt135.1 bt135.2.1).bind fun t155 => (if t155 = (-1) then (if (bt139.1 == 1 && (bt139.2.1 == 9223372036854775811)) = true then (if bt139.2.2.1 = 1 then (if bt139.2.2.2 = 0 then (if bt144.2.2.2 = 20 then ((wide_Shr.f k 3 0 1).bind fun bt156 => (if (bt156.1 == 1 && (bt156.2 == 9223372036854775808)) = true then ((wide_Shr.f k 18446744073709551615 18446744073709551615 128).bind fun bt158 => (if (bt158.1 == 0 && (bt158.2 == 0)) = true then ((wide_Of.f 5).bind fun bt160 => (if (bt160.1 == 0 && (bt160.2 == 5)) = true then (some true) else (none))) else (none))) else (none))) else (none)) else (none)) else (none)) else (none)) else (none))) else (none))) else (none))) else (none)) else (none)) else (none)) else (none))) else (none)))))))))) = some r := h
  clear h
  replace H := Option.bind_eq_some_iff.mp H
  obtain ⟨⟨t125, t126⟩, A10, H⟩ := H
  replace H : ((wide_Add.f 18446744073709551615 18446744073709551615 t125 t126).bind fun bt127 => ((wide_Of.f 1).bind fun bt131 => ((wide_Of.f 2).bind fun bt133 => ((wide_Sub.f bt131.1 bt131.2 bt133.1 bt133.2).bind fun bt135 => ((wide_Div.f k 3 7 2).bind fun bt139 => ((wide_Div.f k 18446744073709551615 18446744073709551615 0).bind fun bt144 => ((wide_Mul.f 9223372036854775808 6).bind fun bt149 => (if (bt149.1 == 3 && (bt149.2 == 0)) = true then ((wide_Of.f 1).bind fun bt151 => (if (bt127.1 == bt151.1 && (bt127.2.1 == bt151.2)) = true then (if bt127.2.2 = true then (if (bt135.1 == 18446744073709551615 && (bt135.2.1 == 18446744073709551615)) = true then (if bt135.2.2 = true then ((wide_Cmp.f k 18446744073709551615 18446744073709551615 bt127.1 bt127.2.1).bind fun t153 => (if t153 = 1 then ((wide_Cmp.f k bt127.1 bt127.2.1 bt127.1 bt127.2.1).bind fun t154 => (if t154 = 0 then ((wide_Cmp.f k bt127.1 bt127.2.1 bt135.1 bt135.2.1).bind fun t155 => (if t155 = (-1) then (if (bt139.1 == 1 && (bt139.2.1 == 9223372036854775811)) = true then (if bt139.2.2.1 = 1 then (if bt139.2.2.2 = 0 then (if bt144.2.2.2 = 20 then ((wide_Shr.f k 3 0 1).bind fun bt156 => (if (bt156.1 == 1 && (bt156.2 == 9223372036854775808)) = true then ((wide_Shr.f k 18446744073709551615 18446744073709551615 128).bind fun bt158 => (if (bt158.1 == 0 && (bt158.2 == 0)) = true then ((wide_Of.f 5).bind fun bt160 => (if (bt160.1 == 0 && (bt160.2 == 5)) = true then (some true) else (none))) else (none))) else (none))) else (none)) else (none)) else (none)) else (none)) else (none))) else (none))) else (none))) else (none)) else (none)) else (none)) else (none))) else (none))))))))) = some r := H
  have A1 := Aside0.mk A10
  clear A10
  replace H := Option.bind_eq_some_iff.mp H
  obtain ⟨⟨t127, t128, t129⟩, A20, H⟩ := H
  replace H : ((wide_Of.f 1).bind fun bt131 => ((wide_Of.f 2).bind fun bt133 => ((wide_Sub.f bt131.1 bt131.2 bt133.1 bt133.2).bind fun bt135 => ((wide_Div.f k 3 7 2).bind fun bt139 => ((wide_Div.f k 18446744073709551615 18446744073709551615 0).bind fun bt144 => ((wide_Mul.f 9223372036854775808 6).bind fun bt149 => (if (bt149.1 == 3 && (bt149.2 == 0)) = true then ((wide_Of.f 1).bind fun bt151 => (if (t127 == bt151.1 && (t128 == bt151.2)) = true then (if t129 = true then (if (bt135.1 == 18446744073709551615 && (bt135.2.1 == 18446744073709551615)) = true then (if bt135.2.2 = true then ((wide_Cmp.f k 18446744073709551615 18446744073709551615 t127 t128).bind fun t153 => (if t153 = 1 then ((wide_Cmp.f k t127 t128 t127 t128).bind fun t154 => (if t154 = 0 then ((wide_Cmp.f k t127 t128 bt135.1 bt135.2.1).bind fun t155 => (if t155 = (-1) then (if (bt139.1 == 1 && (bt139.2.1 == 9223372036854775811)) = true then (if bt139.2.2.1 = 1 then (if bt139.2.2.2 = 0 then (if bt144.2.2.2 = 20 then ((wide_Shr.f k 3 0 1).bind fun bt156 => (if (bt156.1 == 1 && (bt156.2 == 9223372036854775808)) = true then ((wide_Shr.f k 18446744073709551615 18446744073709551615 128).bind fun bt158 => (if (bt158.1 == 0 && (bt158.2 == 0)) = true then ((wide_Of.f 5).bind fun bt160 => (if (bt160.1 == 0 && (bt160.2 == 5)) = true then (some true) else (none))) else (none))) else (none))) else (none)) else (none)) else (none)) else (none)) else (none))) else (none))) else (none))) else (none)) else (none)) else (none)) else (none))) else (none)))))))) = some r := H
  have A2 := Aside0.mk A20
  clear A20
  replace H := Option.bind_eq_some_iff.mp H
  obtain ⟨⟨t131, t132⟩, A30, H⟩ := H
  replace H : ((wide_Of.f 2).bind fun bt133 => ((wide_Sub.f t131 t132 bt133.1 bt133.2).bind fun bt135 => ((wide_Div.f k 3 7 2).bind fun bt139 => ((wide_Div.f k 18446744073709551615 18446744073709551615 0).bind fun bt144 => ((wide_Mul.f 9223372036854775808 6).bind fun bt149 => (if (bt149.1 == 3 && (bt149.2 == 0)) = true then ((wide_Of.f 1).bind fun bt151 => (if (t127 == bt151.1 && (t128 == bt151.2)) = true then (if t129 = true then (if (bt135.1 == 18446744073709551615 && (bt135.2.1 == 18446744073709551615)) = true then (if bt135.2.2 = true then ((wide_Cmp.f k 18446744073709551615 18446744073709551615 t127 t128).bind fun t153 => (if t153 = 1 then ((wide_Cmp.f k t127 t128 t127 t128).bind fun t154 => (if t154 = 0 then ((wide_Cmp.f k t127 t128 bt135.1 bt135.2.1).bind fun t155 => (if t155 = (-1) then (if (bt139.1 == 1 && (bt139.2.1 == 9223372036854775811)) = true then (if bt139.2.2.1 = 1 then (if bt139.2.2.2 = 0 then (if bt144.2.2.2 = 20 then ((wide_Shr.f k 3 0 1).bind fun bt156 => (if (bt156.1 == 1 && (bt156.2 == 9223372036854775808)) = true then ((wide_Shr.f k 18446744073709551615 18446744073709551615 128).bind fun bt158 => (if (bt158.1 == 0 && (bt158.2 == 0)) = true then ((wide_Of.f 5).bind fun bt160 => (if (bt160.1 == 0 && (bt160.2 == 5)) = true then (some true) else (none))) else (none))) else (none))) else (none)) else (none)) else (none)) else (none)) else (none))) else (none))) else (none))) else (none)) else (none)) else (none)) else (none))) else (none))))))) = some r := H
  have A3 := Aside0.mk A30
  clear A30
  replace H := Option.bind_eq_some_iff.mp H
  obtain ⟨⟨t133, t134⟩, A40, H⟩ := H
  have hdup_ := Option.some.inj (A1.out.symm.trans A40)
  simp only [Prod.mk.injEq] at hdup_
  obtain ⟨rfl, rfl⟩ := hdup_
  replace H : ((wide_Sub.f t131 t132 t125 t126).bind fun bt135 => ((wide_Div.f k 3 7 2).bind fun bt139 => ((wide_Div.f k 18446744073709551615 18446744073709551615 0).bind fun bt144 => ((wide_Mul.f 9223372036854775808 6).bind fun bt149 => (if (bt149.1 == 3 && (bt149.2 == 0)) = true then ((wide_Of.f 1).bind fun bt151 => (if (t127 == bt151.1 && (t128 == bt151.2)) = true then (if t129 = true then (if (bt135.1 == 18446744073709551615 && (bt135.2.1 == 18446744073709551615)) = true then (if bt135.2.2 = true then ((wide_Cmp.f k 18446744073709551615 18446744073709551615 t127 t128).bind fun t153 => (if t153 = 1 then ((wide_Cmp.f k t127 t128 t127 t128).bind fun t154 => (if t154 = 0 then ((wide_Cmp.f k t127 t128 bt135.1 bt135.2.1).bind fun t155 => (if t155 = (-1) then (if (bt139.1 == 1 && (bt139.2.1 == 9223372036854775811)) = true then (if bt139.2.2.1 = 1 then (if bt139.2.2.2 = 0 then (if bt144.2.2.2 = 20 then ((wide_Shr.f k 3 0 1).bind fun bt156 => (if (bt156.1 == 1 && (bt156.2 == 9223372036854775808)) = true then ((wide_Shr.f k 18446744073709551615 18446744073709551615 128).bind fun bt158 => (if (bt158.1 == 0 && (bt158.2 == 0)) = true then ((wide_Of.f 5).bind fun bt160 => (if (bt160.1 == 0 && (bt160.2 == 5)) = true then (some true) else (none))) else (none))) else (none))) else (none)) else (none)) else (none)) else (none)) else (none))) else (none))) else (none))) else (none)) else (none)) else (none)) else (none))) else (none)))))) = some r := H
  have A4 := Aside0.mk A40
  clear A40
  replace H := Option.bind_eq_some_iff.mp H
  obtain ⟨⟨t135, t136, t137⟩, A50, H⟩ := H
  replace H : ((wide_Div.f k 3 7 2).bind fun bt139 => ((wide_Div.f k 18446744073709551615 18446744073709551615 0).bind fun bt144 => ((wide_Mul.f 9223372036854775808 6).bind fun bt149 => (if (bt149.1 == 3 && (bt149.2 == 0)) = true then ((wide_Of.f 1).bind fun bt151 => (if (t127 == bt151.1 && (t128 == bt151.2)) = true then (if t129 = true then (if (t135 == 18446744073709551615 && (t136 == 18446744073709551615)) = true then (if t137 = true then ((wide_Cmp.f k 18446744073709551615 18446744073709551615 t127 t128).bind fun t153 => (if t153 = 1 then ((wide_Cmp.f k t127 t128 t127 t128).bind fun t154 => (if t154 = 0 then ((wide_Cmp.f k t127 t128 t135 t136).bind fun t155 => (if t155 = (-1) then (if (bt139.1 == 1 && (bt139.2.1 == 9223372036854775811)) = true then (if bt139.2.2.1 = 1 then (if bt139.2.2.2 = 0 then (if bt144.2.2.2 = 20 then ((wide_Shr.f k 3 0 1).bind fun bt156 => (if (bt156.1 == 1 && (bt156.2 == 9223372036854775808)) = true then ((wide_Shr.f k 18446744073709551615 18446744073709551615 128).bind fun bt158 => (if (bt158.1 == 0 && (bt158.2 == 0)) = true then ((wide_Of.f 5).bind fun bt160 => (if (bt160.1 == 0 && (bt160.2 == 5)) = true then (some true) else (none))) else (none))) else (none))) else (none)) else (none)) else (none)) else (none)) else (none))) else (none))) else (none))) else (none)) else (none)) else (none)) else (none))) else (none))))) = some r := H
  have A5 := Aside0.mk A50
  clear A50
  replace H := Option.bind_eq_some_iff.mp H
  obtain ⟨⟨t139, t140, t141, t142⟩, A60, H⟩ := H
  replace H : ((wide_Div.f k 18446744073709551615 18446744073709551615 0).bind fun bt144 => ((wide_Mul.f 9223372036854775808 6).bind fun bt149 => (if (bt149.1 == 3 && (bt149.2 == 0)) = true then ((wide_Of.f 1).bind fun bt151 => (if (t127 == bt151.1 && (t128 == bt151.2)) = true then (if t129 = true then (if (t135 == 18446744073709551615 && (t136 == 18446744073709551615)) = true then (if t137 = true then ((wide_Cmp.f k 18446744073709551615 18446744073709551615 t127 t128).bind fun t153 => (if t153 = 1 then ((wide_Cmp.f k t127 t128 t127 t128).bind fun t154 => (if t154 = 0 then ((wide_Cmp.f k t127 t128 t135 t136).bind fun t155 => (if t155 = (-1) then (if (t139 == 1 && (t140 == 9223372036854775811)) = true then (if t141 = 1 then (if t142 = 0 then (if bt144.2.2.2 = 20 then ((wide_Shr.f k 3 0 1).bind fun bt156 => (if (bt156.1 == 1 && (bt156.2 == 9223372036854775808)) = true then ((wide_Shr.f k 18446744073709551615 18446744073709551615 128).bind fun bt158 => (if (bt158.1 == 0 && (bt158.2 == 0)) = true then ((wide_Of.f 5).bind fun bt160 => (if (bt160.1 == 0 && (bt160.2 == 5)) = true then (some true) else (none))) else (none))) else (none))) else (none)) else (none)) else (none)) else (none)) else (none))) else (none))) else (none))) else (none)) else (none)) else (none)) else (none))) else (none)))) = some r := H
  have A6 := Aside0.mk A60
  clear A60
  replace H := Option.bind_eq_some_iff.mp H
  obtain ⟨⟨t144, t145, t146, t147⟩, A70, H⟩ := H
  replace H : ((wide_Mul.f 9223372036854775808 6).bind fun bt149 => (if (bt149.1 == 3 && (bt149.2 == 0)) = true then ((wide_Of.f 1).bind fun bt151 => (if (t127 == bt151.1 && (t128 == bt151.2)) = true then (if t129 = true then (if (t135 == 18446744073709551615 && (t136 == 18446744073709551615)) = true then (if t137 = true then ((wide_Cmp.f k 18446744073709551615 18446744073709551615 t127 t128).bind fun t153 => (if t153 = 1 then ((wide_Cmp.f k t127 t128 t127 t128).bind fun t154 => (if t154 = 0 then ((wide_Cmp.f k t127 t128 t135 t136).bind fun t155 => (if t155 = (-1) then (if (t139 == 1 && (t140 == 9223372036854775811)) = true then (if t141 = 1 then (if t142 = 0 then (if t147 = 20 then ((wide_Shr.f k 3 0 1).bind fun bt156 => (if (bt156.1 == 1 && (bt156.2 == 9223372036854775808)) = true then ((wide_Shr.f k 18446744073709551615 18446744073709551615 128).bind fun bt158 => (if (bt158.1 == 0 && (bt158.2 == 0)) = true then ((wide_Of.f 5).bind fun bt160 => (if (bt160.1 == 0 && (bt160.2 == 5)) = true then (some true) else (none))) else (none))) else (none))) else (none)) else (none)) else (none)) else (none)) else (none))) else (none))) else (none))) else (none)) else (none)) else (none)) else (none))) else (none))) = some r := H
  have A7 := Aside0.mk A70
  clear A70
  replace H := Option.bind_eq_some_iff.mp H
  obtain ⟨⟨t149, t150⟩, A80, H⟩ := H
  replace H : (if (t149 == 3 && (t150 == 0)) = true then ((wide_Of.f 1).bind fun bt151 => (if (t127 == bt151.1 && (t128 == bt151.2)) = true then (if t129 = true then (if (t135 == 18446744073709551615 && (t136 == 18446744073709551615)) = true then (if t137 = true then ((wide_Cmp.f k 18446744073709551615 18446744073709551615 t127 t128).bind fun t153 => (if t153 = 1 then ((wide_Cmp.f k t127 t128 t127 t128).bind fun t154 => (if t154 = 0 then ((wide_Cmp.f k t127 t128 t135 t136).bind fun t155 => (if t155 = (-1) then (if (t139 == 1 && (t140 == 9223372036854775811)) = true then (if t141 = 1 then (if t142 = 0 then (if t147 = 20 then ((wide_Shr.f k 3 0 1).bind fun bt156 => (if (bt156.1 == 1 && (bt156.2 == 9223372036854775808)) = true then ((wide_Shr.f k 18446744073709551615 18446744073709551615 128).bind fun bt158 => (if (bt158.1 == 0 && (bt158.2 == 0)) = true then ((wide_Of.f 5).bind fun bt160 => (if (bt160.1 == 0 && (bt160.2 == 5)) = true then (some true) else (none))) else (none))) else (none))) else (none)) else (none)) else (none)) else (none)) else (none))) else (none))) else (none))) else (none)) else (none)) else (none)) else (none))) else (none)) = some r := H
  have A8 := Aside0.mk A80
  clear A80
  by_cases c9 : (t149 == 3 && (t150 == 0)) = true
  · rw [if_pos c9] at H
    have c9b0 : (t149 == 3 && (t150 == 0)) = true := c9
    (try (have c9b1 : decide (t149 = 3 && (t150 == 0)) = true := by simpa using c9))
    (try (have c9b2 : (t149 == 3 && (t150 == 0)) = true := by simpa using c9))
    clear c9
    replace H := Option.bind_eq_some_iff.mp H
    obtain ⟨⟨t151, t152⟩, A100, H⟩ := H
    have hdup_ := Option.some.inj (A3.out.symm.trans A100)
    simp only [Prod.mk.injEq] at hdup_
    obtain ⟨rfl, rfl⟩ := hdup_
    replace H : (if (t127 == t131 && (t128 == t132)) = true then (if t129 = true then (if (t135 == 18446744073709551615 && (t136 == 18446744073709551615)) = true then (if t137 = true then ((wide_Cmp.f k 18446744073709551615 18446744073709551615 t127 t128).bind fun t153 => (if t153 = 1 then ((wide_Cmp.f k t127 t128 t127 t128).bind fun t154 => (if t154 = 0 then ((wide_Cmp.f k t127 t128 t135 t136).bind fun t155 => (if t155 = (-1) then (if (t139 == 1 && (t140 == 9223372036854775811)) = true then (if t141 = 1 then (if t142 = 0 then (if t147 = 20 then ((wide_Shr.f k 3 0 1).bind fun bt156 => (if (bt156.1 == 1 && (bt156.2 == 9223372036854775808)) = true then ((wide_Shr.f k 18446744073709551615 18446744073709551615 128).bind fun bt158 => (if (bt158.1 == 0 && (bt158.2 == 0)) = true then ((wide_Of.f 5).bind fun bt160 => (if (bt160.1 == 0 && (bt160.2 == 5)) = true then (some true) else (none))) else (none))) else (none))) else (none)) else (none)) else (none)) else (none)) else (none))) else (none))) else (none))) else (none)) else (none)) else (none)) else (none)) = some r := H
    have A10 := Aside0.mk A100
    clear A100
    by_cases c11 : (t127 == t131 && (t128 == t132)) = true
    · rw [if_pos c11] at H
      have c11b0 : (t127 == t131 && (t128 == t132)) = true := c11
      (try (have c11b1 : decide (t127 = t131 && (t128 == t132)) = true := by simpa using c11))
      (try (have c11b2 : (t127 == t131 && (t128 == t132)) = true := by simpa using c11))
      clear c11
      by_cases c12 : t129 = true
      · subst c12
        have H1 : (if (t135 == 18446744073709551615 && (t136 == 18446744073709551615)) = true then (if t137 = true then ((wide_Cmp.f k 18446744073709551615 18446744073709551615 t127 t128).bind fun t153 => (if t153 = 1 then ((wide_Cmp.f k t127 t128 t127 t128).bind fun t154 => (if t154 = 0 then ((wide_Cmp.f k t127 t128 t135 t136).bind fun t155 => (if t155 = (-1) then (if (t139 == 1 && (t140 == 9223372036854775811)) = true then (if t141 = 1 then (if t142 = 0 then (if t147 = 20 then ((wide_Shr.f k 3 0 1).bind fun bt156 => (if (bt156.1 == 1 && (bt156.2 == 9223372036854775808)) = true then ((wide_Shr.f k 18446744073709551615 18446744073709551615 128).bind fun bt158 => (if (bt158.1 == 0 && (bt158.2 == 0)) = true then ((wide_Of.f 5).bind fun bt160 => (if (bt160.1 == 0 && (bt160.2 == 5)) = true then (some true) else (none))) else (none))) else (none))) else (none)) else (none)) else (none)) else (none)) else (none))) else (none))) else (none))) else (none)) else (none)) = some r := by rw [if_pos rfl] at H; exact H
        clear H
        have H := H1
        clear H1
        by_cases c13 : (t135 == 18446744073709551615 && (t136 == 18446744073709551615)) = true
        · rw [if_pos c13] at H
          have c13b0 : (t135 == 18446744073709551615 && (t136 == 18446744073709551615)) = true := c13
          (try (have c13b1 : decide (t135 = 18446744073709551615 && (t136 == 18446744073709551615)) = true := by simpa using c13))
          (try (have c13b2 : (t135 == 18446744073709551615 && (t136 == 18446744073709551615)) = true := by simpa using c13))
          clear c13
          by_cases c14 : t137 = true
          · subst c14
            have H1 : ((wide_Cmp.f k 18446744073709551615 18446744073709551615 t127 t128).bind fun t153 => (if t153 = 1 then ((wide_Cmp.f k t127 t128 t127 t128).bind fun t154 => (if t154 = 0 then ((wide_Cmp.f k t127 t128 t135 t136).bind fun t155 => (if t155 = (-1) then (if (t139 == 1 && (t140 == 9223372036854775811)) = true then (if t141 = 1 then (if t142 = 0 then (if t147 = 20 then ((wide_Shr.f k 3 0 1).bind fun bt156 => (if (bt156.1 == 1 && (bt156.2 == 9223372036854775808)) = true then ((wide_Shr.f k 18446744073709551615 18446744073709551615 128).bind fun bt158 => (if (bt158.1 == 0 && (bt158.2 == 0)) = true then ((wide_Of.f 5).bind fun bt160 => (if (bt160.1 == 0 && (bt160.2 == 5)) = true then (some true) else (none))) else (none))) else (none))) else (none)) else (none)) else (none)) else (none)) else (none))) else (none))) else (none))) = some r := by rw [if_pos rfl] at H; exact H
            clear H
            have H := H1
            clear H1
            replace H := Option.bind_eq_some_iff.mp H
            obtain ⟨t153, A150, H⟩ := H
            replace H : (if t153 = 1 then ((wide_Cmp.f k t127 t128 t127 t128).bind fun t154 => (if t154 = 0 then ((wide_Cmp.f k t127 t128 t135 t136).bind fun t155 => (if t155 = (-1) then (if (t139 == 1 && (t140 == 9223372036854775811)) = true then (if t141 = 1 then (if t142 = 0 then (if t147 = 20 then ((wide_Shr.f k 3 0 1).bind fun bt156 => (if (bt156.1 == 1 && (bt156.2 == 9223372036854775808)) = true then ((wide_Shr.f k 18446744073709551615 18446744073709551615 128).bind fun bt158 => (if (bt158.1 == 0 && (bt158.2 == 0)) = true then ((wide_Of.f 5).bind fun bt160 => (if (bt160.1 == 0 && (bt160.2 == 5)) = true then (some true) else (none))) else (none))) else (none))) else (none)) else (none)) else (none)) else (none)) else (none))) else (none))) else (none)) = some r := H
            have A15 := Aside0.mk A150
            clear A150
            by_cases c16 : t153 = 1
            · rw [if_pos c16] at H
              have c16b0 : (t153 == 1) = true := beq_iff_eq.mpr c16
              have c16b1 : (t153 != 1) = false := bne_eq_false_iff_eq.mpr c16
              clear c16
              replace H := Option.bind_eq_some_iff.mp H
              obtain ⟨t154, A170, H⟩ := H
              replace H : (if t154 = 0 then ((wide_Cmp.f k t127 t128 t135 t136).bind fun t155 => (if t155 = (-1) then (if (t139 == 1 && (t140 == 9223372036854775811)) = true then (if t141 = 1 then (if t142 = 0 then (if t147 = 20 then ((wide_Shr.f k 3 0 1).bind fun bt156 => (if (bt156.1 == 1 && (bt156.2 == 9223372036854775808)) = true then ((wide_Shr.f k 18446744073709551615 18446744073709551615 128).bind fun bt158 => (if (bt158.1 == 0 && (bt158.2 == 0)) = true then ((wide_Of.f 5).bind fun bt160 => (if (bt160.1 == 0 && (bt160.2 == 5)) = true then (some true) else (none))) else (none))) else (none))) else (none)) else (none)) else (none)) else (none)) else (none))) else (none)) = some r := H
              have A17 := Aside0.mk A170
              clear A170
              by_cases c18 : t154 = 0
              · rw [if_pos c18] at H
                have c18b0 : (t154 == 0) = true := beq_iff_eq.mpr c18
                have c18b1 : (t154 != 0) = false := bne_eq_false_iff_eq.mpr c18
                clear c18
                replace H := Option.bind_eq_some_iff.mp H
                obtain ⟨t155, A190, H⟩ := H
                replace H : (if t155 = (-1) then (if (t139 == 1 && (t140 == 9223372036854775811)) = true then (if t141 = 1 then (if t142 = 0 then (if t147 = 20 then ((wide_Shr.f k 3 0 1).bind fun bt156 => (if (bt156.1 == 1 && (bt156.2 == 9223372036854775808)) = true then ((wide_Shr.f k 18446744073709551615 18446744073709551615 128).bind fun bt158 => (if (bt158.1 == 0 && (bt158.2 == 0)) = true then ((wide_Of.f 5).bind fun bt160 => (if (bt160.1 == 0 && (bt160.2 == 5)) = true then (some true) else (none))) else (none))) else (none))) else (none)) else (none)) else (none)) else (none)) else (none)) = some r := H
                have A19 := Aside0.mk A190
                clear A190
                by_cases c20 : t155 = (-1)
                · rw [if_pos c20] at H
                  have c20b0 : (t155 == (-1)) = true := beq_iff_eq.mpr c20
                  have c20b1 : (t155 != (-1)) = false := bne_eq_false_iff_eq.mpr c20
                  clear c20
                  by_cases c21 : (t139 == 1 && (t140 == 9223372036854775811)) = true
                  · rw [if_pos c21] at H
                    have c21b0 : (t139 == 1 && (t140 == 9223372036854775811)) = true := c21
                    (try (have c21b1 : decide (t139 = 1 && (t140 == 9223372036854775811)) = true := by simpa using c21))
                    (try (have c21b2 : (t139 == 1 && (t140 == 9223372036854775811)) = true := by simpa using c21))
                    clear c21
                    by_cases c22 : t141 = 1
                    · rw [if_pos c22] at H
                      have c22b0 : (t141 == 1) = true := beq_iff_eq.mpr c22
                      have c22b1 : (t141 != 1) = false := bne_eq_false_iff_eq.mpr c22
                      clear c22
                      by_cases c23 : t142 = 0
                      · rw [if_pos c23] at H
                        have c23b0 : (t142 == 0) = true := beq_iff_eq.mpr c23
                        have c23b1 : (t142 != 0) = false := bne_eq_false_iff_eq.mpr c23
                        clear c23
                        by_cases c24 : t147 = 20
                        · rw [if_pos c24] at H
                          have c24b0 : (t147 == 20) = true := beq_iff_eq.mpr c24
                          have c24b1 : (t147 != 20) = false := bne_eq_false_iff_eq.mpr c24
                          clear c24
                          replace H := Option.bind_eq_some_iff.mp H
                          obtain ⟨⟨t156, t157⟩, A250, H⟩ := H
                          replace H : (if (t156 == 1 && (t157 == 9223372036854775808)) = true then ((wide_Shr.f k 18446744073709551615 18446744073709551615 128).bind fun bt158 => (if (bt158.1 == 0 && (bt158.2 == 0)) = true then ((wide_Of.f 5).bind fun bt160 => (if (bt160.1 == 0 && (bt160.2 == 5)) = true then (some true) else (none))) else (none))) else (none)) = some r := H
                          have A25 := Aside0.mk A250
                          clear A250
                          by_cases c26 : (t156 == 1 && (t157 == 9223372036854775808)) = true
                          · rw [if_pos c26] at H
                            have c26b0 : (t156 == 1 && (t157 == 9223372036854775808)) = true := c26
                            (try (have c26b1 : decide (t156 = 1 && (t157 == 9223372036854775808)) = true := by simpa using c26))
                            (try (have c26b2 : (t156 == 1 && (t157 == 9223372036854775808)) = true := by simpa using c26))
                            clear c26
                            replace H := Option.bind_eq_some_iff.mp H
                            obtain ⟨⟨t158, t159⟩, A270, H⟩ := H
                            replace H : (if (t158 == 0 && (t159 == 0)) = true then ((wide_Of.f 5).bind fun bt160 => (if (bt160.1 == 0 && (bt160.2 == 5)) = true then (some true) else (none))) else (none)) = some r := H
                            have A27 := Aside0.mk A270
                            clear A270
                            by_cases c28 : (t158 == 0 && (t159 == 0)) = true
                            · rw [if_pos c28] at H
                              have c28b0 : (t158 == 0 && (t159 == 0)) = true := c28
                              (try (have c28b1 : decide (t158 = 0 && (t159 == 0)) = true := by simpa using c28))
                              (try (have c28b2 : (t158 == 0 && (t159 == 0)) = true := by simpa using c28))
                              clear c28
                              replace H := Option.bind_eq_some_iff.mp H
                              obtain ⟨⟨t160, t161⟩, A290, H⟩ := H
                              replace H : (if (t160 == 0 && (t161 == 5)) = true then (some true) else (none)) = some r := H
                              have A29 := Aside0.mk A290
                              clear A290
                              by_cases c30 : (t160 == 0 && (t161 == 5)) = true
                              · rw [if_pos c30] at H
                                have c30b0 : (t160 == 0 && (t161 == 5)) = true := c30
                                (try (have c30b1 : decide (t160 = 0 && (t161 == 5)) = true := by simpa using c30))
                                (try (have c30b2 : (t160 == 0 && (t161 == 5)) = true := by simpa using c30))
                                clear c30
                                obtain rfl := Option.some.inj H
                                go_enter Try.func9, Try.ntmps9
                                try go_wp2_with (first | ((with_reducible refine gate_dst (N := 1) rfl ?_); refine box_event ?hg (N := 1) ?hd (cs := #[.int .u64 0, .int .u64 0]) (t := 24) ?hr ?_; (case hd => rfl); (case hg => rfl); (case hr => first | (go_simp; done) | (go_simp; rfl)); intro gb124 hg w31 hbox hb; have n0_ := Aside0.mk (below_step (by repeat (first | (with_reducible first | exact HB.out | apply below_alloc | apply pw_below_drewN | apply below_drew1) | exact HB.out)) hb); have n1_ := Aside0.mk (hbox); have n2_ := Aside0.mk ((by rw [hg]; exact (below_size (by repeat (first | (with_reducible first | exact HB.out | apply below_alloc | apply pw_below_drewN | apply below_drew1) | exact HB.out))) : w.heap.size ≤ gb124)); have n3_ := Aside0.mk ((by rw [hg]; exact (below_size (by repeat (first | (with_reducible first | exact HB.out | apply below_alloc | apply pw_below_drewN | apply below_drew1) | exact HB.out))) : w.heap.size ≤ gb124)); clear HB; have HB := n0_; have BK124 := n1_; have GW124 := n2_; have GE124 := n3_; clear n0_ n1_ n2_ n3_; clear hb hbox hg; have hcz32_0 : w31.cell? ⟨gb124, 0, none⟩ = some (.int .u64 0) := (blk_cell BK124.out 0).trans rfl; have hcz32_1 : w31.cell? ⟨gb124, 1, none⟩ = some (.int .u64 0) := (blk_cell BK124.out 1).trans rfl; have hfz32_0 := blk_frozen BK124.out 0; have hfz32_1 := blk_frozen BK124.out 1))
                                have n0_ : Aside0 (((w31.setCell ⟨gb124, 0, none⟩ (.int .u64 18446744073709551615)).setCell ⟨gb124, 1, none⟩ (.int .u64 18446744073709551615)).heap[gb124]? = some (.cells #[.int .u64 18446744073709551615, .int .u64 18446744073709551615] 24 (0, 0))) := ⟨by (with_reducible repeat (first | refine blk_drewN ?_ _ | refine blk_drew ?_ | refine blk_alloc ?_ _)); refine blk_put (cs := #[.int .u64 18446744073709551615, .int .u64 0]) ?_ 1 _ rfl; (with_reducible repeat (first | refine blk_drewN ?_ _ | refine blk_drew ?_ | refine blk_alloc ?_ _)); refine blk_put (cs := #[.int .u64 0, .int .u64 0]) ?_ 0 _ rfl; (with_reducible repeat (first | refine blk_drewN ?_ _ | refine blk_drew ?_ | refine blk_alloc ?_ _)); exact BK124.out⟩
                                have n1_ : Aside0 (Below w.heap.size w ((w31.setCell ⟨gb124, 0, none⟩ (.int .u64 18446744073709551615)).setCell ⟨gb124, 1, none⟩ (.int .u64 18446744073709551615))) := ⟨by repeat (first | (with_reducible first | exact HB.out | apply below_alloc | apply pw_below_drewN | apply below_drew1 | refine below_set ?_ GE124.out) | exact HB.out)⟩
                                (try clear BK124)
                                (try clear HB)
                                generalize ((w31.setCell ⟨gb124, 0, none⟩ (.int .u64 18446744073709551615)).setCell ⟨gb124, 1, none⟩ (.int .u64 18446744073709551615)) = w33 at n0_ n1_ ⊢
                                have BK124 := n0_
                                have HB := n1_
                                clear n0_ n1_
                                have n0_ := Aside0.mk (blk_drew BK124.out)
                                have n1_ := Aside0.mk (below_drew1 HB.out)
                                clear BK124
                                clear HB
                                have BK124 := n0_
                                have HB := n1_
                                clear n0_ n1_
                                refine start_ (n := 9) (S := fun w' => w'.cell? ⟨gb124, 0, none⟩ = some (.int .u64 18446744073709551615) ∧ w'.cell? ⟨gb124, 1, none⟩ = some (.int .u64 18446744073709551615)) (ds := []) #[false, false, false, false, false, false, false, false, false] (by kernel_rfl) rfl rfl ⟨(blk_cell BK124.out 0).trans rfl, (blk_cell BK124.out 1).trans rfl⟩ (fun hHeld => ?_); refine with_tabW linhaylaw02_awake.tab2 linhaylaw02_awake.bits2 (fun HT_ HW_ => ?_)
                                generalize w33.drew = w34 at BK124 HB hHeld ⊢
                                refine take_ (i := 0) (N := some 14) (v := ?_) (a' := ?_) #[true, false, false, false, false, false, false, false, false] rfl rfl (take_ofW HT_.out HW_.out (by kernel_rfl)) (fun _ _ _ h => h) (Or.inl ⟨by rfl, ?_⟩) hHeld ?_ ?_
                                rotate_left
                                · rintro w' ⟨s0, s1⟩
                                  go_simp
                                  with_reducible rfl
                                rotate_left
                                · simp only [Act.put, List.setIfInBounds_toArray, List.set_cons_zero, List.set_cons_succ, i64_w, i32_w]
                                  rfl
                                refine join_ (σ := Nat) 2 #[true, true, true, true, true, true, true, false, false] (fun s_ => [(15, .agg #[.int .u64 t125, .int .u64 t126]), (16, .tuple #[.agg #[.int .u64 t127, .int .u64 t128], .bool true]), (2, .pointer (some ⟨s_, 0, none⟩)), (13, .tuple #[.agg #[.int .u64 t127, .int .u64 t128], .bool true]), (17, .agg #[.int .u64 t127, .int .u64 t128]), (18, .bool true)]) (fun s_ w' => (w'.cell? ⟨gb124, 0, none⟩ = some (.int .u64 18446744073709551615) ∧ w'.cell? ⟨gb124, 1, none⟩ = some (.int .u64 18446744073709551615)) ∧ (w'.heap[gb124]? = some (.cells #[.int .u64 18446744073709551615, .int .u64 18446744073709551615] 24 (0, 0))) ∧ (w'.heap[s_]? = some (.cells #[.int .u64 0, .int .u64 0] 24 (0, 0))) ∧ (w.heap.size ≤ s_) ∧ (w.heap.size ≤ s_) ∧ (gb124 ≠ s_) ∧ (s_ ≠ gb124) ∧ (Below w.heap.size w w')) ?_ ?_
                                rotate_left
                                · intro hCont
                                  refine two_ (i := 1) (j := 6) (Ni := some 15) (Nj := some 2) #[true, true, false, false, false, false, false, false, false] #[true, false, false, false, false, false, true, false, false] rfl rfl rfl rfl (two_of HT_.out (by kernel_rfl)) (by decide) (by decide) (fun K hK => ?_) (fun K hK => ?_)
                                  · skip
                                    refine goes_ Try.func22 (by kernel_rfl) rfl #[.int .u64 2] (by rfl) rfl rfl (by (try simp only [List.map_toArray, List.map_cons, List.map_nil]); first | done | rfl | (simp only [List.length_drop, List.length_take]; rfl)) ?_
                                    with_reducible refine (wide_Of.calls 2 t125 t126 _ A1.out).mono ?_
                                    rintro e w35 ⟨rfl, hb⟩
                                    refine ⟨_, rfl, ?_⟩
                                    have n0_ := Aside0.mk (blk_below (g := gb124) (o := .cells #[.int .u64 18446744073709551615, .int .u64 18446744073709551615] 24 (0, 0)) (by (with_reducible repeat (first | refine blk_drewN ?_ _ | refine blk_drew ?_ | refine blk_alloc ?_ _)); exact BK124.out) hb)
                                    have n1_ := Aside0.mk (below_step (by repeat (first | (with_reducible first | exact HB.out | apply below_alloc | apply pw_below_drewN | apply below_drew1 | refine below_set ?_ GE124.out) | exact HB.out)) hb)
                                    clear BK124
                                    clear HB
                                    have BK124 := n0_
                                    have HB := n1_
                                    clear n0_ n1_
                                    (try clear hb)
                                    (try clear hb2)
                                    (try clear hk)
                                    (try clear hi)
                                    refine hK.out _ _ ⟨(blk_cell BK124.out 0).trans rfl, (blk_cell BK124.out 1).trans rfl⟩ (fun hHeld => ?_)
                                    clear hK K
                                    refine norm_ (a' := ?_) ?_ ?_
                                    rotate_left
                                    · show Act.put _ (some 15) _ = _
                                      simp only [Act.put, List.setIfInBounds_toArray, List.set_cons_zero, List.set_cons_succ, i64_w, i32_w]
                                      rfl
                                    refine two_ (i := 2) (j := 6) (Ni := some 16) (Nj := some 2) #[true, true, true, false, false, false, false, false, false] #[true, true, false, false, false, false, true, false, false] rfl rfl rfl rfl (two_of HT_.out (by kernel_rfl)) (by decide) (by decide) (fun K hK => ?_) (fun K hK => ?_)
                                    · skip
                                      refine goes_ Try.func10 (by kernel_rfl) rfl #[.agg #[.int .u64 18446744073709551615, .int .u64 18446744073709551615], .agg #[.int .u64 t125, .int .u64 t126]] (by rfl) rfl rfl (by (try simp only [List.map_toArray, List.map_cons, List.map_nil]); first | done | rfl | (simp only [List.length_drop, List.length_take]; rfl)) ?_
                                      with_reducible refine (wide_Add.calls 18446744073709551615 18446744073709551615 t125 t126 t127 t128 true _ A2.out).mono ?_
                                      rintro e w36 ⟨rfl, hb⟩
                                      refine ⟨_, rfl, ?_⟩
                                      have n0_ := Aside0.mk (blk_below (g := gb124) (o := .cells #[.int .u64 18446744073709551615, .int .u64 18446744073709551615] 24 (0, 0)) (by (with_reducible repeat (first | refine blk_drewN ?_ _ | refine blk_drew ?_ | refine blk_alloc ?_ _)); exact BK124.out) hb)
                                      have n1_ := Aside0.mk (below_step (by repeat (first | (with_reducible first | exact HB.out | apply below_alloc | apply pw_below_drewN | apply below_drew1 | refine below_set ?_ GE124.out) | exact HB.out)) hb)
                                      clear BK124
                                      clear HB
                                      have BK124 := n0_
                                      have HB := n1_
                                      clear n0_ n1_
                                      (try clear hb)
                                      (try clear hb2)
                                      (try clear hk)
                                      (try clear hi)
                                      refine hK.out _ _ ⟨(blk_cell BK124.out 0).trans rfl, (blk_cell BK124.out 1).trans rfl⟩ (fun hHeld => ?_)
                                      clear hK K
                                      refine norm_ (a' := ?_) ?_ ?_
                                      rotate_left
                                      · show Act.put _ (some 16) _ = _
                                        simp only [Act.put, List.setIfInBounds_toArray, List.set_cons_zero, List.set_cons_succ, i64_w, i32_w]
                                        rfl
                                      refine pure_ (i := 3) (N := some 13) (v := ?_) (a' := ?_) #[true, true, true, true, false, false, false, false, false] rfl rfl (any_of HT_.out (by kernel_rfl)) (fun _ _ _ h => h) (Or.inl ⟨by rfl, ?_⟩) ?_ ?_
                                      rotate_left
                                      · intro w'
                                        go_simp
                                        with_reducible rfl
                                      rotate_left
                                      · simp only [Act.put, List.setIfInBounds_toArray, List.set_cons_zero, List.set_cons_succ, i64_w, i32_w]
                                        rfl
                                      refine pure_ (i := 4) (N := some 17) (v := ?_) (a' := ?_) #[true, true, true, true, true, false, false, false, false] rfl rfl (any_of HT_.out (by kernel_rfl)) (fun _ _ _ h => h) (Or.inl ⟨by rfl, ?_⟩) ?_ ?_
                                      rotate_left
                                      · intro w'
                                        go_simp
                                        with_reducible rfl
                                      rotate_left
                                      · simp only [Act.put, List.setIfInBounds_toArray, List.set_cons_zero, List.set_cons_succ, i64_w, i32_w]
                                        rfl
                                      refine pure_ (i := 5) (N := some 18) (v := ?_) (a' := ?_) #[true, true, true, true, true, true, false, false, false] rfl rfl (any_of HT_.out (by kernel_rfl)) (fun _ _ _ h => h) (Or.inl ⟨by rfl, ?_⟩) ?_ ?_
                                      rotate_left
                                      · intro w'
                                        go_simp
                                        with_reducible rfl
                                      rotate_left
                                      · simp only [Act.put, List.setIfInBounds_toArray, List.set_cons_zero, List.set_cons_succ, i64_w, i32_w]
                                        rfl
                                      refine one_ (i := 6) (N := some 2) #[true, true, true, true, true, true, true, false, false] rfl rfl (one_of HT_.out (by kernel_rfl)) (by decide) (fun K hK => ?_)
                                      refine box_step ?hg (N := 2) ?hd (cs := #[.int .u64 0, .int .u64 0]) (t := 24) ?hr ?_; (case hd => rfl); (case hg => rfl); (case hr => first | (go_simp; done) | (go_simp; rfl))
                                      intro gb130 hg w37 hbox hb
                                      have n0_ := Aside0.mk (blk_below (g := gb124) (o := .cells #[.int .u64 18446744073709551615, .int .u64 18446744073709551615] 24 (0, 0)) (by (with_reducible repeat (first | refine blk_drewN ?_ _ | refine blk_drew ?_ | refine blk_alloc ?_ _)); exact BK124.out) hb)
                                      have n1_ := Aside0.mk (below_step (by repeat (first | (with_reducible first | exact HB.out | apply below_alloc | apply pw_below_drewN | apply below_drew1 | refine below_set ?_ GE124.out) | exact HB.out)) hb)
                                      have n2_ := Aside0.mk (hbox)
                                      have n3_ := Aside0.mk ((by rw [hg]; exact (below_size (by repeat (first | (with_reducible first | exact HB.out | apply below_alloc | apply pw_below_drewN | apply below_drew1 | refine below_set ?_ GE124.out) | exact HB.out))) : w.heap.size ≤ gb130))
                                      have n4_ := Aside0.mk ((by rw [hg]; exact (below_size (by repeat (first | (with_reducible first | exact HB.out | apply below_alloc | apply pw_below_drewN | apply below_drew1 | refine below_set ?_ GE124.out) | exact HB.out))) : w.heap.size ≤ gb130))
                                      have n5_ := Aside0.mk ((by rw [hg]; exact Nat.ne_of_lt (blk_lt (g := gb124) (o := .cells #[.int .u64 18446744073709551615, .int .u64 18446744073709551615] 24 (0, 0)) (by (with_reducible repeat (first | refine blk_drewN ?_ _ | refine blk_drew ?_ | refine blk_alloc ?_ _)); exact BK124.out)) : gb124 ≠ gb130))
                                      have n6_ := Aside0.mk ((by rw [hg]; exact Nat.ne_of_gt (blk_lt (g := gb124) (o := .cells #[.int .u64 18446744073709551615, .int .u64 18446744073709551615] 24 (0, 0)) (by (with_reducible repeat (first | refine blk_drewN ?_ _ | refine blk_drew ?_ | refine blk_alloc ?_ _)); exact BK124.out)) : gb130 ≠ gb124))
                                      clear BK124
                                      clear HB
                                      have BK124 := n0_
                                      have HB := n1_
                                      have BK130 := n2_
                                      have GW130 := n3_
                                      have GE130 := n4_
                                      have NB124_130 := n5_
                                      have NB130_124 := n6_
                                      clear n0_ n1_ n2_ n3_ n4_ n5_ n6_
                                      clear hb hbox hg
                                      refine hK.out _ _ ⟨(blk_cell BK124.out 0).trans rfl, (blk_cell BK124.out 1).trans rfl⟩ (fun hHeld => ?_)
                                      clear hK K
                                      refine norm_ (a' := ?_) ?_ ?_
                                      rotate_left
                                      · show Act.put _ (some 2) _ = _
                                        simp only [Act.put, List.setIfInBounds_toArray, List.set_cons_zero, List.set_cons_succ, i64_w, i32_w]
                                        rfl
                                      exact norm_ (by simp only [putAll, Act.put, List.setIfInBounds_toArray, List.set_cons_zero, List.set_cons_succ]) (hCont (gb130) _ ⟨hHeld, (by (with_reducible repeat (first | refine blk_drewN ?_ _ | refine blk_drew ?_ | refine blk_alloc ?_ _)); exact BK124.out), (by (with_reducible repeat (first | refine blk_drewN ?_ _ | refine blk_drew ?_ | refine blk_alloc ?_ _)); exact BK130.out), GW130.out, GE130.out, NB124_130.out, NB130_124.out, (by repeat (first | (with_reducible first | exact HB.out | apply below_alloc | apply pw_below_drewN | apply below_drew1 | refine below_set ?_ GE124.out | refine below_set ?_ GE130.out) | exact HB.out))⟩)
                                    · skip
                                      refine box_step ?hg (N := 2) ?hd (cs := #[.int .u64 0, .int .u64 0]) (t := 24) ?hr ?_; (case hd => rfl); (case hg => rfl); (case hr => first | (go_simp; done) | (go_simp; rfl))
                                      intro gb130 hg w36 hbox hb
                                      have n0_ := Aside0.mk (blk_below (g := gb124) (o := .cells #[.int .u64 18446744073709551615, .int .u64 18446744073709551615] 24 (0, 0)) (by (with_reducible repeat (first | refine blk_drewN ?_ _ | refine blk_drew ?_ | refine blk_alloc ?_ _)); exact BK124.out) hb)
                                      have n1_ := Aside0.mk (below_step (by repeat (first | (with_reducible first | exact HB.out | apply below_alloc | apply pw_below_drewN | apply below_drew1 | refine below_set ?_ GE124.out) | exact HB.out)) hb)
                                      have n2_ := Aside0.mk (hbox)
                                      have n3_ := Aside0.mk ((by rw [hg]; exact (below_size (by repeat (first | (with_reducible first | exact HB.out | apply below_alloc | apply pw_below_drewN | apply below_drew1 | refine below_set ?_ GE124.out) | exact HB.out))) : w.heap.size ≤ gb130))
                                      have n4_ := Aside0.mk ((by rw [hg]; exact (below_size (by repeat (first | (with_reducible first | exact HB.out | apply below_alloc | apply pw_below_drewN | apply below_drew1 | refine below_set ?_ GE124.out) | exact HB.out))) : w.heap.size ≤ gb130))
                                      have n5_ := Aside0.mk ((by rw [hg]; exact Nat.ne_of_lt (blk_lt (g := gb124) (o := .cells #[.int .u64 18446744073709551615, .int .u64 18446744073709551615] 24 (0, 0)) (by (with_reducible repeat (first | refine blk_drewN ?_ _ | refine blk_drew ?_ | refine blk_alloc ?_ _)); exact BK124.out)) : gb124 ≠ gb130))
                                      have n6_ := Aside0.mk ((by rw [hg]; exact Nat.ne_of_gt (blk_lt (g := gb124) (o := .cells #[.int .u64 18446744073709551615, .int .u64 18446744073709551615] 24 (0, 0)) (by (with_reducible repeat (first | refine blk_drewN ?_ _ | refine blk_drew ?_ | refine blk_alloc ?_ _)); exact BK124.out)) : gb130 ≠ gb124))
                                      clear BK124
                                      clear HB
                                      have BK124 := n0_
                                      have HB := n1_
                                      have BK130 := n2_
                                      have GW130 := n3_
                                      have GE130 := n4_
                                      have NB124_130 := n5_
                                      have NB130_124 := n6_
                                      clear n0_ n1_ n2_ n3_ n4_ n5_ n6_
                                      clear hb hbox hg
                                      refine hK.out _ _ ⟨(blk_cell BK124.out 0).trans rfl, (blk_cell BK124.out 1).trans rfl⟩ (fun hHeld => ?_)
                                      clear hK K
                                      refine norm_ (a' := ?_) ?_ ?_
                                      rotate_left
                                      · show Act.put _ (some 2) _ = _
                                        simp only [Act.put, List.setIfInBounds_toArray, List.set_cons_zero, List.set_cons_succ, i64_w, i32_w]
                                        rfl
                                      refine one_ (i := 2) (N := some 16) #[true, true, true, false, false, false, true, false, false] rfl rfl (one_of HT_.out (by kernel_rfl)) (by decide) (fun K hK => ?_)
                                      refine goes_ Try.func10 (by kernel_rfl) rfl #[.agg #[.int .u64 18446744073709551615, .int .u64 18446744073709551615], .agg #[.int .u64 t125, .int .u64 t126]] (by rfl) rfl rfl (by (try simp only [List.map_toArray, List.map_cons, List.map_nil]); first | done | rfl | (simp only [List.length_drop, List.length_take]; rfl)) ?_
                                      with_reducible refine (wide_Add.calls 18446744073709551615 18446744073709551615 t125 t126 t127 t128 true _ A2.out).mono ?_
                                      rintro e w37 ⟨rfl, hb⟩
                                      refine ⟨_, rfl, ?_⟩
                                      have n0_ := Aside0.mk (blk_below (g := gb124) (o := .cells #[.int .u64 18446744073709551615, .int .u64 18446744073709551615] 24 (0, 0)) (by (with_reducible repeat (first | refine blk_drewN ?_ _ | refine blk_drew ?_ | refine blk_alloc ?_ _)); exact BK124.out) hb)
                                      have n1_ := Aside0.mk (blk_below (g := gb130) (o := .cells #[.int .u64 0, .int .u64 0] 24 (0, 0)) (by (with_reducible repeat (first | refine blk_drewN ?_ _ | refine blk_drew ?_ | refine blk_alloc ?_ _)); exact BK130.out) hb)
                                      have n2_ := Aside0.mk (below_step (by repeat (first | (with_reducible first | exact HB.out | apply below_alloc | apply pw_below_drewN | apply below_drew1 | refine below_set ?_ GE124.out | refine below_set ?_ GE130.out) | exact HB.out)) hb)
                                      clear BK124
                                      clear BK130
                                      clear HB
                                      have BK124 := n0_
                                      have BK130 := n1_
                                      have HB := n2_
                                      clear n0_ n1_ n2_
                                      (try clear hb)
                                      (try clear hb2)
                                      (try clear hk)
                                      (try clear hi)
                                      refine hK.out _ _ ⟨(blk_cell BK124.out 0).trans rfl, (blk_cell BK124.out 1).trans rfl⟩ (fun hHeld => ?_)
                                      clear hK K
                                      refine norm_ (a' := ?_) ?_ ?_
                                      rotate_left
                                      · show Act.put _ (some 16) _ = _
                                        simp only [Act.put, List.setIfInBounds_toArray, List.set_cons_zero, List.set_cons_succ, i64_w, i32_w]
                                        rfl
                                      refine pure_ (i := 3) (N := some 13) (v := ?_) (a' := ?_) #[true, true, true, true, false, false, true, false, false] rfl rfl (any_of HT_.out (by kernel_rfl)) (fun _ _ _ h => h) (Or.inl ⟨by rfl, ?_⟩) ?_ ?_
                                      rotate_left
                                      · intro w'
                                        go_simp
                                        with_reducible rfl
                                      rotate_left
                                      · simp only [Act.put, List.setIfInBounds_toArray, List.set_cons_zero, List.set_cons_succ, i64_w, i32_w]
                                        rfl
                                      refine pure_ (i := 4) (N := some 17) (v := ?_) (a' := ?_) #[true, true, true, true, true, false, true, false, false] rfl rfl (any_of HT_.out (by kernel_rfl)) (fun _ _ _ h => h) (Or.inl ⟨by rfl, ?_⟩) ?_ ?_
                                      rotate_left
                                      · intro w'
                                        go_simp
                                        with_reducible rfl
                                      rotate_left
                                      · simp only [Act.put, List.setIfInBounds_toArray, List.set_cons_zero, List.set_cons_succ, i64_w, i32_w]
                                        rfl
                                      refine pure_ (i := 5) (N := some 18) (v := ?_) (a' := ?_) #[true, true, true, true, true, true, true, false, false] rfl rfl (any_of HT_.out (by kernel_rfl)) (fun _ _ _ h => h) (Or.inl ⟨by rfl, ?_⟩) ?_ ?_
                                      rotate_left
                                      · intro w'
                                        go_simp
                                        with_reducible rfl
                                      rotate_left
                                      · simp only [Act.put, List.setIfInBounds_toArray, List.set_cons_zero, List.set_cons_succ, i64_w, i32_w]
                                        rfl
                                      exact norm_ (by simp only [putAll, Act.put, List.setIfInBounds_toArray, List.set_cons_zero, List.set_cons_succ]) (hCont (gb130) _ ⟨hHeld, (by (with_reducible repeat (first | refine blk_drewN ?_ _ | refine blk_drew ?_ | refine blk_alloc ?_ _)); exact BK124.out), (by (with_reducible repeat (first | refine blk_drewN ?_ _ | refine blk_drew ?_ | refine blk_alloc ?_ _)); exact BK130.out), GW130.out, GE130.out, NB124_130.out, NB130_124.out, (by repeat (first | (with_reducible first | exact HB.out | apply below_alloc | apply pw_below_drewN | apply below_drew1 | refine below_set ?_ GE124.out | refine below_set ?_ GE130.out) | exact HB.out))⟩)
                                  · skip
                                    refine box_step ?hg (N := 2) ?hd (cs := #[.int .u64 0, .int .u64 0]) (t := 24) ?hr ?_; (case hd => rfl); (case hg => rfl); (case hr => first | (go_simp; done) | (go_simp; rfl))
                                    intro gb130 hg w35 hbox hb
                                    have n0_ := Aside0.mk (blk_below (g := gb124) (o := .cells #[.int .u64 18446744073709551615, .int .u64 18446744073709551615] 24 (0, 0)) (by (with_reducible repeat (first | refine blk_drewN ?_ _ | refine blk_drew ?_ | refine blk_alloc ?_ _)); exact BK124.out) hb)
                                    have n1_ := Aside0.mk (below_step (by repeat (first | (with_reducible first | exact HB.out | apply below_alloc | apply pw_below_drewN | apply below_drew1 | refine below_set ?_ GE124.out) | exact HB.out)) hb)
                                    have n2_ := Aside0.mk (hbox)
                                    have n3_ := Aside0.mk ((by rw [hg]; exact (below_size (by repeat (first | (with_reducible first | exact HB.out | apply below_alloc | apply pw_below_drewN | apply below_drew1 | refine below_set ?_ GE124.out) | exact HB.out))) : w.heap.size ≤ gb130))
                                    have n4_ := Aside0.mk ((by rw [hg]; exact (below_size (by repeat (first | (with_reducible first | exact HB.out | apply below_alloc | apply pw_below_drewN | apply below_drew1 | refine below_set ?_ GE124.out) | exact HB.out))) : w.heap.size ≤ gb130))
                                    have n5_ := Aside0.mk ((by rw [hg]; exact Nat.ne_of_lt (blk_lt (g := gb124) (o := .cells #[.int .u64 18446744073709551615, .int .u64 18446744073709551615] 24 (0, 0)) (by (with_reducible repeat (first | refine blk_drewN ?_ _ | refine blk_drew ?_ | refine blk_alloc ?_ _)); exact BK124.out)) : gb124 ≠ gb130))
                                    have n6_ := Aside0.mk ((by rw [hg]; exact Nat.ne_of_gt (blk_lt (g := gb124) (o := .cells #[.int .u64 18446744073709551615, .int .u64 18446744073709551615] 24 (0, 0)) (by (with_reducible repeat (first | refine blk_drewN ?_ _ | refine blk_drew ?_ | refine blk_alloc ?_ _)); exact BK124.out)) : gb130 ≠ gb124))
                                    clear BK124
                                    clear HB
                                    have BK124 := n0_
                                    have HB := n1_
                                    have BK130 := n2_
                                    have GW130 := n3_
                                    have GE130 := n4_
                                    have NB124_130 := n5_
                                    have NB130_124 := n6_
                                    clear n0_ n1_ n2_ n3_ n4_ n5_ n6_
                                    clear hb hbox hg
                                    refine hK.out _ _ ⟨(blk_cell BK124.out 0).trans rfl, (blk_cell BK124.out 1).trans rfl⟩ (fun hHeld => ?_)
                                    clear hK K
                                    refine norm_ (a' := ?_) ?_ ?_
                                    rotate_left
                                    · show Act.put _ (some 2) _ = _
                                      simp only [Act.put, List.setIfInBounds_toArray, List.set_cons_zero, List.set_cons_succ, i64_w, i32_w]
                                      rfl
                                    refine one_ (i := 1) (N := some 15) #[true, true, false, false, false, false, true, false, false] rfl rfl (one_of HT_.out (by kernel_rfl)) (by decide) (fun K hK => ?_)
                                    refine goes_ Try.func22 (by kernel_rfl) rfl #[.int .u64 2] (by rfl) rfl rfl (by (try simp only [List.map_toArray, List.map_cons, List.map_nil]); first | done | rfl | (simp only [List.length_drop, List.length_take]; rfl)) ?_
                                    with_reducible refine (wide_Of.calls 2 t125 t126 _ A1.out).mono ?_
                                    rintro e w36 ⟨rfl, hb⟩
                                    refine ⟨_, rfl, ?_⟩
                                    have n0_ := Aside0.mk (blk_below (g := gb124) (o := .cells #[.int .u64 18446744073709551615, .int .u64 18446744073709551615] 24 (0, 0)) (by (with_reducible repeat (first | refine blk_drewN ?_ _ | refine blk_drew ?_ | refine blk_alloc ?_ _)); exact BK124.out) hb)
                                    have n1_ := Aside0.mk (blk_below (g := gb130) (o := .cells #[.int .u64 0, .int .u64 0] 24 (0, 0)) (by (with_reducible repeat (first | refine blk_drewN ?_ _ | refine blk_drew ?_ | refine blk_alloc ?_ _)); exact BK130.out) hb)
                                    have n2_ := Aside0.mk (below_step (by repeat (first | (with_reducible first | exact HB.out | apply below_alloc | apply pw_below_drewN | apply below_drew1 | refine below_set ?_ GE124.out | refine below_set ?_ GE130.out) | exact HB.out)) hb)
                                    clear BK124
                                    clear BK130
                                    clear HB
                                    have BK124 := n0_
                                    have BK130 := n1_
                                    have HB := n2_
                                    clear n0_ n1_ n2_
                                    (try clear hb)
                                    (try clear hb2)
                                    (try clear hk)
                                    (try clear hi)
                                    refine hK.out _ _ ⟨(blk_cell BK124.out 0).trans rfl, (blk_cell BK124.out 1).trans rfl⟩ (fun hHeld => ?_)
                                    clear hK K
                                    refine norm_ (a' := ?_) ?_ ?_
                                    rotate_left
                                    · show Act.put _ (some 15) _ = _
                                      simp only [Act.put, List.setIfInBounds_toArray, List.set_cons_zero, List.set_cons_succ, i64_w, i32_w]
                                      rfl
                                    refine one_ (i := 2) (N := some 16) #[true, true, true, false, false, false, true, false, false] rfl rfl (one_of HT_.out (by kernel_rfl)) (by decide) (fun K hK => ?_)
                                    refine goes_ Try.func10 (by kernel_rfl) rfl #[.agg #[.int .u64 18446744073709551615, .int .u64 18446744073709551615], .agg #[.int .u64 t125, .int .u64 t126]] (by rfl) rfl rfl (by (try simp only [List.map_toArray, List.map_cons, List.map_nil]); first | done | rfl | (simp only [List.length_drop, List.length_take]; rfl)) ?_
                                    with_reducible refine (wide_Add.calls 18446744073709551615 18446744073709551615 t125 t126 t127 t128 true _ A2.out).mono ?_
                                    rintro e w37 ⟨rfl, hb⟩
                                    refine ⟨_, rfl, ?_⟩
                                    have n0_ := Aside0.mk (blk_below (g := gb124) (o := .cells #[.int .u64 18446744073709551615, .int .u64 18446744073709551615] 24 (0, 0)) (by (with_reducible repeat (first | refine blk_drewN ?_ _ | refine blk_drew ?_ | refine blk_alloc ?_ _)); exact BK124.out) hb)
                                    have n1_ := Aside0.mk (blk_below (g := gb130) (o := .cells #[.int .u64 0, .int .u64 0] 24 (0, 0)) (by (with_reducible repeat (first | refine blk_drewN ?_ _ | refine blk_drew ?_ | refine blk_alloc ?_ _)); exact BK130.out) hb)
                                    have n2_ := Aside0.mk (below_step (by repeat (first | (with_reducible first | exact HB.out | apply below_alloc | apply pw_below_drewN | apply below_drew1 | refine below_set ?_ GE124.out | refine below_set ?_ GE130.out) | exact HB.out)) hb)
                                    clear BK124
                                    clear BK130
                                    clear HB
                                    have BK124 := n0_
                                    have BK130 := n1_
                                    have HB := n2_
                                    clear n0_ n1_ n2_
                                    (try clear hb)
                                    (try clear hb2)
                                    (try clear hk)
                                    (try clear hi)
                                    refine hK.out _ _ ⟨(blk_cell BK124.out 0).trans rfl, (blk_cell BK124.out 1).trans rfl⟩ (fun hHeld => ?_)
                                    clear hK K
                                    refine norm_ (a' := ?_) ?_ ?_
                                    rotate_left
                                    · show Act.put _ (some 16) _ = _
                                      simp only [Act.put, List.setIfInBounds_toArray, List.set_cons_zero, List.set_cons_succ, i64_w, i32_w]
                                      rfl
                                    refine pure_ (i := 3) (N := some 13) (v := ?_) (a' := ?_) #[true, true, true, true, false, false, true, false, false] rfl rfl (any_of HT_.out (by kernel_rfl)) (fun _ _ _ h => h) (Or.inl ⟨by rfl, ?_⟩) ?_ ?_
                                    rotate_left
                                    · intro w'
                                      go_simp
                                      with_reducible rfl
                                    rotate_left
                                    · simp only [Act.put, List.setIfInBounds_toArray, List.set_cons_zero, List.set_cons_succ, i64_w, i32_w]
                                      rfl
                                    refine pure_ (i := 4) (N := some 17) (v := ?_) (a' := ?_) #[true, true, true, true, true, false, true, false, false] rfl rfl (any_of HT_.out (by kernel_rfl)) (fun _ _ _ h => h) (Or.inl ⟨by rfl, ?_⟩) ?_ ?_
                                    rotate_left
                                    · intro w'
                                      go_simp
                                      with_reducible rfl
                                    rotate_left
                                    · simp only [Act.put, List.setIfInBounds_toArray, List.set_cons_zero, List.set_cons_succ, i64_w, i32_w]
                                      rfl
                                    refine pure_ (i := 5) (N := some 18) (v := ?_) (a' := ?_) #[true, true, true, true, true, true, true, false, false] rfl rfl (any_of HT_.out (by kernel_rfl)) (fun _ _ _ h => h) (Or.inl ⟨by rfl, ?_⟩) ?_ ?_
                                    rotate_left
                                    · intro w'
                                      go_simp
                                      with_reducible rfl
                                    rotate_left
                                    · simp only [Act.put, List.setIfInBounds_toArray, List.set_cons_zero, List.set_cons_succ, i64_w, i32_w]
                                      rfl
                                    exact norm_ (by simp only [putAll, Act.put, List.setIfInBounds_toArray, List.set_cons_zero, List.set_cons_succ]) (hCont (gb130) _ ⟨hHeld, (by (with_reducible repeat (first | refine blk_drewN ?_ _ | refine blk_drew ?_ | refine blk_alloc ?_ _)); exact BK124.out), (by (with_reducible repeat (first | refine blk_drewN ?_ _ | refine blk_drew ?_ | refine blk_alloc ?_ _)); exact BK130.out), GW130.out, GE130.out, NB124_130.out, NB130_124.out, (by repeat (first | (with_reducible first | exact HB.out | apply below_alloc | apply pw_below_drewN | apply below_drew1 | refine below_set ?_ GE124.out | refine below_set ?_ GE130.out) | exact HB.out))⟩)
                                rintro gb130 w38 ⟨hS_, h0_, h1_, h2_, h3_, h4_, h5_, h6_⟩
                                have n0_ : Aside0 (w38.heap[gb124]? = some (.cells #[.int .u64 18446744073709551615, .int .u64 18446744073709551615] 24 (0, 0))) := ⟨h0_⟩
                                have n1_ : Aside0 (w38.heap[gb130]? = some (.cells #[.int .u64 0, .int .u64 0] 24 (0, 0))) := ⟨h1_⟩
                                have n2_ : Aside0 (w.heap.size ≤ gb130) := ⟨h2_⟩
                                have n3_ : Aside0 (w.heap.size ≤ gb130) := ⟨h3_⟩
                                have n4_ : Aside0 (gb124 ≠ gb130) := ⟨h4_⟩
                                have n5_ : Aside0 (gb130 ≠ gb124) := ⟨h5_⟩
                                have n6_ : Aside0 (Below w.heap.size w w38) := ⟨h6_⟩
                                clear BK124
                                clear HB
                                clear h0_ h1_ h2_ h3_ h4_ h5_ h6_
                                have BK124 := n0_
                                have BK130 := n1_
                                have GW130 := n2_
                                have GE130 := n3_
                                have NB124_130 := n4_
                                have NB130_124 := n5_
                                have HB := n6_
                                clear n0_ n1_ n2_ n3_ n4_ n5_ n6_
                                have hHeld : w38.cell? ⟨gb124, 0, none⟩ = some (.int .u64 18446744073709551615) ∧ w38.cell? ⟨gb124, 1, none⟩ = some (.int .u64 18446744073709551615) := hS_
                                refine norm_ (a' := ?_) ?_ ?_
                                rotate_left
                                · simp only [putAll, Act.put, List.setIfInBounds_toArray, List.set_cons_zero, List.set_cons_succ]
                                  rfl
                                refine one_ (i := 7) (N := none) #[true, true, true, true, true, true, true, true, false] rfl rfl (one_of HT_.out (by kernel_rfl)) (by decide) (fun K hK => ?_)
                                have hs39 : w38.cell? ⟨gb130, 0, none⟩ = some (.int .u64 0) := (blk_cell BK130.out 0).trans rfl
                                have hfs39 := blk_frozen BK130.out 0
                                have hns39_0 := NB124_130.out
                                have hms39_0 := NB130_124.out
                                have hs40 : w38.cell? ⟨gb130, 1, none⟩ = some (.int .u64 0) := (blk_cell BK130.out 1).trans rfl
                                have hfs40 := blk_frozen BK130.out 1
                                have hns40_0 := NB124_130.out
                                have hms40_0 := NB130_124.out
                                refine skip_ (w1 := ?_) (by rfl) rfl ?_ ?_
                                rotate_left
                                · go_simp
                                  rfl
                                refine hK.out _ _ ⟨((cell_far (p := ⟨gb130, _, none⟩) NB124_130.out _).trans (((cell_far (p := ⟨gb130, _, none⟩) NB124_130.out _).trans (hHeld.1)))), ((cell_far (p := ⟨gb130, _, none⟩) NB124_130.out _).trans (((cell_far (p := ⟨gb130, _, none⟩) NB124_130.out _).trans (hHeld.2))))⟩ (fun hHeld => ?_)
                                clear hK K
                                refine pure_ (i := 8) (N := some 3) (v := ?_) (a' := ?_) #[true, true, true, true, true, true, true, true, true] rfl rfl (any_of HT_.out (by kernel_rfl)) (fun _ _ _ h => h) (Or.inl ⟨by rfl, ?_⟩) ?_ ?_
                                rotate_left
                                · intro w'
                                  go_simp
                                  with_reducible rfl
                                rotate_left
                                · simp only [Act.put, List.setIfInBounds_toArray, List.set_cons_zero, List.set_cons_succ, i64_w, i32_w]
                                  rfl
                                refine done_ (done_of HT_.out (by kernel_rfl)) ?_
                                try go_wp2_with (first | ((with_reducible refine gate_callee (f := 22) rfl ?_); refine goesL_ (some 20) rfl rfl Try.func22 (by kernel_rfl) rfl #[.int .u64 1] rfl (by (try simp only [List.map_toArray, List.map_cons, List.map_nil]); first | done | rfl | (simp only [List.length_drop, List.length_take]; rfl)) ?_; (with_reducible refine (wide_Of.calls 1 t131 t132 _ A3.out).mono ?_); rintro e w41 ⟨rfl, hb⟩; refine ⟨_, rfl, ?_⟩; have n0_ := Aside0.mk (blk_below (g := gb124) (o := .cells #[.int .u64 18446744073709551615, .int .u64 18446744073709551615] 24 (0, 0)) (by (with_reducible repeat (first | refine blk_drewN ?_ _ | refine blk_drew ?_ | refine blk_alloc ?_ _)); refine blk_far ?_ NB124_130.out _; (with_reducible repeat (first | refine blk_drewN ?_ _ | refine blk_drew ?_ | refine blk_alloc ?_ _)); refine blk_far ?_ NB124_130.out _; (with_reducible repeat (first | refine blk_drewN ?_ _ | refine blk_drew ?_ | refine blk_alloc ?_ _)); exact BK124.out) hb); have n1_ := Aside0.mk (blk_below (g := gb130) (o := .cells #[.int .u64 t127, .int .u64 t128] 24 (0, 0)) (by (with_reducible repeat (first | refine blk_drewN ?_ _ | refine blk_drew ?_ | refine blk_alloc ?_ _)); refine blk_put (cs := #[.int .u64 t127, .int .u64 0]) ?_ 1 _ rfl; (with_reducible repeat (first | refine blk_drewN ?_ _ | refine blk_drew ?_ | refine blk_alloc ?_ _)); refine blk_put (cs := #[.int .u64 0, .int .u64 0]) ?_ 0 _ rfl; (with_reducible repeat (first | refine blk_drewN ?_ _ | refine blk_drew ?_ | refine blk_alloc ?_ _)); exact BK130.out) hb); have n2_ := Aside0.mk (below_step (by repeat (first | (with_reducible first | exact HB.out | apply below_alloc | apply pw_below_drewN | apply below_drew1 | refine below_set ?_ GE124.out | refine below_set ?_ GE130.out) | exact HB.out)) hb); clear BK124; clear BK130; clear HB; have BK124 := n0_; have BK130 := n1_; have HB := n2_; clear n0_ n1_ n2_; (try clear hb); (try clear hb2); (try clear hk); (try clear hi)) | ((with_reducible refine gate_callee (f := 22) rfl ?_); refine goesL_ (some 21) rfl rfl Try.func22 (by kernel_rfl) rfl #[.int .u64 2] rfl (by (try simp only [List.map_toArray, List.map_cons, List.map_nil]); first | done | rfl | (simp only [List.length_drop, List.length_take]; rfl)) ?_; (with_reducible refine (wide_Of.calls 2 t125 t126 _ A4.out).mono ?_); rintro e w42 ⟨rfl, hb⟩; refine ⟨_, rfl, ?_⟩; have n0_ := Aside0.mk (blk_below (g := gb124) (o := .cells #[.int .u64 18446744073709551615, .int .u64 18446744073709551615] 24 (0, 0)) (by (with_reducible repeat (first | refine blk_drewN ?_ _ | refine blk_drew ?_ | refine blk_alloc ?_ _)); exact BK124.out) hb); have n1_ := Aside0.mk (blk_below (g := gb130) (o := .cells #[.int .u64 t127, .int .u64 t128] 24 (0, 0)) (by (with_reducible repeat (first | refine blk_drewN ?_ _ | refine blk_drew ?_ | refine blk_alloc ?_ _)); exact BK130.out) hb); have n2_ := Aside0.mk (below_step (by repeat (first | (with_reducible first | exact HB.out | apply below_alloc | apply pw_below_drewN | apply below_drew1 | refine below_set ?_ GE124.out | refine below_set ?_ GE130.out) | exact HB.out)) hb); clear BK124; clear BK130; clear HB; have BK124 := n0_; have BK130 := n1_; have HB := n2_; clear n0_ n1_ n2_; (try clear hb); (try clear hb2); (try clear hk); (try clear hi)) | ((with_reducible refine gate_callee (f := 12) rfl ?_); refine goesL_ (some 22) rfl rfl Try.func12 (by kernel_rfl) rfl #[.agg #[.int .u64 t131, .int .u64 t132], .agg #[.int .u64 t125, .int .u64 t126]] rfl (by (try simp only [List.map_toArray, List.map_cons, List.map_nil]); first | done | rfl | (simp only [List.length_drop, List.length_take]; rfl)) ?_; (with_reducible refine (wide_Sub.calls t131 t132 t125 t126 t135 t136 true _ A5.out).mono ?_); rintro e w43 ⟨rfl, hb⟩; refine ⟨_, rfl, ?_⟩; have n0_ := Aside0.mk (blk_below (g := gb124) (o := .cells #[.int .u64 18446744073709551615, .int .u64 18446744073709551615] 24 (0, 0)) (by (with_reducible repeat (first | refine blk_drewN ?_ _ | refine blk_drew ?_ | refine blk_alloc ?_ _)); exact BK124.out) hb); have n1_ := Aside0.mk (blk_below (g := gb130) (o := .cells #[.int .u64 t127, .int .u64 t128] 24 (0, 0)) (by (with_reducible repeat (first | refine blk_drewN ?_ _ | refine blk_drew ?_ | refine blk_alloc ?_ _)); exact BK130.out) hb); have n2_ := Aside0.mk (below_step (by repeat (first | (with_reducible first | exact HB.out | apply below_alloc | apply pw_below_drewN | apply below_drew1 | refine below_set ?_ GE124.out | refine below_set ?_ GE130.out) | exact HB.out)) hb); clear BK124; clear BK130; clear HB; have BK124 := n0_; have BK130 := n1_; have HB := n2_; clear n0_ n1_ n2_; (try clear hb); (try clear hb2); (try clear hk); (try clear hi)) | ((with_reducible refine gate_dst (N := 4) rfl ?_); refine box_event ?hg (N := 4) ?hd (cs := #[.int .u64 0, .int .u64 0]) (t := 24) ?hr ?_; (case hd => rfl); (case hg => rfl); (case hr => first | (go_simp; done) | (go_simp; rfl)); intro gb138 hg w44 hbox hb; have n0_ := Aside0.mk (blk_below (g := gb124) (o := .cells #[.int .u64 18446744073709551615, .int .u64 18446744073709551615] 24 (0, 0)) (by (with_reducible repeat (first | refine blk_drewN ?_ _ | refine blk_drew ?_ | refine blk_alloc ?_ _)); exact BK124.out) hb); have n1_ := Aside0.mk (blk_below (g := gb130) (o := .cells #[.int .u64 t127, .int .u64 t128] 24 (0, 0)) (by (with_reducible repeat (first | refine blk_drewN ?_ _ | refine blk_drew ?_ | refine blk_alloc ?_ _)); exact BK130.out) hb); have n2_ := Aside0.mk (below_step (by repeat (first | (with_reducible first | exact HB.out | apply below_alloc | apply pw_below_drewN | apply below_drew1 | refine below_set ?_ GE124.out | refine below_set ?_ GE130.out) | exact HB.out)) hb); have n3_ := Aside0.mk (hbox); have n4_ := Aside0.mk ((by rw [hg]; exact (below_size (by repeat (first | (with_reducible first | exact HB.out | apply below_alloc | apply pw_below_drewN | apply below_drew1 | refine below_set ?_ GE124.out | refine below_set ?_ GE130.out) | exact HB.out))) : w.heap.size ≤ gb138)); have n5_ := Aside0.mk ((by rw [hg]; exact (below_size (by repeat (first | (with_reducible first | exact HB.out | apply below_alloc | apply pw_below_drewN | apply below_drew1 | refine below_set ?_ GE124.out | refine below_set ?_ GE130.out) | exact HB.out))) : w.heap.size ≤ gb138)); have n6_ := Aside0.mk ((by rw [hg]; exact Nat.ne_of_lt (blk_lt (g := gb124) (o := .cells #[.int .u64 18446744073709551615, .int .u64 18446744073709551615] 24 (0, 0)) (by (with_reducible repeat (first | refine blk_drewN ?_ _ | refine blk_drew ?_ | refine blk_alloc ?_ _)); exact BK124.out)) : gb124 ≠ gb138)); have n7_ := Aside0.mk ((by rw [hg]; exact Nat.ne_of_gt (blk_lt (g := gb124) (o := .cells #[.int .u64 18446744073709551615, .int .u64 18446744073709551615] 24 (0, 0)) (by (with_reducible repeat (first | refine blk_drewN ?_ _ | refine blk_drew ?_ | refine blk_alloc ?_ _)); exact BK124.out)) : gb138 ≠ gb124)); have n8_ := Aside0.mk ((by rw [hg]; exact Nat.ne_of_lt (blk_lt (g := gb130) (o := .cells #[.int .u64 t127, .int .u64 t128] 24 (0, 0)) (by (with_reducible repeat (first | refine blk_drewN ?_ _ | refine blk_drew ?_ | refine blk_alloc ?_ _)); exact BK130.out)) : gb130 ≠ gb138)); have n9_ := Aside0.mk ((by rw [hg]; exact Nat.ne_of_gt (blk_lt (g := gb130) (o := .cells #[.int .u64 t127, .int .u64 t128] 24 (0, 0)) (by (with_reducible repeat (first | refine blk_drewN ?_ _ | refine blk_drew ?_ | refine blk_alloc ?_ _)); exact BK130.out)) : gb138 ≠ gb130)); clear BK124; clear BK130; clear HB; have BK124 := n0_; have BK130 := n1_; have HB := n2_; have BK138 := n3_; have GW138 := n4_; have GE138 := n5_; have NB124_138 := n6_; have NB138_124 := n7_; have NB130_138 := n8_; have NB138_130 := n9_; clear n0_ n1_ n2_ n3_ n4_ n5_ n6_ n7_ n8_ n9_; clear hb hbox hg; have hnb45 := NB138_124.out; have hnc45 := NB124_138.out; have hnb46 := NB138_130.out; have hnc46 := NB130_138.out; have hcz47_0 : w44.cell? ⟨gb138, 0, none⟩ = some (.int .u64 0) := (blk_cell BK138.out 0).trans rfl; have hcz47_1 : w44.cell? ⟨gb138, 1, none⟩ = some (.int .u64 0) := (blk_cell BK138.out 1).trans rfl; have hfz47_0 := blk_frozen BK138.out 0; have hfz47_1 := blk_frozen BK138.out 1) | ((with_reducible refine gate_callee (f := 14) rfl ?_); refine goesL_ (some 27) rfl rfl Try.func14 (by kernel_rfl) rfl #[.agg #[.int .u64 3, .int .u64 7], .int .u64 2] rfl (by (try simp only [List.map_toArray, List.map_cons, List.map_nil]); first | done | rfl | (simp only [List.length_drop, List.length_take]; rfl)) ?_; (with_reducible refine (wide_Div.calls k 3 7 2 t139 t140 t141 t142 _ A6.out).mono ?_); rintro e w48 ⟨rfl, hb⟩; refine ⟨_, rfl, ?_⟩; have n0_ := Aside0.mk (blk_below (g := gb124) (o := .cells #[.int .u64 18446744073709551615, .int .u64 18446744073709551615] 24 (0, 0)) (by (with_reducible repeat (first | refine blk_drewN ?_ _ | refine blk_drew ?_ | refine blk_alloc ?_ _)); refine blk_far ?_ NB124_138.out _; (with_reducible repeat (first | refine blk_drewN ?_ _ | refine blk_drew ?_ | refine blk_alloc ?_ _)); refine blk_far ?_ NB124_138.out _; (with_reducible repeat (first | refine blk_drewN ?_ _ | refine blk_drew ?_ | refine blk_alloc ?_ _)); exact BK124.out) hb); have n1_ := Aside0.mk (blk_below (g := gb130) (o := .cells #[.int .u64 t127, .int .u64 t128] 24 (0, 0)) (by (with_reducible repeat (first | refine blk_drewN ?_ _ | refine blk_drew ?_ | refine blk_alloc ?_ _)); refine blk_far ?_ NB130_138.out _; (with_reducible repeat (first | refine blk_drewN ?_ _ | refine blk_drew ?_ | refine blk_alloc ?_ _)); refine blk_far ?_ NB130_138.out _; (with_reducible repeat (first | refine blk_drewN ?_ _ | refine blk_drew ?_ | refine blk_alloc ?_ _)); exact BK130.out) hb); have n2_ := Aside0.mk (blk_below (g := gb138) (o := .cells #[.int .u64 t135, .int .u64 t136] 24 (0, 0)) (by (with_reducible repeat (first | refine blk_drewN ?_ _ | refine blk_drew ?_ | refine blk_alloc ?_ _)); refine blk_put (cs := #[.int .u64 t135, .int .u64 0]) ?_ 1 _ rfl; (with_reducible repeat (first | refine blk_drewN ?_ _ | refine blk_drew ?_ | refine blk_alloc ?_ _)); refine blk_put (cs := #[.int .u64 0, .int .u64 0]) ?_ 0 _ rfl; (with_reducible repeat (first | refine blk_drewN ?_ _ | refine blk_drew ?_ | refine blk_alloc ?_ _)); exact BK138.out) hb); have n3_ := Aside0.mk (below_step (by repeat (first | (with_reducible first | exact HB.out | apply below_alloc | apply pw_below_drewN | apply below_drew1 | refine below_set ?_ GE124.out | refine below_set ?_ GE130.out | refine below_set ?_ GE138.out) | exact HB.out)) hb); clear BK124; clear BK130; clear BK138; clear HB; have BK124 := n0_; have BK130 := n1_; have BK138 := n2_; have HB := n3_; clear n0_ n1_ n2_ n3_; (try clear hb); (try clear hb2); (try clear hk); (try clear hi)) | ((with_reducible refine gate_dst (N := 6) rfl ?_); refine box_event ?hg (N := 6) ?hd (cs := #[.int .u64 0, .int .u64 0]) (t := 24) ?hr ?_; (case hd => rfl); (case hg => rfl); (case hr => first | (go_simp; done) | (go_simp; rfl)); intro gb143 hg w49 hbox hb; have n0_ := Aside0.mk (blk_below (g := gb124) (o := .cells #[.int .u64 18446744073709551615, .int .u64 18446744073709551615] 24 (0, 0)) (by (with_reducible repeat (first | refine blk_drewN ?_ _ | refine blk_drew ?_ | refine blk_alloc ?_ _)); exact BK124.out) hb); have n1_ := Aside0.mk (blk_below (g := gb130) (o := .cells #[.int .u64 t127, .int .u64 t128] 24 (0, 0)) (by (with_reducible repeat (first | refine blk_drewN ?_ _ | refine blk_drew ?_ | refine blk_alloc ?_ _)); exact BK130.out) hb); have n2_ := Aside0.mk (blk_below (g := gb138) (o := .cells #[.int .u64 t135, .int .u64 t136] 24 (0, 0)) (by (with_reducible repeat (first | refine blk_drewN ?_ _ | refine blk_drew ?_ | refine blk_alloc ?_ _)); exact BK138.out) hb); have n3_ := Aside0.mk (below_step (by repeat (first | (with_reducible first | exact HB.out | apply below_alloc | apply pw_below_drewN | apply below_drew1 | refine below_set ?_ GE124.out | refine below_set ?_ GE130.out | refine below_set ?_ GE138.out) | exact HB.out)) hb); have n4_ := Aside0.mk (hbox); have n5_ := Aside0.mk ((by rw [hg]; exact (below_size (by repeat (first | (with_reducible first | exact HB.out | apply below_alloc | apply pw_below_drewN | apply below_drew1 | refine below_set ?_ GE124.out | refine below_set ?_ GE130.out | refine below_set ?_ GE138.out) | exact HB.out))) : w.heap.size ≤ gb143)); have n6_ := Aside0.mk ((by rw [hg]; exact (below_size (by repeat (first | (with_reducible first | exact HB.out | apply below_alloc | apply pw_below_drewN | apply below_drew1 | refine below_set ?_ GE124.out | refine below_set ?_ GE130.out | refine below_set ?_ GE138.out) | exact HB.out))) : w.heap.size ≤ gb143)); have n7_ := Aside0.mk ((by rw [hg]; exact Nat.ne_of_lt (blk_lt (g := gb124) (o := .cells #[.int .u64 18446744073709551615, .int .u64 18446744073709551615] 24 (0, 0)) (by (with_reducible repeat (first | refine blk_drewN ?_ _ | refine blk_drew ?_ | refine blk_alloc ?_ _)); exact BK124.out)) : gb124 ≠ gb143)); have n8_ := Aside0.mk ((by rw [hg]; exact Nat.ne_of_gt (blk_lt (g := gb124) (o := .cells #[.int .u64 18446744073709551615, .int .u64 18446744073709551615] 24 (0, 0)) (by (with_reducible repeat (first | refine blk_drewN ?_ _ | refine blk_drew ?_ | refine blk_alloc ?_ _)); exact BK124.out)) : gb143 ≠ gb124)); have n9_ := Aside0.mk ((by rw [hg]; exact Nat.ne_of_lt (blk_lt (g := gb130) (o := .cells #[.int .u64 t127, .int .u64 t128] 24 (0, 0)) (by (with_reducible repeat (first | refine blk_drewN ?_ _ | refine blk_drew ?_ | refine blk_alloc ?_ _)); exact BK130.out)) : gb130 ≠ gb143)); have n10_ := Aside0.mk ((by rw [hg]; exact Nat.ne_of_gt (blk_lt (g := gb130) (o := .cells #[.int .u64 t127, .int .u64 t128] 24 (0, 0)) (by (with_reducible repeat (first | refine blk_drewN ?_ _ | refine blk_drew ?_ | refine blk_alloc ?_ _)); exact BK130.out)) : gb143 ≠ gb130)); have n11_ := Aside0.mk ((by rw [hg]; exact Nat.ne_of_lt (blk_lt (g := gb138) (o := .cells #[.int .u64 t135, .int .u64 t136] 24 (0, 0)) (by (with_reducible repeat (first | refine blk_drewN ?_ _ | refine blk_drew ?_ | refine blk_alloc ?_ _)); exact BK138.out)) : gb138 ≠ gb143)); have n12_ := Aside0.mk ((by rw [hg]; exact Nat.ne_of_gt (blk_lt (g := gb138) (o := .cells #[.int .u64 t135, .int .u64 t136] 24 (0, 0)) (by (with_reducible repeat (first | refine blk_drewN ?_ _ | refine blk_drew ?_ | refine blk_alloc ?_ _)); exact BK138.out)) : gb143 ≠ gb138)); clear BK124; clear BK130; clear BK138; clear HB; have BK124 := n0_; have BK130 := n1_; have BK138 := n2_; have HB := n3_; have BK143 := n4_; have GW143 := n5_; have GE143 := n6_; have NB124_143 := n7_; have NB143_124 := n8_; have NB130_143 := n9_; have NB143_130 := n10_; have NB138_143 := n11_; have NB143_138 := n12_; clear n0_ n1_ n2_ n3_ n4_ n5_ n6_ n7_ n8_ n9_ n10_ n11_ n12_; clear hb hbox hg; have hnb50 := NB143_124.out; have hnc50 := NB124_143.out; have hnb51 := NB143_130.out; have hnc51 := NB130_143.out; have hnb52 := NB143_138.out; have hnc52 := NB138_143.out; have hcz53_0 : w49.cell? ⟨gb143, 0, none⟩ = some (.int .u64 0) := (blk_cell BK143.out 0).trans rfl; have hcz53_1 : w49.cell? ⟨gb143, 1, none⟩ = some (.int .u64 0) := (blk_cell BK143.out 1).trans rfl; have hfz53_0 := blk_frozen BK143.out 0; have hfz53_1 := blk_frozen BK143.out 1; have hnb54 := NB124_130.out; have hnc54 := NB130_124.out; have hcz55_0 : w49.cell? ⟨gb124, 0, none⟩ = some (.int .u64 18446744073709551615) := (blk_cell BK124.out 0).trans rfl; have hcz55_1 : w49.cell? ⟨gb124, 1, none⟩ = some (.int .u64 18446744073709551615) := (blk_cell BK124.out 1).trans rfl; have hfz55_0 := blk_frozen BK124.out 0; have hfz55_1 := blk_frozen BK124.out 1) | ((with_reducible refine gate_callee (f := 14) rfl ?_); refine goesL_ (some 33) rfl rfl Try.func14 (by kernel_rfl) rfl #[.agg #[.int .u64 18446744073709551615, .int .u64 18446744073709551615], .int .u64 0] rfl (by (try simp only [List.map_toArray, List.map_cons, List.map_nil]); first | done | rfl | (simp only [List.length_drop, List.length_take]; rfl)) ?_; (with_reducible refine (wide_Div.calls k 18446744073709551615 18446744073709551615 0 t144 t145 t146 t147 _ A7.out).mono ?_); rintro e w56 ⟨rfl, hb⟩; refine ⟨_, rfl, ?_⟩; have n0_ := Aside0.mk (blk_below (g := gb124) (o := .cells #[.int .u64 18446744073709551615, .int .u64 18446744073709551615] 24 (0, 0)) (by (with_reducible repeat (first | refine blk_drewN ?_ _ | refine blk_drew ?_ | refine blk_alloc ?_ _)); refine blk_far ?_ NB124_143.out _; (with_reducible repeat (first | refine blk_drewN ?_ _ | refine blk_drew ?_ | refine blk_alloc ?_ _)); refine blk_far ?_ NB124_143.out _; (with_reducible repeat (first | refine blk_drewN ?_ _ | refine blk_drew ?_ | refine blk_alloc ?_ _)); exact BK124.out) hb); have n1_ := Aside0.mk (blk_below (g := gb130) (o := .cells #[.int .u64 t127, .int .u64 t128] 24 (0, 0)) (by (with_reducible repeat (first | refine blk_drewN ?_ _ | refine blk_drew ?_ | refine blk_alloc ?_ _)); refine blk_far ?_ NB130_143.out _; (with_reducible repeat (first | refine blk_drewN ?_ _ | refine blk_drew ?_ | refine blk_alloc ?_ _)); refine blk_far ?_ NB130_143.out _; (with_reducible repeat (first | refine blk_drewN ?_ _ | refine blk_drew ?_ | refine blk_alloc ?_ _)); exact BK130.out) hb); have n2_ := Aside0.mk (blk_below (g := gb138) (o := .cells #[.int .u64 t135, .int .u64 t136] 24 (0, 0)) (by (with_reducible repeat (first | refine blk_drewN ?_ _ | refine blk_drew ?_ | refine blk_alloc ?_ _)); refine blk_far ?_ NB138_143.out _; (with_reducible repeat (first | refine blk_drewN ?_ _ | refine blk_drew ?_ | refine blk_alloc ?_ _)); refine blk_far ?_ NB138_143.out _; (with_reducible repeat (first | refine blk_drewN ?_ _ | refine blk_drew ?_ | refine blk_alloc ?_ _)); exact BK138.out) hb); have n3_ := Aside0.mk (blk_below (g := gb143) (o := .cells #[.int .u64 t139, .int .u64 t140] 24 (0, 0)) (by (with_reducible repeat (first | refine blk_drewN ?_ _ | refine blk_drew ?_ | refine blk_alloc ?_ _)); refine blk_put (cs := #[.int .u64 t139, .int .u64 0]) ?_ 1 _ rfl; (with_reducible repeat (first | refine blk_drewN ?_ _ | refine blk_drew ?_ | refine blk_alloc ?_ _)); refine blk_put (cs := #[.int .u64 0, .int .u64 0]) ?_ 0 _ rfl; (with_reducible repeat (first | refine blk_drewN ?_ _ | refine blk_drew ?_ | refine blk_alloc ?_ _)); exact BK143.out) hb); have n4_ := Aside0.mk (below_step (by repeat (first | (with_reducible first | exact HB.out | apply below_alloc | apply pw_below_drewN | apply below_drew1 | refine below_set ?_ GE124.out | refine below_set ?_ GE130.out | refine below_set ?_ GE138.out | refine below_set ?_ GE143.out) | exact HB.out)) hb); clear BK124; clear BK130; clear BK138; clear BK143; clear HB; have BK124 := n0_; have BK130 := n1_; have BK138 := n2_; have BK143 := n3_; have HB := n4_; clear n0_ n1_ n2_ n3_ n4_; (try clear hb); (try clear hb2); (try clear hk); (try clear hi)) | ((with_reducible refine gate_dst (N := 9) rfl ?_); refine box_event ?hg (N := 9) ?hd (cs := #[.int .u64 0, .int .u64 0]) (t := 24) ?hr ?_; (case hd => rfl); (case hg => rfl); (case hr => first | (go_simp; done) | (go_simp; rfl)); intro gb148 hg w57 hbox hb; have n0_ := Aside0.mk (blk_below (g := gb124) (o := .cells #[.int .u64 18446744073709551615, .int .u64 18446744073709551615] 24 (0, 0)) (by (with_reducible repeat (first | refine blk_drewN ?_ _ | refine blk_drew ?_ | refine blk_alloc ?_ _)); exact BK124.out) hb); have n1_ := Aside0.mk (blk_below (g := gb130) (o := .cells #[.int .u64 t127, .int .u64 t128] 24 (0, 0)) (by (with_reducible repeat (first | refine blk_drewN ?_ _ | refine blk_drew ?_ | refine blk_alloc ?_ _)); exact BK130.out) hb); have n2_ := Aside0.mk (blk_below (g := gb138) (o := .cells #[.int .u64 t135, .int .u64 t136] 24 (0, 0)) (by (with_reducible repeat (first | refine blk_drewN ?_ _ | refine blk_drew ?_ | refine blk_alloc ?_ _)); exact BK138.out) hb); have n3_ := Aside0.mk (blk_below (g := gb143) (o := .cells #[.int .u64 t139, .int .u64 t140] 24 (0, 0)) (by (with_reducible repeat (first | refine blk_drewN ?_ _ | refine blk_drew ?_ | refine blk_alloc ?_ _)); exact BK143.out) hb); have n4_ := Aside0.mk (below_step (by repeat (first | (with_reducible first | exact HB.out | apply below_alloc | apply pw_below_drewN | apply below_drew1 | refine below_set ?_ GE124.out | refine below_set ?_ GE130.out | refine below_set ?_ GE138.out | refine below_set ?_ GE143.out) | exact HB.out)) hb); have n5_ := Aside0.mk (hbox); have n6_ := Aside0.mk ((by rw [hg]; exact (below_size (by repeat (first | (with_reducible first | exact HB.out | apply below_alloc | apply pw_below_drewN | apply below_drew1 | refine below_set ?_ GE124.out | refine below_set ?_ GE130.out | refine below_set ?_ GE138.out | refine below_set ?_ GE143.out) | exact HB.out))) : w.heap.size ≤ gb148)); have n7_ := Aside0.mk ((by rw [hg]; exact (below_size (by repeat (first | (with_reducible first | exact HB.out | apply below_alloc | apply pw_below_drewN | apply below_drew1 | refine below_set ?_ GE124.out | refine below_set ?_ GE130.out | refine below_set ?_ GE138.out | refine below_set ?_ GE143.out) | exact HB.out))) : w.heap.size ≤ gb148)); have n8_ := Aside0.mk ((by rw [hg]; exact Nat.ne_of_lt (blk_lt (g := gb124) (o := .cells #[.int .u64 18446744073709551615, .int .u64 18446744073709551615] 24 (0, 0)) (by (with_reducible repeat (first | refine blk_drewN ?_ _ | refine blk_drew ?_ | refine blk_alloc ?_ _)); exact BK124.out)) : gb124 ≠ gb148)); have n9_ := Aside0.mk ((by rw [hg]; exact Nat.ne_of_gt (blk_lt (g := gb124) (o := .cells #[.int .u64 18446744073709551615, .int .u64 18446744073709551615] 24 (0, 0)) (by (with_reducible repeat (first | refine blk_drewN ?_ _ | refine blk_drew ?_ | refine blk_alloc ?_ _)); exact BK124.out)) : gb148 ≠ gb124)); have n10_ := Aside0.mk ((by rw [hg]; exact Nat.ne_of_lt (blk_lt (g := gb130) (o := .cells #[.int .u64 t127, .int .u64 t128] 24 (0, 0)) (by (with_reducible repeat (first | refine blk_drewN ?_ _ | refine blk_drew ?_ | refine blk_alloc ?_ _)); exact BK130.out)) : gb130 ≠ gb148)); have n11_ := Aside0.mk ((by rw [hg]; exact Nat.ne_of_gt (blk_lt (g := gb130) (o := .cells #[.int .u64 t127, .int .u64 t128] 24 (0, 0)) (by (with_reducible repeat (first | refine blk_drewN ?_ _ | refine blk_drew ?_ | refine blk_alloc ?_ _)); exact BK130.out)) : gb148 ≠ gb130)); have n12_ := Aside0.mk ((by rw [hg]; exact Nat.ne_of_lt (blk_lt (g := gb138) (o := .cells #[.int .u64 t135, .int .u64 t136] 24 (0, 0)) (by (with_reducible repeat (first | refine blk_drewN ?_ _ | refine blk_drew ?_ | refine blk_alloc ?_ _)); exact BK138.out)) : gb138 ≠ gb148)); have n13_ := Aside0.mk ((by rw [hg]; exact Nat.ne_of_gt (blk_lt (g := gb138) (o := .cells #[.int .u64 t135, .int .u64 t136] 24 (0, 0)) (by (with_reducible repeat (first | refine blk_drewN ?_ _ | refine blk_drew ?_ | refine blk_alloc ?_ _)); exact BK138.out)) : gb148 ≠ gb138)); have n14_ := Aside0.mk ((by rw [hg]; exact Nat.ne_of_lt (blk_lt (g := gb143) (o := .cells #[.int .u64 t139, .int .u64 t140] 24 (0, 0)) (by (with_reducible repeat (first | refine blk_drewN ?_ _ | refine blk_drew ?_ | refine blk_alloc ?_ _)); exact BK143.out)) : gb143 ≠ gb148)); have n15_ := Aside0.mk ((by rw [hg]; exact Nat.ne_of_gt (blk_lt (g := gb143) (o := .cells #[.int .u64 t139, .int .u64 t140] 24 (0, 0)) (by (with_reducible repeat (first | refine blk_drewN ?_ _ | refine blk_drew ?_ | refine blk_alloc ?_ _)); exact BK143.out)) : gb148 ≠ gb143)); clear BK124; clear BK130; clear BK138; clear BK143; clear HB; have BK124 := n0_; have BK130 := n1_; have BK138 := n2_; have BK143 := n3_; have HB := n4_; have BK148 := n5_; have GW148 := n6_; have GE148 := n7_; have NB124_148 := n8_; have NB148_124 := n9_; have NB130_148 := n10_; have NB148_130 := n11_; have NB138_148 := n12_; have NB148_138 := n13_; have NB143_148 := n14_; have NB148_143 := n15_; clear n0_ n1_ n2_ n3_ n4_ n5_ n6_ n7_ n8_ n9_ n10_ n11_ n12_ n13_ n14_ n15_; clear hb hbox hg; have hnb58 := NB148_124.out; have hnc58 := NB124_148.out; have hnb59 := NB148_130.out; have hnc59 := NB130_148.out; have hnb60 := NB148_138.out; have hnc60 := NB138_148.out; have hnb61 := NB148_143.out; have hnc61 := NB143_148.out; have hcz62_0 : w57.cell? ⟨gb148, 0, none⟩ = some (.int .u64 0) := (blk_cell BK148.out 0).trans rfl; have hcz62_1 : w57.cell? ⟨gb148, 1, none⟩ = some (.int .u64 0) := (blk_cell BK148.out 1).trans rfl; have hfz62_0 := blk_frozen BK148.out 0; have hfz62_1 := blk_frozen BK148.out 1))
                                have n0_ : Aside0 (((w57.setCell ⟨gb148, 0, none⟩ (.int .u64 t144)).setCell ⟨gb148, 1, none⟩ (.int .u64 t145)).heap[gb124]? = some (.cells #[.int .u64 18446744073709551615, .int .u64 18446744073709551615] 24 (0, 0))) := ⟨by (with_reducible repeat (first | refine blk_drewN ?_ _ | refine blk_drew ?_ | refine blk_alloc ?_ _)); refine blk_far ?_ NB124_148.out _; (with_reducible repeat (first | refine blk_drewN ?_ _ | refine blk_drew ?_ | refine blk_alloc ?_ _)); refine blk_far ?_ NB124_148.out _; (with_reducible repeat (first | refine blk_drewN ?_ _ | refine blk_drew ?_ | refine blk_alloc ?_ _)); exact BK124.out⟩
                                have n1_ : Aside0 (((w57.setCell ⟨gb148, 0, none⟩ (.int .u64 t144)).setCell ⟨gb148, 1, none⟩ (.int .u64 t145)).heap[gb130]? = some (.cells #[.int .u64 t127, .int .u64 t128] 24 (0, 0))) := ⟨by (with_reducible repeat (first | refine blk_drewN ?_ _ | refine blk_drew ?_ | refine blk_alloc ?_ _)); refine blk_far ?_ NB130_148.out _; (with_reducible repeat (first | refine blk_drewN ?_ _ | refine blk_drew ?_ | refine blk_alloc ?_ _)); refine blk_far ?_ NB130_148.out _; (with_reducible repeat (first | refine blk_drewN ?_ _ | refine blk_drew ?_ | refine blk_alloc ?_ _)); exact BK130.out⟩
                                have n2_ : Aside0 (((w57.setCell ⟨gb148, 0, none⟩ (.int .u64 t144)).setCell ⟨gb148, 1, none⟩ (.int .u64 t145)).heap[gb138]? = some (.cells #[.int .u64 t135, .int .u64 t136] 24 (0, 0))) := ⟨by (with_reducible repeat (first | refine blk_drewN ?_ _ | refine blk_drew ?_ | refine blk_alloc ?_ _)); refine blk_far ?_ NB138_148.out _; (with_reducible repeat (first | refine blk_drewN ?_ _ | refine blk_drew ?_ | refine blk_alloc ?_ _)); refine blk_far ?_ NB138_148.out _; (with_reducible repeat (first | refine blk_drewN ?_ _ | refine blk_drew ?_ | refine blk_alloc ?_ _)); exact BK138.out⟩
                                have n3_ : Aside0 (((w57.setCell ⟨gb148, 0, none⟩ (.int .u64 t144)).setCell ⟨gb148, 1, none⟩ (.int .u64 t145)).heap[gb143]? = some (.cells #[.int .u64 t139, .int .u64 t140] 24 (0, 0))) := ⟨by (with_reducible repeat (first | refine blk_drewN ?_ _ | refine blk_drew ?_ | refine blk_alloc ?_ _)); refine blk_far ?_ NB143_148.out _; (with_reducible repeat (first | refine blk_drewN ?_ _ | refine blk_drew ?_ | refine blk_alloc ?_ _)); refine blk_far ?_ NB143_148.out _; (with_reducible repeat (first | refine blk_drewN ?_ _ | refine blk_drew ?_ | refine blk_alloc ?_ _)); exact BK143.out⟩
                                have n4_ : Aside0 (((w57.setCell ⟨gb148, 0, none⟩ (.int .u64 t144)).setCell ⟨gb148, 1, none⟩ (.int .u64 t145)).heap[gb148]? = some (.cells #[.int .u64 t144, .int .u64 t145] 24 (0, 0))) := ⟨by (with_reducible repeat (first | refine blk_drewN ?_ _ | refine blk_drew ?_ | refine blk_alloc ?_ _)); refine blk_put (cs := #[.int .u64 t144, .int .u64 0]) ?_ 1 _ rfl; (with_reducible repeat (first | refine blk_drewN ?_ _ | refine blk_drew ?_ | refine blk_alloc ?_ _)); refine blk_put (cs := #[.int .u64 0, .int .u64 0]) ?_ 0 _ rfl; (with_reducible repeat (first | refine blk_drewN ?_ _ | refine blk_drew ?_ | refine blk_alloc ?_ _)); exact BK148.out⟩
                                have n5_ : Aside0 (Below w.heap.size w ((w57.setCell ⟨gb148, 0, none⟩ (.int .u64 t144)).setCell ⟨gb148, 1, none⟩ (.int .u64 t145))) := ⟨by repeat (first | (with_reducible first | exact HB.out | apply below_alloc | apply pw_below_drewN | apply below_drew1 | refine below_set ?_ GE124.out | refine below_set ?_ GE130.out | refine below_set ?_ GE138.out | refine below_set ?_ GE143.out | refine below_set ?_ GE148.out) | exact HB.out)⟩
                                (try clear BK124)
                                (try clear BK130)
                                (try clear BK138)
                                (try clear BK143)
                                (try clear BK148)
                                (try clear HB)
                                generalize ((w57.setCell ⟨gb148, 0, none⟩ (.int .u64 t144)).setCell ⟨gb148, 1, none⟩ (.int .u64 t145)) = w63 at n0_ n1_ n2_ n3_ n4_ n5_ ⊢
                                have BK124 := n0_
                                have BK130 := n1_
                                have BK138 := n2_
                                have BK143 := n3_
                                have BK148 := n4_
                                have HB := n5_
                                clear n0_ n1_ n2_ n3_ n4_ n5_
                                have n0_ := Aside0.mk (blk_drew BK124.out)
                                have n1_ := Aside0.mk (blk_drew BK130.out)
                                have n2_ := Aside0.mk (blk_drew BK138.out)
                                have n3_ := Aside0.mk (blk_drew BK143.out)
                                have n4_ := Aside0.mk (blk_drew BK148.out)
                                have n5_ := Aside0.mk (below_drew1 HB.out)
                                clear BK124
                                clear BK130
                                clear BK138
                                clear BK143
                                clear BK148
                                clear HB
                                have BK124 := n0_
                                have BK130 := n1_
                                have BK138 := n2_
                                have BK143 := n3_
                                have BK148 := n4_
                                have HB := n5_
                                clear n0_ n1_ n2_ n3_ n4_ n5_
                                refine start_ (n := 74) (S := fun w' => w'.cell? ⟨gb130, 0, none⟩ = some (.int .u64 t127) ∧ w'.cell? ⟨gb130, 1, none⟩ = some (.int .u64 t128) ∧ w'.cell? ⟨gb138, 0, none⟩ = some (.int .u64 t135) ∧ w'.cell? ⟨gb138, 1, none⟩ = some (.int .u64 t136) ∧ w'.cell? ⟨gb124, 0, none⟩ = some (.int .u64 18446744073709551615) ∧ w'.cell? ⟨gb124, 1, none⟩ = some (.int .u64 18446744073709551615) ∧ w'.cell? ⟨gb143, 0, none⟩ = some (.int .u64 t139) ∧ w'.cell? ⟨gb143, 1, none⟩ = some (.int .u64 t140)) (ds := []) #[false, false, false, false, false, false, false, false, false, false, false, false, false, false, false, false, false, false, false, false, false, false, false, false, false, false, false, false, false, false, false, false, false, false, false, false, false, false, false, false, false, false, false, false, false, false, false, false, false, false, false, false, false, false, false, false, false, false, false, false, false, false, false, false, false, false, false, false, false, false, false, false, false, false] (by kernel_rfl) rfl rfl ⟨(blk_cell BK130.out 0).trans rfl, (blk_cell BK130.out 1).trans rfl, (blk_cell BK138.out 0).trans rfl, (blk_cell BK138.out 1).trans rfl, (blk_cell BK124.out 0).trans rfl, (blk_cell BK124.out 1).trans rfl, (blk_cell BK143.out 0).trans rfl, (blk_cell BK143.out 1).trans rfl⟩ (fun hHeld => ?_); refine with_tabW linhaylaw02_awake.tab6 linhaylaw02_awake.bits6 (fun HT_ HW_ => ?_)
                                generalize w63.drew = w64 at BK124 BK130 BK138 BK143 BK148 HB hHeld ⊢
                                refine pure_ (i := 1) (N := some 38) (v := ?_) (a' := ?_) #[false, true, false, false, false, false, false, false, false, false, false, false, false, false, false, false, false, false, false, false, false, false, false, false, false, false, false, false, false, false, false, false, false, false, false, false, false, false, false, false, false, false, false, false, false, false, false, false, false, false, false, false, false, false, false, false, false, false, false, false, false, false, false, false, false, false, false, false, false, false, false, false, false, false] rfl rfl (any_of HT_.out (by kernel_rfl)) (fun _ _ _ h => h) (Or.inl ⟨by rfl, ?_⟩) ?_ ?_
                                rotate_left
                                · intro w'
                                  go_simp
                                  with_reducible rfl
                                rotate_left
                                · simp only [Act.put, List.setIfInBounds_toArray, List.set_cons_zero, List.set_cons_succ, i64_w, i32_w]
                                  rfl
                                refine one_ (i := 0) (N := some 37) #[true, true, false, false, false, false, false, false, false, false, false, false, false, false, false, false, false, false, false, false, false, false, false, false, false, false, false, false, false, false, false, false, false, false, false, false, false, false, false, false, false, false, false, false, false, false, false, false, false, false, false, false, false, false, false, false, false, false, false, false, false, false, false, false, false, false, false, false, false, false, false, false, false, false] rfl rfl (one_of HT_.out (by kernel_rfl)) (by decide) (fun K hK => ?_)
                                refine goes_ Try.func16 (by kernel_rfl) rfl #[.int .u64 9223372036854775808, .int .u64 6] (by rfl) rfl rfl (by (try simp only [List.map_toArray, List.map_cons, List.map_nil]); first | done | rfl | (simp only [List.length_drop, List.length_take]; rfl)) ?_
                                with_reducible refine (wide_Mul.calls 9223372036854775808 6 t149 t150 _ A8.out).mono ?_
                                rintro e w65 ⟨rfl, hb⟩
                                refine ⟨_, rfl, ?_⟩
                                have n0_ := Aside0.mk (blk_below (g := gb124) (o := .cells #[.int .u64 18446744073709551615, .int .u64 18446744073709551615] 24 (0, 0)) (by (with_reducible repeat (first | refine blk_drewN ?_ _ | refine blk_drew ?_ | refine blk_alloc ?_ _)); exact BK124.out) hb)
                                have n1_ := Aside0.mk (blk_below (g := gb130) (o := .cells #[.int .u64 t127, .int .u64 t128] 24 (0, 0)) (by (with_reducible repeat (first | refine blk_drewN ?_ _ | refine blk_drew ?_ | refine blk_alloc ?_ _)); exact BK130.out) hb)
                                have n2_ := Aside0.mk (blk_below (g := gb138) (o := .cells #[.int .u64 t135, .int .u64 t136] 24 (0, 0)) (by (with_reducible repeat (first | refine blk_drewN ?_ _ | refine blk_drew ?_ | refine blk_alloc ?_ _)); exact BK138.out) hb)
                                have n3_ := Aside0.mk (blk_below (g := gb143) (o := .cells #[.int .u64 t139, .int .u64 t140] 24 (0, 0)) (by (with_reducible repeat (first | refine blk_drewN ?_ _ | refine blk_drew ?_ | refine blk_alloc ?_ _)); exact BK143.out) hb)
                                have n4_ := Aside0.mk (blk_below (g := gb148) (o := .cells #[.int .u64 t144, .int .u64 t145] 24 (0, 0)) (by (with_reducible repeat (first | refine blk_drewN ?_ _ | refine blk_drew ?_ | refine blk_alloc ?_ _)); exact BK148.out) hb)
                                have n5_ := Aside0.mk (below_step (by repeat (first | (with_reducible first | exact HB.out | apply below_alloc | apply pw_below_drewN | apply below_drew1 | refine below_set ?_ GE124.out | refine below_set ?_ GE130.out | refine below_set ?_ GE138.out | refine below_set ?_ GE143.out | refine below_set ?_ GE148.out) | exact HB.out)) hb)
                                clear BK124
                                clear BK130
                                clear BK138
                                clear BK143
                                clear BK148
                                clear HB
                                have BK124 := n0_
                                have BK130 := n1_
                                have BK138 := n2_
                                have BK143 := n3_
                                have BK148 := n4_
                                have HB := n5_
                                clear n0_ n1_ n2_ n3_ n4_ n5_
                                (try clear hb)
                                (try clear hb2)
                                (try clear hk)
                                (try clear hi)
                                refine hK.out _ _ ⟨(blk_cell BK130.out 0).trans rfl, (blk_cell BK130.out 1).trans rfl, (blk_cell BK138.out 0).trans rfl, (blk_cell BK138.out 1).trans rfl, (blk_cell BK124.out 0).trans rfl, (blk_cell BK124.out 1).trans rfl, (blk_cell BK143.out 0).trans rfl, (blk_cell BK143.out 1).trans rfl⟩ (fun hHeld => ?_)
                                clear hK K
                                refine norm_ (a' := ?_) ?_ ?_
                                rotate_left
                                · show Act.put _ (some 37) _ = _
                                  simp only [Act.put, List.setIfInBounds_toArray, List.set_cons_zero, List.set_cons_succ, i64_w, i32_w]
                                  rfl
                                refine pure_ (i := 2) (N := some 39) (v := ?_) (a' := ?_) #[true, true, true, false, false, false, false, false, false, false, false, false, false, false, false, false, false, false, false, false, false, false, false, false, false, false, false, false, false, false, false, false, false, false, false, false, false, false, false, false, false, false, false, false, false, false, false, false, false, false, false, false, false, false, false, false, false, false, false, false, false, false, false, false, false, false, false, false, false, false, false, false, false, false] rfl rfl (any_of HT_.out (by kernel_rfl)) (fun _ _ _ h => h) (Or.inl ⟨by rfl, ?_⟩) ?_ ?_
                                rotate_left
                                · intro w'
                                  go_simp
                                  with_reducible rfl
                                rotate_left
                                · simp only [Act.put, List.setIfInBounds_toArray, List.set_cons_zero, List.set_cons_succ, i64_w, i32_w]
                                  rfl
                                refine pure_ (i := 3) (N := some 40) (v := ?_) (a' := ?_) #[true, true, true, true, false, false, false, false, false, false, false, false, false, false, false, false, false, false, false, false, false, false, false, false, false, false, false, false, false, false, false, false, false, false, false, false, false, false, false, false, false, false, false, false, false, false, false, false, false, false, false, false, false, false, false, false, false, false, false, false, false, false, false, false, false, false, false, false, false, false, false, false, false, false] rfl rfl (any_of HT_.out (by kernel_rfl)) (fun _ _ _ h => h) (Or.inl ⟨by rfl, ?_⟩) ?_ ?_
                                rotate_left
                                · intro w'
                                  go_simp
                                  with_reducible rfl
                                rotate_left
                                · simp only [Act.put, List.setIfInBounds_toArray, List.set_cons_zero, List.set_cons_succ, i64_w, i32_w]
                                  rfl
                                refine take_ (i := 4) (N := some 41) (v := ?_) (a' := ?_) #[true, true, true, true, true, false, false, false, false, false, false, false, false, false, false, false, false, false, false, false, false, false, false, false, false, false, false, false, false, false, false, false, false, false, false, false, false, false, false, false, false, false, false, false, false, false, false, false, false, false, false, false, false, false, false, false, false, false, false, false, false, false, false, false, false, false, false, false, false, false, false, false, false, false] rfl rfl (take_ofW HT_.out HW_.out (by kernel_rfl)) (fun _ _ _ h => h) (Or.inl ⟨by rfl, ?_⟩) hHeld ?_ ?_
                                rotate_left
                                · rintro w' ⟨s0, s1, s2, s3, s4, s5, s6, s7⟩
                                  go_simp
                                  with_reducible rfl
                                rotate_left
                                · simp only [Act.put, List.setIfInBounds_toArray, List.set_cons_zero, List.set_cons_succ, i64_w, i32_w]
                                  rfl
                                refine one_ (i := 5) (N := some 42) #[true, true, true, true, true, true, false, false, false, false, false, false, false, false, false, false, false, false, false, false, false, false, false, false, false, false, false, false, false, false, false, false, false, false, false, false, false, false, false, false, false, false, false, false, false, false, false, false, false, false, false, false, false, false, false, false, false, false, false, false, false, false, false, false, false, false, false, false, false, false, false, false, false, false] rfl rfl (one_of HT_.out (by kernel_rfl)) (by decide) (fun K hK => ?_)
                                refine goes_ Try.func22 (by kernel_rfl) rfl #[.int .u64 1] (by rfl) rfl rfl (by (try simp only [List.map_toArray, List.map_cons, List.map_nil]); first | done | rfl | (simp only [List.length_drop, List.length_take]; rfl)) ?_
                                with_reducible refine (wide_Of.calls 1 t131 t132 _ A10.out).mono ?_
                                rintro e w66 ⟨rfl, hb⟩
                                refine ⟨_, rfl, ?_⟩
                                have n0_ := Aside0.mk (blk_below (g := gb124) (o := .cells #[.int .u64 18446744073709551615, .int .u64 18446744073709551615] 24 (0, 0)) (by (with_reducible repeat (first | refine blk_drewN ?_ _ | refine blk_drew ?_ | refine blk_alloc ?_ _)); exact BK124.out) hb)
                                have n1_ := Aside0.mk (blk_below (g := gb130) (o := .cells #[.int .u64 t127, .int .u64 t128] 24 (0, 0)) (by (with_reducible repeat (first | refine blk_drewN ?_ _ | refine blk_drew ?_ | refine blk_alloc ?_ _)); exact BK130.out) hb)
                                have n2_ := Aside0.mk (blk_below (g := gb138) (o := .cells #[.int .u64 t135, .int .u64 t136] 24 (0, 0)) (by (with_reducible repeat (first | refine blk_drewN ?_ _ | refine blk_drew ?_ | refine blk_alloc ?_ _)); exact BK138.out) hb)
                                have n3_ := Aside0.mk (blk_below (g := gb143) (o := .cells #[.int .u64 t139, .int .u64 t140] 24 (0, 0)) (by (with_reducible repeat (first | refine blk_drewN ?_ _ | refine blk_drew ?_ | refine blk_alloc ?_ _)); exact BK143.out) hb)
                                have n4_ := Aside0.mk (blk_below (g := gb148) (o := .cells #[.int .u64 t144, .int .u64 t145] 24 (0, 0)) (by (with_reducible repeat (first | refine blk_drewN ?_ _ | refine blk_drew ?_ | refine blk_alloc ?_ _)); exact BK148.out) hb)
                                have n5_ := Aside0.mk (below_step (by repeat (first | (with_reducible first | exact HB.out | apply below_alloc | apply pw_below_drewN | apply below_drew1 | refine below_set ?_ GE124.out | refine below_set ?_ GE130.out | refine below_set ?_ GE138.out | refine below_set ?_ GE143.out | refine below_set ?_ GE148.out) | exact HB.out)) hb)
                                clear BK124
                                clear BK130
                                clear BK138
                                clear BK143
                                clear BK148
                                clear HB
                                have BK124 := n0_
                                have BK130 := n1_
                                have BK138 := n2_
                                have BK143 := n3_
                                have BK148 := n4_
                                have HB := n5_
                                clear n0_ n1_ n2_ n3_ n4_ n5_
                                (try clear hb)
                                (try clear hb2)
                                (try clear hk)
                                (try clear hi)
                                refine hK.out _ _ ⟨(blk_cell BK130.out 0).trans rfl, (blk_cell BK130.out 1).trans rfl, (blk_cell BK138.out 0).trans rfl, (blk_cell BK138.out 1).trans rfl, (blk_cell BK124.out 0).trans rfl, (blk_cell BK124.out 1).trans rfl, (blk_cell BK143.out 0).trans rfl, (blk_cell BK143.out 1).trans rfl⟩ (fun hHeld => ?_)
                                clear hK K
                                refine norm_ (a' := ?_) ?_ ?_
                                rotate_left
                                · show Act.put _ (some 42) _ = _
                                  simp only [Act.put, List.setIfInBounds_toArray, List.set_cons_zero, List.set_cons_succ, i64_w, i32_w]
                                  rfl
                                refine pure_ (i := 6) (N := some 43) (v := ?_) (a' := ?_) #[true, true, true, true, true, true, true, false, false, false, false, false, false, false, false, false, false, false, false, false, false, false, false, false, false, false, false, false, false, false, false, false, false, false, false, false, false, false, false, false, false, false, false, false, false, false, false, false, false, false, false, false, false, false, false, false, false, false, false, false, false, false, false, false, false, false, false, false, false, false, false, false, false, false] rfl rfl (any_of HT_.out (by kernel_rfl)) (fun _ _ _ h => h) (Or.inl ⟨by rfl, ?_⟩) ?_ ?_
                                rotate_left
                                · intro w'
                                  go_simp
                                  with_reducible rfl
                                rotate_left
                                · simp only [Act.put, List.setIfInBounds_toArray, List.set_cons_zero, List.set_cons_succ, i64_w, i32_w]
                                  rfl
                                refine pure_ (i := 7) (N := some 44) (v := ?_) (a' := ?_) #[true, true, true, true, true, true, true, true, false, false, false, false, false, false, false, false, false, false, false, false, false, false, false, false, false, false, false, false, false, false, false, false, false, false, false, false, false, false, false, false, false, false, false, false, false, false, false, false, false, false, false, false, false, false, false, false, false, false, false, false, false, false, false, false, false, false, false, false, false, false, false, false, false, false] rfl rfl (any_of HT_.out (by kernel_rfl)) (fun _ _ _ h => h) (Or.inl ⟨by rfl, ?_⟩) ?_ ?_
                                rotate_left
                                · intro w'
                                  go_simp
                                  with_reducible rfl
                                rotate_left
                                · simp only [Act.put, List.setIfInBounds_toArray, List.set_cons_zero, List.set_cons_succ, i64_w, i32_w]
                                  rfl
                                refine pure_ (i := 8) (N := some 45) (v := ?_) (a' := ?_) #[true, true, true, true, true, true, true, true, true, false, false, false, false, false, false, false, false, false, false, false, false, false, false, false, false, false, false, false, false, false, false, false, false, false, false, false, false, false, false, false, false, false, false, false, false, false, false, false, false, false, false, false, false, false, false, false, false, false, false, false, false, false, false, false, false, false, false, false, false, false, false, false, false, false] rfl rfl (any_of HT_.out (by kernel_rfl)) (fun _ _ _ h => h) (Or.inl ⟨by rfl, ?_⟩) ?_ ?_
                                rotate_left
                                · intro w'
                                  go_simp
                                  with_reducible rfl
                                rotate_left
                                · simp only [Act.put, List.setIfInBounds_toArray, List.set_cons_zero, List.set_cons_succ, i64_w, i32_w]
                                  rfl
                                refine pure_ (i := 9) (N := some 46) (v := ?_) (a' := ?_) #[true, true, true, true, true, true, true, true, true, true, false, false, false, false, false, false, false, false, false, false, false, false, false, false, false, false, false, false, false, false, false, false, false, false, false, false, false, false, false, false, false, false, false, false, false, false, false, false, false, false, false, false, false, false, false, false, false, false, false, false, false, false, false, false, false, false, false, false, false, false, false, false, false, false] rfl rfl (any_of HT_.out (by kernel_rfl)) (fun _ _ _ h => h) (Or.inl ⟨by rfl, ?_⟩) ?_ ?_
                                rotate_left
                                · intro w'
                                  go_simp
                                  with_reducible rfl
                                rotate_left
                                · simp only [Act.put, List.setIfInBounds_toArray, List.set_cons_zero, List.set_cons_succ, i64_w, i32_w]
                                  rfl
                                refine pure_ (i := 10) (N := some 47) (v := ?_) (a' := ?_) #[true, true, true, true, true, true, true, true, true, true, true, false, false, false, false, false, false, false, false, false, false, false, false, false, false, false, false, false, false, false, false, false, false, false, false, false, false, false, false, false, false, false, false, false, false, false, false, false, false, false, false, false, false, false, false, false, false, false, false, false, false, false, false, false, false, false, false, false, false, false, false, false, false, false] rfl rfl (any_of HT_.out (by kernel_rfl)) (fun _ _ _ h => h) (Or.inl ⟨by rfl, ?_⟩) ?_ ?_
                                rotate_left
                                · intro w'
                                  go_simp
                                  with_reducible rfl
                                rotate_left
                                · simp only [Act.put, List.setIfInBounds_toArray, List.set_cons_zero, List.set_cons_succ, i64_w, i32_w]
                                  rfl
                                refine pure_ (i := 11) (N := some 48) (v := ?_) (a' := ?_) #[true, true, true, true, true, true, true, true, true, true, true, true, false, false, false, false, false, false, false, false, false, false, false, false, false, false, false, false, false, false, false, false, false, false, false, false, false, false, false, false, false, false, false, false, false, false, false, false, false, false, false, false, false, false, false, false, false, false, false, false, false, false, false, false, false, false, false, false, false, false, false, false, false, false] rfl rfl (any_of HT_.out (by kernel_rfl)) (fun _ _ _ h => h) (Or.inl ⟨by rfl, ?_⟩) ?_ ?_
                                rotate_left
                                · intro w'
                                  go_simp
                                  with_reducible rfl
                                rotate_left
                                · simp only [Act.put, List.setIfInBounds_toArray, List.set_cons_zero, List.set_cons_succ, i64_w, i32_w]
                                  rfl
                                refine take_ (i := 12) (N := some 49) (v := ?_) (a' := ?_) #[true, true, true, true, true, true, true, true, true, true, true, true, true, false, false, false, false, false, false, false, false, false, false, false, false, false, false, false, false, false, false, false, false, false, false, false, false, false, false, false, false, false, false, false, false, false, false, false, false, false, false, false, false, false, false, false, false, false, false, false, false, false, false, false, false, false, false, false, false, false, false, false, false, false] rfl rfl (take_ofW HT_.out HW_.out (by kernel_rfl)) (fun _ _ _ h => h) (Or.inl ⟨by rfl, ?_⟩) hHeld ?_ ?_
                                rotate_left
                                · rintro w' ⟨s0, s1, s2, s3, s4, s5, s6, s7⟩
                                  go_simp
                                  with_reducible rfl
                                rotate_left
                                · simp only [Act.put, List.setIfInBounds_toArray, List.set_cons_zero, List.set_cons_succ, i64_w, i32_w]
                                  rfl
                                refine take_ (i := 13) (N := some 50) (v := ?_) (a' := ?_) #[true, true, true, true, true, true, true, true, true, true, true, true, true, true, false, false, false, false, false, false, false, false, false, false, false, false, false, false, false, false, false, false, false, false, false, false, false, false, false, false, false, false, false, false, false, false, false, false, false, false, false, false, false, false, false, false, false, false, false, false, false, false, false, false, false, false, false, false, false, false, false, false, false, false] rfl rfl (take_ofW HT_.out HW_.out (by kernel_rfl)) (fun _ _ _ h => h) (Or.inl ⟨by rfl, ?_⟩) hHeld ?_ ?_
                                rotate_left
                                · rintro w' ⟨s0, s1, s2, s3, s4, s5, s6, s7⟩
                                  go_simp
                                  with_reducible rfl
                                rotate_left
                                · simp only [Act.put, List.setIfInBounds_toArray, List.set_cons_zero, List.set_cons_succ, i64_w, i32_w]
                                  rfl
                                refine pure_ (i := 14) (N := some 51) (v := ?_) (a' := ?_) #[true, true, true, true, true, true, true, true, true, true, true, true, true, true, true, false, false, false, false, false, false, false, false, false, false, false, false, false, false, false, false, false, false, false, false, false, false, false, false, false, false, false, false, false, false, false, false, false, false, false, false, false, false, false, false, false, false, false, false, false, false, false, false, false, false, false, false, false, false, false, false, false, false, false] rfl rfl (any_of HT_.out (by kernel_rfl)) (fun _ _ _ h => h) (Or.inl ⟨by rfl, ?_⟩) ?_ ?_
                                rotate_left
                                · intro w'
                                  go_simp
                                  with_reducible rfl
                                rotate_left
                                · simp only [Act.put, List.setIfInBounds_toArray, List.set_cons_zero, List.set_cons_succ, i64_w, i32_w]
                                  rfl
                                refine pure_ (i := 15) (N := some 52) (v := ?_) (a' := ?_) #[true, true, true, true, true, true, true, true, true, true, true, true, true, true, true, true, false, false, false, false, false, false, false, false, false, false, false, false, false, false, false, false, false, false, false, false, false, false, false, false, false, false, false, false, false, false, false, false, false, false, false, false, false, false, false, false, false, false, false, false, false, false, false, false, false, false, false, false, false, false, false, false, false, false] rfl rfl (any_of HT_.out (by kernel_rfl)) (fun _ _ _ h => h) (Or.inl ⟨by rfl, ?_⟩) ?_ ?_
                                rotate_left
                                · intro w'
                                  go_simp
                                  with_reducible rfl
                                rotate_left
                                · simp only [Act.put, List.setIfInBounds_toArray, List.set_cons_zero, List.set_cons_succ, i64_w, i32_w]
                                  rfl
                                refine pure_ (i := 16) (N := some 53) (v := ?_) (a' := ?_) #[true, true, true, true, true, true, true, true, true, true, true, true, true, true, true, true, true, false, false, false, false, false, false, false, false, false, false, false, false, false, false, false, false, false, false, false, false, false, false, false, false, false, false, false, false, false, false, false, false, false, false, false, false, false, false, false, false, false, false, false, false, false, false, false, false, false, false, false, false, false, false, false, false, false] rfl rfl (any_of HT_.out (by kernel_rfl)) (fun _ _ _ h => h) (Or.inl ⟨by rfl, ?_⟩) ?_ ?_
                                rotate_left
                                · intro w'
                                  go_simp
                                  with_reducible rfl
                                rotate_left
                                · simp only [Act.put, List.setIfInBounds_toArray, List.set_cons_zero, List.set_cons_succ, i64_w, i32_w]
                                  rfl
                                refine pure_ (i := 17) (N := some 54) (v := ?_) (a' := ?_) #[true, true, true, true, true, true, true, true, true, true, true, true, true, true, true, true, true, true, false, false, false, false, false, false, false, false, false, false, false, false, false, false, false, false, false, false, false, false, false, false, false, false, false, false, false, false, false, false, false, false, false, false, false, false, false, false, false, false, false, false, false, false, false, false, false, false, false, false, false, false, false, false, false, false] rfl rfl (any_of HT_.out (by kernel_rfl)) (fun _ _ _ h => h) (Or.inl ⟨by rfl, ?_⟩) ?_ ?_
                                rotate_left
                                · intro w'
                                  go_simp
                                  with_reducible rfl
                                rotate_left
                                · simp only [Act.put, List.setIfInBounds_toArray, List.set_cons_zero, List.set_cons_succ, i64_w, i32_w]
                                  rfl
                                refine pure_ (i := 18) (N := some 55) (v := ?_) (a' := ?_) #[true, true, true, true, true, true, true, true, true, true, true, true, true, true, true, true, true, true, true, false, false, false, false, false, false, false, false, false, false, false, false, false, false, false, false, false, false, false, false, false, false, false, false, false, false, false, false, false, false, false, false, false, false, false, false, false, false, false, false, false, false, false, false, false, false, false, false, false, false, false, false, false, false, false] rfl rfl (any_of HT_.out (by kernel_rfl)) (fun _ _ _ h => h) (Or.inl ⟨by rfl, ?_⟩) ?_ ?_
                                rotate_left
                                · intro w'
                                  go_simp
                                  with_reducible rfl
                                rotate_left
                                · simp only [Act.put, List.setIfInBounds_toArray, List.set_cons_zero, List.set_cons_succ, i64_w, i32_w]
                                  rfl
                                refine pure_ (i := 19) (N := some 56) (v := ?_) (a' := ?_) #[true, true, true, true, true, true, true, true, true, true, true, true, true, true, true, true, true, true, true, true, false, false, false, false, false, false, false, false, false, false, false, false, false, false, false, false, false, false, false, false, false, false, false, false, false, false, false, false, false, false, false, false, false, false, false, false, false, false, false, false, false, false, false, false, false, false, false, false, false, false, false, false, false, false] rfl rfl (any_of HT_.out (by kernel_rfl)) (fun _ _ _ h => h) (Or.inl ⟨by rfl, ?_⟩) ?_ ?_
                                rotate_left
                                · intro w'
                                  go_simp
                                  with_reducible rfl
                                rotate_left
                                · simp only [Act.put, List.setIfInBounds_toArray, List.set_cons_zero, List.set_cons_succ, i64_w, i32_w]
                                  rfl
                                refine take_ (i := 20) (N := some 57) (v := ?_) (a' := ?_) #[true, true, true, true, true, true, true, true, true, true, true, true, true, true, true, true, true, true, true, true, true, false, false, false, false, false, false, false, false, false, false, false, false, false, false, false, false, false, false, false, false, false, false, false, false, false, false, false, false, false, false, false, false, false, false, false, false, false, false, false, false, false, false, false, false, false, false, false, false, false, false, false, false, false] rfl rfl (take_ofW HT_.out HW_.out (by kernel_rfl)) (fun _ _ _ h => h) (Or.inl ⟨by rfl, ?_⟩) hHeld ?_ ?_
                                rotate_left
                                · rintro w' ⟨s0, s1, s2, s3, s4, s5, s6, s7⟩
                                  go_simp
                                  with_reducible rfl
                                rotate_left
                                · simp only [Act.put, List.setIfInBounds_toArray, List.set_cons_zero, List.set_cons_succ, i64_w, i32_w]
                                  rfl
                                refine take_ (i := 21) (N := some 58) (v := ?_) (a' := ?_) #[true, true, true, true, true, true, true, true, true, true, true, true, true, true, true, true, true, true, true, true, true, true, false, false, false, false, false, false, false, false, false, false, false, false, false, false, false, false, false, false, false, false, false, false, false, false, false, false, false, false, false, false, false, false, false, false, false, false, false, false, false, false, false, false, false, false, false, false, false, false, false, false, false, false] rfl rfl (take_ofW HT_.out HW_.out (by kernel_rfl)) (fun _ _ _ h => h) (Or.inl ⟨by rfl, ?_⟩) hHeld ?_ ?_
                                rotate_left
                                · rintro w' ⟨s0, s1, s2, s3, s4, s5, s6, s7⟩
                                  go_simp
                                  with_reducible rfl
                                rotate_left
                                · simp only [Act.put, List.setIfInBounds_toArray, List.set_cons_zero, List.set_cons_succ, i64_w, i32_w]
                                  rfl
                                refine one_ (i := 22) (N := some 59) #[true, true, true, true, true, true, true, true, true, true, true, true, true, true, true, true, true, true, true, true, true, true, true, false, false, false, false, false, false, false, false, false, false, false, false, false, false, false, false, false, false, false, false, false, false, false, false, false, false, false, false, false, false, false, false, false, false, false, false, false, false, false, false, false, false, false, false, false, false, false, false, false, false, false] rfl rfl (one_of HT_.out (by kernel_rfl)) (by decide) (fun K hK => ?_)
                                refine goes_ Try.func18 (by kernel_rfl) rfl #[.agg #[.int .u64 18446744073709551615, .int .u64 18446744073709551615], .agg #[.int .u64 t127, .int .u64 t128]] (by rfl) rfl rfl (by (try simp only [List.map_toArray, List.map_cons, List.map_nil]); first | done | rfl | (simp only [List.length_drop, List.length_take]; rfl)) ?_
                                with_reducible refine (wide_Cmp.calls k 18446744073709551615 18446744073709551615 t127 t128 t153 _ A15.out).mono ?_
                                rintro e w67 ⟨rfl, hb⟩
                                refine ⟨_, rfl, ?_⟩
                                have n0_ := Aside0.mk (blk_below (g := gb124) (o := .cells #[.int .u64 18446744073709551615, .int .u64 18446744073709551615] 24 (0, 0)) (by (with_reducible repeat (first | refine blk_drewN ?_ _ | refine blk_drew ?_ | refine blk_alloc ?_ _)); exact BK124.out) hb)
                                have n1_ := Aside0.mk (blk_below (g := gb130) (o := .cells #[.int .u64 t127, .int .u64 t128] 24 (0, 0)) (by (with_reducible repeat (first | refine blk_drewN ?_ _ | refine blk_drew ?_ | refine blk_alloc ?_ _)); exact BK130.out) hb)
                                have n2_ := Aside0.mk (blk_below (g := gb138) (o := .cells #[.int .u64 t135, .int .u64 t136] 24 (0, 0)) (by (with_reducible repeat (first | refine blk_drewN ?_ _ | refine blk_drew ?_ | refine blk_alloc ?_ _)); exact BK138.out) hb)
                                have n3_ := Aside0.mk (blk_below (g := gb143) (o := .cells #[.int .u64 t139, .int .u64 t140] 24 (0, 0)) (by (with_reducible repeat (first | refine blk_drewN ?_ _ | refine blk_drew ?_ | refine blk_alloc ?_ _)); exact BK143.out) hb)
                                have n4_ := Aside0.mk (blk_below (g := gb148) (o := .cells #[.int .u64 t144, .int .u64 t145] 24 (0, 0)) (by (with_reducible repeat (first | refine blk_drewN ?_ _ | refine blk_drew ?_ | refine blk_alloc ?_ _)); exact BK148.out) hb)
                                have n5_ := Aside0.mk (below_step (by repeat (first | (with_reducible first | exact HB.out | apply below_alloc | apply pw_below_drewN | apply below_drew1 | refine below_set ?_ GE124.out | refine below_set ?_ GE130.out | refine below_set ?_ GE138.out | refine below_set ?_ GE143.out | refine below_set ?_ GE148.out) | exact HB.out)) hb)
                                clear BK124
                                clear BK130
                                clear BK138
                                clear BK143
                                clear BK148
                                clear HB
                                have BK124 := n0_
                                have BK130 := n1_
                                have BK138 := n2_
                                have BK143 := n3_
                                have BK148 := n4_
                                have HB := n5_
                                clear n0_ n1_ n2_ n3_ n4_ n5_
                                (try clear hb)
                                (try clear hb2)
                                (try clear hk)
                                (try clear hi)
                                refine hK.out _ _ ⟨(blk_cell BK130.out 0).trans rfl, (blk_cell BK130.out 1).trans rfl, (blk_cell BK138.out 0).trans rfl, (blk_cell BK138.out 1).trans rfl, (blk_cell BK124.out 0).trans rfl, (blk_cell BK124.out 1).trans rfl, (blk_cell BK143.out 0).trans rfl, (blk_cell BK143.out 1).trans rfl⟩ (fun hHeld => ?_)
                                clear hK K
                                refine norm_ (a' := ?_) ?_ ?_
                                rotate_left
                                · show Act.put _ (some 59) _ = _
                                  simp only [Act.put, List.setIfInBounds_toArray, List.set_cons_zero, List.set_cons_succ, i64_w, i32_w]
                                  rfl
                                refine pure_ (i := 23) (N := some 60) (v := ?_) (a' := ?_) #[true, true, true, true, true, true, true, true, true, true, true, true, true, true, true, true, true, true, true, true, true, true, true, true, false, false, false, false, false, false, false, false, false, false, false, false, false, false, false, false, false, false, false, false, false, false, false, false, false, false, false, false, false, false, false, false, false, false, false, false, false, false, false, false, false, false, false, false, false, false, false, false, false, false] rfl rfl (any_of HT_.out (by kernel_rfl)) (fun _ _ _ h => h) (Or.inl ⟨by rfl, ?_⟩) ?_ ?_
                                rotate_left
                                · intro w'
                                  go_simp
                                  with_reducible rfl
                                rotate_left
                                · simp only [Act.put, List.setIfInBounds_toArray, List.set_cons_zero, List.set_cons_succ, i64_w, i32_w]
                                  rfl
                                refine pure_ (i := 24) (N := some 61) (v := ?_) (a' := ?_) #[true, true, true, true, true, true, true, true, true, true, true, true, true, true, true, true, true, true, true, true, true, true, true, true, true, false, false, false, false, false, false, false, false, false, false, false, false, false, false, false, false, false, false, false, false, false, false, false, false, false, false, false, false, false, false, false, false, false, false, false, false, false, false, false, false, false, false, false, false, false, false, false, false, false] rfl rfl (any_of HT_.out (by kernel_rfl)) (fun _ _ _ h => h) (Or.inl ⟨by rfl, ?_⟩) ?_ ?_
                                rotate_left
                                · intro w'
                                  go_simp
                                  with_reducible rfl
                                rotate_left
                                · simp only [Act.put, List.setIfInBounds_toArray, List.set_cons_zero, List.set_cons_succ, i64_w, i32_w]
                                  rfl
                                refine pure_ (i := 25) (N := some 62) (v := ?_) (a' := ?_) #[true, true, true, true, true, true, true, true, true, true, true, true, true, true, true, true, true, true, true, true, true, true, true, true, true, true, false, false, false, false, false, false, false, false, false, false, false, false, false, false, false, false, false, false, false, false, false, false, false, false, false, false, false, false, false, false, false, false, false, false, false, false, false, false, false, false, false, false, false, false, false, false, false, false] rfl rfl (any_of HT_.out (by kernel_rfl)) (fun _ _ _ h => h) (Or.inl ⟨by rfl, ?_⟩) ?_ ?_
                                rotate_left
                                · intro w'
                                  go_simp
                                  with_reducible rfl
                                rotate_left
                                · simp only [Act.put, List.setIfInBounds_toArray, List.set_cons_zero, List.set_cons_succ, i64_w, i32_w]
                                  rfl
                                refine take_ (i := 26) (N := some 63) (v := ?_) (a' := ?_) #[true, true, true, true, true, true, true, true, true, true, true, true, true, true, true, true, true, true, true, true, true, true, true, true, true, true, true, false, false, false, false, false, false, false, false, false, false, false, false, false, false, false, false, false, false, false, false, false, false, false, false, false, false, false, false, false, false, false, false, false, false, false, false, false, false, false, false, false, false, false, false, false, false, false] rfl rfl (take_ofW HT_.out HW_.out (by kernel_rfl)) (fun _ _ _ h => h) (Or.inl ⟨by rfl, ?_⟩) hHeld ?_ ?_
                                rotate_left
                                · rintro w' ⟨s0, s1, s2, s3, s4, s5, s6, s7⟩
                                  go_simp
                                  with_reducible rfl
                                rotate_left
                                · simp only [Act.put, List.setIfInBounds_toArray, List.set_cons_zero, List.set_cons_succ, i64_w, i32_w]
                                  rfl
                                refine take_ (i := 27) (N := some 64) (v := ?_) (a' := ?_) #[true, true, true, true, true, true, true, true, true, true, true, true, true, true, true, true, true, true, true, true, true, true, true, true, true, true, true, true, false, false, false, false, false, false, false, false, false, false, false, false, false, false, false, false, false, false, false, false, false, false, false, false, false, false, false, false, false, false, false, false, false, false, false, false, false, false, false, false, false, false, false, false, false, false] rfl rfl (take_ofW HT_.out HW_.out (by kernel_rfl)) (fun _ _ _ h => h) (Or.inl ⟨by rfl, ?_⟩) hHeld ?_ ?_
                                rotate_left
                                · rintro w' ⟨s0, s1, s2, s3, s4, s5, s6, s7⟩
                                  go_simp
                                  with_reducible rfl
                                rotate_left
                                · simp only [Act.put, List.setIfInBounds_toArray, List.set_cons_zero, List.set_cons_succ, i64_w, i32_w]
                                  rfl
                                refine one_ (i := 28) (N := some 65) #[true, true, true, true, true, true, true, true, true, true, true, true, true, true, true, true, true, true, true, true, true, true, true, true, true, true, true, true, true, false, false, false, false, false, false, false, false, false, false, false, false, false, false, false, false, false, false, false, false, false, false, false, false, false, false, false, false, false, false, false, false, false, false, false, false, false, false, false, false, false, false, false, false, false] rfl rfl (one_of HT_.out (by kernel_rfl)) (by decide) (fun K hK => ?_)
                                refine goes_ Try.func18 (by kernel_rfl) rfl #[.agg #[.int .u64 t127, .int .u64 t128], .agg #[.int .u64 t127, .int .u64 t128]] (by rfl) rfl rfl (by (try simp only [List.map_toArray, List.map_cons, List.map_nil]); first | done | rfl | (simp only [List.length_drop, List.length_take]; rfl)) ?_
                                with_reducible refine (wide_Cmp.calls k t127 t128 t127 t128 t154 _ A17.out).mono ?_
                                rintro e w68 ⟨rfl, hb⟩
                                refine ⟨_, rfl, ?_⟩
                                have n0_ := Aside0.mk (blk_below (g := gb124) (o := .cells #[.int .u64 18446744073709551615, .int .u64 18446744073709551615] 24 (0, 0)) (by (with_reducible repeat (first | refine blk_drewN ?_ _ | refine blk_drew ?_ | refine blk_alloc ?_ _)); exact BK124.out) hb)
                                have n1_ := Aside0.mk (blk_below (g := gb130) (o := .cells #[.int .u64 t127, .int .u64 t128] 24 (0, 0)) (by (with_reducible repeat (first | refine blk_drewN ?_ _ | refine blk_drew ?_ | refine blk_alloc ?_ _)); exact BK130.out) hb)
                                have n2_ := Aside0.mk (blk_below (g := gb138) (o := .cells #[.int .u64 t135, .int .u64 t136] 24 (0, 0)) (by (with_reducible repeat (first | refine blk_drewN ?_ _ | refine blk_drew ?_ | refine blk_alloc ?_ _)); exact BK138.out) hb)
                                have n3_ := Aside0.mk (blk_below (g := gb143) (o := .cells #[.int .u64 t139, .int .u64 t140] 24 (0, 0)) (by (with_reducible repeat (first | refine blk_drewN ?_ _ | refine blk_drew ?_ | refine blk_alloc ?_ _)); exact BK143.out) hb)
                                have n4_ := Aside0.mk (blk_below (g := gb148) (o := .cells #[.int .u64 t144, .int .u64 t145] 24 (0, 0)) (by (with_reducible repeat (first | refine blk_drewN ?_ _ | refine blk_drew ?_ | refine blk_alloc ?_ _)); exact BK148.out) hb)
                                have n5_ := Aside0.mk (below_step (by repeat (first | (with_reducible first | exact HB.out | apply below_alloc | apply pw_below_drewN | apply below_drew1 | refine below_set ?_ GE124.out | refine below_set ?_ GE130.out | refine below_set ?_ GE138.out | refine below_set ?_ GE143.out | refine below_set ?_ GE148.out) | exact HB.out)) hb)
                                clear BK124
                                clear BK130
                                clear BK138
                                clear BK143
                                clear BK148
                                clear HB
                                have BK124 := n0_
                                have BK130 := n1_
                                have BK138 := n2_
                                have BK143 := n3_
                                have BK148 := n4_
                                have HB := n5_
                                clear n0_ n1_ n2_ n3_ n4_ n5_
                                (try clear hb)
                                (try clear hb2)
                                (try clear hk)
                                (try clear hi)
                                refine hK.out _ _ ⟨(blk_cell BK130.out 0).trans rfl, (blk_cell BK130.out 1).trans rfl, (blk_cell BK138.out 0).trans rfl, (blk_cell BK138.out 1).trans rfl, (blk_cell BK124.out 0).trans rfl, (blk_cell BK124.out 1).trans rfl, (blk_cell BK143.out 0).trans rfl, (blk_cell BK143.out 1).trans rfl⟩ (fun hHeld => ?_)
                                clear hK K
                                refine norm_ (a' := ?_) ?_ ?_
                                rotate_left
                                · show Act.put _ (some 65) _ = _
                                  simp only [Act.put, List.setIfInBounds_toArray, List.set_cons_zero, List.set_cons_succ, i64_w, i32_w]
                                  rfl
                                refine pure_ (i := 29) (N := some 66) (v := ?_) (a' := ?_) #[true, true, true, true, true, true, true, true, true, true, true, true, true, true, true, true, true, true, true, true, true, true, true, true, true, true, true, true, true, true, false, false, false, false, false, false, false, false, false, false, false, false, false, false, false, false, false, false, false, false, false, false, false, false, false, false, false, false, false, false, false, false, false, false, false, false, false, false, false, false, false, false, false, false] rfl rfl (any_of HT_.out (by kernel_rfl)) (fun _ _ _ h => h) (Or.inl ⟨by rfl, ?_⟩) ?_ ?_
                                rotate_left
                                · intro w'
                                  go_simp
                                  with_reducible rfl
                                rotate_left
                                · simp only [Act.put, List.setIfInBounds_toArray, List.set_cons_zero, List.set_cons_succ, i64_w, i32_w]
                                  rfl
                                refine pure_ (i := 30) (N := some 67) (v := ?_) (a' := ?_) #[true, true, true, true, true, true, true, true, true, true, true, true, true, true, true, true, true, true, true, true, true, true, true, true, true, true, true, true, true, true, true, false, false, false, false, false, false, false, false, false, false, false, false, false, false, false, false, false, false, false, false, false, false, false, false, false, false, false, false, false, false, false, false, false, false, false, false, false, false, false, false, false, false, false] rfl rfl (any_of HT_.out (by kernel_rfl)) (fun _ _ _ h => h) (Or.inl ⟨by rfl, ?_⟩) ?_ ?_
                                rotate_left
                                · intro w'
                                  go_simp
                                  with_reducible rfl
                                rotate_left
                                · simp only [Act.put, List.setIfInBounds_toArray, List.set_cons_zero, List.set_cons_succ, i64_w, i32_w]
                                  rfl
                                refine pure_ (i := 31) (N := some 68) (v := ?_) (a' := ?_) #[true, true, true, true, true, true, true, true, true, true, true, true, true, true, true, true, true, true, true, true, true, true, true, true, true, true, true, true, true, true, true, true, false, false, false, false, false, false, false, false, false, false, false, false, false, false, false, false, false, false, false, false, false, false, false, false, false, false, false, false, false, false, false, false, false, false, false, false, false, false, false, false, false, false] rfl rfl (any_of HT_.out (by kernel_rfl)) (fun _ _ _ h => h) (Or.inl ⟨by rfl, ?_⟩) ?_ ?_
                                rotate_left
                                · intro w'
                                  go_simp
                                  with_reducible rfl
                                rotate_left
                                · simp only [Act.put, List.setIfInBounds_toArray, List.set_cons_zero, List.set_cons_succ, i64_w, i32_w]
                                  rfl
                                refine take_ (i := 32) (N := some 69) (v := ?_) (a' := ?_) #[true, true, true, true, true, true, true, true, true, true, true, true, true, true, true, true, true, true, true, true, true, true, true, true, true, true, true, true, true, true, true, true, true, false, false, false, false, false, false, false, false, false, false, false, false, false, false, false, false, false, false, false, false, false, false, false, false, false, false, false, false, false, false, false, false, false, false, false, false, false, false, false, false, false] rfl rfl (take_ofW HT_.out HW_.out (by kernel_rfl)) (fun _ _ _ h => h) (Or.inl ⟨by rfl, ?_⟩) hHeld ?_ ?_
                                rotate_left
                                · rintro w' ⟨s0, s1, s2, s3, s4, s5, s6, s7⟩
                                  go_simp
                                  with_reducible rfl
                                rotate_left
                                · simp only [Act.put, List.setIfInBounds_toArray, List.set_cons_zero, List.set_cons_succ, i64_w, i32_w]
                                  rfl
                                refine take_ (i := 33) (N := some 70) (v := ?_) (a' := ?_) #[true, true, true, true, true, true, true, true, true, true, true, true, true, true, true, true, true, true, true, true, true, true, true, true, true, true, true, true, true, true, true, true, true, true, false, false, false, false, false, false, false, false, false, false, false, false, false, false, false, false, false, false, false, false, false, false, false, false, false, false, false, false, false, false, false, false, false, false, false, false, false, false, false, false] rfl rfl (take_ofW HT_.out HW_.out (by kernel_rfl)) (fun _ _ _ h => h) (Or.inl ⟨by rfl, ?_⟩) hHeld ?_ ?_
                                rotate_left
                                · rintro w' ⟨s0, s1, s2, s3, s4, s5, s6, s7⟩
                                  go_simp
                                  with_reducible rfl
                                rotate_left
                                · simp only [Act.put, List.setIfInBounds_toArray, List.set_cons_zero, List.set_cons_succ, i64_w, i32_w]
                                  rfl
                                refine one_ (i := 34) (N := some 71) #[true, true, true, true, true, true, true, true, true, true, true, true, true, true, true, true, true, true, true, true, true, true, true, true, true, true, true, true, true, true, true, true, true, true, true, false, false, false, false, false, false, false, false, false, false, false, false, false, false, false, false, false, false, false, false, false, false, false, false, false, false, false, false, false, false, false, false, false, false, false, false, false, false, false] rfl rfl (one_of HT_.out (by kernel_rfl)) (by decide) (fun K hK => ?_)
                                refine goes_ Try.func18 (by kernel_rfl) rfl #[.agg #[.int .u64 t127, .int .u64 t128], .agg #[.int .u64 t135, .int .u64 t136]] (by rfl) rfl rfl (by (try simp only [List.map_toArray, List.map_cons, List.map_nil]); first | done | rfl | (simp only [List.length_drop, List.length_take]; rfl)) ?_
                                with_reducible refine (wide_Cmp.calls k t127 t128 t135 t136 t155 _ A19.out).mono ?_
                                rintro e w69 ⟨rfl, hb⟩
                                refine ⟨_, rfl, ?_⟩
                                have n0_ := Aside0.mk (blk_below (g := gb124) (o := .cells #[.int .u64 18446744073709551615, .int .u64 18446744073709551615] 24 (0, 0)) (by (with_reducible repeat (first | refine blk_drewN ?_ _ | refine blk_drew ?_ | refine blk_alloc ?_ _)); exact BK124.out) hb)
                                have n1_ := Aside0.mk (blk_below (g := gb130) (o := .cells #[.int .u64 t127, .int .u64 t128] 24 (0, 0)) (by (with_reducible repeat (first | refine blk_drewN ?_ _ | refine blk_drew ?_ | refine blk_alloc ?_ _)); exact BK130.out) hb)
                                have n2_ := Aside0.mk (blk_below (g := gb138) (o := .cells #[.int .u64 t135, .int .u64 t136] 24 (0, 0)) (by (with_reducible repeat (first | refine blk_drewN ?_ _ | refine blk_drew ?_ | refine blk_alloc ?_ _)); exact BK138.out) hb)
                                have n3_ := Aside0.mk (blk_below (g := gb143) (o := .cells #[.int .u64 t139, .int .u64 t140] 24 (0, 0)) (by (with_reducible repeat (first | refine blk_drewN ?_ _ | refine blk_drew ?_ | refine blk_alloc ?_ _)); exact BK143.out) hb)
                                have n4_ := Aside0.mk (blk_below (g := gb148) (o := .cells #[.int .u64 t144, .int .u64 t145] 24 (0, 0)) (by (with_reducible repeat (first | refine blk_drewN ?_ _ | refine blk_drew ?_ | refine blk_alloc ?_ _)); exact BK148.out) hb)
                                have n5_ := Aside0.mk (below_step (by repeat (first | (with_reducible first | exact HB.out | apply below_alloc | apply pw_below_drewN | apply below_drew1 | refine below_set ?_ GE124.out | refine below_set ?_ GE130.out | refine below_set ?_ GE138.out | refine below_set ?_ GE143.out | refine below_set ?_ GE148.out) | exact HB.out)) hb)
                                clear BK124
                                clear BK130
                                clear BK138
                                clear BK143
                                clear BK148
                                clear HB
                                have BK124 := n0_
                                have BK130 := n1_
                                have BK138 := n2_
                                have BK143 := n3_
                                have BK148 := n4_
                                have HB := n5_
                                clear n0_ n1_ n2_ n3_ n4_ n5_
                                (try clear hb)
                                (try clear hb2)
                                (try clear hk)
                                (try clear hi)
                                refine hK.out _ _ ⟨(blk_cell BK130.out 0).trans rfl, (blk_cell BK130.out 1).trans rfl, (blk_cell BK138.out 0).trans rfl, (blk_cell BK138.out 1).trans rfl, (blk_cell BK124.out 0).trans rfl, (blk_cell BK124.out 1).trans rfl, (blk_cell BK143.out 0).trans rfl, (blk_cell BK143.out 1).trans rfl⟩ (fun hHeld => ?_)
                                clear hK K
                                refine norm_ (a' := ?_) ?_ ?_
                                rotate_left
                                · show Act.put _ (some 71) _ = _
                                  simp only [Act.put, List.setIfInBounds_toArray, List.set_cons_zero, List.set_cons_succ, i64_w, i32_w]
                                  rfl
                                refine pure_ (i := 35) (N := some 72) (v := ?_) (a' := ?_) #[true, true, true, true, true, true, true, true, true, true, true, true, true, true, true, true, true, true, true, true, true, true, true, true, true, true, true, true, true, true, true, true, true, true, true, true, false, false, false, false, false, false, false, false, false, false, false, false, false, false, false, false, false, false, false, false, false, false, false, false, false, false, false, false, false, false, false, false, false, false, false, false, false, false] rfl rfl (any_of HT_.out (by kernel_rfl)) (fun _ _ _ h => h) (Or.inl ⟨by rfl, ?_⟩) ?_ ?_
                                rotate_left
                                · intro w'
                                  go_simp
                                  with_reducible rfl
                                rotate_left
                                · simp only [Act.put, List.setIfInBounds_toArray, List.set_cons_zero, List.set_cons_succ, i64_w, i32_w]
                                  rfl
                                refine pure_ (i := 36) (N := some 73) (v := ?_) (a' := ?_) #[true, true, true, true, true, true, true, true, true, true, true, true, true, true, true, true, true, true, true, true, true, true, true, true, true, true, true, true, true, true, true, true, true, true, true, true, true, false, false, false, false, false, false, false, false, false, false, false, false, false, false, false, false, false, false, false, false, false, false, false, false, false, false, false, false, false, false, false, false, false, false, false, false, false] rfl rfl (any_of HT_.out (by kernel_rfl)) (fun _ _ _ h => h) (Or.inl ⟨by rfl, ?_⟩) ?_ ?_
                                rotate_left
                                · intro w'
                                  go_simp
                                  with_reducible rfl
                                rotate_left
                                · simp only [Act.put, List.setIfInBounds_toArray, List.set_cons_zero, List.set_cons_succ, i64_w, i32_w]
                                  rfl
                                refine pure_ (i := 37) (N := some 74) (v := ?_) (a' := ?_) #[true, true, true, true, true, true, true, true, true, true, true, true, true, true, true, true, true, true, true, true, true, true, true, true, true, true, true, true, true, true, true, true, true, true, true, true, true, true, false, false, false, false, false, false, false, false, false, false, false, false, false, false, false, false, false, false, false, false, false, false, false, false, false, false, false, false, false, false, false, false, false, false, false, false] rfl rfl (any_of HT_.out (by kernel_rfl)) (fun _ _ _ h => h) (Or.inl ⟨by rfl, ?_⟩) ?_ ?_
                                rotate_left
                                · intro w'
                                  go_simp
                                  with_reducible rfl
                                rotate_left
                                · simp only [Act.put, List.setIfInBounds_toArray, List.set_cons_zero, List.set_cons_succ, i64_w, i32_w]
                                  rfl
                                refine pure_ (i := 39) (N := some 76) (v := ?_) (a' := ?_) #[true, true, true, true, true, true, true, true, true, true, true, true, true, true, true, true, true, true, true, true, true, true, true, true, true, true, true, true, true, true, true, true, true, true, true, true, true, true, false, true, false, false, false, false, false, false, false, false, false, false, false, false, false, false, false, false, false, false, false, false, false, false, false, false, false, false, false, false, false, false, false, false, false, false] rfl rfl (any_of HT_.out (by kernel_rfl)) (fun _ _ _ h => h) (Or.inl ⟨by rfl, ?_⟩) ?_ ?_
                                rotate_left
                                · intro w'
                                  go_simp
                                  with_reducible rfl
                                rotate_left
                                · simp only [Act.put, List.setIfInBounds_toArray, List.set_cons_zero, List.set_cons_succ, i64_w, i32_w]
                                  rfl
                                refine take_ (i := 38) (N := some 75) (v := ?_) (a' := ?_) #[true, true, true, true, true, true, true, true, true, true, true, true, true, true, true, true, true, true, true, true, true, true, true, true, true, true, true, true, true, true, true, true, true, true, true, true, true, true, true, true, false, false, false, false, false, false, false, false, false, false, false, false, false, false, false, false, false, false, false, false, false, false, false, false, false, false, false, false, false, false, false, false, false, false] rfl rfl (take_ofW HT_.out HW_.out (by kernel_rfl)) (fun _ _ _ h => h) (Or.inl ⟨by rfl, ?_⟩) hHeld ?_ ?_
                                rotate_left
                                · rintro w' ⟨s0, s1, s2, s3, s4, s5, s6, s7⟩
                                  go_simp
                                  with_reducible rfl
                                rotate_left
                                · simp only [Act.put, List.setIfInBounds_toArray, List.set_cons_zero, List.set_cons_succ, i64_w, i32_w]
                                  rfl
                                refine pure_ (i := 40) (N := some 77) (v := ?_) (a' := ?_) #[true, true, true, true, true, true, true, true, true, true, true, true, true, true, true, true, true, true, true, true, true, true, true, true, true, true, true, true, true, true, true, true, true, true, true, true, true, true, true, true, true, false, false, false, false, false, false, false, false, false, false, false, false, false, false, false, false, false, false, false, false, false, false, false, false, false, false, false, false, false, false, false, false, false] rfl rfl (any_of HT_.out (by kernel_rfl)) (fun _ _ _ h => h) (Or.inl ⟨by rfl, ?_⟩) ?_ ?_
                                rotate_left
                                · intro w'
                                  go_simp
                                  with_reducible rfl
                                rotate_left
                                · simp only [Act.put, List.setIfInBounds_toArray, List.set_cons_zero, List.set_cons_succ, i64_w, i32_w]
                                  rfl
                                refine pure_ (i := 41) (N := some 78) (v := ?_) (a' := ?_) #[true, true, true, true, true, true, true, true, true, true, true, true, true, true, true, true, true, true, true, true, true, true, true, true, true, true, true, true, true, true, true, true, true, true, true, true, true, true, true, true, true, true, false, false, false, false, false, false, false, false, false, false, false, false, false, false, false, false, false, false, false, false, false, false, false, false, false, false, false, false, false, false, false, false] rfl rfl (any_of HT_.out (by kernel_rfl)) (fun _ _ _ h => h) (Or.inl ⟨by rfl, ?_⟩) ?_ ?_
                                rotate_left
                                · intro w'
                                  go_simp
                                  with_reducible rfl
                                rotate_left
                                · simp only [Act.put, List.setIfInBounds_toArray, List.set_cons_zero, List.set_cons_succ, i64_w, i32_w]
                                  rfl
                                refine pure_ (i := 42) (N := some 79) (v := ?_) (a' := ?_) #[true, true, true, true, true, true, true, true, true, true, true, true, true, true, true, true, true, true, true, true, true, true, true, true, true, true, true, true, true, true, true, true, true, true, true, true, true, true, true, true, true, true, true, false, false, false, false, false, false, false, false, false, false, false, false, false, false, false, false, false, false, false, false, false, false, false, false, false, false, false, false, false, false, false] rfl rfl (any_of HT_.out (by kernel_rfl)) (fun _ _ _ h => h) (Or.inl ⟨by rfl, ?_⟩) ?_ ?_
                                rotate_left
                                · intro w'
                                  go_simp
                                  with_reducible rfl
                                rotate_left
                                · simp only [Act.put, List.setIfInBounds_toArray, List.set_cons_zero, List.set_cons_succ, i64_w, i32_w]
                                  rfl
                                refine pure_ (i := 43) (N := some 80) (v := ?_) (a' := ?_) #[true, true, true, true, true, true, true, true, true, true, true, true, true, true, true, true, true, true, true, true, true, true, true, true, true, true, true, true, true, true, true, true, true, true, true, true, true, true, true, true, true, true, true, true, false, false, false, false, false, false, false, false, false, false, false, false, false, false, false, false, false, false, false, false, false, false, false, false, false, false, false, false, false, false] rfl rfl (any_of HT_.out (by kernel_rfl)) (fun _ _ _ h => h) (Or.inl ⟨by rfl, ?_⟩) ?_ ?_
                                rotate_left
                                · intro w'
                                  go_simp
                                  with_reducible rfl
                                rotate_left
                                · simp only [Act.put, List.setIfInBounds_toArray, List.set_cons_zero, List.set_cons_succ, i64_w, i32_w]
                                  rfl
                                refine pure_ (i := 44) (N := some 81) (v := ?_) (a' := ?_) #[true, true, true, true, true, true, true, true, true, true, true, true, true, true, true, true, true, true, true, true, true, true, true, true, true, true, true, true, true, true, true, true, true, true, true, true, true, true, true, true, true, true, true, true, true, false, false, false, false, false, false, false, false, false, false, false, false, false, false, false, false, false, false, false, false, false, false, false, false, false, false, false, false, false] rfl rfl (any_of HT_.out (by kernel_rfl)) (fun _ _ _ h => h) (Or.inl ⟨by rfl, ?_⟩) ?_ ?_
                                rotate_left
                                · intro w'
                                  go_simp
                                  with_reducible rfl
                                rotate_left
                                · simp only [Act.put, List.setIfInBounds_toArray, List.set_cons_zero, List.set_cons_succ, i64_w, i32_w]
                                  rfl
                                refine pure_ (i := 45) (N := some 82) (v := ?_) (a' := ?_) #[true, true, true, true, true, true, true, true, true, true, true, true, true, true, true, true, true, true, true, true, true, true, true, true, true, true, true, true, true, true, true, true, true, true, true, true, true, true, true, true, true, true, true, true, true, true, false, false, false, false, false, false, false, false, false, false, false, false, false, false, false, false, false, false, false, false, false, false, false, false, false, false, false, false] rfl rfl (any_of HT_.out (by kernel_rfl)) (fun _ _ _ h => h) (Or.inl ⟨by rfl, ?_⟩) ?_ ?_
                                rotate_left
                                · intro w'
                                  go_simp
                                  with_reducible rfl
                                rotate_left
                                · simp only [Act.put, List.setIfInBounds_toArray, List.set_cons_zero, List.set_cons_succ, i64_w, i32_w]
                                  rfl
                                refine pure_ (i := 46) (N := some 83) (v := ?_) (a' := ?_) #[true, true, true, true, true, true, true, true, true, true, true, true, true, true, true, true, true, true, true, true, true, true, true, true, true, true, true, true, true, true, true, true, true, true, true, true, true, true, true, true, true, true, true, true, true, true, true, false, false, false, false, false, false, false, false, false, false, false, false, false, false, false, false, false, false, false, false, false, false, false, false, false, false, false] rfl rfl (any_of HT_.out (by kernel_rfl)) (fun _ _ _ h => h) (Or.inl ⟨by rfl, ?_⟩) ?_ ?_
                                rotate_left
                                · intro w'
                                  go_simp
                                  with_reducible rfl
                                rotate_left
                                · simp only [Act.put, List.setIfInBounds_toArray, List.set_cons_zero, List.set_cons_succ, i64_w, i32_w]
                                  rfl
                                refine pure_ (i := 47) (N := some 84) (v := ?_) (a' := ?_) #[true, true, true, true, true, true, true, true, true, true, true, true, true, true, true, true, true, true, true, true, true, true, true, true, true, true, true, true, true, true, true, true, true, true, true, true, true, true, true, true, true, true, true, true, true, true, true, true, false, false, false, false, false, false, false, false, false, false, false, false, false, false, false, false, false, false, false, false, false, false, false, false, false, false] rfl rfl (any_of HT_.out (by kernel_rfl)) (fun _ _ _ h => h) (Or.inl ⟨by rfl, ?_⟩) ?_ ?_
                                rotate_left
                                · intro w'
                                  go_simp
                                  with_reducible rfl
                                rotate_left
                                · simp only [Act.put, List.setIfInBounds_toArray, List.set_cons_zero, List.set_cons_succ, i64_w, i32_w]
                                  rfl
                                refine pure_ (i := 48) (N := some 85) (v := ?_) (a' := ?_) #[true, true, true, true, true, true, true, true, true, true, true, true, true, true, true, true, true, true, true, true, true, true, true, true, true, true, true, true, true, true, true, true, true, true, true, true, true, true, true, true, true, true, true, true, true, true, true, true, true, false, false, false, false, false, false, false, false, false, false, false, false, false, false, false, false, false, false, false, false, false, false, false, false, false] rfl rfl (any_of HT_.out (by kernel_rfl)) (fun _ _ _ h => h) (Or.inl ⟨by rfl, ?_⟩) ?_ ?_
                                rotate_left
                                · intro w'
                                  go_simp
                                  with_reducible rfl
                                rotate_left
                                · simp only [Act.put, List.setIfInBounds_toArray, List.set_cons_zero, List.set_cons_succ, i64_w, i32_w]
                                  rfl
                                refine pure_ (i := 49) (N := some 86) (v := ?_) (a' := ?_) #[true, true, true, true, true, true, true, true, true, true, true, true, true, true, true, true, true, true, true, true, true, true, true, true, true, true, true, true, true, true, true, true, true, true, true, true, true, true, true, true, true, true, true, true, true, true, true, true, true, true, false, false, false, false, false, false, false, false, false, false, false, false, false, false, false, false, false, false, false, false, false, false, false, false] rfl rfl (any_of HT_.out (by kernel_rfl)) (fun _ _ _ h => h) (Or.inl ⟨by rfl, ?_⟩) ?_ ?_
                                rotate_left
                                · intro w'
                                  go_simp
                                  with_reducible rfl
                                rotate_left
                                · simp only [Act.put, List.setIfInBounds_toArray, List.set_cons_zero, List.set_cons_succ, i64_w, i32_w]
                                  rfl
                                refine pure_ (i := 50) (N := some 87) (v := ?_) (a' := ?_) #[true, true, true, true, true, true, true, true, true, true, true, true, true, true, true, true, true, true, true, true, true, true, true, true, true, true, true, true, true, true, true, true, true, true, true, true, true, true, true, true, true, true, true, true, true, true, true, true, true, true, true, false, false, false, false, false, false, false, false, false, false, false, false, false, false, false, false, false, false, false, false, false, false, false] rfl rfl (any_of HT_.out (by kernel_rfl)) (fun _ _ _ h => h) (Or.inl ⟨by rfl, ?_⟩) ?_ ?_
                                rotate_left
                                · intro w'
                                  go_simp
                                  with_reducible rfl
                                rotate_left
                                · simp only [Act.put, List.setIfInBounds_toArray, List.set_cons_zero, List.set_cons_succ, i64_w, i32_w]
                                  rfl
                                refine pure_ (i := 51) (N := some 88) (v := ?_) (a' := ?_) #[true, true, true, true, true, true, true, true, true, true, true, true, true, true, true, true, true, true, true, true, true, true, true, true, true, true, true, true, true, true, true, true, true, true, true, true, true, true, true, true, true, true, true, true, true, true, true, true, true, true, true, true, false, false, false, false, false, false, false, false, false, false, false, false, false, false, false, false, false, false, false, false, false, false] rfl rfl (any_of HT_.out (by kernel_rfl)) (fun _ _ _ h => h) (Or.inl ⟨by rfl, ?_⟩) ?_ ?_
                                rotate_left
                                · intro w'
                                  go_simp
                                  with_reducible rfl
                                rotate_left
                                · simp only [Act.put, List.setIfInBounds_toArray, List.set_cons_zero, List.set_cons_succ, i64_w, i32_w]
                                  rfl
                                refine pure_ (i := 52) (N := some 89) (v := ?_) (a' := ?_) #[true, true, true, true, true, true, true, true, true, true, true, true, true, true, true, true, true, true, true, true, true, true, true, true, true, true, true, true, true, true, true, true, true, true, true, true, true, true, true, true, true, true, true, true, true, true, true, true, true, true, true, true, true, false, false, false, false, false, false, false, false, false, false, false, false, false, false, false, false, false, false, false, false, false] rfl rfl (any_of HT_.out (by kernel_rfl)) (fun _ _ _ h => h) (Or.inl ⟨by rfl, ?_⟩) ?_ ?_
                                rotate_left
                                · intro w'
                                  go_simp
                                  with_reducible rfl
                                rotate_left
                                · simp only [Act.put, List.setIfInBounds_toArray, List.set_cons_zero, List.set_cons_succ, i64_w, i32_w]
                                  rfl
                                refine pure_ (i := 53) (N := some 90) (v := ?_) (a' := ?_) #[true, true, true, true, true, true, true, true, true, true, true, true, true, true, true, true, true, true, true, true, true, true, true, true, true, true, true, true, true, true, true, true, true, true, true, true, true, true, true, true, true, true, true, true, true, true, true, true, true, true, true, true, true, true, false, false, false, false, false, false, false, false, false, false, false, false, false, false, false, false, false, false, false, false] rfl rfl (any_of HT_.out (by kernel_rfl)) (fun _ _ _ h => h) (Or.inl ⟨by rfl, ?_⟩) ?_ ?_
                                rotate_left
                                · intro w'
                                  go_simp
                                  with_reducible rfl
                                rotate_left
                                · simp only [Act.put, List.setIfInBounds_toArray, List.set_cons_zero, List.set_cons_succ, i64_w, i32_w]
                                  rfl
                                refine pure_ (i := 54) (N := some 91) (v := ?_) (a' := ?_) #[true, true, true, true, true, true, true, true, true, true, true, true, true, true, true, true, true, true, true, true, true, true, true, true, true, true, true, true, true, true, true, true, true, true, true, true, true, true, true, true, true, true, true, true, true, true, true, true, true, true, true, true, true, true, true, false, false, false, false, false, false, false, false, false, false, false, false, false, false, false, false, false, false, false] rfl rfl (any_of HT_.out (by kernel_rfl)) (fun _ _ _ h => h) (Or.inl ⟨by rfl, ?_⟩) ?_ ?_
                                rotate_left
                                · intro w'
                                  go_simp
                                  with_reducible rfl
                                rotate_left
                                · simp only [Act.put, List.setIfInBounds_toArray, List.set_cons_zero, List.set_cons_succ, i64_w, i32_w]
                                  rfl
                                refine pure_ (i := 55) (N := some 92) (v := ?_) (a' := ?_) #[true, true, true, true, true, true, true, true, true, true, true, true, true, true, true, true, true, true, true, true, true, true, true, true, true, true, true, true, true, true, true, true, true, true, true, true, true, true, true, true, true, true, true, true, true, true, true, true, true, true, true, true, true, true, true, true, false, false, false, false, false, false, false, false, false, false, false, false, false, false, false, false, false, false] rfl rfl (any_of HT_.out (by kernel_rfl)) (fun _ _ _ h => h) (Or.inl ⟨by rfl, ?_⟩) ?_ ?_
                                rotate_left
                                · intro w'
                                  go_simp
                                  with_reducible rfl
                                rotate_left
                                · simp only [Act.put, List.setIfInBounds_toArray, List.set_cons_zero, List.set_cons_succ, i64_w, i32_w]
                                  rfl
                                refine pure_ (i := 57) (N := some 94) (v := ?_) (a' := ?_) #[true, true, true, true, true, true, true, true, true, true, true, true, true, true, true, true, true, true, true, true, true, true, true, true, true, true, true, true, true, true, true, true, true, true, true, true, true, true, true, true, true, true, true, true, true, true, true, true, true, true, true, true, true, true, true, true, false, true, false, false, false, false, false, false, false, false, false, false, false, false, false, false, false, false] rfl rfl (any_of HT_.out (by kernel_rfl)) (fun _ _ _ h => h) (Or.inl ⟨by rfl, ?_⟩) ?_ ?_
                                rotate_left
                                · intro w'
                                  go_simp
                                  with_reducible rfl
                                rotate_left
                                · simp only [Act.put, List.setIfInBounds_toArray, List.set_cons_zero, List.set_cons_succ, i64_w, i32_w]
                                  rfl
                                refine one_ (i := 56) (N := some 93) #[true, true, true, true, true, true, true, true, true, true, true, true, true, true, true, true, true, true, true, true, true, true, true, true, true, true, true, true, true, true, true, true, true, true, true, true, true, true, true, true, true, true, true, true, true, true, true, true, true, true, true, true, true, true, true, true, true, true, false, false, false, false, false, false, false, false, false, false, false, false, false, false, false, false] rfl rfl (one_of HT_.out (by kernel_rfl)) (by decide) (fun K hK => ?_)
                                refine goes_ Try.func20 (by kernel_rfl) rfl #[.agg #[.int .u64 3, .int .u64 0], .int .u64 1] (by rfl) rfl rfl (by (try simp only [List.map_toArray, List.map_cons, List.map_nil]); first | done | rfl | (simp only [List.length_drop, List.length_take]; rfl)) ?_
                                with_reducible refine (wide_Shr.calls k 3 0 1 t156 t157 _ A25.out).mono ?_
                                rintro e w70 ⟨rfl, hb⟩
                                refine ⟨_, rfl, ?_⟩
                                have n0_ := Aside0.mk (blk_below (g := gb124) (o := .cells #[.int .u64 18446744073709551615, .int .u64 18446744073709551615] 24 (0, 0)) (by (with_reducible repeat (first | refine blk_drewN ?_ _ | refine blk_drew ?_ | refine blk_alloc ?_ _)); exact BK124.out) hb)
                                have n1_ := Aside0.mk (blk_below (g := gb130) (o := .cells #[.int .u64 t127, .int .u64 t128] 24 (0, 0)) (by (with_reducible repeat (first | refine blk_drewN ?_ _ | refine blk_drew ?_ | refine blk_alloc ?_ _)); exact BK130.out) hb)
                                have n2_ := Aside0.mk (blk_below (g := gb138) (o := .cells #[.int .u64 t135, .int .u64 t136] 24 (0, 0)) (by (with_reducible repeat (first | refine blk_drewN ?_ _ | refine blk_drew ?_ | refine blk_alloc ?_ _)); exact BK138.out) hb)
                                have n3_ := Aside0.mk (blk_below (g := gb143) (o := .cells #[.int .u64 t139, .int .u64 t140] 24 (0, 0)) (by (with_reducible repeat (first | refine blk_drewN ?_ _ | refine blk_drew ?_ | refine blk_alloc ?_ _)); exact BK143.out) hb)
                                have n4_ := Aside0.mk (blk_below (g := gb148) (o := .cells #[.int .u64 t144, .int .u64 t145] 24 (0, 0)) (by (with_reducible repeat (first | refine blk_drewN ?_ _ | refine blk_drew ?_ | refine blk_alloc ?_ _)); exact BK148.out) hb)
                                have n5_ := Aside0.mk (below_step (by repeat (first | (with_reducible first | exact HB.out | apply below_alloc | apply pw_below_drewN | apply below_drew1 | refine below_set ?_ GE124.out | refine below_set ?_ GE130.out | refine below_set ?_ GE138.out | refine below_set ?_ GE143.out | refine below_set ?_ GE148.out) | exact HB.out)) hb)
                                clear BK124
                                clear BK130
                                clear BK138
                                clear BK143
                                clear BK148
                                clear HB
                                have BK124 := n0_
                                have BK130 := n1_
                                have BK138 := n2_
                                have BK143 := n3_
                                have BK148 := n4_
                                have HB := n5_
                                clear n0_ n1_ n2_ n3_ n4_ n5_
                                (try clear hb)
                                (try clear hb2)
                                (try clear hk)
                                (try clear hi)
                                refine hK.out _ _ ⟨(blk_cell BK130.out 0).trans rfl, (blk_cell BK130.out 1).trans rfl, (blk_cell BK138.out 0).trans rfl, (blk_cell BK138.out 1).trans rfl, (blk_cell BK124.out 0).trans rfl, (blk_cell BK124.out 1).trans rfl, (blk_cell BK143.out 0).trans rfl, (blk_cell BK143.out 1).trans rfl⟩ (fun hHeld => ?_)
                                clear hK K
                                refine norm_ (a' := ?_) ?_ ?_
                                rotate_left
                                · show Act.put _ (some 93) _ = _
                                  simp only [Act.put, List.setIfInBounds_toArray, List.set_cons_zero, List.set_cons_succ, i64_w, i32_w]
                                  rfl
                                refine pure_ (i := 58) (N := some 95) (v := ?_) (a' := ?_) #[true, true, true, true, true, true, true, true, true, true, true, true, true, true, true, true, true, true, true, true, true, true, true, true, true, true, true, true, true, true, true, true, true, true, true, true, true, true, true, true, true, true, true, true, true, true, true, true, true, true, true, true, true, true, true, true, true, true, true, false, false, false, false, false, false, false, false, false, false, false, false, false, false, false] rfl rfl (any_of HT_.out (by kernel_rfl)) (fun _ _ _ h => h) (Or.inl ⟨by rfl, ?_⟩) ?_ ?_
                                rotate_left
                                · intro w'
                                  go_simp
                                  with_reducible rfl
                                rotate_left
                                · simp only [Act.put, List.setIfInBounds_toArray, List.set_cons_zero, List.set_cons_succ, i64_w, i32_w]
                                  rfl
                                refine pure_ (i := 59) (N := some 96) (v := ?_) (a' := ?_) #[true, true, true, true, true, true, true, true, true, true, true, true, true, true, true, true, true, true, true, true, true, true, true, true, true, true, true, true, true, true, true, true, true, true, true, true, true, true, true, true, true, true, true, true, true, true, true, true, true, true, true, true, true, true, true, true, true, true, true, true, false, false, false, false, false, false, false, false, false, false, false, false, false, false] rfl rfl (any_of HT_.out (by kernel_rfl)) (fun _ _ _ h => h) (Or.inl ⟨by rfl, ?_⟩) ?_ ?_
                                rotate_left
                                · intro w'
                                  go_simp
                                  with_reducible rfl
                                rotate_left
                                · simp only [Act.put, List.setIfInBounds_toArray, List.set_cons_zero, List.set_cons_succ, i64_w, i32_w]
                                  rfl
                                refine pure_ (i := 60) (N := some 97) (v := ?_) (a' := ?_) #[true, true, true, true, true, true, true, true, true, true, true, true, true, true, true, true, true, true, true, true, true, true, true, true, true, true, true, true, true, true, true, true, true, true, true, true, true, true, true, true, true, true, true, true, true, true, true, true, true, true, true, true, true, true, true, true, true, true, true, true, true, false, false, false, false, false, false, false, false, false, false, false, false, false] rfl rfl (any_of HT_.out (by kernel_rfl)) (fun _ _ _ h => h) (Or.inl ⟨by rfl, ?_⟩) ?_ ?_
                                rotate_left
                                · intro w'
                                  go_simp
                                  with_reducible rfl
                                rotate_left
                                · simp only [Act.put, List.setIfInBounds_toArray, List.set_cons_zero, List.set_cons_succ, i64_w, i32_w]
                                  rfl
                                refine pure_ (i := 63) (N := some 100) (v := ?_) (a' := ?_) #[true, true, true, true, true, true, true, true, true, true, true, true, true, true, true, true, true, true, true, true, true, true, true, true, true, true, true, true, true, true, true, true, true, true, true, true, true, true, true, true, true, true, true, true, true, true, true, true, true, true, true, true, true, true, true, true, true, true, true, true, true, false, false, true, false, false, false, false, false, false, false, false, false, false] rfl rfl (any_of HT_.out (by kernel_rfl)) (fun _ _ _ h => h) (Or.inl ⟨by rfl, ?_⟩) ?_ ?_
                                rotate_left
                                · intro w'
                                  go_simp
                                  with_reducible rfl
                                rotate_left
                                · simp only [Act.put, List.setIfInBounds_toArray, List.set_cons_zero, List.set_cons_succ, i64_w, i32_w]
                                  rfl
                                refine take_ (i := 61) (N := some 98) (v := ?_) (a' := ?_) #[true, true, true, true, true, true, true, true, true, true, true, true, true, true, true, true, true, true, true, true, true, true, true, true, true, true, true, true, true, true, true, true, true, true, true, true, true, true, true, true, true, true, true, true, true, true, true, true, true, true, true, true, true, true, true, true, true, true, true, true, true, true, false, true, false, false, false, false, false, false, false, false, false, false] rfl rfl (take_ofW HT_.out HW_.out (by kernel_rfl)) (fun _ _ _ h => h) (Or.inl ⟨by rfl, ?_⟩) hHeld ?_ ?_
                                rotate_left
                                · rintro w' ⟨s0, s1, s2, s3, s4, s5, s6, s7⟩
                                  go_simp
                                  with_reducible rfl
                                rotate_left
                                · simp only [Act.put, List.setIfInBounds_toArray, List.set_cons_zero, List.set_cons_succ, i64_w, i32_w]
                                  rfl
                                refine one_ (i := 62) (N := some 99) #[true, true, true, true, true, true, true, true, true, true, true, true, true, true, true, true, true, true, true, true, true, true, true, true, true, true, true, true, true, true, true, true, true, true, true, true, true, true, true, true, true, true, true, true, true, true, true, true, true, true, true, true, true, true, true, true, true, true, true, true, true, true, true, true, false, false, false, false, false, false, false, false, false, false] rfl rfl (one_of HT_.out (by kernel_rfl)) (by decide) (fun K hK => ?_)
                                refine goes_ Try.func20 (by kernel_rfl) rfl #[.agg #[.int .u64 18446744073709551615, .int .u64 18446744073709551615], .int .u64 128] (by rfl) rfl rfl (by (try simp only [List.map_toArray, List.map_cons, List.map_nil]); first | done | rfl | (simp only [List.length_drop, List.length_take]; rfl)) ?_
                                with_reducible refine (wide_Shr.calls k 18446744073709551615 18446744073709551615 128 t158 t159 _ A27.out).mono ?_
                                rintro e w71 ⟨rfl, hb⟩
                                refine ⟨_, rfl, ?_⟩
                                have n0_ := Aside0.mk (blk_below (g := gb124) (o := .cells #[.int .u64 18446744073709551615, .int .u64 18446744073709551615] 24 (0, 0)) (by (with_reducible repeat (first | refine blk_drewN ?_ _ | refine blk_drew ?_ | refine blk_alloc ?_ _)); exact BK124.out) hb)
                                have n1_ := Aside0.mk (blk_below (g := gb130) (o := .cells #[.int .u64 t127, .int .u64 t128] 24 (0, 0)) (by (with_reducible repeat (first | refine blk_drewN ?_ _ | refine blk_drew ?_ | refine blk_alloc ?_ _)); exact BK130.out) hb)
                                have n2_ := Aside0.mk (blk_below (g := gb138) (o := .cells #[.int .u64 t135, .int .u64 t136] 24 (0, 0)) (by (with_reducible repeat (first | refine blk_drewN ?_ _ | refine blk_drew ?_ | refine blk_alloc ?_ _)); exact BK138.out) hb)
                                have n3_ := Aside0.mk (blk_below (g := gb143) (o := .cells #[.int .u64 t139, .int .u64 t140] 24 (0, 0)) (by (with_reducible repeat (first | refine blk_drewN ?_ _ | refine blk_drew ?_ | refine blk_alloc ?_ _)); exact BK143.out) hb)
                                have n4_ := Aside0.mk (blk_below (g := gb148) (o := .cells #[.int .u64 t144, .int .u64 t145] 24 (0, 0)) (by (with_reducible repeat (first | refine blk_drewN ?_ _ | refine blk_drew ?_ | refine blk_alloc ?_ _)); exact BK148.out) hb)
                                have n5_ := Aside0.mk (below_step (by repeat (first | (with_reducible first | exact HB.out | apply below_alloc | apply pw_below_drewN | apply below_drew1 | refine below_set ?_ GE124.out | refine below_set ?_ GE130.out | refine below_set ?_ GE138.out | refine below_set ?_ GE143.out | refine below_set ?_ GE148.out) | exact HB.out)) hb)
                                clear BK124
                                clear BK130
                                clear BK138
                                clear BK143
                                clear BK148
                                clear HB
                                have BK124 := n0_
                                have BK130 := n1_
                                have BK138 := n2_
                                have BK143 := n3_
                                have BK148 := n4_
                                have HB := n5_
                                clear n0_ n1_ n2_ n3_ n4_ n5_
                                (try clear hb)
                                (try clear hb2)
                                (try clear hk)
                                (try clear hi)
                                refine hK.out _ _ ⟨(blk_cell BK130.out 0).trans rfl, (blk_cell BK130.out 1).trans rfl, (blk_cell BK138.out 0).trans rfl, (blk_cell BK138.out 1).trans rfl, (blk_cell BK124.out 0).trans rfl, (blk_cell BK124.out 1).trans rfl, (blk_cell BK143.out 0).trans rfl, (blk_cell BK143.out 1).trans rfl⟩ (fun hHeld => ?_)
                                clear hK K
                                refine norm_ (a' := ?_) ?_ ?_
                                rotate_left
                                · show Act.put _ (some 99) _ = _
                                  simp only [Act.put, List.setIfInBounds_toArray, List.set_cons_zero, List.set_cons_succ, i64_w, i32_w]
                                  rfl
                                refine pure_ (i := 64) (N := some 101) (v := ?_) (a' := ?_) #[true, true, true, true, true, true, true, true, true, true, true, true, true, true, true, true, true, true, true, true, true, true, true, true, true, true, true, true, true, true, true, true, true, true, true, true, true, true, true, true, true, true, true, true, true, true, true, true, true, true, true, true, true, true, true, true, true, true, true, true, true, true, true, true, true, false, false, false, false, false, false, false, false, false] rfl rfl (any_of HT_.out (by kernel_rfl)) (fun _ _ _ h => h) (Or.inl ⟨by rfl, ?_⟩) ?_ ?_
                                rotate_left
                                · intro w'
                                  go_simp
                                  with_reducible rfl
                                rotate_left
                                · simp only [Act.put, List.setIfInBounds_toArray, List.set_cons_zero, List.set_cons_succ, i64_w, i32_w]
                                  rfl
                                refine pure_ (i := 65) (N := some 102) (v := ?_) (a' := ?_) #[true, true, true, true, true, true, true, true, true, true, true, true, true, true, true, true, true, true, true, true, true, true, true, true, true, true, true, true, true, true, true, true, true, true, true, true, true, true, true, true, true, true, true, true, true, true, true, true, true, true, true, true, true, true, true, true, true, true, true, true, true, true, true, true, true, true, false, false, false, false, false, false, false, false] rfl rfl (any_of HT_.out (by kernel_rfl)) (fun _ _ _ h => h) (Or.inl ⟨by rfl, ?_⟩) ?_ ?_
                                rotate_left
                                · intro w'
                                  go_simp
                                  with_reducible rfl
                                rotate_left
                                · simp only [Act.put, List.setIfInBounds_toArray, List.set_cons_zero, List.set_cons_succ, i64_w, i32_w]
                                  rfl
                                refine pure_ (i := 66) (N := some 103) (v := ?_) (a' := ?_) #[true, true, true, true, true, true, true, true, true, true, true, true, true, true, true, true, true, true, true, true, true, true, true, true, true, true, true, true, true, true, true, true, true, true, true, true, true, true, true, true, true, true, true, true, true, true, true, true, true, true, true, true, true, true, true, true, true, true, true, true, true, true, true, true, true, true, true, false, false, false, false, false, false, false] rfl rfl (any_of HT_.out (by kernel_rfl)) (fun _ _ _ h => h) (Or.inl ⟨by rfl, ?_⟩) ?_ ?_
                                rotate_left
                                · intro w'
                                  go_simp
                                  with_reducible rfl
                                rotate_left
                                · simp only [Act.put, List.setIfInBounds_toArray, List.set_cons_zero, List.set_cons_succ, i64_w, i32_w]
                                  rfl
                                refine pure_ (i := 68) (N := some 105) (v := ?_) (a' := ?_) #[true, true, true, true, true, true, true, true, true, true, true, true, true, true, true, true, true, true, true, true, true, true, true, true, true, true, true, true, true, true, true, true, true, true, true, true, true, true, true, true, true, true, true, true, true, true, true, true, true, true, true, true, true, true, true, true, true, true, true, true, true, true, true, true, true, true, true, false, true, false, false, false, false, false] rfl rfl (any_of HT_.out (by kernel_rfl)) (fun _ _ _ h => h) (Or.inl ⟨by rfl, ?_⟩) ?_ ?_
                                rotate_left
                                · intro w'
                                  go_simp
                                  with_reducible rfl
                                rotate_left
                                · simp only [Act.put, List.setIfInBounds_toArray, List.set_cons_zero, List.set_cons_succ, i64_w, i32_w]
                                  rfl
                                refine one_ (i := 67) (N := some 104) #[true, true, true, true, true, true, true, true, true, true, true, true, true, true, true, true, true, true, true, true, true, true, true, true, true, true, true, true, true, true, true, true, true, true, true, true, true, true, true, true, true, true, true, true, true, true, true, true, true, true, true, true, true, true, true, true, true, true, true, true, true, true, true, true, true, true, true, true, true, false, false, false, false, false] rfl rfl (one_of HT_.out (by kernel_rfl)) (by decide) (fun K hK => ?_)
                                refine goes_ Try.func22 (by kernel_rfl) rfl #[.int .u64 5] (by rfl) rfl rfl (by (try simp only [List.map_toArray, List.map_cons, List.map_nil]); first | done | rfl | (simp only [List.length_drop, List.length_take]; rfl)) ?_
                                with_reducible refine (wide_Of.calls 5 t160 t161 _ A29.out).mono ?_
                                rintro e w72 ⟨rfl, hb⟩
                                refine ⟨_, rfl, ?_⟩
                                have n0_ := Aside0.mk (blk_below (g := gb124) (o := .cells #[.int .u64 18446744073709551615, .int .u64 18446744073709551615] 24 (0, 0)) (by (with_reducible repeat (first | refine blk_drewN ?_ _ | refine blk_drew ?_ | refine blk_alloc ?_ _)); exact BK124.out) hb)
                                have n1_ := Aside0.mk (blk_below (g := gb130) (o := .cells #[.int .u64 t127, .int .u64 t128] 24 (0, 0)) (by (with_reducible repeat (first | refine blk_drewN ?_ _ | refine blk_drew ?_ | refine blk_alloc ?_ _)); exact BK130.out) hb)
                                have n2_ := Aside0.mk (blk_below (g := gb138) (o := .cells #[.int .u64 t135, .int .u64 t136] 24 (0, 0)) (by (with_reducible repeat (first | refine blk_drewN ?_ _ | refine blk_drew ?_ | refine blk_alloc ?_ _)); exact BK138.out) hb)
                                have n3_ := Aside0.mk (blk_below (g := gb143) (o := .cells #[.int .u64 t139, .int .u64 t140] 24 (0, 0)) (by (with_reducible repeat (first | refine blk_drewN ?_ _ | refine blk_drew ?_ | refine blk_alloc ?_ _)); exact BK143.out) hb)
                                have n4_ := Aside0.mk (blk_below (g := gb148) (o := .cells #[.int .u64 t144, .int .u64 t145] 24 (0, 0)) (by (with_reducible repeat (first | refine blk_drewN ?_ _ | refine blk_drew ?_ | refine blk_alloc ?_ _)); exact BK148.out) hb)
                                have n5_ := Aside0.mk (below_step (by repeat (first | (with_reducible first | exact HB.out | apply below_alloc | apply pw_below_drewN | apply below_drew1 | refine below_set ?_ GE124.out | refine below_set ?_ GE130.out | refine below_set ?_ GE138.out | refine below_set ?_ GE143.out | refine below_set ?_ GE148.out) | exact HB.out)) hb)
                                clear BK124
                                clear BK130
                                clear BK138
                                clear BK143
                                clear BK148
                                clear HB
                                have BK124 := n0_
                                have BK130 := n1_
                                have BK138 := n2_
                                have BK143 := n3_
                                have BK148 := n4_
                                have HB := n5_
                                clear n0_ n1_ n2_ n3_ n4_ n5_
                                (try clear hb)
                                (try clear hb2)
                                (try clear hk)
                                (try clear hi)
                                refine hK.out _ _ ⟨(blk_cell BK130.out 0).trans rfl, (blk_cell BK130.out 1).trans rfl, (blk_cell BK138.out 0).trans rfl, (blk_cell BK138.out 1).trans rfl, (blk_cell BK124.out 0).trans rfl, (blk_cell BK124.out 1).trans rfl, (blk_cell BK143.out 0).trans rfl, (blk_cell BK143.out 1).trans rfl⟩ (fun hHeld => ?_)
                                clear hK K
                                refine norm_ (a' := ?_) ?_ ?_
                                rotate_left
                                · show Act.put _ (some 104) _ = _
                                  simp only [Act.put, List.setIfInBounds_toArray, List.set_cons_zero, List.set_cons_succ, i64_w, i32_w]
                                  rfl
                                refine pure_ (i := 69) (N := some 106) (v := ?_) (a' := ?_) #[true, true, true, true, true, true, true, true, true, true, true, true, true, true, true, true, true, true, true, true, true, true, true, true, true, true, true, true, true, true, true, true, true, true, true, true, true, true, true, true, true, true, true, true, true, true, true, true, true, true, true, true, true, true, true, true, true, true, true, true, true, true, true, true, true, true, true, true, true, true, false, false, false, false] rfl rfl (any_of HT_.out (by kernel_rfl)) (fun _ _ _ h => h) (Or.inl ⟨by rfl, ?_⟩) ?_ ?_
                                rotate_left
                                · intro w'
                                  go_simp
                                  with_reducible rfl
                                rotate_left
                                · simp only [Act.put, List.setIfInBounds_toArray, List.set_cons_zero, List.set_cons_succ, i64_w, i32_w]
                                  rfl
                                refine pure_ (i := 70) (N := some 107) (v := ?_) (a' := ?_) #[true, true, true, true, true, true, true, true, true, true, true, true, true, true, true, true, true, true, true, true, true, true, true, true, true, true, true, true, true, true, true, true, true, true, true, true, true, true, true, true, true, true, true, true, true, true, true, true, true, true, true, true, true, true, true, true, true, true, true, true, true, true, true, true, true, true, true, true, true, true, true, false, false, false] rfl rfl (any_of HT_.out (by kernel_rfl)) (fun _ _ _ h => h) (Or.inl ⟨by rfl, ?_⟩) ?_ ?_
                                rotate_left
                                · intro w'
                                  go_simp
                                  with_reducible rfl
                                rotate_left
                                · simp only [Act.put, List.setIfInBounds_toArray, List.set_cons_zero, List.set_cons_succ, i64_w, i32_w]
                                  rfl
                                refine pure_ (i := 71) (N := some 108) (v := ?_) (a' := ?_) #[true, true, true, true, true, true, true, true, true, true, true, true, true, true, true, true, true, true, true, true, true, true, true, true, true, true, true, true, true, true, true, true, true, true, true, true, true, true, true, true, true, true, true, true, true, true, true, true, true, true, true, true, true, true, true, true, true, true, true, true, true, true, true, true, true, true, true, true, true, true, true, true, false, false] rfl rfl (any_of HT_.out (by kernel_rfl)) (fun _ _ _ h => h) (Or.inl ⟨by rfl, ?_⟩) ?_ ?_
                                rotate_left
                                · intro w'
                                  go_simp
                                  with_reducible rfl
                                rotate_left
                                · simp only [Act.put, List.setIfInBounds_toArray, List.set_cons_zero, List.set_cons_succ, i64_w, i32_w]
                                  rfl
                                refine pure_ (i := 72) (N := some 109) (v := ?_) (a' := ?_) #[true, true, true, true, true, true, true, true, true, true, true, true, true, true, true, true, true, true, true, true, true, true, true, true, true, true, true, true, true, true, true, true, true, true, true, true, true, true, true, true, true, true, true, true, true, true, true, true, true, true, true, true, true, true, true, true, true, true, true, true, true, true, true, true, true, true, true, true, true, true, true, true, true, false] rfl rfl (any_of HT_.out (by kernel_rfl)) (fun _ _ _ h => h) (Or.inl ⟨by rfl, ?_⟩) ?_ ?_
                                rotate_left
                                · intro w'
                                  go_simp
                                  with_reducible rfl
                                rotate_left
                                · simp only [Act.put, List.setIfInBounds_toArray, List.set_cons_zero, List.set_cons_succ, i64_w, i32_w]
                                  rfl
                                refine pure_ (i := 73) (N := some 0) (v := ?_) (a' := ?_) #[true, true, true, true, true, true, true, true, true, true, true, true, true, true, true, true, true, true, true, true, true, true, true, true, true, true, true, true, true, true, true, true, true, true, true, true, true, true, true, true, true, true, true, true, true, true, true, true, true, true, true, true, true, true, true, true, true, true, true, true, true, true, true, true, true, true, true, true, true, true, true, true, true, true] rfl rfl (any_of HT_.out (by kernel_rfl)) (fun _ _ _ h => h) (Or.inl ⟨by rfl, ?_⟩) ?_ ?_
                                rotate_left
                                · intro w'
                                  go_simp
                                  with_reducible rfl
                                rotate_left
                                · simp only [Act.put, List.setIfInBounds_toArray, List.set_cons_zero, List.set_cons_succ, i64_w, i32_w]
                                  rfl
                                refine done_ (done_of HT_.out (by kernel_rfl)) ?_
                                try go_wp2
                                go_ret
                                exact ⟨by first | rfl | (simp [errW_none, errW_some] <;> rfl) | (simp [*, errW_none, errW_some] <;> rfl), by repeat (first | (with_reducible first | exact HB.out | apply below_alloc | apply pw_below_drewN | apply below_drew1 | refine below_set ?_ GE124.out | refine below_set ?_ GE130.out | refine below_set ?_ GE138.out | refine below_set ?_ GE143.out | refine below_set ?_ GE148.out) | exact HB.out)⟩
                              · rw [if_neg c30] at H
                                exact absurd H (by simp)
                            · rw [if_neg c28] at H
                              exact absurd H (by simp)
                          · rw [if_neg c26] at H
                            exact absurd H (by simp)
                        · rw [if_neg c24] at H
                          exact absurd H (by simp)
                      · rw [if_neg c23] at H
                        exact absurd H (by simp)
                    · rw [if_neg c22] at H
                      exact absurd H (by simp)
                  · rw [if_neg c21] at H
                    exact absurd H (by simp)
                · rw [if_neg c20] at H
                  exact absurd H (by simp)
              · rw [if_neg c18] at H
                exact absurd H (by simp)
            · rw [if_neg c16] at H
              exact absurd H (by simp)
          · replace c14 := Bool.eq_false_iff.mpr c14
            subst c14
            have H1 : (none) = some r := by rw [if_neg (show ¬ (false = true) by decide)] at H; exact H
            clear H
            have H := H1
            clear H1
            exact absurd H (by simp)
        · rw [if_neg c13] at H
          exact absurd H (by simp)
      · replace c12 := Bool.eq_false_iff.mpr c12
        subst c12
        have H1 : (none) = some r := by rw [if_neg (show ¬ (false = true) by decide)] at H; exact H
        clear H
        have H := H1
        clear H1
        exact absurd H (by simp)
    · rw [if_neg c11] at H
      exact absurd H (by simp)
  · rw [if_neg c9] at H
    exact absurd H (by simp)

end Go.Proofs.Ytkicianajhnpkaa.Print
