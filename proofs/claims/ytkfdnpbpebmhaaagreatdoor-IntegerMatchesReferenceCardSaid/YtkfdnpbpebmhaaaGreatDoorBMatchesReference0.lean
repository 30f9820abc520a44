/- The law IntegerMatchesReference: the row and its card. For every input the call answers true, and what was handed in reads as before. Conditions: the listed package-level variables start as the program's text lays them. In this text, besides: The reading of short arrays handed in; Runs: the law of the reference; Laws: the reference; The law IntegerMatchesReference: the row and its card. For every input the call answers true, and what was handed in reads as before. Conditions: the listed package-level variables start as the program's text lays them. -/
import Derived.Test.YtkfdnpbpebmhaaaGreatDoorProg
import Derived.Test.YtkfdnpbpebmhaaaGreatDoorZ0
import Derived.Test.YtkfdnpbpebmhaaaGreatDoorZ1
import Derived.Test.YtkfdnpbpebmhaaaGreatDoorZ2
import Derived.Test.YtkfdnpbpebmhaaaGreatDoorZ3
import Derived.Test.YtkfdnpbpebmhaaaGreatDoorZ4
import Derived.Test.YtkfdnpbpebmhaaaGreatDoorZ5
import Derived.Test.YtkfdnpbpebmhaaaGreatDoorZ6
namespace Go.Proofs.YtkfdnpbpebmhaaaGreatDoor.Row
open Go Go.RowKit Go.ChangeShapes Go.WideShapes Go.ChangeAt Sx Num Spec

section
variable {P : Program} {H : Type} {enc : TypeId × Value → H} {W : World} {base : Nat}
theorem okWide_arr {n : Nat} {t e : TypeId} {v : Value} (ht : P.underlying t = some (.array n e)) (h : Value.okWide P W .any base t v) : ∃ cs, v = .agg cs ∧ cs.size = P.cellsOf t := by
  simp only [Value.okWide, ht] at h
  obtain ⟨cs, h1, h2, _⟩ := h
  exact ⟨cs, h1, h2⟩
/-- Three bytes, handed in. -/
theorem open_arr_b3 {t e : TypeId} {v : Value} {d : DataW H} {ps : List MemPlace} (ht : P.underlying t = some (.array 3 e)) (hc : P.cellsOf t = 3) (te : P.underlying e = some (.int .u8)) (ce : P.cellsOf e = 1)
    (hval : Value.okWide P W .any base t v) (h : DataW.Trod enc P W 0 (fun _ => true) true t v d ps) :
    ∃ a b c : Int, (0 ≤ a ∧ a < 256) ∧ (0 ≤ b ∧ b < 256) ∧ (0 ≤ c ∧ c < 256) ∧ gS (fun _ => False) (fun _ => 0) W (.agg [.v (.int .u8 a), .v (.int .u8 b), .v (.int .u8 c)]) v := by
  obtain ⟨cs, rfl, hsz⟩ := okWide_arr ht hval
  obtain ⟨fuel, hf⟩ := h
  obtain ⟨ys, n, _, _, hl, _, hg⟩ := DataW.trod_array ht hf
  have hcells : (Value.agg cs).cells = cs := rfl
  rw [hcells] at hl hg
  rw [hc] at hl
  obtain ⟨l⟩ := cs
  match l, hl with
  | [x, y, z], _ =>
    have one : ∀ (i : Nat) (u : Value), i < 3 → ([x, y, z].drop (i * 1)).take 1 = [u] → ∃ k : Int, u = .int .u8 k ∧ 0 ≤ k ∧ k < 256 := by
      intro i u hi hu
      have h := hg i hi
      rw [ce, hu] at h
      have hlt : i < ys.length := by omega
      rw [List.getElem?_eq_getElem hlt] at h
      obtain ⟨k, hk, _, hw⟩ := DataW.trod_int te h
      simp only [List.cons.injEq, and_true] at hk
      refine ⟨k, hk, ?_⟩
      simp [Lit.wf, IntKind.min, IntKind.max, IntKind.signed, IntKind.bits] at hw
      omega
    obtain ⟨a, rfl, ha⟩ := one 0 x (by omega) rfl
    obtain ⟨b, rfl, hb⟩ := one 1 y (by omega) rfl
    obtain ⟨c, rfl, hc⟩ := one 2 z (by omega) rfl
    exact ⟨a, b, c, ha, hb, hc, _, rfl, rfl, rfl, rfl, trivial⟩
/-- Two int64, handed in. -/
theorem open_arr_i2 {t e : TypeId} {v : Value} {d : DataW H} {ps : List MemPlace} (ht : P.underlying t = some (.array 2 e)) (hc : P.cellsOf t = 2) (te : P.underlying e = some (.int .i64)) (ce : P.cellsOf e = 1)
    (hval : Value.okWide P W .any base t v) (h : DataW.Trod enc P W 0 (fun _ => true) true t v d ps) :
    ∃ a b : Int, (-9223372036854775808 ≤ a ∧ a < 9223372036854775808) ∧ (-9223372036854775808 ≤ b ∧ b < 9223372036854775808) ∧ gS (fun _ => False) (fun _ => 0) W (.agg [.v (.int .i64 a), .v (.int .i64 b)]) v := by
  obtain ⟨cs, rfl, hsz⟩ := okWide_arr ht hval
  obtain ⟨fuel, hf⟩ := h
  obtain ⟨ys, n, _, _, hl, _, hg⟩ := DataW.trod_array ht hf
  have hcells : (Value.agg cs).cells = cs := rfl
  rw [hcells] at hl hg
  rw [hc] at hl
  obtain ⟨l⟩ := cs
  match l, hl with
  | [x, y], _ =>
    have one : ∀ (i : Nat) (u : Value), i < 2 → ([x, y].drop (i * 1)).take 1 = [u] → ∃ k : Int, u = .int .i64 k ∧ -9223372036854775808 ≤ k ∧ k < 9223372036854775808 := by
      intro i u hi hu
      have h := hg i hi
      rw [ce, hu] at h
      have hlt : i < ys.length := by omega
      rw [List.getElem?_eq_getElem hlt] at h
      obtain ⟨k, hk, _, hw⟩ := DataW.trod_int te h
      simp only [List.cons.injEq, and_true] at hk
      refine ⟨k, hk, ?_⟩
      simp [Lit.wf, IntKind.min, IntKind.max, IntKind.signed, IntKind.bits] at hw
      omega
    obtain ⟨a, rfl, ha⟩ := one 0 x (by omega) rfl
    obtain ⟨b, rfl, hb⟩ := one 1 y (by omega) rfl
    exact ⟨a, b, ha, hb, _, rfl, rfl, rfl, trivial⟩
end
end Go.Proofs.YtkfdnpbpebmhaaaGreatDoor.Row
section
set_option maxRecDepth 100000
namespace Go.Proofs.YtkfdnpbpebmhaaaGreatDoor.Spec
open Go Go.RowKit Sx Num
def in2 (a b : Int) : SV := .agg [.v (.int .i64 a), .v (.int .i64 b)]
theorem run11a (s t : Bool) (xs ys : List Int) (a b : Int) : fnEx Tryz.prog (lk E23) L0 (G1 [32, 68, 73, 74, 79, 80, 89, 90, 99, 102, 103, 111, 112, 121, 122, 131, 132, 141, 175, 180]) 60 Tryz.f11 [rawA s xs, rawA t ys, in2 a b] = (let q0 := o_made s xs (12 : Nat); let q1 := o_made t ys (12 : Nat); let q4 := (Bool.not (decide (sgnI (o_rt q0 - o_rt q1) = sgnI (o_rt q0 - o_rt q1)))) = false; let q5 := (Bool.not (decide (o_rt q0 - o_rt q1 = o_rt q0 - o_rt q1))) = false; let q6 := (Bool.not (decide (o_rt q0 + o_rt q1 = o_rt q0 + o_rt q1))) = false; let q7 := (Bool.not (decide (o_rt (o_rt q0 / o_rt q1) = o_rt (o_rt q0 / o_rt q1)))) = false; let q8 := (Bool.not (decide (o_dz (o_rt q1) = o_dz (o_rt q1)))) = false; let q10 := (Bool.not (decide (o_pe a = o_pe a))) = false; let q11 := decide (o_re (o_rt q0) b = o_re (o_rt q0) b) = true; let q12 := gcdZ (o_rt q0) (o_rt q1); let q13 := o_rem (o_rt q0) (o_rt q1); let q2 := (Bool.not (decide (o_rt q13 = o_rt q13))) = false; let q14 := o_bv (o_rt q0) (o_rt q1); let q3 := (Bool.not (decide (o_rt q14 = o_rt q14))) = false; let q15 := (0 : Int) ≤ (0 : Int) ∧ (0 : Int) < (↑(2 : Nat) : Int); let q16 := o_bu (o_rt q0) (o_rt q1); let q17 := decide (a < (0 : Int)) = true; let q18 := (↑(o_gcd (Int.natAbs (o_rt q0)) (Int.natAbs (o_rt q1))) : Int); let q19 := (0 : Int) ≤ (1 : Int) ∧ (1 : Int) < (↑(2 : Nat) : Int); let q20 := (0 : Int) ≤ (12 : Int) ∧ (12 : Int) ≤ (1000000 : Int); let q21 := o_sz big (o_rt (o_rootZ (o_rt q0) b)); let q22 := o_sz big (o_rt (o_powZ (o_rt q0) a)); let q23 := o_sz big (o_rt (o_rt q0 / o_rt q1)); let q24 := o_sz (40000000 : Nat) (o_rt q0); let q25 := o_sz (40000000 : Nat) (o_rt q1); let q26 := o_sz (1000000 : Nat) (o_rt q0); let q27 := o_sz big (o_rt q0 - o_rt q1); let q28 := o_sz big (o_rt q0 * o_rt q1); let q29 := o_sz big (o_rt q0 + o_rt q1); let q30 := enc (Int.natAbs (o_rt q0)); let q9 := List.length q30 * (4097 : Nat) ≤ (100000000 : Nat) ∨ List.length q30 * (Int.toNat a + (1 : Nat)) ≤ (100000000 : Nat) ∨ ¬((0 : Int) ≤ a ∧ a ≤ (4096 : Int)); let q31 := o_okz (o_rootZ (o_rt q0) b); let q32 := o_okz (o_powZ (o_rt q0) a); let q33 := o_okz (o_rt q0 / o_rt q1); some (AV.s (SV.one (LV.v (Value.bool (decide (o_rt (o_rootZ (o_rt q0) b) = o_rt (o_rootZ (o_rt q0) b)))))), [false = false, Words xs, q20, Words ys, q20, o_okz q0, o_okz q1, o_sz big (o_rt q0), o_sz big (o_rt q1), o_okz q0, o_okz q1, o_sz big (o_rt q0), o_sz big (o_rt q1), o_okz q0, o_okz q1, q24, q25, o_okz q0, o_okz q1, q24, q25, q8, q8, q8, q33, q33, q23, q23, q8, q8, q7, q7, q7, o_okz q13, o_okz q13, o_sz big (o_rt q13), o_sz big (o_rt q13), q7, q7, q2, q2, q2, q2, q2, q2, q2, o_okz q12, o_okz q16, o_okz q14, o_okz q12, o_okz q16, o_okz q14, o_rt q12 = o_rt q12, o_rt q16 = o_rt q16, o_sz big (o_rt q12), o_sz big (o_rt q16), o_sz big (o_rt q14), o_sz big (o_rt q14), q2, q2, q3, q3, q3, o_okz q0, o_okz q1, o_sz big (o_rt q0), o_sz big (o_rt q1), q3, q3, q3, o_okz q0, o_okz q1, o_sz big (o_rt q0), o_sz big (o_rt q1), q3, o_sz big q12, o_sz big q12, q3, q3, (Bool.not (decide (q18 = q18))) = false, o_okz q0, o_sz (10000 : Nat) (o_rt q0), false = false, false = false, false = false, o_okz q0, o_okz q1, o_sz big (o_rt q0), o_sz big (o_rt q1), false = false, false = false, false = false, o_okz q0, o_okz q1, o_sz big (o_rt q0), o_sz big (o_rt q1), false = false, false = false, q4, q4, q4, o_okz q0, o_okz q1, o_sz big (o_rt q0), o_sz big (o_rt q1), q4, q4, q4, o_okz q0, o_okz q1, o_sz big (o_rt q0), o_sz big (o_rt q1), q4, q29, q29, q4, q4, q6, q6, q6, o_okz q0, o_okz q1, o_sz big (o_rt q0), o_sz big (o_rt q1), q6, q6, q6, o_okz q0, o_okz q1, o_sz big (o_rt q0), o_sz big (o_rt q1), q6, q27, q27, q6, q6, q5, q5, q5, o_okz q0, o_okz q1, o_sz big (o_rt q0), o_sz big (o_rt q1), q5, q5, q5, o_okz q0, o_okz q1, o_sz big (o_rt q0), o_sz big (o_rt q1), q5, q28, q28, q5, q5, (Bool.not (decide (o_rt q0 * o_rt q1 = o_rt q0 * o_rt q1))) = false, q15, q17, q17, q17, q17, true = true, true = true, true = true, true = true, true = true, true = true, true = true, true = true, q15, o_okz q0, q9, q15, o_okz q0, q9, q10, q10, q10, q32, q32, q22, q22, q10, q10, (Bool.not (decide (o_rt (o_powZ (o_rt q0) a) = o_rt (o_powZ (o_rt q0) a)))) = false, q19, o_okz q0, q26, q19, o_okz q0, q26, true = true, true = true, true = true, true = true, q11, q11, q11, q31, q31, q21, q21, q11])) := by kernel_rfl
theorem run11b (s t : Bool) (xs ys : List Int) (a b : Int) : fnEx Tryz.prog (lk E23) L0 (G1 [32, 68, 73, 74, 79, 80, 89, 90, 99, 102, 103, 111, 112, 121, 122, 131, 132, 141, 145, 175, 180]) 60 Tryz.f11 [rawA s xs, rawA t ys, in2 a b] = (let q0 := o_made s xs (12 : Nat); let q1 := o_made t ys (12 : Nat); let q4 := (Bool.not (decide (sgnI (o_rt q0 - o_rt q1) = sgnI (o_rt q0 - o_rt q1)))) = false; let q5 := (Bool.not (decide (o_rt q0 - o_rt q1 = o_rt q0 - o_rt q1))) = false; let q6 := (Bool.not (decide (o_rt q0 + o_rt q1 = o_rt q0 + o_rt q1))) = false; let q7 := (Bool.not (decide (o_rt (o_rt q0 / o_rt q1) = o_rt (o_rt q0 / o_rt q1)))) = false; let q8 := (Bool.not (decide (o_dz (o_rt q1) = o_dz (o_rt q1)))) = false; let q10 := decide ((4096 : Int) < a) = true; let q11 := (Bool.not (decide (o_pe a = o_pe a))) = false; let q12 := (0 : Int) ≤ (0 : Int) ∧ (0 : Int) < (↑(2 : Nat) : Int); let q13 := decide (o_re (o_rt q0) b = o_re (o_rt q0) b) = true; let q14 := gcdZ (o_rt q0) (o_rt q1); let q15 := o_rem (o_rt q0) (o_rt q1); let q2 := (Bool.not (decide (o_rt q15 = o_rt q15))) = false; let q16 := o_bv (o_rt q0) (o_rt q1); let q3 := (Bool.not (decide (o_rt q16 = o_rt q16))) = false; let q17 := o_bu (o_rt q0) (o_rt q1); let q18 := decide (a < (0 : Int)) = false; let q19 := (↑(o_gcd (Int.natAbs (o_rt q0)) (Int.natAbs (o_rt q1))) : Int); let q20 := (0 : Int) ≤ (1 : Int) ∧ (1 : Int) < (↑(2 : Nat) : Int); let q21 := (0 : Int) ≤ (12 : Int) ∧ (12 : Int) ≤ (1000000 : Int); let q22 := o_sz big (o_rt (o_rootZ (o_rt q0) b)); let q23 := o_sz big (o_rt (o_powZ (o_rt q0) a)); let q24 := o_sz big (o_rt (o_rt q0 / o_rt q1)); let q25 := o_sz (40000000 : Nat) (o_rt q0); let q26 := o_sz (40000000 : Nat) (o_rt q1); let q27 := o_sz (1000000 : Nat) (o_rt q0); let q28 := o_sz big (o_rt q0 - o_rt q1); let q29 := o_sz big (o_rt q0 * o_rt q1); let q30 := o_sz big (o_rt q0 + o_rt q1); let q31 := enc (Int.natAbs (o_rt q0)); let q9 := List.length q31 * (4097 : Nat) ≤ (100000000 : Nat) ∨ List.length q31 * (Int.toNat a + (1 : Nat)) ≤ (100000000 : Nat) ∨ ¬((0 : Int) ≤ a ∧ a ≤ (4096 : Int)); let q32 := o_okz (o_rootZ (o_rt q0) b); let q33 := o_okz (o_powZ (o_rt q0) a); let q34 := o_okz (o_rt q0 / o_rt q1); some (AV.s (SV.one (LV.v (Value.bool (decide (o_rt (o_rootZ (o_rt q0) b) = o_rt (o_rootZ (o_rt q0) b)))))), [false = false, Words xs, q21, Words ys, q21, o_okz q0, o_okz q1, o_sz big (o_rt q0), o_sz big (o_rt q1), o_okz q0, o_okz q1, o_sz big (o_rt q0), o_sz big (o_rt q1), o_okz q0, o_okz q1, q25, q26, o_okz q0, o_okz q1, q25, q26, q8, q8, q8, q34, q34, q24, q24, q8, q8, q7, q7, q7, o_okz q15, o_okz q15, o_sz big (o_rt q15), o_sz big (o_rt q15), q7, q7, q2, q2, q2, q2, q2, q2, q2, o_okz q14, o_okz q17, o_okz q16, o_okz q14, o_okz q17, o_okz q16, o_rt q14 = o_rt q14, o_rt q17 = o_rt q17, o_sz big (o_rt q14), o_sz big (o_rt q17), o_sz big (o_rt q16), o_sz big (o_rt q16), q2, q2, q3, q3, q3, o_okz q0, o_okz q1, o_sz big (o_rt q0), o_sz big (o_rt q1), q3, q3, q3, o_okz q0, o_okz q1, o_sz big (o_rt q0), o_sz big (o_rt q1), q3, o_sz big q14, o_sz big q14, q3, q3, (Bool.not (decide (q19 = q19))) = false, o_okz q0, o_sz (10000 : Nat) (o_rt q0), false = false, false = false, false = false, o_okz q0, o_okz q1, o_sz big (o_rt q0), o_sz big (o_rt q1), false = false, false = false, false = false, o_okz q0, o_okz q1, o_sz big (o_rt q0), o_sz big (o_rt q1), false = false, false = false, q4, q4, q4, o_okz q0, o_okz q1, o_sz big (o_rt q0), o_sz big (o_rt q1), q4, q4, q4, o_okz q0, o_okz q1, o_sz big (o_rt q0), o_sz big (o_rt q1), q4, q30, q30, q4, q4, q6, q6, q6, o_okz q0, o_okz q1, o_sz big (o_rt q0), o_sz big (o_rt q1), q6, q6, q6, o_okz q0, o_okz q1, o_sz big (o_rt q0), o_sz big (o_rt q1), q6, q28, q28, q6, q6, q5, q5, q5, o_okz q0, o_okz q1, o_sz big (o_rt q0), o_sz big (o_rt q1), q5, q5, q5, o_okz q0, o_okz q1, o_sz big (o_rt q0), o_sz big (o_rt q1), q5, q29, q29, q5, q5, (Bool.not (decide (o_rt q0 * o_rt q1 = o_rt q0 * o_rt q1))) = false, q12, q18, q12, q18, q18, q18, q10, q10, q10, q10, q10, q10, q10, true = true, q12, o_okz q0, q9, q12, o_okz q0, q9, q11, q11, q11, q33, q33, q23, q23, q11, q11, (Bool.not (decide (o_rt (o_powZ (o_rt q0) a) = o_rt (o_powZ (o_rt q0) a)))) = false, q20, o_okz q0, q27, q20, o_okz q0, q27, true = true, true = true, true = true, true = true, q13, q13, q13, q32, q32, q22, q22, q13])) := by kernel_rfl
theorem run11c (s t : Bool) (xs ys : List Int) (a b : Int) : fnEx Tryz.prog (lk E23) L0 (G1 [32, 68, 73, 74, 79, 80, 89, 90, 99, 102, 103, 111, 112, 121, 122, 131, 132, 141, 145, 149, 150, 175, 180]) 60 Tryz.f11 [rawA s xs, rawA t ys, in2 a b] = (let q0 := o_made s xs (12 : Nat); let q1 := o_made t ys (12 : Nat); let q4 := (Bool.not (decide (sgnI (o_rt q0 - o_rt q1) = sgnI (o_rt q0 - o_rt q1)))) = false; let q5 := (Bool.not (decide (o_rt q0 - o_rt q1 = o_rt q0 - o_rt q1))) = false; let q6 := (Bool.not (decide (o_rt q0 + o_rt q1 = o_rt q0 + o_rt q1))) = false; let q7 := (Bool.not (decide (o_rt (o_rt q0 / o_rt q1) = o_rt (o_rt q0 / o_rt q1)))) = false; let q8 := (Bool.not (decide (o_dz (o_rt q1) = o_dz (o_rt q1)))) = false; let q9 := (0 : Int) ≤ (0 : Int) ∧ (0 : Int) < (↑(2 : Nat) : Int); let q11 := decide ((4096 : Int) < a) = false; let q12 := (Bool.not (decide (o_pe a = o_pe a))) = false; let q13 := decide (o_re (o_rt q0) b = o_re (o_rt q0) b) = true; let q14 := gcdZ (o_rt q0) (o_rt q1); let q15 := o_rem (o_rt q0) (o_rt q1); let q2 := (Bool.not (decide (o_rt q15 = o_rt q15))) = false; let q16 := o_bv (o_rt q0) (o_rt q1); let q3 := (Bool.not (decide (o_rt q16 = o_rt q16))) = false; let q17 := o_bu (o_rt q0) (o_rt q1); let q18 := decide (a < (0 : Int)) = false; let q19 := (↑(o_gcd (Int.natAbs (o_rt q0)) (Int.natAbs (o_rt q1))) : Int); let q20 := (0 : Int) ≤ (1 : Int) ∧ (1 : Int) < (↑(2 : Nat) : Int); let q21 := (0 : Int) ≤ (12 : Int) ∧ (12 : Int) ≤ (1000000 : Int); let q22 := o_sz big (o_rt (o_rootZ (o_rt q0) b)); let q23 := o_sz big (o_rt (o_powZ (o_rt q0) a)); let q24 := o_sz big (o_rt (o_rt q0 / o_rt q1)); let q25 := o_sz (40000000 : Nat) (o_rt q0); let q26 := o_sz (40000000 : Nat) (o_rt q1); let q27 := o_sz (1000000 : Nat) (o_rt q0); let q28 := o_sz big (o_rt q0 - o_rt q1); let q29 := o_sz big (o_rt q0 * o_rt q1); let q30 := o_sz big (o_rt q0 + o_rt q1); let q31 := enc (Int.natAbs (o_rt q0)); let q10 := List.length q31 * (4097 : Nat) ≤ (100000000 : Nat) ∨ List.length q31 * (Int.toNat a + (1 : Nat)) ≤ (100000000 : Nat) ∨ ¬((0 : Int) ≤ a ∧ a ≤ (4096 : Int)); let q32 := o_okz (o_rootZ (o_rt q0) b); let q33 := o_okz (o_powZ (o_rt q0) a); let q34 := o_okz (o_rt q0 / o_rt q1); some (AV.s (SV.one (LV.v (Value.bool (decide (o_rt (o_rootZ (o_rt q0) b) = o_rt (o_rootZ (o_rt q0) b)))))), [false = false, Words xs, q21, Words ys, q21, o_okz q0, o_okz q1, o_sz big (o_rt q0), o_sz big (o_rt q1), o_okz q0, o_okz q1, o_sz big (o_rt q0), o_sz big (o_rt q1), o_okz q0, o_okz q1, q25, q26, o_okz q0, o_okz q1, q25, q26, q8, q8, q8, q34, q34, q24, q24, q8, q8, q7, q7, q7, o_okz q15, o_okz q15, o_sz big (o_rt q15), o_sz big (o_rt q15), q7, q7, q2, q2, q2, q2, q2, q2, q2, o_okz q14, o_okz q17, o_okz q16, o_okz q14, o_okz q17, o_okz q16, o_rt q14 = o_rt q14, o_rt q17 = o_rt q17, o_sz big (o_rt q14), o_sz big (o_rt q17), o_sz big (o_rt q16), o_sz big (o_rt q16), q2, q2, q3, q3, q3, o_okz q0, o_okz q1, o_sz big (o_rt q0), o_sz big (o_rt q1), q3, q3, q3, o_okz q0, o_okz q1, o_sz big (o_rt q0), o_sz big (o_rt q1), q3, o_sz big q14, o_sz big q14, q3, q3, (Bool.not (decide (q19 = q19))) = false, o_okz q0, o_sz (10000 : Nat) (o_rt q0), false = false, false = false, false = false, o_okz q0, o_okz q1, o_sz big (o_rt q0), o_sz big (o_rt q1), false = false, false = false, false = false, o_okz q0, o_okz q1, o_sz big (o_rt q0), o_sz big (o_rt q1), false = false, false = false, q4, q4, q4, o_okz q0, o_okz q1, o_sz big (o_rt q0), o_sz big (o_rt q1), q4, q4, q4, o_okz q0, o_okz q1, o_sz big (o_rt q0), o_sz big (o_rt q1), q4, q30, q30, q4, q4, q6, q6, q6, o_okz q0, o_okz q1, o_sz big (o_rt q0), o_sz big (o_rt q1), q6, q6, q6, o_okz q0, o_okz q1, o_sz big (o_rt q0), o_sz big (o_rt q1), q6, q28, q28, q6, q6, q5, q5, q5, o_okz q0, o_okz q1, o_sz big (o_rt q0), o_sz big (o_rt q1), q5, q5, q5, o_okz q0, o_okz q1, o_sz big (o_rt q0), o_sz big (o_rt q1), q5, q29, q29, q5, q5, (Bool.not (decide (o_rt q0 * o_rt q1 = o_rt q0 * o_rt q1))) = false, q9, q18, q9, q18, q18, q18, q11, q9, q11, q11, q11, o_okz q0, o_sz big (o_rt q0), q11, q11, q11, decide (IntKind.wrap .i64 (a * (↑(o_bits (Int.natAbs (o_rt q0))) : Int)) ≤ (20000 : Int)) = true, q9, o_okz q0, q10, q9, o_okz q0, q10, q12, q12, q12, q33, q33, q23, q23, q12, q12, (Bool.not (decide (o_rt (o_powZ (o_rt q0) a) = o_rt (o_powZ (o_rt q0) a)))) = false, q20, o_okz q0, q27, q20, o_okz q0, q27, true = true, true = true, true = true, true = true, q13, q13, q13, q32, q32, q22, q22, q13])) := by kernel_rfl
theorem run11d (s t : Bool) (xs ys : List Int) (a b : Int) : fnEx Tryz.prog (lk E23) L0 (G1 [32, 68, 73, 74, 79, 80, 89, 90, 99, 102, 103, 111, 112, 121, 122, 131, 132, 141, 145, 149, 150, 157]) 60 Tryz.f11 [rawA s xs, rawA t ys, in2 a b] = (let q0 := o_made s xs (12 : Nat); let q1 := o_made t ys (12 : Nat); let q4 := (Bool.not (decide (sgnI (o_rt q0 - o_rt q1) = sgnI (o_rt q0 - o_rt q1)))) = false; let q5 := (Bool.not (decide (o_rt q0 - o_rt q1 = o_rt q0 - o_rt q1))) = false; let q6 := (Bool.not (decide (o_rt q0 + o_rt q1 = o_rt q0 + o_rt q1))) = false; let q7 := (Bool.not (decide (o_rt (o_rt q0 / o_rt q1) = o_rt (o_rt q0 / o_rt q1)))) = false; let q8 := (Bool.not (decide (o_dz (o_rt q1) = o_dz (o_rt q1)))) = false; let q9 := decide ((4096 : Int) < a) = false; let q10 := decide (o_re (o_rt q0) b = o_re (o_rt q0) b) = true; let q11 := gcdZ (o_rt q0) (o_rt q1); let q12 := o_rem (o_rt q0) (o_rt q1); let q2 := (Bool.not (decide (o_rt q12 = o_rt q12))) = false; let q13 := o_bv (o_rt q0) (o_rt q1); let q3 := (Bool.not (decide (o_rt q13 = o_rt q13))) = false; let q14 := (0 : Int) ≤ (0 : Int) ∧ (0 : Int) < (↑(2 : Nat) : Int); let q15 := o_bu (o_rt q0) (o_rt q1); let q16 := decide (a < (0 : Int)) = false; let q17 := (↑(o_gcd (Int.natAbs (o_rt q0)) (Int.natAbs (o_rt q1))) : Int); let q18 := (0 : Int) ≤ (1 : Int) ∧ (1 : Int) < (↑(2 : Nat) : Int); let q19 := (0 : Int) ≤ (12 : Int) ∧ (12 : Int) ≤ (1000000 : Int); let q20 := o_sz big (o_rt (o_rootZ (o_rt q0) b)); let q21 := o_sz big (o_rt (o_rt q0 / o_rt q1)); let q22 := o_sz (40000000 : Nat) (o_rt q0); let q23 := o_sz (40000000 : Nat) (o_rt q1); let q24 := o_sz (1000000 : Nat) (o_rt q0); let q25 := o_sz big (o_rt q0 - o_rt q1); let q26 := o_sz big (o_rt q0 * o_rt q1); let q27 := o_sz big (o_rt q0 + o_rt q1); let q28 := o_okz (o_rootZ (o_rt q0) b); let q29 := o_okz (o_rt q0 / o_rt q1); some (AV.s (SV.one (LV.v (Value.bool (decide (o_rt (o_rootZ (o_rt q0) b) = o_rt (o_rootZ (o_rt q0) b)))))), [false = false, Words xs, q19, Words ys, q19, o_okz q0, o_okz q1, o_sz big (o_rt q0), o_sz big (o_rt q1), o_okz q0, o_okz q1, o_sz big (o_rt q0), o_sz big (o_rt q1), o_okz q0, o_okz q1, q22, q23, o_okz q0, o_okz q1, q22, q23, q8, q8, q8, q29, q29, q21, q21, q8, q8, q7, q7, q7, o_okz q12, o_okz q12, o_sz big (o_rt q12), o_sz big (o_rt q12), q7, q7, q2, q2, q2, q2, q2, q2, q2, o_okz q11, o_okz q15, o_okz q13, o_okz q11, o_okz q15, o_okz q13, o_rt q11 = o_rt q11, o_rt q15 = o_rt q15, o_sz big (o_rt q11), o_sz big (o_rt q15), o_sz big (o_rt q13), o_sz big (o_rt q13), q2, q2, q3, q3, q3, o_okz q0, o_okz q1, o_sz big (o_rt q0), o_sz big (o_rt q1), q3, q3, q3, o_okz q0, o_okz q1, o_sz big (o_rt q0), o_sz big (o_rt q1), q3, o_sz big q11, o_sz big q11, q3, q3, (Bool.not (decide (q17 = q17))) = false, o_okz q0, o_sz (10000 : Nat) (o_rt q0), false = false, false = false, false = false, o_okz q0, o_okz q1, o_sz big (o_rt q0), o_sz big (o_rt q1), false = false, false = false, false = false, o_okz q0, o_okz q1, o_sz big (o_rt q0), o_sz big (o_rt q1), false = false, false = false, q4, q4, q4, o_okz q0, o_okz q1, o_sz big (o_rt q0), o_sz big (o_rt q1), q4, q4, q4, o_okz q0, o_okz q1, o_sz big (o_rt q0), o_sz big (o_rt q1), q4, q27, q27, q4, q4, q6, q6, q6, o_okz q0, o_okz q1, o_sz big (o_rt q0), o_sz big (o_rt q1), q6, q6, q6, o_okz q0, o_okz q1, o_sz big (o_rt q0), o_sz big (o_rt q1), q6, q25, q25, q6, q6, q5, q5, q5, o_okz q0, o_okz q1, o_sz big (o_rt q0), o_sz big (o_rt q1), q5, q5, q5, o_okz q0, o_okz q1, o_sz big (o_rt q0), o_sz big (o_rt q1), q5, q26, q26, q5, q5, (Bool.not (decide (o_rt q0 * o_rt q1 = o_rt q0 * o_rt q1))) = false, q14, q16, q14, q16, q16, q16, q9, q14, q9, q9, q9, o_okz q0, o_sz big (o_rt q0), q9, q9, q9, decide (IntKind.wrap .i64 (a * (↑(o_bits (Int.natAbs (o_rt q0))) : Int)) ≤ (20000 : Int)) = false, q18, o_okz q0, q24, q18, o_okz q0, q24, true = true, true = true, true = true, true = true, q10, q10, q10, q28, q28, q20, q20, q10])) := by kernel_rfl
end Go.Proofs.YtkfdnpbpebmhaaaGreatDoor.Spec
end
namespace Go.Proofs.YtkfdnpbpebmhaaaGreatDoor.Spec
open Go Go.RowKit Sx Num

def spLaw11 : Sp
  | [.agg [.v (.bool _), .row .u32 xs], .agg [.v (.bool _), .row .u32 ys], .agg [.v (.int .i64 a), .v (.int .i64 b)]] => some (.s (boo true), [Words xs, Words ys, -9223372036854775808 ≤ a ∧ a < 9223372036854775808, -9223372036854775808 ≤ b ∧ b < 9223372036854775808])
  | _ => none
theorem bez_12 {a b : Int} (ha : o_sz 12 a) (hb : o_sz 12 b) : o_sz 12 (gcdZ a b) ∧ o_sz 12 (o_bu a b) ∧ o_sz 40 (o_bv a b) := by
  by_cases h : b = 0
  · subst h
    have e1 : gcdZ a 0 = absZ a := by unfold gcdZ absZ; rw [show o_gcd a.natAbs (Int.natAbs 0) = a.natAbs from Nat.gcd_zero_right _]
    have e2 : o_bu a 0 = sgnI a := by unfold o_bu; rw [if_pos rfl]
    have e3 : o_bv a 0 = 0 := by unfold o_bv; rw [if_pos rfl]
    rw [e1, e2, e3]
    have hs : (sgnI a).natAbs ≤ 1 := by
      unfold sgnI
      split
      · decide
      · split <;> decide
    refine ⟨?_, Nat.lt_of_le_of_lt hs (by decide), sz_zero _⟩
    unfold absZ o_sz at *; rw [Int.natAbs_natCast]; exact ha
  · obtain ⟨z1, z2, z3, z4, z5, z6⟩ := bez_sz (x := a) h (sz_mono hb (by decide))
    have hgn : gcdZ a b ≤ (b.natAbs : Int) := by
      have := Nat.le_of_dvd (show 0 < b.natAbs by omega) (Nat.gcd_dvd_right a.natAbs b.natAbs)
      unfold gcdZ o_gcd
      omega
    have hgp : 0 ≤ gcdZ a b := by unfold gcdZ; omega
    have sg : o_sz 12 (gcdZ a b) := abs_sz (by omega) hb
    have su : o_sz 12 (o_bu a b) := abs_sz z4 hb
    have ev : o_bv a b = (gcdZ a b - o_bu a b * a) / b := by unfold o_bv; rw [if_neg h]
    refine ⟨sg, su, ?_⟩
    rw [ev]
    exact abs_sz (Int.natAbs_ediv_le_natAbs _ _) (sz_mono (sz_sub sg (sz_mul su ha)) (by decide))
theorem rem_12 {a b : Int} (hb : o_sz 12 b) : o_sz 12 (o_rem a b) := by
  by_cases h : b = 0
  · rw [show o_rem a b = 0 from if_pos h]; exact sz_zero _
  · rw [rem_ne h]
    have h0 := Int.emod_nonneg a h
    have h1 := Int.emod_lt a h
    exact abs_sz (by omega) hb
theorem root_12 {a b : Int} (ha : o_sz 12 a) : o_sz 12 (o_rootZ a b) := by
  by_cases h : a < 0 ∨ b < 1
  · rw [show o_rootZ a b = 0 from if_pos h]; exact sz_zero _
  · obtain ⟨R, hR⟩ : ∃ R, o_root b.toNat a.natAbs = R := ⟨_, rfl⟩
    have hk : 0 < b.toNat := by omega
    have e1 : o_rootZ a b = (R : Int) := by unfold o_rootZ; rw [if_neg h, hR]
    have g1 := root_le (n := a.natAbs) hk
    rw [hR] at g1
    have g3 := le_pow (j := R) hk
    rw [e1]
    exact abs_sz (by omega) ha
theorem pow_big {a n : Int} (ha : o_sz 12 a) : o_sz big (o_powZ a n) := by
  unfold o_powZ
  split
  · have := sz_len ha
    exact sz_pow_big (Nat.le_trans (Nat.mul_le_mul this (show n.toNat ≤ 4096 by omega)) (by decide))
  · exact sz_zero _
set_option maxRecDepth 100000 in
theorem con11 : Con Tryz.prog 11 spLaw11 := by
  refine con_flat (l := E23) (fn := Tryz.f11) hmix E23ok (by kernel_rfl) (by kernel_rfl) (fun _ => by kernel_rfl) ?_
  intro avs r0 ps hsp hps
  unfold spLaw11 at hsp
  split at hsp
  · rename_i s xs t ys a b
    simp only [Option.some.injEq, Prod.mk.injEq] at hsp
    obtain ⟨rfl, rfl⟩ := hsp
    obtain ⟨hx, hy, ha, hb, _⟩ := hps
    have sx := made_sz s hx 12
    have sy := made_sz t hy 12
    obtain ⟨x, ex⟩ : ∃ x, o_made s xs 12 = x := ⟨_, rfl⟩
    obtain ⟨y, ey⟩ : ∃ y, o_made t ys 12 = y := ⟨_, rfl⟩
    rw [ex] at sx
    rw [ey] at sy
    have sq : o_sz 12 (x / y) := abs_sz (Int.natAbs_ediv_le_natAbs x y) sx
    have sr := rem_12 (a := x) sy
    obtain ⟨sg, su, sv⟩ := bez_12 sx sy
    have st := root_12 (b := b) sx
    have sp := pow_big (n := a) sx
    have lx := sz_len sx
    have t1 : ((0 : Int) ≤ 12 ∧ (12 : Int) ≤ 1000000) ↔ True := ⟨fun _ => trivial, fun _ => by omega⟩
    have t2 : o_sz 40000000 x ↔ True := ⟨fun _ => trivial, fun _ => sz_mono sx (by decide)⟩
    have t3 : o_sz 40000000 y ↔ True := ⟨fun _ => trivial, fun _ => sz_mono sy (by decide)⟩
    have t5 : o_sz 10000 x ↔ True := ⟨fun _ => trivial, fun _ => sz_mono sx (by decide)⟩
    have t4 : o_sz 1000000 x ↔ True := ⟨fun _ => trivial, fun _ => sz_mono sx (by decide)⟩
    have ll : (enc x.natAbs).length * 4097 ≤ 100000000 := Nat.le_trans (Nat.mul_le_mul_right _ lx) (by decide)
    by_cases h1 : a < 0
    · refine ⟨rfl, _, _, _, _, run11a s t xs ys a b, booE (decide_eq_true rfl), ?_⟩
      simp only [AllP, rt_eq, okz_t, ex, ey, t1, t2, t3, t4, t5]
      and_intros
      all_goals first
        | exact trivial
        | exact hx
        | exact hy
        | exact nd rfl
        | exact decide_eq_true rfl
        | exact sz_mono (n := big) (by first | exact sx | exact sy | exact sq | exact sr | exact sg | exact su | exact sv | exact st | exact sz_add sx sy | exact sz_sub sx sy | exact sz_mul sx sy) (by unfold big; decide)
        | exact sp
        | exact sz_mono sx (by decide)
        | exact sz_mono sy (by decide)
        | exact decide_eq_true h1
        | exact .inl ll
        | omega
        | decide
        | rfl
    · by_cases h2 : 4096 < a
      · refine ⟨rfl, _, _, _, _, run11b s t xs ys a b, booE (decide_eq_true rfl), ?_⟩
        simp only [AllP, rt_eq, okz_t, ex, ey, t1, t2, t3, t4, t5]
        and_intros
        all_goals first
          | exact trivial
          | exact hx
          | exact hy
          | exact nd rfl
          | exact decide_eq_true rfl
          | exact sz_mono (n := big) (by first | exact sx | exact sy | exact sq | exact sr | exact sg | exact su | exact sv | exact st | exact sz_add sx sy | exact sz_sub sx sy | exact sz_mul sx sy) (by unfold big; decide)
          | exact sp
          | exact sz_mono sx (by decide)
          | exact sz_mono sy (by decide)
          | exact decide_eq_false h1
          | exact decide_eq_true h2
          | exact .inl ll
          | omega
          | decide
          | rfl
      · by_cases h3 : IntKind.wrap .i64 (a * (o_bits x.natAbs : Int)) ≤ 20000
        · refine ⟨rfl, _, _, _, _, run11c s t xs ys a b, booE (decide_eq_true rfl), ?_⟩
          simp only [AllP, rt_eq, okz_t, ex, ey, t1, t2, t3, t4, t5]
          and_intros
          all_goals first
            | exact trivial
            | exact hx
            | exact hy
            | exact nd rfl
            | exact decide_eq_true rfl
            | exact sz_mono (n := big) (by first | exact sx | exact sy | exact sq | exact sr | exact sg | exact su | exact sv | exact st | exact sz_add sx sy | exact sz_sub sx sy | exact sz_mul sx sy) (by unfold big; decide)
            | exact sp
            | exact sz_mono sx (by decide)
            | exact sz_mono sy (by decide)
            | exact decide_eq_false h1
            | exact decide_eq_false h2
            | exact decide_eq_true h3
            | exact .inl ll
            | omega
            | decide
            | rfl
        · refine ⟨rfl, _, _, _, _, run11d s t xs ys a b, booE (decide_eq_true rfl), ?_⟩
          simp only [AllP, rt_eq, okz_t, ex, ey, t1, t2, t3, t4, t5]
          and_intros
          all_goals first
            | exact trivial
            | exact hx
            | exact hy
            | exact nd rfl
            | exact decide_eq_true rfl
            | exact sz_mono (n := big) (by first | exact sx | exact sy | exact sq | exact sr | exact sg | exact su | exact sv | exact st | exact sz_add sx sy | exact sz_sub sx sy | exact sz_mul sx sy) (by unfold big; decide)
            | exact sp
            | exact sz_mono sx (by decide)
            | exact sz_mono sy (by decide)
            | exact decide_eq_false h1
            | exact decide_eq_false h2
            | exact decide_eq_false h3
            | exact .inl ll
            | omega
            | decide
            | rfl
  · cases hsp

end Go.Proofs.YtkfdnpbpebmhaaaGreatDoor.Spec
namespace Go.Proofs.YtkfdnpbpebmhaaaGreatDoor.integerMatchesReference
open Go Go.RowKit Go.ChangeShapes Go.WideShapes Go.ChangeAt Sx Num Spec Row
open Go.ChangeMaps (open_string shut_string)

theorem witness_row (os : Os) {H : Type} (enc : TypeId × Value → H) :
    (OpenSpec.ofChange Rows.integerMatchesReferenceSpec).preRow enc Tryz.prog Tryz.f11 Rows.integerMatchesReferenceRow.domain false Rows.integerMatchesReferenceRow.laid ((laidWorld os).forCall (fun _ _ => 0) ⟨#[], #[.agg #[.bool false, .slice none 0 0], .agg #[.bool false, .slice none 0 0], .agg #[.int .i64 0, .int .i64 0]], []⟩).memory #[.agg #[.bool false, .slice none 0 0], .agg #[.bool false, .slice none 0 0], .agg #[.int .i64 0, .int .i64 0]] := by
  have hw : (DataW.whole enc Tryz.prog ((laidWorld os).forCall (fun _ _ => 0) ⟨#[], #[.agg #[.bool false, .slice none 0 0], .agg #[.bool false, .slice none 0 0], .agg #[.int .i64 0, .int .i64 0]], []⟩).memory Tryz.f11.params.toList (OpenSpec.ofChange Rows.integerMatchesReferenceSpec).vars false (#[.agg #[.bool false, .slice none 0 0], .agg #[.bool false, .slice none 0 0], .agg #[.int .i64 0, .int .i64 0]] : Array Value).toList 8).map (fun x => (x.1, x.2.1)) =
      some ([.agg [.lit (.bool false), .nil], .agg [.lit (.bool false), .nil], .agg [.lit (.int .i64 0), .lit (.int .i64 0)]], []) := by kernel_rfl
  obtain ⟨⟨x1, x2, x3⟩, hx, hx1⟩ := Option.map_eq_some_iff.1 hw
  simp only [Prod.mk.injEq] at hx1
  obtain ⟨rfl, rfl⟩ := hx1
  exact OpenSpec.preRow_of_cond 8 hx (by kernel_rfl) (fun k hk => by cases hk) (by kernel_rfl) (laid_met os _)
set_option maxRecDepth 100000 in
theorem contract (H : Type) (enc : TypeId × Value → H) (W : World) (base : Nat) (args : Array Value) (ds gs : List (DataW H)) (before : List MemPlace)
    (hval0 : ∀ (j : Nat) t v, Tryz.f11.params[j]? = some t → args[j]? = some v → Value.okWide Tryz.prog W .any base t v)
    (hW : DataW.Whole enc Tryz.prog Tryz.f11.params.toList Rows.integerMatchesReferenceSpec.vars false W args.toList ds gs before) :
    Calls Tryz.prog 11 args W fun e W' => ∃ v, e = .returned v ∧ Rows.integerMatchesReferenceSpec.post enc Tryz.prog Tryz.f11 false true false false W args v W' := by
  have hval : ∀ (j : Nat) t v, Tryz.f11.params[j]? = some t → args[j]? = some v → Value.okWide Tryz.prog W .any base t v := hval0
  have hW' := hW
  obtain ⟨p, q, hA0, hV, rfl, hfz, hnd⟩ := hW
  have hA : DataW.TrodAll enc Tryz.prog W 0 (fun _ => true) true Tryz.f11.params.toList args.toList ds p := hA0
  rw [Tryz.params11] at hA hval
  obtain ⟨v0, vs0, d0, ds0, p0, q0, hargs, rfl, rfl, h0, r0⟩ := trodAll_cons hA
  obtain ⟨v1, vs1, d1, ds1, p1, q1, rfl, rfl, rfl, h1, r1⟩ := trodAll_cons r0
  obtain ⟨v2, vs2, d2, ds2, p2, q2, rfl, rfl, rfl, h2, r2⟩ := trodAll_cons r1
  obtain ⟨rfl, rfl, rfl⟩ := trodAll_nil r2
  obtain rfl : args = #[v0, v1, v2] := by cases args; simp_all
  obtain ⟨rfl, rfl⟩ := trodVars_none hV
  obtain ⟨s0, xs0, hx0, g0⟩ := open_raw Tryz.underlying25 (by kernel_rfl) rfl rfl (by kernel_rfl) (by kernel_rfl) (by kernel_rfl) (by kernel_rfl) Tryz.underlying27 (by kernel_rfl) (hval 0 25 v0 rfl rfl) h0
  have lt0 : ∀ x ∈ p0, x.block < W.heap.size := by obtain ⟨m, hm⟩ := h0; exact DataW.trod_lt m _ _ _ hm
  obtain ⟨s1, xs1, hx1, g1⟩ := open_raw Tryz.underlying25 (by kernel_rfl) rfl rfl (by kernel_rfl) (by kernel_rfl) (by kernel_rfl) (by kernel_rfl) Tryz.underlying27 (by kernel_rfl) (hval 1 25 v1 rfl rfl) h1
  have lt1 : ∀ x ∈ p1, x.block < W.heap.size := by obtain ⟨m, hm⟩ := h1; exact DataW.trod_lt m _ _ _ hm
  obtain ⟨a2, b2, ha2, hb2, g2⟩ := open_arr_i2 Tryz.underlying54 (by kernel_rfl) (by kernel_rfl) (by kernel_rfl) (hval 2 54 v2 rfl rfl) h2
  have lt2 : ∀ x ∈ p2, x.block < W.heap.size := by obtain ⟨m, hm⟩ := h2; exact DataW.trod_lt m _ _ _ hm
  clear hA0 hval0
  refine (con11.calls [.agg [.v (.bool s0), .row .u32 xs0], .agg [.v (.bool s1), .row .u32 xs1], .agg [.v (.int .i64 a2), .v (.int .i64 b2)]] _ _ rfl (allP_iff.1 ⟨hx0, hx1, ha2, hb2, trivial⟩) (fun _ => False) (fun _ => 0) W #[v0, v1, v2] (fun _ h => h.elim) ⟨g0, g1, g2, trivial⟩).mono fun e W' ⟨u, he, _, hu, bel⟩ => ?_
  have hu : u = .bool true := hu
  subst hu
  subst he
  exact ⟨_, rfl, _, _, _, [], _, [], hW', trodAll_mk1 (shut_bool Tryz.underlying4 _), (trodAll_cons_mk (Below.trod laidOut (by kernel_rfl) (of_decide_eq_true (by kernel_rfl)) h0 bel lt0) (trodAll_cons_mk (Below.trod laidOut (by kernel_rfl) (of_decide_eq_true (by kernel_rfl)) h1 bel lt1) (trodAll_cons_mk (Below.trod laidOut (by kernel_rfl) (of_decide_eq_true (by kernel_rfl)) h2 bel lt2) trodAll_mk0))), rfl, bel.frame _, fun h => by cases h⟩
set_option maxRecDepth 100000 in
set_option maxHeartbeats 2000000 in
theorem lifted (os : Os) (started : os.Started) (H : Type) (enc : TypeId × Value → H) (F : Stop.Interp) :
    ReturnsInHanded {} Tryz.checked os 11 .any ((OpenSpec.ofChange Rows.integerMatchesReferenceSpec).preRow enc Tryz.prog Tryz.f11 Rows.integerMatchesReferenceRow.domain false Rows.integerMatchesReferenceRow.laid) (((OpenSpec.ofChange Rows.integerMatchesReferenceSpec).at F).post enc Tryz.prog Tryz.f11 false true false false) := by
  refine returnsInHanded_of_row (C := Tryz.checked) (s := OpenSpec.ofChange Rows.integerMatchesReferenceSpec) own started (by kernel_rfl) Tryz.func11
    (witness_row_atRef (enc := enc) (C := Tryz.checked) false (laidWorld os) #[.agg #[.bool false, .slice none 0 0], .agg #[.bool false, .slice none 0 0], .agg #[.int .i64 0, .int .i64 0]] rfl (by kernel_rfl) (by kernel_rfl) (by kernel_rfl) (witness_row os enc)) ?_
  intro W base args ds gs before hval hW _ _ _ _ _ _
  exact contract H enc W base args ds gs before hval hW
theorem said : Rows.IntegerMatchesReferenceSaid :=
  OpenClaim.holds_of_cond 11 Tryz.f11 rfl rfl rfl rfl rfl rfl rfl ⟨rfl, rfl, rfl, rfl, rfl⟩ rfl rfl rfl rfl rfl (by kernel_rfl) Tryz.func11 (by kernel_rfl)
    (of_decide_eq_true (by kernel_rfl)) (by unfold Func.isWrapper; first | (rw [if_pos (by decide +kernel)]; kernel_rfl) | (rw [if_neg (by decide +kernel)]; exact ⟨rfl, rfl⟩))
    (fun os started H enc _ F => by rw [OpenClaim.pre_eq_preRow]; exact lifted os started H enc F)
theorem plain (f : FuncId) (fn : Func) (hf : Tryz.pinned.checked.prog.funcNamed Rows.integerMatchesReferenceRow.func = some f) (hfn : Tryz.pinned.checked.prog.funcs[f]? = some fn) :
    true = Tryz.pinned.checked.prog.looks [] ∧ ∀ (j : Nat) t, fn.params[j]? = some t → Tryz.pinned.checked.prog.wantsStandIn t = false := by
  obtain rfl : f = 11 := Option.some.inj ((show Tryz.prog.funcNamed Rows.integerMatchesReferenceRow.func = some 11 by kernel_rfl).symm.trans hf) |>.symm
  obtain rfl : fn = Tryz.f11 := (Option.some.inj (Tryz.func11.symm.trans hfn)).symm
  refine ⟨by kernel_rfl, fun j t ht => ?_⟩
  rw [Tryz.params11] at ht
  have hm := Array.mem_of_getElem? ht
  simp only [List.mem_toArray, List.mem_cons, List.not_mem_nil, or_false] at hm
  rcases hm with rfl | rfl | rfl
  · exact (show Tryz.prog.wantsStandIn 25 = false by kernel_rfl)
  · exact (show Tryz.prog.wantsStandIn 25 = false by kernel_rfl)
  · exact (show Tryz.prog.wantsStandIn 54 = false by kernel_rfl)
theorem card : Rows.IntegerMatchesReferenceCardSaid :=
  Claim7.holds_tied_plain_at .later [] _ _ _ _ said (fun _ h => by cases h) (by kernel_rfl) (fun _ h => by cases h) integerMatchesReference_row_tie rfl ⟨rfl, rfl⟩ (by kernel_rfl) rfl plain (by kernel_rfl)
end Go.Proofs.YtkfdnpbpebmhaaaGreatDoor.integerMatchesReference
namespace Go.Proofs.YtkfdnpbpebmhaaaGreatDoor
/-- The law IntegerMatchesReference: its card. -/
theorem integerMatchesReference_card : Rows.IntegerMatchesReferenceCardSaid := integerMatchesReference.card
#print axioms integerMatchesReference_card
end Go.Proofs.YtkfdnpbpebmhaaaGreatDoor
