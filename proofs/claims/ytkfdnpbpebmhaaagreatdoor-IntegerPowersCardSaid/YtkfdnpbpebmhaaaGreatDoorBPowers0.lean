/- The law IntegerPowers: the row and its card. For every input the call answers true, and what was handed in reads as before. Conditions: the listed package-level variables start as the program's text lays them. In this text, besides: The reading of short arrays handed in; Runs: the law of powers; Laws: powers; The law IntegerPowers: the row and its card. For every input the call answers true, and what was handed in reads as before. Conditions: the listed package-level variables start as the program's text lays them. -/
import Derived.Test.YtkfdnpbpebmhaaaGreatDoorProg
import Derived.Test.YtkfdnpbpebmhaaaGreatDoorZ0
import Derived.Test.YtkfdnpbpebmhaaaGreatDoorZ1
import Derived.Test.YtkfdnpbpebmhaaaGreatDoorZ2
import Derived.Test.YtkfdnpbpebmhaaaGreatDoorZ3
import Derived.Test.YtkfdnpbpebmhaaaGreatDoorZ4
import Derived.Test.YtkfdnpbpebmhaaaGreatDoorZ5
import Derived.Test.YtkfdnpbpebmhaaaGreatDoorZ6
namespace Go.Proofs.YtkfdnpbpebmhaaaGreatDoor.Row
open Go Go.RowKit Go.ChangeShapes Go.WideShapes Go.ChangeAt Sx Num Spec

section
variable {P : Program} {H : Type} {enc : TypeId × Value → H} {W : World} {base : Nat}
theorem okWide_arr {n : Nat} {t e : TypeId} {v : Value} (ht : P.underlying t = some (.array n e)) (h : Value.okWide P W .any base t v) : ∃ cs, v = .agg cs ∧ cs.size = P.cellsOf t := by
  simp only [Value.okWide, ht] at h
  obtain ⟨cs, h1, h2, _⟩ := h
  exact ⟨cs, h1, h2⟩
/-- Three bytes, handed in. -/
theorem open_arr_b3 {t e : TypeId} {v : Value} {d : DataW H} {ps : List MemPlace} (ht : P.underlying t = some (.array 3 e)) (hc : P.cellsOf t = 3) (te : P.underlying e = some (.int .u8)) (ce : P.cellsOf e = 1)
    (hval : Value.okWide P W .any base t v) (h : DataW.Trod enc P W 0 (fun _ => true) true t v d ps) :
    ∃ a b c : Int, (0 ≤ a ∧ a < 256) ∧ (0 ≤ b ∧ b < 256) ∧ (0 ≤ c ∧ c < 256) ∧ gS (fun _ => False) (fun _ => 0) W (.agg [.v (.int .u8 a), .v (.int .u8 b), .v (.int .u8 c)]) v := by
  obtain ⟨cs, rfl, hsz⟩ := okWide_arr ht hval
  obtain ⟨fuel, hf⟩ := h
  obtain ⟨ys, n, _, _, hl, _, hg⟩ := DataW.trod_array ht hf
  have hcells : (Value.agg cs).cells = cs := rfl
  rw [hcells] at hl hg
  rw [hc] at hl
  obtain ⟨l⟩ := cs
  match l, hl with
  | [x, y, z], _ =>
    have one : ∀ (i : Nat) (u : Value), i < 3 → ([x, y, z].drop (i * 1)).take 1 = [u] → ∃ k : Int, u = .int .u8 k ∧ 0 ≤ k ∧ k < 256 := by
      intro i u hi hu
      have h := hg i hi
      rw [ce, hu] at h
      have hlt : i < ys.length := by omega
      rw [List.getElem?_eq_getElem hlt] at h
      obtain ⟨k, hk, _, hw⟩ := DataW.trod_int te h
      simp only [List.cons.injEq, and_true] at hk
      refine ⟨k, hk, ?_⟩
      simp [Lit.wf, IntKind.min, IntKind.max, IntKind.signed, IntKind.bits] at hw
      omega
    obtain ⟨a, rfl, ha⟩ := one 0 x (by omega) rfl
    obtain ⟨b, rfl, hb⟩ := one 1 y (by omega) rfl
    obtain ⟨c, rfl, hc⟩ := one 2 z (by omega) rfl
    exact ⟨a, b, c, ha, hb, hc, _, rfl, rfl, rfl, rfl, trivial⟩
/-- Two int64, handed in. -/
theorem open_arr_i2 {t e : TypeId} {v : Value} {d : DataW H} {ps : List MemPlace} (ht : P.underlying t = some (.array 2 e)) (hc : P.cellsOf t = 2) (te : P.underlying e = some (.int .i64)) (ce : P.cellsOf e = 1)
    (hval : Value.okWide P W .any base t v) (h : DataW.Trod enc P W 0 (fun _ => true) true t v d ps) :
    ∃ a b : Int, (-9223372036854775808 ≤ a ∧ a < 9223372036854775808) ∧ (-9223372036854775808 ≤ b ∧ b < 9223372036854775808) ∧ gS (fun _ => False) (fun _ => 0) W (.agg [.v (.int .i64 a), .v (.int .i64 b)]) v := by
  obtain ⟨cs, rfl, hsz⟩ := okWide_arr ht hval
  obtain ⟨fuel, hf⟩ := h
  obtain ⟨ys, n, _, _, hl, _, hg⟩ := DataW.trod_array ht hf
  have hcells : (Value.agg cs).cells = cs := rfl
  rw [hcells] at hl hg
  rw [hc] at hl
  obtain ⟨l⟩ := cs
  match l, hl with
  | [x, y], _ =>
    have one : ∀ (i : Nat) (u : Value), i < 2 → ([x, y].drop (i * 1)).take 1 = [u] → ∃ k : Int, u = .int .i64 k ∧ -9223372036854775808 ≤ k ∧ k < 9223372036854775808 := by
      intro i u hi hu
      have h := hg i hi
      rw [ce, hu] at h
      have hlt : i < ys.length := by omega
      rw [List.getElem?_eq_getElem hlt] at h
      obtain ⟨k, hk, _, hw⟩ := DataW.trod_int te h
      simp only [List.cons.injEq, and_true] at hk
      refine ⟨k, hk, ?_⟩
      simp [Lit.wf, IntKind.min, IntKind.max, IntKind.signed, IntKind.bits] at hw
      omega
    obtain ⟨a, rfl, ha⟩ := one 0 x (by omega) rfl
    obtain ⟨b, rfl, hb⟩ := one 1 y (by omega) rfl
    exact ⟨a, b, ha, hb, _, rfl, rfl, rfl, trivial⟩
end
end Go.Proofs.YtkfdnpbpebmhaaaGreatDoor.Row
section
set_option maxRecDepth 100000
namespace Go.Proofs.YtkfdnpbpebmhaaaGreatDoor.Spec
open Go Go.RowKit Sx Num
 def by3 (a b c : Int) : SV := .agg [.v (.int .u8 a), .v (.int .u8 b), .v (.int .u8 c)]
theorem run7a (s t : Bool) (xs ys : List Int) (a b c : Int) : fnEx Tryz.prog (lk E23) L0 (G1 [31, 85, 88, 89, 92, 93, 96, 97, 100, 101, 108, 109, 116]) 60 Tryz.f7 [rawA s xs, rawA t ys, by3 a b c] = (let q1 := IntKind.wrap .i64 (Int.tmod a (20 : Int)); let q2 := o_rt (o_made s xs (4 : Nat)); let q3 := IntKind.wrap .i64 (Int.tmod a (20 : Int)) + IntKind.wrap .i64 (Int.tmod b (20 : Int)); let q4 := IntKind.wrap .i64 ((1 : Int) + IntKind.wrap .i64 (Int.tmod c (20 : Int))); let q5 := (Bool.not (decide (o_pe q1 = (0 : Int)))) = false; let q6 := IntKind.wrap .i64 (Int.tmod b (20 : Int)); let q7 := (0 : Int) ≤ IntKind.wrap .i64 (Int.tmod a (20 : Int)) ∧ IntKind.wrap .i64 (Int.tmod a (20 : Int)) ≤ (4096 : Int); let q8 := decide ((↑(List.length (enc (Int.natAbs (o_rootZ q2 q4)))) : Int) = (0 : Int)) = true; let q9 := o_rt (o_made s xs (4 : Nat)) * o_rt (o_made t ys (4 : Nat)); let q10 := o_rt (o_made t ys (4 : Nat)); let q11 := IntKind.wrap .i64 q3; let q0 := (Bool.not (decide (o_rt (o_powZ q2 q1) * o_rt (o_powZ q2 q6) = o_rt (o_powZ q2 q11)))) = false; let q12 := decide (o_re q2 q4 = (1 : Int)) = true; let q13 := o_okz (o_made s xs (4 : Nat)); let q14 := (Bool.not (decide (o_pe q11 = (0 : Int)))) = false; let q15 := (Bool.not (decide (o_pe q6 = (0 : Int)))) = false; let q16 := (0 : Int) ≤ (4 : Int) ∧ (4 : Int) ≤ (1000000 : Int); let q17 := Int.toNat q1 + (1 : Nat); let q18 := o_sz big (o_rt (o_powZ q2 q1)); let q19 := o_okz (o_made t ys (4 : Nat)); some (AV.s (SV.one (LV.v (Value.bool (Bool.not (decide (o_rootZ q2 q4 < (0 : Int))))))), [false = false, Words xs, q16, Words ys, q16, (0 : Int) ≤ (0 : Int) ∧ (0 : Int) < (↑(3 : Nat) : Int), ¬(20 : Int) = (0 : Int), (0 : Int) ≤ (1 : Int) ∧ (1 : Int) < (↑(3 : Nat) : Int), ¬(20 : Int) = (0 : Int), (0 : Int) ≤ (2 : Int) ∧ (2 : Int) < (↑(3 : Nat) : Int), ¬(20 : Int) = (0 : Int), q13, List.length (enc (Int.natAbs q2)) * (4097 : Nat) ≤ (100000000 : Nat) ∨ List.length (enc (Int.natAbs q2)) * q17 ≤ (100000000 : Nat) ∨ ¬q7, q13, List.length (enc (Int.natAbs q2)) * (4097 : Nat) ≤ (100000000 : Nat) ∨ List.length (enc (Int.natAbs q2)) * (Int.toNat q6 + (1 : Nat)) ≤ (100000000 : Nat) ∨ ¬((0 : Int) ≤ IntKind.wrap .i64 (Int.tmod b (20 : Int)) ∧ IntKind.wrap .i64 (Int.tmod b (20 : Int)) ≤ (4096 : Int)), q13, List.length (enc (Int.natAbs q2)) * (4097 : Nat) ≤ (100000000 : Nat) ∨ List.length (enc (Int.natAbs q2)) * (Int.toNat q11 + (1 : Nat)) ≤ (100000000 : Nat) ∨ ¬((0 : Int) ≤ IntKind.wrap .i64 q3 ∧ IntKind.wrap .i64 q3 ≤ (4096 : Int)), q19, List.length (enc (Int.natAbs q10)) * (4097 : Nat) ≤ (100000000 : Nat) ∨ List.length (enc (Int.natAbs q10)) * q17 ≤ (100000000 : Nat) ∨ ¬q7, q13, q19, o_sz big q2, o_sz big q10, List.length (enc (Int.natAbs q9)) * (4097 : Nat) ≤ (100000000 : Nat) ∨ List.length (enc (Int.natAbs q9)) * q17 ≤ (100000000 : Nat) ∨ ¬q7, q5, q5, q5, q15, q15, q15, q14, q14, q14, q5, q5, q5, q5, q5, q5, o_okz (o_powZ q2 q1), o_okz (o_powZ q2 q6), q18, o_sz big (o_rt (o_powZ q2 q6)), q5, q5, o_okz (o_powZ q2 q11), o_sz big (o_rt (o_powZ q2 q1) * o_rt (o_powZ q2 q6)), o_sz big (o_rt (o_powZ q2 q11)), q5, q5, q0, q0, q0, o_okz (o_powZ q2 q1), o_okz (o_powZ q10 q1), q18, o_sz big (o_rt (o_powZ q10 q1)), q0, q0, o_okz (o_powZ q9 q1), o_sz big (o_rt (o_powZ q2 q1) * o_rt (o_powZ q10 q1)), o_sz big (o_rt (o_powZ q9 q1)), q0, q0, (Bool.not (decide (o_rt (o_powZ q2 q1) * o_rt (o_powZ q10 q1) = o_rt (o_powZ q9 q1)))) = false, q13, o_sz (1000000 : Nat) q2, decide (o_made s xs (4 : Nat) < (0 : Int)) = true, true = true, true = true, true = true, q12, q12, q12, q12, q12, q8, q8, q8, q8])) := by kernel_rfl
theorem run7b (s t : Bool) (xs ys : List Int) (a b c : Int) : fnEx Tryz.prog (lk E23) L0 (G1 [31, 85, 88, 89, 92, 93, 96, 97, 100, 101, 108, 109, 116, 124]) 60 Tryz.f7 [rawA s xs, rawA t ys, by3 a b c] = (let q2 := o_rt (o_made s xs (4 : Nat)); let q3 := IntKind.wrap .i64 (Int.tmod a (20 : Int)); let q4 := IntKind.wrap .i64 (Int.tmod a (20 : Int)) + IntKind.wrap .i64 (Int.tmod b (20 : Int)); let q5 := (Bool.not (decide (o_pe q3 = (0 : Int)))) = false; let q7 := IntKind.wrap .i64 (Int.tmod b (20 : Int)); let q9 := (0 : Int) ≤ IntKind.wrap .i64 (Int.tmod a (20 : Int)) ∧ IntKind.wrap .i64 (Int.tmod a (20 : Int)) ≤ (4096 : Int); let q10 := (1 : Int) + IntKind.wrap .i64 (Int.tmod c (20 : Int)); let q0 := IntKind.wrap .i64 q10; let q8 := decide (o_rootZ q2 q0 < (0 : Int)); let q11 := o_rt (o_made s xs (4 : Nat)) * o_rt (o_made t ys (4 : Nat)); let q12 := o_rt (o_made t ys (4 : Nat)); let q13 := decide (o_pe q0 = (0 : Int)) = true; let q14 := IntKind.wrap .i64 q4; let q1 := (Bool.not (decide (o_rt (o_powZ q2 q3) * o_rt (o_powZ q2 q7) = o_rt (o_powZ q2 q14)))) = false; let q15 := o_okz (o_made s xs (4 : Nat)); let q16 := enc (Int.natAbs (o_rootZ q2 q0)); let q17 := o_rt (o_rootZ q2 q0) + (1 : Int); let q18 := (Bool.not (decide (o_pe q14 = (0 : Int)))) = false; let q19 := (Bool.not (decide (o_pe q7 = (0 : Int)))) = false; let q20 := (0 : Int) ≤ IntKind.wrap .i64 q10 ∧ IntKind.wrap .i64 q10 ≤ (4096 : Int); let q21 := decide (o_re q2 q0 = (0 : Int)) = true; let q22 := o_powZ (o_rt (o_rootZ q2 q0)) q0; let q6 := decide (sgnI (o_rt q22 - o_rt (o_made s xs (4 : Nat))) ≤ (0 : Int)) = true; let q23 := (0 : Int) ≤ (4 : Int) ∧ (4 : Int) ≤ (1000000 : Int); let q24 := Int.toNat q3 + (1 : Nat); let q25 := enc (Int.natAbs (o_rt (o_rootZ q2 q0))); let q26 := o_sz big (o_rt (o_powZ q2 q3)); let q27 := o_okz (o_made t ys (4 : Nat)); let q28 := Int.toNat q0 + (1 : Nat); some (AV.s (SV.one (LV.v (Value.bool (decide ((0 : Int) < sgnI (o_rt (o_powZ q17 q0) - o_rt (o_made s xs (4 : Nat)))))))), [false = false, Words xs, q23, Words ys, q23, (0 : Int) ≤ (0 : Int) ∧ (0 : Int) < (↑(3 : Nat) : Int), ¬(20 : Int) = (0 : Int), (0 : Int) ≤ (1 : Int) ∧ (1 : Int) < (↑(3 : Nat) : Int), ¬(20 : Int) = (0 : Int), (0 : Int) ≤ (2 : Int) ∧ (2 : Int) < (↑(3 : Nat) : Int), ¬(20 : Int) = (0 : Int), q15, List.length (enc (Int.natAbs q2)) * (4097 : Nat) ≤ (100000000 : Nat) ∨ List.length (enc (Int.natAbs q2)) * q24 ≤ (100000000 : Nat) ∨ ¬q9, q15, List.length (enc (Int.natAbs q2)) * (4097 : Nat) ≤ (100000000 : Nat) ∨ List.length (enc (Int.natAbs q2)) * (Int.toNat q7 + (1 : Nat)) ≤ (100000000 : Nat) ∨ ¬((0 : Int) ≤ IntKind.wrap .i64 (Int.tmod b (20 : Int)) ∧ IntKind.wrap .i64 (Int.tmod b (20 : Int)) ≤ (4096 : Int)), q15, List.length (enc (Int.natAbs q2)) * (4097 : Nat) ≤ (100000000 : Nat) ∨ List.length (enc (Int.natAbs q2)) * (Int.toNat q14 + (1 : Nat)) ≤ (100000000 : Nat) ∨ ¬((0 : Int) ≤ IntKind.wrap .i64 q4 ∧ IntKind.wrap .i64 q4 ≤ (4096 : Int)), q27, List.length (enc (Int.natAbs q12)) * (4097 : Nat) ≤ (100000000 : Nat) ∨ List.length (enc (Int.natAbs q12)) * q24 ≤ (100000000 : Nat) ∨ ¬q9, q15, q27, o_sz big q2, o_sz big q12, List.length (enc (Int.natAbs q11)) * (4097 : Nat) ≤ (100000000 : Nat) ∨ List.length (enc (Int.natAbs q11)) * q24 ≤ (100000000 : Nat) ∨ ¬q9, q5, q5, q5, q19, q19, q19, q18, q18, q18, q5, q5, q5, q5, q5, q5, o_okz (o_powZ q2 q3), o_okz (o_powZ q2 q7), q26, o_sz big (o_rt (o_powZ q2 q7)), q5, q5, o_okz (o_powZ q2 q14), o_sz big (o_rt (o_powZ q2 q3) * o_rt (o_powZ q2 q7)), o_sz big (o_rt (o_powZ q2 q14)), q5, q5, q1, q1, q1, o_okz (o_powZ q2 q3), o_okz (o_powZ q12 q3), q26, o_sz big (o_rt (o_powZ q12 q3)), q1, q1, o_okz (o_powZ q11 q3), o_sz big (o_rt (o_powZ q2 q3) * o_rt (o_powZ q12 q3)), o_sz big (o_rt (o_powZ q11 q3)), q1, q1, (Bool.not (decide (o_rt (o_powZ q2 q3) * o_rt (o_powZ q12 q3) = o_rt (o_powZ q11 q3)))) = false, q15, o_sz (1000000 : Nat) q2, decide (o_made s xs (4 : Nat) < (0 : Int)) = false, o_okz (o_rootZ q2 q0), List.length q25 * (4097 : Nat) ≤ (100000000 : Nat) ∨ List.length q25 * q28 ≤ (100000000 : Nat) ∨ ¬q20, (-9223372036854775808 : Int) ≤ (1 : Int) ∧ (1 : Int) < (9223372036854775808 : Int), o_okz (o_rootZ q2 q0), o_sz big (o_rt (o_rootZ q2 q0)), o_sz big (1 : Int), List.length (enc (Int.natAbs q17)) * (4097 : Nat) ≤ (100000000 : Nat) ∨ List.length (enc (Int.natAbs q17)) * q28 ≤ (100000000 : Nat) ∨ ¬q20, true = true, true = true, true = true, q21, q21, q21, q13, q13, q13, q13, q13, Words q16, Ln q16, q13, o_valid q8 q16 = true, o_valid q8 q16 = true, o_valid q8 q16 = true, o_valid q8 q16 = true, (Bool.not q8) = true, (Bool.not q8) = true, (Bool.not q8) = true, o_okz q22, q15, o_sz big (o_rt q22), o_sz big q2, (Bool.not q8) = true, (Bool.not q8) = true, q6, q6, q6, o_okz (o_powZ q17 q0), q15, o_sz big (o_rt (o_powZ q17 q0)), o_sz big q2, q6, q6])) := by kernel_rfl
end Go.Proofs.YtkfdnpbpebmhaaaGreatDoor.Spec
end
namespace Go.Proofs.YtkfdnpbpebmhaaaGreatDoor.Spec
open Go Go.RowKit Sx Num

theorem powN (x : Int) (m : Nat) (h : m ≤ 4096) : o_powZ x m = x ^ m ∧ o_pe m = 0 := by
  unfold o_powZ o_pe
  rw [if_pos ⟨by omega, by omega⟩, if_pos ⟨by omega, by omega⟩, tnc]
  exact ⟨rfl, rfl⟩
theorem sgn_gt {a : Int} : 0 < sgnI a ↔ 0 < a := by
  unfold sgnI
  split
  · omega
  · split <;> omega
def spLaw7 : Sp
  | [.agg [.v (.bool _), .row .u32 xs], .agg [.v (.bool _), .row .u32 ys], .agg [.v (.int .u8 a), .v (.int .u8 b), .v (.int .u8 c)]] => some (.s (boo true), [Words xs, Words ys, 0 ≤ a ∧ a < 256, 0 ≤ b ∧ b < 256, 0 ≤ c ∧ c < 256])
  | _ => none
theorem e4p : Int.toNat 4 = 4 := rfl
theorem mod20 {a : Int} (h : 0 ≤ a ∧ a < 256) : ∃ m : Nat, IntKind.wrap .i64 (Int.tmod a 20) = (m : Int) ∧ m < 20 := by
  obtain ⟨n, rfl⟩ := Int.eq_ofNat_of_zero_le h.1
  have e : Int.tmod (n : Int) 20 = ((n % 20 : Nat) : Int) := by rw [Int.tmod_eq_emod_of_nonneg (Int.natCast_nonneg _)]; rfl
  have hl := Nat.mod_lt n (show 0 < 20 by decide)
  exact ⟨n % 20, by rw [e]; exact wi64 _ (by omega) (by omega), hl⟩
theorem mul_powZ (x y : Int) : ∀ m : Nat, x ^ m * y ^ m = (x * y) ^ m
  | 0 => by simp
  | m + 1 => by
    rw [Int.pow_succ, Int.pow_succ, Int.pow_succ, ← mul_powZ x y m, Int.mul_assoc, Int.mul_left_comm x, ← Int.mul_assoc]
set_option maxRecDepth 100000 in
theorem con7 : Con Tryz.prog 7 spLaw7 := by
  refine con_flat (l := E23) (fn := Tryz.f7) hmix E23ok (by kernel_rfl) (by kernel_rfl) (fun _ => by kernel_rfl) ?_
  intro avs r0 ps hsp hps
  unfold spLaw7 at hsp
  split at hsp
  · rename_i s xs t ys a b c
    simp only [Option.some.injEq, Prod.mk.injEq] at hsp
    obtain ⟨rfl, rfl⟩ := hsp
    obtain ⟨hx, hy, ha, hb, hc, _⟩ := hps
    have sx := made_sz s hx 4
    have sy := made_sz t hy 4
    obtain ⟨x, ex⟩ : ∃ x, o_made s xs 4 = x := ⟨_, rfl⟩
    obtain ⟨y, ey⟩ : ∃ y, o_made t ys 4 = y := ⟨_, rfl⟩
    rw [ex] at sx
    rw [ey] at sy
    obtain ⟨m, hm, m20⟩ := mod20 ha
    obtain ⟨l, hl, l20⟩ := mod20 hb
    obtain ⟨k0, hk, k20⟩ := mod20 hc
    have wml : IntKind.wrap .i64 ((m : Int) + (l : Int)) = ((m + l : Nat) : Int) := by rw [wi64 _ (by omega) (by omega)]; omega
    obtain ⟨k, ek⟩ : ∃ k, 1 + k0 = k := ⟨_, rfl⟩
    have wk : IntKind.wrap .i64 (1 + (k0 : Int)) = (k : Int) := by rw [wi64 _ (by omega) (by omega)]; omega
    have p1 := fun z : Int => powN z m (by omega)
    have p2 := fun z : Int => powN z l (by omega)
    have p3 := fun z : Int => powN z (m + l) (by omega)
    have p4 := fun z : Int => powN z k (by omega)
    have q1 := fun z : Int => (p1 z).1
    have q2 := fun z : Int => (p2 z).1
    have q3 := fun z : Int => (p3 z).1
    have q4 := fun z : Int => (p4 z).1
    have r1 := (p1 0).2
    have r2 := (p2 0).2
    have r3 := (p3 0).2
    have r4 := (p4 0).2
    have lx := sz_len sx
    have ly := sz_len sy
    have sxy := sz_mul sx sy
    have lxy := sz_len sxy
    have z1 : ∀ {z : Int} {n : Nat}, (enc z.natAbs).length ≤ 9 → n ≤ 40 → o_sz 400 (z ^ n) := fun {z n} h1 h2 => sz_pow (Nat.le_trans (Nat.add_le_add_right (Nat.mul_le_mul h1 h2) 1) (by decide))
    have t1 := z1 (n := m) (Nat.le_trans lx (by decide)) (by omega)
    have t2 := z1 (n := l) (Nat.le_trans lx (by decide)) (by omega)
    have t3 := z1 (n := m + l) (Nat.le_trans lx (by decide)) (by omega)
    have t4 := z1 (n := m) (Nat.le_trans ly (by decide)) (by omega)
    have t5 := z1 (n := m) (Nat.le_trans lxy (by decide)) (by omega)
    have f1 : x ^ m * x ^ l = x ^ (m + l) := (Int.pow_add x m l).symm
    have f2 := mul_powZ x y m
    have s6 : o_sz 1000000 x ↔ True := ⟨fun _ => trivial, fun _ => sz_mono sx (by decide)⟩
    by_cases hneg : x < 0
    · have e1 : o_rootZ x (k : Int) = 0 := if_pos (.inl hneg)
      have e2 : o_re x (k : Int) = 1 := if_pos (.inl hneg)
      refine ⟨rfl, _, _, _, _, run7a s t xs ys a b c, booE ?_, ?_⟩
      · simp only [rt_eq, ex, hk, wk, e1]; rfl
      · simp only [AllP, rt_eq, okz_t, ex, ey, hm, hl, hk, wml, wk, q1, q2, q3, r1, r2, r3, f1, f2, e1, e2, s6, len0]
        and_intros
        all_goals first
          | exact trivial
          | exact sz_mono (n := big) (by repeat first | exact sx | exact sy | exact t1 | exact t2 | exact t3 | exact t4 | exact t5 | apply sz_add | apply sz_sub | apply sz_mul | apply sz_neg) (by unfold big; decide)
          | exact hx
          | exact hy
          | exact .inl (by omega)
          | exact nd rfl
          | omega
          | exact decide_eq_true hneg
          | exact decide_eq_true rfl
          | rfl
    · obtain ⟨R, hR⟩ : ∃ R, o_root k x.natAbs = R := ⟨_, rfl⟩
      have hk1 : 0 < k := by omega
      have e1 : o_rootZ x (k : Int) = (R : Int) := by unfold o_rootZ; rw [if_neg (by omega), tnc, hR]
      have e2 : o_re x (k : Int) = 0 := if_neg (by omega)
      have g1 := root_le (n := x.natAbs) hk1
      have g2 := root_lt (n := x.natAbs) hk1
      rw [hR] at g1 g2
      have g3 := le_pow (j := R) hk1
      have sR : o_sz 4 (R : Int) := abs_sz (by omega) sx
      have c1 : o_sz 2 1 := szb (by decide) (by decide)
      have sR1 := sz_add sR c1
      have lR := sz_len sR
      have lR1 := sz_len sR1
      have t6 := z1 (n := k) (Nat.le_trans lR (by decide)) (by omega)
      have t7 := z1 (n := k) (Nat.le_trans lR1 (by decide)) (by omega)
      have v1 : sgnI ((R : Int) ^ k - x) ≤ 0 := (sgn_le _).2 (by rw [← Int.natCast_pow]; generalize R ^ k = w at *; omega)
      have v2 : 0 < sgnI (((R : Int) + 1) ^ k - x) := sgn_gt.2 (by
        have e : ((R : Int) + 1) ^ k = (((R + 1) ^ k : Nat) : Int) := by rw [Int.natCast_pow]; rfl
        rw [e]; generalize (R + 1) ^ k = w at *; omega)
      have v3 : decide ((R : Int) < 0) = false := decide_eq_false (by omega)
      have v4 := valid_e (R : Int)
      rw [v3] at v4
      have m1 : max 4 2 + 1 ≤ 9 := by decide
      refine ⟨rfl, _, _, _, _, run7b s t xs ys a b c, booE ?_, ?_⟩
      · simp only [rt_eq, ex, hk, wk, e1, q4]
        exact decide_eq_true v2
      · simp only [AllP, rt_eq, okz_t, ex, ey, hm, hl, hk, wml, wk, q1, q2, q3, q4, r1, r2, r3, r4, f1, f2, e1, e2, s6, v3, v4, words_e]
        and_intros
        all_goals first
          | exact trivial
          | exact sz_mono (n := big) (by repeat first | exact sx | exact sy | exact t1 | exact t2 | exact t3 | exact t4 | exact t5 | exact t6 | exact t7 | exact sR | exact c1 | apply sz_add | apply sz_sub | apply sz_mul | apply sz_neg) (by unfold big; decide)
          | exact ln_sz (sz_mono sR (by unfold big; decide))
          | exact hx
          | exact hy
          | exact .inl (by omega)
          | exact nd rfl
          | omega
          | exact decide_eq_false hneg
          | exact decide_eq_true v1
          | exact decide_eq_true rfl
          | rfl
  · cases hsp

end Go.Proofs.YtkfdnpbpebmhaaaGreatDoor.Spec
namespace Go.Proofs.YtkfdnpbpebmhaaaGreatDoor.integerPowers
open Go Go.RowKit Go.ChangeShapes Go.WideShapes Go.ChangeAt Sx Num Spec Row
open Go.ChangeMaps (open_string shut_string)

theorem witness_row (os : Os) {H : Type} (enc : TypeId × Value → H) :
    (OpenSpec.ofChange Rows.integerPowersSpec).preRow enc Tryz.prog Tryz.f7 Rows.integerPowersRow.domain false Rows.integerPowersRow.laid ((laidWorld os).forCall (fun _ _ => 0) ⟨#[], #[.agg #[.bool false, .slice none 0 0], .agg #[.bool false, .slice none 0 0], .agg #[.int .u8 0, .int .u8 0, .int .u8 0]], []⟩).memory #[.agg #[.bool false, .slice none 0 0], .agg #[.bool false, .slice none 0 0], .agg #[.int .u8 0, .int .u8 0, .int .u8 0]] := by
  have hw : (DataW.whole enc Tryz.prog ((laidWorld os).forCall (fun _ _ => 0) ⟨#[], #[.agg #[.bool false, .slice none 0 0], .agg #[.bool false, .slice none 0 0], .agg #[.int .u8 0, .int .u8 0, .int .u8 0]], []⟩).memory Tryz.f7.params.toList (OpenSpec.ofChange Rows.integerPowersSpec).vars false (#[.agg #[.bool false, .slice none 0 0], .agg #[.bool false, .slice none 0 0], .agg #[.int .u8 0, .int .u8 0, .int .u8 0]] : Array Value).toList 8).map (fun x => (x.1, x.2.1)) =
      some ([.agg [.lit (.bool false), .nil], .agg [.lit (.bool false), .nil], .agg [.lit (.int .u8 0), .lit (.int .u8 0), .lit (.int .u8 0)]], []) := by kernel_rfl
  obtain ⟨⟨x1, x2, x3⟩, hx, hx1⟩ := Option.map_eq_some_iff.1 hw
  simp only [Prod.mk.injEq] at hx1
  obtain ⟨rfl, rfl⟩ := hx1
  exact OpenSpec.preRow_of_cond 8 hx (by kernel_rfl) (fun k hk => by cases hk) (by kernel_rfl) (laid_met os _)
set_option maxRecDepth 100000 in
theorem contract (H : Type) (enc : TypeId × Value → H) (W : World) (base : Nat) (args : Array Value) (ds gs : List (DataW H)) (before : List MemPlace)
    (hval0 : ∀ (j : Nat) t v, Tryz.f7.params[j]? = some t → args[j]? = some v → Value.okWide Tryz.prog W .any base t v)
    (hW : DataW.Whole enc Tryz.prog Tryz.f7.params.toList Rows.integerPowersSpec.vars false W args.toList ds gs before) :
    Calls Tryz.prog 7 args W fun e W' => ∃ v, e = .returned v ∧ Rows.integerPowersSpec.post enc Tryz.prog Tryz.f7 false true false false W args v W' := by
  have hval : ∀ (j : Nat) t v, Tryz.f7.params[j]? = some t → args[j]? = some v → Value.okWide Tryz.prog W .any base t v := hval0
  have hW' := hW
  obtain ⟨p, q, hA0, hV, rfl, hfz, hnd⟩ := hW
  have hA : DataW.TrodAll enc Tryz.prog W 0 (fun _ => true) true Tryz.f7.params.toList args.toList ds p := hA0
  rw [Tryz.params7] at hA hval
  obtain ⟨v0, vs0, d0, ds0, p0, q0, hargs, rfl, rfl, h0, r0⟩ := trodAll_cons hA
  obtain ⟨v1, vs1, d1, ds1, p1, q1, rfl, rfl, rfl, h1, r1⟩ := trodAll_cons r0
  obtain ⟨v2, vs2, d2, ds2, p2, q2, rfl, rfl, rfl, h2, r2⟩ := trodAll_cons r1
  obtain ⟨rfl, rfl, rfl⟩ := trodAll_nil r2
  obtain rfl : args = #[v0, v1, v2] := by cases args; simp_all
  obtain ⟨rfl, rfl⟩ := trodVars_none hV
  obtain ⟨s0, xs0, hx0, g0⟩ := open_raw Tryz.underlying25 (by kernel_rfl) rfl rfl (by kernel_rfl) (by kernel_rfl) (by kernel_rfl) (by kernel_rfl) Tryz.underlying27 (by kernel_rfl) (hval 0 25 v0 rfl rfl) h0
  have lt0 : ∀ x ∈ p0, x.block < W.heap.size := by obtain ⟨m, hm⟩ := h0; exact DataW.trod_lt m _ _ _ hm
  obtain ⟨s1, xs1, hx1, g1⟩ := open_raw Tryz.underlying25 (by kernel_rfl) rfl rfl (by kernel_rfl) (by kernel_rfl) (by kernel_rfl) (by kernel_rfl) Tryz.underlying27 (by kernel_rfl) (hval 1 25 v1 rfl rfl) h1
  have lt1 : ∀ x ∈ p1, x.block < W.heap.size := by obtain ⟨m, hm⟩ := h1; exact DataW.trod_lt m _ _ _ hm
  obtain ⟨a2, b2, c2, ha2, hb2, hc2, g2⟩ := open_arr_b3 Tryz.underlying41 (by kernel_rfl) (by kernel_rfl) (by kernel_rfl) (hval 2 41 v2 rfl rfl) h2
  have lt2 : ∀ x ∈ p2, x.block < W.heap.size := by obtain ⟨m, hm⟩ := h2; exact DataW.trod_lt m _ _ _ hm
  clear hA0 hval0
  refine (con7.calls [.agg [.v (.bool s0), .row .u32 xs0], .agg [.v (.bool s1), .row .u32 xs1], .agg [.v (.int .u8 a2), .v (.int .u8 b2), .v (.int .u8 c2)]] _ _ rfl (allP_iff.1 ⟨hx0, hx1, ha2, hb2, hc2, trivial⟩) (fun _ => False) (fun _ => 0) W #[v0, v1, v2] (fun _ h => h.elim) ⟨g0, g1, g2, trivial⟩).mono fun e W' ⟨u, he, _, hu, bel⟩ => ?_
  have hu : u = .bool true := hu
  subst hu
  subst he
  exact ⟨_, rfl, _, _, _, [], _, [], hW', trodAll_mk1 (shut_bool Tryz.underlying4 _), (trodAll_cons_mk (Below.trod laidOut (by kernel_rfl) (of_decide_eq_true (by kernel_rfl)) h0 bel lt0) (trodAll_cons_mk (Below.trod laidOut (by kernel_rfl) (of_decide_eq_true (by kernel_rfl)) h1 bel lt1) (trodAll_cons_mk (Below.trod laidOut (by kernel_rfl) (of_decide_eq_true (by kernel_rfl)) h2 bel lt2) trodAll_mk0))), rfl, bel.frame _, fun h => by cases h⟩
set_option maxRecDepth 100000 in
set_option maxHeartbeats 2000000 in
theorem lifted (os : Os) (started : os.Started) (H : Type) (enc : TypeId × Value → H) (F : Stop.Interp) :
    ReturnsInHanded {} Tryz.checked os 7 .any ((OpenSpec.ofChange Rows.integerPowersSpec).preRow enc Tryz.prog Tryz.f7 Rows.integerPowersRow.domain false Rows.integerPowersRow.laid) (((OpenSpec.ofChange Rows.integerPowersSpec).at F).post enc Tryz.prog Tryz.f7 false true false false) := by
  refine returnsInHanded_of_row (C := Tryz.checked) (s := OpenSpec.ofChange Rows.integerPowersSpec) own started (by kernel_rfl) Tryz.func7
    (witness_row_atRef (enc := enc) (C := Tryz.checked) false (laidWorld os) #[.agg #[.bool false, .slice none 0 0], .agg #[.bool false, .slice none 0 0], .agg #[.int .u8 0, .int .u8 0, .int .u8 0]] rfl (by kernel_rfl) (by kernel_rfl) (by kernel_rfl) (witness_row os enc)) ?_
  intro W base args ds gs before hval hW _ _ _ _ _ _
  exact contract H enc W base args ds gs before hval hW
theorem said : Rows.IntegerPowersSaid :=
  OpenClaim.holds_of_cond 7 Tryz.f7 rfl rfl rfl rfl rfl rfl rfl ⟨rfl, rfl, rfl, rfl, rfl⟩ rfl rfl rfl rfl rfl (by kernel_rfl) Tryz.func7 (by kernel_rfl)
    (of_decide_eq_true (by kernel_rfl)) (by unfold Func.isWrapper; first | (rw [if_pos (by decide +kernel)]; kernel_rfl) | (rw [if_neg (by decide +kernel)]; exact ⟨rfl, rfl⟩))
    (fun os started H enc _ F => by rw [OpenClaim.pre_eq_preRow]; exact lifted os started H enc F)
theorem plain (f : FuncId) (fn : Func) (hf : Tryz.pinned.checked.prog.funcNamed Rows.integerPowersRow.func = some f) (hfn : Tryz.pinned.checked.prog.funcs[f]? = some fn) :
    true = Tryz.pinned.checked.prog.looks [] ∧ ∀ (j : Nat) t, fn.params[j]? = some t → Tryz.pinned.checked.prog.wantsStandIn t = false := by
  obtain rfl : f = 7 := Option.some.inj ((show Tryz.prog.funcNamed Rows.integerPowersRow.func = some 7 by kernel_rfl).symm.trans hf) |>.symm
  obtain rfl : fn = Tryz.f7 := (Option.some.inj (Tryz.func7.symm.trans hfn)).symm
  refine ⟨by kernel_rfl, fun j t ht => ?_⟩
  rw [Tryz.params7] at ht
  have hm := Array.mem_of_getElem? ht
  simp only [List.mem_toArray, List.mem_cons, List.not_mem_nil, or_false] at hm
  rcases hm with rfl | rfl | rfl
  · exact (show Tryz.prog.wantsStandIn 25 = false by kernel_rfl)
  · exact (show Tryz.prog.wantsStandIn 25 = false by kernel_rfl)
  · exact (show Tryz.prog.wantsStandIn 41 = false by kernel_rfl)
theorem card : Rows.IntegerPowersCardSaid :=
  Claim7.holds_tied_plain_at .later [] _ _ _ _ said (fun _ h => by cases h) (by kernel_rfl) (fun _ h => by cases h) integerPowers_row_tie rfl ⟨rfl, rfl⟩ (by kernel_rfl) rfl plain (by kernel_rfl)
end Go.Proofs.YtkfdnpbpebmhaaaGreatDoor.integerPowers
namespace Go.Proofs.YtkfdnpbpebmhaaaGreatDoor
/-- The law IntegerPowers: its card. -/
theorem integerPowers_card : Rows.IntegerPowersCardSaid := integerPowers.card
#print axioms integerPowers_card
end Go.Proofs.YtkfdnpbpebmhaaaGreatDoor
