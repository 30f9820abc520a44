/- The law IntegerTexts: the row and its card. For every input the call answers true, and what was handed in reads as before. Conditions: the listed package-level variables start as the program's text lays them. In this text, besides: Runs: the law of texts; Laws: texts; The law IntegerTexts: the row and its card. For every input the call answers true, and what was handed in reads as before. Conditions: the listed package-level variables start as the program's text lays them. -/
import Derived.Test.YtkfdnpbpebmhaaaGreatDoorProg
import Derived.Test.YtkfdnpbpebmhaaaGreatDoorZ0
import Derived.Test.YtkfdnpbpebmhaaaGreatDoorZ1
import Derived.Test.YtkfdnpbpebmhaaaGreatDoorZ2
import Derived.Test.YtkfdnpbpebmhaaaGreatDoorZ3
import Derived.Test.YtkfdnpbpebmhaaaGreatDoorZ4
import Derived.Test.YtkfdnpbpebmhaaaGreatDoorZ5
import Derived.Test.YtkfdnpbpebmhaaaGreatDoorZ6
section
set_option maxRecDepth 100000
namespace Go.Proofs.YtkfdnpbpebmhaaaGreatDoor.Spec
open Go Go.RowKit Sx Num

theorem run8a (s t : Bool) (xs ys : List Int) (p : ByteArray) : fnEx Tryz.prog (lk E23) L0 (G1 [20]) 60 Tryz.f8 [rawA s xs, rawA t ys, sStr p] = some (AV.s (SV.one (LV.v (Value.bool true))), [false = false, decide ((6 : Int) < (↑(ByteArray.size p) : Int)) = true]) := by kernel_rfl
theorem run8b (s t : Bool) (xs ys : List Int) (p : ByteArray) : fnEx Tryz.prog (lk E23) L0 (G1 [20, 23, 38, 43, 44, 53]) 60 Tryz.f8 [rawA s xs, rawA t ys, sStr p] = (let q10 := o_made s xs (Int.toNat (12 : Int)); let q4 := o_text (o_rt q10); let q7 := (↑(ByteArray.size q4) : Int); let q16 := o_made t ys (Int.toNat (12 : Int)); let q19 := (0 : Int) ≤ (12 : Int) ∧ (12 : Int) ≤ (1000000 : Int); let q22 := List.getD ys (Int.toNat (0 : Int)) (0 : Int); let q23 := o_made s xs (12 : Nat); let q3 := o_text (o_rt q23); let q6 := (Bool.not (decide (o_rt (o_qz q3) = o_rt q23))) = false; let q11 := (Bool.not (decide (o_qe q3 = (0 : Int)))) = false; let q20 := (↑(ByteArray.size q3) : Int); let q24 := IntKind.wrap .i64 (q7 + (1 : Int)); let q2 := Int.tmod q22 (IntKind.wrap .u32 q24); let q5 := IntKind.wrap .i64 q2 + IntKind.wrap .i64 (Int.tmod q22 (5 : Int)); let q12 := if q7 < IntKind.wrap .i64 q5 then q7 else IntKind.wrap .i64 q5; let q13 := o_sub q4 (0 : Nat) (Int.toNat (IntKind.wrap .i64 q2)); let q21 := o_sub q4 (Int.toNat q12) (ByteArray.size q4); let q0 := o_cat (o_cat q13 p) q21; let q9 := decide ((↑(List.length (enc (Int.natAbs (o_qz q0)))) : Int) = (0 : Int)) = true; let q17 := decide (o_qe q0 = (3 : Int)) = true; let q25 := List.getD ys (0 : Nat) (0 : Int); let q8 := Int.tmod q25 (IntKind.wrap .u32 (IntKind.wrap .i64 (q20 + (1 : Int)))); let q15 := IntKind.wrap .i64 q8 + IntKind.wrap .i64 (Int.tmod q25 (5 : Int)); let q1 := o_cat (o_cat (o_sub q3 (0 : Nat) (Int.toNat (IntKind.wrap .i64 q8))) p) (o_sub q3 (Int.toNat (if q20 < IntKind.wrap .i64 q15 then q20 else IntKind.wrap .i64 q15)) (ByteArray.size q3)); let q14 := (Bool.not (o_seq q1 q3)) = true; let q26 := (9223372036854775807 : Nat); let q27 := (↑(List.length ys) : Int); let q18 := (0 : Int) ≤ (0 : Int) ∧ (0 : Int) < q27; let q28 := o_made t ys (12 : Nat); some (AV.s (SV.one (LV.v (Value.bool (Bool.not (decide (o_qz q1 < (0 : Int))))))), [false = false, decide ((6 : Int) < (↑(ByteArray.size p) : Int)) = false, Words xs, q19, Words ys, q19, o_okz q10, o_sz big (o_rt q10), q11, q11, q11, o_okz (o_qz q4), o_okz q10, o_sz big (o_rt (o_qz q4)), o_sz big (o_rt q10), q11, q11, q6, q6, o_okz q16, o_sz big (o_rt q16), q6, q6, q6, q6, q6, o_okz q10, o_okz q16, o_sz big (o_rt q10), o_sz big (o_rt q16), q6, q6, (Bool.not (decide (o_seq (o_text (o_rt q28)) q3 = decide (o_rt q23 = o_rt q28)))) = false, decide ((0 : Int) < q27) = true, q18, ¬IntKind.wrap .u32 q24 = (0 : Int), q18, ¬(5 : Int) = (0 : Int), (0 : Int) ≤ IntKind.wrap .i64 q2 ∧ IntKind.wrap .i64 q2 ≤ q7, ByteArray.size q13 + ByteArray.size p ≤ q26, ((0 : Int) ≤ if q7 < IntKind.wrap .i64 q5 then q7 else IntKind.wrap .i64 q5) ∧ q12 ≤ q7, ByteArray.size (o_cat q13 p) + ByteArray.size q21 ≤ q26, (Bool.not (decide (o_qe q1 = (0 : Int)))) = true, true = true, true = true, true = true, q17, q17, q17, q17, q14, q14, q14, q14, q14, q9, q9, q9, q9])) := by kernel_rfl
theorem run8c (s t : Bool) (xs ys : List Int) (p : ByteArray) : fnEx Tryz.prog (lk E23) L0 (G1 [20, 23, 38, 43, 44, 53, 94]) 60 Tryz.f8 [rawA s xs, rawA t ys, sStr p] = (let q9 := o_made s xs (Int.toNat (12 : Int)); let q2 := o_text (o_rt q9); let q7 := (↑(ByteArray.size q2) : Int); let q14 := o_made t ys (Int.toNat (12 : Int)); let q16 := (0 : Int) ≤ (12 : Int) ∧ (12 : Int) ≤ (1000000 : Int); let q20 := List.getD ys (Int.toNat (0 : Int)) (0 : Int); let q21 := o_made s xs (12 : Nat); let q5 := o_text (o_rt q21); let q3 := (Bool.not (decide (o_rt (o_qz q5) = o_rt q21))) = false; let q10 := (Bool.not (decide (o_qe q5 = (0 : Int)))) = false; let q18 := (↑(ByteArray.size q5) : Int); let q22 := IntKind.wrap .i64 (q7 + (1 : Int)); let q1 := Int.tmod q20 (IntKind.wrap .u32 q22); let q4 := IntKind.wrap .i64 q1 + IntKind.wrap .i64 (Int.tmod q20 (5 : Int)); let q11 := if q7 < IntKind.wrap .i64 q4 then q7 else IntKind.wrap .i64 q4; let q12 := o_sub q2 (0 : Nat) (Int.toNat (IntKind.wrap .i64 q1)); let q19 := o_sub q2 (Int.toNat q11) (ByteArray.size q2); let q0 := o_cat (o_cat q12 p) q19; let q17 := enc (Int.natAbs (o_qz q0)); let q6 := o_valid (decide (o_qz q0 < (0 : Int))) q17 = true; let q23 := List.getD ys (0 : Nat) (0 : Int); let q8 := Int.tmod q23 (IntKind.wrap .u32 (IntKind.wrap .i64 (q18 + (1 : Int)))); let q13 := IntKind.wrap .i64 q8 + IntKind.wrap .i64 (Int.tmod q23 (5 : Int)); let q24 := (9223372036854775807 : Nat); let q25 := (↑(List.length ys) : Int); let q15 := (0 : Int) ≤ (0 : Int) ∧ (0 : Int) < q25; let q26 := o_made t ys (12 : Nat); some (AV.s (SV.one (LV.v (Value.bool (o_seq (o_text (o_rt (o_qz q0))) q0)))), [false = false, decide ((6 : Int) < (↑(ByteArray.size p) : Int)) = false, Words xs, q16, Words ys, q16, o_okz q9, o_sz big (o_rt q9), q10, q10, q10, o_okz (o_qz q2), o_okz q9, o_sz big (o_rt (o_qz q2)), o_sz big (o_rt q9), q10, q10, q3, q3, o_okz q14, o_sz big (o_rt q14), q3, q3, q3, q3, q3, o_okz q9, o_okz q14, o_sz big (o_rt q9), o_sz big (o_rt q14), q3, q3, (Bool.not (decide (o_seq (o_text (o_rt q26)) q5 = decide (o_rt q21 = o_rt q26)))) = false, decide ((0 : Int) < q25) = true, q15, ¬IntKind.wrap .u32 q22 = (0 : Int), q15, ¬(5 : Int) = (0 : Int), (0 : Int) ≤ IntKind.wrap .i64 q1 ∧ IntKind.wrap .i64 q1 ≤ q7, ByteArray.size q12 + ByteArray.size p ≤ q24, ((0 : Int) ≤ if q7 < IntKind.wrap .i64 q4 then q7 else IntKind.wrap .i64 q4) ∧ q11 ≤ q7, ByteArray.size (o_cat q12 p) + ByteArray.size q19 ≤ q24, (Bool.not (decide (o_qe (o_cat (o_cat (o_sub q5 (0 : Nat) (Int.toNat (IntKind.wrap .i64 q8))) p) (o_sub q5 (Int.toNat (if q18 < IntKind.wrap .i64 q13 then q18 else IntKind.wrap .i64 q13)) (ByteArray.size q5))) = (0 : Int)))) = false, true = true, true = true, Words q17, Ln q17, true = true, q6, q6, o_okz (o_qz q0), o_sz big (o_rt (o_qz q0)), q6, q6, q6])) := by kernel_rfl
theorem run8d (s t : Bool) (xs ys : List Int) (p : ByteArray) : fnEx Tryz.prog (lk E23) L0 (G1 [20, 23, 38, 43, 44, 53, 57]) 60 Tryz.f8 [rawA s xs, rawA t ys, sStr p] = (let q7 := o_made s xs (Int.toNat (12 : Int)); let q3 := o_text (o_rt q7); let q9 := (↑(ByteArray.size q3) : Int); let q5 := if q9 < IntKind.wrap .i64 ((0 : Int) + (0 : Int)) then q9 else IntKind.wrap .i64 ((0 : Int) + (0 : Int)); let q11 := o_made t ys (Int.toNat (12 : Int)); let q13 := o_sub q3 (0 : Nat) (Int.toNat (0 : Int)); let q14 := (0 : Int) ≤ (12 : Int) ∧ (12 : Int) ≤ (1000000 : Int); let q15 := o_sub q3 (Int.toNat q5) (ByteArray.size q3); let q0 := o_cat (o_cat q13 p) q15; let q6 := decide ((↑(List.length (enc (Int.natAbs (o_qz q0)))) : Int) = (0 : Int)) = true; let q12 := decide (o_qe q0 = (3 : Int)) = true; let q16 := o_made s xs (12 : Nat); let q2 := o_text (o_rt q16); let q4 := (Bool.not (decide (o_rt (o_qz q2) = o_rt q16))) = false; let q8 := (Bool.not (decide (o_qe q2 = (0 : Int)))) = false; let q17 := (↑(ByteArray.size q2) : Int); let q1 := o_cat (o_cat (o_sub q2 (0 : Nat) (0 : Nat)) p) (o_sub q2 (Int.toNat (if q17 < IntKind.wrap .i64 ((0 : Int) + (0 : Int)) then q17 else IntKind.wrap .i64 ((0 : Int) + (0 : Int)))) (ByteArray.size q2)); let q10 := (Bool.not (o_seq q1 q2)) = true; let q18 := (9223372036854775807 : Nat); let q19 := o_made t ys (12 : Nat); some (AV.s (SV.one (LV.v (Value.bool (Bool.not (decide (o_qz q1 < (0 : Int))))))), [false = false, decide ((6 : Int) < (↑(ByteArray.size p) : Int)) = false, Words xs, q14, Words ys, q14, o_okz q7, o_sz big (o_rt q7), q8, q8, q8, o_okz (o_qz q3), o_okz q7, o_sz big (o_rt (o_qz q3)), o_sz big (o_rt q7), q8, q8, q4, q4, o_okz q11, o_sz big (o_rt q11), q4, q4, q4, q4, q4, o_okz q7, o_okz q11, o_sz big (o_rt q7), o_sz big (o_rt q11), q4, q4, (Bool.not (decide (o_seq (o_text (o_rt q19)) q2 = decide (o_rt q16 = o_rt q19)))) = false, decide ((0 : Int) < (↑(List.length ys) : Int)) = false, (0 : Int) ≤ (0 : Int) ∧ (0 : Int) ≤ q9, ByteArray.size q13 + ByteArray.size p ≤ q18, ((0 : Int) ≤ if q9 < IntKind.wrap .i64 ((0 : Int) + (0 : Int)) then q9 else IntKind.wrap .i64 ((0 : Int) + (0 : Int))) ∧ q5 ≤ q9, ByteArray.size (o_cat q13 p) + ByteArray.size q15 ≤ q18, (Bool.not (decide (o_qe q1 = (0 : Int)))) = true, true = true, true = true, true = true, q12, q12, q12, q12, q10, q10, q10, q10, q10, q6, q6, q6, q6])) := by kernel_rfl
theorem run8e (s t : Bool) (xs ys : List Int) (p : ByteArray) : fnEx Tryz.prog (lk E23) L0 (G1 [20, 23, 38, 43, 44, 53, 57, 94]) 60 Tryz.f8 [rawA s xs, rawA t ys, sStr p] = (let q6 := o_made s xs (Int.toNat (12 : Int)); let q1 := o_text (o_rt q6); let q8 := (↑(ByteArray.size q1) : Int); let q4 := if q8 < IntKind.wrap .i64 ((0 : Int) + (0 : Int)) then q8 else IntKind.wrap .i64 ((0 : Int) + (0 : Int)); let q9 := o_made t ys (Int.toNat (12 : Int)); let q10 := o_sub q1 (0 : Nat) (Int.toNat (0 : Int)); let q11 := (0 : Int) ≤ (12 : Int) ∧ (12 : Int) ≤ (1000000 : Int); let q13 := o_made s xs (12 : Nat); let q3 := o_text (o_rt q13); let q2 := (Bool.not (decide (o_rt (o_qz q3) = o_rt q13))) = false; let q7 := (Bool.not (decide (o_qe q3 = (0 : Int)))) = false; let q14 := o_sub q1 (Int.toNat q4) (ByteArray.size q1); let q0 := o_cat (o_cat q10 p) q14; let q12 := enc (Int.natAbs (o_qz q0)); let q5 := o_valid (decide (o_qz q0 < (0 : Int))) q12 = true; let q15 := (↑(ByteArray.size q3) : Int); let q16 := (9223372036854775807 : Nat); let q17 := o_made t ys (12 : Nat); some (AV.s (SV.one (LV.v (Value.bool (o_seq (o_text (o_rt (o_qz q0))) q0)))), [false = false, decide ((6 : Int) < (↑(ByteArray.size p) : Int)) = false, Words xs, q11, Words ys, q11, o_okz q6, o_sz big (o_rt q6), q7, q7, q7, o_okz (o_qz q1), o_okz q6, o_sz big (o_rt (o_qz q1)), o_sz big (o_rt q6), q7, q7, q2, q2, o_okz q9, o_sz big (o_rt q9), q2, q2, q2, q2, q2, o_okz q6, o_okz q9, o_sz big (o_rt q6), o_sz big (o_rt q9), q2, q2, (Bool.not (decide (o_seq (o_text (o_rt q17)) q3 = decide (o_rt q13 = o_rt q17)))) = false, decide ((0 : Int) < (↑(List.length ys) : Int)) = false, (0 : Int) ≤ (0 : Int) ∧ (0 : Int) ≤ q8, ByteArray.size q10 + ByteArray.size p ≤ q16, ((0 : Int) ≤ if q8 < IntKind.wrap .i64 ((0 : Int) + (0 : Int)) then q8 else IntKind.wrap .i64 ((0 : Int) + (0 : Int))) ∧ q4 ≤ q8, ByteArray.size (o_cat q10 p) + ByteArray.size q14 ≤ q16, (Bool.not (decide (o_qe (o_cat (o_cat (o_sub q3 (0 : Nat) (0 : Nat)) p) (o_sub q3 (Int.toNat (if q15 < IntKind.wrap .i64 ((0 : Int) + (0 : Int)) then q15 else IntKind.wrap .i64 ((0 : Int) + (0 : Int)))) (ByteArray.size q3))) = (0 : Int)))) = false, true = true, true = true, Words q12, Ln q12, true = true, q5, q5, o_okz (o_qz q0), o_sz big (o_rt (o_qz q0)), q5, q5, q5])) := by kernel_rfl
end Go.Proofs.YtkfdnpbpebmhaaaGreatDoor.Spec
end
namespace Go.Proofs.YtkfdnpbpebmhaaaGreatDoor.Spec
open Go Go.RowKit Sx Num

theorem e12 : Int.toNat 12 = 12 := rfl
theorem text_len (x : Int) (h : o_sz 100 x) : (text x).length ≤ 1900 := by
  have hpc := npc_le (n := x.natAbs) (k := 100) h
  have hdl := dec_len x.natAbs
  unfold text
  split
  · simp
  · split
    · rw [List.length_append]; simp; omega
    · rw [List.nil_append]; omega
theorem qe_text {x : Int} (h : o_sz 100 x) : o_qe (o_text x) = 0 ∧ o_qz (o_text x) = x := by
  have hl := text_len x h
  have e : o_qe (o_text x) = 0 := by
    unfold o_qe o_text
    rw [tx_size, list_tx, if_neg (by omega), if_pos (by rw [pval_text])]
  refine ⟨e, ?_⟩
  unfold o_qz
  rw [if_pos e]
  unfold o_text
  rw [list_tx, pval_text]
theorem qz_sz (s : ByteArray) : o_sz 4000 (o_qz s) := by
  obtain ⟨l, rfl⟩ : ∃ l, s = tx l := ⟨s.data.toList, rfl⟩
  unfold o_qz
  split
  · rename_i h
    obtain ⟨hl, ht⟩ := qe_zero h
    obtain ⟨v1, v2, v3⟩ := cutm_val l
    have hz := val10_sz _ (v2 ht) (k := 4000) (by omega)
    rw [list_tx, ← v1]
    have := len_lt hz (Nat.le_refl _)
    unfold o_sz o_toI
    rw [nv_enc]
    unfold o_val
    split <;> omega
  · exact sz_zero _
theorem seq_text (x y : Int) : o_seq (o_text y) (o_text x) = decide (x = y) := by
  by_cases h : x = y
  · subst h; rw [seq_true rfl, decide_eq_true rfl]
  · rw [decide_eq_false h]
    exact seq_false fun e => h (text_inj (tx_inj e)).symm
/-- What parsing says of a short string. -/
theorem qe_cases (s : ByteArray) (hs : s.size ≤ 4000) : (o_qe s = 0 ∧ o_text (o_qz s) = s) ∨ (o_qe s = 3 ∧ o_qz s = 0) := by
  obtain ⟨l, rfl⟩ : ∃ l, s = tx l := ⟨s.data.toList, rfl⟩
  by_cases h : o_qe (tx l) = 0
  · left
    refine ⟨h, ?_⟩
    obtain ⟨_, ht⟩ := qe_zero h
    unfold o_qz o_text
    rw [if_pos h, list_tx, ht]
  · right
    have : o_qe (tx l) = 3 := by
      unfold o_qe at h ⊢
      rw [if_neg (by omega)] at h ⊢
      split at h
      · exact absurd rfl h
      · rename_i hne; rw [if_neg hne]
    exact ⟨this, by unfold o_qz; rw [if_neg h]⟩
theorem sub_size (s : ByteArray) (a b : Nat) : (o_sub s a b).size ≤ s.size := by
  obtain ⟨l, rfl⟩ : ∃ l, s = tx l := ⟨s.data.toList, rfl⟩
  rw [sub_tx, tx_size, tx_size, List.length_take, List.length_drop]
  omega
def spLaw8 : Sp
  | [.agg [.v (.bool _), .row .u32 xs], .agg [.v (.bool _), .row .u32 ys], .one (.v (.string p))] => some (.s (boo true), [Words xs, Words ys, p.size ≤ 9223372036854775807])
  | _ => none
theorem e0 : Int.toNat 0 = 0 := rfl
theorem nbt {b : Bool} (h : b = false) : Bool.not b = true := by subst h; rfl
theorem nbf {b : Bool} (h : b = true) : Bool.not b = false := by subst h; rfl
set_option maxRecDepth 100000 in
theorem con8 : Con Tryz.prog 8 spLaw8 := by
  refine con_flat (l := E23) (fn := Tryz.f8) hmix E23ok (by kernel_rfl) (by kernel_rfl) (fun _ => by kernel_rfl) ?_
  intro avs r0 ps hsp hps
  unfold spLaw8 at hsp
  split at hsp
  · rename_i s xs t ys p
    simp only [Option.some.injEq, Prod.mk.injEq] at hsp
    obtain ⟨rfl, rfl⟩ := hsp
    obtain ⟨hx, hy, _, _⟩ := hps
    by_cases h6 : 6 < p.size
    · refine ⟨rfl, _, _, _, _, run8a s t xs ys p, rfl, ?_⟩
      exact ⟨rfl, decide_eq_true (by omega), trivial⟩
    · have sx := made_sz s hx 12
      have sy := made_sz t hy 12
      obtain ⟨x, ex⟩ : ∃ x, o_made s xs 12 = x := ⟨_, rfl⟩
      obtain ⟨y, ey⟩ : ∃ y, o_made t ys 12 = y := ⟨_, rfl⟩
      rw [ex] at sx
      rw [ey] at sy
      have bx := sz_mono sx (n := big) (by unfold big; decide)
      have by' := sz_mono sy (n := big) (by unfold big; decide)
      have hxl := text_len x (sz_mono sx (by decide))
      obtain ⟨q1, q2⟩ := qe_text (sz_mono sx (show 12 ≤ 100 by decide))
      obtain ⟨n, hn⟩ : ∃ n, (o_text x).size = n := ⟨_, rfl⟩
      have hnl : n ≤ 1900 := by rw [← hn]; unfold o_text; rw [tx_size]; exact hxl
      have hd6 : decide (6 < ((p.size : Nat) : Int)) = false := decide_eq_false (by omega)
      have htx := seq_text x y
      by_cases hys : 0 < ys.length
      · have ha := hy (ys.getD 0 0) (by rw [List.getD, List.getElem?_eq_getElem hys]; exact List.getElem_mem hys)
        obtain ⟨A, hA⟩ : ∃ A : Nat, ys.getD 0 0 = (A : Int) := ⟨(ys.getD 0 0).toNat, by omega⟩
        obtain ⟨at', hat⟩ : ∃ a, A % (n + 1) = a := ⟨_, rfl⟩
        obtain ⟨cut, hcut⟩ : ∃ a, A % 5 = a := ⟨_, rfl⟩
        have hatl : at' ≤ n := by have := Nat.mod_lt A (show 0 < n + 1 by omega); omega
        have hcl : cut < 5 := by have := Nat.mod_lt A (show 0 < 5 by decide); omega
        have w1 : IntKind.wrap .i64 ((n : Int) + 1) = ((n + 1 : Nat) : Int) := by rw [wi64 _ (by omega) (by omega)]; omega
        have w2 : IntKind.wrap .u32 ((n + 1 : Nat) : Int) = ((n + 1 : Nat) : Int) := by rw [w32]; omega
        have w3 : Int.tmod (A : Int) ((n + 1 : Nat) : Int) = (at' : Int) := by rw [Int.tmod_eq_emod_of_nonneg (Int.natCast_nonneg _), ← hat]; rfl
        have w4 : IntKind.wrap .i64 (at' : Int) = (at' : Int) := wi64 _ (by omega) (by omega)
        have w5 : Int.tmod (A : Int) 5 = (cut : Int) := by rw [Int.tmod_eq_emod_of_nonneg (Int.natCast_nonneg _), ← hcut]; rfl
        have w6 : IntKind.wrap .i64 (cut : Int) = (cut : Int) := wi64 _ (by omega) (by omega)
        have w7 : IntKind.wrap .i64 ((at' : Int) + (cut : Int)) = ((at' + cut : Nat) : Int) := by rw [wi64 _ (by omega) (by omega)]; omega
        have w8 : (if (n : Int) < ((at' + cut : Nat) : Int) then (n : Int) else ((at' + cut : Nat) : Int)) = ((min (at' + cut) n : Nat) : Int) := by split <;> omega
        obtain ⟨m, hm⟩ : ∃ m, min (at' + cut) n = m := ⟨_, rfl⟩
        have hml : m ≤ n := by omega
        rw [hm] at w8
        have s1 := sub_size (o_text x) 0 at'
        have s2 := sub_size (o_text x) m n
        obtain ⟨O, hO⟩ : ∃ O, o_cat (o_cat (o_sub (o_text x) 0 at') p) (o_sub (o_text x) m n) = O := ⟨_, rfl⟩
        have hOs : O.size ≤ 4000 := by rw [← hO, cat_size, cat_size]; omega
        have zO := qz_sz O
        rcases qe_cases O hOs with ⟨c1, c2⟩ | ⟨c1, c2⟩
        · refine ⟨rfl, _, _, _, _, run8c s t xs ys p, booE ?_, ?_⟩
          · simp only [rt_eq, e12, e0, ex, hn, hA, w1, w2, w3, w4, w5, w6, w7, w8, tnc, hO, c2]
            exact seq_true rfl
          · simp only [AllP, rt_eq, okz_t, e12, e0, ex, ey, hn, hA, w1, w2, w3, w4, w5, w6, w7, w8, tnc, hO, hd6, q1, q2, htx, c1, valid_e, words_e, cat_size]
            and_intros
            all_goals first
              | exact trivial
              | exact bx
              | exact by'
              | exact hx
              | exact hy
              | omega
              | exact sz_mono zO (by unfold big; decide)
              | exact ln_sz (sz_mono zO (by unfold big; decide))
              | exact nd rfl
              | exact decide_eq_true (by omega)
              | rfl
        · have hne : o_seq O (o_text x) = false := seq_false fun e => by rw [e, q1] at c1; cases c1
          refine ⟨rfl, _, _, _, _, run8b s t xs ys p, booE ?_, ?_⟩
          · simp only [rt_eq, ex, hn, hA, w1, w2, w3, w4, w5, w6, w7, w8, tnc, hO, c2]; rfl
          · simp only [AllP, rt_eq, okz_t, e12, e0, ex, ey, hn, hA, w1, w2, w3, w4, w5, w6, w7, w8, tnc, hO, hd6, q1, q2, htx, c1, c2, hne, len0, cat_size]
            and_intros
            all_goals first
              | exact trivial
              | exact bx
              | exact by'
              | exact hx
              | exact hy
              | omega
              | exact nd rfl
              | exact decide_eq_true (by omega)
              | rfl
      · have hdl : decide (0 < ((ys.length : Nat) : Int)) = false := decide_eq_false (by omega)
        have w7 : IntKind.wrap .i64 ((0 : Int) + 0) = 0 := wi64 _ (by decide) (by decide)
        have w8 : (if (n : Int) < 0 then (n : Int) else 0) = 0 := if_neg (by omega)
        have s1 := sub_size (o_text x) 0 0
        have s2 := sub_size (o_text x) 0 n
        obtain ⟨O, hO⟩ : ∃ O, o_cat (o_cat (o_sub (o_text x) 0 0) p) (o_sub (o_text x) 0 n) = O := ⟨_, rfl⟩
        have hOs : O.size ≤ 4000 := by rw [← hO, cat_size, cat_size]; omega
        have zO := qz_sz O
        rcases qe_cases O hOs with ⟨c1, c2⟩ | ⟨c1, c2⟩
        · refine ⟨rfl, _, _, _, _, run8e s t xs ys p, booE ?_, ?_⟩
          · simp only [rt_eq, e12, e0, ex, hn, w7, w8, hO, c2]
            exact seq_true rfl
          · simp only [AllP, rt_eq, okz_t, e12, e0, ex, ey, hn, w7, w8, hO, hd6, hdl, q1, q2, htx, c1, valid_e, words_e, cat_size]
            and_intros
            all_goals first
              | exact trivial
              | exact bx
              | exact by'
              | exact hx
              | exact hy
              | omega
              | exact sz_mono zO (by unfold big; decide)
              | exact ln_sz (sz_mono zO (by unfold big; decide))
              | exact nd rfl
              | exact decide_eq_true (by omega)
              | rfl
        · have hne : o_seq O (o_text x) = false := seq_false fun e => by rw [e, q1] at c1; cases c1
          refine ⟨rfl, _, _, _, _, run8d s t xs ys p, booE ?_, ?_⟩
          · simp only [rt_eq, e0, ex, hn, w7, w8, hO, c2]; rfl
          · simp only [AllP, rt_eq, okz_t, e12, e0, ex, ey, hn, w7, w8, hO, hd6, hdl, q1, q2, htx, c1, c2, hne, len0, cat_size]
            and_intros
            all_goals first
              | exact trivial
              | exact bx
              | exact by'
              | exact hx
              | exact hy
              | omega
              | exact nd rfl
              | exact decide_eq_true (by omega)
              | rfl
  · cases hsp

end Go.Proofs.YtkfdnpbpebmhaaaGreatDoor.Spec
namespace Go.Proofs.YtkfdnpbpebmhaaaGreatDoor.integerTexts
open Go Go.RowKit Go.ChangeShapes Go.WideShapes Go.ChangeAt Sx Num Spec Row
open Go.ChangeMaps (open_string shut_string)

theorem witness_row (os : Os) {H : Type} (enc : TypeId × Value → H) :
    (OpenSpec.ofChange Rows.integerTextsSpec).preRow enc Tryz.prog Tryz.f8 Rows.integerTextsRow.domain false Rows.integerTextsRow.laid ((laidWorld os).forCall (fun _ _ => 0) ⟨#[], #[.agg #[.bool false, .slice none 0 0], .agg #[.bool false, .slice none 0 0], .string ⟨#[]⟩], []⟩).memory #[.agg #[.bool false, .slice none 0 0], .agg #[.bool false, .slice none 0 0], .string ⟨#[]⟩] := by
  have hw : (DataW.whole enc Tryz.prog ((laidWorld os).forCall (fun _ _ => 0) ⟨#[], #[.agg #[.bool false, .slice none 0 0], .agg #[.bool false, .slice none 0 0], .string ⟨#[]⟩], []⟩).memory Tryz.f8.params.toList (OpenSpec.ofChange Rows.integerTextsSpec).vars false (#[.agg #[.bool false, .slice none 0 0], .agg #[.bool false, .slice none 0 0], .string ⟨#[]⟩] : Array Value).toList 8).map (fun x => (x.1, x.2.1)) =
      some ([.agg [.lit (.bool false), .nil], .agg [.lit (.bool false), .nil], .lit (.string [])], []) := by kernel_rfl
  obtain ⟨⟨x1, x2, x3⟩, hx, hx1⟩ := Option.map_eq_some_iff.1 hw
  simp only [Prod.mk.injEq] at hx1
  obtain ⟨rfl, rfl⟩ := hx1
  exact OpenSpec.preRow_of_cond 8 hx (by kernel_rfl) (fun k hk => by cases hk) (by kernel_rfl) (laid_met os _)
set_option maxRecDepth 100000 in
theorem contract (H : Type) (enc : TypeId × Value → H) (W : World) (base : Nat) (args : Array Value) (ds gs : List (DataW H)) (before : List MemPlace)
    (hval0 : ∀ (j : Nat) t v, Tryz.f8.params[j]? = some t → args[j]? = some v → Value.okWide Tryz.prog W .any base t v)
    (hW : DataW.Whole enc Tryz.prog Tryz.f8.params.toList Rows.integerTextsSpec.vars false W args.toList ds gs before) :
    Calls Tryz.prog 8 args W fun e W' => ∃ v, e = .returned v ∧ Rows.integerTextsSpec.post enc Tryz.prog Tryz.f8 false true false false W args v W' := by
  have hval : ∀ (j : Nat) t v, Tryz.f8.params[j]? = some t → args[j]? = some v → Value.okWide Tryz.prog W .any base t v := hval0
  have hW' := hW
  obtain ⟨p, q, hA0, hV, rfl, hfz, hnd⟩ := hW
  have hA : DataW.TrodAll enc Tryz.prog W 0 (fun _ => true) true Tryz.f8.params.toList args.toList ds p := hA0
  rw [Tryz.params8] at hA hval
  obtain ⟨v0, vs0, d0, ds0, p0, q0, hargs, rfl, rfl, h0, r0⟩ := trodAll_cons hA
  obtain ⟨v1, vs1, d1, ds1, p1, q1, rfl, rfl, rfl, h1, r1⟩ := trodAll_cons r0
  obtain ⟨v2, vs2, d2, ds2, p2, q2, rfl, rfl, rfl, h2, r2⟩ := trodAll_cons r1
  obtain ⟨rfl, rfl, rfl⟩ := trodAll_nil r2
  obtain rfl : args = #[v0, v1, v2] := by cases args; simp_all
  obtain ⟨rfl, rfl⟩ := trodVars_none hV
  obtain ⟨s0, xs0, hx0, g0⟩ := open_raw Tryz.underlying25 (by kernel_rfl) rfl rfl (by kernel_rfl) (by kernel_rfl) (by kernel_rfl) (by kernel_rfl) Tryz.underlying27 (by kernel_rfl) (hval 0 25 v0 rfl rfl) h0
  have lt0 : ∀ x ∈ p0, x.block < W.heap.size := by obtain ⟨m, hm⟩ := h0; exact DataW.trod_lt m _ _ _ hm
  obtain ⟨s1, xs1, hx1, g1⟩ := open_raw Tryz.underlying25 (by kernel_rfl) rfl rfl (by kernel_rfl) (by kernel_rfl) (by kernel_rfl) (by kernel_rfl) Tryz.underlying27 (by kernel_rfl) (hval 1 25 v1 rfl rfl) h1
  have lt1 : ∀ x ∈ p1, x.block < W.heap.size := by obtain ⟨m, hm⟩ := h1; exact DataW.trod_lt m _ _ _ hm
  obtain ⟨a2, rfl, rfl, rfl, y2⟩ := open_string Tryz.underlying9 (hval 2 9 v2 rfl rfl) h2
  clear hA0 hval0
  refine (con8.calls [.agg [.v (.bool s0), .row .u32 xs0], .agg [.v (.bool s1), .row .u32 xs1], sStr a2] _ _ rfl (allP_iff.1 ⟨hx0, hx1, (by unfold maxLen at y2; omega), trivial⟩) (fun _ => False) (fun _ => 0) W #[v0, v1, .string a2] (fun _ h => h.elim) ⟨g0, g1, rfl, trivial⟩).mono fun e W' ⟨u, he, _, hu, bel⟩ => ?_
  have hu : u = .bool true := hu
  subst hu
  subst he
  exact ⟨_, rfl, _, _, _, [], _, [], hW', trodAll_mk1 (shut_bool Tryz.underlying4 _), (trodAll_cons_mk (Below.trod laidOut (by kernel_rfl) (of_decide_eq_true (by kernel_rfl)) h0 bel lt0) (trodAll_cons_mk (Below.trod laidOut (by kernel_rfl) (of_decide_eq_true (by kernel_rfl)) h1 bel lt1) (trodAll_cons_mk (shut_string Tryz.underlying9 y2) trodAll_mk0))), rfl, bel.frame _, fun h => by cases h⟩
set_option maxRecDepth 100000 in
set_option maxHeartbeats 2000000 in
theorem lifted (os : Os) (started : os.Started) (H : Type) (enc : TypeId × Value → H) (F : Stop.Interp) :
    ReturnsInHanded {} Tryz.checked os 8 .any ((OpenSpec.ofChange Rows.integerTextsSpec).preRow enc Tryz.prog Tryz.f8 Rows.integerTextsRow.domain false Rows.integerTextsRow.laid) (((OpenSpec.ofChange Rows.integerTextsSpec).at F).post enc Tryz.prog Tryz.f8 false true false false) := by
  refine returnsInHanded_of_row (C := Tryz.checked) (s := OpenSpec.ofChange Rows.integerTextsSpec) own started (by kernel_rfl) Tryz.func8
    (witness_row_atRef (enc := enc) (C := Tryz.checked) false (laidWorld os) #[.agg #[.bool false, .slice none 0 0], .agg #[.bool false, .slice none 0 0], .string ⟨#[]⟩] rfl (by kernel_rfl) (by kernel_rfl) (by kernel_rfl) (witness_row os enc)) ?_
  intro W base args ds gs before hval hW _ _ _ _ _ _
  exact contract H enc W base args ds gs before hval hW
theorem said : Rows.IntegerTextsSaid :=
  OpenClaim.holds_of_cond 8 Tryz.f8 rfl rfl rfl rfl rfl rfl rfl ⟨rfl, rfl, rfl, rfl, rfl⟩ rfl rfl rfl rfl rfl (by kernel_rfl) Tryz.func8 (by kernel_rfl)
    (of_decide_eq_true (by kernel_rfl)) (by unfold Func.isWrapper; first | (rw [if_pos (by decide +kernel)]; kernel_rfl) | (rw [if_neg (by decide +kernel)]; exact ⟨rfl, rfl⟩))
    (fun os started H enc _ F => by rw [OpenClaim.pre_eq_preRow]; exact lifted os started H enc F)
theorem plain (f : FuncId) (fn : Func) (hf : Tryz.pinned.checked.prog.funcNamed Rows.integerTextsRow.func = some f) (hfn : Tryz.pinned.checked.prog.funcs[f]? = some fn) :
    true = Tryz.pinned.checked.prog.looks [] ∧ ∀ (j : Nat) t, fn.params[j]? = some t → Tryz.pinned.checked.prog.wantsStandIn t = false := by
  obtain rfl : f = 8 := Option.some.inj ((show Tryz.prog.funcNamed Rows.integerTextsRow.func = some 8 by kernel_rfl).symm.trans hf) |>.symm
  obtain rfl : fn = Tryz.f8 := (Option.some.inj (Tryz.func8.symm.trans hfn)).symm
  refine ⟨by kernel_rfl, fun j t ht => ?_⟩
  rw [Tryz.params8] at ht
  have hm := Array.mem_of_getElem? ht
  simp only [List.mem_toArray, List.mem_cons, List.not_mem_nil, or_false] at hm
  rcases hm with rfl | rfl | rfl
  · exact (show Tryz.prog.wantsStandIn 25 = false by kernel_rfl)
  · exact (show Tryz.prog.wantsStandIn 25 = false by kernel_rfl)
  · exact (show Tryz.prog.wantsStandIn 9 = false by kernel_rfl)
theorem card : Rows.IntegerTextsCardSaid :=
  Claim7.holds_tied_plain_at .later [] _ _ _ _ said (fun _ h => by cases h) (by kernel_rfl) (fun _ h => by cases h) integerTexts_row_tie rfl ⟨rfl, rfl⟩ (by kernel_rfl) rfl plain (by kernel_rfl)
end Go.Proofs.YtkfdnpbpebmhaaaGreatDoor.integerTexts
namespace Go.Proofs.YtkfdnpbpebmhaaaGreatDoor
/-- The law IntegerTexts: its card. -/
theorem integerTexts_card : Rows.IntegerTextsCardSaid := integerTexts.card
#print axioms integerTexts_card
end Go.Proofs.YtkfdnpbpebmhaaaGreatDoor
