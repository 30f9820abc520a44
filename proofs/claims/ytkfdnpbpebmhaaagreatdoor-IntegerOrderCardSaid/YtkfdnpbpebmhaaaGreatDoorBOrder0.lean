/- The law IntegerOrder: the row and its card. For every input the call answers true, and what was handed in reads as before. Conditions: the listed package-level variables start as the program's text lays them. In this text, besides: Runs: the law of the order; Laws: order; The law IntegerOrder: the row and its card. For every input the call answers true, and what was handed in reads as before. Conditions: the listed package-level variables start as the program's text lays them. -/
import Derived.Test.YtkfdnpbpebmhaaaGreatDoorProg
import Derived.Test.YtkfdnpbpebmhaaaGreatDoorZ0
import Derived.Test.YtkfdnpbpebmhaaaGreatDoorZ1
import Derived.Test.YtkfdnpbpebmhaaaGreatDoorZ2
import Derived.Test.YtkfdnpbpebmhaaaGreatDoorZ3
import Derived.Test.YtkfdnpbpebmhaaaGreatDoorZ4
import Derived.Test.YtkfdnpbpebmhaaaGreatDoorZ5
import Derived.Test.YtkfdnpbpebmhaaaGreatDoorZ6
section
set_option maxRecDepth 100000
namespace Go.Proofs.YtkfdnpbpebmhaaaGreatDoor.Spec
open Go Go.RowKit Sx Num

theorem run5a (s t u : Bool) (xs ys zs : List Int) : fnEx Tryz.prog (lk E23) L0 (G1 [14, 26, 29, 30, 37, 38, 47, 48, 55, 58, 63, 64, 69]) 60 Tryz.f5 [rawA s xs, rawA t ys, rawA u zs] = (let q5 := o_made s xs (Int.toNat (8 : Int)); let q6 := o_made u zs (Int.toNat (8 : Int)); let q7 := o_made t ys (Int.toNat (8 : Int)); let q3 := o_rt q5 - o_rt q7; let q0 := decide (sgnI (o_rt q5 + o_rt q6 - (o_rt q7 + o_rt q6)) = sgnI q3) = true; let q1 := decide (sgnI (o_rt q5 * o_rt q6 - o_rt q7 * o_rt q6) = IntKind.wrap .i64 (sgnI q3 * sgnI (o_rt q6))) = true; let q8 := decide ((1 : Int) < sgnI q3) = false; let q9 := o_rt (o_made s xs (8 : Nat)) - o_rt (o_made t ys (8 : Nat)); let q2 := (Bool.not (decide (sgnI (o_rt (o_made t ys (8 : Nat)) - o_rt (o_made s xs (8 : Nat))) = IntKind.wrap .i64 ((0 : Int) - sgnI q9)))) = false; let q4 := (Bool.not (decide (sgnI (-o_rt (o_made s xs (8 : Nat)) - -o_rt (o_made t ys (8 : Nat))) = IntKind.wrap .i64 ((0 : Int) - sgnI q9)))) = false; let q10 := decide (sgnI q3 < (0 : Int)) = false; let q11 := (0 : Int) ≤ (8 : Int) ∧ (8 : Int) ≤ (1000000 : Int); let q12 := decide (sgnI q3 < (-1 : Int)) = false; some (AV.s (SV.one (LV.v (Value.bool (decide (sgnI (o_rt q5 - (0 : Int)) = sgnI (o_rt q5)))))), [false = false, Words xs, q11, Words ys, q11, Words zs, q11, o_okz q5, o_okz q7, o_sz big (o_rt q5), o_sz big (o_rt q7), q12, q12, q12, q8, q8, q8, o_okz q7, o_okz q5, o_sz big (o_rt q7), o_sz big (o_rt q5), q8, q8, q8, q8, q2, q2, o_okz q5, o_sz big (o_rt q5), q2, q2, o_okz q7, o_sz big (o_rt q7), q2, o_sz big (-o_rt q5), o_sz big (-o_rt q7), q2, q2, q2, q2, q4, q4, q4, o_okz q5, o_okz q7, o_sz big (o_rt q5), o_sz big (o_rt q7), q4, o_sz big q3, q4, q4, q4, (Bool.not (decide (sgnI q9 = sgnI q9))) = false, q10, q10, q10, q10, q10, false = false, false = false, false = false, false = false, false = false, false = false, true = true, true = true, true = true, o_okz q5, o_okz q6, o_sz big (o_rt q5), o_sz big (o_rt q6), true = true, true = true, true = true, o_okz q7, o_okz q6, o_sz big (o_rt q7), o_sz big (o_rt q6), true = true, o_sz big (o_rt q5 + o_rt q6), o_sz big (o_rt q7 + o_rt q6), true = true, true = true, true = true, q0, q0, q0, o_okz q5, o_okz q6, o_sz big (o_rt q5), o_sz big (o_rt q6), q0, q0, q0, o_okz q7, o_okz q6, o_sz big (o_rt q7), o_sz big (o_rt q6), q0, o_sz big (o_rt q5 * o_rt q6), o_sz big (o_rt q7 * o_rt q6), q0, q0, q0, o_okz q6, o_sz big (o_rt q6), q0, q0, q0, q1, q1, (-9223372036854775808 : Int) ≤ (0 : Int) ∧ (0 : Int) < (9223372036854775808 : Int), q1, o_okz q5, o_sz big (o_rt q5), o_sz big (0 : Int), q1, q1, o_okz q5, o_sz big (o_rt q5), q1, q1])) := by kernel_rfl
theorem run5b (s t u : Bool) (xs ys zs : List Int) : fnEx Tryz.prog (lk E23) L0 (G1 [14, 26, 29, 30, 37, 38, 47, 48, 55, 63, 64, 69]) 60 Tryz.f5 [rawA s xs, rawA t ys, rawA u zs] = (let q5 := o_made u zs (Int.toNat (8 : Int)); let q6 := o_made t ys (Int.toNat (8 : Int)); let q7 := o_made s xs (Int.toNat (8 : Int)); let q3 := o_rt q7 - o_rt q6; let q0 := decide (sgnI (o_rt q7 + o_rt q5 - (o_rt q6 + o_rt q5)) = sgnI q3) = true; let q1 := decide (sgnI (o_rt q7 * o_rt q5 - o_rt q6 * o_rt q5) = IntKind.wrap .i64 (sgnI q3 * sgnI (o_rt q5))) = true; let q8 := decide ((1 : Int) < sgnI q3) = false; let q9 := decide (sgnI (o_rt q6 - o_rt q5) ≤ (0 : Int)) = false; let q10 := o_rt (o_made s xs (8 : Nat)) - o_rt (o_made t ys (8 : Nat)); let q2 := (Bool.not (decide (sgnI (o_rt (o_made t ys (8 : Nat)) - o_rt (o_made s xs (8 : Nat))) = IntKind.wrap .i64 ((0 : Int) - sgnI q10)))) = false; let q4 := (Bool.not (decide (sgnI (-o_rt (o_made s xs (8 : Nat)) - -o_rt (o_made t ys (8 : Nat))) = IntKind.wrap .i64 ((0 : Int) - sgnI q10)))) = false; let q11 := decide (sgnI q3 < (0 : Int)) = true; let q12 := (0 : Int) ≤ (8 : Int) ∧ (8 : Int) ≤ (1000000 : Int); let q13 := decide (sgnI q3 < (-1 : Int)) = false; some (AV.s (SV.one (LV.v (Value.bool (decide (sgnI (o_rt q7 - (0 : Int)) = sgnI (o_rt q7)))))), [false = false, Words xs, q12, Words ys, q12, Words zs, q12, o_okz q7, o_okz q6, o_sz big (o_rt q7), o_sz big (o_rt q6), q13, q13, q13, q8, q8, q8, o_okz q6, o_okz q7, o_sz big (o_rt q6), o_sz big (o_rt q7), q8, q8, q8, q8, q2, q2, o_okz q7, o_sz big (o_rt q7), q2, q2, o_okz q6, o_sz big (o_rt q6), q2, o_sz big (-o_rt q7), o_sz big (-o_rt q6), q2, q2, q2, q2, q4, q4, q4, o_okz q7, o_okz q6, o_sz big (o_rt q7), o_sz big (o_rt q6), q4, o_sz big q3, q4, q4, q4, (Bool.not (decide (sgnI q10 = sgnI q10))) = false, q11, q11, q11, o_okz q6, o_okz q5, o_sz big (o_rt q6), o_sz big (o_rt q5), q11, q11, q9, q9, q9, q9, q9, false = false, true = true, true = true, true = true, o_okz q7, o_okz q5, o_sz big (o_rt q7), o_sz big (o_rt q5), true = true, true = true, true = true, o_okz q6, o_okz q5, o_sz big (o_rt q6), o_sz big (o_rt q5), true = true, o_sz big (o_rt q7 + o_rt q5), o_sz big (o_rt q6 + o_rt q5), true = true, true = true, true = true, q0, q0, q0, o_okz q7, o_okz q5, o_sz big (o_rt q7), o_sz big (o_rt q5), q0, q0, q0, o_okz q6, o_okz q5, o_sz big (o_rt q6), o_sz big (o_rt q5), q0, o_sz big (o_rt q7 * o_rt q5), o_sz big (o_rt q6 * o_rt q5), q0, q0, q0, o_okz q5, o_sz big (o_rt q5), q0, q0, q0, q1, q1, (-9223372036854775808 : Int) ≤ (0 : Int) ∧ (0 : Int) < (9223372036854775808 : Int), q1, o_okz q7, o_sz big (o_rt q7), o_sz big (0 : Int), q1, q1, o_okz q7, o_sz big (o_rt q7), q1, q1])) := by kernel_rfl
theorem run5c (s t u : Bool) (xs ys zs : List Int) : fnEx Tryz.prog (lk E23) L0 (G1 [14, 26, 29, 30, 37, 38, 47, 48, 55, 69]) 60 Tryz.f5 [rawA s xs, rawA t ys, rawA u zs] = (let q5 := o_made u zs (Int.toNat (8 : Int)); let q6 := o_made s xs (Int.toNat (8 : Int)); let q7 := o_made t ys (Int.toNat (8 : Int)); let q3 := o_rt q6 - o_rt q7; let q0 := decide (sgnI (o_rt q6 + o_rt q5 - (o_rt q7 + o_rt q5)) = sgnI q3) = true; let q1 := decide (sgnI (o_rt q6 * o_rt q5 - o_rt q7 * o_rt q5) = IntKind.wrap .i64 (sgnI q3 * sgnI (o_rt q5))) = true; let q8 := decide ((1 : Int) < sgnI q3) = false; let q9 := decide (sgnI (o_rt q7 - o_rt q5) ≤ (0 : Int)) = true; let q10 := o_rt (o_made s xs (8 : Nat)) - o_rt (o_made t ys (8 : Nat)); let q2 := (Bool.not (decide (sgnI (o_rt (o_made t ys (8 : Nat)) - o_rt (o_made s xs (8 : Nat))) = IntKind.wrap .i64 ((0 : Int) - sgnI q10)))) = false; let q4 := (Bool.not (decide (sgnI (-o_rt (o_made s xs (8 : Nat)) - -o_rt (o_made t ys (8 : Nat))) = IntKind.wrap .i64 ((0 : Int) - sgnI q10)))) = false; let q11 := decide (sgnI q3 < (0 : Int)) = true; let q12 := (0 : Int) ≤ (8 : Int) ∧ (8 : Int) ≤ (1000000 : Int); let q13 := decide (sgnI q3 < (-1 : Int)) = false; some (AV.s (SV.one (LV.v (Value.bool (decide (sgnI (o_rt q6 - (0 : Int)) = sgnI (o_rt q6)))))), [false = false, Words xs, q12, Words ys, q12, Words zs, q12, o_okz q6, o_okz q7, o_sz big (o_rt q6), o_sz big (o_rt q7), q13, q13, q13, q8, q8, q8, o_okz q7, o_okz q6, o_sz big (o_rt q7), o_sz big (o_rt q6), q8, q8, q8, q8, q2, q2, o_okz q6, o_sz big (o_rt q6), q2, q2, o_okz q7, o_sz big (o_rt q7), q2, o_sz big (-o_rt q6), o_sz big (-o_rt q7), q2, q2, q2, q2, q4, q4, q4, o_okz q6, o_okz q7, o_sz big (o_rt q6), o_sz big (o_rt q7), q4, o_sz big q3, q4, q4, q4, (Bool.not (decide (sgnI q10 = sgnI q10))) = false, q11, q11, q11, o_okz q7, o_okz q5, o_sz big (o_rt q7), o_sz big (o_rt q5), q11, q11, q9, q9, q9, o_okz q6, o_okz q5, o_sz big (o_rt q6), o_sz big (o_rt q5), q9, q9, (Bool.not (decide (sgnI (o_rt (o_made s xs (8 : Nat)) - o_rt (o_made u zs (8 : Nat))) = (-1 : Int)))) = false, true = true, true = true, true = true, o_okz q6, o_okz q5, o_sz big (o_rt q6), o_sz big (o_rt q5), true = true, true = true, true = true, o_okz q7, o_okz q5, o_sz big (o_rt q7), o_sz big (o_rt q5), true = true, o_sz big (o_rt q6 + o_rt q5), o_sz big (o_rt q7 + o_rt q5), true = true, true = true, true = true, q0, q0, q0, o_okz q6, o_okz q5, o_sz big (o_rt q6), o_sz big (o_rt q5), q0, q0, q0, o_okz q7, o_okz q5, o_sz big (o_rt q7), o_sz big (o_rt q5), q0, o_sz big (o_rt q6 * o_rt q5), o_sz big (o_rt q7 * o_rt q5), q0, q0, q0, o_okz q5, o_sz big (o_rt q5), q0, q0, q0, q1, q1, (-9223372036854775808 : Int) ≤ (0 : Int) ∧ (0 : Int) < (9223372036854775808 : Int), q1, o_okz q6, o_sz big (o_rt q6), o_sz big (0 : Int), q1, q1, o_okz q6, o_sz big (o_rt q6), q1, q1])) := by kernel_rfl
end Go.Proofs.YtkfdnpbpebmhaaaGreatDoor.Spec
end
namespace Go.Proofs.YtkfdnpbpebmhaaaGreatDoor.Spec
open Go Go.RowKit Sx Num

theorem sgn_bd (a : Int) : -1 ≤ sgnI a ∧ sgnI a ≤ 1 := by
  unfold sgnI
  split
  · omega
  · split <;> omega
theorem sgn_pos {a : Int} (h : 0 < a) : sgnI a = 1 := by unfold sgnI; rw [if_neg (by omega), if_neg (by omega)]
theorem sgn_ng {a : Int} (h : a < 0) : sgnI a = -1 := by unfold sgnI; rw [if_pos h]
theorem sgn_neg (a : Int) : sgnI (-a) = -sgnI a := by
  rcases Int.lt_trichotomy a 0 with h | h | h
  · rw [sgn_ng h, sgn_pos (by omega)]; rfl
  · subst h; rfl
  · rw [sgn_pos h, sgn_ng (by omega)]
theorem sgn_mul (a b : Int) : sgnI (a * b) = sgnI a * sgnI b := by
  rcases Int.lt_trichotomy a 0 with h | h | h
  · rcases Int.lt_trichotomy b 0 with k | k | k
    · rw [sgn_ng h, sgn_ng k, sgn_pos (Int.mul_pos_of_neg_of_neg h k)]; rfl
    · subst k; rw [Int.mul_zero]; show (0 : Int) = sgnI a * 0; rw [Int.mul_zero]
    · rw [sgn_ng h, sgn_pos k, sgn_ng (Int.mul_neg_of_neg_of_pos h k)]; rfl
  · subst h; rw [Int.zero_mul]; show (0 : Int) = 0 * sgnI b; rw [Int.zero_mul]
  · rcases Int.lt_trichotomy b 0 with k | k | k
    · rw [sgn_pos h, sgn_ng k, sgn_ng (Int.mul_neg_of_pos_of_neg h k)]; rfl
    · subst k; rw [Int.mul_zero]; show (0 : Int) = sgnI a * 0; rw [Int.mul_zero]
    · rw [sgn_pos h, sgn_pos k, sgn_pos (Int.mul_pos h k)]; rfl
theorem sgn_lt {a : Int} : sgnI a < 0 ↔ a < 0 := by
  unfold sgnI
  split
  · omega
  · split <;> omega
theorem e8o : Int.toNat 8 = 8 := rfl
set_option maxRecDepth 100000 in
theorem con5 : Con Tryz.prog 5 spLaw3 := by
  refine con_flat (l := E23) (fn := Tryz.f5) hmix E23ok (by kernel_rfl) (by kernel_rfl) (fun _ => by kernel_rfl) ?_
  intro avs r ps hsp hps
  unfold spLaw3 at hsp
  split at hsp
  · rename_i s xs t ys u zs
    simp only [Option.some.injEq, Prod.mk.injEq] at hsp
    obtain ⟨rfl, rfl⟩ := hsp
    obtain ⟨hx, hy, hz, _⟩ := hps
    have sx := made_sz s hx 8
    have sy := made_sz t hy 8
    have sz := made_sz u hz 8
    have c0 : o_sz 2 0 := szb (by decide) (by decide)
    obtain ⟨x, ex⟩ : ∃ x, o_made s xs 8 = x := ⟨_, rfl⟩
    obtain ⟨y, ey⟩ : ∃ y, o_made t ys 8 = y := ⟨_, rfl⟩
    obtain ⟨z, ez⟩ : ∃ z, o_made u zs 8 = z := ⟨_, rfl⟩
    rw [ex] at sx
    rw [ey] at sy
    rw [ez] at sz
    have b1 := sgn_bd (x - y)
    have b2 := sgn_bd z
    have b3 := sgn_bd ((x - y) * z)
    have w1 : IntKind.wrap .i64 (0 - sgnI (x - y)) = sgnI (y - x) := by
      rw [wi64 _ (by omega) (by omega), show y - x = -(x - y) by omega, sgn_neg]; omega
    have n1 : sgnI (-x - -y) = sgnI (y - x) := congrArg sgnI (by omega)
    have a1 : sgnI (x + z - (y + z)) = sgnI (x - y) := congrArg sgnI (by omega)
    have m1 : sgnI (x * z - y * z) = sgnI ((x - y) * z) := congrArg sgnI (Int.sub_mul x y z).symm
    have w2 : IntKind.wrap .i64 (sgnI (x - y) * sgnI z) = sgnI ((x - y) * z) := by
      rw [← sgn_mul, wi64 _ (by omega) (by omega)]
    by_cases h1 : sgnI (x - y) < 0
    · by_cases h2 : sgnI (y - z) ≤ 0
      · have h3 : sgnI (x - z) = -1 := by
          have k1 := sgn_lt.1 h1
          have k2 := (sgn_le _).1 h2
          exact sgn_ng (by omega)
        refine ⟨rfl, _, _, _, _, run5c s t u xs ys zs, booE ?_, ?_⟩
        · simp only [rt_eq, e8o, ex, Int.sub_zero, decide_true]
        · simp only [AllP, rt_eq, okz_t, e8o, ex, ey, ez, w1, n1, a1, m1, w2, h3, Int.sub_zero]
          and_intros
          all_goals first
            | exact trivial
            | exact sz_mono (n := big) (by repeat first | exact sx | exact sy | exact sz | exact c0 | apply sz_add | apply sz_sub | apply sz_mul | apply sz_neg) (by unfold big; decide)
            | exact nd rfl
            | exact decide_eq_true rfl
            | exact hx
            | exact hy
            | exact hz
            | omega
            | exact decide_eq_true (by omega)
            | exact decide_eq_false (by omega)
            | rfl
      · refine ⟨rfl, _, _, _, _, run5b s t u xs ys zs, booE ?_, ?_⟩
        · simp only [rt_eq, e8o, ex, Int.sub_zero, decide_true]
        · simp only [AllP, rt_eq, okz_t, e8o, ex, ey, ez, w1, n1, a1, m1, w2, Int.sub_zero]
          and_intros
          all_goals first
            | exact trivial
            | exact sz_mono (n := big) (by repeat first | exact sx | exact sy | exact sz | exact c0 | apply sz_add | apply sz_sub | apply sz_mul | apply sz_neg) (by unfold big; decide)
            | exact nd rfl
            | exact decide_eq_true rfl
            | exact hx
            | exact hy
            | exact hz
            | omega
            | exact decide_eq_true (by omega)
            | exact decide_eq_false (by omega)
            | rfl
    · refine ⟨rfl, _, _, _, _, run5a s t u xs ys zs, booE ?_, ?_⟩
      · simp only [rt_eq, e8o, ex, Int.sub_zero, decide_true]
      · simp only [AllP, rt_eq, okz_t, e8o, ex, ey, ez, w1, n1, a1, m1, w2, Int.sub_zero]
        and_intros
        all_goals first
          | exact trivial
          | exact sz_mono (n := big) (by repeat first | exact sx | exact sy | exact sz | exact c0 | apply sz_add | apply sz_sub | apply sz_mul | apply sz_neg) (by unfold big; decide)
          | exact nd rfl
          | exact decide_eq_true rfl
          | exact hx
          | exact hy
          | exact hz
          | omega
          | exact decide_eq_true (by omega)
          | exact decide_eq_false (by omega)
          | rfl
  · cases hsp

end Go.Proofs.YtkfdnpbpebmhaaaGreatDoor.Spec
namespace Go.Proofs.YtkfdnpbpebmhaaaGreatDoor.integerOrder
open Go Go.RowKit Go.ChangeShapes Go.WideShapes Go.ChangeAt Sx Num Spec Row
open Go.ChangeMaps (open_string shut_string)

theorem witness_row (os : Os) {H : Type} (enc : TypeId × Value → H) :
    (OpenSpec.ofChange Rows.integerOrderSpec).preRow enc Tryz.prog Tryz.f5 Rows.integerOrderRow.domain false Rows.integerOrderRow.laid ((laidWorld os).forCall (fun _ _ => 0) ⟨#[], #[.agg #[.bool false, .slice none 0 0], .agg #[.bool false, .slice none 0 0], .agg #[.bool false, .slice none 0 0]], []⟩).memory #[.agg #[.bool false, .slice none 0 0], .agg #[.bool false, .slice none 0 0], .agg #[.bool false, .slice none 0 0]] := by
  have hw : (DataW.whole enc Tryz.prog ((laidWorld os).forCall (fun _ _ => 0) ⟨#[], #[.agg #[.bool false, .slice none 0 0], .agg #[.bool false, .slice none 0 0], .agg #[.bool false, .slice none 0 0]], []⟩).memory Tryz.f5.params.toList (OpenSpec.ofChange Rows.integerOrderSpec).vars false (#[.agg #[.bool false, .slice none 0 0], .agg #[.bool false, .slice none 0 0], .agg #[.bool false, .slice none 0 0]] : Array Value).toList 8).map (fun x => (x.1, x.2.1)) =
      some ([.agg [.lit (.bool false), .nil], .agg [.lit (.bool false), .nil], .agg [.lit (.bool false), .nil]], []) := by kernel_rfl
  obtain ⟨⟨x1, x2, x3⟩, hx, hx1⟩ := Option.map_eq_some_iff.1 hw
  simp only [Prod.mk.injEq] at hx1
  obtain ⟨rfl, rfl⟩ := hx1
  exact OpenSpec.preRow_of_cond 8 hx (by kernel_rfl) (fun k hk => by cases hk) (by kernel_rfl) (laid_met os _)
set_option maxRecDepth 100000 in
theorem contract (H : Type) (enc : TypeId × Value → H) (W : World) (base : Nat) (args : Array Value) (ds gs : List (DataW H)) (before : List MemPlace)
    (hval0 : ∀ (j : Nat) t v, Tryz.f5.params[j]? = some t → args[j]? = some v → Value.okWide Tryz.prog W .any base t v)
    (hW : DataW.Whole enc Tryz.prog Tryz.f5.params.toList Rows.integerOrderSpec.vars false W args.toList ds gs before) :
    Calls Tryz.prog 5 args W fun e W' => ∃ v, e = .returned v ∧ Rows.integerOrderSpec.post enc Tryz.prog Tryz.f5 false true false false W args v W' := by
  have hval : ∀ (j : Nat) t v, Tryz.f5.params[j]? = some t → args[j]? = some v → Value.okWide Tryz.prog W .any base t v := hval0
  have hW' := hW
  obtain ⟨p, q, hA0, hV, rfl, hfz, hnd⟩ := hW
  have hA : DataW.TrodAll enc Tryz.prog W 0 (fun _ => true) true Tryz.f5.params.toList args.toList ds p := hA0
  rw [Tryz.params5] at hA hval
  obtain ⟨v0, vs0, d0, ds0, p0, q0, hargs, rfl, rfl, h0, r0⟩ := trodAll_cons hA
  obtain ⟨v1, vs1, d1, ds1, p1, q1, rfl, rfl, rfl, h1, r1⟩ := trodAll_cons r0
  obtain ⟨v2, vs2, d2, ds2, p2, q2, rfl, rfl, rfl, h2, r2⟩ := trodAll_cons r1
  obtain ⟨rfl, rfl, rfl⟩ := trodAll_nil r2
  obtain rfl : args = #[v0, v1, v2] := by cases args; simp_all
  obtain ⟨rfl, rfl⟩ := trodVars_none hV
  obtain ⟨s0, xs0, hx0, g0⟩ := open_raw Tryz.underlying25 (by kernel_rfl) rfl rfl (by kernel_rfl) (by kernel_rfl) (by kernel_rfl) (by kernel_rfl) Tryz.underlying27 (by kernel_rfl) (hval 0 25 v0 rfl rfl) h0
  have lt0 : ∀ x ∈ p0, x.block < W.heap.size := by obtain ⟨m, hm⟩ := h0; exact DataW.trod_lt m _ _ _ hm
  obtain ⟨s1, xs1, hx1, g1⟩ := open_raw Tryz.underlying25 (by kernel_rfl) rfl rfl (by kernel_rfl) (by kernel_rfl) (by kernel_rfl) (by kernel_rfl) Tryz.underlying27 (by kernel_rfl) (hval 1 25 v1 rfl rfl) h1
  have lt1 : ∀ x ∈ p1, x.block < W.heap.size := by obtain ⟨m, hm⟩ := h1; exact DataW.trod_lt m _ _ _ hm
  obtain ⟨s2, xs2, hx2, g2⟩ := open_raw Tryz.underlying25 (by kernel_rfl) rfl rfl (by kernel_rfl) (by kernel_rfl) (by kernel_rfl) (by kernel_rfl) Tryz.underlying27 (by kernel_rfl) (hval 2 25 v2 rfl rfl) h2
  have lt2 : ∀ x ∈ p2, x.block < W.heap.size := by obtain ⟨m, hm⟩ := h2; exact DataW.trod_lt m _ _ _ hm
  clear hA0 hval0
  refine (con5.calls [.agg [.v (.bool s0), .row .u32 xs0], .agg [.v (.bool s1), .row .u32 xs1], .agg [.v (.bool s2), .row .u32 xs2]] _ _ rfl (allP_iff.1 ⟨hx0, hx1, hx2, trivial⟩) (fun _ => False) (fun _ => 0) W #[v0, v1, v2] (fun _ h => h.elim) ⟨g0, g1, g2, trivial⟩).mono fun e W' ⟨u, he, _, hu, bel⟩ => ?_
  have hu : u = .bool true := hu
  subst hu
  subst he
  exact ⟨_, rfl, _, _, _, [], _, [], hW', trodAll_mk1 (shut_bool Tryz.underlying4 _), (trodAll_cons_mk (Below.trod laidOut (by kernel_rfl) (of_decide_eq_true (by kernel_rfl)) h0 bel lt0) (trodAll_cons_mk (Below.trod laidOut (by kernel_rfl) (of_decide_eq_true (by kernel_rfl)) h1 bel lt1) (trodAll_cons_mk (Below.trod laidOut (by kernel_rfl) (of_decide_eq_true (by kernel_rfl)) h2 bel lt2) trodAll_mk0))), rfl, bel.frame _, fun h => by cases h⟩
set_option maxRecDepth 100000 in
set_option maxHeartbeats 2000000 in
theorem lifted (os : Os) (started : os.Started) (H : Type) (enc : TypeId × Value → H) (F : Stop.Interp) :
    ReturnsInHanded {} Tryz.checked os 5 .any ((OpenSpec.ofChange Rows.integerOrderSpec).preRow enc Tryz.prog Tryz.f5 Rows.integerOrderRow.domain false Rows.integerOrderRow.laid) (((OpenSpec.ofChange Rows.integerOrderSpec).at F).post enc Tryz.prog Tryz.f5 false true false false) := by
  refine returnsInHanded_of_row (C := Tryz.checked) (s := OpenSpec.ofChange Rows.integerOrderSpec) own started (by kernel_rfl) Tryz.func5
    (witness_row_atRef (enc := enc) (C := Tryz.checked) false (laidWorld os) #[.agg #[.bool false, .slice none 0 0], .agg #[.bool false, .slice none 0 0], .agg #[.bool false, .slice none 0 0]] rfl (by kernel_rfl) (by kernel_rfl) (by kernel_rfl) (witness_row os enc)) ?_
  intro W base args ds gs before hval hW _ _ _ _ _ _
  exact contract H enc W base args ds gs before hval hW
theorem said : Rows.IntegerOrderSaid :=
  OpenClaim.holds_of_cond 5 Tryz.f5 rfl rfl rfl rfl rfl rfl rfl ⟨rfl, rfl, rfl, rfl, rfl⟩ rfl rfl rfl rfl rfl (by kernel_rfl) Tryz.func5 (by kernel_rfl)
    (of_decide_eq_true (by kernel_rfl)) (by unfold Func.isWrapper; first | (rw [if_pos (by decide +kernel)]; kernel_rfl) | (rw [if_neg (by decide +kernel)]; exact ⟨rfl, rfl⟩))
    (fun os started H enc _ F => by rw [OpenClaim.pre_eq_preRow]; exact lifted os started H enc F)
theorem plain (f : FuncId) (fn : Func) (hf : Tryz.pinned.checked.prog.funcNamed Rows.integerOrderRow.func = some f) (hfn : Tryz.pinned.checked.prog.funcs[f]? = some fn) :
    true = Tryz.pinned.checked.prog.looks [] ∧ ∀ (j : Nat) t, fn.params[j]? = some t → Tryz.pinned.checked.prog.wantsStandIn t = false := by
  obtain rfl : f = 5 := Option.some.inj ((show Tryz.prog.funcNamed Rows.integerOrderRow.func = some 5 by kernel_rfl).symm.trans hf) |>.symm
  obtain rfl : fn = Tryz.f5 := (Option.some.inj (Tryz.func5.symm.trans hfn)).symm
  refine ⟨by kernel_rfl, fun j t ht => ?_⟩
  rw [Tryz.params5] at ht
  have hm := Array.mem_of_getElem? ht
  simp only [List.mem_toArray, List.mem_cons, List.not_mem_nil, or_false] at hm
  rcases hm with rfl | rfl | rfl
  · exact (show Tryz.prog.wantsStandIn 25 = false by kernel_rfl)
  · exact (show Tryz.prog.wantsStandIn 25 = false by kernel_rfl)
  · exact (show Tryz.prog.wantsStandIn 25 = false by kernel_rfl)
theorem card : Rows.IntegerOrderCardSaid :=
  Claim7.holds_tied_plain_at .later [] _ _ _ _ said (fun _ h => by cases h) (by kernel_rfl) (fun _ h => by cases h) integerOrder_row_tie rfl ⟨rfl, rfl⟩ (by kernel_rfl) rfl plain (by kernel_rfl)
end Go.Proofs.YtkfdnpbpebmhaaaGreatDoor.integerOrder
namespace Go.Proofs.YtkfdnpbpebmhaaaGreatDoor
/-- The law IntegerOrder: its card. -/
theorem integerOrder_card : Rows.IntegerOrderCardSaid := integerOrder.card
#print axioms integerOrder_card
end Go.Proofs.YtkfdnpbpebmhaaaGreatDoor
