/- The law IntegerCanonical: the row and its card. For every input the call answers true, and what was handed in reads as before. Conditions: the listed package-level variables start as the program's text lays them. In this text, besides: The laws' loops: counting bits, comparing words; Runs: the law of canonical integers; Laws: canonical integers; The law IntegerCanonical: the row and its card. For every input the call answers true, and what was handed in reads as before. Conditions: the listed package-level variables start as the program's text lays them. -/
import Derived.Test.YtkfdnpbpebmhaaaGreatDoorProg
import Derived.Test.YtkfdnpbpebmhaaaGreatDoorZ0
import Derived.Test.YtkfdnpbpebmhaaaGreatDoorZ1
import Derived.Test.YtkfdnpbpebmhaaaGreatDoorZ2
import Derived.Test.YtkfdnpbpebmhaaaGreatDoorZ3
import Derived.Test.YtkfdnpbpebmhaaaGreatDoorZ4
import Derived.Test.YtkfdnpbpebmhaaaGreatDoorZ5
import Derived.Test.YtkfdnpbpebmhaaaGreatDoorZ6
namespace Go.Proofs.YtkfdnpbpebmhaaaGreatDoor.Spec
open Go Go.RowKit Sx Num

/-- How many halvings a number stands. -/
def o_hv (n : Nat) : Nat := if _h : n = 0 then 0 else o_hv (n / 2) + 1
termination_by n
decreasing_by omega
def bxW (ty : TypeId) (s : Bool) (xs : List Int) : Box := ⟨ty, .cells [.v (.bool s), .row .u32 xs], true⟩
def I10 (ty : TypeId) (s : Bool) (xs : List Int) (n m b k : Int) : St := ⟨[(0, .s (num n)), (1, .s (num m)), (5, .s (boo true)), (6, ptrV 6), (11, .s (num b)), (12, .s (num k))], [(6, bxW ty s xs)]⟩
def O10 (ty : TypeId) (s : Bool) (xs : List Int) (n m b k : Int) : St := ⟨[(0, .s (num n)), (1, .s (num m)), (5, .s (boo true)), (6, ptrV 6), (11, .s (num (b + (o_hv k.natAbs : Nat))))], [(6, bxW ty s xs)]⟩
def F10 (st : St) : Option (Ex × St × List Prop) :=
  match liv st.boxes 0, lk st.tmps 0, lk st.tmps 1, lk st.tmps 5, lk st.tmps 6, lk st.tmps 11, lk st.tmps 12, lk (fixBs st.boxes) 6 with
  | false, some (.s (.one (.v (.int .i64 n)))), some (.s (.one (.v (.int .i64 m)))), some (.s (.one (.v (.bool true)))), some (.s (.one (.ptr 6 0))), some (.s (.one (.v (.int .i64 b)))), some (.s (.one (.v (.int .i64 k)))), some ⟨ty, .cells [.v (.bool s), .row .u32 xs], true⟩ =>
    some (.exit 0, O10 ty s xs n m b k, [b = 0, -9223372036854775808 ≤ k ∧ k < 9223372036854775808])
  | _, _, _, _, _, _, _, _ => none
def L10 : Loops := fun k => bif Nat.beq k 16 then some F10 else none

def o_eqW (c : Bool) (i : Nat) (xs ys : List Int) : Bool := c && decide (xs.drop i = ys.drop i)
def I3 (ty : TypeId) (s t : Bool) (xs ys : List Int) (c : Bool) (i : Nat) : St := ⟨[(2, ptrV 2), (5, .s (boo true)), (6, .s (num (xs.length : Nat))), (8, ptrV 8), (9, .s (boo c)), (10, .s (num i))], [(2, bxW ty s xs), (8, bxW ty t ys)]⟩
def O3 (ty : TypeId) (s t : Bool) (xs ys : List Int) (c : Bool) : St := ⟨[(2, ptrV 2), (5, .s (boo true)), (8, ptrV 8), (9, .s (boo c))], [(2, bxW ty s xs), (8, bxW ty t ys)]⟩
def F3 (st : St) : Option (Ex × St × List Prop) :=
  match liv st.boxes 0, lk st.tmps 2, lk st.tmps 5, lk st.tmps 6, lk st.tmps 8, lk st.tmps 9, lk st.tmps 10, lk (fixBs st.boxes) 2, lk (fixBs st.boxes) 8 with
  | false, some (.s (.one (.ptr 2 0))), some (.s (.one (.v (.bool true)))), some (.s (.one (.v (.int .i64 n)))), some (.s (.one (.ptr 8 0))), some (.s (.one (.v (.bool c)))), some (.s (.one (.v (.int .i64 i)))), some ⟨ty, .cells [.v (.bool s), .row .u32 xs], true⟩, some ⟨ty8, .cells [.v (.bool t), .row .u32 ys], true⟩ =>
    some (.exit 0, O3 ty s t xs ys (o_eqW c 0 xs ys), [ty8 = ty, n = (xs.length : Nat), i = 0, Words xs, Words ys, xs.length ≤ 40, c = true → ys.length = xs.length])
  | _, _, _, _, _, _, _, _, _ => none
def L3 : Loops := fun k => bif Nat.beq k 15 then some F3 else none

end Go.Proofs.YtkfdnpbpebmhaaaGreatDoor.Spec
section
set_option maxRecDepth 100000
namespace Go.Proofs.YtkfdnpbpebmhaaaGreatDoor.Spec
open Go Go.RowKit Sx Num

theorem loop3a (ty : TypeId) (s t : Bool) (xs ys : List Int) (c : Bool) (i : Nat) : codeV Tryz.prog (lk E23) L0 (G1 []) Tryz.f3.ntmps 60 (loopC Tryz.f3 0) [2, 5, 6, 8, 9, 10] [2, 8] (I3 ty s t xs ys c i) = (let q0 := (↑(List.length xs) : Int); let q1 := decide ((↑i : Int) < q0) = true; some (Ex.normal, { tmps := [((2 : Nat), AV.s (SV.one (LV.ptr (2 : Nat) (0 : Nat)))), ((5 : Nat), AV.s (SV.one (LV.v (Value.bool true)))), ((6 : Nat), AV.s (SV.one (LV.v (Value.int .i64 q0)))), ((8 : Nat), AV.s (SV.one (LV.ptr (8 : Nat) (0 : Nat)))), ((9 : Nat), AV.s (SV.one (LV.v (Value.bool (decide (List.getD xs (Int.toNat (↑i : Int)) (0 : Int) = List.getD ys (Int.toNat (↑i : Int)) (0 : Int))))))), ((10 : Nat), AV.s (SV.one (LV.v (Value.int .i64 (IntKind.wrap .i64 ((↑i : Int) + (1 : Int)))))))], boxes := [((2 : Nat), { ty := ty, bc := BC.cells [LV.v (Value.bool s), LV.row EK.u32 xs], mut_ := true }), ((8 : Nat), { ty := ty, bc := BC.cells [LV.v (Value.bool t), LV.row EK.u32 ys], mut_ := true })] }, [q1, q1, c = true, (0 : Int) ≤ (↑i : Int) ∧ (↑i : Int) < q0, (0 : Int) ≤ (↑i : Int) ∧ (↑i : Int) < (↑(List.length ys) : Int)])) := by kernel_rfl
theorem loop3b (ty : TypeId) (s t : Bool) (xs ys : List Int) (c : Bool) (i : Nat) : codeV Tryz.prog (lk E23) L0 (G1 [70, 72]) Tryz.f3.ntmps 60 (loopC Tryz.f3 0) [2, 5, 8, 9] [2, 8] (I3 ty s t xs ys c i) = (let q0 := decide ((↑i : Int) < (↑(List.length xs) : Int)) = false; some (Ex.exit (0 : Nat), { tmps := [((2 : Nat), AV.s (SV.one (LV.ptr (2 : Nat) (0 : Nat)))), ((5 : Nat), AV.s (SV.one (LV.v (Value.bool true)))), ((8 : Nat), AV.s (SV.one (LV.ptr (8 : Nat) (0 : Nat)))), ((9 : Nat), AV.s (SV.one (LV.v (Value.bool c))))], boxes := [((2 : Nat), { ty := ty, bc := BC.cells [LV.v (Value.bool s), LV.row EK.u32 xs], mut_ := true }), ((8 : Nat), { ty := ty, bc := BC.cells [LV.v (Value.bool t), LV.row EK.u32 ys], mut_ := true })] }, [q0, q0, false = false])) := by kernel_rfl
theorem loop3c (ty : TypeId) (s t : Bool) (xs ys : List Int) (c : Bool) (i : Nat) : codeV Tryz.prog (lk E23) L0 (G1 [72]) Tryz.f3.ntmps 60 (loopC Tryz.f3 0) [2, 5, 8, 9] [2, 8] (I3 ty s t xs ys c i) = (let q0 := decide ((↑i : Int) < (↑(List.length xs) : Int)) = true; some (Ex.exit (0 : Nat), { tmps := [((2 : Nat), AV.s (SV.one (LV.ptr (2 : Nat) (0 : Nat)))), ((5 : Nat), AV.s (SV.one (LV.v (Value.bool true)))), ((8 : Nat), AV.s (SV.one (LV.ptr (8 : Nat) (0 : Nat)))), ((9 : Nat), AV.s (SV.one (LV.v (Value.bool c))))], boxes := [((2 : Nat), { ty := ty, bc := BC.cells [LV.v (Value.bool s), LV.row EK.u32 xs], mut_ := true }), ((8 : Nat), { ty := ty, bc := BC.cells [LV.v (Value.bool t), LV.row EK.u32 ys], mut_ := true })] }, [q0, q0, c = false])) := by kernel_rfl
theorem run3a (s t : Bool) (xs ys : List Int) : fnEx Tryz.prog (lk E23) L3 (G1 [13]) 60 Tryz.f3 [rawA s xs, rawA t ys] = some (AV.s (SV.one (LV.v (Value.bool true))), [false = false, decide ((40 : Int) < (↑(List.length xs) : Int)) = true]) := by kernel_rfl
theorem run3b (s t : Bool) (xs ys : List Int) : fnEx Tryz.prog (lk E23) L3 (G1 [13, 18, 27, 30, 47, 51]) 60 Tryz.f3 [rawA s xs, rawA t ys] = (let q2 := (Bool.not (decide (o_valid s xs = false))) = false; let q3 := enc (Int.natAbs (o_made t ys (Int.toNat (40 : Int)))); let q4 := (↑(List.length xs) : Int); let q0 := decide ((0 : Int) < q4) = false; let q1 := decide (q4 = (0 : Int)) = true; some (AV.s (SV.one (LV.v (Value.bool true))), [false = false, decide ((40 : Int) < q4) = false, q1, q1, q1, q1, (Bool.not s) = false, (Bool.not s) = false, (Bool.not s) = false, q0, q0, q0, q0, q0, q0, q0, q0, (Bool.not s) = false, q0, (Bool.not s) = false, Words ys, (0 : Int) ≤ (40 : Int) ∧ (40 : Int) ≤ (1000000 : Int), Words xs, Ln xs, q2, q2, Words q3, Ln q3, q2, q2, (Bool.not (o_valid (decide (o_made t ys (40 : Nat) < (0 : Int))) (enc (Int.natAbs (o_made t ys (40 : Nat)))))) = false, true = true])) := by kernel_rfl
theorem run3c (s t : Bool) (xs ys : List Int) : fnEx Tryz.prog (lk E23) L3 (G1 [13, 18, 22, 27, 47, 51]) 60 Tryz.f3 [rawA s xs, rawA t ys] = (let q1 := (↑(List.length xs) : Int); let q2 := decide ((0 : Int) < q1) = true; let q4 := if IntKind.wrap .i64 (q1 - (1 : Int)) < (0 : Int) then (0 : Int) else IntKind.wrap .i64 (q1 - (1 : Int)); let q0 := decide (List.getD xs (Int.toNat q4) (0 : Int) = (0 : Int)); let q3 := (Bool.not (decide (o_valid s xs = Bool.not q0))) = false; let q5 := decide (q1 = (0 : Int)) = false; let q6 := enc (Int.natAbs (o_made t ys (Int.toNat (40 : Int)))); some (AV.s (SV.one (LV.v (Value.bool true))), [false = false, decide ((40 : Int) < q1) = false, q5, q5, q5, q5, false = false, false = false, false = false, q2, q2, q2, q2, q2, q2, ((0 : Int) ≤ if IntKind.wrap .i64 (q1 - (1 : Int)) < (0 : Int) then (0 : Int) else IntKind.wrap .i64 (q1 - (1 : Int))) ∧ q4 < q1, q2, q2, false = false, q2, false = false, Words ys, (0 : Int) ≤ (40 : Int) ∧ (40 : Int) ≤ (1000000 : Int), Words xs, Ln xs, q3, q3, Words q6, Ln q6, q3, q3, (Bool.not (o_valid (decide (o_made t ys (40 : Nat) < (0 : Int))) (enc (Int.natAbs (o_made t ys (40 : Nat)))))) = false, (Bool.not (Bool.not q0)) = true])) := by kernel_rfl
theorem run3d (s t : Bool) (xs ys : List Int) : fnEx Tryz.prog (lk E23) L3 (G1 [13, 18, 47, 51, 53]) 60 Tryz.f3 [rawA s xs, rawA t ys] = (let q1 := decide (s = decide (o_made t ys (Int.toNat (40 : Int)) < (0 : Int))) = true; let q3 := (↑(List.length xs) : Int); let q4 := (Bool.not (decide (o_valid s xs = true))) = false; let q5 := o_made t ys (Int.toNat (40 : Int)); let q2 := enc (Int.natAbs q5); let q6 := decide (q3 = (0 : Int)) = true; let q7 := q3 == (↑(List.length q2) : Int); let q0 := decide (decide (sgnI (o_toI s xs - o_rt q5) = (0 : Int)) = o_eqW q7 (0 : Nat) xs q2) = true; some (AV.s (SV.one (LV.v (Value.bool (decide (sgnI (o_toI s xs - o_toI s xs) = (0 : Int)))))), [false = false, decide ((40 : Int) < q3) = false, q6, q6, q6, q6, (Bool.not s) = true, (Bool.not s) = true, (Bool.not s) = true, (Bool.not s) = true, (Bool.not s) = true, Words ys, (0 : Int) ≤ (40 : Int) ∧ (40 : Int) ≤ (1000000 : Int), Words xs, Ln xs, q4, q4, Words q2, Ln q2, q4, q4, (Bool.not (o_valid (decide (o_made t ys (40 : Nat) < (0 : Int))) (enc (Int.natAbs (o_made t ys (40 : Nat)))))) = false, false = false, q1, q1, q1, q1, q1, q1, nat_lit 24 = nat_lit 24, q3 = q3, (0 : Int) = (0 : Int), Words xs, Words q2, List.length xs ≤ (40 : Nat), q7 = true → List.length q2 = List.length xs, true = true, true = true, true = true, o_ok s xs, o_okz q5, o_sz big (o_toI s xs), o_sz big (o_rt q5), true = true, true = true, true = true, true = true, q0, q0, q0, o_ok s xs, o_ok s xs, o_sz big (o_toI s xs), o_sz big (o_toI s xs), q0, q0])) := by kernel_rfl
theorem run3e (s t : Bool) (xs ys : List Int) : fnEx Tryz.prog (lk E23) L3 (G1 [13, 18, 47, 51, 53, 60]) 60 Tryz.f3 [rawA s xs, rawA t ys] = (let q1 := decide (s = decide (o_made t ys (Int.toNat (40 : Int)) < (0 : Int))) = false; let q2 := o_made t ys (Int.toNat (40 : Int)); let q0 := decide (decide (sgnI (o_toI s xs - o_rt q2) = (0 : Int)) = o_eqW false (0 : Nat) xs (enc (Int.natAbs q2))) = true; let q4 := (Bool.not (decide (o_valid s xs = true))) = false; let q5 := (↑(List.length xs) : Int); let q3 := decide (q5 = (0 : Int)) = true; let q6 := Words (enc (Int.natAbs q2)); some (AV.s (SV.one (LV.v (Value.bool (decide (sgnI (o_toI s xs - o_toI s xs) = (0 : Int)))))), [false = false, decide ((40 : Int) < q5) = false, q3, q3, q3, q3, (Bool.not s) = true, (Bool.not s) = true, (Bool.not s) = true, (Bool.not s) = true, (Bool.not s) = true, Words ys, (0 : Int) ≤ (40 : Int) ∧ (40 : Int) ≤ (1000000 : Int), Words xs, Ln xs, q4, q4, q6, Ln (enc (Int.natAbs q2)), q4, q4, (Bool.not (o_valid (decide (o_made t ys (40 : Nat) < (0 : Int))) (enc (Int.natAbs (o_made t ys (40 : Nat)))))) = false, false = false, q1, q1, q1, q1, q1, q1, nat_lit 24 = nat_lit 24, q5 = q5, (0 : Int) = (0 : Int), Words xs, q6, List.length xs ≤ (40 : Nat), false = true → List.length (enc (Int.natAbs q2)) = List.length xs, true = true, true = true, true = true, o_ok s xs, o_okz q2, o_sz big (o_toI s xs), o_sz big (o_rt q2), true = true, true = true, true = true, true = true, q0, q0, q0, o_ok s xs, o_ok s xs, o_sz big (o_toI s xs), o_sz big (o_toI s xs), q0, q0])) := by kernel_rfl
theorem run3f (s t : Bool) (xs ys : List Int) : fnEx Tryz.prog (lk E23) L3 (G1 [13, 18, 22, 27, 47, 51, 53]) 60 Tryz.f3 [rawA s xs, rawA t ys] = (let q2 := (↑(List.length xs) : Int); let q3 := decide (s = decide (o_made t ys (Int.toNat (40 : Int)) < (0 : Int))) = true; let q5 := decide ((0 : Int) < q2) = true; let q7 := if IntKind.wrap .i64 (q2 - (1 : Int)) < (0 : Int) then (0 : Int) else IntKind.wrap .i64 (q2 - (1 : Int)); let q1 := decide (List.getD xs (Int.toNat q7) (0 : Int) = (0 : Int)); let q6 := (Bool.not (decide (o_valid s xs = Bool.not q1))) = false; let q8 := o_made t ys (Int.toNat (40 : Int)); let q4 := enc (Int.natAbs q8); let q9 := decide (q2 = (0 : Int)) = false; let q10 := q2 == (↑(List.length q4) : Int); let q0 := decide (decide (sgnI (o_toI s xs - o_rt q8) = (0 : Int)) = o_eqW q10 (0 : Nat) xs q4) = true; some (AV.s (SV.one (LV.v (Value.bool (decide (sgnI (o_toI s xs - o_toI s xs) = (0 : Int)))))), [false = false, decide ((40 : Int) < q2) = false, q9, q9, q9, q9, false = false, false = false, false = false, q5, q5, q5, q5, q5, q5, ((0 : Int) ≤ if IntKind.wrap .i64 (q2 - (1 : Int)) < (0 : Int) then (0 : Int) else IntKind.wrap .i64 (q2 - (1 : Int))) ∧ q7 < q2, q5, q5, false = false, q5, false = false, Words ys, (0 : Int) ≤ (40 : Int) ∧ (40 : Int) ≤ (1000000 : Int), Words xs, Ln xs, q6, q6, Words q4, Ln q4, q6, q6, (Bool.not (o_valid (decide (o_made t ys (40 : Nat) < (0 : Int))) (enc (Int.natAbs (o_made t ys (40 : Nat)))))) = false, (Bool.not (Bool.not q1)) = false, q3, q3, q3, q3, q3, q3, nat_lit 24 = nat_lit 24, q2 = q2, (0 : Int) = (0 : Int), Words xs, Words q4, List.length xs ≤ (40 : Nat), q10 = true → List.length q4 = List.length xs, true = true, true = true, true = true, o_ok s xs, o_okz q8, o_sz big (o_toI s xs), o_sz big (o_rt q8), true = true, true = true, true = true, true = true, q0, q0, q0, o_ok s xs, o_ok s xs, o_sz big (o_toI s xs), o_sz big (o_toI s xs), q0, q0])) := by kernel_rfl
theorem run3g (s t : Bool) (xs ys : List Int) : fnEx Tryz.prog (lk E23) L3 (G1 [13, 18, 22, 27, 47, 51, 53, 60]) 60 Tryz.f3 [rawA s xs, rawA t ys] = (let q2 := (↑(List.length xs) : Int); let q3 := decide (s = decide (o_made t ys (Int.toNat (40 : Int)) < (0 : Int))) = false; let q4 := o_made t ys (Int.toNat (40 : Int)); let q1 := decide (decide (sgnI (o_toI s xs - o_rt q4) = (0 : Int)) = o_eqW false (0 : Nat) xs (enc (Int.natAbs q4))) = true; let q5 := decide ((0 : Int) < q2) = true; let q7 := if IntKind.wrap .i64 (q2 - (1 : Int)) < (0 : Int) then (0 : Int) else IntKind.wrap .i64 (q2 - (1 : Int)); let q0 := decide (List.getD xs (Int.toNat q7) (0 : Int) = (0 : Int)); let q6 := (Bool.not (decide (o_valid s xs = Bool.not q0))) = false; let q8 := decide (q2 = (0 : Int)) = false; let q9 := Words (enc (Int.natAbs q4)); some (AV.s (SV.one (LV.v (Value.bool (decide (sgnI (o_toI s xs - o_toI s xs) = (0 : Int)))))), [false = false, decide ((40 : Int) < q2) = false, q8, q8, q8, q8, false = false, false = false, false = false, q5, q5, q5, q5, q5, q5, ((0 : Int) ≤ if IntKind.wrap .i64 (q2 - (1 : Int)) < (0 : Int) then (0 : Int) else IntKind.wrap .i64 (q2 - (1 : Int))) ∧ q7 < q2, q5, q5, false = false, q5, false = false, Words ys, (0 : Int) ≤ (40 : Int) ∧ (40 : Int) ≤ (1000000 : Int), Words xs, Ln xs, q6, q6, q9, Ln (enc (Int.natAbs q4)), q6, q6, (Bool.not (o_valid (decide (o_made t ys (40 : Nat) < (0 : Int))) (enc (Int.natAbs (o_made t ys (40 : Nat)))))) = false, (Bool.not (Bool.not q0)) = false, q3, q3, q3, q3, q3, q3, nat_lit 24 = nat_lit 24, q2 = q2, (0 : Int) = (0 : Int), Words xs, q9, List.length xs ≤ (40 : Nat), false = true → List.length (enc (Int.natAbs q4)) = List.length xs, true = true, true = true, true = true, o_ok s xs, o_okz q4, o_sz big (o_toI s xs), o_sz big (o_rt q4), true = true, true = true, true = true, true = true, q1, q1, q1, o_ok s xs, o_ok s xs, o_sz big (o_toI s xs), o_sz big (o_toI s xs), q1, q1])) := by kernel_rfl
end Go.Proofs.YtkfdnpbpebmhaaaGreatDoor.Spec
end
namespace Go.Proofs.YtkfdnpbpebmhaaaGreatDoor.Spec
open Go Go.RowKit Sx Num

abbrev A3 := TypeId × Bool × Bool × List Int × List Int × Bool × Nat
def V3' (x : A3) : Prop := x.2.2.2.1.length ≤ 40 ∧ x.2.2.2.2.2.2 ≤ x.2.2.2.1.length ∧ (x.2.2.2.2.2.1 = true → x.2.2.2.2.1.length = x.2.2.2.1.length)
def J3 (x : A3) : St := I3 x.1 x.2.1 x.2.2.1 x.2.2.2.1 x.2.2.2.2.1 x.2.2.2.2.2.1 x.2.2.2.2.2.2
def P3 (x : A3) : St := O3 x.1 x.2.1 x.2.2.1 x.2.2.2.1 x.2.2.2.2.1 (o_eqW x.2.2.2.2.2.1 x.2.2.2.2.2.2 x.2.2.2.1 x.2.2.2.2.1)
theorem sub3 {st : St} {e : Ex} {s : St} {obs : List Prop} (h : F3 st = some (e, s, obs)) (hob : AllP obs) : ∃ x : A3, V3' x ∧ SubS (fixSt st) (J3 x) ∧ e = .exit 0 ∧ s = P3 x := by
  unfold F3 at h
  split at h
  · rename_i n c i ty s xs ty8 t ys hz h2 h5 h6 h8 h9 h10 b2 b8
    simp only [Option.some.injEq, Prod.mk.injEq] at h
    obtain ⟨rfl, rfl, rfl⟩ := h
    obtain ⟨rfl, rfl, rfl, _, _, hl, hc, _⟩ := hob
    refine ⟨(ty8, s, t, xs, ys, c, 0), ⟨hl, Nat.zero_le _, hc⟩, ⟨?_, ?_, ?_⟩, rfl, rfl⟩
    · intro p hp
      simp only [J3, I3, ptrV, List.mem_cons, List.not_mem_nil, or_false] at hp
      rcases hp with rfl | rfl | rfl | rfl | rfl | rfl <;> exact ⟨by assumption, rfl⟩
    · intro p hp
      simp only [J3, I3, bxW, List.mem_cons, List.not_mem_nil, or_false] at hp
      rcases hp with rfl | rfl <;> exact ⟨by assumption, rfl⟩
    · intro hl
      have : liv (fixSt st).boxes = liv st.boxes := liv_fix _
      rw [this, hz] at hl; cases hl
  · cases h
theorem eqW_false (i : Nat) (xs ys : List Int) : o_eqW false i xs ys = false := rfl
theorem eqW_end {c : Bool} {xs ys : List Int} (h : c = true → ys.length = xs.length) : o_eqW c xs.length xs ys = c := by
  cases c with
  | false => rfl
  | true =>
    unfold o_eqW
    rw [List.drop_eq_nil_of_le (Nat.le_refl _), List.drop_eq_nil_of_le (Nat.le_of_eq (h rfl))]
    rfl
theorem eqW_step {xs ys : List Int} {i : Nat} (h : i < xs.length) (hl : ys.length = xs.length) : o_eqW (decide (xs.getD i 0 = ys.getD i 0)) (i + 1) xs ys = o_eqW true i xs ys := by
  have h2 : i < ys.length := by omega
  unfold o_eqW
  rw [List.drop_eq_getElem_cons h, List.drop_eq_getElem_cons h2, List.getD_eq_getElem?_getD, List.getD_eq_getElem?_getD, List.getElem?_eq_getElem h, List.getElem?_eq_getElem h2]
  simp only [Option.getD_some, List.cons.injEq, Bool.decide_and, Bool.true_and]
theorem lo3 : ∀ d ∈ loopsF Tryz.f3, LoopOk Tryz.prog Tryz.f3.ntmps L3 d := by
  rw [show loopsF Tryz.f3 = [loopC Tryz.f3 0] by kernel_rfl]
  intro d hd
  rw [List.mem_singleton] at hd
  subst hd
  refine loop_okF (k := 15) (f := F3) (α := A3) (by kernel_rfl) (by kernel_rfl) J3 P3 V3' (fun x => x.2.2.2.1.length - x.2.2.2.2.2.2) (.exit 0) (by simp) (fun st e s obs h hob => sub3 h hob) ?_
  rintro ⟨ty, s, t, xs, ys, c, i⟩ ⟨h0, h1, h2⟩
  have h0 : xs.length ≤ 40 := h0
  have h1 : i ≤ xs.length := h1
  have h2 : c = true → ys.length = xs.length := h2
  have hno : ∀ d ∈ loopsOf (loopC Tryz.f3 0), LoopOk Tryz.prog Tryz.f3.ntmps L0 d := by rw [show loopsOf (loopC Tryz.f3 0) = [] by kernel_rfl]; intro d hd; cases hd
  by_cases hi : i < xs.length
  · cases c with
    | false =>
      refine (codeV_sound hmix E23ok.hS hno (loop3c ty s t xs ys false i) ?_).mono ?_
      · exact ⟨decide_eq_true (by omega), decide_eq_true (by omega), rfl, trivial⟩
      · rintro e s' ⟨rfl, hs⟩
        exact .inr ⟨rfl, hs⟩
    | true =>
      have hl := h2 rfl
      refine (codeV_sound hmix E23ok.hS hno (loop3a ty s t xs ys true i) ?_).mono ?_
      · exact ⟨decide_eq_true (by omega), decide_eq_true (by omega), rfl, by omega, by omega, trivial⟩
      · rintro e s' ⟨rfl, hs⟩
        have w1 : IntKind.wrap IntKind.i64 ((i : Int) + 1) = ((i + 1 : Nat) : Int) := by rw [wi64 _ (by omega) (by omega)]; omega
        refine .inl ⟨rfl, (ty, s, t, xs, ys, decide (xs.getD i 0 = ys.getD i 0), i + 1), ⟨h0, hi, fun _ => hl⟩, by show xs.length - (i + 1) < xs.length - i; omega, ?_, ?_⟩
        · simp only [w1, tnc] at hs
          exact hs
        · show O3 ty s t xs ys (o_eqW _ _ xs ys) = O3 ty s t xs ys (o_eqW _ _ xs ys)
          rw [eqW_step hi hl]
  · obtain rfl : i = xs.length := by omega
    refine (codeV_sound hmix E23ok.hS hno (loop3b ty s t xs ys c xs.length) ?_).mono ?_
    · exact ⟨decide_eq_false (by omega), decide_eq_false (by omega), rfl, trivial⟩
    · rintro e s' ⟨rfl, hs⟩
      refine .inr ⟨rfl, ?_⟩
      show SubS s' (O3 ty s t xs ys (o_eqW c xs.length xs ys))
      rw [eqW_end h2]
      exact hs
def spLaw3c : Sp
  | [.agg [.v (.bool _), .row .u32 xs], .agg [.v (.bool _), .row .u32 ys]] => some (.s (boo true), [Words xs, Words ys])
  | _ => none
theorem e40 : Int.toNat 40 = 40 := rfl
theorem enc_inj2 {x y : Int} (hs : decide (x < 0) = decide (y < 0)) (h : enc x.natAbs = enc y.natAbs) : x = y := by
  have e1 := toI_enc x
  have e2 := toI_enc y
  rw [← e1, ← e2, hs, h]
theorem eq_law {x y : Int} (hs : decide (x < 0) = decide (y < 0)) : decide (sgnI (x - y) = 0) = o_eqW (((enc x.natAbs).length : Int) == ((enc y.natAbs).length : Int)) 0 (enc x.natAbs) (enc y.natAbs) := by
  unfold o_eqW
  rw [List.drop_zero, List.drop_zero]
  by_cases h : x = y
  · subst h
    rw [decide_eq_true rfl, beq_self_eq_true, decide_eq_true (show sgnI (x - x) = 0 by rw [Int.sub_self]; rfl)]; rfl
  · rw [decide_eq_false (fun e => h (enc_inj2 hs e)), Bool.and_false]
    refine decide_eq_false fun e => h ?_
    unfold sgnI at e
    split at e
    · cases e
    · split at e
      · omega
      · cases e
theorem ne_law {x y : Int} (hs : decide (x < 0) ≠ decide (y < 0)) (xs ys : List Int) : decide (sgnI (x - y) = 0) = o_eqW false 0 xs ys := by
  rw [eqW_false]
  refine decide_eq_false fun e => hs ?_
  have : x = y := by
    unfold sgnI at e
    split at e
    · cases e
    · split at e
      · omega
      · cases e
  rw [this]
theorem sub_self0 (x : Int) : decide (sgnI (x - x) = 0) = true := decide_eq_true (by rw [Int.sub_self]; rfl)
theorem ok_valid {s : Bool} {xs : List Int} (hw : Words xs) (h : o_valid s xs = true) : o_ok s xs := by
  unfold o_valid at h
  split at h
  · rename_i h0
    obtain rfl : xs = [] := List.length_eq_zero_iff.1 h0
    exact ⟨⟨Words.nil, by simp⟩, fun e => by rw [e] at h; cases h⟩
  · rename_i h0
    refine ⟨⟨hw, fun e => ?_⟩, fun _ e => h0 (by rw [e]; rfl)⟩
    rw [List.getLast?_eq_getElem?] at e
    rw [List.getD_eq_getElem?_getD, e] at h
    cases h
set_option maxRecDepth 100000 in
theorem con3 : Con Tryz.prog 3 spLaw3c := by
  refine con_run (L := L3) (fn := Tryz.f3) hmix E23ok.hS lo3 (by kernel_rfl) (fun _ => by kernel_rfl) ?_
  intro avs r0 ps hsp hps
  unfold spLaw3c at hsp
  split at hsp
  · rename_i s xs t ys
    simp only [Option.some.injEq, Prod.mk.injEq] at hsp
    obtain ⟨rfl, rfl⟩ := hsp
    obtain ⟨hx, hy, _⟩ := hps
    by_cases h40 : 40 < xs.length
    · refine ⟨rfl, _, _, _, _, run3a s t xs ys, rfl, ?_⟩
      exact ⟨rfl, decide_eq_true (by omega), trivial⟩
    · have sy := made_sz t hy 40
      obtain ⟨y, ey⟩ : ∃ y, o_made t ys 40 = y := ⟨_, rfl⟩
      rw [ey] at sy
      have by' := sz_mono sy (n := big) (by unfold big; decide)
      have ly := ln_sz by'
      have hln : Ln xs := by unfold Ln; omega
      by_cases hv : o_valid s xs = true
      · have hok := ok_valid hx hv
        have hok2 : o_ok s xs ↔ True := ⟨fun _ => trivial, fun _ => hok⟩
        obtain ⟨a1, a2⟩ := toI_abs hok
        obtain ⟨x, ex⟩ : ∃ x, o_toI s xs = x := ⟨_, rfl⟩
        rw [ex] at a1 a2
        have lx : o_sz 40 x := (enc_len _ _).1 (by rw [a2]; omega)
        have bx := sz_mono lx (n := big) (by unfold big; decide)
        by_cases hsg : s = decide (y < 0)
        · have hq := eq_law (x := x) (y := y) (by rw [a1, hsg])
          rw [a2] at hq
          by_cases h0 : xs.length = 0
          · have hs0 : s = false := by
              unfold o_valid at hv
              rw [if_pos h0] at hv
              cases s
              · rfl
              · cases hv
            refine ⟨rfl, _, _, _, _, run3d s t xs ys, booE (sub_self0 _), ?_⟩
            simp only [AllP, rt_eq, okz_t, hok2, e40, ey, ex, hv, valid_e, words_e]
            and_intros
            all_goals first
              | exact trivial
              | assumption
              | exact nd rfl
              | exact decide_eq_true hq
              | exact decide_eq_true hsg
              | exact decide_eq_true (by omega)
              | exact decide_eq_false (by omega)
              | omega
              | (rw [hs0]; rfl)
              | (intro e; have := eq_of_beq e; omega)
              | rfl
          · have w1 : IntKind.wrap .i64 ((xs.length : Int) - 1) = ((xs.length - 1 : Nat) : Int) := by rw [wi64 _ (by omega) (by omega)]; omega
            have w2 : (if ((xs.length - 1 : Nat) : Int) < 0 then (0 : Int) else ((xs.length - 1 : Nat) : Int)) = ((xs.length - 1 : Nat) : Int) := if_neg (by omega)
            have hlast : decide (xs.getD (xs.length - 1) 0 = 0) = false := by
              unfold o_valid at hv
              rw [if_neg h0] at hv
              cases hd : decide (xs.getD (xs.length - 1) 0 = 0)
              · rfl
              · rw [hd] at hv; cases hv
            refine ⟨rfl, _, _, _, _, run3f s t xs ys, booE (sub_self0 _), ?_⟩
            simp only [AllP, rt_eq, okz_t, hok2, e40, ey, ex, hv, w1, w2, tnc, hlast, valid_e, words_e]
            and_intros
            all_goals first
              | exact trivial
              | assumption
              | exact nd rfl
              | exact decide_eq_true hq
              | exact decide_eq_true hsg
              | exact decide_eq_true (by omega)
              | exact decide_eq_false (by omega)
              | omega
              | (intro e; have := eq_of_beq e; omega)
              | rfl
        · have hq := ne_law (x := x) (y := y) (by rw [a1]; exact hsg) xs (enc y.natAbs)
          by_cases h0 : xs.length = 0
          · have hs0 : s = false := by
              unfold o_valid at hv
              rw [if_pos h0] at hv
              cases s
              · rfl
              · cases hv
            refine ⟨rfl, _, _, _, _, run3e s t xs ys, booE (sub_self0 _), ?_⟩
            simp only [AllP, rt_eq, okz_t, hok2, e40, ey, ex, hv, valid_e, words_e]
            and_intros
            all_goals first
              | exact trivial
              | assumption
              | exact nd rfl
              | exact decide_eq_true hq
              | exact decide_eq_false hsg
              | exact decide_eq_true (by omega)
              | exact decide_eq_false (by omega)
              | omega
              | (rw [hs0]; rfl)
              | (intro e; cases e)
              | rfl
          · have w1 : IntKind.wrap .i64 ((xs.length : Int) - 1) = ((xs.length - 1 : Nat) : Int) := by rw [wi64 _ (by omega) (by omega)]; omega
            have w2 : (if ((xs.length - 1 : Nat) : Int) < 0 then (0 : Int) else ((xs.length - 1 : Nat) : Int)) = ((xs.length - 1 : Nat) : Int) := if_neg (by omega)
            have hlast : decide (xs.getD (xs.length - 1) 0 = 0) = false := by
              unfold o_valid at hv
              rw [if_neg h0] at hv
              cases hd : decide (xs.getD (xs.length - 1) 0 = 0)
              · rfl
              · rw [hd] at hv; cases hv
            refine ⟨rfl, _, _, _, _, run3g s t xs ys, booE (sub_self0 _), ?_⟩
            simp only [AllP, rt_eq, okz_t, hok2, e40, ey, ex, hv, w1, w2, tnc, hlast, valid_e, words_e]
            and_intros
            all_goals first
              | exact trivial
              | assumption
              | exact nd rfl
              | exact decide_eq_true hq
              | exact decide_eq_false hsg
              | exact decide_eq_true (by omega)
              | exact decide_eq_false (by omega)
              | omega
              | (intro e; cases e)
              | rfl
      · have hv : o_valid s xs = false := by cases h : o_valid s xs
                                             · rfl
                                             · exact absurd h hv
        by_cases h0 : xs.length = 0
        · have hs0 : s = true := by
            unfold o_valid at hv
            rw [if_pos h0] at hv
            cases s
            · cases hv
            · rfl
          refine ⟨rfl, _, _, _, _, run3b s t xs ys, rfl, ?_⟩
          simp only [AllP, e40, ey, hv, valid_e, words_e]
          and_intros
          all_goals first
            | exact trivial
            | assumption
            | exact nd rfl
            | exact decide_eq_true (by omega)
            | exact decide_eq_false (by omega)
            | omega
            | (rw [hs0]; rfl)
            | rfl
        · have w1 : IntKind.wrap .i64 ((xs.length : Int) - 1) = ((xs.length - 1 : Nat) : Int) := by rw [wi64 _ (by omega) (by omega)]; omega
          have w2 : (if ((xs.length - 1 : Nat) : Int) < 0 then (0 : Int) else ((xs.length - 1 : Nat) : Int)) = ((xs.length - 1 : Nat) : Int) := if_neg (by omega)
          have hlast : decide (xs.getD (xs.length - 1) 0 = 0) = true := by
            unfold o_valid at hv
            rw [if_neg h0] at hv
            cases hd : decide (xs.getD (xs.length - 1) 0 = 0)
            · rw [hd] at hv; cases hv
            · rfl
          refine ⟨rfl, _, _, _, _, run3c s t xs ys, rfl, ?_⟩
          simp only [AllP, e40, ey, hv, w1, w2, tnc, hlast, valid_e, words_e]
          and_intros
          all_goals first
            | exact trivial
            | assumption
            | exact nd rfl
            | exact decide_eq_true (by omega)
            | exact decide_eq_false (by omega)
            | omega
            | rfl
  · cases hsp

end Go.Proofs.YtkfdnpbpebmhaaaGreatDoor.Spec
namespace Go.Proofs.YtkfdnpbpebmhaaaGreatDoor.integerCanonical
open Go Go.RowKit Go.ChangeShapes Go.WideShapes Go.ChangeAt Sx Num Spec Row
open Go.ChangeMaps (open_string shut_string)

theorem witness_row (os : Os) {H : Type} (enc : TypeId × Value → H) :
    (OpenSpec.ofChange Rows.integerCanonicalSpec).preRow enc Tryz.prog Tryz.f3 Rows.integerCanonicalRow.domain false Rows.integerCanonicalRow.laid ((laidWorld os).forCall (fun _ _ => 0) ⟨#[], #[.agg #[.bool false, .slice none 0 0], .agg #[.bool false, .slice none 0 0]], []⟩).memory #[.agg #[.bool false, .slice none 0 0], .agg #[.bool false, .slice none 0 0]] := by
  have hw : (DataW.whole enc Tryz.prog ((laidWorld os).forCall (fun _ _ => 0) ⟨#[], #[.agg #[.bool false, .slice none 0 0], .agg #[.bool false, .slice none 0 0]], []⟩).memory Tryz.f3.params.toList (OpenSpec.ofChange Rows.integerCanonicalSpec).vars false (#[.agg #[.bool false, .slice none 0 0], .agg #[.bool false, .slice none 0 0]] : Array Value).toList 8).map (fun x => (x.1, x.2.1)) =
      some ([.agg [.lit (.bool false), .nil], .agg [.lit (.bool false), .nil]], []) := by kernel_rfl
  obtain ⟨⟨x1, x2, x3⟩, hx, hx1⟩ := Option.map_eq_some_iff.1 hw
  simp only [Prod.mk.injEq] at hx1
  obtain ⟨rfl, rfl⟩ := hx1
  exact OpenSpec.preRow_of_cond 8 hx (by kernel_rfl) (fun k hk => by cases hk) (by kernel_rfl) (laid_met os _)
set_option maxRecDepth 100000 in
theorem contract (H : Type) (enc : TypeId × Value → H) (W : World) (base : Nat) (args : Array Value) (ds gs : List (DataW H)) (before : List MemPlace)
    (hval0 : ∀ (j : Nat) t v, Tryz.f3.params[j]? = some t → args[j]? = some v → Value.okWide Tryz.prog W .any base t v)
    (hW : DataW.Whole enc Tryz.prog Tryz.f3.params.toList Rows.integerCanonicalSpec.vars false W args.toList ds gs before) :
    Calls Tryz.prog 3 args W fun e W' => ∃ v, e = .returned v ∧ Rows.integerCanonicalSpec.post enc Tryz.prog Tryz.f3 false true false false W args v W' := by
  have hval : ∀ (j : Nat) t v, Tryz.f3.params[j]? = some t → args[j]? = some v → Value.okWide Tryz.prog W .any base t v := hval0
  have hW' := hW
  obtain ⟨p, q, hA0, hV, rfl, hfz, hnd⟩ := hW
  have hA : DataW.TrodAll enc Tryz.prog W 0 (fun _ => true) true Tryz.f3.params.toList args.toList ds p := hA0
  rw [Tryz.params3] at hA hval
  obtain ⟨v0, vs0, d0, ds0, p0, q0, hargs, rfl, rfl, h0, r0⟩ := trodAll_cons hA
  obtain ⟨v1, vs1, d1, ds1, p1, q1, rfl, rfl, rfl, h1, r1⟩ := trodAll_cons r0
  obtain ⟨rfl, rfl, rfl⟩ := trodAll_nil r1
  obtain rfl : args = #[v0, v1] := by cases args; simp_all
  obtain ⟨rfl, rfl⟩ := trodVars_none hV
  obtain ⟨s0, xs0, hx0, g0⟩ := open_raw Tryz.underlying24 (by kernel_rfl) rfl rfl (by kernel_rfl) (by kernel_rfl) (by kernel_rfl) (by kernel_rfl) Tryz.underlying27 (by kernel_rfl) (hval 0 24 v0 rfl rfl) h0
  have lt0 : ∀ x ∈ p0, x.block < W.heap.size := by obtain ⟨m, hm⟩ := h0; exact DataW.trod_lt m _ _ _ hm
  obtain ⟨s1, xs1, hx1, g1⟩ := open_raw Tryz.underlying25 (by kernel_rfl) rfl rfl (by kernel_rfl) (by kernel_rfl) (by kernel_rfl) (by kernel_rfl) Tryz.underlying27 (by kernel_rfl) (hval 1 25 v1 rfl rfl) h1
  have lt1 : ∀ x ∈ p1, x.block < W.heap.size := by obtain ⟨m, hm⟩ := h1; exact DataW.trod_lt m _ _ _ hm
  clear hA0 hval0
  refine (con3.calls [.agg [.v (.bool s0), .row .u32 xs0], .agg [.v (.bool s1), .row .u32 xs1]] _ _ rfl (allP_iff.1 ⟨hx0, hx1, trivial⟩) (fun _ => False) (fun _ => 0) W #[v0, v1] (fun _ h => h.elim) ⟨g0, g1, trivial⟩).mono fun e W' ⟨u, he, _, hu, bel⟩ => ?_
  have hu : u = .bool true := hu
  subst hu
  subst he
  exact ⟨_, rfl, _, _, _, [], _, [], hW', trodAll_mk1 (shut_bool Tryz.underlying4 _), (trodAll_cons_mk (Below.trod laidOut (by kernel_rfl) (of_decide_eq_true (by kernel_rfl)) h0 bel lt0) (trodAll_cons_mk (Below.trod laidOut (by kernel_rfl) (of_decide_eq_true (by kernel_rfl)) h1 bel lt1) trodAll_mk0)), rfl, bel.frame _, fun h => by cases h⟩
set_option maxRecDepth 100000 in
set_option maxHeartbeats 2000000 in
theorem lifted (os : Os) (started : os.Started) (H : Type) (enc : TypeId × Value → H) (F : Stop.Interp) :
    ReturnsInHanded {} Tryz.checked os 3 .any ((OpenSpec.ofChange Rows.integerCanonicalSpec).preRow enc Tryz.prog Tryz.f3 Rows.integerCanonicalRow.domain false Rows.integerCanonicalRow.laid) (((OpenSpec.ofChange Rows.integerCanonicalSpec).at F).post enc Tryz.prog Tryz.f3 false true false false) := by
  refine returnsInHanded_of_row (C := Tryz.checked) (s := OpenSpec.ofChange Rows.integerCanonicalSpec) own started (by kernel_rfl) Tryz.func3
    (witness_row_atRef (enc := enc) (C := Tryz.checked) false (laidWorld os) #[.agg #[.bool false, .slice none 0 0], .agg #[.bool false, .slice none 0 0]] rfl (by kernel_rfl) (by kernel_rfl) (by kernel_rfl) (witness_row os enc)) ?_
  intro W base args ds gs before hval hW _ _ _ _ _ _
  exact contract H enc W base args ds gs before hval hW
theorem said : Rows.IntegerCanonicalSaid :=
  OpenClaim.holds_of_cond 3 Tryz.f3 rfl rfl rfl rfl rfl rfl rfl ⟨rfl, rfl, rfl, rfl, rfl⟩ rfl rfl rfl rfl rfl (by kernel_rfl) Tryz.func3 (by kernel_rfl)
    (of_decide_eq_true (by kernel_rfl)) (by unfold Func.isWrapper; first | (rw [if_pos (by decide +kernel)]; kernel_rfl) | (rw [if_neg (by decide +kernel)]; exact ⟨rfl, rfl⟩))
    (fun os started H enc _ F => by rw [OpenClaim.pre_eq_preRow]; exact lifted os started H enc F)
theorem plain (f : FuncId) (fn : Func) (hf : Tryz.pinned.checked.prog.funcNamed Rows.integerCanonicalRow.func = some f) (hfn : Tryz.pinned.checked.prog.funcs[f]? = some fn) :
    true = Tryz.pinned.checked.prog.looks [] ∧ ∀ (j : Nat) t, fn.params[j]? = some t → Tryz.pinned.checked.prog.wantsStandIn t = false := by
  obtain rfl : f = 3 := Option.some.inj ((show Tryz.prog.funcNamed Rows.integerCanonicalRow.func = some 3 by kernel_rfl).symm.trans hf) |>.symm
  obtain rfl : fn = Tryz.f3 := (Option.some.inj (Tryz.func3.symm.trans hfn)).symm
  refine ⟨by kernel_rfl, fun j t ht => ?_⟩
  rw [Tryz.params3] at ht
  have hm := Array.mem_of_getElem? ht
  simp only [List.mem_toArray, List.mem_cons, List.not_mem_nil, or_false] at hm
  rcases hm with rfl | rfl
  · exact (show Tryz.prog.wantsStandIn 24 = false by kernel_rfl)
  · exact (show Tryz.prog.wantsStandIn 25 = false by kernel_rfl)
theorem card : Rows.IntegerCanonicalCardSaid :=
  Claim7.holds_tied_plain_at .later [] _ _ _ _ said (fun _ h => by cases h) (by kernel_rfl) (fun _ h => by cases h) integerCanonical_row_tie rfl ⟨rfl, rfl⟩ (by kernel_rfl) rfl plain (by kernel_rfl)
end Go.Proofs.YtkfdnpbpebmhaaaGreatDoor.integerCanonical
namespace Go.Proofs.YtkfdnpbpebmhaaaGreatDoor
/-- The law IntegerCanonical: its card. -/
theorem integerCanonical_card : Rows.IntegerCanonicalCardSaid := integerCanonical.card
#print axioms integerCanonical_card
end Go.Proofs.YtkfdnpbpebmhaaaGreatDoor
