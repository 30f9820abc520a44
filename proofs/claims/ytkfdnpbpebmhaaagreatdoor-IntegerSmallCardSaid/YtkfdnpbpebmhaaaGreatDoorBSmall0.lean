/- The law IntegerSmall: the row and its card. For every input the call answers true, and what was handed in reads as before. Conditions: the listed package-level variables start as the program's text lays them. In this text, besides: The laws' loops: counting bits, comparing words; Runs: the law of small integers; Laws: small integers; The law IntegerSmall: the row and its card. For every input the call answers true, and what was handed in reads as before. Conditions: the listed package-level variables start as the program's text lays them. -/
import Derived.Test.YtkfdnpbpebmhaaaGreatDoorProg
import Derived.Test.YtkfdnpbpebmhaaaGreatDoorZ0
import Derived.Test.YtkfdnpbpebmhaaaGreatDoorZ1
import Derived.Test.YtkfdnpbpebmhaaaGreatDoorZ2
import Derived.Test.YtkfdnpbpebmhaaaGreatDoorZ3
import Derived.Test.YtkfdnpbpebmhaaaGreatDoorZ4
import Derived.Test.YtkfdnpbpebmhaaaGreatDoorZ5
import Derived.Test.YtkfdnpbpebmhaaaGreatDoorZ6
namespace Go.Proofs.YtkfdnpbpebmhaaaGreatDoor.Spec
open Go Go.RowKit Sx Num

/-- How many halvings a number stands. -/
def o_hv (n : Nat) : Nat := if _h : n = 0 then 0 else o_hv (n / 2) + 1
termination_by n
decreasing_by omega
def bxW (ty : TypeId) (s : Bool) (xs : List Int) : Box := ⟨ty, .cells [.v (.bool s), .row .u32 xs], true⟩
def I10 (ty : TypeId) (s : Bool) (xs : List Int) (n m b k : Int) : St := ⟨[(0, .s (num n)), (1, .s (num m)), (5, .s (boo true)), (6, ptrV 6), (11, .s (num b)), (12, .s (num k))], [(6, bxW ty s xs)]⟩
def O10 (ty : TypeId) (s : Bool) (xs : List Int) (n m b k : Int) : St := ⟨[(0, .s (num n)), (1, .s (num m)), (5, .s (boo true)), (6, ptrV 6), (11, .s (num (b + (o_hv k.natAbs : Nat))))], [(6, bxW ty s xs)]⟩
def F10 (st : St) : Option (Ex × St × List Prop) :=
  match liv st.boxes 0, lk st.tmps 0, lk st.tmps 1, lk st.tmps 5, lk st.tmps 6, lk st.tmps 11, lk st.tmps 12, lk (fixBs st.boxes) 6 with
  | false, some (.s (.one (.v (.int .i64 n)))), some (.s (.one (.v (.int .i64 m)))), some (.s (.one (.v (.bool true)))), some (.s (.one (.ptr 6 0))), some (.s (.one (.v (.int .i64 b)))), some (.s (.one (.v (.int .i64 k)))), some ⟨ty, .cells [.v (.bool s), .row .u32 xs], true⟩ =>
    some (.exit 0, O10 ty s xs n m b k, [b = 0, -9223372036854775808 ≤ k ∧ k < 9223372036854775808])
  | _, _, _, _, _, _, _, _ => none
def L10 : Loops := fun k => bif Nat.beq k 16 then some F10 else none

def o_eqW (c : Bool) (i : Nat) (xs ys : List Int) : Bool := c && decide (xs.drop i = ys.drop i)
def I3 (ty : TypeId) (s t : Bool) (xs ys : List Int) (c : Bool) (i : Nat) : St := ⟨[(2, ptrV 2), (5, .s (boo true)), (6, .s (num (xs.length : Nat))), (8, ptrV 8), (9, .s (boo c)), (10, .s (num i))], [(2, bxW ty s xs), (8, bxW ty t ys)]⟩
def O3 (ty : TypeId) (s t : Bool) (xs ys : List Int) (c : Bool) : St := ⟨[(2, ptrV 2), (5, .s (boo true)), (8, ptrV 8), (9, .s (boo c))], [(2, bxW ty s xs), (8, bxW ty t ys)]⟩
def F3 (st : St) : Option (Ex × St × List Prop) :=
  match liv st.boxes 0, lk st.tmps 2, lk st.tmps 5, lk st.tmps 6, lk st.tmps 8, lk st.tmps 9, lk st.tmps 10, lk (fixBs st.boxes) 2, lk (fixBs st.boxes) 8 with
  | false, some (.s (.one (.ptr 2 0))), some (.s (.one (.v (.bool true)))), some (.s (.one (.v (.int .i64 n)))), some (.s (.one (.ptr 8 0))), some (.s (.one (.v (.bool c)))), some (.s (.one (.v (.int .i64 i)))), some ⟨ty, .cells [.v (.bool s), .row .u32 xs], true⟩, some ⟨ty8, .cells [.v (.bool t), .row .u32 ys], true⟩ =>
    some (.exit 0, O3 ty s t xs ys (o_eqW c 0 xs ys), [ty8 = ty, n = (xs.length : Nat), i = 0, Words xs, Words ys, xs.length ≤ 40, c = true → ys.length = xs.length])
  | _, _, _, _, _, _, _, _, _ => none
def L3 : Loops := fun k => bif Nat.beq k 15 then some F3 else none

end Go.Proofs.YtkfdnpbpebmhaaaGreatDoor.Spec
section
set_option maxRecDepth 100000
namespace Go.Proofs.YtkfdnpbpebmhaaaGreatDoor.Spec
open Go Go.RowKit Sx Num

theorem loop10a (ty : TypeId) (s : Bool) (xs : List Int) (n m b k : Int) : codeV Tryz.prog (lk E23) L0 (G1 []) Tryz.f10.ntmps 60 (loopC Tryz.f10 0) [0, 1, 5, 6, 11, 12] [6] (I10 ty s xs n m b k) = some (Ex.normal, { tmps := [((0 : Nat), AV.s (SV.one (LV.v (Value.int .i64 n)))), ((1 : Nat), AV.s (SV.one (LV.v (Value.int .i64 m)))), ((5 : Nat), AV.s (SV.one (LV.v (Value.bool true)))), ((6 : Nat), AV.s (SV.one (LV.ptr (6 : Nat) (0 : Nat)))), ((11 : Nat), AV.s (SV.one (LV.v (Value.int .i64 (IntKind.wrap .i64 (b + (1 : Int))))))), ((12 : Nat), AV.s (SV.one (LV.v (Value.int .i64 (IntKind.wrap .i64 (Int.tdiv k (2 : Int)))))))], boxes := [((6 : Nat), { ty := ty, bc := BC.cells [LV.v (Value.bool s), LV.row EK.u32 xs], mut_ := true })] }, [(Bool.not (decide (k = (0 : Int)))) = true, ¬(2 : Int) = (0 : Int)]) := by kernel_rfl
theorem loop10b (ty : TypeId) (s : Bool) (xs : List Int) (n m b k : Int) : codeV Tryz.prog (lk E23) L0 (G1 [56]) Tryz.f10.ntmps 60 (loopC Tryz.f10 0) [0, 1, 5, 6, 11] [6] (I10 ty s xs n m b k) = some (Ex.exit (0 : Nat), { tmps := [((0 : Nat), AV.s (SV.one (LV.v (Value.int .i64 n)))), ((1 : Nat), AV.s (SV.one (LV.v (Value.int .i64 m)))), ((5 : Nat), AV.s (SV.one (LV.v (Value.bool true)))), ((6 : Nat), AV.s (SV.one (LV.ptr (6 : Nat) (0 : Nat)))), ((11 : Nat), AV.s (SV.one (LV.v (Value.int .i64 b))))], boxes := [((6 : Nat), { ty := ty, bc := BC.cells [LV.v (Value.bool s), LV.row EK.u32 xs], mut_ := true })] }, [(Bool.not (decide (k = (0 : Int)))) = false]) := by kernel_rfl
theorem run10a (n m : Int) : fnEx Tryz.prog (lk E23) L10 (G1 [19, 34, 37, 41, 42, 46, 47, 53]) 60 Tryz.f10 [num n, num m] = (let q0 := IntKind.wrap .i64 (Int.tdiv n (2 : Int)) + IntKind.wrap .i64 (Int.tdiv m (2 : Int)); let q1 := Int.tmod n (1000000007 : Int) * Int.tmod m (1000000007 : Int); let q2 := (Bool.not (o_valid (decide (n < (0 : Int))) (enc (Int.natAbs n)))) = false; let q3 := (-9223372036854775808 : Int); let q4 := (9223372036854775808 : Int); let q5 := (Bool.not (decide (o_small (o_rt n) = n))) = false; let q6 := (Bool.not (o_fits (o_rt n))) = false; let q7 := decide ((↑(o_bits (Int.natAbs (o_rt n))) : Int) = (0 : Int) + (↑(o_hv (Int.natAbs n)) : Int)) = true; let q8 := ¬(1000000007 : Int) = (0 : Int); let q9 := decide (o_small q1 = IntKind.wrap .i64 q1) = true; some (AV.s (SV.one (LV.v (Value.bool (decide (o_small q0 = IntKind.wrap .i64 q0))))), [false = false, q3 ≤ n ∧ n < q4, q3 ≤ m ∧ m < q4, o_okz n, o_sz big (o_rt n), decide (n < m) = true, decide (m < n) = false, q6, q6, q6, q6, q5, q5, Words (enc (Int.natAbs n)), Ln (enc (Int.natAbs n)), q5, q5, q2, q2, q2, o_okz n, o_okz m, o_sz big (o_rt n), o_sz big (o_rt m), q2, q2, q2, (Bool.not (decide (sgnI (o_rt n - o_rt m) = (-1 : Int)))) = false, (0 : Int) = (0 : Int), q3 ≤ n ∧ n < q4, q8, q3 ≤ Int.tmod n (1000000007 : Int) ∧ Int.tmod n (1000000007 : Int) < q4, q8, q3 ≤ Int.tmod m (1000000007 : Int) ∧ Int.tmod m (1000000007 : Int) < q4, o_sz big (Int.tmod n (1000000007 : Int)), o_sz big (Int.tmod m (1000000007 : Int)), o_sz big q1, ¬(2 : Int) = (0 : Int), q3 ≤ IntKind.wrap .i64 (Int.tdiv n (2 : Int)) ∧ IntKind.wrap .i64 (Int.tdiv n (2 : Int)) < q4, ¬(2 : Int) = (0 : Int), q3 ≤ IntKind.wrap .i64 (Int.tdiv m (2 : Int)) ∧ IntKind.wrap .i64 (Int.tdiv m (2 : Int)) < q4, o_sz big (IntKind.wrap .i64 (Int.tdiv n (2 : Int))), o_sz big (IntKind.wrap .i64 (Int.tdiv m (2 : Int))), o_sz big q0, true = true, true = true, o_okz n, o_sz big (o_rt n), true = true, true = true, true = true, q7, q7, o_fits q1 = true, o_fits q1 = true, o_fits q1 = true, q8, o_fits q1 = true, o_fits q1 = true, q8, o_fits q1 = true, o_fits q1 = true, o_fits q1 = true, q9, q9, o_fits q0 = true, o_fits q0 = true, o_fits q0 = true, ¬(2 : Int) = (0 : Int), o_fits q0 = true, o_fits q0 = true, ¬(2 : Int) = (0 : Int), o_fits q0 = true, o_fits q0 = true, o_fits q0 = true])) := by kernel_rfl
theorem run10b (n m : Int) : fnEx Tryz.prog (lk E23) L10 (G1 [19, 31, 37, 41, 42, 46, 47, 53]) 60 Tryz.f10 [num n, num m] = (let q0 := IntKind.wrap .i64 (Int.tdiv n (2 : Int)) + IntKind.wrap .i64 (Int.tdiv m (2 : Int)); let q1 := Int.tmod n (1000000007 : Int) * Int.tmod m (1000000007 : Int); let q2 := (Bool.not (o_valid (decide (n < (0 : Int))) (enc (Int.natAbs n)))) = false; let q3 := (-9223372036854775808 : Int); let q4 := (9223372036854775808 : Int); let q5 := (Bool.not (decide (o_small (o_rt n) = n))) = false; let q6 := (Bool.not (o_fits (o_rt n))) = false; let q7 := decide ((↑(o_bits (Int.natAbs (o_rt n))) : Int) = (0 : Int) + (↑(o_hv (Int.natAbs n)) : Int)) = true; let q8 := ¬(1000000007 : Int) = (0 : Int); let q9 := decide (o_small q1 = IntKind.wrap .i64 q1) = true; some (AV.s (SV.one (LV.v (Value.bool (decide (o_small q0 = IntKind.wrap .i64 q0))))), [false = false, q3 ≤ n ∧ n < q4, q3 ≤ m ∧ m < q4, o_okz n, o_sz big (o_rt n), decide (n < m) = false, decide (m < n) = true, q6, q6, q6, q6, q5, q5, Words (enc (Int.natAbs n)), Ln (enc (Int.natAbs n)), q5, q5, q2, q2, q2, o_okz n, o_okz m, o_sz big (o_rt n), o_sz big (o_rt m), q2, q2, q2, (Bool.not (decide (sgnI (o_rt n - o_rt m) = (1 : Int)))) = false, (0 : Int) = (0 : Int), q3 ≤ n ∧ n < q4, q8, q3 ≤ Int.tmod n (1000000007 : Int) ∧ Int.tmod n (1000000007 : Int) < q4, q8, q3 ≤ Int.tmod m (1000000007 : Int) ∧ Int.tmod m (1000000007 : Int) < q4, o_sz big (Int.tmod n (1000000007 : Int)), o_sz big (Int.tmod m (1000000007 : Int)), o_sz big q1, ¬(2 : Int) = (0 : Int), q3 ≤ IntKind.wrap .i64 (Int.tdiv n (2 : Int)) ∧ IntKind.wrap .i64 (Int.tdiv n (2 : Int)) < q4, ¬(2 : Int) = (0 : Int), q3 ≤ IntKind.wrap .i64 (Int.tdiv m (2 : Int)) ∧ IntKind.wrap .i64 (Int.tdiv m (2 : Int)) < q4, o_sz big (IntKind.wrap .i64 (Int.tdiv n (2 : Int))), o_sz big (IntKind.wrap .i64 (Int.tdiv m (2 : Int))), o_sz big q0, true = true, true = true, o_okz n, o_sz big (o_rt n), true = true, true = true, true = true, q7, q7, o_fits q1 = true, o_fits q1 = true, o_fits q1 = true, q8, o_fits q1 = true, o_fits q1 = true, q8, o_fits q1 = true, o_fits q1 = true, o_fits q1 = true, q9, q9, o_fits q0 = true, o_fits q0 = true, o_fits q0 = true, ¬(2 : Int) = (0 : Int), o_fits q0 = true, o_fits q0 = true, ¬(2 : Int) = (0 : Int), o_fits q0 = true, o_fits q0 = true, o_fits q0 = true])) := by kernel_rfl
theorem run10c (n m : Int) : fnEx Tryz.prog (lk E23) L10 (G1 [19, 31, 34, 37, 41, 42, 46, 47, 53]) 60 Tryz.f10 [num n, num m] = (let q0 := IntKind.wrap .i64 (Int.tdiv n (2 : Int)) + IntKind.wrap .i64 (Int.tdiv m (2 : Int)); let q1 := Int.tmod n (1000000007 : Int) * Int.tmod m (1000000007 : Int); let q2 := (Bool.not (o_valid (decide (n < (0 : Int))) (enc (Int.natAbs n)))) = false; let q3 := (-9223372036854775808 : Int); let q4 := (9223372036854775808 : Int); let q5 := (Bool.not (decide (o_small (o_rt n) = n))) = false; let q6 := (Bool.not (o_fits (o_rt n))) = false; let q7 := decide ((↑(o_bits (Int.natAbs (o_rt n))) : Int) = (0 : Int) + (↑(o_hv (Int.natAbs n)) : Int)) = true; let q8 := ¬(1000000007 : Int) = (0 : Int); let q9 := decide (o_small q1 = IntKind.wrap .i64 q1) = true; some (AV.s (SV.one (LV.v (Value.bool (decide (o_small q0 = IntKind.wrap .i64 q0))))), [false = false, q3 ≤ n ∧ n < q4, q3 ≤ m ∧ m < q4, o_okz n, o_sz big (o_rt n), decide (n < m) = false, decide (m < n) = false, q6, q6, q6, q6, q5, q5, Words (enc (Int.natAbs n)), Ln (enc (Int.natAbs n)), q5, q5, q2, q2, q2, o_okz n, o_okz m, o_sz big (o_rt n), o_sz big (o_rt m), q2, q2, q2, (Bool.not (decide (sgnI (o_rt n - o_rt m) = (0 : Int)))) = false, (0 : Int) = (0 : Int), q3 ≤ n ∧ n < q4, q8, q3 ≤ Int.tmod n (1000000007 : Int) ∧ Int.tmod n (1000000007 : Int) < q4, q8, q3 ≤ Int.tmod m (1000000007 : Int) ∧ Int.tmod m (1000000007 : Int) < q4, o_sz big (Int.tmod n (1000000007 : Int)), o_sz big (Int.tmod m (1000000007 : Int)), o_sz big q1, ¬(2 : Int) = (0 : Int), q3 ≤ IntKind.wrap .i64 (Int.tdiv n (2 : Int)) ∧ IntKind.wrap .i64 (Int.tdiv n (2 : Int)) < q4, ¬(2 : Int) = (0 : Int), q3 ≤ IntKind.wrap .i64 (Int.tdiv m (2 : Int)) ∧ IntKind.wrap .i64 (Int.tdiv m (2 : Int)) < q4, o_sz big (IntKind.wrap .i64 (Int.tdiv n (2 : Int))), o_sz big (IntKind.wrap .i64 (Int.tdiv m (2 : Int))), o_sz big q0, true = true, true = true, o_okz n, o_sz big (o_rt n), true = true, true = true, true = true, q7, q7, o_fits q1 = true, o_fits q1 = true, o_fits q1 = true, q8, o_fits q1 = true, o_fits q1 = true, q8, o_fits q1 = true, o_fits q1 = true, o_fits q1 = true, q9, q9, o_fits q0 = true, o_fits q0 = true, o_fits q0 = true, ¬(2 : Int) = (0 : Int), o_fits q0 = true, o_fits q0 = true, ¬(2 : Int) = (0 : Int), o_fits q0 = true, o_fits q0 = true, o_fits q0 = true])) := by kernel_rfl
end Go.Proofs.YtkfdnpbpebmhaaaGreatDoor.Spec
end
namespace Go.Proofs.YtkfdnpbpebmhaaaGreatDoor.Spec
open Go Go.RowKit Sx Num

theorem hv_bd (n : Nat) : n < 2 ^ o_hv n ∧ (n ≠ 0 → 2 ^ (o_hv n - 1) ≤ n ∧ 0 < o_hv n) := by
  induction n using Nat.strongRecOn with
  | ind n ih =>
    unfold o_hv
    split
    · rename_i h
      subst h
      exact ⟨by decide, fun h => absurd rfl h⟩
    · obtain ⟨h1, h2⟩ := ih (n / 2) (by omega)
      refine ⟨by rw [Nat.pow_succ]; omega, fun _ => ⟨?_, by omega⟩⟩
      rw [Nat.add_sub_cancel]
      by_cases h0 : n / 2 = 0
      · rw [h0, show o_hv 0 = 0 by unfold o_hv; rw [dif_pos rfl]]
        show 1 ≤ n
        omega
      · obtain ⟨h3, h4⟩ := h2 h0
        obtain ⟨j, hj⟩ : ∃ j, o_hv (n / 2) = j + 1 := ⟨o_hv (n / 2) - 1, by omega⟩
        rw [hj] at h3 ⊢
        rw [Nat.add_sub_cancel] at h3
        rw [Nat.pow_succ]
        omega
theorem hv_bits (n : Nat) : o_hv n = o_bits n := by
  by_cases h0 : n = 0
  · subst h0; rw [show o_hv 0 = 0 by unfold o_hv; rw [dif_pos rfl]]; rfl
  · obtain ⟨a1, a2⟩ := hv_bd n
    obtain ⟨b1, b2, b3, _⟩ := bits_spec n
    obtain ⟨a2, a3⟩ := a2 h0
    have b2 := b2 h0
    have b3 := b3 h0
    have c1 := (Nat.pow_lt_pow_iff_right (show 1 < 2 by decide)).1 (Nat.lt_of_le_of_lt a2 b1)
    have c2 := (Nat.pow_lt_pow_iff_right (show 1 < 2 by decide)).1 (Nat.lt_of_le_of_lt b2 a1)
    omega
theorem hv_le {n : Nat} (h : n < 2 ^ 64) : o_hv n ≤ 64 := by
  by_cases h0 : n = 0
  · subst h0; rw [show o_hv 0 = 0 by unfold o_hv; rw [dif_pos rfl]]; decide
  · obtain ⟨_, a2⟩ := hv_bd n
    obtain ⟨a2, a3⟩ := a2 h0
    have c1 := (Nat.pow_lt_pow_iff_right (show 1 < 2 by decide)).1 (Nat.lt_of_le_of_lt a2 h)
    omega
abbrev A10 := TypeId × Bool × List Int × Int × Int × Int × Int
def V10' (x : A10) : Prop := 0 ≤ x.2.2.2.2.2.1 ∧ x.2.2.2.2.2.1 + (o_hv x.2.2.2.2.2.2.natAbs : Nat) ≤ 100 ∧ -9223372036854775808 ≤ x.2.2.2.2.2.2 ∧ x.2.2.2.2.2.2 < 9223372036854775808
def J10 (x : A10) : St := I10 x.1 x.2.1 x.2.2.1 x.2.2.2.1 x.2.2.2.2.1 x.2.2.2.2.2.1 x.2.2.2.2.2.2
def P10 (x : A10) : St := O10 x.1 x.2.1 x.2.2.1 x.2.2.2.1 x.2.2.2.2.1 x.2.2.2.2.2.1 x.2.2.2.2.2.2
theorem sub10 {st : St} {e : Ex} {s : St} {obs : List Prop} (h : F10 st = some (e, s, obs)) (hob : AllP obs) : ∃ x : A10, V10' x ∧ SubS (fixSt st) (J10 x) ∧ e = .exit 0 ∧ s = P10 x := by
  unfold F10 at h
  split at h
  · rename_i n m b k ty s xs hz h0 h1 h5 h6 h11 h12 b6
    simp only [Option.some.injEq, Prod.mk.injEq] at h
    obtain ⟨rfl, rfl, rfl⟩ := h
    obtain ⟨rfl, hk, _⟩ := hob
    have hv := hv_le (n := k.natAbs) (by omega)
    refine ⟨(ty, s, xs, n, m, 0, k), ⟨Int.le_refl _, by show (0 : Int) + ((o_hv k.natAbs : Nat) : Int) ≤ 100; omega, hk⟩, ⟨?_, ?_, ?_⟩, rfl, rfl⟩
    · intro p hp
      simp only [J10, I10, ptrV, List.mem_cons, List.not_mem_nil, or_false] at hp
      rcases hp with rfl | rfl | rfl | rfl | rfl | rfl <;> exact ⟨by assumption, rfl⟩
    · intro p hp
      simp only [J10, I10, bxW, List.mem_cons, List.not_mem_nil, or_false] at hp
      rcases hp with rfl
      exact ⟨by assumption, rfl⟩
    · intro hl
      have : liv (fixSt st).boxes = liv st.boxes := liv_fix _
      rw [this, hz] at hl; cases hl
  · cases h
theorem lo10 : ∀ d ∈ loopsF Tryz.f10, LoopOk Tryz.prog Tryz.f10.ntmps L10 d := by
  rw [show loopsF Tryz.f10 = [loopC Tryz.f10 0] by kernel_rfl]
  intro d hd
  rw [List.mem_singleton] at hd
  subst hd
  refine loop_okF (k := 16) (f := F10) (α := A10) (by kernel_rfl) (by kernel_rfl) J10 P10 V10' (fun x => x.2.2.2.2.2.2.natAbs) (.exit 0) (by simp) (fun st e s obs h hob => sub10 h hob) ?_
  rintro ⟨ty, s, xs, n, m, b, k⟩ ⟨h0, h1, h2⟩
  have h0 : 0 ≤ b := h0
  have h1 : b + (o_hv k.natAbs : Nat) ≤ 100 := h1
  have h2 : -9223372036854775808 ≤ k ∧ k < 9223372036854775808 := h2
  have hno : ∀ d ∈ loopsOf (loopC Tryz.f10 0), LoopOk Tryz.prog Tryz.f10.ntmps L0 d := by rw [show loopsOf (loopC Tryz.f10 0) = [] by kernel_rfl]; intro d hd; cases hd
  by_cases hk : k = 0
  · refine (codeV_sound hmix E23ok.hS hno (loop10b ty s xs n m b k) ?_).mono ?_
    · exact ⟨by rw [decide_eq_true hk]; rfl, trivial⟩
    · rintro e s' ⟨rfl, hs⟩
      refine .inr ⟨rfl, ?_⟩
      have e0 : (P10 (ty, s, xs, n, m, b, k)) = ⟨[(0, .s (num n)), (1, .s (num m)), (5, .s (boo true)), (6, ptrV 6), (11, .s (num b))], [(6, bxW ty s xs)]⟩ := by
        subst hk
        show O10 ty s xs n m b 0 = _
        unfold O10
        rw [show o_hv (Int.natAbs 0) = 0 by show o_hv 0 = 0; unfold o_hv; rw [dif_pos rfl], show b + ((0 : Nat) : Int) = b by omega]
      rw [e0]
      exact hs
  · refine (codeV_sound hmix E23ok.hS hno (loop10a ty s xs n m b k) ?_).mono ?_
    · exact ⟨by rw [decide_eq_false hk]; rfl, by decide, trivial⟩
    · rintro e s' ⟨rfl, hs⟩
      obtain ⟨q, hq⟩ : ∃ q, Int.tdiv k 2 = q := ⟨_, rfl⟩
      have hqa : q.natAbs = k.natAbs / 2 := by rw [← hq, Int.natAbs_tdiv]; rfl
      have hst : o_hv k.natAbs = o_hv q.natAbs + 1 := by
        rw [hqa]
        conv => lhs; unfold o_hv
        rw [dif_neg (by omega)]
      have w1 : IntKind.wrap IntKind.i64 (b + 1) = b + 1 := wi64 _ (by omega) (by omega)
      have w2 : IntKind.wrap IntKind.i64 q = q := wi64 _ (by omega) (by omega)
      refine .inl ⟨rfl, (ty, s, xs, n, m, b + 1, q), ⟨by show 0 ≤ b + 1; omega, by show b + 1 + (o_hv q.natAbs : Nat) ≤ 100; omega, by show -9223372036854775808 ≤ q; omega, by show q < 9223372036854775808; omega⟩, by show q.natAbs < k.natAbs; omega, ?_, ?_⟩
      · simp only [hq, w1, w2] at hs
        exact hs
      · show O10 ty s xs n m (b + 1) q = O10 ty s xs n m b k
        unfold O10
        rw [show b + 1 + (o_hv q.natAbs : Nat) = b + (o_hv k.natAbs : Nat) by omega]
def spLaw10 : Sp
  | [.one (.v (.int .i64 n)), .one (.v (.int .i64 m))] => some (.s (boo true), [-9223372036854775808 ≤ n ∧ n < 9223372036854775808, -9223372036854775808 ≤ m ∧ m < 9223372036854775808])
  | _ => none
theorem tmod_p (n : Int) : (Int.tmod n 1000000007).natAbs < 1000000007 := by
  rw [Int.natAbs_tmod]; exact Nat.mod_lt _ (by decide)
theorem half_b {n : Int} (h : -9223372036854775808 ≤ n ∧ n < 9223372036854775808) : IntKind.wrap .i64 (Int.tdiv n 2) = Int.tdiv n 2 ∧ -4611686018427387904 ≤ Int.tdiv n 2 ∧ Int.tdiv n 2 < 4611686018427387904 := by
  have e : (Int.tdiv n 2).natAbs = n.natAbs / 2 := by rw [Int.natAbs_tdiv]; rfl
  obtain ⟨q, hq⟩ : ∃ q, Int.tdiv n 2 = q := ⟨_, rfl⟩
  rw [hq] at e ⊢
  have hr := Int.mul_tdiv_add_tmod n 2
  have hl : (Int.tmod n 2).natAbs < 2 := by rw [Int.natAbs_tmod]; exact Nat.mod_lt _ (by decide)
  rw [hq] at hr
  have : -4611686018427387904 ≤ q ∧ q < 4611686018427387904 := by omega
  exact ⟨wi64 _ (by omega) (by omega), this⟩
set_option maxRecDepth 100000 in
theorem con10 : Con Tryz.prog 10 spLaw10 := by
  refine con_run (L := L10) (fn := Tryz.f10) hmix E23ok.hS lo10 (by kernel_rfl) (fun _ => by kernel_rfl) ?_
  intro avs r0 ps hsp hps
  unfold spLaw10 at hsp
  split at hsp
  · rename_i n m
    simp only [Option.some.injEq, Prod.mk.injEq] at hsp
    obtain ⟨rfl, rfl⟩ := hsp
    obtain ⟨hn, hm, _⟩ := hps
    have zn := sz_i64 hn
    have zm := sz_i64 hm
    have p1 := tmod_p n
    have p2 := tmod_p m
    obtain ⟨u, hu⟩ : ∃ u, Int.tmod n 1000000007 = u := ⟨_, rfl⟩
    obtain ⟨v, hv⟩ : ∃ v, Int.tmod m 1000000007 = v := ⟨_, rfl⟩
    obtain ⟨h1, h2⟩ := half_b hn
    obtain ⟨h3, h4⟩ := half_b hm
    rw [hu] at p1
    rw [hv] at p2
    obtain ⟨a, ha⟩ : ∃ a, Int.tdiv n 2 = a := ⟨_, rfl⟩
    obtain ⟨b, hb⟩ : ∃ b, Int.tdiv m 2 = b := ⟨_, rfl⟩
    rw [ha] at h1 h2
    rw [hb] at h3 h4
    have w1 : IntKind.wrap .i64 (a + b) = a + b := wi64 _ (by omega) (by omega)
    have hp : (u * v).natAbs ≤ 1000000007 * 1000000007 := by rw [Int.natAbs_mul]; exact Nat.mul_le_mul (by omega) (by omega)
    have w2 : IntKind.wrap .i64 (u * v) = u * v := wi64 _ (by omega) (by omega)
    obtain ⟨c1, c2⟩ := small_yes hn
    obtain ⟨c3, c4⟩ := small_yes (x := u * v) (by omega)
    obtain ⟨c5, c6⟩ := small_yes (x := a + b) (by omega)
    have z1 := sz_i64 (x := u) (by omega)
    have z2 := sz_i64 (x := v) (by omega)
    have z3 := sz_i64 (x := u * v) (by omega)
    have z4 := sz_i64 (x := a) (by omega)
    have z5 := sz_i64 (x := b) (by omega)
    have z6 := sz_i64 (x := a + b) (by omega)
    have hbt : ((o_bits n.natAbs : Nat) : Int) = 0 + ((o_hv n.natAbs : Nat) : Int) := by rw [hv_bits]; omega
    have fin : decide (o_small (a + b) = a + b) = true := decide_eq_true c5
    rcases Int.lt_trichotomy n m with hlt | heq | hgt
    · have hs : sgnI (n - m) = -1 := by unfold sgnI; rw [if_pos (by omega)]
      refine ⟨rfl, _, _, _, _, run10a n m, booE (by simp only [ha, hb, h1, h3, w1]; exact fin), ?_⟩
      simp only [AllP, rt_eq, okz_t, ha, hb, hu, hv, h1, h3, w2, c1, c2, c3, c4, c6, valid_e, words_e, hs]
      and_intros
      all_goals first
        | exact trivial
        | exact nd rfl
        | exact decide_eq_true rfl
        | assumption
        | exact decide_eq_true hbt
        | exact ln_sz zn
        | exact decide_eq_true hlt
        | exact decide_eq_false (by omega)
        | omega
        | decide
        | rfl
    · have hs : sgnI (n - m) = 0 := by unfold sgnI; rw [if_neg (by omega), if_pos (by omega)]
      refine ⟨rfl, _, _, _, _, run10c n m, booE (by simp only [ha, hb, h1, h3, w1]; exact fin), ?_⟩
      simp only [AllP, rt_eq, okz_t, ha, hb, hu, hv, h1, h3, w2, c1, c2, c3, c4, c6, valid_e, words_e, hs]
      and_intros
      all_goals first
        | exact trivial
        | exact nd rfl
        | exact decide_eq_true rfl
        | assumption
        | exact decide_eq_true hbt
        | exact ln_sz zn
        | exact decide_eq_false (by omega)
        | omega
        | decide
        | rfl
    · have hs : sgnI (n - m) = 1 := by unfold sgnI; rw [if_neg (by omega), if_neg (by omega)]
      refine ⟨rfl, _, _, _, _, run10b n m, booE (by simp only [ha, hb, h1, h3, w1]; exact fin), ?_⟩
      simp only [AllP, rt_eq, okz_t, ha, hb, hu, hv, h1, h3, w2, c1, c2, c3, c4, c6, valid_e, words_e, hs]
      and_intros
      all_goals first
        | exact trivial
        | exact nd rfl
        | exact decide_eq_true rfl
        | assumption
        | exact decide_eq_true hbt
        | exact ln_sz zn
        | exact decide_eq_true hgt
        | exact decide_eq_false (by omega)
        | omega
        | decide
        | rfl
  · cases hsp

end Go.Proofs.YtkfdnpbpebmhaaaGreatDoor.Spec
namespace Go.Proofs.YtkfdnpbpebmhaaaGreatDoor.integerSmall
open Go Go.RowKit Go.ChangeShapes Go.WideShapes Go.ChangeAt Sx Num Spec Row
open Go.ChangeMaps (open_string shut_string)

theorem witness_row (os : Os) {H : Type} (enc : TypeId × Value → H) :
    (OpenSpec.ofChange Rows.integerSmallSpec).preRow enc Tryz.prog Tryz.f10 Rows.integerSmallRow.domain false Rows.integerSmallRow.laid ((laidWorld os).forCall (fun _ _ => 0) ⟨#[], #[.int .i64 0, .int .i64 0], []⟩).memory #[.int .i64 0, .int .i64 0] := by
  have hw : (DataW.whole enc Tryz.prog ((laidWorld os).forCall (fun _ _ => 0) ⟨#[], #[.int .i64 0, .int .i64 0], []⟩).memory Tryz.f10.params.toList (OpenSpec.ofChange Rows.integerSmallSpec).vars false (#[.int .i64 0, .int .i64 0] : Array Value).toList 8).map (fun x => (x.1, x.2.1)) =
      some ([.lit (.int .i64 0), .lit (.int .i64 0)], []) := by kernel_rfl
  obtain ⟨⟨x1, x2, x3⟩, hx, hx1⟩ := Option.map_eq_some_iff.1 hw
  simp only [Prod.mk.injEq] at hx1
  obtain ⟨rfl, rfl⟩ := hx1
  exact OpenSpec.preRow_of_cond 8 hx (by kernel_rfl) (fun k hk => by cases hk) (by kernel_rfl) (laid_met os _)
set_option maxRecDepth 100000 in
theorem contract (H : Type) (enc : TypeId × Value → H) (W : World) (base : Nat) (args : Array Value) (ds gs : List (DataW H)) (before : List MemPlace)
    (hval0 : ∀ (j : Nat) t v, Tryz.f10.params[j]? = some t → args[j]? = some v → Value.okWide Tryz.prog W .any base t v)
    (hW : DataW.Whole enc Tryz.prog Tryz.f10.params.toList Rows.integerSmallSpec.vars false W args.toList ds gs before) :
    Calls Tryz.prog 10 args W fun e W' => ∃ v, e = .returned v ∧ Rows.integerSmallSpec.post enc Tryz.prog Tryz.f10 false true false false W args v W' := by
  have hval : ∀ (j : Nat) t v, Tryz.f10.params[j]? = some t → args[j]? = some v → Value.okWide Tryz.prog W .any base t v := hval0
  have hW' := hW
  obtain ⟨p, q, hA0, hV, rfl, hfz, hnd⟩ := hW
  have hA : DataW.TrodAll enc Tryz.prog W 0 (fun _ => true) true Tryz.f10.params.toList args.toList ds p := hA0
  rw [Tryz.params10] at hA hval
  obtain ⟨v0, vs0, d0, ds0, p0, q0, hargs, rfl, rfl, h0, r0⟩ := trodAll_cons hA
  obtain ⟨v1, vs1, d1, ds1, p1, q1, rfl, rfl, rfl, h1, r1⟩ := trodAll_cons r0
  obtain ⟨rfl, rfl, rfl⟩ := trodAll_nil r1
  obtain rfl : args = #[v0, v1] := by cases args; simp_all
  obtain ⟨rfl, rfl⟩ := trodVars_none hV
  obtain ⟨a0, rfl, rfl, rfl, w0⟩ := open_int Tryz.underlying2 (hval 0 2 v0 rfl rfl) h0
  obtain ⟨a1, rfl, rfl, rfl, w1⟩ := open_int Tryz.underlying2 (hval 1 2 v1 rfl rfl) h1
  clear hA0 hval0
  refine (con10.calls [.one (.v (.int .i64 a0)), .one (.v (.int .i64 a1))] _ _ rfl (allP_iff.1 ⟨(by have := bounds_i64 w0; omega), (by have := bounds_i64 w1; omega), trivial⟩) (fun _ => False) (fun _ => 0) W #[.int .i64 a0, .int .i64 a1] (fun _ h => h.elim) ⟨rfl, rfl, trivial⟩).mono fun e W' ⟨u, he, _, hu, bel⟩ => ?_
  have hu : u = .bool true := hu
  subst hu
  subst he
  exact ⟨_, rfl, _, _, _, [], _, [], hW', trodAll_mk1 (shut_bool Tryz.underlying4 _), (trodAll_cons_mk (shut_int Tryz.underlying2 w0) (trodAll_cons_mk (shut_int Tryz.underlying2 w1) trodAll_mk0)), rfl, bel.frame _, fun h => by cases h⟩
set_option maxRecDepth 100000 in
set_option maxHeartbeats 2000000 in
theorem lifted (os : Os) (started : os.Started) (H : Type) (enc : TypeId × Value → H) (F : Stop.Interp) :
    ReturnsInHanded {} Tryz.checked os 10 .any ((OpenSpec.ofChange Rows.integerSmallSpec).preRow enc Tryz.prog Tryz.f10 Rows.integerSmallRow.domain false Rows.integerSmallRow.laid) (((OpenSpec.ofChange Rows.integerSmallSpec).at F).post enc Tryz.prog Tryz.f10 false true false false) := by
  refine returnsInHanded_of_row (C := Tryz.checked) (s := OpenSpec.ofChange Rows.integerSmallSpec) own started (by kernel_rfl) Tryz.func10
    (witness_row_atRef (enc := enc) (C := Tryz.checked) false (laidWorld os) #[.int .i64 0, .int .i64 0] rfl (by kernel_rfl) (by kernel_rfl) (by kernel_rfl) (witness_row os enc)) ?_
  intro W base args ds gs before hval hW _ _ _ _ _ _
  exact contract H enc W base args ds gs before hval hW
theorem said : Rows.IntegerSmallSaid :=
  OpenClaim.holds_of_cond 10 Tryz.f10 rfl rfl rfl rfl rfl rfl rfl ⟨rfl, rfl, rfl, rfl, rfl⟩ rfl rfl rfl rfl rfl (by kernel_rfl) Tryz.func10 (by kernel_rfl)
    (of_decide_eq_true (by kernel_rfl)) (by unfold Func.isWrapper; first | (rw [if_pos (by decide +kernel)]; kernel_rfl) | (rw [if_neg (by decide +kernel)]; exact ⟨rfl, rfl⟩))
    (fun os started H enc _ F => by rw [OpenClaim.pre_eq_preRow]; exact lifted os started H enc F)
theorem plain (f : FuncId) (fn : Func) (hf : Tryz.pinned.checked.prog.funcNamed Rows.integerSmallRow.func = some f) (hfn : Tryz.pinned.checked.prog.funcs[f]? = some fn) :
    true = Tryz.pinned.checked.prog.looks [] ∧ ∀ (j : Nat) t, fn.params[j]? = some t → Tryz.pinned.checked.prog.wantsStandIn t = false := by
  obtain rfl : f = 10 := Option.some.inj ((show Tryz.prog.funcNamed Rows.integerSmallRow.func = some 10 by kernel_rfl).symm.trans hf) |>.symm
  obtain rfl : fn = Tryz.f10 := (Option.some.inj (Tryz.func10.symm.trans hfn)).symm
  refine ⟨by kernel_rfl, fun j t ht => ?_⟩
  rw [Tryz.params10] at ht
  have hm := Array.mem_of_getElem? ht
  simp only [List.mem_toArray, List.mem_cons, List.not_mem_nil, or_false] at hm
  rcases hm with rfl | rfl
  · exact (show Tryz.prog.wantsStandIn 2 = false by kernel_rfl)
  · exact (show Tryz.prog.wantsStandIn 2 = false by kernel_rfl)
theorem card : Rows.IntegerSmallCardSaid :=
  Claim7.holds_tied_plain_at .later [] _ _ _ _ said (fun _ h => by cases h) (by kernel_rfl) (fun _ h => by cases h) integerSmall_row_tie rfl ⟨rfl, rfl⟩ (by kernel_rfl) rfl plain (by kernel_rfl)
end Go.Proofs.YtkfdnpbpebmhaaaGreatDoor.integerSmall
namespace Go.Proofs.YtkfdnpbpebmhaaaGreatDoor
/-- The law IntegerSmall: its card. -/
theorem integerSmall_card : Rows.IntegerSmallCardSaid := integerSmall.card
#print axioms integerSmall_card
end Go.Proofs.YtkfdnpbpebmhaaaGreatDoor
