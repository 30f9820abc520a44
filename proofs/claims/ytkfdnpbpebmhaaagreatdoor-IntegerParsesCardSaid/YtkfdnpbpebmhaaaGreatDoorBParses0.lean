/- The law IntegerParses: the row and its card. For every input the call answers true, and what was handed in reads as before. Conditions: the listed package-level variables start as the program's text lays them. In this text, besides: The law of parsing: its loops; Runs: the law of parsing; Laws: parsing; The law IntegerParses: the row and its card. For every input the call answers true, and what was handed in reads as before. Conditions: the listed package-level variables start as the program's text lays them. -/
import Derived.Test.YtkfdnpbpebmhaaaGreatDoorProg
import Derived.Test.YtkfdnpbpebmhaaaGreatDoorZ0
import Derived.Test.YtkfdnpbpebmhaaaGreatDoorZ1
import Derived.Test.YtkfdnpbpebmhaaaGreatDoorZ2
import Derived.Test.YtkfdnpbpebmhaaaGreatDoorZ3
import Derived.Test.YtkfdnpbpebmhaaaGreatDoorZ4
import Derived.Test.YtkfdnpbpebmhaaaGreatDoorZ5
import Derived.Test.YtkfdnpbpebmhaaaGreatDoorZ6
namespace Go.Proofs.YtkfdnpbpebmhaaaGreatDoor.Spec
open Go Go.RowKit Sx Num

def u16V (n : Int) : SV := .one (.v (.int .u16 n))
def I9 (s : ByteArray) (n : Int) (zs : List Int) (i : Nat) : St := ⟨[(0, .s (sStr s)), (1, .s (u16V n)), (5, .s (boo true)), (6, .s (.one (.sl 32 0 5 5))), (7, .s (num i))], [(32, ⟨9, .ints .str zs, true⟩)]⟩
def O9 (s : ByteArray) (n : Int) : St := ⟨[(0, .s (sStr s)), (1, .s (u16V n)), (5, .s (boo true))], []⟩
def F9 (st : St) : Option (Ex × St × List Prop) :=
  match liv st.boxes 0, lk st.tmps 0, lk st.tmps 1, lk st.tmps 5, lk st.tmps 6, lk st.tmps 7, lk (fixBs st.boxes) 32 with
  | false, some (.s (.one (.v (.string s)))), some (.s (.one (.v (.int .u16 n)))), some (.s (.one (.v (.bool true)))), some (.s (.one (.sl 32 0 5 5))), some (.s (.one (.v (.int .i64 i)))), some ⟨9, .ints .str zs, true⟩ =>
    some (.exit 0, O9 s n, [i = 0, zs.length = 5])
  | _, _, _, _, _, _, _ => none
/-- A text with so many ones behind it. -/
def o_ones (t : ByteArray) : Nat → ByteArray
  | 0 => t
  | m + 1 => o_ones (o_cat t (ByteArray.mk #[(49 : UInt8)])) m
def I9b (n : Int) (t : ByteArray) (i : Nat) : St := ⟨[(1, .s (u16V n)), (5, .s (boo true)), (12, .s (sStr t)), (13, .s (num i))], []⟩
def O9b (t : ByteArray) : St := ⟨[(5, .s (boo true)), (12, .s (sStr t))], []⟩
def F9b (st : St) : Option (Ex × St × List Prop) :=
  match liv st.boxes 0, lk st.tmps 1, lk st.tmps 5, lk st.tmps 12, lk st.tmps 13 with
  | false, some (.s (.one (.v (.int .u16 n)))), some (.s (.one (.v (.bool true)))), some (.s (.one (.v (.string t)))), some (.s (.one (.v (.int .i64 i)))) =>
    some (.exit 2, O9b (o_ones t (4001 + n.toNat % 100)), [i = 0, 0 ≤ n ∧ n < 65536, t.size ≤ 60])
  | _, _, _, _, _ => none
def L9 : Loops := fun k => bif Nat.beq k 8 then some F9 else bif Nat.beq k 16 then some F9b else none

end Go.Proofs.YtkfdnpbpebmhaaaGreatDoor.Spec
section
set_option maxRecDepth 100000
namespace Go.Proofs.YtkfdnpbpebmhaaaGreatDoor.Spec
open Go Go.RowKit Sx Num

theorem loop9a (s : ByteArray) (n : Int) (zs : List Int) (i : Nat) : codeV Tryz.prog (lk E23) L0 (G1 [58, 63]) Tryz.f9.ntmps 60 (loopC Tryz.f9 0) [0, 1, 5, 6, 7] [32] (I9 s n zs i) = (let q0 := o_str (List.getD zs ((0 : Nat) + Int.toNat (↑i : Int)) (0 : Int)); let q1 := (Bool.not (decide (o_qe q0 = o_qe q0))) = false; let q2 := (0 : Int) ≤ (↑i : Int) ∧ (↑i : Int) < (↑(5 : Nat) : Int); let q3 := (0 : Nat) + Int.toNat (↑i : Int) < List.length zs; let q4 := o_sz big (o_rt (o_qz q0)); some (Ex.normal, { tmps := [((0 : Nat), AV.s (SV.one (LV.v (Value.string s)))), ((1 : Nat), AV.s (SV.one (LV.v (Value.int .u16 n)))), ((5 : Nat), AV.s (SV.one (LV.v (Value.bool true)))), ((6 : Nat), AV.s (SV.one (LV.sl (32 : Nat) (0 : Nat) (5 : Nat) (5 : Nat)))), ((7 : Nat), AV.s (SV.one (LV.v (Value.int .i64 (IntKind.wrap .i64 ((↑i : Int) + (1 : Int)))))))], boxes := [((32 : Nat), { ty := nat_lit 9, bc := BC.ints EK.str zs, mut_ := true })] }, [decide ((↑i : Int) < (↑(5 : Nat) : Int)) = true, q2, q3, q2, q3, q1, q1, q1, o_okz (o_qz q0), o_okz (o_qz q0), q4, q4, q1, q1, (Bool.not (decide (o_rt (o_qz q0) = o_rt (o_qz q0)))) = false])) := by kernel_rfl
theorem loop9b (s : ByteArray) (n : Int) (zs : List Int) (i : Nat) : codeV Tryz.prog (lk E23) L0 (G1 [36]) Tryz.f9.ntmps 60 (loopC Tryz.f9 0) [0, 1, 5] [] (I9 s n zs i) = some (Ex.exit (0 : Nat), { tmps := [((0 : Nat), AV.s (SV.one (LV.v (Value.string s)))), ((1 : Nat), AV.s (SV.one (LV.v (Value.int .u16 n)))), ((5 : Nat), AV.s (SV.one (LV.v (Value.bool true))))], boxes := [] }, [decide ((↑i : Int) < (↑(5 : Nat) : Int)) = false]) := by kernel_rfl
theorem loop9c (n : Int) (t : ByteArray) (i : Nat) : codeV Tryz.prog (lk E23) L0 (G1 []) Tryz.f9.ntmps 60 (loopC Tryz.f9 1) [1, 5, 12, 13] [] (I9b n t i) = some (Ex.normal, { tmps := [((1 : Nat), AV.s (SV.one (LV.v (Value.int .u16 n)))), ((5 : Nat), AV.s (SV.one (LV.v (Value.bool true)))), ((12 : Nat), AV.s (SV.one (LV.v (Value.string (o_cat t (ByteArray.mk #[(49 : UInt8)])))))), ((13 : Nat), AV.s (SV.one (LV.v (Value.int .i64 (IntKind.wrap .i64 ((↑i : Int) + (1 : Int)))))))], boxes := [] }, [¬(100 : Int) = (0 : Int), decide ((↑i : Int) < IntKind.wrap .i64 ((4001 : Int) + IntKind.wrap .i64 (Int.tmod n (100 : Int)))) = true, ByteArray.size t + ByteArray.size (ByteArray.mk #[(49 : UInt8)]) ≤ (9223372036854775807 : Nat)]) := by kernel_rfl
theorem loop9d (n : Int) (t : ByteArray) (i : Nat) : codeV Tryz.prog (lk E23) L0 (G1 [70]) Tryz.f9.ntmps 60 (loopC Tryz.f9 1) [5, 12] [] (I9b n t i) = some (Ex.exit (2 : Nat), { tmps := [((5 : Nat), AV.s (SV.one (LV.v (Value.bool true)))), ((12 : Nat), AV.s (SV.one (LV.v (Value.string t))))], boxes := [] }, [¬(100 : Int) = (0 : Int), decide ((↑i : Int) < IntKind.wrap .i64 ((4001 : Int) + IntKind.wrap .i64 (Int.tmod n (100 : Int)))) = false]) := by kernel_rfl
theorem run9a (s : ByteArray) (n : Int) : fnEx Tryz.prog (lk E23) L9 (G1 [18]) 60 Tryz.f9 [.one (.v (.string s)), .one (.v (.int .u16 n))] = some (AV.s (SV.one (LV.v (Value.bool true))), [false = false, decide ((60 : Int) < (↑(ByteArray.size s) : Int)) = true]) := by kernel_rfl
theorem run9b (s : ByteArray) (n : Int) : fnEx Tryz.prog (lk E23) L9 (G1 [18, 21]) 60 Tryz.f9 [.one (.v (.string s)), .one (.v (.int .u16 n))] = (let q0 := o_ones s ((4001 : Nat) + Int.toNat n % (100 : Nat)); let q1 := decide ((↑(List.length (enc (Int.natAbs (o_qz q0)))) : Int) = (0 : Int)) = true; let q2 := decide (o_qe q0 = (2 : Int)) = true; let q3 := (9223372036854775807 : Nat); some (AV.s (SV.one (LV.v (Value.bool (Bool.not (decide (o_qz q0 < (0 : Int))))))), [false = false, decide ((60 : Int) < (↑(ByteArray.size s) : Int)) = false, ByteArray.size (ByteArray.mk #[(45 : UInt8)]) + ByteArray.size s ≤ q3, ByteArray.size (ByteArray.mk #[(48 : UInt8)]) + ByteArray.size s ≤ q3, ByteArray.size s + ByteArray.size (ByteArray.mk #[(55 : UInt8)]) ≤ q3, ByteArray.size (ByteArray.mk #[(52 : UInt8)]) + ByteArray.size s ≤ q3, (0 : Int) = (0 : Int), (0 : Nat) + (1 : Nat) + (1 : Nat) + (1 : Nat) + (1 : Nat) + (1 : Nat) = (5 : Nat), (0 : Int) = (0 : Int), (0 : Int) ≤ n ∧ n < (65536 : Int), ByteArray.size s ≤ (60 : Nat), true = true, true = true, true = true, q2, q2, q2, q2, q2, q1, q1, q1, q1])) := by kernel_rfl
end Go.Proofs.YtkfdnpbpebmhaaaGreatDoor.Spec
end
namespace Go.Proofs.YtkfdnpbpebmhaaaGreatDoor.Spec
open Go Go.RowKit Sx Num

theorem ones_size (t : ByteArray) (m : Nat) : (o_ones t m).size = t.size + m := by
  induction m generalizing t with
  | zero => rfl
  | succ m ih =>
    unfold o_ones
    rw [ih, cat_size, show ByteArray.size (ByteArray.mk #[(49 : UInt8)]) = 1 from rfl]
    omega
theorem qz_sz9 (s : ByteArray) : o_sz 4000 (o_qz s) := by
  obtain ⟨l, rfl⟩ : ∃ l, s = tx l := ⟨s.data.toList, rfl⟩
  unfold o_qz
  split
  · rename_i h
    obtain ⟨hl, ht⟩ := qe_zero h
    obtain ⟨v1, v2, v3⟩ := cutm_val l
    have hz := val10_sz _ (v2 ht) (k := 4000) (by omega)
    rw [list_tx, ← v1]
    have := len_lt hz (Nat.le_refl _)
    unfold o_sz o_toI
    rw [nv_enc]
    unfold o_val
    split <;> omega
  · exact sz_zero _
theorem qz_big (s : ByteArray) : o_sz big (o_qz s) := sz_mono (qz_sz9 s) (by unfold big; decide)
theorem sub9 {st : St} {e : Ex} {s : St} {obs : List Prop} (h : F9 st = some (e, s, obs)) (hob : AllP obs) : ∃ x : ByteArray × Int × List Int × Nat, (x.2.2.1.length = 5 ∧ x.2.2.2 ≤ 5) ∧ SubS (fixSt st) (I9 x.1 x.2.1 x.2.2.1 x.2.2.2) ∧ e = .exit 0 ∧ s = O9 x.1 x.2.1 := by
  unfold F9 at h
  split at h
  · rename_i s0 n i zs hz h0 h1 h5 h6 h7 b32
    simp only [Option.some.injEq, Prod.mk.injEq] at h
    obtain ⟨rfl, rfl, rfl⟩ := h
    obtain ⟨rfl, hl, _⟩ := hob
    refine ⟨(s0, n, zs, 0), ⟨hl, Nat.zero_le _⟩, ⟨?_, ?_, ?_⟩, rfl, rfl⟩
    · intro p hp
      simp only [I9, List.mem_cons, List.not_mem_nil, or_false] at hp
      rcases hp with rfl | rfl | rfl | rfl | rfl <;> exact ⟨by assumption, rfl⟩
    · intro p hp
      simp only [I9, List.mem_cons, List.not_mem_nil, or_false] at hp
      rcases hp with rfl
      exact ⟨by assumption, rfl⟩
    · intro hl
      have : liv (fixSt st).boxes = liv st.boxes := liv_fix _
      rw [this, hz] at hl; cases hl
  · cases h
theorem sub9b {st : St} {e : Ex} {s : St} {obs : List Prop} (h : F9b st = some (e, s, obs)) (hob : AllP obs) : ∃ x : Int × ByteArray × Nat × Nat, (x.2.2.1 + x.2.2.2 = 4001 + x.1.toNat % 100 ∧ (0 ≤ x.1 ∧ x.1 < 65536) ∧ x.2.1.size ≤ 60 + x.2.2.1) ∧ SubS (fixSt st) (I9b x.1 x.2.1 x.2.2.1) ∧ e = .exit 2 ∧ s = O9b (o_ones x.2.1 x.2.2.2) := by
  unfold F9b at h
  split at h
  · rename_i n t i hz h1 h5 h12 h13
    simp only [Option.some.injEq, Prod.mk.injEq] at h
    obtain ⟨rfl, rfl, rfl⟩ := h
    obtain ⟨rfl, hn, hl, _⟩ := hob
    refine ⟨(n, t, 0, 4001 + n.toNat % 100), ⟨Nat.zero_add _, hn, hl⟩, ⟨?_, ?_, ?_⟩, rfl, rfl⟩
    · intro p hp
      simp only [I9b, List.mem_cons, List.not_mem_nil, or_false] at hp
      rcases hp with rfl | rfl | rfl | rfl <;> exact ⟨by assumption, rfl⟩
    · intro p hp
      cases hp
    · intro hl
      have : liv (fixSt st).boxes = liv st.boxes := liv_fix _
      rw [this, hz] at hl; cases hl
  · cases h
theorem lo9 : ∀ d ∈ loopsF Tryz.f9, LoopOk Tryz.prog Tryz.f9.ntmps L9 d := by
  rw [show loopsF Tryz.f9 = [loopC Tryz.f9 0, loopC Tryz.f9 1] by kernel_rfl]
  intro d hd
  simp only [List.mem_cons, List.not_mem_nil, or_false] at hd
  rcases hd with rfl | rfl
  · refine loop_okF (k := 8) (f := F9) (α := ByteArray × Int × List Int × Nat) (by kernel_rfl) (by kernel_rfl) (fun x => I9 x.1 x.2.1 x.2.2.1 x.2.2.2) (fun x => O9 x.1 x.2.1) (fun x => x.2.2.1.length = 5 ∧ x.2.2.2 ≤ 5) (fun x => 5 - x.2.2.2) (.exit 0) (by simp) (fun st e s obs h hob => sub9 h hob) ?_
    rintro ⟨s, n, zs, i⟩ ⟨hl, hi⟩
    have hl : zs.length = 5 := hl
    have hi : i ≤ 5 := hi
    have hno : ∀ d ∈ loopsOf (loopC Tryz.f9 0), LoopOk Tryz.prog Tryz.f9.ntmps L0 d := by rw [show loopsOf (loopC Tryz.f9 0) = [] by kernel_rfl]; intro d hd; cases hd
    by_cases h5 : i < 5
    · refine (codeV_sound hmix E23ok.hS hno (loop9a s n zs i) ?_).mono ?_
      · obtain ⟨z, hz⟩ : ∃ z, o_str (zs.getD (0 + Int.toNat (i : Int)) 0) = z := ⟨_, rfl⟩
        have zb := qz_big z
        simp only [AllP, rt_eq, okz_t, hz]
        and_intros
        all_goals first
          | exact trivial
          | rfl
          | exact nd rfl
          | exact zb
          | exact decide_eq_true (by omega)
          | omega
      · rintro e s' ⟨rfl, hs⟩
        have w1 : IntKind.wrap IntKind.i64 ((i : Int) + 1) = ((i + 1 : Nat) : Int) := by rw [wi64 _ (by omega) (by omega)]; omega
        refine .inl ⟨rfl, (s, n, zs, i + 1), ⟨hl, h5⟩, by show 5 - (i + 1) < 5 - i; omega, ?_, rfl⟩
        simp only [w1] at hs
        exact hs
    · refine (codeV_sound hmix E23ok.hS hno (loop9b s n zs i) ?_).mono ?_
      · exact ⟨decide_eq_false (by omega), trivial⟩
      · rintro e s' ⟨rfl, hs⟩
        exact .inr ⟨rfl, hs⟩
  · refine loop_okF (k := 16) (f := F9b) (α := Int × ByteArray × Nat × Nat) (by kernel_rfl) (by kernel_rfl) (fun x => I9b x.1 x.2.1 x.2.2.1) (fun x => O9b (o_ones x.2.1 x.2.2.2)) (fun x => x.2.2.1 + x.2.2.2 = 4001 + x.1.toNat % 100 ∧ (0 ≤ x.1 ∧ x.1 < 65536) ∧ x.2.1.size ≤ 60 + x.2.2.1) (fun x => x.2.2.2) (.exit 2) (by simp) (fun st e s obs h hob => sub9b h hob) ?_
    rintro ⟨n, t, i, m⟩ ⟨hm, hn, ht⟩
    have hm : i + m = 4001 + n.toNat % 100 := hm
    have hn : 0 ≤ n ∧ n < 65536 := hn
    have ht : t.size ≤ 60 + i := ht
    have hno : ∀ d ∈ loopsOf (loopC Tryz.f9 1), LoopOk Tryz.prog Tryz.f9.ntmps L0 d := by rw [show loopsOf (loopC Tryz.f9 1) = [] by kernel_rfl]; intro d hd; cases hd
    have w0 : IntKind.wrap .i64 (4001 + IntKind.wrap .i64 (Int.tmod n 100)) = ((4001 + n.toNat % 100 : Nat) : Int) := by
      rw [Int.tmod_eq_emod_of_nonneg hn.1, wi64 (n % 100) (by omega) (by omega), wi64 _ (by omega) (by omega)]
      omega
    cases m with
    | zero =>
      refine (codeV_sound hmix E23ok.hS hno (loop9d n t i) ?_).mono ?_
      · rw [w0]
        exact ⟨by decide, decide_eq_false (by omega), trivial⟩
      · rintro e s' ⟨rfl, hs⟩
        exact .inr ⟨rfl, hs⟩
    | succ m =>
      refine (codeV_sound hmix E23ok.hS hno (loop9c n t i) ?_).mono ?_
      · rw [w0, show ByteArray.size (ByteArray.mk #[(49 : UInt8)]) = 1 from rfl]
        exact ⟨by decide, decide_eq_true (by omega), by omega, trivial⟩
      · rintro e s' ⟨rfl, hs⟩
        have w1 : IntKind.wrap IntKind.i64 ((i : Int) + 1) = ((i + 1 : Nat) : Int) := by rw [wi64 _ (by omega) (by omega)]; omega
        refine .inl ⟨rfl, (n, o_cat t (ByteArray.mk #[(49 : UInt8)]), i + 1, m), ⟨by show i + 1 + m = _; omega, hn, ?_⟩, by show m < m + 1; omega, ?_, rfl⟩
        · show (o_cat t (ByteArray.mk #[(49 : UInt8)])).size ≤ 60 + (i + 1)
          rw [cat_size, show ByteArray.size (ByteArray.mk #[(49 : UInt8)]) = 1 from rfl]
          omega
        · simp only [w1] at hs
          exact hs
def spLaw9 : Sp
  | [.one (.v (.string s)), .one (.v (.int .u16 n))] => some (.s (boo true), [s.size ≤ 9223372036854775807, 0 ≤ n ∧ n < 65536])
  | _ => none
set_option maxRecDepth 100000 in
theorem con9 : Con Tryz.prog 9 spLaw9 := by
  refine con_run (L := L9) (fn := Tryz.f9) hmix E23ok.hS lo9 (by kernel_rfl) (fun _ => by kernel_rfl) ?_
  intro avs r0 ps hsp hps
  unfold spLaw9 at hsp
  split at hsp
  · rename_i s n
    simp only [Option.some.injEq, Prod.mk.injEq] at hsp
    obtain ⟨rfl, rfl⟩ := hsp
    obtain ⟨_, hn, _⟩ := hps
    by_cases h60 : 60 < s.size
    · refine ⟨rfl, _, _, _, _, run9a s n, rfl, ?_⟩
      exact ⟨rfl, decide_eq_true (by omega), trivial⟩
    · have hT := ones_size s (4001 + n.toNat % 100)
      obtain ⟨T, eT⟩ : ∃ T, o_ones s (4001 + n.toNat % 100) = T := ⟨_, rfl⟩
      rw [eT] at hT
      have q1 : o_qe T = 2 := by unfold o_qe; rw [if_pos (by omega)]
      have q2 : o_qz T = 0 := by unfold o_qz; rw [q1, if_neg (by decide)]
      have z1 : ∀ b : UInt8, ByteArray.size (ByteArray.mk #[b]) = 1 := fun _ => rfl
      refine ⟨rfl, _, _, _, _, run9b s n, booE (by simp only [eT, q2]; rfl), ?_⟩
      simp only [AllP, eT, q1, q2, z1]
      and_intros
      all_goals first
        | exact trivial
        | exact decide_eq_true rfl
        | exact decide_eq_false (by omega)
        | omega
        | rfl
  · cases hsp

end Go.Proofs.YtkfdnpbpebmhaaaGreatDoor.Spec
namespace Go.Proofs.YtkfdnpbpebmhaaaGreatDoor.integerParses
open Go Go.RowKit Go.ChangeShapes Go.WideShapes Go.ChangeAt Sx Num Spec Row
open Go.ChangeMaps (open_string shut_string)

theorem witness_row (os : Os) {H : Type} (enc : TypeId × Value → H) :
    (OpenSpec.ofChange Rows.integerParsesSpec).preRow enc Tryz.prog Tryz.f9 Rows.integerParsesRow.domain false Rows.integerParsesRow.laid ((laidWorld os).forCall (fun _ _ => 0) ⟨#[], #[.string ⟨#[]⟩, .int .u16 0], []⟩).memory #[.string ⟨#[]⟩, .int .u16 0] := by
  have hw : (DataW.whole enc Tryz.prog ((laidWorld os).forCall (fun _ _ => 0) ⟨#[], #[.string ⟨#[]⟩, .int .u16 0], []⟩).memory Tryz.f9.params.toList (OpenSpec.ofChange Rows.integerParsesSpec).vars false (#[.string ⟨#[]⟩, .int .u16 0] : Array Value).toList 8).map (fun x => (x.1, x.2.1)) =
      some ([.lit (.string []), .lit (.int .u16 0)], []) := by kernel_rfl
  obtain ⟨⟨x1, x2, x3⟩, hx, hx1⟩ := Option.map_eq_some_iff.1 hw
  simp only [Prod.mk.injEq] at hx1
  obtain ⟨rfl, rfl⟩ := hx1
  exact OpenSpec.preRow_of_cond 8 hx (by kernel_rfl) (fun k hk => by cases hk) (by kernel_rfl) (laid_met os _)
set_option maxRecDepth 100000 in
theorem contract (H : Type) (enc : TypeId × Value → H) (W : World) (base : Nat) (args : Array Value) (ds gs : List (DataW H)) (before : List MemPlace)
    (hval0 : ∀ (j : Nat) t v, Tryz.f9.params[j]? = some t → args[j]? = some v → Value.okWide Tryz.prog W .any base t v)
    (hW : DataW.Whole enc Tryz.prog Tryz.f9.params.toList Rows.integerParsesSpec.vars false W args.toList ds gs before) :
    Calls Tryz.prog 9 args W fun e W' => ∃ v, e = .returned v ∧ Rows.integerParsesSpec.post enc Tryz.prog Tryz.f9 false true false false W args v W' := by
  have hval : ∀ (j : Nat) t v, Tryz.f9.params[j]? = some t → args[j]? = some v → Value.okWide Tryz.prog W .any base t v := hval0
  have hW' := hW
  obtain ⟨p, q, hA0, hV, rfl, hfz, hnd⟩ := hW
  have hA : DataW.TrodAll enc Tryz.prog W 0 (fun _ => true) true Tryz.f9.params.toList args.toList ds p := hA0
  rw [Tryz.params9] at hA hval
  obtain ⟨v0, vs0, d0, ds0, p0, q0, hargs, rfl, rfl, h0, r0⟩ := trodAll_cons hA
  obtain ⟨v1, vs1, d1, ds1, p1, q1, rfl, rfl, rfl, h1, r1⟩ := trodAll_cons r0
  obtain ⟨rfl, rfl, rfl⟩ := trodAll_nil r1
  obtain rfl : args = #[v0, v1] := by cases args; simp_all
  obtain ⟨rfl, rfl⟩ := trodVars_none hV
  obtain ⟨a0, rfl, rfl, rfl, y0⟩ := open_string Tryz.underlying9 (hval 0 9 v0 rfl rfl) h0
  obtain ⟨a1, rfl, rfl, rfl, w1⟩ := open_int Tryz.underlying48 (hval 1 48 v1 rfl rfl) h1
  clear hA0 hval0
  refine (con9.calls [sStr a0, .one (.v (.int .u16 a1))] _ _ rfl (allP_iff.1 ⟨(by unfold maxLen at y0; omega), (by have := bounds_u16 w1; omega), trivial⟩) (fun _ => False) (fun _ => 0) W #[.string a0, .int .u16 a1] (fun _ h => h.elim) ⟨rfl, rfl, trivial⟩).mono fun e W' ⟨u, he, _, hu, bel⟩ => ?_
  have hu : u = .bool true := hu
  subst hu
  subst he
  exact ⟨_, rfl, _, _, _, [], _, [], hW', trodAll_mk1 (shut_bool Tryz.underlying4 _), (trodAll_cons_mk (shut_string Tryz.underlying9 y0) (trodAll_cons_mk (shut_int Tryz.underlying48 w1) trodAll_mk0)), rfl, bel.frame _, fun h => by cases h⟩
set_option maxRecDepth 100000 in
set_option maxHeartbeats 2000000 in
theorem lifted (os : Os) (started : os.Started) (H : Type) (enc : TypeId × Value → H) (F : Stop.Interp) :
    ReturnsInHanded {} Tryz.checked os 9 .any ((OpenSpec.ofChange Rows.integerParsesSpec).preRow enc Tryz.prog Tryz.f9 Rows.integerParsesRow.domain false Rows.integerParsesRow.laid) (((OpenSpec.ofChange Rows.integerParsesSpec).at F).post enc Tryz.prog Tryz.f9 false true false false) := by
  refine returnsInHanded_of_row (C := Tryz.checked) (s := OpenSpec.ofChange Rows.integerParsesSpec) own started (by kernel_rfl) Tryz.func9
    (witness_row_atRef (enc := enc) (C := Tryz.checked) false (laidWorld os) #[.string ⟨#[]⟩, .int .u16 0] rfl (by kernel_rfl) (by kernel_rfl) (by kernel_rfl) (witness_row os enc)) ?_
  intro W base args ds gs before hval hW _ _ _ _ _ _
  exact contract H enc W base args ds gs before hval hW
theorem said : Rows.IntegerParsesSaid :=
  OpenClaim.holds_of_cond 9 Tryz.f9 rfl rfl rfl rfl rfl rfl rfl ⟨rfl, rfl, rfl, rfl, rfl⟩ rfl rfl rfl rfl rfl (by kernel_rfl) Tryz.func9 (by kernel_rfl)
    (of_decide_eq_true (by kernel_rfl)) (by unfold Func.isWrapper; first | (rw [if_pos (by decide +kernel)]; kernel_rfl) | (rw [if_neg (by decide +kernel)]; exact ⟨rfl, rfl⟩))
    (fun os started H enc _ F => by rw [OpenClaim.pre_eq_preRow]; exact lifted os started H enc F)
theorem plain (f : FuncId) (fn : Func) (hf : Tryz.pinned.checked.prog.funcNamed Rows.integerParsesRow.func = some f) (hfn : Tryz.pinned.checked.prog.funcs[f]? = some fn) :
    true = Tryz.pinned.checked.prog.looks [] ∧ ∀ (j : Nat) t, fn.params[j]? = some t → Tryz.pinned.checked.prog.wantsStandIn t = false := by
  obtain rfl : f = 9 := Option.some.inj ((show Tryz.prog.funcNamed Rows.integerParsesRow.func = some 9 by kernel_rfl).symm.trans hf) |>.symm
  obtain rfl : fn = Tryz.f9 := (Option.some.inj (Tryz.func9.symm.trans hfn)).symm
  refine ⟨by kernel_rfl, fun j t ht => ?_⟩
  rw [Tryz.params9] at ht
  have hm := Array.mem_of_getElem? ht
  simp only [List.mem_toArray, List.mem_cons, List.not_mem_nil, or_false] at hm
  rcases hm with rfl | rfl
  · exact (show Tryz.prog.wantsStandIn 9 = false by kernel_rfl)
  · exact (show Tryz.prog.wantsStandIn 48 = false by kernel_rfl)
theorem card : Rows.IntegerParsesCardSaid :=
  Claim7.holds_tied_plain_at .later [] _ _ _ _ said (fun _ h => by cases h) (by kernel_rfl) (fun _ h => by cases h) integerParses_row_tie rfl ⟨rfl, rfl⟩ (by kernel_rfl) rfl plain (by kernel_rfl)
end Go.Proofs.YtkfdnpbpebmhaaaGreatDoor.integerParses
namespace Go.Proofs.YtkfdnpbpebmhaaaGreatDoor
/-- The law IntegerParses: its card. -/
theorem integerParses_card : Rows.IntegerParsesCardSaid := integerParses.card
#print axioms integerParses_card
end Go.Proofs.YtkfdnpbpebmhaaaGreatDoor
