/- The law IntegerRing: the row and its card. For every input the call answers true, and what was handed in reads as before. Conditions: the listed package-level variables start as the program's text lays them. In this text, besides: Runs: the law of the ring; Laws: ring; The law IntegerRing: the row and its card. For every input the call answers true, and what was handed in reads as before. Conditions: the listed package-level variables start as the program's text lays them. -/
import Derived.Test.YtkfdnpbpebmhaaaGreatDoorProg
import Derived.Test.YtkfdnpbpebmhaaaGreatDoorZ0
import Derived.Test.YtkfdnpbpebmhaaaGreatDoorZ1
import Derived.Test.YtkfdnpbpebmhaaaGreatDoorZ2
import Derived.Test.YtkfdnpbpebmhaaaGreatDoorZ3
import Derived.Test.YtkfdnpbpebmhaaaGreatDoorZ4
import Derived.Test.YtkfdnpbpebmhaaaGreatDoorZ5
import Derived.Test.YtkfdnpbpebmhaaaGreatDoorZ6
section
set_option maxRecDepth 100000
namespace Go.Proofs.YtkfdnpbpebmhaaaGreatDoor.Spec
open Go Go.RowKit Sx Num

theorem run4 (s t u : Bool) (xs ys zs : List Int) : fnEx Tryz.prog (lk E23) L0 (G1 [16, 35, 39, 40, 44, 45, 52, 53, 60, 61, 68, 69, 77, 88, 99, 100, 113]) 60 Tryz.f4 [rawA s xs, rawA t ys, rawA u zs] = (let q0 := o_made s xs (Int.toNat (8 : Int)); let q3 := o_made t ys (Int.toNat (8 : Int)); let q8 := o_made u zs (Int.toNat (8 : Int)); let q11 := decide (o_rt q0 * (0 : Int) = (0 : Int)) = true; let q13 := decide (o_rt q0 * (-1 : Int) = -o_rt q0) = true; let q14 := decide (o_rt q0 * (1 : Int) = o_rt q0) = true; let q15 := decide (o_rt q0 + (0 : Int) = o_rt q0) = true; let q16 := o_rt (o_made s xs (8 : Nat)) + o_rt (o_made t ys (8 : Nat)); let q2 := (Bool.not (decide (o_rt q16 + o_rt (o_made u zs (8 : Nat)) = o_rt (o_made s xs (8 : Nat)) + (o_rt (o_made t ys (8 : Nat)) + o_rt (o_made u zs (8 : Nat)))))) = false; let q7 := (Bool.not (decide (o_rt q16 = o_rt (o_made t ys (8 : Nat)) + o_rt (o_made s xs (8 : Nat))))) = false; let q9 := (Bool.not (o_valid (decide (o_rt (o_made s xs (8 : Nat)) + o_rt (o_made t ys (8 : Nat)) < (0 : Int))) (enc (Int.natAbs q16)))) = false; let q17 := o_rt (o_made s xs (8 : Nat)) - o_rt (o_made t ys (8 : Nat)); let q4 := (Bool.not (o_valid (decide (o_rt (o_made s xs (8 : Nat)) - o_rt (o_made t ys (8 : Nat)) < (0 : Int))) (enc (Int.natAbs q17)))) = false; let q5 := (Bool.not (decide (o_rt (o_made t ys (8 : Nat)) + o_rt q17 = o_rt (o_made s xs (8 : Nat))))) = false; let q18 := o_rt (o_made s xs (8 : Nat)) * o_rt (o_made t ys (8 : Nat)); let q1 := (Bool.not (decide (o_rt q18 * o_rt (o_made u zs (8 : Nat)) = o_rt (o_made s xs (8 : Nat)) * (o_rt (o_made t ys (8 : Nat)) * o_rt (o_made u zs (8 : Nat)))))) = false; let q6 := (Bool.not (decide (o_rt q18 = o_rt (o_made t ys (8 : Nat)) * o_rt (o_made s xs (8 : Nat))))) = false; let q10 := (Bool.not (o_valid (decide (o_rt (o_made s xs (8 : Nat)) * o_rt (o_made t ys (8 : Nat)) < (0 : Int))) (enc (Int.natAbs q18)))) = false; let q19 := (0 : Int) ≤ (8 : Int) ∧ (8 : Int) ≤ (1000000 : Int); let q20 := o_sz big (o_rt (o_rt q0 + o_rt q3)); let q21 := (-9223372036854775808 : Int); let q22 := (9223372036854775808 : Int); let q12 := q21 ≤ (0 : Int) ∧ (0 : Int) < q22; let q23 := o_okz (o_rt q0 + o_rt q3); let q24 := enc (Int.natAbs (o_rt q0 - o_rt q3)); let q25 := enc (Int.natAbs (o_rt q0 + o_rt q3)); let q26 := enc (Int.natAbs (o_rt q0 * o_rt q3)); let q27 := o_sz big (o_rt (o_rt q0 * o_rt q3)); let q28 := o_sz big (o_rt (o_rt q0 - o_rt q3)); let q29 := o_sz big (o_rt q3 * o_rt q8); let q30 := o_okz (o_rt q0 - o_rt q3); let q31 := o_okz (o_rt q0 * o_rt q3); some (AV.s (SV.one (LV.v (Value.bool (decide (o_rt q0 - o_rt q0 = (0 : Int)))))), [false = false, Words xs, q19, Words ys, q19, Words zs, q19, o_okz q0, o_okz q3, o_sz big (o_rt q0), o_sz big (o_rt q3), o_okz q0, o_okz q3, o_sz big (o_rt q0), o_sz big (o_rt q3), o_okz q0, o_okz q3, o_sz big (o_rt q0), o_sz big (o_rt q3), Words q25, Ln q25, q9, q9, Words q26, Ln q26, q9, q9, q10, q10, Words q24, Ln q24, q10, q10, q4, q4, q4, q4, o_okz q3, o_okz q0, o_sz big (o_rt q3), o_sz big (o_rt q0), q4, q23, q20, o_sz big (o_rt q3 + o_rt q0), q4, q4, q7, q7, q7, q7, o_okz q3, o_okz q0, o_sz big (o_rt q3), o_sz big (o_rt q0), q7, q31, q27, o_sz big (o_rt q3 * o_rt q0), q7, q7, q6, q6, q6, o_okz q3, q30, o_sz big (o_rt q3), q28, q6, q6, o_okz q0, o_sz big (o_rt q3 + o_rt (o_rt q0 - o_rt q3)), o_sz big (o_rt q0), q6, q6, q5, q5, q5, q5, o_okz q3, o_sz big (o_rt q3), q5, o_okz q0, o_sz big (o_rt q0), o_sz big (-o_rt q3), q5, q30, q28, o_sz big (o_rt q0 + -o_rt q3), q5, q5, (Bool.not (decide (o_rt q17 = o_rt (o_made s xs (8 : Nat)) + -o_rt (o_made t ys (8 : Nat))))) = false, q23, o_okz q8, q20, o_sz big (o_rt q8), o_okz q3, o_okz q8, o_sz big (o_rt q3), o_sz big (o_rt q8), o_okz q0, o_sz big (o_rt q0), o_sz big (o_rt q3 + o_rt q8), o_sz big (o_rt (o_rt q0 + o_rt q3) + o_rt q8), o_sz big (o_rt q0 + (o_rt q3 + o_rt q8)), q2, q2, q2, q31, o_okz q8, q27, o_sz big (o_rt q8), q2, q2, q2, q2, o_okz q3, o_okz q8, o_sz big (o_rt q3), o_sz big (o_rt q8), q2, o_okz q0, o_sz big (o_rt q0), q29, q2, o_sz big (o_rt (o_rt q0 * o_rt q3) * o_rt q8), o_sz big (o_rt q0 * (o_rt q3 * o_rt q8)), q2, q2, q1, q1, q1, q23, o_okz q8, q20, o_sz big (o_rt q8), q1, q1, q1, o_okz q0, o_okz q8, o_sz big (o_rt q0), o_sz big (o_rt q8), q1, q1, q1, o_okz q3, o_okz q8, o_sz big (o_rt q3), o_sz big (o_rt q8), q1, o_sz big (o_rt q0 * o_rt q8), q29, q1, o_sz big (o_rt (o_rt q0 + o_rt q3) * o_rt q8), o_sz big (o_rt q0 * o_rt q8 + o_rt q3 * o_rt q8), q1, q1, (Bool.not (decide (o_rt q16 * o_rt (o_made u zs (8 : Nat)) = o_rt (o_made s xs (8 : Nat)) * o_rt (o_made u zs (8 : Nat)) + o_rt (o_made t ys (8 : Nat)) * o_rt (o_made u zs (8 : Nat))))) = false, true = true, true = true, q12, true = true, o_okz q0, o_sz big (o_rt q0), o_sz big (0 : Int), true = true, true = true, o_okz q0, o_sz big (o_rt q0 + (0 : Int)), o_sz big (o_rt q0), true = true, q15, q15, q21 ≤ (1 : Int) ∧ (1 : Int) < q22, q15, o_okz q0, o_sz big (o_rt q0), o_sz big (1 : Int), q15, q15, o_okz q0, o_sz big (o_rt q0 * (1 : Int)), o_sz big (o_rt q0), q15, q14, q14, q12, q14, o_okz q0, o_sz big (o_rt q0), o_sz big (0 : Int), q14, q12, q14, o_sz big (o_rt q0 * (0 : Int)), o_sz big (0 : Int), q14, q11, q11, q21 ≤ (-1 : Int) ∧ (-1 : Int) < q22, q11, o_okz q0, o_sz big (o_rt q0), o_sz big (-1 : Int), q11, q11, o_okz q0, o_sz big (o_rt q0), q11, o_sz big (o_rt q0 * (-1 : Int)), o_sz big (-o_rt q0), q11, q13, q13, q13, o_okz q0, o_okz q0, o_sz big (o_rt q0), o_sz big (o_rt q0), q13, q12, q13, o_sz big (o_rt q0 - o_rt q0), o_sz big (0 : Int), q13])) := by kernel_rfl
end Go.Proofs.YtkfdnpbpebmhaaaGreatDoor.Spec
end
namespace Go.Proofs.YtkfdnpbpebmhaaaGreatDoor.Spec
open Go Go.RowKit Sx Num

theorem e8 : Int.toNat 8 = 8 := rfl
set_option maxRecDepth 100000 in
theorem con4 : Con Tryz.prog 4 spLaw3 := by
  refine con_flat (l := E23) (fn := Tryz.f4) hmix E23ok (by kernel_rfl) (by kernel_rfl) (fun _ => by kernel_rfl) ?_
  intro avs r ps hsp hps
  unfold spLaw3 at hsp
  split at hsp
  · rename_i s xs t ys u zs
    simp only [Option.some.injEq, Prod.mk.injEq] at hsp
    obtain ⟨rfl, rfl⟩ := hsp
    obtain ⟨hx, hy, hz, _⟩ := hps
    have sx := made_sz s hx 8
    have sy := made_sz t hy 8
    have sz := made_sz u hz 8
    have c0 : o_sz 2 0 := szb (by decide) (by decide)
    have c1 : o_sz 2 1 := szb (by decide) (by decide)
    have c2 : o_sz 2 (-1) := szb (by decide) (by decide)
    refine ⟨rfl, _, _, _, _, run4 s t u xs ys zs, booE ?_, ?_⟩
    · simp only [rt_eq, e8]
      exact decide_eq_true (Int.sub_self _)
    · simp only [AllP, rt_eq, okz_t, e8, words_e, valid_e]
      generalize o_made s xs 8 = x at *
      generalize o_made t ys 8 = y at *
      generalize o_made u zs 8 = z at *
      and_intros
      all_goals first
        | exact trivial
        | exact sz_mono (n := big) (by repeat first | exact sx | exact sy | exact sz | exact c0 | exact c1 | exact c2 | apply sz_add | apply sz_sub | apply sz_mul | apply sz_neg) (by unfold big; decide)
        | exact (rfl : Bool.not true = false)
        | exact hx
        | exact hy
        | exact hz
        | omega
        | exact ln_sz (sz_mono (n := big) (by repeat first | exact sx | exact sy | exact sz | exact c0 | exact c1 | exact c2 | apply sz_add | apply sz_sub | apply sz_mul | apply sz_neg) (by unfold big; decide))
        | (refine nd ?_; first | omega | exact Int.mul_comm _ _ | exact Int.mul_assoc _ _ _ | exact Int.add_mul _ _ _)
        | (refine decide_eq_true ?_; first | omega | exact Int.mul_one _ | exact Int.mul_zero _)
  · cases hsp

end Go.Proofs.YtkfdnpbpebmhaaaGreatDoor.Spec
namespace Go.Proofs.YtkfdnpbpebmhaaaGreatDoor.integerRing
open Go Go.RowKit Go.ChangeShapes Go.WideShapes Go.ChangeAt Sx Num Spec Row
open Go.ChangeMaps (open_string shut_string)

theorem witness_row (os : Os) {H : Type} (enc : TypeId × Value → H) :
    (OpenSpec.ofChange Rows.integerRingSpec).preRow enc Tryz.prog Tryz.f4 Rows.integerRingRow.domain false Rows.integerRingRow.laid ((laidWorld os).forCall (fun _ _ => 0) ⟨#[], #[.agg #[.bool false, .slice none 0 0], .agg #[.bool false, .slice none 0 0], .agg #[.bool false, .slice none 0 0]], []⟩).memory #[.agg #[.bool false, .slice none 0 0], .agg #[.bool false, .slice none 0 0], .agg #[.bool false, .slice none 0 0]] := by
  have hw : (DataW.whole enc Tryz.prog ((laidWorld os).forCall (fun _ _ => 0) ⟨#[], #[.agg #[.bool false, .slice none 0 0], .agg #[.bool false, .slice none 0 0], .agg #[.bool false, .slice none 0 0]], []⟩).memory Tryz.f4.params.toList (OpenSpec.ofChange Rows.integerRingSpec).vars false (#[.agg #[.bool false, .slice none 0 0], .agg #[.bool false, .slice none 0 0], .agg #[.bool false, .slice none 0 0]] : Array Value).toList 8).map (fun x => (x.1, x.2.1)) =
      some ([.agg [.lit (.bool false), .nil], .agg [.lit (.bool false), .nil], .agg [.lit (.bool false), .nil]], []) := by kernel_rfl
  obtain ⟨⟨x1, x2, x3⟩, hx, hx1⟩ := Option.map_eq_some_iff.1 hw
  simp only [Prod.mk.injEq] at hx1
  obtain ⟨rfl, rfl⟩ := hx1
  exact OpenSpec.preRow_of_cond 8 hx (by kernel_rfl) (fun k hk => by cases hk) (by kernel_rfl) (laid_met os _)
set_option maxRecDepth 100000 in
theorem contract (H : Type) (enc : TypeId × Value → H) (W : World) (base : Nat) (args : Array Value) (ds gs : List (DataW H)) (before : List MemPlace)
    (hval0 : ∀ (j : Nat) t v, Tryz.f4.params[j]? = some t → args[j]? = some v → Value.okWide Tryz.prog W .any base t v)
    (hW : DataW.Whole enc Tryz.prog Tryz.f4.params.toList Rows.integerRingSpec.vars false W args.toList ds gs before) :
    Calls Tryz.prog 4 args W fun e W' => ∃ v, e = .returned v ∧ Rows.integerRingSpec.post enc Tryz.prog Tryz.f4 false true false false W args v W' := by
  have hval : ∀ (j : Nat) t v, Tryz.f4.params[j]? = some t → args[j]? = some v → Value.okWide Tryz.prog W .any base t v := hval0
  have hW' := hW
  obtain ⟨p, q, hA0, hV, rfl, hfz, hnd⟩ := hW
  have hA : DataW.TrodAll enc Tryz.prog W 0 (fun _ => true) true Tryz.f4.params.toList args.toList ds p := hA0
  rw [Tryz.params4] at hA hval
  obtain ⟨v0, vs0, d0, ds0, p0, q0, hargs, rfl, rfl, h0, r0⟩ := trodAll_cons hA
  obtain ⟨v1, vs1, d1, ds1, p1, q1, rfl, rfl, rfl, h1, r1⟩ := trodAll_cons r0
  obtain ⟨v2, vs2, d2, ds2, p2, q2, rfl, rfl, rfl, h2, r2⟩ := trodAll_cons r1
  obtain ⟨rfl, rfl, rfl⟩ := trodAll_nil r2
  obtain rfl : args = #[v0, v1, v2] := by cases args; simp_all
  obtain ⟨rfl, rfl⟩ := trodVars_none hV
  obtain ⟨s0, xs0, hx0, g0⟩ := open_raw Tryz.underlying25 (by kernel_rfl) rfl rfl (by kernel_rfl) (by kernel_rfl) (by kernel_rfl) (by kernel_rfl) Tryz.underlying27 (by kernel_rfl) (hval 0 25 v0 rfl rfl) h0
  have lt0 : ∀ x ∈ p0, x.block < W.heap.size := by obtain ⟨m, hm⟩ := h0; exact DataW.trod_lt m _ _ _ hm
  obtain ⟨s1, xs1, hx1, g1⟩ := open_raw Tryz.underlying25 (by kernel_rfl) rfl rfl (by kernel_rfl) (by kernel_rfl) (by kernel_rfl) (by kernel_rfl) Tryz.underlying27 (by kernel_rfl) (hval 1 25 v1 rfl rfl) h1
  have lt1 : ∀ x ∈ p1, x.block < W.heap.size := by obtain ⟨m, hm⟩ := h1; exact DataW.trod_lt m _ _ _ hm
  obtain ⟨s2, xs2, hx2, g2⟩ := open_raw Tryz.underlying25 (by kernel_rfl) rfl rfl (by kernel_rfl) (by kernel_rfl) (by kernel_rfl) (by kernel_rfl) Tryz.underlying27 (by kernel_rfl) (hval 2 25 v2 rfl rfl) h2
  have lt2 : ∀ x ∈ p2, x.block < W.heap.size := by obtain ⟨m, hm⟩ := h2; exact DataW.trod_lt m _ _ _ hm
  clear hA0 hval0
  refine (con4.calls [.agg [.v (.bool s0), .row .u32 xs0], .agg [.v (.bool s1), .row .u32 xs1], .agg [.v (.bool s2), .row .u32 xs2]] _ _ rfl (allP_iff.1 ⟨hx0, hx1, hx2, trivial⟩) (fun _ => False) (fun _ => 0) W #[v0, v1, v2] (fun _ h => h.elim) ⟨g0, g1, g2, trivial⟩).mono fun e W' ⟨u, he, _, hu, bel⟩ => ?_
  have hu : u = .bool true := hu
  subst hu
  subst he
  exact ⟨_, rfl, _, _, _, [], _, [], hW', trodAll_mk1 (shut_bool Tryz.underlying4 _), (trodAll_cons_mk (Below.trod laidOut (by kernel_rfl) (of_decide_eq_true (by kernel_rfl)) h0 bel lt0) (trodAll_cons_mk (Below.trod laidOut (by kernel_rfl) (of_decide_eq_true (by kernel_rfl)) h1 bel lt1) (trodAll_cons_mk (Below.trod laidOut (by kernel_rfl) (of_decide_eq_true (by kernel_rfl)) h2 bel lt2) trodAll_mk0))), rfl, bel.frame _, fun h => by cases h⟩
set_option maxRecDepth 100000 in
set_option maxHeartbeats 2000000 in
theorem lifted (os : Os) (started : os.Started) (H : Type) (enc : TypeId × Value → H) (F : Stop.Interp) :
    ReturnsInHanded {} Tryz.checked os 4 .any ((OpenSpec.ofChange Rows.integerRingSpec).preRow enc Tryz.prog Tryz.f4 Rows.integerRingRow.domain false Rows.integerRingRow.laid) (((OpenSpec.ofChange Rows.integerRingSpec).at F).post enc Tryz.prog Tryz.f4 false true false false) := by
  refine returnsInHanded_of_row (C := Tryz.checked) (s := OpenSpec.ofChange Rows.integerRingSpec) own started (by kernel_rfl) Tryz.func4
    (witness_row_atRef (enc := enc) (C := Tryz.checked) false (laidWorld os) #[.agg #[.bool false, .slice none 0 0], .agg #[.bool false, .slice none 0 0], .agg #[.bool false, .slice none 0 0]] rfl (by kernel_rfl) (by kernel_rfl) (by kernel_rfl) (witness_row os enc)) ?_
  intro W base args ds gs before hval hW _ _ _ _ _ _
  exact contract H enc W base args ds gs before hval hW
theorem said : Rows.IntegerRingSaid :=
  OpenClaim.holds_of_cond 4 Tryz.f4 rfl rfl rfl rfl rfl rfl rfl ⟨rfl, rfl, rfl, rfl, rfl⟩ rfl rfl rfl rfl rfl (by kernel_rfl) Tryz.func4 (by kernel_rfl)
    (of_decide_eq_true (by kernel_rfl)) (by unfold Func.isWrapper; first | (rw [if_pos (by decide +kernel)]; kernel_rfl) | (rw [if_neg (by decide +kernel)]; exact ⟨rfl, rfl⟩))
    (fun os started H enc _ F => by rw [OpenClaim.pre_eq_preRow]; exact lifted os started H enc F)
theorem plain (f : FuncId) (fn : Func) (hf : Tryz.pinned.checked.prog.funcNamed Rows.integerRingRow.func = some f) (hfn : Tryz.pinned.checked.prog.funcs[f]? = some fn) :
    true = Tryz.pinned.checked.prog.looks [] ∧ ∀ (j : Nat) t, fn.params[j]? = some t → Tryz.pinned.checked.prog.wantsStandIn t = false := by
  obtain rfl : f = 4 := Option.some.inj ((show Tryz.prog.funcNamed Rows.integerRingRow.func = some 4 by kernel_rfl).symm.trans hf) |>.symm
  obtain rfl : fn = Tryz.f4 := (Option.some.inj (Tryz.func4.symm.trans hfn)).symm
  refine ⟨by kernel_rfl, fun j t ht => ?_⟩
  rw [Tryz.params4] at ht
  have hm := Array.mem_of_getElem? ht
  simp only [List.mem_toArray, List.mem_cons, List.not_mem_nil, or_false] at hm
  rcases hm with rfl | rfl | rfl
  · exact (show Tryz.prog.wantsStandIn 25 = false by kernel_rfl)
  · exact (show Tryz.prog.wantsStandIn 25 = false by kernel_rfl)
  · exact (show Tryz.prog.wantsStandIn 25 = false by kernel_rfl)
theorem card : Rows.IntegerRingCardSaid :=
  Claim7.holds_tied_plain_at .later [] _ _ _ _ said (fun _ h => by cases h) (by kernel_rfl) (fun _ h => by cases h) integerRing_row_tie rfl ⟨rfl, rfl⟩ (by kernel_rfl) rfl plain (by kernel_rfl)
end Go.Proofs.YtkfdnpbpebmhaaaGreatDoor.integerRing
namespace Go.Proofs.YtkfdnpbpebmhaaaGreatDoor
/-- The law IntegerRing: its card. -/
theorem integerRing_card : Rows.IntegerRingCardSaid := integerRing.card
#print axioms integerRing_card
end Go.Proofs.YtkfdnpbpebmhaaaGreatDoor
