/- The law IntegerDivides: the row and its card. For every input the call answers true, and what was handed in reads as before. Conditions: the listed package-level variables start as the program's text lays them. In this text, besides: Runs: the law of division; Laws: division; The law IntegerDivides: the row and its card. For every input the call answers true, and what was handed in reads as before. Conditions: the listed package-level variables start as the program's text lays them. -/
import Derived.Test.YtkfdnpbpebmhaaaGreatDoorProg
import Derived.Test.YtkfdnpbpebmhaaaGreatDoorZ0
import Derived.Test.YtkfdnpbpebmhaaaGreatDoorZ1
import Derived.Test.YtkfdnpbpebmhaaaGreatDoorZ2
import Derived.Test.YtkfdnpbpebmhaaaGreatDoorZ3
import Derived.Test.YtkfdnpbpebmhaaaGreatDoorZ4
import Derived.Test.YtkfdnpbpebmhaaaGreatDoorZ5
import Derived.Test.YtkfdnpbpebmhaaaGreatDoorZ6
section
set_option maxRecDepth 100000
namespace Go.Proofs.YtkfdnpbpebmhaaaGreatDoor.Spec
open Go Go.RowKit Sx Num

theorem run6a (s t u : Bool) (xs ys zs : List Int) : fnEx Tryz.prog (lk E23) L0 (G1 [20]) 60 Tryz.f6 [rawA s xs, rawA t ys, rawA u zs] = (let q0 := o_made t ys (Int.toNat (6 : Int)); let q4 := decide (o_dz (o_rt q0) = (10 : Int)) = true; let q5 := o_made s xs (Int.toNat (10 : Int)); let q2 := decide ((↑(List.length (enc (Int.natAbs (o_rem (o_rt q5) (o_rt q0))))) : Int) = (0 : Int)) = true; let q3 := decide ((↑(List.length (enc (Int.natAbs (o_rt q5 / o_rt q0)))) : Int) = (0 : Int)) = true; let q6 := (0 : Int) ≤ (6 : Int) ∧ (6 : Int) ≤ (1000000 : Int); let q7 := o_made s xs (10 : Nat); let q1 := (Bool.not (decide (o_rt q7 / o_rt (o_made t ys (6 : Nat)) < (0 : Int)))) = true; some (AV.s (SV.one (LV.v (Value.bool (Bool.not (decide (o_rem (o_rt q7) (o_rt (o_made t ys (6 : Nat))) < (0 : Int))))))), [false = false, Words xs, (0 : Int) ≤ (10 : Int) ∧ (10 : Int) ≤ (1000000 : Int), Words ys, q6, Words zs, q6, o_okz q5, o_okz q0, o_sz big (o_rt q5), o_sz big (o_rt q0), decide ((↑(List.length (enc (Int.natAbs q0))) : Int) = (0 : Int)) = true, true = true, true = true, true = true, q4, q4, q4, q4, q4, q3, q3, q3, q3, q1, q1, q1, q1, q1, q2, q2, q2, q2])) := by kernel_rfl
theorem run6b (s t u : Bool) (xs ys zs : List Int) : fnEx Tryz.prog (lk E23) L0 (G1 [20, 37, 70, 74, 75, 79, 80, 83, 84, 89, 90, 99]) 60 Tryz.f6 [rawA s xs, rawA t ys, rawA u zs] = (let q0 := o_made t ys (Int.toNat (6 : Int)); let q3 := o_made u zs (Int.toNat (6 : Int)); let q5 := o_made s xs (Int.toNat (10 : Int)); let q1 := o_rem (o_rt q5) (o_rt q0); let q2 := decide ((0 : Int) ≤ sgnI (o_rt q1 - o_toI false (enc (Int.natAbs q0)))) = false; let q7 := o_rt q3 * o_rt q0 + o_rt q1; let q9 := decide (o_rem (o_rt q5) (o_rt q0) < (0 : Int)) = false; let q10 := decide (o_rt (q7 / o_rt q0) = o_rt q3) = true; let q11 := o_made s xs (10 : Nat); let q12 := decide (o_dz (o_rt q0) = (0 : Int)) = true; let q13 := o_rt (o_made t ys (6 : Nat)); let q6 := (Bool.not (o_valid (decide (o_rem (o_rt q11) q13 < (0 : Int))) (enc (Int.natAbs (o_rem (o_rt q11) q13))))) = false; let q8 := (Bool.not (decide (o_dz q13 = (0 : Int)))) = false; let q14 := (0 : Int) ≤ (6 : Int) ∧ (6 : Int) ≤ (1000000 : Int); let q15 := o_rt q11 / o_rt (o_made t ys (6 : Nat)); let q4 := (Bool.not (o_valid (decide (o_rt q11 / o_rt (o_made t ys (6 : Nat)) < (0 : Int))) (enc (Int.natAbs q15)))) = false; let q16 := enc (Int.natAbs (o_rt q5 / o_rt q0)); some (AV.s (SV.one (LV.v (Value.bool (decide (o_rt (o_rem q7 (o_rt q0)) = o_rt q1))))), [false = false, Words xs, (0 : Int) ≤ (10 : Int) ∧ (10 : Int) ≤ (1000000 : Int), Words ys, q14, Words zs, q14, o_okz q5, o_okz q0, o_sz big (o_rt q5), o_sz big (o_rt q0), decide ((↑(List.length (enc (Int.natAbs q0))) : Int) = (0 : Int)) = false, q8, q8, Words q16, Ln q16, q8, q8, q4, q4, Words (enc (Int.natAbs q1)), Ln (enc (Int.natAbs q1)), q4, q4, q6, q6, q6, q9, q9, q9, o_okz q1, o_ok false (enc (Int.natAbs q0)), o_sz big (o_rt q1), o_sz big (o_toI false (enc (Int.natAbs q0))), q9, q9, q2, q2, q2, o_okz (o_rt q5 / o_rt q0), o_okz q0, o_sz big (o_rt (o_rt q5 / o_rt q0)), o_sz big (o_rt q0), q2, q2, o_okz q1, o_sz big (o_rt (o_rt q5 / o_rt q0) * o_rt q0), o_sz big (o_rt q1), q2, q2, o_okz q5, o_sz big (o_rt (o_rt q5 / o_rt q0) * o_rt q0 + o_rt q1), o_sz big (o_rt q5), q2, q2, (Bool.not (decide (o_rt q15 * o_rt (o_made t ys (6 : Nat)) + o_rt (o_rem (o_rt q11) q13) = o_rt q11))) = false, o_okz q3, o_okz q0, o_sz big (o_rt q3), o_sz big (o_rt q0), o_okz q1, o_sz big (o_rt q3 * o_rt q0), o_sz big (o_rt q1), o_okz q0, o_sz big q7, o_sz big (o_rt q0), true = true, true = true, true = true, q12, q12, q12, o_okz (q7 / o_rt q0), o_okz q3, o_sz big (o_rt (q7 / o_rt q0)), o_sz big (o_rt q3), q12, q10, q10, q10, o_okz (o_rem q7 (o_rt q0)), o_okz q1, o_sz big (o_rt (o_rem q7 (o_rt q0))), o_sz big (o_rt q1), q10])) := by kernel_rfl
end Go.Proofs.YtkfdnpbpebmhaaaGreatDoor.Spec
end
namespace Go.Proofs.YtkfdnpbpebmhaaaGreatDoor.Spec
open Go Go.RowKit Sx Num

theorem e10 : Int.toNat 10 = 10 := rfl
theorem e6 : Int.toNat 6 = 6 := rfl
theorem sgn_nn {a : Int} : 0 ≤ sgnI a ↔ 0 ≤ a := by
  unfold sgnI
  split
  · omega
  · split <;> omega
set_option maxRecDepth 100000 in
theorem con6 : Con Tryz.prog 6 spLaw3 := by
  refine con_flat (l := E23) (fn := Tryz.f6) hmix E23ok (by kernel_rfl) (by kernel_rfl) (fun _ => by kernel_rfl) ?_
  intro avs r0 ps hsp hps
  unfold spLaw3 at hsp
  split at hsp
  · rename_i s xs t ys u zs
    simp only [Option.some.injEq, Prod.mk.injEq] at hsp
    obtain ⟨rfl, rfl⟩ := hsp
    obtain ⟨hx, hy, hz, _⟩ := hps
    have sx := made_sz s hx 10
    have sy := made_sz t hy 6
    have sz := made_sz u hz 6
    obtain ⟨x, ex⟩ : ∃ x, o_made s xs 10 = x := ⟨_, rfl⟩
    obtain ⟨y, ey⟩ : ∃ y, o_made t ys 6 = y := ⟨_, rfl⟩
    obtain ⟨z, ez⟩ : ∃ z, o_made u zs 6 = z := ⟨_, rfl⟩
    rw [ex] at sx
    rw [ey] at sy
    rw [ez] at sz
    have bx := sz_mono sx (n := big) (by unfold big; decide)
    have by' := sz_mono sy (n := big) (by unfold big; decide)
    by_cases h0 : y = 0
    · have hd : x / y = 0 := by rw [h0, Int.ediv_zero]
      have hr : o_rem x y = 0 := if_pos h0
      have hdz : o_dz y = 10 := if_pos h0
      refine ⟨rfl, _, _, _, _, run6a s t u xs ys zs, booE ?_, ?_⟩
      · simp only [rt_eq, ex, ey, hr]; rfl
      · simp only [AllP, rt_eq, okz_t, e10, e6, ex, ey, hd, hr, hdz, len0]
        and_intros
        all_goals first
          | exact trivial
          | exact bx
          | exact by'
          | exact hx
          | exact hy
          | exact hz
          | omega
          | exact decide_eq_true h0
          | rfl
    · have hr : o_rem x y = x % y := rem_ne h0
      have hdz : o_dz y = 0 := if_neg h0
      obtain ⟨q, hq⟩ : ∃ q, x / y = q := ⟨_, rfl⟩
      obtain ⟨r, hrr⟩ : ∃ r, x % y = r := ⟨_, rfl⟩
      have k0 := Int.emod_nonneg x h0
      have k1 := Int.emod_lt x h0
      have k2 := Int.mul_ediv_add_emod x y
      have sq : o_sz 10 q := hq ▸ abs_sz (Int.natAbs_ediv_le_natAbs x y) sx
      rw [hrr] at k0 k1
      rw [hq, hrr] at k2
      have sr : o_sz 6 r := abs_sz (by omega) sy
      have e1 : q * y + r = x := by rw [Int.mul_comm]; exact k2
      obtain ⟨d1, d2⟩ := divmod_unique (x := z * y + r) h0 rfl k0 (by omega)
      have hr2 : o_rem (z * y + r) y = r := by rw [rem_ne h0]; exact d2
      have hsg : decide (0 ≤ sgnI (r - (y.natAbs : Int))) = false := decide_eq_false fun h => by have := sgn_nn.1 h; omega
      have hok : o_ok false (enc y.natAbs) := by
        have := ok_enc (y.natAbs : Int)
        rwa [show decide ((y.natAbs : Int) < 0) = false from decide_eq_false (by omega), Int.natAbs_natCast] at this
      have sab : o_sz 6 (y.natAbs : Int) := abs_sz (by omega) sy
      refine ⟨rfl, _, _, _, _, run6b s t u xs ys zs, booE ?_, ?_⟩
      · simp only [rt_eq, e10, e6, ex, ey, ez, hr, hrr, hr2, decide_true]
      · simp only [AllP, rt_eq, okz_t, e10, e6, ex, ey, ez, hr, hq, hrr, hdz, d1, hr2, e1, toI_f, hsg, len0, words_e, valid_e]
        and_intros
        all_goals first
          | exact trivial
          | exact sz_mono (n := big) (by repeat first | exact sx | exact sy | exact sz | exact sq | exact sr | exact sab | apply sz_add | apply sz_sub | apply sz_mul | apply sz_neg) (by unfold big; decide)
          | exact ln_sz (sz_mono sq (by unfold big; decide))
          | exact ln_sz (sz_mono sr (by unfold big; decide))
          | exact nd rfl
          | exact hx
          | exact hy
          | exact hz
          | exact hok.1.1
          | exact hok.1.2
          | exact hok.2
          | omega
          | exact decide_eq_false h0
          | exact decide_eq_false (by omega)
          | exact decide_eq_true rfl
          | rfl
  · cases hsp

end Go.Proofs.YtkfdnpbpebmhaaaGreatDoor.Spec
namespace Go.Proofs.YtkfdnpbpebmhaaaGreatDoor.integerDivides
open Go Go.RowKit Go.ChangeShapes Go.WideShapes Go.ChangeAt Sx Num Spec Row
open Go.ChangeMaps (open_string shut_string)

theorem witness_row (os : Os) {H : Type} (enc : TypeId × Value → H) :
    (OpenSpec.ofChange Rows.integerDividesSpec).preRow enc Tryz.prog Tryz.f6 Rows.integerDividesRow.domain false Rows.integerDividesRow.laid ((laidWorld os).forCall (fun _ _ => 0) ⟨#[], #[.agg #[.bool false, .slice none 0 0], .agg #[.bool false, .slice none 0 0], .agg #[.bool false, .slice none 0 0]], []⟩).memory #[.agg #[.bool false, .slice none 0 0], .agg #[.bool false, .slice none 0 0], .agg #[.bool false, .slice none 0 0]] := by
  have hw : (DataW.whole enc Tryz.prog ((laidWorld os).forCall (fun _ _ => 0) ⟨#[], #[.agg #[.bool false, .slice none 0 0], .agg #[.bool false, .slice none 0 0], .agg #[.bool false, .slice none 0 0]], []⟩).memory Tryz.f6.params.toList (OpenSpec.ofChange Rows.integerDividesSpec).vars false (#[.agg #[.bool false, .slice none 0 0], .agg #[.bool false, .slice none 0 0], .agg #[.bool false, .slice none 0 0]] : Array Value).toList 8).map (fun x => (x.1, x.2.1)) =
      some ([.agg [.lit (.bool false), .nil], .agg [.lit (.bool false), .nil], .agg [.lit (.bool false), .nil]], []) := by kernel_rfl
  obtain ⟨⟨x1, x2, x3⟩, hx, hx1⟩ := Option.map_eq_some_iff.1 hw
  simp only [Prod.mk.injEq] at hx1
  obtain ⟨rfl, rfl⟩ := hx1
  exact OpenSpec.preRow_of_cond 8 hx (by kernel_rfl) (fun k hk => by cases hk) (by kernel_rfl) (laid_met os _)
set_option maxRecDepth 100000 in
theorem contract (H : Type) (enc : TypeId × Value → H) (W : World) (base : Nat) (args : Array Value) (ds gs : List (DataW H)) (before : List MemPlace)
    (hval0 : ∀ (j : Nat) t v, Tryz.f6.params[j]? = some t → args[j]? = some v → Value.okWide Tryz.prog W .any base t v)
    (hW : DataW.Whole enc Tryz.prog Tryz.f6.params.toList Rows.integerDividesSpec.vars false W args.toList ds gs before) :
    Calls Tryz.prog 6 args W fun e W' => ∃ v, e = .returned v ∧ Rows.integerDividesSpec.post enc Tryz.prog Tryz.f6 false true false false W args v W' := by
  have hval : ∀ (j : Nat) t v, Tryz.f6.params[j]? = some t → args[j]? = some v → Value.okWide Tryz.prog W .any base t v := hval0
  have hW' := hW
  obtain ⟨p, q, hA0, hV, rfl, hfz, hnd⟩ := hW
  have hA : DataW.TrodAll enc Tryz.prog W 0 (fun _ => true) true Tryz.f6.params.toList args.toList ds p := hA0
  rw [Tryz.params6] at hA hval
  obtain ⟨v0, vs0, d0, ds0, p0, q0, hargs, rfl, rfl, h0, r0⟩ := trodAll_cons hA
  obtain ⟨v1, vs1, d1, ds1, p1, q1, rfl, rfl, rfl, h1, r1⟩ := trodAll_cons r0
  obtain ⟨v2, vs2, d2, ds2, p2, q2, rfl, rfl, rfl, h2, r2⟩ := trodAll_cons r1
  obtain ⟨rfl, rfl, rfl⟩ := trodAll_nil r2
  obtain rfl : args = #[v0, v1, v2] := by cases args; simp_all
  obtain ⟨rfl, rfl⟩ := trodVars_none hV
  obtain ⟨s0, xs0, hx0, g0⟩ := open_raw Tryz.underlying25 (by kernel_rfl) rfl rfl (by kernel_rfl) (by kernel_rfl) (by kernel_rfl) (by kernel_rfl) Tryz.underlying27 (by kernel_rfl) (hval 0 25 v0 rfl rfl) h0
  have lt0 : ∀ x ∈ p0, x.block < W.heap.size := by obtain ⟨m, hm⟩ := h0; exact DataW.trod_lt m _ _ _ hm
  obtain ⟨s1, xs1, hx1, g1⟩ := open_raw Tryz.underlying25 (by kernel_rfl) rfl rfl (by kernel_rfl) (by kernel_rfl) (by kernel_rfl) (by kernel_rfl) Tryz.underlying27 (by kernel_rfl) (hval 1 25 v1 rfl rfl) h1
  have lt1 : ∀ x ∈ p1, x.block < W.heap.size := by obtain ⟨m, hm⟩ := h1; exact DataW.trod_lt m _ _ _ hm
  obtain ⟨s2, xs2, hx2, g2⟩ := open_raw Tryz.underlying25 (by kernel_rfl) rfl rfl (by kernel_rfl) (by kernel_rfl) (by kernel_rfl) (by kernel_rfl) Tryz.underlying27 (by kernel_rfl) (hval 2 25 v2 rfl rfl) h2
  have lt2 : ∀ x ∈ p2, x.block < W.heap.size := by obtain ⟨m, hm⟩ := h2; exact DataW.trod_lt m _ _ _ hm
  clear hA0 hval0
  refine (con6.calls [.agg [.v (.bool s0), .row .u32 xs0], .agg [.v (.bool s1), .row .u32 xs1], .agg [.v (.bool s2), .row .u32 xs2]] _ _ rfl (allP_iff.1 ⟨hx0, hx1, hx2, trivial⟩) (fun _ => False) (fun _ => 0) W #[v0, v1, v2] (fun _ h => h.elim) ⟨g0, g1, g2, trivial⟩).mono fun e W' ⟨u, he, _, hu, bel⟩ => ?_
  have hu : u = .bool true := hu
  subst hu
  subst he
  exact ⟨_, rfl, _, _, _, [], _, [], hW', trodAll_mk1 (shut_bool Tryz.underlying4 _), (trodAll_cons_mk (Below.trod laidOut (by kernel_rfl) (of_decide_eq_true (by kernel_rfl)) h0 bel lt0) (trodAll_cons_mk (Below.trod laidOut (by kernel_rfl) (of_decide_eq_true (by kernel_rfl)) h1 bel lt1) (trodAll_cons_mk (Below.trod laidOut (by kernel_rfl) (of_decide_eq_true (by kernel_rfl)) h2 bel lt2) trodAll_mk0))), rfl, bel.frame _, fun h => by cases h⟩
set_option maxRecDepth 100000 in
set_option maxHeartbeats 2000000 in
theorem lifted (os : Os) (started : os.Started) (H : Type) (enc : TypeId × Value → H) (F : Stop.Interp) :
    ReturnsInHanded {} Tryz.checked os 6 .any ((OpenSpec.ofChange Rows.integerDividesSpec).preRow enc Tryz.prog Tryz.f6 Rows.integerDividesRow.domain false Rows.integerDividesRow.laid) (((OpenSpec.ofChange Rows.integerDividesSpec).at F).post enc Tryz.prog Tryz.f6 false true false false) := by
  refine returnsInHanded_of_row (C := Tryz.checked) (s := OpenSpec.ofChange Rows.integerDividesSpec) own started (by kernel_rfl) Tryz.func6
    (witness_row_atRef (enc := enc) (C := Tryz.checked) false (laidWorld os) #[.agg #[.bool false, .slice none 0 0], .agg #[.bool false, .slice none 0 0], .agg #[.bool false, .slice none 0 0]] rfl (by kernel_rfl) (by kernel_rfl) (by kernel_rfl) (witness_row os enc)) ?_
  intro W base args ds gs before hval hW _ _ _ _ _ _
  exact contract H enc W base args ds gs before hval hW
theorem said : Rows.IntegerDividesSaid :=
  OpenClaim.holds_of_cond 6 Tryz.f6 rfl rfl rfl rfl rfl rfl rfl ⟨rfl, rfl, rfl, rfl, rfl⟩ rfl rfl rfl rfl rfl (by kernel_rfl) Tryz.func6 (by kernel_rfl)
    (of_decide_eq_true (by kernel_rfl)) (by unfold Func.isWrapper; first | (rw [if_pos (by decide +kernel)]; kernel_rfl) | (rw [if_neg (by decide +kernel)]; exact ⟨rfl, rfl⟩))
    (fun os started H enc _ F => by rw [OpenClaim.pre_eq_preRow]; exact lifted os started H enc F)
theorem plain (f : FuncId) (fn : Func) (hf : Tryz.pinned.checked.prog.funcNamed Rows.integerDividesRow.func = some f) (hfn : Tryz.pinned.checked.prog.funcs[f]? = some fn) :
    true = Tryz.pinned.checked.prog.looks [] ∧ ∀ (j : Nat) t, fn.params[j]? = some t → Tryz.pinned.checked.prog.wantsStandIn t = false := by
  obtain rfl : f = 6 := Option.some.inj ((show Tryz.prog.funcNamed Rows.integerDividesRow.func = some 6 by kernel_rfl).symm.trans hf) |>.symm
  obtain rfl : fn = Tryz.f6 := (Option.some.inj (Tryz.func6.symm.trans hfn)).symm
  refine ⟨by kernel_rfl, fun j t ht => ?_⟩
  rw [Tryz.params6] at ht
  have hm := Array.mem_of_getElem? ht
  simp only [List.mem_toArray, List.mem_cons, List.not_mem_nil, or_false] at hm
  rcases hm with rfl | rfl | rfl
  · exact (show Tryz.prog.wantsStandIn 25 = false by kernel_rfl)
  · exact (show Tryz.prog.wantsStandIn 25 = false by kernel_rfl)
  · exact (show Tryz.prog.wantsStandIn 25 = false by kernel_rfl)
theorem card : Rows.IntegerDividesCardSaid :=
  Claim7.holds_tied_plain_at .later [] _ _ _ _ said (fun _ h => by cases h) (by kernel_rfl) (fun _ h => by cases h) integerDivides_row_tie rfl ⟨rfl, rfl⟩ (by kernel_rfl) rfl plain (by kernel_rfl)
end Go.Proofs.YtkfdnpbpebmhaaaGreatDoor.integerDivides
namespace Go.Proofs.YtkfdnpbpebmhaaaGreatDoor
/-- The law IntegerDivides: its card. -/
theorem integerDivides_card : Rows.IntegerDividesCardSaid := integerDivides.card
#print axioms integerDivides_card
end Go.Proofs.YtkfdnpbpebmhaaaGreatDoor
