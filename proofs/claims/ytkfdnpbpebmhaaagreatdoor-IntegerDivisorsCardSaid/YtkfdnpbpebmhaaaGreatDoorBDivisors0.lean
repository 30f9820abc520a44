/- The law IntegerDivisors: the row and its card. For every input the call answers true, and what was handed in reads as before. Conditions: the listed package-level variables start as the program's text lays them. In this text, besides: Runs: the law of divisors; Laws: divisors; The law IntegerDivisors: the row and its card. For every input the call answers true, and what was handed in reads as before. Conditions: the listed package-level variables start as the program's text lays them. -/
import Derived.Test.YtkfdnpbpebmhaaaGreatDoorProg
import Derived.Test.YtkfdnpbpebmhaaaGreatDoorZ0
import Derived.Test.YtkfdnpbpebmhaaaGreatDoorZ1
import Derived.Test.YtkfdnpbpebmhaaaGreatDoorZ2
import Derived.Test.YtkfdnpbpebmhaaaGreatDoorZ3
import Derived.Test.YtkfdnpbpebmhaaaGreatDoorZ4
import Derived.Test.YtkfdnpbpebmhaaaGreatDoorZ5
import Derived.Test.YtkfdnpbpebmhaaaGreatDoorZ6
section
set_option maxRecDepth 100000
namespace Go.Proofs.YtkfdnpbpebmhaaaGreatDoor.Spec
open Go Go.RowKit Sx Num

theorem run12a (s t u : Bool) (xs ys zs : List Int) : fnEx Tryz.prog (lk E23) L0 (G1 [20, 44, 47, 48, 53, 54, 62, 63, 68, 69, 74, 75, 80, 90]) 60 Tryz.f12 [rawA s xs, rawA t ys, rawA u zs] = (let q4 := o_made s xs (6 : Nat) * o_rt (o_made u zs (4 : Nat)); let q10 := o_made u zs (Int.toNat (4 : Int)); let q0 := o_made s xs (Int.toNat (6 : Int)) * o_rt q10; let q2 := o_made t ys (Int.toNat (6 : Int)) * o_rt q10; let q6 := gcdZ (o_rt q0) (o_rt q2); let q7 := decide ((↑(o_gcd (Int.natAbs (o_rt q0)) (Int.natAbs (o_rt q2))) : Int) < (0 : Int)) = false; let q14 := o_bu (o_rt q0) (o_rt q2); let q9 := decide (o_rt q14 = sgnI (o_rt q0)) = true; let q15 := o_bv (o_rt q0) (o_rt q2); let q16 := o_made t ys (6 : Nat) * o_rt (o_made u zs (4 : Nat)); let q3 := o_rt q16; let q1 := gcdZ (o_rt q4) q3; let q5 := (Bool.not (decide ((↑(o_gcd (Int.natAbs q3) (Int.natAbs (-o_rt q4))) : Int) = o_rt q1))) = false; let q8 := (Bool.not (decide (o_rt q1 = o_rt q1))) = false; let q11 := (Bool.not (o_valid (decide (gcdZ (o_rt q4) q3 < (0 : Int))) (enc (Int.natAbs q1)))) = false; let q12 := (Bool.not (o_dvd (o_rt q1) (o_rt q4))) = false; let q13 := (Bool.not (o_dvd (o_rt q1) q3)) = false; let q17 := (0 : Int) ≤ (6 : Int) ∧ (6 : Int) ≤ (1000000 : Int); some (AV.s (SV.one (LV.v (Value.bool (decide ((↑(List.length (enc (Int.natAbs q15))) : Int) = (0 : Int)))))), [false = false, Words zs, (0 : Int) ≤ (4 : Int) ∧ (4 : Int) ≤ (1000000 : Int), Words xs, q17, o_okz q10, o_sz big (o_made s xs (Int.toNat (6 : Int))), o_sz big (o_rt q10), Words ys, q17, o_okz q10, o_sz big (o_made t ys (Int.toNat (6 : Int))), o_sz big (o_rt q10), o_okz q0, o_okz q2, o_sz big (o_rt q0), o_sz big (o_rt q2), o_okz q0, o_okz q2, o_sz (40000000 : Nat) (o_rt q0), o_sz (40000000 : Nat) (o_rt q2), Words (enc (Int.natAbs q6)), Ln (enc (Int.natAbs q6)), q11, q11, q11, q7, q7, q7, o_okz q6, o_okz q6, o_sz big (o_rt q6), o_sz big (o_rt q6), q7, q7, q8, q8, q8, o_okz q0, o_sz big (o_rt q0), q8, o_okz q2, o_sz big (o_rt q2), o_sz big (-o_rt q0), q8, q8, o_okz q6, o_sz big (gcdZ (o_rt q2) (-o_rt q0)), o_sz big (o_rt q6), q8, q8, q5, q5, q5, o_okz q6, o_okz q0, o_sz big (o_rt q6), o_sz big (o_rt q0), q5, q5, q12, q12, q12, o_okz q6, o_okz q2, o_sz big (o_rt q6), o_sz big (o_rt q2), q12, q12, q13, q13, q13, o_okz q10, o_okz q6, o_sz big (o_rt q10), o_sz big (o_rt q6), q13, q13, (Bool.not (o_dvd (o_rt (o_made u zs (4 : Nat))) (o_rt q1))) = false, o_okz q14, o_okz q0, o_sz big (o_rt q14), o_sz big (o_rt q0), o_okz q15, o_okz q2, o_sz big (o_rt q15), o_sz big (o_rt q2), o_sz big (o_rt q14 * o_rt q0), o_sz big (o_rt q15 * o_rt q2), o_okz q6, o_sz big (o_rt q14 * o_rt q0 + o_rt q15 * o_rt q2), o_sz big (o_rt q6), (Bool.not (decide (o_rt (o_bu (o_rt q4) q3) * o_rt q4 + o_rt (o_bv (o_rt q4) q3) * o_rt q16 = o_rt q1))) = false, decide ((↑(List.length (enc (Int.natAbs q2))) : Int) = (0 : Int)) = true, true = true, true = true, true = true, o_okz q0, o_sz big (o_rt q0), true = true, (-9223372036854775808 : Int) ≤ sgnI (o_rt q0) ∧ sgnI (o_rt q0) < (9223372036854775808 : Int), true = true, o_okz q14, o_sz big (o_rt q14), o_sz big (sgnI (o_rt q0)), true = true, q9, q9, q9, q9, q9])) := by kernel_rfl
theorem run12b (s t u : Bool) (xs ys zs : List Int) : fnEx Tryz.prog (lk E23) L0 (G1 [20, 44, 47, 48, 53, 54, 62, 63, 68, 69, 74, 75, 80, 90, 94]) 60 Tryz.f12 [rawA s xs, rawA t ys, rawA u zs] = (let q4 := o_made s xs (6 : Nat) * o_rt (o_made u zs (4 : Nat)); let q11 := o_made u zs (Int.toNat (4 : Int)); let q0 := o_made t ys (Int.toNat (6 : Int)) * o_rt q11; let q1 := o_made s xs (Int.toNat (6 : Int)) * o_rt q11; let q5 := gcdZ (o_rt q1) (o_rt q0); let q7 := decide ((↑(o_gcd (Int.natAbs (o_rt q1)) (Int.natAbs (o_rt q0))) : Int) < (0 : Int)) = false; let q10 := o_bu (o_rt q1) (o_rt q0); let q15 := o_valid (decide (o_bu (o_rt q1) (o_rt q0) < (0 : Int))) (enc (Int.natAbs q10)) = true; let q17 := o_bv (o_rt q1) (o_rt q0); let q8 := o_valid (decide (o_bv (o_rt q1) (o_rt q0) < (0 : Int))) (enc (Int.natAbs q17)) = true; let q18 := o_toI false (enc (Int.natAbs q0)) / o_rt q5; let q19 := decide (o_dz (o_rt q5) = (0 : Int)) = true; let q20 := o_made t ys (6 : Nat) * o_rt (o_made u zs (4 : Nat)); let q3 := o_rt q20; let q2 := gcdZ (o_rt q4) q3; let q6 := (Bool.not (decide ((↑(o_gcd (Int.natAbs q3) (Int.natAbs (-o_rt q4))) : Int) = o_rt q2))) = false; let q9 := (Bool.not (decide (o_rt q2 = o_rt q2))) = false; let q12 := (Bool.not (decide (o_bu (o_rt q4) q3 < (0 : Int)))) = true; let q13 := (Bool.not (o_valid (decide (gcdZ (o_rt q4) q3 < (0 : Int))) (enc (Int.natAbs q2)))) = false; let q14 := (Bool.not (o_dvd (o_rt q2) (o_rt q4))) = false; let q16 := (Bool.not (o_dvd (o_rt q2) q3)) = false; let q21 := (0 : Int) ≤ (6 : Int) ∧ (6 : Int) ≤ (1000000 : Int); some (AV.s (SV.one (LV.v (Value.bool (decide (sgnI (o_rt q10 - o_rt q18) < (0 : Int)))))), [false = false, Words zs, (0 : Int) ≤ (4 : Int) ∧ (4 : Int) ≤ (1000000 : Int), Words xs, q21, o_okz q11, o_sz big (o_made s xs (Int.toNat (6 : Int))), o_sz big (o_rt q11), Words ys, q21, o_okz q11, o_sz big (o_made t ys (Int.toNat (6 : Int))), o_sz big (o_rt q11), o_okz q1, o_okz q0, o_sz big (o_rt q1), o_sz big (o_rt q0), o_okz q1, o_okz q0, o_sz (40000000 : Nat) (o_rt q1), o_sz (40000000 : Nat) (o_rt q0), Words (enc (Int.natAbs q5)), Ln (enc (Int.natAbs q5)), q13, q13, q13, q7, q7, q7, o_okz q5, o_okz q5, o_sz big (o_rt q5), o_sz big (o_rt q5), q7, q7, q9, q9, q9, o_okz q1, o_sz big (o_rt q1), q9, o_okz q0, o_sz big (o_rt q0), o_sz big (-o_rt q1), q9, q9, o_okz q5, o_sz big (gcdZ (o_rt q0) (-o_rt q1)), o_sz big (o_rt q5), q9, q9, q6, q6, q6, o_okz q5, o_okz q1, o_sz big (o_rt q5), o_sz big (o_rt q1), q6, q6, q14, q14, q14, o_okz q5, o_okz q0, o_sz big (o_rt q5), o_sz big (o_rt q0), q14, q14, q16, q16, q16, o_okz q11, o_okz q5, o_sz big (o_rt q11), o_sz big (o_rt q5), q16, q16, (Bool.not (o_dvd (o_rt (o_made u zs (4 : Nat))) (o_rt q2))) = false, o_okz q10, o_okz q1, o_sz big (o_rt q10), o_sz big (o_rt q1), o_okz q17, o_okz q0, o_sz big (o_rt q17), o_sz big (o_rt q0), o_sz big (o_rt q10 * o_rt q1), o_sz big (o_rt q17 * o_rt q0), o_okz q5, o_sz big (o_rt q10 * o_rt q1 + o_rt q17 * o_rt q0), o_sz big (o_rt q5), (Bool.not (decide (o_rt (o_bu (o_rt q4) q3) * o_rt q4 + o_rt (o_bv (o_rt q4) q3) * o_rt q20 = o_rt q2))) = false, decide ((↑(List.length (enc (Int.natAbs q0))) : Int) = (0 : Int)) = false, o_ok false (enc (Int.natAbs q0)), o_okz q5, o_sz big (o_toI false (enc (Int.natAbs q0))), o_sz big (o_rt q5), true = true, true = true, true = true, q19, q19, Words (enc (Int.natAbs q10)), Ln (enc (Int.natAbs q10)), q19, q15, q15, Words (enc (Int.natAbs q17)), Ln (enc (Int.natAbs q17)), q15, q8, q8, q8, q8, q12, q12, q12, o_okz q10, o_okz q18, o_sz big (o_rt q10), o_sz big (o_rt q18), q12, q12])) := by kernel_rfl
end Go.Proofs.YtkfdnpbpebmhaaaGreatDoor.Spec
end
namespace Go.Proofs.YtkfdnpbpebmhaaaGreatDoor.Spec
open Go Go.RowKit Sx Num

theorem dvd_o {g a : Int} (h : g ∣ a) : o_dvd g a = true := by
  unfold o_dvd
  by_cases ha : a = 0
  · exact decide_eq_true (.inl ha)
  · refine decide_eq_true (.inr ⟨fun hg => ha ?_, Int.emod_eq_zero_of_dvd h⟩)
    subst hg
    exact Int.zero_dvd.1 h
/-- What Bezout's cofactors are worth. -/
theorem bez_law {a b : Int} (ha : o_sz 10 a) (hb : o_sz 10 b) : o_sz 10 (gcdZ a b) ∧ o_sz 10 (o_bu a b) ∧ o_sz 30 (o_bv a b) ∧ o_bu a b * a + o_bv a b * b = gcdZ a b ∧ (b = 0 → o_bu a b = sgnI a ∧ o_bv a b = 0) ∧ (b ≠ 0 → 0 ≤ o_bu a b ∧ o_bu a b < (b.natAbs : Int) / gcdZ a b ∧ 0 < gcdZ a b) := by
  by_cases h : b = 0
  · subst h
    have e1 : gcdZ a 0 = absZ a := by unfold gcdZ absZ; rw [show o_gcd a.natAbs (Int.natAbs 0) = a.natAbs from Nat.gcd_zero_right _]
    have e2 : o_bu a 0 = sgnI a := by unfold o_bu; rw [if_pos rfl]
    have e3 : o_bv a 0 = 0 := by unfold o_bv; rw [if_pos rfl]
    rw [e1, e2, e3]
    have hs : (sgnI a).natAbs ≤ 1 := by
      unfold sgnI
      split
      · decide
      · split <;> decide
    refine ⟨?_, Nat.lt_of_le_of_lt hs (by decide), sz_zero _, ?_, fun _ => ⟨rfl, rfl⟩, fun h => absurd rfl h⟩
    · unfold absZ o_sz at *; rw [Int.natAbs_natCast]; exact ha
    · rw [Int.mul_zero, Int.add_zero]
      unfold sgnI absZ
      split
      · omega
      · split <;> omega
  · obtain ⟨z1, z2, z3, z4, z5, z6⟩ := bez_sz (x := a) h (sz_mono hb (by decide))
    have hgy : gcdZ a b ∣ b := Int.ofNat_dvd_left.2 (Nat.gcd_dvd_right _ _)
    have hgp : 0 < gcdZ a b := by
      have := Nat.gcd_pos_of_pos_right a.natAbs (show 0 < b.natAbs by omega)
      unfold gcdZ o_gcd
      omega
    have hgn : gcdZ a b ≤ (b.natAbs : Int) := by
      have := Nat.le_of_dvd (show 0 < b.natAbs by omega) (Nat.gcd_dvd_right a.natAbs b.natAbs)
      unfold gcdZ o_gcd
      omega
    have sg : o_sz 10 (gcdZ a b) := abs_sz (by omega) hb
    have su : o_sz 10 (o_bu a b) := abs_sz z4 hb
    have hdv : b ∣ gcdZ a b - o_bu a b * a := by
      obtain ⟨k, hk⟩ := z6
      exact ⟨-k, by rw [Int.mul_neg, ← hk]; omega⟩
    have ev : o_bv a b = (gcdZ a b - o_bu a b * a) / b := by unfold o_bv; rw [if_neg h]
    have sv : o_sz 30 (o_bv a b) := by
      rw [ev]
      exact abs_sz (Int.natAbs_ediv_le_natAbs _ _) (sz_mono (sz_sub sg (sz_mul su ha)) (by decide))
    have hvb : o_bv a b * b = gcdZ a b - o_bu a b * a := by rw [ev]; exact Int.ediv_mul_cancel hdv
    refine ⟨sg, su, sv, by rw [hvb]; omega, fun e => absurd e h, fun _ => ⟨z5, ?_, hgp⟩⟩
    obtain ⟨k, hk⟩ := hgy
    have hkq : b / gcdZ a b = k := Int.ediv_eq_of_eq_mul_right (by omega) hk
    have hk0 : k ≠ 0 := fun e => h (by rw [hk, e, Int.mul_zero])
    have hab : (b.natAbs : Int) / gcdZ a b = (k.natAbs : Int) := by
      have e1 : (b.natAbs : Int) = gcdZ a b * (k.natAbs : Int) := by
        have : b.natAbs = (gcdZ a b).natAbs * k.natAbs := by rw [← Int.natAbs_mul, ← hk]
        rw [this, Int.natCast_mul]
        congr 1
      rw [e1, Int.mul_ediv_cancel_left _ (by omega)]
    have hu : o_bu a b = o_bz1 b.natAbs (a % b).natAbs 0 1 % k := by
      unfold o_bu o_rem
      rw [if_neg h, hkq, if_neg hk0]
    rw [hab, hu]
    have := Int.emod_lt (o_bz1 b.natAbs (a % b).natAbs 0 1) hk0
    omega
theorem sgn_lt2 {a : Int} : sgnI a < 0 ↔ a < 0 := by
  unfold sgnI
  split
  · omega
  · split <;> omega
theorem e4 : Int.toNat 4 = 4 := rfl
theorem e6d : Int.toNat 6 = 6 := rfl
set_option maxRecDepth 100000 in
theorem con12 : Con Tryz.prog 12 spLaw3 := by
  refine con_flat (l := E23) (fn := Tryz.f12) hmix E23ok (by kernel_rfl) (by kernel_rfl) (fun _ => by kernel_rfl) ?_
  intro avs r0 ps hsp hps
  unfold spLaw3 at hsp
  split at hsp
  · rename_i s xs t ys u zs
    simp only [Option.some.injEq, Prod.mk.injEq] at hsp
    obtain ⟨rfl, rfl⟩ := hsp
    obtain ⟨hx, hy, hz, _⟩ := hps
    have sx := made_sz s hx 6
    have sy := made_sz t hy 6
    have sz := made_sz u hz 4
    obtain ⟨x, ex⟩ : ∃ x, o_made s xs 6 = x := ⟨_, rfl⟩
    obtain ⟨y, ey⟩ : ∃ y, o_made t ys 6 = y := ⟨_, rfl⟩
    obtain ⟨z, ez⟩ : ∃ z, o_made u zs 4 = z := ⟨_, rfl⟩
    rw [ex] at sx
    rw [ey] at sy
    rw [ez] at sz
    have sa : o_sz 10 (x * z) := sz_mul sx sz
    have sb : o_sz 10 (y * z) := sz_mul sy sz
    have za : z ∣ x * z := Int.dvd_mul_left _ _
    have zb : z ∣ y * z := Int.dvd_mul_left _ _
    obtain ⟨a, ea⟩ : ∃ a, x * z = a := ⟨_, rfl⟩
    obtain ⟨b, eb⟩ : ∃ b, y * z = b := ⟨_, rfl⟩
    rw [ea] at sa za
    rw [eb] at sb zb
    obtain ⟨k1, k2, k3, k4, k5, k6⟩ := bez_law sa sb
    have hga : gcdZ a b ∣ a := Int.ofNat_dvd_left.2 (Nat.gcd_dvd_left _ _)
    have hgb : gcdZ a b ∣ b := Int.ofNat_dvd_left.2 (Nat.gcd_dvd_right _ _)
    have hzg : z ∣ gcdZ a b := by
      have h1 := Nat.dvd_gcd (Int.natAbs_dvd_natAbs.2 za) (Int.natAbs_dvd_natAbs.2 zb)
      exact Int.natAbs_dvd.1 (Int.ofNat_dvd.2 h1)
    have t1 := dvd_o hga
    have t2 := dvd_o hgb
    have t3 := dvd_o hzg
    have g0 : decide (((o_gcd a.natAbs b.natAbs : Nat) : Int) < 0) = false := decide_eq_false (by omega)
    have g1 : ((o_gcd b.natAbs (-a).natAbs : Nat) : Int) = gcdZ a b := by unfold gcdZ o_gcd; rw [Int.natAbs_neg, Nat.gcd_comm]
    have g2 : gcdZ b (-a) = gcdZ a b := g1
    have h4a : o_sz 40000000 a ↔ True := ⟨fun _ => trivial, fun _ => sz_mono sa (by decide)⟩
    have h4b : o_sz 40000000 b ↔ True := ⟨fun _ => trivial, fun _ => sz_mono sb (by decide)⟩
    by_cases h0 : b = 0
    · obtain ⟨u1, u2⟩ := k5 h0
      refine ⟨rfl, _, _, _, _, run12a s t u xs ys zs, booE ?_, ?_⟩
      · simp only [rt_eq, e4, e6d, ex, ey, ez, ea, eb, u2]; rfl
      · have hs := sgn_i64 a
        have s1 : o_sz 2 (sgnI a) := by
          unfold sgnI
          split
          · exact szb (by decide) (by decide)
          · split <;> exact szb (by decide) (by decide)
        rw [u1] at k2 k4
        rw [u2] at k3 k4
        simp only [AllP, rt_eq, okz_t, e4, e6d, ex, ey, ez, ea, eb, h4a, h4b, len0, g0, g1, g2, t1, t2, t3, u1, u2, k4, words_e, valid_e]
        and_intros
        all_goals first
          | exact trivial
          | exact sz_mono (n := big) (by repeat first | exact sx | exact sy | exact sz | exact sa | exact sb | exact k1 | exact k2 | exact k3 | apply sz_add | apply sz_sub | apply sz_mul | apply sz_neg) (by unfold big; decide)
          | exact ln_sz (sz_mono k1 (by unfold big; decide))
          | exact nd rfl
          | exact hx
          | exact hy
          | exact hz
          | omega
          | exact decide_eq_true h0
          | exact decide_eq_true rfl
          | rfl
    · obtain ⟨u1, u2, u3⟩ := k6 h0
      have dz : o_dz (gcdZ a b) = 0 := if_neg (by omega)
      have hok : o_ok false (enc b.natAbs) := by
        have := ok_enc (b.natAbs : Int)
        rwa [show decide ((b.natAbs : Int) < 0) = false from decide_eq_false (by omega), Int.natAbs_natCast] at this
      have sab : o_sz 10 (b.natAbs : Int) := abs_sz (by omega) sb
      have smm : o_sz 10 ((b.natAbs : Int) / gcdZ a b) := abs_sz (Int.natAbs_ediv_le_natAbs _ _) sab
      have un : decide (o_bu a b < 0) = false := decide_eq_false (by omega)
      refine ⟨rfl, _, _, _, _, run12b s t u xs ys zs, booE ?_, ?_⟩
      · simp only [rt_eq, e4, e6d, ex, ey, ez, ea, eb, toI_f]
        exact decide_eq_true (sgn_lt2.2 (by omega))
      · have v1 := valid_e (o_bu a b)
        rw [un] at v1
        simp only [AllP, rt_eq, okz_t, e4, e6d, ex, ey, ez, ea, eb, h4a, h4b, len0, g0, g1, g2, t1, t2, t3, k4, dz, toI_f, words_e, valid_e, un]
        and_intros
        all_goals first
          | exact trivial
          | exact sz_mono (n := big) (by repeat first | exact sx | exact sy | exact sz | exact sa | exact sb | exact k1 | exact k2 | exact k3 | exact sab | exact smm | apply sz_add | apply sz_sub | apply sz_mul | apply sz_neg) (by unfold big; decide)
          | exact ln_sz (sz_mono k1 (by unfold big; decide))
          | exact ln_sz (sz_mono k2 (by unfold big; decide))
          | exact ln_sz (sz_mono k3 (by unfold big; decide))
          | exact nd rfl
          | exact hx
          | exact hy
          | exact hz
          | exact hok.1.1
          | exact hok.1.2
          | exact hok.2
          | exact v1
          | omega
          | exact decide_eq_false h0
          | exact decide_eq_true rfl
          | rfl
  · cases hsp

end Go.Proofs.YtkfdnpbpebmhaaaGreatDoor.Spec
namespace Go.Proofs.YtkfdnpbpebmhaaaGreatDoor.integerDivisors
open Go Go.RowKit Go.ChangeShapes Go.WideShapes Go.ChangeAt Sx Num Spec Row
open Go.ChangeMaps (open_string shut_string)

theorem witness_row (os : Os) {H : Type} (enc : TypeId × Value → H) :
    (OpenSpec.ofChange Rows.integerDivisorsSpec).preRow enc Tryz.prog Tryz.f12 Rows.integerDivisorsRow.domain false Rows.integerDivisorsRow.laid ((laidWorld os).forCall (fun _ _ => 0) ⟨#[], #[.agg #[.bool false, .slice none 0 0], .agg #[.bool false, .slice none 0 0], .agg #[.bool false, .slice none 0 0]], []⟩).memory #[.agg #[.bool false, .slice none 0 0], .agg #[.bool false, .slice none 0 0], .agg #[.bool false, .slice none 0 0]] := by
  have hw : (DataW.whole enc Tryz.prog ((laidWorld os).forCall (fun _ _ => 0) ⟨#[], #[.agg #[.bool false, .slice none 0 0], .agg #[.bool false, .slice none 0 0], .agg #[.bool false, .slice none 0 0]], []⟩).memory Tryz.f12.params.toList (OpenSpec.ofChange Rows.integerDivisorsSpec).vars false (#[.agg #[.bool false, .slice none 0 0], .agg #[.bool false, .slice none 0 0], .agg #[.bool false, .slice none 0 0]] : Array Value).toList 8).map (fun x => (x.1, x.2.1)) =
      some ([.agg [.lit (.bool false), .nil], .agg [.lit (.bool false), .nil], .agg [.lit (.bool false), .nil]], []) := by kernel_rfl
  obtain ⟨⟨x1, x2, x3⟩, hx, hx1⟩ := Option.map_eq_some_iff.1 hw
  simp only [Prod.mk.injEq] at hx1
  obtain ⟨rfl, rfl⟩ := hx1
  exact OpenSpec.preRow_of_cond 8 hx (by kernel_rfl) (fun k hk => by cases hk) (by kernel_rfl) (laid_met os _)
set_option maxRecDepth 100000 in
theorem contract (H : Type) (enc : TypeId × Value → H) (W : World) (base : Nat) (args : Array Value) (ds gs : List (DataW H)) (before : List MemPlace)
    (hval0 : ∀ (j : Nat) t v, Tryz.f12.params[j]? = some t → args[j]? = some v → Value.okWide Tryz.prog W .any base t v)
    (hW : DataW.Whole enc Tryz.prog Tryz.f12.params.toList Rows.integerDivisorsSpec.vars false W args.toList ds gs before) :
    Calls Tryz.prog 12 args W fun e W' => ∃ v, e = .returned v ∧ Rows.integerDivisorsSpec.post enc Tryz.prog Tryz.f12 false true false false W args v W' := by
  have hval : ∀ (j : Nat) t v, Tryz.f12.params[j]? = some t → args[j]? = some v → Value.okWide Tryz.prog W .any base t v := hval0
  have hW' := hW
  obtain ⟨p, q, hA0, hV, rfl, hfz, hnd⟩ := hW
  have hA : DataW.TrodAll enc Tryz.prog W 0 (fun _ => true) true Tryz.f12.params.toList args.toList ds p := hA0
  rw [Tryz.params12] at hA hval
  obtain ⟨v0, vs0, d0, ds0, p0, q0, hargs, rfl, rfl, h0, r0⟩ := trodAll_cons hA
  obtain ⟨v1, vs1, d1, ds1, p1, q1, rfl, rfl, rfl, h1, r1⟩ := trodAll_cons r0
  obtain ⟨v2, vs2, d2, ds2, p2, q2, rfl, rfl, rfl, h2, r2⟩ := trodAll_cons r1
  obtain ⟨rfl, rfl, rfl⟩ := trodAll_nil r2
  obtain rfl : args = #[v0, v1, v2] := by cases args; simp_all
  obtain ⟨rfl, rfl⟩ := trodVars_none hV
  obtain ⟨s0, xs0, hx0, g0⟩ := open_raw Tryz.underlying25 (by kernel_rfl) rfl rfl (by kernel_rfl) (by kernel_rfl) (by kernel_rfl) (by kernel_rfl) Tryz.underlying27 (by kernel_rfl) (hval 0 25 v0 rfl rfl) h0
  have lt0 : ∀ x ∈ p0, x.block < W.heap.size := by obtain ⟨m, hm⟩ := h0; exact DataW.trod_lt m _ _ _ hm
  obtain ⟨s1, xs1, hx1, g1⟩ := open_raw Tryz.underlying25 (by kernel_rfl) rfl rfl (by kernel_rfl) (by kernel_rfl) (by kernel_rfl) (by kernel_rfl) Tryz.underlying27 (by kernel_rfl) (hval 1 25 v1 rfl rfl) h1
  have lt1 : ∀ x ∈ p1, x.block < W.heap.size := by obtain ⟨m, hm⟩ := h1; exact DataW.trod_lt m _ _ _ hm
  obtain ⟨s2, xs2, hx2, g2⟩ := open_raw Tryz.underlying25 (by kernel_rfl) rfl rfl (by kernel_rfl) (by kernel_rfl) (by kernel_rfl) (by kernel_rfl) Tryz.underlying27 (by kernel_rfl) (hval 2 25 v2 rfl rfl) h2
  have lt2 : ∀ x ∈ p2, x.block < W.heap.size := by obtain ⟨m, hm⟩ := h2; exact DataW.trod_lt m _ _ _ hm
  clear hA0 hval0
  refine (con12.calls [.agg [.v (.bool s0), .row .u32 xs0], .agg [.v (.bool s1), .row .u32 xs1], .agg [.v (.bool s2), .row .u32 xs2]] _ _ rfl (allP_iff.1 ⟨hx0, hx1, hx2, trivial⟩) (fun _ => False) (fun _ => 0) W #[v0, v1, v2] (fun _ h => h.elim) ⟨g0, g1, g2, trivial⟩).mono fun e W' ⟨u, he, _, hu, bel⟩ => ?_
  have hu : u = .bool true := hu
  subst hu
  subst he
  exact ⟨_, rfl, _, _, _, [], _, [], hW', trodAll_mk1 (shut_bool Tryz.underlying4 _), (trodAll_cons_mk (Below.trod laidOut (by kernel_rfl) (of_decide_eq_true (by kernel_rfl)) h0 bel lt0) (trodAll_cons_mk (Below.trod laidOut (by kernel_rfl) (of_decide_eq_true (by kernel_rfl)) h1 bel lt1) (trodAll_cons_mk (Below.trod laidOut (by kernel_rfl) (of_decide_eq_true (by kernel_rfl)) h2 bel lt2) trodAll_mk0))), rfl, bel.frame _, fun h => by cases h⟩
set_option maxRecDepth 100000 in
set_option maxHeartbeats 2000000 in
theorem lifted (os : Os) (started : os.Started) (H : Type) (enc : TypeId × Value → H) (F : Stop.Interp) :
    ReturnsInHanded {} Tryz.checked os 12 .any ((OpenSpec.ofChange Rows.integerDivisorsSpec).preRow enc Tryz.prog Tryz.f12 Rows.integerDivisorsRow.domain false Rows.integerDivisorsRow.laid) (((OpenSpec.ofChange Rows.integerDivisorsSpec).at F).post enc Tryz.prog Tryz.f12 false true false false) := by
  refine returnsInHanded_of_row (C := Tryz.checked) (s := OpenSpec.ofChange Rows.integerDivisorsSpec) own started (by kernel_rfl) Tryz.func12
    (witness_row_atRef (enc := enc) (C := Tryz.checked) false (laidWorld os) #[.agg #[.bool false, .slice none 0 0], .agg #[.bool false, .slice none 0 0], .agg #[.bool false, .slice none 0 0]] rfl (by kernel_rfl) (by kernel_rfl) (by kernel_rfl) (witness_row os enc)) ?_
  intro W base args ds gs before hval hW _ _ _ _ _ _
  exact contract H enc W base args ds gs before hval hW
theorem said : Rows.IntegerDivisorsSaid :=
  OpenClaim.holds_of_cond 12 Tryz.f12 rfl rfl rfl rfl rfl rfl rfl ⟨rfl, rfl, rfl, rfl, rfl⟩ rfl rfl rfl rfl rfl (by kernel_rfl) Tryz.func12 (by kernel_rfl)
    (of_decide_eq_true (by kernel_rfl)) (by unfold Func.isWrapper; first | (rw [if_pos (by decide +kernel)]; kernel_rfl) | (rw [if_neg (by decide +kernel)]; exact ⟨rfl, rfl⟩))
    (fun os started H enc _ F => by rw [OpenClaim.pre_eq_preRow]; exact lifted os started H enc F)
theorem plain (f : FuncId) (fn : Func) (hf : Tryz.pinned.checked.prog.funcNamed Rows.integerDivisorsRow.func = some f) (hfn : Tryz.pinned.checked.prog.funcs[f]? = some fn) :
    true = Tryz.pinned.checked.prog.looks [] ∧ ∀ (j : Nat) t, fn.params[j]? = some t → Tryz.pinned.checked.prog.wantsStandIn t = false := by
  obtain rfl : f = 12 := Option.some.inj ((show Tryz.prog.funcNamed Rows.integerDivisorsRow.func = some 12 by kernel_rfl).symm.trans hf) |>.symm
  obtain rfl : fn = Tryz.f12 := (Option.some.inj (Tryz.func12.symm.trans hfn)).symm
  refine ⟨by kernel_rfl, fun j t ht => ?_⟩
  rw [Tryz.params12] at ht
  have hm := Array.mem_of_getElem? ht
  simp only [List.mem_toArray, List.mem_cons, List.not_mem_nil, or_false] at hm
  rcases hm with rfl | rfl | rfl
  · exact (show Tryz.prog.wantsStandIn 25 = false by kernel_rfl)
  · exact (show Tryz.prog.wantsStandIn 25 = false by kernel_rfl)
  · exact (show Tryz.prog.wantsStandIn 25 = false by kernel_rfl)
theorem card : Rows.IntegerDivisorsCardSaid :=
  Claim7.holds_tied_plain_at .later [] _ _ _ _ said (fun _ h => by cases h) (by kernel_rfl) (fun _ h => by cases h) integerDivisors_row_tie rfl ⟨rfl, rfl⟩ (by kernel_rfl) rfl plain (by kernel_rfl)
end Go.Proofs.YtkfdnpbpebmhaaaGreatDoor.integerDivisors
namespace Go.Proofs.YtkfdnpbpebmhaaaGreatDoor
/-- The law IntegerDivisors: its card. -/
theorem integerDivisors_card : Rows.IntegerDivisorsCardSaid := integerDivisors.card
#print axioms integerDivisors_card
end Go.Proofs.YtkfdnpbpebmhaaaGreatDoor
