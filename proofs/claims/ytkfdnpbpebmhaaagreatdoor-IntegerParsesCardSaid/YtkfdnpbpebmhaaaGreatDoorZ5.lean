/- Contracts: powers, small numbers; A loop's start: nil slices in cells count as rows without words; Roots: the numbers; The extended greatest common divisor: the invariants; Runs: the extended greatest common divisor; Runs: powers, greatest common divisors, comparisons of several numbers; Contracts: greatest common divisors of the reference, powers with their errors, comparisons of several numbers; Contracts: the extended greatest common divisor; Contracts: the extended greatest common divisor; Roots: the invariants of the loops; Runs: roots; Contracts: roots; The reference's Made: its loop; Runs: the reference's Made, divides; Contracts: the reference's Made; divides; Decimal digits: the plain words. No program in sight. -/
import Derived.Test.YtkfdnpbpebmhaaaGreatDoorProg
import Derived.Test.YtkfdnpbpebmhaaaGreatDoorZ0
import Derived.Test.YtkfdnpbpebmhaaaGreatDoorZ1
import Derived.Test.YtkfdnpbpebmhaaaGreatDoorZ2
import Derived.Test.YtkfdnpbpebmhaaaGreatDoorZ3
import Derived.Test.YtkfdnpbpebmhaaaGreatDoorZ4
namespace Go.Proofs.YtkfdnpbpebmhaaaGreatDoor.Spec
open Go Go.RowKit Sx Num

theorem pow_len {x k : Nat} (h : (enc x).length ≤ k) (m : Nat) : (enc (x ^ m)).length ≤ k * m + 1 := by
  apply enc_len_le
  have h1 := (enc_len x k).1 h
  have h2 : x ^ m ≤ (B ^ k) ^ m := Nat.pow_le_pow_left (Nat.le_of_lt h1) m
  rw [← Nat.pow_mul] at h2
  exact Nat.lt_of_le_of_lt h2 (Nat.pow_lt_pow_right (by decide) (Nat.lt_succ_self _))
theorem and1 (a : Nat) (h : a < 9223372036854775808) : IntKind.wrap IntKind.i64 ((BitVec.ofInt (IntKind.bits IntKind.i64) (a : Int) &&& BitVec.ofInt (IntKind.bits IntKind.i64) 1).toNat : Int) = ((a % 2 : Nat) : Int) := by
  rw [show IntKind.bits IntKind.i64 = 64 from rfl, BitVec.toNat_and, BitVec.toNat_ofInt, BitVec.toNat_ofInt]
  have e1 : ((a : Int) % ((2 ^ 64 : Nat) : Int)).toNat = a := by omega
  have e2 : ((1 : Int) % ((2 ^ 64 : Nat) : Int)).toNat = 1 := by decide
  rw [e1, e2, Nat.and_one_is_mod, wi64 _ (by omega) (by omega)]
theorem fdiv_i64 (x s : Nat) (hs : s < 32) : Int.fdiv (x : Int) ((2 : Int) ^ min (Int.toNat (s : Int)) (IntKind.bits IntKind.i64)) = ((x / 2 ^ s : Nat) : Int) := fdiv_shr x s hs
def V61 (x n : Nat) (i : Nat) : Prop := i ≤ o_bl n ∧ n ≤ 100000000 ∧ (enc x).length * (n + 1) ≤ 100000000
theorem bl_1 : o_bl 1 = 1 := rfl
theorem sub61 {st : St} {e : Ex} {s : St} {obs : List Prop} (h : F61 st = some (e, s, obs)) (hob : AllP obs) : ∃ x : Nat × Nat × Nat, V61 x.1 x.2.1 x.2.2 ∧ SubS st (I61 x.1 x.2.1 x.2.2) ∧ e = .exit 0 ∧ s = ⟨[(5, .s (roW (enc (x.1 ^ x.2.1))))], []⟩ := by
  unfold F61 at h
  split at h
  · rename_i xs n ys l i hz h1 h2 h3 h4 h5
    simp only [Option.some.injEq, Prod.mk.injEq] at h
    obtain ⟨rfl, rfl, rfl⟩ := h
    obtain ⟨hc, rfl, ⟨hn, hn'⟩, rfl, rfl, hl, _⟩ := hob
    obtain ⟨n, rfl⟩ := Int.eq_ofNat_of_zero_le hn
    rw [tnc] at hl h4
    refine ⟨(nv xs, n, 0), ⟨Nat.zero_le _, by show n ≤ _; omega, by show (enc (nv xs)).length * (n + 1) ≤ _; rw [enc_nv hc]; exact hl⟩, ⟨?_, ?_, ?_⟩, rfl, by rw [tnc]⟩
    · intro p hp
      simp only [I61, Nat.zero_min, Nat.pow_zero, Nat.pow_one, Nat.mod_one, enc_nv hc, List.mem_cons, List.not_mem_nil, or_false] at hp
      rcases hp with rfl | rfl | rfl | rfl | rfl <;> exact ⟨by assumption, rfl⟩
    · intro p hp; cases hp
    · rw [hz]; intro h; cases h
  · cases h
theorem lo61 : ∀ d ∈ loopsF Tryz.f61, LoopOk Tryz.prog Tryz.f61.ntmps L61 d := by
  rw [show loopsF Tryz.f61 = [loopC Tryz.f61 0] by kernel_rfl]
  intro d hd
  rw [List.mem_singleton] at hd
  subst hd
  refine loop_ok (k := 3) (f := F61) (α := Nat × Nat × Nat) (by kernel_rfl) (by kernel_rfl) (fun x => I61 x.1 x.2.1 x.2.2) (fun x => ⟨[(5, .s (roW (enc (x.1 ^ x.2.1))))], []⟩) (fun x => V61 x.1 x.2.1 x.2.2) (fun x => o_bl x.2.1 - x.2.2) (.exit 0) (by simp) (fun st e s obs h hob => sub61 h hob) ?_
  rintro ⟨x, n, i⟩ ⟨hi, hn, hl⟩
  simp only at hi hn hl ⊢
  have hno : ∀ d ∈ loopsOf (loopC Tryz.f61 0), LoopOk Tryz.prog Tryz.f61.ntmps L0 d := by rw [show loopsOf (loopC Tryz.f61 0) = [] by kernel_rfl]; intro d hd; cases hd
  have hb := bl_spec (x := n) (by omega)
  have hb27 : o_bl n ≤ 27 := bl_le (by omega) (by omega)
  by_cases hlt : i < o_bl n
  · have hn0 : n ≠ 0 := fun e => by have := hb.2.2.2.2 e; omega
    have hlow := hb.2.1 hn0
    have w1 : IntKind.wrap IntKind.i64 ((i : Int) + 1) = ((i + 1 : Nat) : Int) := by rw [wi64 _ (by omega) (by omega)]; omega
    have hmin : min i (o_bl n - 1) = i := by omega
    have hq1 : n / 2 ^ i ≤ n := Nat.div_le_self _ _
    have hand := and1 (n / 2 ^ i) (by generalize n / 2 ^ i = q at *; omega)
    have hfd := fdiv_i64 n i (by omega)
    have hpi : 2 ^ i ≤ n := Nat.le_trans (Nat.pow_le_pow_right (by decide) (by omega)) hlow
    have hl2 := pow_len (Nat.le_refl (enc x).length) (2 ^ i)
    have hl3 := pow_len (Nat.le_refl (enc x).length) (n % 2 ^ i)
    have hm1 : (enc x).length * 2 ^ i ≤ 100000000 := Nat.le_trans (Nat.mul_le_mul_left _ (by omega)) hl
    have hm2 : (enc x).length * (n % 2 ^ i) ≤ 100000000 := Nat.le_trans (Nat.mul_le_mul_left _ (Nat.le_trans (Nat.mod_le _ _) (by omega))) hl
    have hpos : 0 < n / 2 ^ i := Nat.div_pos hpi (Nat.pow_pos (by decide))
    have hsq : x ^ 2 ^ i * x ^ 2 ^ i = x ^ 2 ^ (i + 1) := by rw [← Nat.pow_add, Nat.pow_succ]; congr 1; omega
    have hmp := Nat.mod_pow_succ (x := n) (b := 2) (k := i)
    by_cases hbit : n / 2 ^ i % 2 = 1
    · have ho : x ^ (n % 2 ^ i) * x ^ 2 ^ i = x ^ (n % 2 ^ (i + 1)) := by rw [hmp, hbit, Nat.mul_one, Nat.pow_add]
      by_cases hmore : 1 < n / 2 ^ i
      · have hi1 : i + 1 < o_bl n := by
          rcases Nat.lt_or_ge (i + 1) (o_bl n) with h | h
          · exact h
          · exfalso
            have : n < 2 ^ (i + 1) := Nat.lt_of_lt_of_le hb.1 (Nat.pow_le_pow_right (by decide) h)
            have h3 := (Nat.le_div_iff_mul_le (Nat.pow_pos (n := i) (show 0 < 2 by decide))).1 hmore
            rw [Nat.pow_succ] at this
            generalize 2 ^ i = z at *
            omega
        have hmin' : min (i + 1) (o_bl n - 1) = i + 1 := by omega
        refine (codeV_sound hmix E14ok.hS hno (loop61a x n i) ?_).mono ?_
        · simp only [AllP, hmin, hfd, hand, words_e]
          generalize 2 ^ i = z at *
          generalize n / z = q at *
          and_intros <;> first | exact trivial | omega | exact decide_eq_true (by omega)
        · rintro e s ⟨rfl, hs⟩
          refine .inl ⟨rfl, (x, n, i + 1), ⟨by show i + 1 ≤ o_bl n; omega, hn, hl⟩, by show o_bl n - (i + 1) < o_bl n - i; omega, ?_, rfl⟩
          rw [w1, hmin, nv_enc, nv_enc, hsq, ho] at hs
          show SubS s (I61 x n (i + 1))
          rw [I61, hmin']
          exact hs
      · have hi1 : i = o_bl n - 1 := by
          rcases Nat.lt_or_ge i (o_bl n - 1) with h | h
          · exfalso
            have h4 : 2 ^ (i + 1) ≤ n := Nat.le_trans (Nat.pow_le_pow_right (by decide) (by omega)) hlow
            have h3 := (Nat.le_div_iff_mul_le (Nat.pow_pos (n := i) (show 0 < 2 by decide)) (x := 2) (y := n)).2 (by rw [Nat.pow_succ] at h4; omega)
            omega
          · omega
        have hmin' : min (i + 1) (o_bl n - 1) = i := by omega
        refine (codeV_sound hmix E14ok.hS hno (loop61c x n i) ?_).mono ?_
        · simp only [AllP, hmin, hfd, hand, words_e]
          generalize 2 ^ i = z at *
          generalize n / z = q at *
          and_intros <;> first | exact trivial | omega | exact decide_eq_true (by omega) | exact decide_eq_false (by omega)
        · rintro e s ⟨rfl, hs⟩
          refine .inl ⟨rfl, (x, n, i + 1), ⟨by show i + 1 ≤ o_bl n; omega, hn, hl⟩, by show o_bl n - (i + 1) < o_bl n - i; omega, ?_, rfl⟩
          rw [w1, hmin, nv_enc, nv_enc, ho] at hs
          show SubS s (I61 x n (i + 1))
          rw [I61, hmin']
          exact hs
    · have hb0 : n / 2 ^ i % 2 = 0 := by omega
      have hmore : 1 < n / 2 ^ i := by omega
      have ho : n % 2 ^ (i + 1) = n % 2 ^ i := by rw [hmp, hb0, Nat.mul_zero, Nat.add_zero]
      have hi1 : i + 1 < o_bl n := by
        rcases Nat.lt_or_ge (i + 1) (o_bl n) with h | h
        · exact h
        · exfalso
          have : n < 2 ^ (i + 1) := Nat.lt_of_lt_of_le hb.1 (Nat.pow_le_pow_right (by decide) h)
          have h3 := (Nat.le_div_iff_mul_le (Nat.pow_pos (n := i) (show 0 < 2 by decide))).1 hmore
          rw [Nat.pow_succ] at this
          generalize 2 ^ i = z at *
          omega
      have hmin' : min (i + 1) (o_bl n - 1) = i + 1 := by omega
      refine (codeV_sound hmix E14ok.hS hno (loop61b x n i) ?_).mono ?_
      · simp only [AllP, hmin, hfd, hand, words_e]
        generalize 2 ^ i = z at *
        generalize n / z = q at *
        and_intros <;> first | exact trivial | omega | exact decide_eq_true (by omega) | exact decide_eq_false (by omega)
      · rintro e s ⟨rfl, hs⟩
        refine .inl ⟨rfl, (x, n, i + 1), ⟨by show i + 1 ≤ o_bl n; omega, hn, hl⟩, by show o_bl n - (i + 1) < o_bl n - i; omega, ?_, rfl⟩
        rw [w1, hmin, nv_enc, hsq] at hs
        show SubS s (I61 x n (i + 1))
        rw [I61, hmin', ho]
        exact hs
  · refine (codeV_sound hmix E14ok.hS hno (loop61d x n i) ?_).mono ?_
    · simp only [AllP]
      and_intros <;> first | exact trivial | exact decide_eq_false (by omega)
    · rintro e s ⟨rfl, hs⟩
      refine .inr ⟨rfl, ?_⟩
      have : i = o_bl n := by omega
      rw [this, Nat.mod_eq_of_lt hb.1] at hs
      exact hs
/-- A power of words. -/
def spPowN : Sp
  | [.one (.row .u32 xs), .one (.v (.int .i64 n))] => some (.s (roW (enc (nv xs ^ n.toNat))), [Canon xs, 0 ≤ n ∧ n ≤ 100000000, xs.length * (n.toNat + 1) ≤ 100000000])
  | _ => none
theorem con61 : Con Tryz.prog 61 spPowN := by
  refine con_run (L := L61) (fn := Tryz.f61) hmix E14ok.hS lo61 (by kernel_rfl) (fun _ => by kernel_rfl) ?_
  intro avs r ps hsp hps
  unfold spPowN at hsp
  split at hsp
  · rename_i xs n
    simp only [Option.some.injEq, Prod.mk.injEq] at hsp
    obtain ⟨rfl, rfl⟩ := hsp
    obtain ⟨hc, ⟨h1, h2⟩, hl, _⟩ := hps
    have w : IntKind.wrap IntKind.u64 n = n := by rw [w64]; omega
    refine ⟨rfl, _, _, _, _, run61 xs n, rfl, ?_⟩
    rw [w]
    exact ⟨by decide, ⟨h1, by omega⟩, hc, rfl, ⟨h1, h2⟩, rfl, rfl, hl, trivial⟩
  · cases hsp

theorem sz_pow {x : Int} {m N : Nat} (h : (enc x.natAbs).length * m + 1 ≤ N) : o_sz N (x ^ m) := by
  have h1 := pow_len (Nat.le_refl (enc x.natAbs).length) m
  have h2 := (enc_len _ _).1 (Nat.le_trans h1 h)
  unfold o_sz
  rwa [Int.natAbs_pow]
theorem sz_pow_big {x : Int} {m : Nat} (h : (enc x.natAbs).length * m ≤ 99999999) : o_sz big (x ^ m) := sz_pow (by unfold big; omega)
theorem pow_half (x : Int) (k : Nat) (h : k % 2 = 0) : x ^ (k / 2) * x ^ (k / 2) = x ^ k := by rw [← Int.pow_add]; congr 1; omega
theorem pow_half1 (x : Int) (k : Nat) (h : k % 2 = 1) : x ^ (k / 2) * x ^ (k / 2) * x = x ^ k := by rw [← Int.pow_add, ← Int.pow_succ]; congr 1; omega
theorem len_sz {x : Int} {N : Nat} (h : (enc x.natAbs).length ≤ N) : o_sz N x := (enc_len _ _).1 h
theorem con84m (m : Nat) : Con Tryz.prog 84 (spPowZ m) := by
  induction m with
  | zero =>
    refine ⟨fun _ => by kernel_rfl, fun avs r ps hsp hp => ?_⟩
    unfold spPowZ at hsp
    split at hsp
    · simp only [Option.some.injEq, Prod.mk.injEq] at hsp
      obtain ⟨rfl, rfl⟩ := hsp
      have := hp _ (List.mem_cons_self ..)
      omega
    · cases hsp
  | succ m ih =>
    have hE : EnvOk Tryz.prog (E14p m) := .cons (con_z ih) E14ok
    refine con_flatZ (l := E14p m) (fn := Tryz.f84) hmix hE (by kernel_rfl) (by kernel_rfl) (fun _ => by kernel_rfl) ?_
    intro avs r ps hsp hps
    unfold spPowZ at hsp
    split at hsp
    · rename_i x n
      simp only [Option.some.injEq, Prod.mk.injEq] at hsp
      obtain ⟨rfl, rfl⟩ := hsp
      obtain ⟨⟨h0, h1⟩, h2, h3, _⟩ := hps
      obtain ⟨k, rfl⟩ := Int.eq_ofNat_of_zero_le h0
      rw [tnc] at h3 ⊢
      refine ⟨rfl, ?_⟩
      by_cases hk : k = 0
      · subst hk
        refine ⟨_, _, _, _, run84a m x 0, unZ (by rw [Int.pow_zero]), ?_⟩
        exact ⟨rfl, by decide, trivial⟩
      · have hkz : decide ((k : Int) = 0) = false := decide_eq_false (by omega)
        have wd : IntKind.wrap IntKind.i64 (Int.tdiv (k : Int) 2) = ((k / 2 : Nat) : Int) := by
          rw [Int.tdiv_eq_ediv_of_nonneg h0, wi64 _ (by omega) (by omega)]; omega
        have wm : Int.tmod (k : Int) 2 = ((k % 2 : Nat) : Int) := rfl
        have hlk : (enc x.natAbs).length * (k / 2 + 1) ≤ 100000000 := Nat.le_trans (Nat.mul_le_mul_left _ (by omega)) h3
        have s1 : (enc x.natAbs).length * (k / 2) ≤ 99999999 := by
          by_cases hx : (enc x.natAbs).length = 0
          · rw [hx, Nat.zero_mul]; omega
          · rw [Nat.mul_succ] at hlk; omega
        have s2 : o_sz big (x ^ (k / 2)) := sz_pow_big s1
        have s3 : o_sz big x := len_sz (Nat.le_trans (Nat.le_mul_of_pos_right _ (by omega)) h3)
        by_cases hodd : k % 2 = 1
        · have s4 : o_sz big (x ^ (k / 2) * x ^ (k / 2)) := by
            rw [← Int.pow_add]
            apply sz_pow_big
            by_cases hx : (enc x.natAbs).length = 0
            · rw [hx, Nat.zero_mul]; omega
            · have : (enc x.natAbs).length * (k / 2 + k / 2) ≤ (enc x.natAbs).length * k := Nat.mul_le_mul_left _ (by omega)
              rw [Nat.mul_succ] at h3; omega
          refine ⟨_, _, _, _, run84b m x k, unZ (Z := x ^ (k / 2) * x ^ (k / 2) * x) (pow_half1 x k hodd) ▸ ?_, ?_⟩
          · simp only [toI_enc, wd, tnc]
          · simp only [AllP, toI_enc, ok_e, wd, wm, tnc, hkz]
            and_intros <;> first | exact trivial | assumption | omega | exact decide_eq_true (by omega) | decide
        · refine ⟨_, _, _, _, run84c m x k, unZ (Z := x ^ (k / 2) * x ^ (k / 2)) (pow_half x k (by omega)) ▸ ?_, ?_⟩
          · simp only [toI_enc, wd, tnc]
          · simp only [AllP, toI_enc, ok_e, wd, wm, tnc, hkz]
            and_intros <;> first | exact trivial | assumption | omega | exact decide_eq_false (by omega) | decide
    · cases hsp
/-- A power, over integers. -/
def spPow : Sp
  | [.abs [x], .one (.v (.int .i64 n))] => some (rZ (x ^ n.toNat), [0 ≤ n ∧ n ≤ 100000000, (enc x.natAbs).length * (n.toNat + 1) ≤ 100000000])
  | _ => none
theorem con84 : Con Tryz.prog 84 spPow := by
  refine conWeaken (con84m 100000001) fun avs r ps hs hp => ?_
  unfold spPow at hs
  split at hs
  · rename_i x n
    simp only [Option.some.injEq, Prod.mk.injEq] at hs
    obtain ⟨rfl, rfl⟩ := hs
    obtain ⟨⟨h0, h1⟩, h2, _⟩ := hp
    exact ⟨_, rfl, ⟨h0, by omega⟩, h1, h2, trivial⟩
  · cases hs
theorem con80 : Con Tryz.prog 80 spSmall := by
  refine con_flat hmix E14ok (by kernel_rfl) (fn := Tryz.f80) (by kernel_rfl) (fun _ => by kernel_rfl) ?_
  intro avs r ps hsp hps
  unfold spSmall at hsp
  split at hsp
  · rename_i x
    simp only [Option.some.injEq, Prod.mk.injEq] at hsp
    obtain ⟨rfl, rfl⟩ := hsp
    have lx := sz_big hps.1
    refine ⟨rfl, ?_⟩
    by_cases h2 : (enc x.natAbs).length ≤ 2
    · have hk := two64 h2
      have hl : decide ((2 : Int) < ((enc x.natAbs).length : Int)) = false := decide_eq_false (by omega)
      by_cases h0 : x < 0
      · by_cases hs : x.natAbs ≤ 9223372036854775808
        · obtain ⟨e1, e2⟩ := small_yes (x := x) (by omega)
          refine ⟨_, _, _, _, run80d x, tupS ?_ e2.symm, ?_⟩
          · rw [nv_enc, e1, w64]
            have e3 : ((x.natAbs : Int) - 1) % 18446744073709551616 = (x.natAbs : Int) - 1 := by omega
            rw [e3, wi64 ((x.natAbs : Int) - 1) (by omega) (by omega), wi64 (0 - _) (by omega) (by omega), wi64 _ (by omega) (by omega)]
            omega
          · simp only [AllP, nv_enc, words_e, hl, decide_eq_true h0]
            and_intros <;> first | exact trivial | omega | exact decide_eq_true (by omega) | rfl
        · obtain ⟨e1, e2⟩ := small_no (x := x) (by omega)
          refine ⟨_, _, _, _, run80e x, tupS e1.symm e2.symm, ?_⟩
          simp only [AllP, nv_enc, words_e, hl, decide_eq_true h0]
          and_intros <;> first | exact trivial | omega | exact decide_eq_false (by omega) | rfl
      · by_cases hs : x.natAbs < 9223372036854775808
        · obtain ⟨e1, e2⟩ := small_yes (x := x) (by omega)
          refine ⟨_, _, _, _, run80b x, tupS ?_ e2.symm, ?_⟩
          · rw [nv_enc, e1, wi64 _ (by omega) (by omega)]; omega
          · simp only [AllP, nv_enc, words_e, hl, decide_eq_false h0]
            and_intros <;> first | exact trivial | omega | exact decide_eq_true (by omega) | rfl
        · obtain ⟨e1, e2⟩ := small_no (x := x) (by omega)
          refine ⟨_, _, _, _, run80c x, tupS e1.symm e2.symm, ?_⟩
          simp only [AllP, nv_enc, words_e, hl, decide_eq_false h0]
          and_intros <;> first | exact trivial | omega | exact decide_eq_false (by omega) | rfl
    · have hk := more64 h2
      obtain ⟨e1, e2⟩ := small_no (x := x) (by omega)
      refine ⟨_, _, _, _, run80a x, tupS e1.symm e2.symm, ?_⟩
      simp only [AllP]
      and_intros <;> first | exact trivial | exact decide_eq_true (by omega)
  · cases hsp
def E15 : List (Nat × Ctr) := (45, .fn (zArgs (spZn fun x => (o_bits x.natAbs : Int)))) :: (21, .fn (zArgs spSame)) :: (38, .fn (zArgs (spZ2 gcdZ))) :: (79, .fn spCommon) :: (61, .fn spPowN) :: (84, .fn (zArgs spPow)) :: (80, .fn (zArgs spSmall)) :: E14
theorem E15ok : EnvOk Tryz.prog E15 := .cons (con_z con45) (.cons (con_z con21) (.cons (con_z con38) (.cons con79 (.cons con61 (.cons (con_z con84) (.cons (con_z con80) E14ok))))))

end Go.Proofs.YtkfdnpbpebmhaaaGreatDoor.Spec
namespace Go.Proofs.YtkfdnpbpebmhaaaGreatDoor.Spec
open Go Go.RowKit Sx Num

def fixBC : BC → BC
  | .cells ls => .cells (ls.map fixL)
  | b => b
def fixBx (b : Box) : Box := ⟨b.ty, fixBC b.bc, b.mut_⟩
def fixBs (bs : List (Nat × Box)) : List (Nat × Box) := bs.map fun p => (p.1, fixBx p.2)
def fixSt (s : St) : St := ⟨s.tmps, fixBs s.boxes⟩
theorem lk_fix : ∀ (bs : List (Nat × Box)) (i : Nat), lk (fixBs bs) i = (lk bs i).map fixBx
  | [], i => rfl
  | (j, b) :: bs, i => by
    unfold fixBs
    rw [List.map_cons, lk_cons, lk_cons]
    split
    · rfl
    · exact lk_fix bs i
theorem liv_fix (bs : List (Nat × Box)) : liv (fixBs bs) = liv bs := by
  funext i
  unfold liv
  rw [lk_fix]
  cases lk bs i <;> rfl
theorem mof_fix (M0 : Nat → Prop) (β : Nat → Nat) (bs : List (Nat × Box)) : Mof M0 β (fixBs bs) = Mof M0 β bs := by
  funext b
  unfold Mof
  apply propext
  constructor
  · rintro (h | ⟨i, x, h1, h2, h3⟩)
    · exact .inl h
    · rw [lk_fix] at h1
      obtain ⟨y, h4, rfl⟩ := Option.map_eq_some_iff.1 h1
      exact .inr ⟨i, y, h4, h2, h3⟩
  · rintro (h | ⟨i, x, h1, h2, h3⟩)
    · exact .inl h
    · exact .inr ⟨i, fixBx x, by rw [lk_fix, h1]; rfl, h2, h3⟩
theorem fixBC_ok {n : Nat → Bool} {b : BC} (h : b.okB n = true) : (fixBC b).okB n = true := by
  cases b with
  | cells ls =>
    simp only [fixBC, BC.okB, okLs, List.all_map] at h ⊢
    rw [List.all_eq_true] at h ⊢
    exact fun l hl => fixL_ok (h l hl)
  | ints k xs => exact h
  | gi k xs => exact h
theorem fixBC_g {M : Nat → Prop} {β : Nat → Nat} {w : World} {b : BC} {us : List Value} (h : gBC M β w b us) : gBC M β w (fixBC b) us := by
  cases b with
  | cells ls => exact fixLs_g h
  | ints k xs => exact h
  | gi k xs => exact h
theorem gm_fix {nt : Nat} {s : St} {M0 X : Nat → Prop} {base : Nat} {β : Nat → Nat} {a : Act} {w : World} (h : Gm M0 base X nt β s a w) : Gm M0 base X nt β (fixSt s) a w where
  def_ := h.def_
  size := h.size
  tmps := fun t x hx => by
    obtain ⟨h1, h2, h3⟩ := h.tmps t x hx
    refine ⟨h1, ?_, ?_⟩
    · show x.okB (liv (fixBs s.boxes)) = true
      rw [liv_fix]; exact h2
    · show gA (Mof M0 β (fixBs s.boxes)) β w x _
      rw [mof_fix]; exact h3
  boxes := fun i b hb => by
    have hb : lk (fixBs s.boxes) i = some b := hb
    rw [lk_fix] at hb
    obtain ⟨y, h4, rfl⟩ := Option.map_eq_some_iff.1 hb
    obtain ⟨h1, arr, h2, h3⟩ := h.boxes i y h4
    refine ⟨?_, arr, h2, ?_⟩
    · show (fixBC y.bc).okB (liv (fixBs s.boxes)) = true
      rw [liv_fix]; exact fixBC_ok h1
    · show gBC (Mof M0 β (fixBs s.boxes)) β w (fixBC y.bc) _
      rw [mof_fix]; exact fixBC_g h3
  inj := fun i j hi hj => h.inj i j (by rw [← liv_fix]; exact hi) (by rw [← liv_fix]; exact hj)
  ge := fun i hi => h.ge i (by rw [← liv_fix]; exact hi)
  M0lt := h.M0lt
  M0X := h.M0X
  pin := fun g hg => by
    obtain ⟨h1, h2⟩ := h.pin g hg
    exact ⟨by show liv (fixBs s.boxes) 0 = true; rw [liv_fix]; exact h1, h2⟩
  base_le := h.base_le
section
variable {P : Program} {L : Loops} {nt : Nat}
theorem WX.fix {c : Code} {s : St} {R : Ex → St → Prop} (h : WX P nt c (fixSt s) R) : WX P nt c s R :=
  fun M0 base X β a w Q hΓ hK => h M0 base X β a w Q (gm_fix hΓ) hK
theorem loop_okF {α : Type} {c : Code} {k : Nat} {f : St → Option (Ex × St × List Prop)} (hk : lkey c = k) (hL : L k = some f) (I fin : α → St) (V : α → Prop) (μ : α → Nat) (e0 : Ex) (he0 : e0 ≠ .normal)
    (hf : ∀ st e s obs, f st = some (e, s, obs) → AllP obs → ∃ x, V x ∧ SubS (fixSt st) (I x) ∧ e = e0 ∧ s = fin x)
    (h : ∀ x, V x → WX P nt c (I x) fun e s => (e = .normal ∧ ∃ y, V y ∧ μ y < μ x ∧ SubS s (I y) ∧ fin y = fin x) ∨ (e = e0 ∧ SubS s (fin x))) : LoopOk P nt L c := by
  intro f' hf' st e s obs hst hob
  rw [hk, hL] at hf'
  cases hf'
  obtain ⟨x, hx, hsub, rfl, rfl⟩ := hf st e s obs hst (allP_iff.2 hob)
  refine WX.fix (WX.sub hsub (WX.post (WX.loop (R := fun e' s' => e' = e ∧ SubS s' (fin x)) I (fun y => V y ∧ fin y = fin x) μ ?_ x ⟨hx, rfl⟩) ?_))
  · rintro y ⟨hy, hfy⟩
    refine (h y hy).mono ?_
    rintro e' s' (⟨rfl, z, hz, hlt, hs, hfz⟩ | ⟨rfl, hs⟩)
    · exact .inl ⟨rfl, z, ⟨hz, hfz.trans hfy⟩, hlt, hs⟩
    · rw [hfy] at hs; exact .inr ⟨he0, rfl, hs⟩
  · rintro e' s' ⟨rfl, hs⟩
    exact ⟨_, hs, rfl, rfl⟩
end
theorem ok_split {s : Bool} {xs : List Int} (h : o_ok s xs) : s = decide (o_toI s xs < 0) ∧ xs = enc (o_toI s xs).natAbs := ⟨(toI_abs h).1.symm, (toI_abs h).2.symm⟩

/-- The same of the slots; there own slices without words, too. -/
def fixL2 : LV → LV
  | .sl _ _ 0 _ => .row .u32 []
  | l => fixL l
def fixA2 : AV → AV
  | .s (.one l) => .s (.one (fixL2 l))
  | x => fixA x
theorem fixL2_g {M : Nat → Prop} {β : Nat → Nat} {w : World} {l : LV} {u : Value} (h : gL M β w l u) : gL M β w (fixL2 l) u := by
  unfold fixL2
  split
  · rename_i id off cap
    have h : u = .slice (some ⟨β id, off, none⟩) 0 cap := h
    subst h
    exact ⟨_, cap, rfl, Nat.zero_le _, by simp, fun _ _ h => by simp at h⟩
  · exact fixL_g h
theorem fixA2_g {M : Nat → Prop} {β : Nat → Nat} {w : World} {x : AV} {u : Value} (h : gA M β w x u) : gA M β w (fixA2 x) u := by
  unfold fixA2
  split
  · exact fixL2_g h
  · exact fixA_g h
theorem fixA2_ok {n : Nat → Bool} {x : AV} (h : x.okB n = true) : (fixA2 x).okB n = true := by
  unfold fixA2
  split
  · unfold fixL2
    split
    · rfl
    · exact fixL_ok h
  · exact fixA_ok h
def fixTs (ts : List (Nat × AV)) : List (Nat × AV) := ts.map fun p => (p.1, fixA2 p.2)
def fixSt2 (s : St) : St := ⟨fixTs s.tmps, fixBs s.boxes⟩
theorem lk_fixT : ∀ (ts : List (Nat × AV)) (i : Nat), lk (fixTs ts) i = (lk ts i).map fixA2
  | [], i => rfl
  | (j, b) :: ts, i => by
    unfold fixTs
    rw [List.map_cons, lk_cons, lk_cons]
    split
    · rfl
    · exact lk_fixT ts i
theorem gm_fix2 {nt : Nat} {s : St} {M0 X : Nat → Prop} {base : Nat} {β : Nat → Nat} {a : Act} {w : World} (h : Gm M0 base X nt β s a w) : Gm M0 base X nt β (fixSt2 s) a w where
  def_ := h.def_
  size := h.size
  tmps := fun t x hx => by
    have hx : lk (fixTs s.tmps) t = some x := hx
    rw [lk_fixT] at hx
    obtain ⟨y, h4, rfl⟩ := Option.map_eq_some_iff.1 hx
    obtain ⟨h1, h2, h3⟩ := (gm_fix h).tmps t y h4
    exact ⟨h1, fixA2_ok h2, fixA2_g h3⟩
  boxes := (gm_fix h).boxes
  inj := (gm_fix h).inj
  ge := (gm_fix h).ge
  M0lt := h.M0lt
  M0X := h.M0X
  pin := (gm_fix h).pin
  base_le := h.base_le
section
variable {P : Program} {L : Loops} {nt : Nat}
theorem loop_okT {α : Type} {c : Code} {k : Nat} {f : St → Option (Ex × St × List Prop)} (hk : lkey c = k) (hL : L k = some f) (I fin : α → St) (V : α → Prop) (μ : α → Nat) (ex : α → Ex) (he0 : ∀ x, ex x ≠ .normal)
    (hf : ∀ st e s obs, f st = some (e, s, obs) → AllP obs → ∃ x, V x ∧ SubS (fixSt2 st) (I x) ∧ e = ex x ∧ s = fin x)
    (h : ∀ x, V x → WX P nt c (I x) fun e s => (e = .normal ∧ ∃ y, V y ∧ μ y < μ x ∧ SubS s (I y) ∧ fin y = fin x ∧ ex y = ex x) ∨ (e = ex x ∧ SubS s (fin x))) : LoopOk P nt L c := by
  intro f' hf' st e s obs hst hob
  rw [hk, hL] at hf'
  cases hf'
  obtain ⟨x, hx, hsub, rfl, rfl⟩ := hf st e s obs hst (allP_iff.2 hob)
  have hw := WX.loop (P := P) (nt := nt) (c := c) (R := fun e' s' => e' = ex x ∧ SubS s' (fin x)) I (fun y => V y ∧ fin y = fin x ∧ ex y = ex x) μ (by
    rintro y ⟨hy, hfy, hey⟩
    refine (h y hy).mono ?_
    rintro e' s' (⟨rfl, z, hz, hlt, hs, hfz, hez⟩ | ⟨rfl, hs⟩)
    · exact .inl ⟨rfl, z, ⟨hz, hfz.trans hfy, hez.trans hey⟩, hlt, hs⟩
    · rw [hfy] at hs; exact .inr ⟨by rw [hey]; exact he0 x, hey, hs⟩) x ⟨hx, rfl, rfl⟩
  have hw2 : WX P nt (.loop c) (fixSt2 st) fun e' s' => e' = ex x ∧ s' = fin x := WX.sub hsub (WX.post hw (by
    rintro e' s' ⟨rfl, hs⟩
    exact ⟨_, hs, rfl, rfl⟩))
  exact fun M0 base X β a w Q hΓ hK => hw2 M0 base X β a w Q (gm_fix2 hΓ) hK
end

end Go.Proofs.YtkfdnpbpebmhaaaGreatDoor.Spec
namespace Go.Proofs.YtkfdnpbpebmhaaaGreatDoor.Num

def rootTo (k n : Nat) : Nat → Nat
  | 0 => 0
  | m + 1 => if (m + 1) ^ k ≤ n then m + 1 else rootTo k n m
/-- The greatest number whose k-th power is not greater than n. -/
def o_root (k n : Nat) : Nat := rootTo k n n
theorem rootTo_le {k n : Nat} (hk : 0 < k) : ∀ m, rootTo k n m ^ k ≤ n
  | 0 => by simp [rootTo, Nat.zero_pow hk]
  | m + 1 => by
    unfold rootTo
    split
    · assumption
    · exact rootTo_le hk m
theorem le_rootTo {k n j : Nat} (h : j ^ k ≤ n) : ∀ m, j ≤ m → j ≤ rootTo k n m
  | 0, hj => hj
  | m + 1, hj => by
    unfold rootTo
    split
    · exact hj
    · rename_i hne
      refine le_rootTo h m ?_
      rcases Nat.lt_or_eq_of_le hj with h1 | h1
      · omega
      · subst h1; exact absurd h hne
theorem le_pow {k j : Nat} (hk : 0 < k) : j ≤ j ^ k := by
  obtain ⟨i, rfl⟩ : ∃ i, k = i + 1 := ⟨k - 1, by omega⟩
  rcases Nat.eq_zero_or_pos j with h | h
  · omega
  · rw [Nat.pow_succ]
    exact Nat.le_mul_of_pos_left _ (Nat.pow_pos h)
theorem root_le {k n : Nat} (hk : 0 < k) : o_root k n ^ k ≤ n := rootTo_le hk n
theorem le_root {k n j : Nat} (hk : 0 < k) (h : j ^ k ≤ n) : j ≤ o_root k n := le_rootTo h n (Nat.le_trans (le_pow hk) h)
theorem root_lt {k n : Nat} (hk : 0 < k) : n < (o_root k n + 1) ^ k := by
  rcases Nat.lt_or_ge n ((o_root k n + 1) ^ k) with h | h
  · exact h
  · have := le_root hk h; omega
theorem root_uniq {k n s : Nat} (hk : 0 < k) (h1 : s ^ k ≤ n) (h2 : n < (s + 1) ^ k) : o_root k n = s := by
  have h3 := le_root hk h1
  rcases Nat.lt_or_eq_of_le h3 with h | h
  · have h4 : (s + 1) ^ k ≤ o_root k n ^ k := Nat.pow_le_pow_left h k
    have := root_le (n := n) hk
    omega
  · exact h.symm
theorem root_up {k n r : Nat} (hk : 0 < k) (h : n < r ^ k) : o_root k n ≤ r := by
  rcases Nat.lt_or_ge r (o_root k n) with h1 | h1
  · have h4 : r ^ k ≤ o_root k n ^ k := Nat.pow_le_pow_left (Nat.le_of_lt h1) k
    have := root_le (n := n) hk
    omega
  · exact h1
theorem two_le (r s : Nat) : 2 * (s * r) ≤ r * r + s * s := by
  rcases Nat.le_total r s with h | h
  · obtain ⟨d, rfl⟩ : ∃ d, s = r + d := ⟨s - r, by omega⟩
    have e : (r + d) * r = r * r + d * r := Nat.add_mul ..
    have e2 : (r + d) * (r + d) = r * r + d * r + (d * r + d * d) := by rw [Nat.mul_add, Nat.add_mul, Nat.add_mul, Nat.mul_comm r d]
    rw [e, e2]
    generalize r * r = a; generalize d * r = b; generalize d * d = c
    omega
  · obtain ⟨d, rfl⟩ : ∃ d, r = s + d := ⟨r - s, by omega⟩
    have e : s * (s + d) = s * s + d * s := by rw [Nat.mul_add, Nat.mul_comm s d]
    have e2 : (s + d) * (s + d) = s * s + d * s + (d * s + d * d) := by rw [Nat.mul_add, Nat.add_mul, Nat.add_mul, Nat.mul_comm s d]
    rw [e, e2]
    generalize s * s = a; generalize d * s = b; generalize d * d = c
    omega
/-- The means of a power. -/
theorem amgm (r s : Nat) : ∀ j, (j + 1) * (s * r ^ j) ≤ j * r ^ (j + 1) + s ^ (j + 1)
  | 0 => by simp
  | j + 1 => by
    have ih := Nat.mul_le_mul_right s (amgm r s j)
    have h2 := Nat.mul_le_mul_left (r ^ j) (two_le r s)
    have h3 := Nat.mul_le_mul_left (j + 1) h2
    have e1 : (j + 1) * (s * r ^ j) * s = (j + 1) * (r ^ j * (s * s)) := by rw [Nat.mul_assoc, Nat.mul_comm s (r ^ j), Nat.mul_assoc]
    have e2 : (j * r ^ (j + 1) + s ^ (j + 1)) * s = j * (r ^ j * (s * r)) + s ^ (j + 1 + 1) := by
      rw [Nat.add_mul, ← Nat.pow_succ, Nat.mul_assoc, Nat.pow_succ r j, Nat.mul_assoc (r ^ j), Nat.mul_comm r s]
    have e3 : (j + 1 + 1) * (s * r ^ (j + 1)) = (j + 1 + 1) * (r ^ j * (s * r)) := by rw [Nat.pow_succ r j, Nat.mul_left_comm s]
    have e4 : (j + 1) * r ^ (j + 1 + 1) = (j + 1) * (r ^ j * (r * r)) := by rw [Nat.pow_succ r (j + 1), Nat.pow_succ r j, Nat.mul_assoc]
    have e5 : r ^ j * (2 * (s * r)) = 2 * (r ^ j * (s * r)) := by rw [Nat.mul_left_comm]
    rw [e1, e2] at ih
    rw [Nat.mul_add (r ^ j), e5] at h3
    rw [e3, e4]
    generalize r ^ j * (s * r) = Y at *
    generalize r ^ j * (s * s) = X at *
    generalize r ^ j * (r * r) = Z at *
    generalize s ^ (j + 1 + 1) = t at *
    have a1 : (j + 1) * X = j * X + X := Nat.succ_mul ..
    have a2 : (j + 1 + 1) * Y = j * Y + Y + Y := by rw [Nat.succ_mul, Nat.succ_mul]
    have a3 : (j + 1) * Z = j * Z + Z := Nat.succ_mul ..
    have a4 : (j + 1) * (2 * Y) = 2 * (j * Y) + 2 * Y := by rw [Nat.succ_mul, Nat.mul_left_comm]
    have a5 : (j + 1) * (Z + X) = j * Z + Z + (j * X + X) := by rw [Nat.mul_add, a3, a1]
    rw [a4, a5] at h3
    rw [a1] at ih
    rw [a2, a3]
    generalize j * X = p at *
    generalize j * Y = q at *
    generalize j * Z = u at *
    omega
/-- Newton's step. -/
def o_nx (k n r : Nat) : Nat := (r * (k - 1) + n / r ^ (k - 1)) / k
theorem nx_up {k n r s : Nat} (hk : 0 < k) (hr : 0 < r) (h : s ^ k ≤ n) : s ≤ o_nx k n r := by
  obtain ⟨j, rfl⟩ : ∃ i, k = i + 1 := ⟨k - 1, by omega⟩
  unfold o_nx
  rw [Nat.add_sub_cancel, Nat.le_div_iff_mul_le hk]
  have h1 := amgm r s j
  have hp : 0 < r ^ j := Nat.pow_pos hr
  rcases Nat.le_total (s * (j + 1)) (r * j) with h2 | h2
  · exact Nat.le_trans h2 (Nat.le_add_right _ _)
  · obtain ⟨d, hd⟩ : ∃ d, s * (j + 1) = r * j + d := ⟨s * (j + 1) - r * j, by omega⟩
    rw [hd]
    refine Nat.add_le_add_left ((Nat.le_div_iff_mul_le hp).2 ?_) _
    have e1 : (j + 1) * (s * r ^ j) = (r * j + d) * r ^ j := by rw [← hd, Nat.mul_assoc, Nat.mul_left_comm]
    have e2 : (r * j + d) * r ^ j = j * r ^ (j + 1) + d * r ^ j := by rw [Nat.add_mul, Nat.pow_succ r j, Nat.mul_comm r j, Nat.mul_assoc, Nat.mul_comm r (r ^ j)]
    rw [e1, e2] at h1
    omega
theorem nx_end {k n r : Nat} (hk : 0 < k) (hr : 0 < r) (h : r ≤ o_nx k n r) : r ^ k ≤ n := by
  obtain ⟨j, rfl⟩ : ∃ i, k = i + 1 := ⟨k - 1, by omega⟩
  unfold o_nx at h
  rw [Nat.add_sub_cancel, Nat.le_div_iff_mul_le hk, Nat.mul_add, Nat.mul_one] at h
  have hp : 0 < r ^ j := Nat.pow_pos hr
  have : r ≤ n / r ^ j := by omega
  rw [Nat.le_div_iff_mul_le hp] at this
  rw [Nat.pow_succ, Nat.mul_comm]
  exact this

/-- The root without its last j bits. -/
def o_rj (k n j : Nat) : Nat := o_root k n / 2 ^ j * 2 ^ j
theorem rj_zero (k n : Nat) : o_rj k n 0 = o_root k n := by unfold o_rj; rw [Nat.pow_zero, Nat.div_one, Nat.mul_one]
theorem rj_start {k n j : Nat} (h : o_root k n < 2 ^ j) : o_rj k n j = 0 := by unfold o_rj; rw [Nat.div_eq_of_lt h, Nat.zero_mul]
theorem rj_step {k n : Nat} (j : Nat) (hk : 0 < k) : o_rj k n j = if (o_rj k n (j + 1) + 2 ^ j) ^ k ≤ n then o_rj k n (j + 1) + 2 ^ j else o_rj k n (j + 1) := by
  have hp : 0 < 2 ^ j := Nat.pow_pos (by decide)
  have hiff : (o_rj k n (j + 1) + 2 ^ j) ^ k ≤ n ↔ o_rj k n (j + 1) + 2 ^ j ≤ o_root k n := by
    constructor
    · exact le_root hk
    · exact fun h => Nat.le_trans (Nat.pow_le_pow_left h k) (root_le hk)
  simp only [hiff]
  unfold o_rj
  generalize o_root k n = r
  have e1 : r / 2 ^ (j + 1) = r / 2 ^ j / 2 := by rw [Nat.pow_succ, Nat.div_div_eq_div_mul]
  have e2 : r / 2 ^ j / 2 * 2 ^ (j + 1) = (2 * (r / 2 ^ j / 2)) * 2 ^ j := by rw [Nat.pow_succ, Nat.mul_comm (2 ^ j) 2, ← Nat.mul_assoc, Nat.mul_comm _ 2]
  rw [e1, e2]
  have e3 : 2 * (r / 2 ^ j / 2) * 2 ^ j + 2 ^ j = (2 * (r / 2 ^ j / 2) + 1) * 2 ^ j := (Nat.succ_mul _ _).symm
  rw [e3]
  have e4 : (2 * (r / 2 ^ j / 2) + 1) * 2 ^ j ≤ r ↔ 2 * (r / 2 ^ j / 2) + 1 ≤ r / 2 ^ j := (Nat.le_div_iff_mul_le hp).symm
  simp only [e4]
  generalize r / 2 ^ j = q
  split
  · congr 1; omega
  · congr 1; omega
theorem rj_lt {k n j : Nat} (h : o_root k n < 2 ^ (j + 1)) : o_rj k n (j + 1) + 2 ^ j ≤ 2 ^ (j + 1) := by
  rw [rj_start h, Nat.pow_succ]
  have : 0 < 2 ^ j := Nat.pow_pos (by decide)
  omega
theorem rj_le (k n j : Nat) : o_rj k n j ≤ o_root k n := Nat.div_mul_le_self ..
/-- A power of two above a root. -/
theorem root_bits {k n e b : Nat} (hb : n < 2 ^ b) (he : b ≤ e * k) : n < (2 ^ e) ^ k := by
  rw [← Nat.pow_mul]
  exact Nat.lt_of_lt_of_le hb (Nat.pow_le_pow_right (by decide) he)
theorem root_lt_bits {k n e b : Nat} (hk : 0 < k) (hb : n < 2 ^ b) (he : b ≤ e * k) : o_root k n < 2 ^ e := by
  rcases Nat.lt_or_ge (o_root k n) (2 ^ e) with h | h
  · exact h
  · have h1 := root_bits hb he
    have h2 : (2 ^ e) ^ k ≤ o_root k n ^ k := Nat.pow_le_pow_left h k
    have := root_le (n := n) hk
    omega

end Go.Proofs.YtkfdnpbpebmhaaaGreatDoor.Num
namespace Go.Proofs.YtkfdnpbpebmhaaaGreatDoor.Spec
open Go Go.RowKit Sx Num

def bz (r0 r1 : Nat) (f0 f1 : Int) : Int × Int := if _h : r1 = 0 then (f0, f1) else bz r1 (r0 % r1) f1 (f0 - ((r0 / r1 : Nat) : Int) * f1)
termination_by r1
decreasing_by exact Nat.mod_lt _ (by omega)
def o_bz1 (r0 r1 : Nat) (f0 f1 : Int) : Int := (bz r0 r1 f0 f1).1
def o_bz2 (r0 r1 : Nat) (f0 f1 : Int) : Int := (bz r0 r1 f0 f1).2
/-- The sizes that are kept. -/
def o_bok (r0 r1 : Nat) (f0 f1 : Int) : Prop := r1 < r0 ∧ f0 * f1 ≤ 0 ∧ ∃ N : Nat, N < B ^ 40000000 ∧ r0 ≤ N ∧ f0.natAbs ≤ N ∧ f0.natAbs * r1 + f1.natAbs * r0 = N
def bxZ (ty : TypeId) (z : Int) : Box := ⟨ty, .cells (absL [z]), true⟩
def bxZ2 (ty : TypeId) (y z : Int) : Box := ⟨ty, .cells (absL [y, z]), true⟩
def bx0 (ty : TypeId) : Box := ⟨ty, .cells [.v (.bool false), .row .u32 []], true⟩
def ptrV (i : Nat) : AV := .s (.one (.ptr i 0))
def I35 (ty ty2 : TypeId) (a b : Int) (r0 r1 : Nat) (f0 f1 : Int) : St :=
  ⟨[(2, ptrV 2), (3, ptrV 3), (4, ptrV 4), (5, ptrV 5), (6, ptrV 6), (7, ptrV 7), (8, ptrV 8)],
   [(2, bxZ ty a), (3, bxZ ty b), (4, bx0 ty), (5, bx0 ty), (6, bx0 ty), (7, bxZ2 ty2 r0 r1), (8, bxZ2 ty2 f0 f1)]⟩
def F35 (st : St) : Option (Ex × St × List Prop) :=
  match liv st.boxes 0, lk st.tmps 2, lk st.tmps 3, lk st.tmps 4, lk st.tmps 5, lk st.tmps 6, lk st.tmps 7, lk st.tmps 8, lk (fixBs st.boxes) 2, lk (fixBs st.boxes) 3, lk (fixBs st.boxes) 4, lk (fixBs st.boxes) 5, lk (fixBs st.boxes) 6, lk (fixBs st.boxes) 7, lk (fixBs st.boxes) 8 with
  | false, some (.s (.one (.ptr 2 0))), some (.s (.one (.ptr 3 0))), some (.s (.one (.ptr 4 0))), some (.s (.one (.ptr 5 0))), some (.s (.one (.ptr 6 0))), some (.s (.one (.ptr 7 0))), some (.s (.one (.ptr 8 0))),
    some ⟨ty, .cells [.v (.bool s2), .row .u32 x2], true⟩, some ⟨ty3, .cells [.v (.bool s3), .row .u32 x3], true⟩,
    some ⟨ty4, .cells [.v (.bool false), .row .u32 []], true⟩, some ⟨ty5, .cells [.v (.bool false), .row .u32 []], true⟩, some ⟨ty6, .cells [.v (.bool false), .row .u32 []], true⟩,
    some ⟨ty7, .cells [.v (.bool s7), .row .u32 x7, .v (.bool t7), .row .u32 y7], true⟩, some ⟨ty8, .cells [.v (.bool s8), .row .u32 x8, .v (.bool t8), .row .u32 y8], true⟩ =>
    some (.exit 0, I35 ty ty7 (o_toI s2 x2) (o_toI s3 x3) (o_gcd (o_toI s7 x7).natAbs (o_toI t7 y7).natAbs) 0 (o_bz1 (o_toI s7 x7).natAbs (o_toI t7 y7).natAbs (o_toI s8 x8) (o_toI t8 y8)) (o_bz2 (o_toI s7 x7).natAbs (o_toI t7 y7).natAbs (o_toI s8 x8) (o_toI t8 y8)),
      [ty3 = ty, ty4 = ty, ty5 = ty, ty6 = ty, ty8 = ty7, o_ok s2 x2, o_ok s3 x3, o_ok s7 x7, o_ok t7 y7, o_ok s8 x8, o_ok t8 y8, 0 ≤ o_toI s7 x7, 0 ≤ o_toI t7 y7, o_bok (o_toI s7 x7).natAbs (o_toI t7 y7).natAbs (o_toI s8 x8) (o_toI t8 y8)])
  | _, _, _, _, _, _, _, _, _, _, _, _, _, _, _ => none
def L35 : Loops := fun k => bif Nat.beq k 4 then some F35 else none
def I36 (ty : TypeId) (a b : Int) (r0 r1 : Nat) (f0 f1 : Int) : St :=
  ⟨[(2, ptrV 2), (3, ptrV 3), (4, ptrV 4), (5, ptrV 5), (6, ptrV 6), (7, ptrV 7), (9, ptrV 9), (11, ptrV 11), (12, ptrV 12)],
   [(2, bxZ ty a), (3, bxZ ty b), (4, bx0 ty), (5, bx0 ty), (6, bx0 ty), (7, bxZ ty r0), (9, bxZ ty r1), (11, bxZ ty f0), (12, bxZ ty f1)]⟩
def F36 (st : St) : Option (Ex × St × List Prop) :=
  match liv st.boxes 0, lk st.tmps 2, lk st.tmps 3, lk st.tmps 4, lk st.tmps 5, lk st.tmps 6, lk st.tmps 7, lk st.tmps 9, lk st.tmps 11, lk st.tmps 12, lk (fixBs st.boxes) 2, lk (fixBs st.boxes) 3, lk (fixBs st.boxes) 4, lk (fixBs st.boxes) 5, lk (fixBs st.boxes) 6, lk (fixBs st.boxes) 7, lk (fixBs st.boxes) 9, lk (fixBs st.boxes) 11, lk (fixBs st.boxes) 12 with
  | false, some (.s (.one (.ptr 2 0))), some (.s (.one (.ptr 3 0))), some (.s (.one (.ptr 4 0))), some (.s (.one (.ptr 5 0))), some (.s (.one (.ptr 6 0))), some (.s (.one (.ptr 7 0))), some (.s (.one (.ptr 9 0))), some (.s (.one (.ptr 11 0))), some (.s (.one (.ptr 12 0))),
    some ⟨ty, .cells [.v (.bool s2), .row .u32 x2], true⟩, some ⟨ty3, .cells [.v (.bool s3), .row .u32 x3], true⟩,
    some ⟨ty4, .cells [.v (.bool false), .row .u32 []], true⟩, some ⟨ty5, .cells [.v (.bool false), .row .u32 []], true⟩, some ⟨ty6, .cells [.v (.bool false), .row .u32 []], true⟩,
    some ⟨ty7, .cells [.v (.bool s7), .row .u32 x7], true⟩, some ⟨ty9, .cells [.v (.bool t7), .row .u32 y7], true⟩, some ⟨ty11, .cells [.v (.bool s8), .row .u32 x8], true⟩, some ⟨ty12, .cells [.v (.bool t8), .row .u32 y8], true⟩ =>
    some (.exit 0, I36 ty (o_toI s2 x2) (o_toI s3 x3) (o_gcd (o_toI s7 x7).natAbs (o_toI t7 y7).natAbs) 0 (o_bz1 (o_toI s7 x7).natAbs (o_toI t7 y7).natAbs (o_toI s8 x8) (o_toI t8 y8)) (o_bz2 (o_toI s7 x7).natAbs (o_toI t7 y7).natAbs (o_toI s8 x8) (o_toI t8 y8)),
      [ty3 = ty, ty4 = ty, ty5 = ty, ty6 = ty, ty7 = ty, ty9 = ty, ty11 = ty, ty12 = ty, o_ok s2 x2, o_ok s3 x3, o_ok s7 x7, o_ok t7 y7, o_ok s8 x8, o_ok t8 y8, 0 ≤ o_toI s7 x7, 0 ≤ o_toI t7 y7, o_bok (o_toI s7 x7).natAbs (o_toI t7 y7).natAbs (o_toI s8 x8) (o_toI t8 y8)])
  | _, _, _, _, _, _, _, _, _, _, _, _, _, _, _, _, _, _, _ => none
def L36 : Loops := fun k => bif Nat.beq k 7 then some F36 else none

end Go.Proofs.YtkfdnpbpebmhaaaGreatDoor.Spec
section
set_option maxRecDepth 100000
namespace Go.Proofs.YtkfdnpbpebmhaaaGreatDoor.Spec
open Go Go.RowKit Sx Num

theorem run35a (x y : Int) : fnEx Tryz.prog (lk E15) L35 (G1 []) 60 Tryz.f35 [.abs [x], .abs [y]] = some (AV.tup [SV.agg [LV.v (Value.bool (decide (o_toI false (enc (Int.natAbs x)) < (0 : Int)))), LV.row EK.u32 (enc (Int.natAbs (o_toI false (enc (Int.natAbs x)))))], SV.agg [LV.v (Value.bool (decide (sgnI (o_rt x) < (0 : Int)))), LV.row EK.u32 (enc (Int.natAbs (sgnI (o_rt x))))], SV.agg [LV.v (Value.bool false), LV.v (Value.slice none (0 : Nat) (0 : Nat))]], [decide ((↑(List.length (enc (Int.natAbs y))) : Int) = (0 : Int)) = true, Words (enc (Int.natAbs x)), Ln (enc (Int.natAbs x)), o_okz x, o_sz big (o_rt x), (-9223372036854775808 : Int) ≤ sgnI (o_rt x) ∧ sgnI (o_rt x) < (9223372036854775808 : Int)]) := by kernel_rfl
theorem run35b (x y : Int) : fnEx Tryz.prog (lk E15) L35 (G1 [17]) 60 Tryz.f35 [.abs [x], .abs [y]] = (let q3 := o_toI false (enc (Int.natAbs y)); let q4 := o_rem (o_rt x) (o_rt y); let q0 := (↑(o_gcd (Int.natAbs (o_rt q3)) (Int.natAbs (o_rt q4))) : Int); let q1 := o_bz1 (Int.natAbs (o_rt q3)) (Int.natAbs (o_rt q4)) (o_toI false []) (o_rt (1 : Int)); let q6 := (0 : Int) ≤ (0 : Int) ∧ (0 : Int) < (↑(2 : Nat) : Int); let q7 := o_rt (o_rt y) / o_rt q0; let q2 := o_rem (o_rt q1) q7; let q5 := o_rt q0 - o_rt q2 * o_rt (o_rt x); let q8 := o_sz big (o_rt (o_rt y)); some (AV.tup [SV.agg [LV.v (Value.bool (decide (q0 < (0 : Int)))), LV.row EK.u32 (enc (Int.natAbs q0))], SV.agg [LV.v (Value.bool (decide (o_rem (o_rt q1) q7 < (0 : Int)))), LV.row EK.u32 (enc (Int.natAbs q2))], SV.agg [LV.v (Value.bool (decide (q5 / o_rt (o_rt y) < (0 : Int)))), LV.row EK.u32 (enc (Int.natAbs (q5 / o_rt (o_rt y))))]], [decide ((↑(List.length (enc (Int.natAbs y))) : Int) = (0 : Int)) = false, Words (enc (Int.natAbs y)), Ln (enc (Int.natAbs y)), o_okz x, o_okz y, o_sz big (o_rt x), o_sz big (o_rt y), (-9223372036854775808 : Int) ≤ (1 : Int) ∧ (1 : Int) < (9223372036854775808 : Int), nat_lit 24 = nat_lit 24, nat_lit 24 = nat_lit 24, nat_lit 24 = nat_lit 24, nat_lit 24 = nat_lit 24, nat_lit 91 = nat_lit 91, o_okz x, o_okz y, o_okz q3, o_okz q4, o_ok false [], o_okz (1 : Int), (0 : Int) ≤ o_rt q3, (0 : Int) ≤ o_rt q4, o_bok (Int.natAbs (o_rt q3)) (Int.natAbs (o_rt q4)) (o_toI false []) (o_rt (1 : Int)), q6, q6, o_okz (o_rt y), o_okz q0, q8, o_sz big (o_rt q0), o_okz q1, o_sz big (o_rt q1), o_sz big q7, o_okz q2, o_okz (o_rt x), o_sz big (o_rt q2), o_sz big (o_rt (o_rt x)), o_okz q0, o_sz big (o_rt q0), o_sz big (o_rt q2 * o_rt (o_rt x)), o_okz (o_rt y), o_sz big q5, q8])) := by kernel_rfl
theorem loop35a (ty ty2 : TypeId) (a b : Int) (r0 r1 : Nat) (f0 f1 : Int) : codeV Tryz.prog (lk E15) L0 (G1 []) Tryz.f35.ntmps 60 (loopC Tryz.f35 0) [2, 3, 4, 5, 6, 7, 8] [2, 3, 4, 5, 6, 7, 8] (I35 ty ty2 a b r0 r1 f0 f1) = (let q0 := (0 : Int) ≤ (1 : Int) ∧ (1 : Int) < (↑(2 : Nat) : Int); let q1 := (0 : Int) ≤ (0 : Int) ∧ (0 : Int) < (↑(2 : Nat) : Int); let q2 := o_rt (↑r0 : Int) / o_rt (↑r1 : Int); let q3 := o_sz big (o_rt (↑r1 : Int)); some (Ex.normal, { tmps := [((2 : Nat), AV.s (SV.one (LV.ptr (2 : Nat) (0 : Nat)))), ((3 : Nat), AV.s (SV.one (LV.ptr (3 : Nat) (0 : Nat)))), ((4 : Nat), AV.s (SV.one (LV.ptr (4 : Nat) (0 : Nat)))), ((5 : Nat), AV.s (SV.one (LV.ptr (5 : Nat) (0 : Nat)))), ((6 : Nat), AV.s (SV.one (LV.ptr (6 : Nat) (0 : Nat)))), ((7 : Nat), AV.s (SV.one (LV.ptr (7 : Nat) (0 : Nat)))), ((8 : Nat), AV.s (SV.one (LV.ptr (8 : Nat) (0 : Nat))))], boxes := [((2 : Nat), { ty := ty, bc := BC.cells [LV.v (Value.bool (decide (a < (0 : Int)))), LV.row EK.u32 (enc (Int.natAbs a))], mut_ := true }), ((3 : Nat), { ty := ty, bc := BC.cells [LV.v (Value.bool (decide (b < (0 : Int)))), LV.row EK.u32 (enc (Int.natAbs b))], mut_ := true }), ((4 : Nat), { ty := ty, bc := BC.cells [LV.v (Value.bool false), LV.row EK.u32 []], mut_ := true }), ((5 : Nat), { ty := ty, bc := BC.cells [LV.v (Value.bool false), LV.row EK.u32 []], mut_ := true }), ((6 : Nat), { ty := ty, bc := BC.cells [LV.v (Value.bool false), LV.row EK.u32 []], mut_ := true }), ((7 : Nat), { ty := ty2, bc := BC.cells [LV.v (Value.bool (decide ((↑r1 : Int) < (0 : Int)))), LV.row EK.u32 (enc (Int.natAbs (↑r1 : Int))), LV.v (Value.bool (decide (o_rem (o_rt (↑r0 : Int)) (o_rt (↑r1 : Int)) < (0 : Int)))), LV.row EK.u32 (enc (Int.natAbs (o_rem (o_rt (↑r0 : Int)) (o_rt (↑r1 : Int)))))], mut_ := true }), ((8 : Nat), { ty := ty2, bc := BC.cells [LV.v (Value.bool (decide (f1 < (0 : Int)))), LV.row EK.u32 (enc (Int.natAbs f1)), LV.v (Value.bool (decide (o_rt f0 - o_rt q2 * o_rt f1 < (0 : Int)))), LV.row EK.u32 (enc (Int.natAbs (o_rt f0 - o_rt q2 * o_rt f1)))], mut_ := true })] }, [q0, o_okz (↑r1 : Int), q3, (Bool.not (decide (sgnI (o_rt (↑r1 : Int)) = (0 : Int)))) = true, q1, q0, o_okz (↑r0 : Int), o_okz (↑r1 : Int), o_sz big (o_rt (↑r0 : Int)), q3, q0, q1, q0, q0, q1, q0, o_okz q2, o_okz f1, o_sz big (o_rt q2), o_sz big (o_rt f1), o_okz f0, o_sz big (o_rt f0), o_sz big (o_rt q2 * o_rt f1), q1, q0])) := by kernel_rfl
theorem loop35b (ty ty2 : TypeId) (a b : Int) (r0 r1 : Nat) (f0 f1 : Int) : codeV Tryz.prog (lk E15) L0 (G1 [38]) Tryz.f35.ntmps 60 (loopC Tryz.f35 0) [2, 3, 4, 5, 6, 7, 8] [2, 3, 4, 5, 6, 7, 8] (I35 ty ty2 a b r0 r1 f0 f1) = some (Ex.exit (0 : Nat), { tmps := [((2 : Nat), AV.s (SV.one (LV.ptr (2 : Nat) (0 : Nat)))), ((3 : Nat), AV.s (SV.one (LV.ptr (3 : Nat) (0 : Nat)))), ((4 : Nat), AV.s (SV.one (LV.ptr (4 : Nat) (0 : Nat)))), ((5 : Nat), AV.s (SV.one (LV.ptr (5 : Nat) (0 : Nat)))), ((6 : Nat), AV.s (SV.one (LV.ptr (6 : Nat) (0 : Nat)))), ((7 : Nat), AV.s (SV.one (LV.ptr (7 : Nat) (0 : Nat)))), ((8 : Nat), AV.s (SV.one (LV.ptr (8 : Nat) (0 : Nat))))], boxes := [((2 : Nat), { ty := ty, bc := BC.cells [LV.v (Value.bool (decide (a < (0 : Int)))), LV.row EK.u32 (enc (Int.natAbs a))], mut_ := true }), ((3 : Nat), { ty := ty, bc := BC.cells [LV.v (Value.bool (decide (b < (0 : Int)))), LV.row EK.u32 (enc (Int.natAbs b))], mut_ := true }), ((4 : Nat), { ty := ty, bc := BC.cells [LV.v (Value.bool false), LV.row EK.u32 []], mut_ := true }), ((5 : Nat), { ty := ty, bc := BC.cells [LV.v (Value.bool false), LV.row EK.u32 []], mut_ := true }), ((6 : Nat), { ty := ty, bc := BC.cells [LV.v (Value.bool false), LV.row EK.u32 []], mut_ := true }), ((7 : Nat), { ty := ty2, bc := BC.cells [LV.v (Value.bool (decide ((↑r0 : Int) < (0 : Int)))), LV.row EK.u32 (enc (Int.natAbs (↑r0 : Int))), LV.v (Value.bool (decide ((↑r1 : Int) < (0 : Int)))), LV.row EK.u32 (enc (Int.natAbs (↑r1 : Int)))], mut_ := true }), ((8 : Nat), { ty := ty2, bc := BC.cells [LV.v (Value.bool (decide (f0 < (0 : Int)))), LV.row EK.u32 (enc (Int.natAbs f0)), LV.v (Value.bool (decide (f1 < (0 : Int)))), LV.row EK.u32 (enc (Int.natAbs f1))], mut_ := true })] }, [(0 : Int) ≤ (1 : Int) ∧ (1 : Int) < (↑(2 : Nat) : Int), o_okz (↑r1 : Int), o_sz big (o_rt (↑r1 : Int)), (Bool.not (decide (sgnI (o_rt (↑r1 : Int)) = (0 : Int)))) = false]) := by kernel_rfl
theorem run36a (x y : Int) : fnEx Tryz.prog (lk E15) L36 (G1 []) 60 Tryz.f36 [.abs [x], .abs [y]] = some (AV.tup [SV.agg [LV.v (Value.bool (decide ((↑(Int.natAbs (o_rt x)) : Int) < (0 : Int)))), LV.row EK.u32 (enc (Int.natAbs (absZ (o_rt x))))], SV.agg [LV.v (Value.bool (decide (sgnI (o_rt x) < (0 : Int)))), LV.row EK.u32 (enc (Int.natAbs (sgnI (o_rt x))))], SV.agg [LV.v (Value.bool false), LV.v (Value.slice none (0 : Nat) (0 : Nat))]], [decide ((↑(List.length (enc (Int.natAbs y))) : Int) = (0 : Int)) = true, o_okz x, o_sz big (o_rt x), o_okz x, o_sz big (o_rt x), (-9223372036854775808 : Int) ≤ sgnI (o_rt x) ∧ sgnI (o_rt x) < (9223372036854775808 : Int)]) := by kernel_rfl
theorem run36b (x y : Int) : fnEx Tryz.prog (lk E15) L36 (G1 [29]) 60 Tryz.f36 [.abs [x], .abs [y]] = (let q3 := o_rem (o_rt x) (o_rt y); let q6 := Int.natAbs (o_rt (absZ (o_rt y))); let q0 := (↑(o_gcd q6 (Int.natAbs (o_rt q3))) : Int); let q1 := o_bz1 q6 (Int.natAbs (o_rt q3)) (o_toI false []) (o_rt (1 : Int)); let q4 := o_rt (o_rt y) / o_rt q0; let q2 := o_rem (o_rt q1) (o_rt q4); let q5 := o_rt q0 - o_rt q2 * o_rt (o_rt x); let q7 := o_sz big (o_rt (o_rt y)); some (AV.tup [SV.agg [LV.v (Value.bool (decide (q0 < (0 : Int)))), LV.row EK.u32 (enc (Int.natAbs q0))], SV.agg [LV.v (Value.bool (decide (o_rem (o_rt q1) (o_rt q4) < (0 : Int)))), LV.row EK.u32 (enc (Int.natAbs q2))], SV.agg [LV.v (Value.bool (decide (q5 / o_rt (o_rt y) < (0 : Int)))), LV.row EK.u32 (enc (Int.natAbs (q5 / o_rt (o_rt y))))]], [decide ((↑(List.length (enc (Int.natAbs y))) : Int) = (0 : Int)) = false, o_okz y, o_sz big (o_rt y), o_okz x, o_okz y, o_sz big (o_rt x), o_sz big (o_rt y), (-9223372036854775808 : Int) ≤ (1 : Int) ∧ (1 : Int) < (9223372036854775808 : Int), nat_lit 24 = nat_lit 24, nat_lit 24 = nat_lit 24, nat_lit 24 = nat_lit 24, nat_lit 24 = nat_lit 24, nat_lit 24 = nat_lit 24, nat_lit 24 = nat_lit 24, nat_lit 24 = nat_lit 24, nat_lit 24 = nat_lit 24, o_okz x, o_okz y, o_okz (absZ (o_rt y)), o_okz q3, o_ok false [], o_okz (1 : Int), (0 : Int) ≤ o_rt (absZ (o_rt y)), (0 : Int) ≤ o_rt q3, o_bok q6 (Int.natAbs (o_rt q3)) (o_toI false []) (o_rt (1 : Int)), o_okz (o_rt y), o_okz q0, q7, o_sz big (o_rt q0), o_okz q1, o_okz q4, o_sz big (o_rt q1), o_sz big (o_rt q4), o_okz q2, o_okz (o_rt x), o_sz big (o_rt q2), o_sz big (o_rt (o_rt x)), o_okz q0, o_sz big (o_rt q0), o_sz big (o_rt q2 * o_rt (o_rt x)), o_okz (o_rt y), o_sz big q5, q7])) := by kernel_rfl
theorem loop36a (ty : TypeId) (a b : Int) (r0 r1 : Nat) (f0 f1 : Int) : codeV Tryz.prog (lk E15) L0 (G1 []) Tryz.f36.ntmps 60 (loopC Tryz.f36 0) [2, 3, 4, 5, 6, 7, 9, 11, 12] [2, 3, 4, 5, 6, 7, 9, 11, 12] (I36 ty a b r0 r1 f0 f1) = (let q0 := o_rt (↑r0 : Int) / o_rt (↑r1 : Int); let q1 := enc (Int.natAbs (↑r1 : Int)); some (Ex.normal, { tmps := [((2 : Nat), AV.s (SV.one (LV.ptr (2 : Nat) (0 : Nat)))), ((3 : Nat), AV.s (SV.one (LV.ptr (3 : Nat) (0 : Nat)))), ((4 : Nat), AV.s (SV.one (LV.ptr (4 : Nat) (0 : Nat)))), ((5 : Nat), AV.s (SV.one (LV.ptr (5 : Nat) (0 : Nat)))), ((6 : Nat), AV.s (SV.one (LV.ptr (6 : Nat) (0 : Nat)))), ((7 : Nat), AV.s (SV.one (LV.ptr (7 : Nat) (0 : Nat)))), ((9 : Nat), AV.s (SV.one (LV.ptr (9 : Nat) (0 : Nat)))), ((11 : Nat), AV.s (SV.one (LV.ptr (11 : Nat) (0 : Nat)))), ((12 : Nat), AV.s (SV.one (LV.ptr (12 : Nat) (0 : Nat))))], boxes := [((2 : Nat), { ty := ty, bc := BC.cells [LV.v (Value.bool (decide (a < (0 : Int)))), LV.row EK.u32 (enc (Int.natAbs a))], mut_ := true }), ((3 : Nat), { ty := ty, bc := BC.cells [LV.v (Value.bool (decide (b < (0 : Int)))), LV.row EK.u32 (enc (Int.natAbs b))], mut_ := true }), ((4 : Nat), { ty := ty, bc := BC.cells [LV.v (Value.bool false), LV.row EK.u32 []], mut_ := true }), ((5 : Nat), { ty := ty, bc := BC.cells [LV.v (Value.bool false), LV.row EK.u32 []], mut_ := true }), ((6 : Nat), { ty := ty, bc := BC.cells [LV.v (Value.bool false), LV.row EK.u32 []], mut_ := true }), ((7 : Nat), { ty := ty, bc := BC.cells [LV.v (Value.bool (decide ((↑r1 : Int) < (0 : Int)))), LV.row EK.u32 q1], mut_ := true }), ((9 : Nat), { ty := ty, bc := BC.cells [LV.v (Value.bool (decide (o_rem (o_rt (↑r0 : Int)) (o_rt (↑r1 : Int)) < (0 : Int)))), LV.row EK.u32 (enc (Int.natAbs (o_rem (o_rt (↑r0 : Int)) (o_rt (↑r1 : Int)))))], mut_ := true }), ((11 : Nat), { ty := ty, bc := BC.cells [LV.v (Value.bool (decide (f1 < (0 : Int)))), LV.row EK.u32 (enc (Int.natAbs f1))], mut_ := true }), ((12 : Nat), { ty := ty, bc := BC.cells [LV.v (Value.bool (decide (o_rt f0 - o_rt q0 * o_rt f1 < (0 : Int)))), LV.row EK.u32 (enc (Int.natAbs (o_rt f0 - o_rt q0 * o_rt f1)))], mut_ := true })] }, [decide ((0 : Int) < (↑(List.length q1) : Int)) = true, o_okz (↑r0 : Int), o_okz (↑r1 : Int), o_sz big (o_rt (↑r0 : Int)), o_sz big (o_rt (↑r1 : Int)), o_okz q0, o_okz f1, o_sz big (o_rt q0), o_sz big (o_rt f1), o_okz f0, o_sz big (o_rt f0), o_sz big (o_rt q0 * o_rt f1)])) := by kernel_rfl
theorem loop36b (ty : TypeId) (a b : Int) (r0 r1 : Nat) (f0 f1 : Int) : codeV Tryz.prog (lk E15) L0 (G1 [50]) Tryz.f36.ntmps 60 (loopC Tryz.f36 0) [2, 3, 4, 5, 6, 7, 9, 11, 12] [2, 3, 4, 5, 6, 7, 9, 11, 12] (I36 ty a b r0 r1 f0 f1) = (let q0 := enc (Int.natAbs (↑r1 : Int)); some (Ex.exit (0 : Nat), { tmps := [((2 : Nat), AV.s (SV.one (LV.ptr (2 : Nat) (0 : Nat)))), ((3 : Nat), AV.s (SV.one (LV.ptr (3 : Nat) (0 : Nat)))), ((4 : Nat), AV.s (SV.one (LV.ptr (4 : Nat) (0 : Nat)))), ((5 : Nat), AV.s (SV.one (LV.ptr (5 : Nat) (0 : Nat)))), ((6 : Nat), AV.s (SV.one (LV.ptr (6 : Nat) (0 : Nat)))), ((7 : Nat), AV.s (SV.one (LV.ptr (7 : Nat) (0 : Nat)))), ((9 : Nat), AV.s (SV.one (LV.ptr (9 : Nat) (0 : Nat)))), ((11 : Nat), AV.s (SV.one (LV.ptr (11 : Nat) (0 : Nat)))), ((12 : Nat), AV.s (SV.one (LV.ptr (12 : Nat) (0 : Nat))))], boxes := [((2 : Nat), { ty := ty, bc := BC.cells [LV.v (Value.bool (decide (a < (0 : Int)))), LV.row EK.u32 (enc (Int.natAbs a))], mut_ := true }), ((3 : Nat), { ty := ty, bc := BC.cells [LV.v (Value.bool (decide (b < (0 : Int)))), LV.row EK.u32 (enc (Int.natAbs b))], mut_ := true }), ((4 : Nat), { ty := ty, bc := BC.cells [LV.v (Value.bool false), LV.row EK.u32 []], mut_ := true }), ((5 : Nat), { ty := ty, bc := BC.cells [LV.v (Value.bool false), LV.row EK.u32 []], mut_ := true }), ((6 : Nat), { ty := ty, bc := BC.cells [LV.v (Value.bool false), LV.row EK.u32 []], mut_ := true }), ((7 : Nat), { ty := ty, bc := BC.cells [LV.v (Value.bool (decide ((↑r0 : Int) < (0 : Int)))), LV.row EK.u32 (enc (Int.natAbs (↑r0 : Int)))], mut_ := true }), ((9 : Nat), { ty := ty, bc := BC.cells [LV.v (Value.bool (decide ((↑r1 : Int) < (0 : Int)))), LV.row EK.u32 q0], mut_ := true }), ((11 : Nat), { ty := ty, bc := BC.cells [LV.v (Value.bool (decide (f0 < (0 : Int)))), LV.row EK.u32 (enc (Int.natAbs f0))], mut_ := true }), ((12 : Nat), { ty := ty, bc := BC.cells [LV.v (Value.bool (decide (f1 < (0 : Int)))), LV.row EK.u32 (enc (Int.natAbs f1))], mut_ := true })] }, [decide ((0 : Int) < (↑(List.length q0) : Int)) = false])) := by kernel_rfl
end Go.Proofs.YtkfdnpbpebmhaaaGreatDoor.Spec
end
section
set_option maxRecDepth 100000
namespace Go.Proofs.YtkfdnpbpebmhaaaGreatDoor.Spec
open Go Go.RowKit Sx Num

theorem run39 (x y : Int) : fnEx Tryz.prog (lk E15) L0 (G1 []) 60 Tryz.f39 [.abs [x], .abs [y]] = (let q0 := enc (o_gcd (nv (enc (Int.natAbs x))) (nv (enc (Int.natAbs y)))); some (AV.s (SV.agg [LV.v (Value.bool (decide (o_toI false q0 < (0 : Int)))), LV.row EK.u32 (enc (Int.natAbs (o_toI false q0)))]), [Canon (enc (Int.natAbs x)), Canon (enc (Int.natAbs y)), List.length (enc (Int.natAbs x)) ≤ (100000000 : Nat), List.length (enc (Int.natAbs y)) ≤ (100000000 : Nat), Words q0, Ln q0])) := by kernel_rfl
theorem run26a (x n : Int) : fnEx Tryz.prog (lk E15) L0 (G1 []) 60 Tryz.f26 [.abs [x], num n] = (let q0 := decide (n < (0 : Int)) = true; some (AV.tup [SV.agg [LV.v (Value.bool false), LV.v (Value.slice none (0 : Nat) (0 : Nat))], SV.one (LV.v (Value.int .i64 (1 : Int)))], [q0, q0, q0, true = true])) := by kernel_rfl
theorem run26b (x n : Int) : fnEx Tryz.prog (lk E15) L0 (G1 [7, 8]) 60 Tryz.f26 [.abs [x], num n] = (let q0 := decide (n < (0 : Int)) = false; some (AV.tup [SV.agg [LV.v (Value.bool false), LV.v (Value.slice none (0 : Nat) (0 : Nat))], SV.one (LV.v (Value.int .i64 (1 : Int)))], [q0, q0, q0, decide ((4096 : Int) < n) = true])) := by kernel_rfl
theorem run26c (x n : Int) : fnEx Tryz.prog (lk E15) L0 (G1 [7, 8, 11]) 60 Tryz.f26 [.abs [x], num n] = (let q0 := enc (nv (enc (Int.natAbs x)) ^ Int.toNat n); let q1 := decide (x < (0 : Int)) = true; let q2 := decide (n < (0 : Int)) = false; let q3 := Int.tmod n (2 : Int) == (1 : Int); some (AV.tup [SV.agg [LV.v (Value.bool (decide (o_toI q3 q0 < (0 : Int)))), LV.row EK.u32 (enc (Int.natAbs (o_toI q3 q0)))], SV.one (LV.v (Value.int .i64 (0 : Int)))], [q2, q2, q2, decide ((4096 : Int) < n) = false, Canon (enc (Int.natAbs x)), (0 : Int) ≤ n ∧ n ≤ (100000000 : Int), List.length (enc (Int.natAbs x)) * (Int.toNat n + (1 : Nat)) ≤ (100000000 : Nat), q1, q1, ¬(2 : Int) = (0 : Int), q1, q1, Words q0, Ln q0])) := by kernel_rfl
theorem run26d (x n : Int) : fnEx Tryz.prog (lk E15) L0 (G1 [7, 8, 11, 19]) 60 Tryz.f26 [.abs [x], num n] = (let q0 := enc (nv (enc (Int.natAbs x)) ^ Int.toNat n); let q1 := decide (x < (0 : Int)) = false; let q2 := decide (n < (0 : Int)) = false; some (AV.tup [SV.agg [LV.v (Value.bool (decide (o_toI false q0 < (0 : Int)))), LV.row EK.u32 (enc (Int.natAbs (o_toI false q0)))], SV.one (LV.v (Value.int .i64 (0 : Int)))], [q2, q2, q2, decide ((4096 : Int) < n) = false, Canon (enc (Int.natAbs x)), (0 : Int) ≤ n ∧ n ≤ (100000000 : Int), List.length (enc (Int.natAbs x)) * (Int.toNat n + (1 : Nat)) ≤ (100000000 : Nat), q1, q1, q1, q1, Words q0, Ln q0])) := by kernel_rfl
theorem run46a (x n : Int) : fnEx Tryz.prog (lk E15) L0 (G1 []) 60 Tryz.f46 [.abs [x], num n] = (let q0 := decide (n < (0 : Int)) = true; some (AV.tup [SV.agg [LV.v (Value.bool false), LV.v (Value.slice none (0 : Nat) (0 : Nat))], SV.one (LV.v (Value.int .i64 (1 : Int)))], [q0, q0, q0, true = true])) := by kernel_rfl
theorem run46b (x n : Int) : fnEx Tryz.prog (lk E15) L0 (G1 [7, 8]) 60 Tryz.f46 [.abs [x], num n] = (let q0 := decide (n < (0 : Int)) = false; some (AV.tup [SV.agg [LV.v (Value.bool false), LV.v (Value.slice none (0 : Nat) (0 : Nat))], SV.one (LV.v (Value.int .i64 (1 : Int)))], [q0, q0, q0, decide ((4096 : Int) < n) = true])) := by kernel_rfl
theorem run46c (x n : Int) : fnEx Tryz.prog (lk E15) L0 (G1 [7, 8, 11]) 60 Tryz.f46 [.abs [x], num n] = (let q0 := decide (x < (0 : Int)); let q1 := decide (n < (0 : Int)) = false; some (AV.tup [SV.agg [LV.v (Value.bool (decide (o_toI q0 (enc (Int.natAbs x)) ^ Int.toNat n < (0 : Int)))), LV.row EK.u32 (enc (Int.natAbs (o_toI q0 (enc (Int.natAbs x)) ^ Int.toNat n)))], SV.one (LV.v (Value.int .i64 (0 : Int)))], [q1, q1, q1, decide ((4096 : Int) < n) = false, o_ok q0 (enc (Int.natAbs x)), (0 : Int) ≤ n ∧ n ≤ (100000000 : Int), List.length (enc (Int.natAbs (o_toI q0 (enc (Int.natAbs x))))) * (Int.toNat n + (1 : Nat)) ≤ (100000000 : Nat)])) := by kernel_rfl
theorem run37 (a b c x y z : Int) : fnEx Tryz.prog (lk E15) L0 (G1 []) 60 Tryz.f37 [.abs [a], .abs [b], .abs [c], .abs [x], .abs [y], .abs [z]] = (let q2 := decide (c < (0 : Int)); let q3 := decide (y < (0 : Int)); let q4 := decide (x < (0 : Int)); let q5 := decide (z < (0 : Int)); let q6 := decide (a < (0 : Int)); let q0 := decide (o_toI q6 (enc (Int.natAbs a)) = o_toI q4 (enc (Int.natAbs x))) = true; let q7 := decide (b < (0 : Int)); let q1 := decide (o_toI q7 (enc (Int.natAbs b)) = o_toI q3 (enc (Int.natAbs y))) = true; some (AV.s (SV.one (LV.v (Value.bool (decide (o_toI q2 (enc (Int.natAbs c)) = o_toI q5 (enc (Int.natAbs z))))))), [o_ok q6 (enc (Int.natAbs a)), o_ok q4 (enc (Int.natAbs x)), o_sz big (o_toI q6 (enc (Int.natAbs a))), o_sz big (o_toI q4 (enc (Int.natAbs x))), q0, q0, q0, o_ok q7 (enc (Int.natAbs b)), o_ok q3 (enc (Int.natAbs y)), o_sz big (o_toI q7 (enc (Int.natAbs b))), o_sz big (o_toI q3 (enc (Int.natAbs y))), q0, q1, q1, q1, o_ok q2 (enc (Int.natAbs c)), o_ok q5 (enc (Int.natAbs z)), o_sz big (o_toI q2 (enc (Int.natAbs c))), o_sz big (o_toI q5 (enc (Int.natAbs z))), q1])) := by kernel_rfl
theorem run50 (a b c x y z : Int) : fnEx Tryz.prog (lk E15) L0 (G1 []) 60 Tryz.f50 [.abs [a], .abs [b], .abs [c], num x, num y, num z] = (let q2 := (-9223372036854775808 : Int); let q3 := (9223372036854775808 : Int); let q4 := decide (a < (0 : Int)); let q0 := decide (o_toI q4 (enc (Int.natAbs a)) = x) = true; let q5 := decide (c < (0 : Int)); let q6 := decide (b < (0 : Int)); let q1 := decide (o_toI q6 (enc (Int.natAbs b)) = y) = true; some (AV.s (SV.one (LV.v (Value.bool (decide (o_toI q5 (enc (Int.natAbs c)) = z))))), [q2 ≤ x ∧ x < q3, o_ok q4 (enc (Int.natAbs a)), o_sz big (o_toI q4 (enc (Int.natAbs a))), o_sz big x, q0, q0, q0, q2 ≤ y ∧ y < q3, q0, o_ok q6 (enc (Int.natAbs b)), o_sz big (o_toI q6 (enc (Int.natAbs b))), o_sz big y, q0, q1, q1, q1, q2 ≤ z ∧ z < q3, q1, o_ok q5 (enc (Int.natAbs c)), o_sz big (o_toI q5 (enc (Int.natAbs c))), o_sz big z, q1])) := by kernel_rfl
theorem run48b (x y : Int) : fnEx Tryz.prog (lk E15) L0 (G1 [18, 19]) 60 Tryz.f48 [.abs [x], .abs [y]] = (let q1 := decide ((↑(List.length (enc (Int.natAbs y))) : Int) = (0 : Int)) = false; let q4 := decide (y < (0 : Int)); let q3 := o_toI q4 (enc (Int.natAbs y)); let q5 := decide (x < (0 : Int)); let q2 := o_toI q5 (enc (Int.natAbs x)); let q0 := decide (o_dz q2 = (0 : Int)) = true; some (AV.s (SV.one (LV.v (Value.bool (decide ((↑(List.length (enc (Int.natAbs (o_rem q3 q2)))) : Int) = (0 : Int)))))), [o_ok q4 (enc (Int.natAbs y)), o_ok q5 (enc (Int.natAbs x)), o_sz big q3, o_sz big q2, q1, q1, q1, q0, q0, q0, q0, q1, q0, q1])) := by kernel_rfl
end Go.Proofs.YtkfdnpbpebmhaaaGreatDoor.Spec
end
namespace Go.Proofs.YtkfdnpbpebmhaaaGreatDoor.Spec
open Go Go.RowKit Sx Num

theorem con39 : Con Tryz.prog 39 (spZ2 gcdZ) := by
  refine con_flatZ (l := E15) (fn := Tryz.f39) hmix E15ok (by kernel_rfl) (by kernel_rfl) (fun _ => by kernel_rfl) ?_
  intro avs r ps hsp hps
  unfold spZ2 at hsp
  split at hsp
  · rename_i x y
    simp only [Option.some.injEq, Prod.mk.injEq] at hsp
    obtain ⟨rfl, rfl⟩ := hsp
    obtain ⟨hx, hy, _⟩ := hps
    have lx := sz_big hx
    have ly := sz_big hy
    have lg := gcd_len lx ly
    refine ⟨rfl, _, _, _, _, run39 x y, unZ (by rw [toI_n, nv_enc, nv_enc]; rfl), ?_⟩
    simp only [AllP, nv_enc, words_e, canon_e]
    unfold Ln
    and_intros <;> first | exact trivial | omega
  · cases hsp
/-- A power and its error. -/
def o_powZ (x n : Int) : Int := if 0 ≤ n ∧ n ≤ 4096 then x ^ n.toNat else 0
def o_pe (n : Int) : Int := if 0 ≤ n ∧ n ≤ 4096 then 0 else 1
def spPowE : Sp
  | [.abs [x], .one (.v (.int .i64 n))] => some (.tup [.abs [o_powZ x n], num (o_pe n)], [(enc x.natAbs).length * 4097 ≤ 100000000 ∨ (enc x.natAbs).length * (n.toNat + 1) ≤ 100000000 ∨ ¬ (0 ≤ n ∧ n ≤ 4096)])
  | _ => none
def spPowE0 : Sp
  | [.abs [_x], .one (.v (.int .i64 n))] => some (.tup [.agg [.v (.bool false), .v (.slice none 0 0)], num 1], [¬ (0 ≤ n ∧ n ≤ 4096)])
  | _ => none
def spPowE1 : Sp
  | [.abs [x], .one (.v (.int .i64 n))] => some (.tup [.abs [x ^ n.toNat], num 0], [0 ≤ n ∧ n ≤ 4096, (enc x.natAbs).length * (n.toNat + 1) ≤ 100000000])
  | _ => none
theorem pow_z {f : FuncId} (h0 : Con Tryz.prog f spPowE0) (h1 : Con Tryz.prog f spPowE1) : Con Tryz.prog f spPowE := by
  refine con_cases (con_absA (con_ans h0)) h1 fun avs r ps hs hp => ?_
  unfold spPowE at hs
  split at hs
  · rename_i x n
    simp only [Option.some.injEq, Prod.mk.injEq] at hs
    obtain ⟨rfl, rfl⟩ := hs
    obtain ⟨hx, _⟩ := hp
    by_cases h : 0 ≤ n ∧ n ≤ 4096
    · right
      rw [o_powZ, o_pe, if_pos h, if_pos h]
      refine ⟨_, rfl, h, ?_, trivial⟩
      rcases hx with hx | hx | hx
      · exact Nat.le_trans (Nat.mul_le_mul_left _ (by omega)) hx
      · exact hx
      · exact absurd h hx
    · left
      rw [o_powZ, o_pe, if_neg h, if_neg h]
      exact ⟨_, rfl, h, trivial⟩
  · cases hs
theorem tupP {a b : Int} (h : a = b) : AV.tup [.agg [.v (.bool (decide (a < 0))), .row .u32 (enc a.natAbs)], .one (.v (.int .i64 0))] = unAA (.tup [.abs [b], num 0]) := by subst h; rfl
theorem pow_sign (x : Int) (k : Nat) : (if decide (x < 0) = true ∧ k % 2 = 1 then -((x.natAbs ^ k : Nat) : Int) else ((x.natAbs ^ k : Nat) : Int)) = x ^ k := by
  rw [Int.natCast_pow]
  by_cases h : x < 0
  · obtain ⟨n, rfl⟩ : ∃ n : Nat, x = -(n : Int) := ⟨x.natAbs, by omega⟩
    have sq : (-(n : Int)) ^ 2 = (n : Int) ^ 2 := by rw [Int.pow_succ, Int.pow_succ, Int.pow_zero, Int.pow_succ, Int.pow_succ, Int.pow_zero, Int.one_mul, Int.one_mul, Int.neg_mul_neg]
    have e2 : ∀ j : Nat, (-(n : Int)) ^ (2 * j) = (n : Int) ^ (2 * j) := fun j => by rw [Int.pow_mul, Int.pow_mul, sq]
    rw [Int.natAbs_neg, Int.natAbs_natCast]
    by_cases hk : k % 2 = 1
    · rw [if_pos ⟨decide_eq_true h, hk⟩]
      obtain ⟨j, rfl⟩ : ∃ j, k = 2 * j + 1 := ⟨k / 2, by omega⟩
      rw [Int.pow_succ, Int.pow_succ, e2, Int.mul_neg]
    · rw [if_neg (fun e => hk e.2)]
      obtain ⟨j, rfl⟩ : ∃ j, k = 2 * j := ⟨k / 2, by omega⟩
      rw [e2]
  · rw [if_neg (fun e => h (of_decide_eq_true e.1)), show (x.natAbs : Int) = x by omega]
theorem con26a : Con Tryz.prog 26 spPowE0 := by
  refine con_flat hmix E15ok (by kernel_rfl) (fn := Tryz.f26) (by kernel_rfl) (fun _ => by kernel_rfl) ?_
  intro avs r ps hsp hps
  unfold spPowE0 at hsp
  split at hsp
  · rename_i x n
    simp only [Option.some.injEq, Prod.mk.injEq] at hsp
    obtain ⟨rfl, rfl⟩ := hsp
    obtain ⟨hn, _⟩ := hps
    refine ⟨rfl, ?_⟩
    by_cases h : n < 0
    · exact ⟨_, _, _, _, run26a x n, rfl, by simp [AllP, h]⟩
    · exact ⟨_, _, _, _, run26b x n, rfl, by simp [AllP, h]; omega⟩
  · cases hsp
theorem con46a : Con Tryz.prog 46 spPowE0 := by
  refine con_flat hmix E15ok (by kernel_rfl) (fn := Tryz.f46) (by kernel_rfl) (fun _ => by kernel_rfl) ?_
  intro avs r ps hsp hps
  unfold spPowE0 at hsp
  split at hsp
  · rename_i x n
    simp only [Option.some.injEq, Prod.mk.injEq] at hsp
    obtain ⟨rfl, rfl⟩ := hsp
    obtain ⟨hn, _⟩ := hps
    refine ⟨rfl, ?_⟩
    by_cases h : n < 0
    · exact ⟨_, _, _, _, run46a x n, rfl, by simp [AllP, h]⟩
    · exact ⟨_, _, _, _, run46b x n, rfl, by simp [AllP, h]; omega⟩
  · cases hsp
theorem con26b : Con Tryz.prog 26 spPowE1 := by
  refine con_flatZ (l := E15) (fn := Tryz.f26) hmix E15ok (by kernel_rfl) (by kernel_rfl) (fun _ => by kernel_rfl) ?_
  intro avs r ps hsp hps
  unfold spPowE1 at hsp
  split at hsp
  · rename_i x n
    simp only [Option.some.injEq, Prod.mk.injEq] at hsp
    obtain ⟨rfl, rfl⟩ := hsp
    obtain ⟨⟨h0, h1⟩, h2, _⟩ := hps
    obtain ⟨k, rfl⟩ := Int.eq_ofNat_of_zero_le h0
    rw [tnc] at h2 ⊢
    have hl : (enc (x.natAbs ^ k)).length ≤ 200000000 := by
      have := pow_len (Nat.le_refl (enc x.natAbs).length) k
      have h3 := Nat.le_trans (Nat.mul_le_mul_left (enc x.natAbs).length (Nat.le_succ k)) h2
      omega
    have hp := pow_sign x k
    have wm : Int.tmod (k : Int) 2 = ((k % 2 : Nat) : Int) := rfl
    refine ⟨rfl, ?_⟩
    by_cases h : x < 0
    · refine ⟨_, _, _, _, run26c x k, tupP ?_, ?_⟩
      · rw [toI_n, nv_enc, tnc, wm, ← hp]
        have e : ((((k % 2 : Nat) : Int) == 1) = true) ↔ (decide (x < 0) = true ∧ k % 2 = 1) := by
          rw [beq_iff_eq]
          exact ⟨fun e => ⟨decide_eq_true h, by omega⟩, fun e => by omega⟩
        simp only [e]
      · simp only [AllP, nv_enc, tnc, words_e, canon_e, decide_eq_true h]
        unfold Ln
        and_intros <;> first | exact trivial | omega | exact decide_eq_false (by omega) | decide
    · refine ⟨_, _, _, _, run26d x k, tupP ?_, ?_⟩
      · rw [toI_n, nv_enc, tnc, ← hp]
        simp only [Bool.false_eq_true, if_false, decide_eq_false h, false_and]
      · simp only [AllP, nv_enc, tnc, words_e, canon_e, decide_eq_false h]
        unfold Ln
        and_intros <;> first | exact trivial | omega | exact decide_eq_false (by omega)
  · cases hsp
theorem con46b : Con Tryz.prog 46 spPowE1 := by
  refine con_flatZ (l := E15) (fn := Tryz.f46) hmix E15ok (by kernel_rfl) (by kernel_rfl) (fun _ => by kernel_rfl) ?_
  intro avs r ps hsp hps
  unfold spPowE1 at hsp
  split at hsp
  · rename_i x n
    simp only [Option.some.injEq, Prod.mk.injEq] at hsp
    obtain ⟨rfl, rfl⟩ := hsp
    obtain ⟨⟨h0, h1⟩, h2, _⟩ := hps
    refine ⟨rfl, _, _, _, _, run46c x n, tupP (by rw [toI_enc]), ?_⟩
    simp only [AllP, toI_enc, ok_e]
    and_intros <;> first | exact trivial | omega | exact decide_eq_false (by omega)
  · cases hsp
theorem con26 : Con Tryz.prog 26 spPowE := pow_z con26a con26b
theorem con46 : Con Tryz.prog 46 spPowE := pow_z con46a con46b
/-- Three numbers and their values. -/
def spThree : Sp
  | [.abs [a], .abs [b], .abs [c], .one (.v (.int .i64 x)), .one (.v (.int .i64 y)), .one (.v (.int .i64 z))] => some (.s (.one (.v (.bool (decide (c = z))))), [a = x, b = y, o_sz big a, o_sz big b, o_sz big c, -9223372036854775808 ≤ x ∧ x < 9223372036854775808, -9223372036854775808 ≤ y ∧ y < 9223372036854775808, -9223372036854775808 ≤ z ∧ z < 9223372036854775808])
  | _ => none
theorem sz_i64 {x : Int} (h : -9223372036854775808 ≤ x ∧ x < 9223372036854775808) : o_sz big x := by
  refine sz_mono (m := 2) ?_ (by decide)
  unfold o_sz B
  omega
theorem con50 : Con Tryz.prog 50 spThree := by
  refine con_flat hmix E15ok (by kernel_rfl) (fn := Tryz.f50) (by kernel_rfl) (fun _ => by kernel_rfl) ?_
  intro avs r ps hsp hps
  unfold spThree at hsp
  split at hsp
  · rename_i a b c x y z
    simp only [Option.some.injEq, Prod.mk.injEq] at hsp
    obtain ⟨rfl, rfl⟩ := hsp
    obtain ⟨rfl, rfl, h1, h2, h3, h4, h5, h6, _⟩ := hps
    refine ⟨rfl, _, _, _, _, run50 a b c a b z, by rw [toI_enc], ?_⟩
    simp only [AllP, toI_enc, ok_e]
    have := sz_i64 h6
    and_intros <;> first | exact trivial | assumption | omega | rfl | simp
  · cases hsp
def spSame3 : Sp
  | [.abs [a], .abs [b], .abs [c], .abs [x], .abs [y], .abs [z]] => some (.s (.one (.v (.bool (decide (c = z))))), [a = x, b = y, o_sz big a, o_sz big b, o_sz big c, o_sz big z])
  | _ => none
theorem con37 : Con Tryz.prog 37 spSame3 := by
  refine con_flat hmix E15ok (by kernel_rfl) (fn := Tryz.f37) (by kernel_rfl) (fun _ => by kernel_rfl) ?_
  intro avs r ps hsp hps
  unfold spSame3 at hsp
  split at hsp
  · rename_i a b c x y z
    simp only [Option.some.injEq, Prod.mk.injEq] at hsp
    obtain ⟨rfl, rfl⟩ := hsp
    obtain ⟨rfl, rfl, h1, h2, h3, h4, _⟩ := hps
    refine ⟨rfl, _, _, _, _, run37 a b c a b z, by rw [toI_enc, toI_enc], ?_⟩
    simp only [AllP, toI_enc, ok_e]
    and_intros <;> first | exact trivial | assumption | rfl | simp
  · cases hsp
def E16 : List (Nat × Ctr) := (39, .fn (zArgs (spZ2 gcdZ))) :: (26, .fn (zArgs spPowE)) :: (46, .fn (zArgs spPowE)) :: (50, .fn (zArgs spThree)) :: (37, .fn (zArgs spSame3)) :: E15
theorem E16ok : EnvOk Tryz.prog E16 := .cons (con_z con39) (.cons (con_z con26) (.cons (con_z con46) (.cons (con_z con50) (.cons (con_z con37) E15ok))))

end Go.Proofs.YtkfdnpbpebmhaaaGreatDoor.Spec
namespace Go.Proofs.YtkfdnpbpebmhaaaGreatDoor.Spec
open Go Go.RowKit Sx Num

theorem bz_zero (a : Nat) (f0 f1 : Int) : bz a 0 f0 f1 = (f0, f1) := by rw [bz, dif_pos rfl]
theorem bz_step {a b : Nat} {f0 f1 : Int} (h : 0 < b) : bz b (a % b) f1 (f0 - ((a / b : Nat) : Int) * f1) = bz a b f0 f1 := by rw [bz.eq_def a b, dif_neg (by omega)]
theorem abs_step {f0 f1 : Int} (q : Nat) (h : f0 * f1 ≤ 0) : (f0 - (q : Int) * f1).natAbs = f0.natAbs + q * f1.natAbs := by
  rcases Int.lt_trichotomy f0 0 with h0 | h0 | h0
  · have h1 : 0 ≤ f1 := by
      rcases (by omega : f1 < 0 ∨ 0 ≤ f1) with h1 | h1
      · have := Int.mul_pos_of_neg_of_neg h0 h1; omega
      · exact h1
    obtain ⟨n, rfl⟩ : ∃ n : Nat, f0 = -(n : Int) := ⟨f0.natAbs, by omega⟩
    obtain ⟨m, rfl⟩ := Int.eq_ofNat_of_zero_le h1
    rw [← Int.natCast_mul, Int.natAbs_neg, Int.natAbs_natCast, Int.natAbs_natCast]
    generalize q * m = z
    omega
  · subst h0
    rw [Int.zero_sub, Int.natAbs_neg, Int.natAbs_mul, Int.natAbs_natCast]
    simp
  · have h1 : f1 ≤ 0 := by
      rcases (by omega : 0 < f1 ∨ f1 ≤ 0) with h1 | h1
      · have := Int.mul_pos h0 h1; omega
      · exact h1
    obtain ⟨m, rfl⟩ : ∃ n : Nat, f1 = -(n : Int) := ⟨f1.natAbs, by omega⟩
    obtain ⟨n, rfl⟩ := Int.eq_ofNat_of_zero_le (Int.le_of_lt h0)
    rw [Int.mul_neg, ← Int.natCast_mul, Int.natAbs_neg, Int.natAbs_natCast, Int.natAbs_natCast]
    generalize q * m = z
    omega
theorem bok_step {r0 r1 : Nat} {f0 f1 : Int} (h : o_bok r0 r1 f0 f1) (h1 : 0 < r1) : o_bok r1 (r0 % r1) f1 (f0 - ((r0 / r1 : Nat) : Int) * f1) := by
  obtain ⟨hlt, hs, N, hN, h2, h3, h4⟩ := h
  have e := Nat.div_add_mod r0 r1
  have hq := abs_step (r0 / r1) hs
  refine ⟨Nat.mod_lt _ h1, ?_, N, hN, by omega, ?_, ?_⟩
  · rw [Int.mul_sub, Int.mul_comm f1 f0, Int.mul_left_comm]
    have hsq : 0 ≤ f1 * f1 := by
      rcases Int.le_total 0 f1 with h | h
      · exact Int.mul_nonneg h h
      · exact Int.mul_nonneg_of_nonpos_of_nonpos h h
    have := Int.mul_nonneg (Int.natCast_nonneg (r0 / r1)) hsq
    omega
  · have : f1.natAbs * 1 ≤ f1.natAbs * r0 := Nat.mul_le_mul_left _ (by omega)
    omega
  · rw [hq, ← h4]
    have e2 : f1.natAbs * r0 = f1.natAbs * (r1 * (r0 / r1)) + f1.natAbs * (r0 % r1) := by rw [← Nat.mul_add, e]
    rw [e2, Nat.add_mul]
    have e3 : r0 / r1 * f1.natAbs * r1 = f1.natAbs * (r1 * (r0 / r1)) := by rw [Nat.mul_comm (r0 / r1), Nat.mul_assoc, Nat.mul_comm (r0 / r1)]
    rw [e3]
    generalize f1.natAbs * (r1 * (r0 / r1)) = u
    generalize f1.natAbs * (r0 % r1) = v
    generalize f0.natAbs * r1 = w
    omega
theorem bz_end {r0 r1 : Nat} {f0 f1 : Int} (h : o_bok r0 r1 f0 f1) (a y : Int) (hd0 : y ∣ f0 * a - r0) (hd1 : y ∣ f1 * a - r1) : o_bok (o_gcd r0 r1) 0 (o_bz1 r0 r1 f0 f1) (o_bz2 r0 r1 f0 f1) ∧ y ∣ o_bz1 r0 r1 f0 f1 * a - o_gcd r0 r1 := by
  induction r1 using Nat.strongRecOn generalizing r0 f0 f1 with
  | ind r1 ih =>
    unfold o_bz1 o_bz2
    by_cases h1 : 0 < r1
    · have := ih (r0 % r1) (Nat.mod_lt _ h1) (bok_step h h1) hd1 (by
        have e := Nat.div_add_mod r0 r1
        have e2 : (f0 - ((r0 / r1 : Nat) : Int) * f1) * a - ((r0 % r1 : Nat) : Int) = (f0 * a - r0) - ((r0 / r1 : Nat) : Int) * (f1 * a - r1) := by
          have e3 : (r0 : Int) = ((r1 : Int) * ((r0 / r1 : Nat) : Int)) + ((r0 % r1 : Nat) : Int) := by rw [← Int.natCast_mul, ← Int.natCast_add, e]
          rw [Int.sub_mul, Int.mul_sub, Int.mul_assoc, Int.mul_comm _ (r1 : Int)]
          generalize ((r0 / r1 : Nat) : Int) * (f1 * a) = u
          generalize (r1 : Int) * ((r0 / r1 : Nat) : Int) = v at *
          generalize ((r0 % r1 : Nat) : Int) = w at *
          omega
        rw [e2]
        exact Int.dvd_sub hd0 (Int.dvd_mul_of_dvd_right hd1))
      unfold o_bz1 o_bz2 at this
      rw [bz_step h1, gcd_step] at this
      exact this
    · have : r1 = 0 := by omega
      subst this
      rw [bz_zero, show o_gcd r0 0 = r0 from Nat.gcd_zero_right r0]
      exact ⟨h, hd0⟩

theorem sub35 {st : St} {e : Ex} {s : St} {obs : List Prop} (h : F35 st = some (e, s, obs)) (hob : AllP obs) : ∃ x : TypeId × TypeId × Int × Int × Nat × Nat × Int × Int, o_bok x.2.2.2.2.1 x.2.2.2.2.2.1 x.2.2.2.2.2.2.1 x.2.2.2.2.2.2.2 ∧ SubS (fixSt st) (I35 x.1 x.2.1 x.2.2.1 x.2.2.2.1 x.2.2.2.2.1 x.2.2.2.2.2.1 x.2.2.2.2.2.2.1 x.2.2.2.2.2.2.2) ∧ e = .exit 0 ∧ s = I35 x.1 x.2.1 x.2.2.1 x.2.2.2.1 (o_gcd x.2.2.2.2.1 x.2.2.2.2.2.1) 0 (o_bz1 x.2.2.2.2.1 x.2.2.2.2.2.1 x.2.2.2.2.2.2.1 x.2.2.2.2.2.2.2) (o_bz2 x.2.2.2.2.1 x.2.2.2.2.2.1 x.2.2.2.2.2.2.1 x.2.2.2.2.2.2.2) := by
  unfold F35 at h
  split at h
  · rename_i ty s2 x2 ty3 s3 x3 ty4 ty5 ty6 ty7 s7 x7 t7 y7 ty8 s8 x8 t8 y8 hz h2 h3 h4 h5 h6 h7 h8 b2 b3 b4 b5 b6 b7 b8
    simp only [Option.some.injEq, Prod.mk.injEq] at h
    obtain ⟨rfl, rfl, rfl⟩ := h
    obtain ⟨rfl, rfl, rfl, rfl, rfl, o2, o3, o7, p7, o8, p8, n7, m7, hb, _⟩ := hob
    refine ⟨(ty6, ty8, o_toI s2 x2, o_toI s3 x3, (o_toI s7 x7).natAbs, (o_toI t7 y7).natAbs, o_toI s8 x8, o_toI t8 y8), hb, ⟨?_, ?_, ?_⟩, rfl, rfl⟩
    · intro p hp
      simp only [I35, ptrV, List.mem_cons, List.not_mem_nil, or_false] at hp
      rcases hp with rfl | rfl | rfl | rfl | rfl | rfl | rfl <;> exact ⟨by assumption, rfl⟩
    · have q2 := ok_split o2
      have q3 := ok_split o3
      have q7 := ok_split o7
      have r7 := ok_split p7
      have q8 := ok_split o8
      have r8 := ok_split p8
      have c7 : (((o_toI s7 x7).natAbs : Nat) : Int) = o_toI s7 x7 := by omega
      have d7 : (((o_toI t7 y7).natAbs : Nat) : Int) = o_toI t7 y7 := by omega
      intro p hp
      simp only [I35, bxZ, bxZ2, bx0, absL, c7, d7, ← q2.1, ← q2.2, ← q3.1, ← q3.2, ← q7.1, ← q7.2, ← r7.1, ← r7.2, ← q8.1, ← q8.2, ← r8.1, ← r8.2, List.mem_cons, List.not_mem_nil, or_false] at hp
      rcases hp with rfl | rfl | rfl | rfl | rfl | rfl | rfl <;> exact ⟨by assumption, rfl⟩
    · intro hl
      have : liv (fixSt st).boxes = liv st.boxes := liv_fix _
      rw [this, hz] at hl; cases hl
  · cases h
abbrev A35 : Type := TypeId × TypeId × Int × Int × Nat × Nat × Int × Int
def J35 (x : A35) : St := I35 x.1 x.2.1 x.2.2.1 x.2.2.2.1 x.2.2.2.2.1 x.2.2.2.2.2.1 x.2.2.2.2.2.2.1 x.2.2.2.2.2.2.2
def fin35 (x : A35) : St := I35 x.1 x.2.1 x.2.2.1 x.2.2.2.1 (o_gcd x.2.2.2.2.1 x.2.2.2.2.2.1) 0 (o_bz1 x.2.2.2.2.1 x.2.2.2.2.2.1 x.2.2.2.2.2.2.1 x.2.2.2.2.2.2.2) (o_bz2 x.2.2.2.2.1 x.2.2.2.2.2.1 x.2.2.2.2.2.2.1 x.2.2.2.2.2.2.2)
def V35 (x : A35) : Prop := o_bok x.2.2.2.2.1 x.2.2.2.2.2.1 x.2.2.2.2.2.2.1 x.2.2.2.2.2.2.2
theorem sz_of {z : Int} {N : Nat} (h : z.natAbs ≤ N) (hN : N < B ^ 40000000) : o_sz big z := sz_mono (m := 40000000) (Nat.lt_of_le_of_lt h hN) (by unfold big; omega)
theorem rem_nat {a b : Nat} (h : 0 < b) : o_rem a b = ((a % b : Nat) : Int) := by unfold o_rem; rw [if_neg (by omega)]; rfl
theorem bok_sz {r0 r1 : Nat} {f0 f1 : Int} (h : o_bok r0 r1 f0 f1) : o_sz big r0 ∧ o_sz big r1 ∧ o_sz big f0 ∧ o_sz big f1 := by
  obtain ⟨hlt, hs, N, hN, h2, h3, h4⟩ := h
  have : f1.natAbs * 1 ≤ f1.natAbs * r0 := Nat.mul_le_mul_left _ (by omega)
  exact ⟨sz_of (N := N) (by omega) hN, sz_of (N := N) (by omega) hN, sz_of h3 hN, sz_of (N := N) (by omega) hN⟩
theorem bok_mul {r0 r1 : Nat} {f0 f1 : Int} (h : o_bok r0 r1 f0 f1) (h1 : 0 < r1) : o_sz big ((r0 : Int) / r1) ∧ o_sz big ((r0 : Int) / r1 * f1) := by
  have k := bok_step h h1
  obtain ⟨hlt, hs, N, hN, h2, h3, h4⟩ := h
  have hq := abs_step (r0 / r1) hs
  obtain ⟨_, _, M, _, _, _, hM⟩ := k
  have e : (r0 : Int) / r1 = ((r0 / r1 : Nat) : Int) := rfl
  have h5 : (f0 - ((r0 / r1 : Nat) : Int) * f1).natAbs * 1 ≤ (f0 - ((r0 / r1 : Nat) : Int) * f1).natAbs * r1 := Nat.mul_le_mul_left _ h1
  have hd := Nat.div_le_self r0 r1
  have h6 : r0 / r1 * f1.natAbs ≤ N := by
    have e2 := Nat.div_mul_le_self r0 r1
    have e3 : r0 / r1 * f1.natAbs ≤ r0 * f1.natAbs := Nat.mul_le_mul_right _ hd
    rw [Nat.mul_comm r0] at e3
    omega
  rw [e]
  refine ⟨sz_of (N := N) (by rw [Int.natAbs_natCast]; omega) hN, sz_of (N := N) (by rw [Int.natAbs_mul, Int.natAbs_natCast]; exact h6) hN⟩
theorem lo35 : ∀ d ∈ loopsF Tryz.f35, LoopOk Tryz.prog Tryz.f35.ntmps L35 d := by
  rw [show loopsF Tryz.f35 = [loopC Tryz.f35 0] by kernel_rfl]
  intro d hd
  rw [List.mem_singleton] at hd
  subst hd
  refine loop_okF (k := 4) (f := F35) (α := A35) (by kernel_rfl) (by kernel_rfl) J35 fin35 V35 (fun x => x.2.2.2.2.2.1) (.exit 0) (by simp) (fun st e s obs h hob => sub35 h hob) ?_
  rintro ⟨ty, ty2, a, b, r0, r1, f0, f1⟩ hb
  have hb : o_bok r0 r1 f0 f1 := hb
  have hno : ∀ d ∈ loopsOf (loopC Tryz.f35 0), LoopOk Tryz.prog Tryz.f35.ntmps L0 d := by rw [show loopsOf (loopC Tryz.f35 0) = [] by kernel_rfl]; intro d hd; cases hd
  obtain ⟨z0, z1, z2, z3⟩ := bok_sz hb
  by_cases h1 : 0 < r1
  · obtain ⟨m1, m2⟩ := bok_mul hb h1
    have hsg : sgnI (r1 : Int) = 1 := by unfold sgnI; rw [if_neg (by omega), if_neg (by omega)]
    refine (codeV_sound hmix E15ok.hS hno (loop35a ty ty2 a b r0 r1 f0 f1) ?_).mono ?_
    · simp only [AllP, rt_eq, okz_t, hsg]
      and_intros <;> first | exact trivial | assumption | decide
    · rintro e s ⟨rfl, hs⟩
      refine .inl ⟨rfl, (ty, ty2, a, b, r1, r0 % r1, f1, f0 - ((r0 / r1 : Nat) : Int) * f1), bok_step hb h1, Nat.mod_lt _ h1, ?_, ?_⟩
      · simp only [rt_eq, rem_nat h1] at hs
        exact hs
      · show I35 _ _ _ _ _ _ _ _ = I35 _ _ _ _ _ _ _ _
        simp only [gcd_step, o_bz1, o_bz2, bz_step h1]
  · refine (codeV_sound hmix E15ok.hS hno (loop35b ty ty2 a b r0 r1 f0 f1) ?_).mono ?_
    · have h0 : r1 = 0 := by omega
      subst h0
      simp only [AllP, rt_eq, okz_t]
      and_intros <;> first | exact trivial | assumption | decide
    · rintro e s ⟨rfl, hs⟩
      have h0 : r1 = 0 := by omega
      subst h0
      refine .inr ⟨rfl, ?_⟩
      show SubS s (I35 ty ty2 a b (o_gcd r0 0) 0 (o_bz1 r0 0 f0 f1) (o_bz2 r0 0 f0 f1))
      unfold o_bz1 o_bz2
      rw [bz_zero, show o_gcd r0 0 = r0 from Nat.gcd_zero_right r0]
      exact hs
theorem sub36 {st : St} {e : Ex} {s : St} {obs : List Prop} (h : F36 st = some (e, s, obs)) (hob : AllP obs) : ∃ x : TypeId × TypeId × Int × Int × Nat × Nat × Int × Int, o_bok x.2.2.2.2.1 x.2.2.2.2.2.1 x.2.2.2.2.2.2.1 x.2.2.2.2.2.2.2 ∧ SubS (fixSt st) (I36 x.1 x.2.2.1 x.2.2.2.1 x.2.2.2.2.1 x.2.2.2.2.2.1 x.2.2.2.2.2.2.1 x.2.2.2.2.2.2.2) ∧ e = .exit 0 ∧ s = I36 x.1 x.2.2.1 x.2.2.2.1 (o_gcd x.2.2.2.2.1 x.2.2.2.2.2.1) 0 (o_bz1 x.2.2.2.2.1 x.2.2.2.2.2.1 x.2.2.2.2.2.2.1 x.2.2.2.2.2.2.2) (o_bz2 x.2.2.2.2.1 x.2.2.2.2.2.1 x.2.2.2.2.2.2.1 x.2.2.2.2.2.2.2) := by
  unfold F36 at h
  split at h
  · rename_i ty s2 x2 ty3 s3 x3 ty4 ty5 ty6 ty7 s7 x7 ty9 t7 y7 ty11 s8 x8 ty12 t8 y8 hz h2 h3 h4 h5 h6 h7 h9 h11 h12 b2 b3 b4 b5 b6 b7 b9 b11 b12
    simp only [Option.some.injEq, Prod.mk.injEq] at h
    obtain ⟨rfl, rfl, rfl⟩ := h
    obtain ⟨rfl, rfl, rfl, rfl, rfl, rfl, rfl, rfl, o2, o3, o7, p7, o8, p8, n7, m7, hb, _⟩ := hob
    refine ⟨(ty12, ty12, o_toI s2 x2, o_toI s3 x3, (o_toI s7 x7).natAbs, (o_toI t7 y7).natAbs, o_toI s8 x8, o_toI t8 y8), hb, ⟨?_, ?_, ?_⟩, rfl, rfl⟩
    · intro p hp
      simp only [I36, ptrV, List.mem_cons, List.not_mem_nil, or_false] at hp
      rcases hp with rfl | rfl | rfl | rfl | rfl | rfl | rfl | rfl | rfl <;> exact ⟨by assumption, rfl⟩
    · have q2 := ok_split o2
      have q3 := ok_split o3
      have q7 := ok_split o7
      have r7 := ok_split p7
      have q8 := ok_split o8
      have r8 := ok_split p8
      have c7 : (((o_toI s7 x7).natAbs : Nat) : Int) = o_toI s7 x7 := by omega
      have d7 : (((o_toI t7 y7).natAbs : Nat) : Int) = o_toI t7 y7 := by omega
      intro p hp
      simp only [I36, bxZ, bx0, absL, c7, d7, ← q2.1, ← q2.2, ← q3.1, ← q3.2, ← q7.1, ← q7.2, ← r7.1, ← r7.2, ← q8.1, ← q8.2, ← r8.1, ← r8.2, List.mem_cons, List.not_mem_nil, or_false] at hp
      rcases hp with rfl | rfl | rfl | rfl | rfl | rfl | rfl | rfl | rfl <;> exact ⟨by assumption, rfl⟩
    · intro hl
      have : liv (fixSt st).boxes = liv st.boxes := liv_fix _
      rw [this, hz] at hl; cases hl
  · cases h
def J36 (x : A35) : St := I36 x.1 x.2.2.1 x.2.2.2.1 x.2.2.2.2.1 x.2.2.2.2.2.1 x.2.2.2.2.2.2.1 x.2.2.2.2.2.2.2
def fin36 (x : A35) : St := I36 x.1 x.2.2.1 x.2.2.2.1 (o_gcd x.2.2.2.2.1 x.2.2.2.2.2.1) 0 (o_bz1 x.2.2.2.2.1 x.2.2.2.2.2.1 x.2.2.2.2.2.2.1 x.2.2.2.2.2.2.2) (o_bz2 x.2.2.2.2.1 x.2.2.2.2.2.1 x.2.2.2.2.2.2.1 x.2.2.2.2.2.2.2)
theorem lo36 : ∀ d ∈ loopsF Tryz.f36, LoopOk Tryz.prog Tryz.f36.ntmps L36 d := by
  rw [show loopsF Tryz.f36 = [loopC Tryz.f36 0] by kernel_rfl]
  intro d hd
  rw [List.mem_singleton] at hd
  subst hd
  refine loop_okF (k := 7) (f := F36) (α := A35) (by kernel_rfl) (by kernel_rfl) J36 fin36 V35 (fun x => x.2.2.2.2.2.1) (.exit 0) (by simp) (fun st e s obs h hob => sub36 h hob) ?_
  rintro ⟨ty, ty2, a, b, r0, r1, f0, f1⟩ hb
  have hb : o_bok r0 r1 f0 f1 := hb
  have hno : ∀ d ∈ loopsOf (loopC Tryz.f36 0), LoopOk Tryz.prog Tryz.f36.ntmps L0 d := by rw [show loopsOf (loopC Tryz.f36 0) = [] by kernel_rfl]; intro d hd; cases hd
  obtain ⟨z0, z1, z2, z3⟩ := bok_sz hb
  by_cases h1 : 0 < r1
  · obtain ⟨m1, m2⟩ := bok_mul hb h1
    have hsg : sgnI (r1 : Int) = 1 := by unfold sgnI; rw [if_neg (by omega), if_neg (by omega)]
    refine (codeV_sound hmix E15ok.hS hno (loop36a ty a b r0 r1 f0 f1) ?_).mono ?_
    · simp only [AllP, rt_eq, okz_t]
      and_intros <;> first | exact trivial | assumption | exact decide_eq_true (by rw [Int.natAbs_natCast]; have := (enc_len_pos r1).2 h1; omega) | decide
    · rintro e s ⟨rfl, hs⟩
      refine .inl ⟨rfl, (ty, ty2, a, b, r1, r0 % r1, f1, f0 - ((r0 / r1 : Nat) : Int) * f1), bok_step hb h1, Nat.mod_lt _ h1, ?_, ?_⟩
      · simp only [rt_eq, rem_nat h1] at hs
        exact hs
      · show I36 _ _ _ _ _ _ _ = I36 _ _ _ _ _ _ _
        simp only [gcd_step, o_bz1, o_bz2, bz_step h1]
  · refine (codeV_sound hmix E15ok.hS hno (loop36b ty a b r0 r1 f0 f1) ?_).mono ?_
    · have h0 : r1 = 0 := by omega
      subst h0
      simp only [AllP]
      and_intros <;> first | exact trivial | assumption | decide
    · rintro e s ⟨rfl, hs⟩
      have h0 : r1 = 0 := by omega
      subst h0
      refine .inr ⟨rfl, ?_⟩
      show SubS s (I36 ty a b (o_gcd r0 0) 0 (o_bz1 r0 0 f0 f1) (o_bz2 r0 0 f0 f1))
      unfold o_bz1 o_bz2
      rw [bz_zero, show o_gcd r0 0 = r0 from Nat.gcd_zero_right r0]
      exact hs

end Go.Proofs.YtkfdnpbpebmhaaaGreatDoor.Spec
namespace Go.Proofs.YtkfdnpbpebmhaaaGreatDoor.Spec
open Go Go.RowKit Sx Num

def o_bu (x y : Int) : Int := if y = 0 then sgnI x else o_rem (o_bz1 y.natAbs (x % y).natAbs 0 1) (y / gcdZ x y)
def o_bv (x y : Int) : Int := if y = 0 then 0 else (gcdZ x y - o_bu x y * x) / y
theorem gcd_rem (x y : Int) : o_gcd y.natAbs (x % y).natAbs = o_gcd x.natAbs y.natAbs := by
  unfold o_gcd
  have e := Int.mul_ediv_add_emod x y
  apply Nat.dvd_antisymm
  · have h1 := Int.ofNat_dvd_left.2 (Nat.gcd_dvd_left y.natAbs (x % y).natAbs)
    have h2 := Int.ofNat_dvd_left.2 (Nat.gcd_dvd_right y.natAbs (x % y).natAbs)
    refine Nat.dvd_gcd (Int.ofNat_dvd_left.1 ?_) (Int.ofNat_dvd_left.1 h1)
    have key := Int.dvd_add (Int.dvd_mul_of_dvd_left (c := x / y) h1) h2
    rwa [e] at key
  · have h1 := Int.ofNat_dvd_left.2 (Nat.gcd_dvd_left x.natAbs y.natAbs)
    have h2 := Int.ofNat_dvd_left.2 (Nat.gcd_dvd_right x.natAbs y.natAbs)
    refine Nat.dvd_gcd (Int.ofNat_dvd_left.1 h2) (Int.ofNat_dvd_left.1 ?_)
    rw [show x % y = x - y * (x / y) by omega]
    exact Int.dvd_sub h1 (Int.dvd_mul_of_dvd_left h2)
theorem bok_sum {r0 r1 : Nat} {f0 f1 : Int} (hs : f0 * f1 ≤ 0) : f1.natAbs * (r0 % r1) + (f0 - ((r0 / r1 : Nat) : Int) * f1).natAbs * r1 = f0.natAbs * r1 + f1.natAbs * r0 := by
  have e := Nat.div_add_mod r0 r1
  rw [abs_step (r0 / r1) hs]
  have e2 : f1.natAbs * r0 = f1.natAbs * (r1 * (r0 / r1)) + f1.natAbs * (r0 % r1) := by rw [← Nat.mul_add, e]
  rw [e2, Nat.add_mul]
  have e3 : r0 / r1 * f1.natAbs * r1 = f1.natAbs * (r1 * (r0 / r1)) := by rw [Nat.mul_comm (r0 / r1), Nat.mul_assoc, Nat.mul_comm (r0 / r1)]
  rw [e3]
  generalize f1.natAbs * (r1 * (r0 / r1)) = u
  generalize f1.natAbs * (r0 % r1) = v
  generalize f0.natAbs * r1 = w
  omega
theorem bz_le {r0 r1 M : Nat} {f0 f1 : Int} (h : o_bok r0 r1 f0 f1) (h0 : f0.natAbs ≤ M) (hM : f0.natAbs * r1 + f1.natAbs * r0 = M) : (o_bz1 r0 r1 f0 f1).natAbs ≤ M := by
  induction r1 using Nat.strongRecOn generalizing r0 f0 f1 with
  | ind r1 ih =>
    unfold o_bz1
    by_cases h1 : 0 < r1
    · have hl : f1.natAbs * 1 ≤ f1.natAbs * r0 := Nat.mul_le_mul_left _ (by have := h.1; omega)
      have := ih (r0 % r1) (Nat.mod_lt _ h1) (bok_step h h1) (by omega) (by rw [bok_sum h.2.1]; exact hM)
      unfold o_bz1 at this
      rw [bz_step h1] at this
      exact this
    · have : r1 = 0 := by omega
      subst this
      rw [bz_zero]
      exact h0
theorem bok_start {x y : Int} (hy : y ≠ 0) (h : o_sz 40000000 y) : o_bok y.natAbs (x % y).natAbs 0 1 := by
  have h0 := Int.emod_nonneg x hy
  have h1 := Int.emod_lt x hy
  refine ⟨by omega, by decide, y.natAbs, h, Nat.le_refl _, by simp, by simp⟩
/-- The sizes of what comes out. -/
theorem bez_sz {x y : Int} (hy : y ≠ 0) (h : o_sz 40000000 y) : o_sz 40000000 (gcdZ x y) ∧ (o_bz1 y.natAbs (x % y).natAbs 0 1).natAbs ≤ y.natAbs ∧ (y / gcdZ x y).natAbs ≤ y.natAbs ∧ (o_bu x y).natAbs ≤ y.natAbs ∧ 0 ≤ o_bu x y ∧ y ∣ o_bu x y * x - gcdZ x y := by
  have hb := bok_start (x := x) hy h
  have hz := Int.emod_nonneg x hy
  have e := Int.mul_ediv_add_emod x y
  have hend := bz_end hb x y ⟨-(if y < 0 then -1 else 1), by split <;> simp <;> omega⟩ ⟨x / y, by rw [show (((x % y).natAbs : Nat) : Int) = x % y by omega]; omega⟩
  rw [gcd_rem] at hend
  obtain ⟨⟨hg0, _, _⟩, hdv⟩ := hend
  have hbz := bz_le hb (M := y.natAbs) (by simp) (by simp)
  have hgy : o_gcd x.natAbs y.natAbs ∣ y.natAbs := Nat.gcd_dvd_right _ _
  have hgx : o_gcd x.natAbs y.natAbs ∣ x.natAbs := Nat.gcd_dvd_left _ _
  have hgle := Nat.le_of_dvd (by omega) hgy
  have hgY : gcdZ x y ∣ y := Int.ofNat_dvd_left.2 hgy
  have hgX : gcdZ x y ∣ x := Int.ofNat_dvd_left.2 hgx
  have hgp : 0 < gcdZ x y := by unfold gcdZ; omega
  have hq : gcdZ x y * (y / gcdZ x y) = y := Int.mul_ediv_cancel' hgY
  have hqn : y / gcdZ x y ≠ 0 := fun h => by rw [h, Int.mul_zero] at hq; exact hy hq.symm
  have hql : (y / gcdZ x y).natAbs ≤ y.natAbs := by
    have : (gcdZ x y).natAbs * (y / gcdZ x y).natAbs = y.natAbs := by rw [← Int.natAbs_mul, hq]
    rw [← this]
    exact Nat.le_mul_of_pos_left _ (by omega)
  have hu : o_bu x y = o_bz1 y.natAbs (x % y).natAbs 0 1 % (y / gcdZ x y) := by unfold o_bu o_rem; rw [if_neg hy, if_neg hqn]
  have hu0 := Int.emod_nonneg (o_bz1 y.natAbs (x % y).natAbs 0 1) hqn
  have hu1 := Int.emod_lt (o_bz1 y.natAbs (x % y).natAbs 0 1) hqn
  refine ⟨?_, hbz, hql, by rw [hu]; omega, by rw [hu]; exact hu0, ?_⟩
  · unfold o_sz at h ⊢
    exact Nat.lt_of_le_of_lt (by unfold gcdZ; rw [Int.natAbs_natCast]; exact hgle) h
  · rw [hu]
    have e5 := Int.mul_ediv_add_emod (o_bz1 y.natAbs (x % y).natAbs 0 1) (y / gcdZ x y)
    obtain ⟨l, hl⟩ := hgX
    have e6 : y ∣ (y / gcdZ x y) * (o_bz1 y.natAbs (x % y).natAbs 0 1 / (y / gcdZ x y)) * x := ⟨l * (o_bz1 y.natAbs (x % y).natAbs 0 1 / (y / gcdZ x y)), by
      generalize o_bz1 y.natAbs (x % y).natAbs 0 1 / (y / gcdZ x y) = t
      generalize y / gcdZ x y = q at *
      generalize gcdZ x y = g at *
      rw [← hq, hl, Int.mul_comm q t, Int.mul_assoc t q, Int.mul_left_comm q g l, Int.mul_comm l t, Int.mul_assoc g q, Int.mul_left_comm q t l, Int.mul_left_comm g t]⟩
    have e7 := Int.dvd_sub hdv e6
    have e8 : o_bz1 y.natAbs (x % y).natAbs 0 1 * x - (o_gcd x.natAbs y.natAbs : Int) - (y / gcdZ x y) * (o_bz1 y.natAbs (x % y).natAbs 0 1 / (y / gcdZ x y)) * x = o_bz1 y.natAbs (x % y).natAbs 0 1 % (y / gcdZ x y) * x - gcdZ x y := by
      have e9 : o_bz1 y.natAbs (x % y).natAbs 0 1 % (y / gcdZ x y) = o_bz1 y.natAbs (x % y).natAbs 0 1 - (y / gcdZ x y) * (o_bz1 y.natAbs (x % y).natAbs 0 1 / (y / gcdZ x y)) := by omega
      rw [e9, Int.sub_mul]
      show _ - gcdZ x y - _ = _
      omega
    rw [e8] at e7
    exact e7
def spBez : Sp
  | [.abs [x], .abs [y]] => some (.tup [.abs [gcdZ x y], .abs [o_bu x y], .abs [o_bv x y]], [o_sz 40000000 x, o_sz 40000000 y])
  | _ => none
def spBez0 : Sp
  | [.abs [x], .abs [y]] => some (.tup [.abs [absZ x], .abs [sgnI x], .agg [.v (.bool false), .v (.slice none 0 0)]], [y = 0, o_sz big x])
  | _ => none
def spBez1 : Sp
  | [.abs [x], .abs [y]] => some (.tup [.abs [gcdZ x y], .abs [o_bu x y], .abs [o_bv x y]], [y ≠ 0, o_sz 40000000 x, o_sz 40000000 y])
  | _ => none
theorem bez_z {f : FuncId} (h0 : Con Tryz.prog f spBez0) (h1 : Con Tryz.prog f spBez1) : Con Tryz.prog f spBez := by
  refine con_cases (con_absA (con_ans h0)) h1 fun avs r ps hs hp => ?_
  unfold spBez at hs
  split at hs
  · rename_i x y
    simp only [Option.some.injEq, Prod.mk.injEq] at hs
    obtain ⟨rfl, rfl⟩ := hs
    obtain ⟨hx, hy, _⟩ := hp
    by_cases h : y = 0
    · left
      subst h
      have e1 : gcdZ x 0 = absZ x := by unfold gcdZ absZ; rw [show o_gcd x.natAbs (Int.natAbs 0) = x.natAbs from Nat.gcd_zero_right _]
      rw [e1, o_bu, o_bv, if_pos rfl, if_pos rfl]
      exact ⟨_, rfl, rfl, sz_mono hx (by unfold big; omega), trivial⟩
    · right
      exact ⟨_, rfl, h, hx, hy, trivial⟩
  · cases hs
theorem tup3 {a a' b b' c c' : Int} (h : a = a') (k : b = b') (l : c = c') : AV.tup [.agg [.v (.bool (decide (a < 0))), .row .u32 (enc a.natAbs)], .agg [.v (.bool (decide (b < 0))), .row .u32 (enc b.natAbs)], .agg [.v (.bool (decide (c < 0))), .row .u32 (enc c.natAbs)]] = unAA (.tup [.abs [a'], .abs [b'], .abs [c']]) := by subst h k l; rfl
theorem tup30 {a a' b b' : Int} (h : a = a') (k : b = b') : AV.tup [.agg [.v (.bool (decide (a < 0))), .row .u32 (enc a.natAbs)], .agg [.v (.bool (decide (b < 0))), .row .u32 (enc b.natAbs)], .agg [.v (.bool false), .v (.slice none 0 0)]] = unAA (.tup [.abs [a'], .abs [b'], .agg [.v (.bool false), .v (.slice none 0 0)]]) := by subst h k; rfl
theorem abs_sz {n : Nat} {x y : Int} (h : x.natAbs ≤ y.natAbs) (k : o_sz n y) : o_sz n x := Nat.lt_of_le_of_lt h k
theorem sgn_i64 (x : Int) : -9223372036854775808 ≤ sgnI x ∧ sgnI x < 9223372036854775808 := by
  unfold sgnI
  split
  · omega
  · split <;> omega
theorem toI_f (n : Nat) : o_toI false (enc n) = (n : Int) := by rw [toI_n, if_neg (by simp)]
theorem toI_0 : o_toI false [] = 0 := rfl
theorem rem_ne {x y : Int} (h : y ≠ 0) : o_rem x y = x % y := if_neg h
theorem ok_f0 : o_ok false [] := ok_enc 0
theorem con35a : Con Tryz.prog 35 spBez0 := by
  refine con_runZ (fn := Tryz.f35) hmix E15ok.hS (by kernel_rfl) (fun _ => by kernel_rfl) ?_
  intro avs r ps hsp hps
  unfold spBez0 at hsp
  split at hsp
  · rename_i x y
    simp only [Option.some.injEq, Prod.mk.injEq] at hsp
    obtain ⟨rfl, rfl⟩ := hsp
    obtain ⟨rfl, hx, _⟩ := hps
    have lx := sz_big hx
    have := sgn_i64 x
    refine ⟨rfl, L35, lo35, _, _, _, _, run35a x 0, tup30 (by rw [toI_f]; rfl) (by rw [rt_eq]), ?_⟩
    simp only [AllP, rt_eq, okz_t, words_e]
    try unfold Ln
    and_intros <;> first | exact trivial | assumption | omega | rfl
  · cases hsp
theorem con35b : Con Tryz.prog 35 spBez1 := by
  refine con_runZ (fn := Tryz.f35) hmix E15ok.hS (by kernel_rfl) (fun _ => by kernel_rfl) ?_
  intro avs r ps hsp hps
  unfold spBez1 at hsp
  split at hsp
  · rename_i x y
    simp only [Option.some.injEq, Prod.mk.injEq] at hsp
    obtain ⟨rfl, rfl⟩ := hsp
    obtain ⟨hy, hx, hk, _⟩ := hps
    have mb : (40000000 : Nat) ≤ big := by unfold big; omega
    have ly := sz_big (sz_mono hk mb)
    obtain ⟨z1, z2, z3, z4, z5, z6⟩ := bez_sz (x := x) hy hk
    have zx := sz_mono hx mb
    have zy := sz_mono hk mb
    have zg := sz_mono z1 mb
    have zb := abs_sz z2 zy
    have zq := abs_sz z3 zy
    have zu := abs_sz z4 zy
    have zm := sz_mul (abs_sz z4 hk) hx
    have zm' := sz_mono zm (n := big) (by unfold big; omega)
    have zs := sz_mono (sz_sub z1 zm) (n := big) (by unfold big; omega)
    have hem := Int.emod_nonneg x hy
    have hb := bok_start (x := x) hy hk
    have hg : ((o_gcd x.natAbs y.natAbs : Nat) : Int) = gcdZ x y := rfl
    have hlen : 0 < (enc y.natAbs).length := (enc_len_pos _).2 (by omega)
    have hu : o_rem (o_bz1 y.natAbs (x % y).natAbs 0 1) (y / gcdZ x y) = o_bu x y := by unfold o_bu; rw [if_neg hy]
    have hv : (gcdZ x y - o_bu x y * x) / y = o_bv x y := by unfold o_bv; rw [if_neg hy]
    have ya : ((y.natAbs : Nat) : Int).natAbs = y.natAbs := Int.natAbs_natCast _
    refine ⟨rfl, L35, lo35, _, _, _, _, run35b x y, tup3 ?_ ?_ ?_, ?_⟩
    · simp only [rt_eq, toI_f, ya, rem_ne hy, gcd_rem, hg]
    · simp only [rt_eq, toI_f, toI_0, ya, rem_ne hy, gcd_rem, hg]; exact hu
    · simp only [rt_eq, toI_f, toI_0, ya, rem_ne hy, gcd_rem, hg]
      rw [← hv, ← hu]
    · simp only [AllP, rt_eq, okz_t, toI_f, toI_0, ya, rem_ne hy, gcd_rem, hg, words_e]
      rw [show o_rem (o_bz1 y.natAbs (x % y).natAbs 0 1) (y / gcdZ x y) = o_bu x y from hu]
      try unfold Ln
      and_intros <;> first | exact trivial | assumption | omega | exact ok_f0.1.1 | exact ok_f0.1.2 | exact ok_f0.2 | exact hb.1 | exact hb.2.1 | exact hb.2.2 | exact decide_eq_false (by omega) | rfl
  · cases hsp
theorem con35 : Con Tryz.prog 35 spBez := bez_z con35a con35b
theorem con36a : Con Tryz.prog 36 spBez0 := by
  refine con_runZ (fn := Tryz.f36) hmix E15ok.hS (by kernel_rfl) (fun _ => by kernel_rfl) ?_
  intro avs r ps hsp hps
  unfold spBez0 at hsp
  split at hsp
  · rename_i x y
    simp only [Option.some.injEq, Prod.mk.injEq] at hsp
    obtain ⟨rfl, rfl⟩ := hsp
    obtain ⟨rfl, hx, _⟩ := hps
    have lx := sz_big hx
    have := sgn_i64 x
    refine ⟨rfl, L36, lo36, _, _, _, _, run36a x 0, tup30 (by rw [rt_eq]; rfl) (by rw [rt_eq]), ?_⟩
    simp only [AllP, rt_eq, okz_t]
    and_intros <;> first | exact trivial | assumption | omega | rfl
  · cases hsp
theorem con36b : Con Tryz.prog 36 spBez1 := by
  refine con_runZ (fn := Tryz.f36) hmix E15ok.hS (by kernel_rfl) (fun _ => by kernel_rfl) ?_
  intro avs r ps hsp hps
  unfold spBez1 at hsp
  split at hsp
  · rename_i x y
    simp only [Option.some.injEq, Prod.mk.injEq] at hsp
    obtain ⟨rfl, rfl⟩ := hsp
    obtain ⟨hy, hx, hk, _⟩ := hps
    have mb : (40000000 : Nat) ≤ big := by unfold big; omega
    have ly := sz_big (sz_mono hk mb)
    obtain ⟨z1, z2, z3, z4, z5, z6⟩ := bez_sz (x := x) hy hk
    have zx := sz_mono hx mb
    have zy := sz_mono hk mb
    have zg := sz_mono z1 mb
    have zb := abs_sz z2 zy
    have zq := abs_sz z3 zy
    have zu := abs_sz z4 zy
    have zm := sz_mul (abs_sz z4 hk) hx
    have zm' := sz_mono zm (n := big) (by unfold big; omega)
    have zs := sz_mono (sz_sub z1 zm) (n := big) (by unfold big; omega)
    have hem := Int.emod_nonneg x hy
    have hb := bok_start (x := x) hy hk
    have hg : ((o_gcd x.natAbs y.natAbs : Nat) : Int) = gcdZ x y := rfl
    have hlen : 0 < (enc y.natAbs).length := (enc_len_pos _).2 (by omega)
    have hu : o_rem (o_bz1 y.natAbs (x % y).natAbs 0 1) (y / gcdZ x y) = o_bu x y := by unfold o_bu; rw [if_neg hy]
    have hv : (gcdZ x y - o_bu x y * x) / y = o_bv x y := by unfold o_bv; rw [if_neg hy]
    have ya : ((y.natAbs : Nat) : Int).natAbs = y.natAbs := Int.natAbs_natCast _
    refine ⟨rfl, L36, lo36, _, _, _, _, run36b x y, tup3 ?_ ?_ ?_, ?_⟩
    · simp only [rt_eq, absZ, ya, rem_ne hy, gcd_rem, hg]
    · simp only [rt_eq, absZ, toI_0, ya, rem_ne hy, gcd_rem, hg]; exact hu
    · simp only [rt_eq, absZ, toI_0, ya, rem_ne hy, gcd_rem, hg]
      rw [← hv, ← hu]
    · simp only [AllP, rt_eq, okz_t, absZ, toI_0, ya, rem_ne hy, gcd_rem, hg]
      rw [show o_rem (o_bz1 y.natAbs (x % y).natAbs 0 1) (y / gcdZ x y) = o_bu x y from hu]
      try unfold Ln
      and_intros <;> first | exact trivial | assumption | omega | exact ok_f0.1.1 | exact ok_f0.1.2 | exact ok_f0.2 | exact hb.1 | exact hb.2.1 | exact hb.2.2 | exact decide_eq_false (by omega) | rfl
  · cases hsp
theorem con36 : Con Tryz.prog 36 spBez := bez_z con36a con36b
def E17 : List (Nat × Ctr) := (35, .fn (zArgs spBez)) :: (36, .fn (zArgs spBez)) :: E16
theorem E17ok : EnvOk Tryz.prog E17 := .cons (con_z con35) (.cons (con_z con36) E16ok)

end Go.Proofs.YtkfdnpbpebmhaaaGreatDoor.Spec
namespace Go.Proofs.YtkfdnpbpebmhaaaGreatDoor.Spec
open Go Go.RowKit Sx Num

/-- Sizes at which roots are taken. -/
def o_nok (k n r : Nat) : Prop := 0 < n ∧ 0 < k ∧ k ≤ 40000000 ∧ 0 < r ∧ o_root k n ≤ r ∧ (enc n).length ≤ 1000000 ∧ (enc r).length * (k + 1) ≤ 90000000
def I27 (ty : TypeId) (a k r : Nat) : St := ⟨[(1, .s (num k)), (4, ptrV 4), (6, .s (roW (enc a))), (7, .s (roW (enc r)))], [(4, box0 ty)]⟩
def F27 (st : St) : Option (Ex × St × List Prop) :=
  match liv st.boxes 0, lk st.tmps 1, lk st.tmps 4, lk st.tmps 6, lk st.tmps 7, lk st.boxes 4 with
  | false, some (.s (.one (.v (.int .i64 n)))), some (.s (.one (.ptr 4 0))), some (.s (.one (.row .u32 xs))), some (.s (.one (.row .u32 ys))), some ⟨ty, .cells [.v (.bool false), .v (.slice none 0 0)], true⟩ =>
    some (.ret, ⟨[(4, ptrV 4), (5, .s (num 0))], [(4, bxZ ty (o_root n.toNat (nv xs) : Nat))]⟩, [Canon xs, Canon ys, 0 ≤ n, o_nok n.toNat (nv xs) (nv ys)])
  | _, _, _, _, _, _ => none
def L27 : Loops := fun k => bif Nat.beq k 7 then some F27 else none
/-- The same, bit by bit. -/
def o_rok (k n j : Nat) : Prop := 0 < k ∧ k ≤ 40000000 ∧ (enc n).length ≤ 1000000 ∧ j ≤ 40000000 ∧ o_root k n < 2 ^ j ∧ (enc (2 ^ (j + 1))).length * (k + 1) ≤ 90000000
def I47 (ty : TypeId) (a : Int) (k r j : Nat) : St := ⟨[(1, .s (num k)), (2, ptrV 2), (4, ptrV 4), (7, ptrV 7), (8, .s (num ((j : Int) - 1)))], [(2, bxZ ty a), (4, bx0 ty), (7, bxZ ty r)]⟩
def F47 (st : St) : Option (Ex × St × List Prop) :=
  match liv st.boxes 0, lk st.tmps 1, lk st.tmps 2, lk st.tmps 4, lk st.tmps 7, lk st.tmps 8, lk (fixBs st.boxes) 2, lk (fixBs st.boxes) 4, lk (fixBs st.boxes) 7 with
  | false, some (.s (.one (.v (.int .i64 n)))), some (.s (.one (.ptr 2 0))), some (.s (.one (.ptr 4 0))), some (.s (.one (.ptr 7 0))), some (.s (.one (.v (.int .i64 i)))),
    some ⟨ty, .cells [.v (.bool s), .row .u32 xs], true⟩, some ⟨ty4, .cells [.v (.bool false), .row .u32 []], true⟩, some ⟨ty7, .cells [.v (.bool false), .row .u32 []], true⟩ =>
    some (.exit 0, ⟨[(2, ptrV 2), (4, ptrV 4), (7, ptrV 7)], [(2, bxZ ty (o_toI s xs)), (4, bx0 ty), (7, bxZ ty (o_root n.toNat (o_toI s xs).toNat : Nat))]⟩, [ty4 = ty, ty7 = ty, o_ok s xs, 0 ≤ o_toI s xs, 0 ≤ n, 0 ≤ i, o_rok n.toNat (o_toI s xs).toNat (i.toNat + 1)])
  | _, _, _, _, _, _, _, _, _ => none
def L47 : Loops := fun k => bif Nat.beq k 10 then some F47 else none

end Go.Proofs.YtkfdnpbpebmhaaaGreatDoor.Spec
section
set_option maxRecDepth 100000
namespace Go.Proofs.YtkfdnpbpebmhaaaGreatDoor.Spec
open Go Go.RowKit Sx Num

theorem run27a (x n : Int) : fnEx Tryz.prog (lk E17) L27 (G1 []) 60 Tryz.f27 [.abs [x], num n] = (let q0 := decide (x < (0 : Int)) = true; some (AV.tup [SV.agg [LV.v (Value.bool false), LV.v (Value.slice none (0 : Nat) (0 : Nat))], SV.one (LV.v (Value.int .i64 (1 : Int)))], [q0, q0, q0, true = true])) := by kernel_rfl
theorem run27b (x n : Int) : fnEx Tryz.prog (lk E17) L27 (G1 [14]) 60 Tryz.f27 [.abs [x], num n] = (let q0 := decide (x < (0 : Int)) = false; some (AV.tup [SV.agg [LV.v (Value.bool false), LV.v (Value.slice none (0 : Nat) (0 : Nat))], SV.one (LV.v (Value.int .i64 (1 : Int)))], [q0, q0, q0, decide (n < (1 : Int)) = true])) := by kernel_rfl
theorem run27c (x n : Int) : fnEx Tryz.prog (lk E17) L27 (G1 [14, 17]) 60 Tryz.f27 [.abs [x], num n] = (let q0 := enc (Int.toNat (IntKind.wrap .u64 (sgnI (o_rt x)))); let q1 := decide (x < (0 : Int)) = false; some (AV.tup [SV.agg [LV.v (Value.bool (decide (o_toI false q0 < (0 : Int)))), LV.row EK.u32 (enc (Int.natAbs (o_toI false q0)))], SV.one (LV.v (Value.int .i64 (0 : Int)))], [q1, q1, q1, decide (n < (1 : Int)) = false, o_okz x, o_sz big (o_rt x), decide ((↑(o_bits (Int.natAbs (o_rt x))) : Int) ≤ n) = true, o_okz x, o_sz big (o_rt x), (0 : Int) ≤ IntKind.wrap .u64 (sgnI (o_rt x)) ∧ IntKind.wrap .u64 (sgnI (o_rt x)) < (18446744073709551616 : Int), Words q0, Ln q0])) := by kernel_rfl
theorem run27d (x n : Int) : fnEx Tryz.prog (lk E17) L27 (G1 [14, 17, 24]) 60 Tryz.f27 [.abs [x], num n] = (let q2 := decide (x < (0 : Int)) = false; let q4 := enc (Int.toNat (2 : Int)); let q5 := (↑(o_bits (Int.natAbs (o_rt x))) : Int); let q0 := Int.tdiv (IntKind.wrap .i64 (IntKind.wrap .i64 (q5 + n) - (1 : Int))) n; let q6 := IntKind.wrap .i64 q0; let q1 := enc (nv q4 ^ Int.toNat q6); let q7 := nv (enc (Int.natAbs x)); let q3 := (↑(o_root (Int.toNat n) q7) : Int); some (AV.tup [SV.agg [LV.v (Value.bool (decide (q3 < (0 : Int)))), LV.row EK.u32 (enc (Int.natAbs q3))], SV.one (LV.v (Value.int .i64 (0 : Int)))], [q2, q2, q2, decide (n < (1 : Int)) = false, o_okz x, o_sz big (o_rt x), decide (q5 ≤ n) = false, (0 : Int) ≤ (2 : Int) ∧ (2 : Int) < (18446744073709551616 : Int), o_okz x, o_sz big (o_rt x), ¬n = (0 : Int), Canon q4, (0 : Int) ≤ IntKind.wrap .i64 q0 ∧ IntKind.wrap .i64 q0 ≤ (100000000 : Int), List.length q4 * (Int.toNat q6 + (1 : Nat)) ≤ (100000000 : Nat), Canon (enc (Int.natAbs x)), Canon q1, (0 : Int) ≤ n, o_nok (Int.toNat n) q7 (nv q1)])) := by kernel_rfl
theorem loop27a (ty : TypeId) (a k r : Nat) : codeV Tryz.prog (lk E17) L0 (G1 []) Tryz.f27.ntmps 60 (loopC Tryz.f27 0) [4, 5] [4] (I27 ty a k r) = (let q2 := enc (Int.toNat (IntKind.wrap .u64 (↑k : Int))); let q7 := (↑k : Int) - (1 : Int); let q0 := IntKind.wrap .i64 q7; let q3 := enc (Int.toNat (IntKind.wrap .u64 q0)); let q4 := enc (nv (enc r) ^ Int.toNat q0); let q5 := enc (nv (enc a) / nv q4); let q6 := enc (nv (enc r) * nv q3); let q1 := enc (nv q6 + nv q5); let q8 := (18446744073709551616 : Int); some (Ex.ret, { tmps := [((4 : Nat), AV.s (SV.one (LV.ptr (4 : Nat) (0 : Nat)))), ((5 : Nat), AV.s (SV.one (LV.v (Value.int .i64 (0 : Int)))))], boxes := [((4 : Nat), { ty := ty, bc := BC.cells [LV.v (Value.bool (decide (o_toI false (enc r) < (0 : Int)))), LV.row EK.u32 (enc (Int.natAbs (o_toI false (enc r))))], mut_ := true })] }, [Canon (enc r), (0 : Int) ≤ IntKind.wrap .i64 q7 ∧ IntKind.wrap .i64 q7 ≤ (100000000 : Int), List.length (enc r) * (Int.toNat q0 + (1 : Nat)) ≤ (100000000 : Nat), Canon (enc a), Canon q4, (0 : Nat) < List.length q4, List.length (enc a) < (137438953471 : Nat), List.length q4 < (137438953471 : Nat), (0 : Int) ≤ IntKind.wrap .u64 q0 ∧ IntKind.wrap .u64 q0 < q8, Words (enc r), Words q3, List.length (enc r) < (137438953472 : Nat), List.length q3 < (137438953472 : Nat), Words q6, Words q5, List.length q6 < (137438953472 : Nat), List.length q5 < (137438953472 : Nat), (0 : Int) ≤ IntKind.wrap .u64 (↑k : Int) ∧ IntKind.wrap .u64 (↑k : Int) < q8, Canon q1, Canon q2, (0 : Nat) < List.length q2, List.length q1 < (137438953471 : Nat), List.length q2 < (137438953471 : Nat), Canon (enc (nv q1 / nv q2)), Canon (enc r), Ln (enc (nv q1 / nv q2)), Ln (enc r), decide ((0 : Int) ≤ o_cmp (nv (enc (nv q1 / nv q2))) (nv (enc r))) = true, Words (enc r), Ln (enc r)])) := by kernel_rfl
theorem loop27b (ty : TypeId) (a k r : Nat) : codeV Tryz.prog (lk E17) L0 (G1 [66]) Tryz.f27.ntmps 60 (loopC Tryz.f27 0) [1, 4, 6, 7] [4] (I27 ty a k r) = (let q2 := enc (Int.toNat (IntKind.wrap .u64 (↑k : Int))); let q7 := (↑k : Int) - (1 : Int); let q1 := IntKind.wrap .i64 q7; let q3 := enc (Int.toNat (IntKind.wrap .u64 q1)); let q4 := enc (nv (enc r) ^ Int.toNat q1); let q5 := enc (nv (enc a) / nv q4); let q6 := enc (nv (enc r) * nv q3); let q0 := enc (nv q6 + nv q5); let q8 := (18446744073709551616 : Int); some (Ex.normal, { tmps := [((1 : Nat), AV.s (SV.one (LV.v (Value.int .i64 (↑k : Int))))), ((4 : Nat), AV.s (SV.one (LV.ptr (4 : Nat) (0 : Nat)))), ((6 : Nat), AV.s (SV.one (LV.row EK.u32 (enc a)))), ((7 : Nat), AV.s (SV.one (LV.row EK.u32 (enc (nv q0 / nv q2)))))], boxes := [((4 : Nat), { ty := ty, bc := BC.cells [LV.v (Value.bool false), LV.v (Value.slice none (0 : Nat) (0 : Nat))], mut_ := true })] }, [Canon (enc r), (0 : Int) ≤ IntKind.wrap .i64 q7 ∧ IntKind.wrap .i64 q7 ≤ (100000000 : Int), List.length (enc r) * (Int.toNat q1 + (1 : Nat)) ≤ (100000000 : Nat), Canon (enc a), Canon q4, (0 : Nat) < List.length q4, List.length (enc a) < (137438953471 : Nat), List.length q4 < (137438953471 : Nat), (0 : Int) ≤ IntKind.wrap .u64 q1 ∧ IntKind.wrap .u64 q1 < q8, Words (enc r), Words q3, List.length (enc r) < (137438953472 : Nat), List.length q3 < (137438953472 : Nat), Words q6, Words q5, List.length q6 < (137438953472 : Nat), List.length q5 < (137438953472 : Nat), (0 : Int) ≤ IntKind.wrap .u64 (↑k : Int) ∧ IntKind.wrap .u64 (↑k : Int) < q8, Canon q0, Canon q2, (0 : Nat) < List.length q2, List.length q0 < (137438953471 : Nat), List.length q2 < (137438953471 : Nat), Canon (enc (nv q0 / nv q2)), Canon (enc r), Ln (enc (nv q0 / nv q2)), Ln (enc r), decide ((0 : Int) ≤ o_cmp (nv (enc (nv q0 / nv q2))) (nv (enc r))) = false])) := by kernel_rfl
theorem run47a (x n : Int) : fnEx Tryz.prog (lk E17) L47 (G1 []) 60 Tryz.f47 [.abs [x], num n] = (let q0 := decide (x < (0 : Int)) = true; some (AV.tup [SV.agg [LV.v (Value.bool false), LV.v (Value.slice none (0 : Nat) (0 : Nat))], SV.one (LV.v (Value.int .i64 (1 : Int)))], [q0, q0, q0, true = true])) := by kernel_rfl
theorem run47b (x n : Int) : fnEx Tryz.prog (lk E17) L47 (G1 [12]) 60 Tryz.f47 [.abs [x], num n] = (let q0 := decide (x < (0 : Int)) = false; some (AV.tup [SV.agg [LV.v (Value.bool false), LV.v (Value.slice none (0 : Nat) (0 : Nat))], SV.one (LV.v (Value.int .i64 (1 : Int)))], [q0, q0, q0, decide (n < (1 : Int)) = true])) := by kernel_rfl
theorem run47c (x n : Int) : fnEx Tryz.prog (lk E17) L47 (G1 [12, 15]) 60 Tryz.f47 [.abs [x], num n] = (let q0 := decide (n = (1 : Int)) = true; let q1 := decide (x < (0 : Int)) = false; some (AV.tup [SV.agg [LV.v (Value.bool (decide (x < (0 : Int)))), LV.row EK.u32 (enc (Int.natAbs x))], SV.one (LV.v (Value.int .i64 (0 : Int)))], [q1, q1, q1, decide (n < (1 : Int)) = false, q0, q0, q0, q0, q0, true = true])) := by kernel_rfl
theorem run47d (x n : Int) : fnEx Tryz.prog (lk E17) L47 (G1 [12, 15, 18, 19]) 60 Tryz.f47 [.abs [x], num n] = (let q0 := decide (n = (1 : Int)) = false; let q1 := decide (x < (0 : Int)) = false; some (AV.tup [SV.agg [LV.v (Value.bool (decide (x < (0 : Int)))), LV.row EK.u32 (enc (Int.natAbs x))], SV.one (LV.v (Value.int .i64 (0 : Int)))], [q1, q1, q1, decide (n < (1 : Int)) = false, q0, q0, q0, q0, q0, decide ((↑(List.length (enc (Int.natAbs x))) : Int) = (0 : Int)) = true])) := by kernel_rfl
theorem run47e (x n : Int) : fnEx Tryz.prog (lk E17) L47 (G1 [12, 15, 18, 19, 23, 24]) 60 Tryz.f47 [.abs [x], num n] = (let q0 := decide (n = (1 : Int)) = false; let q1 := decide (x < (0 : Int)) = false; some (AV.tup [SV.agg [LV.v (Value.bool (decide ((1 : Int) < (0 : Int)))), LV.row EK.u32 (enc (Int.natAbs (1 : Int)))], SV.one (LV.v (Value.int .i64 (0 : Int)))], [q1, q1, q1, decide (n < (1 : Int)) = false, q0, q0, q0, q0, q0, decide ((↑(List.length (enc (Int.natAbs x))) : Int) = (0 : Int)) = false, o_okz x, o_sz big (o_rt x), decide ((↑(o_bits (Int.natAbs (o_rt x))) : Int) ≤ n) = true, (-9223372036854775808 : Int) ≤ (1 : Int) ∧ (1 : Int) < (9223372036854775808 : Int)])) := by kernel_rfl
theorem run47f (x n : Int) : fnEx Tryz.prog (lk E17) L47 (G1 [12, 15, 18, 19, 23, 24, 30]) 60 Tryz.f47 [.abs [x], num n] = (let q0 := decide (n = (1 : Int)) = false; let q1 := (↑(o_bits (Int.natAbs (o_rt x))) : Int); let q2 := decide (x < (0 : Int)) = false; let q3 := (↑(o_root (Int.toNat n) (Int.toNat (o_rt x))) : Int); some (AV.tup [SV.agg [LV.v (Value.bool (decide (q3 < (0 : Int)))), LV.row EK.u32 (enc (Int.natAbs q3))], SV.one (LV.v (Value.int .i64 (0 : Int)))], [q2, q2, q2, decide (n < (1 : Int)) = false, q0, q0, q0, q0, q0, decide ((↑(List.length (enc (Int.natAbs x))) : Int) = (0 : Int)) = false, o_okz x, o_sz big (o_rt x), decide (q1 ≤ n) = false, ¬n = (0 : Int), nat_lit 24 = nat_lit 24, nat_lit 24 = nat_lit 24, o_okz x, (0 : Int) ≤ o_rt x, (0 : Int) ≤ n, (0 : Int) ≤ IntKind.wrap .i64 (Int.tdiv q1 n), o_rok (Int.toNat n) (Int.toNat (o_rt x)) (Int.toNat (IntKind.wrap .i64 (Int.tdiv q1 n)) + (1 : Nat))])) := by kernel_rfl
theorem loop47a (ty : TypeId) (a : Int) (k r j : Nat) : codeV Tryz.prog (lk E17) L0 (G1 []) Tryz.f47.ntmps 60 (loopC Tryz.f47 0) [1, 2, 4, 7, 8] [2, 4, 7] (I47 ty a k r j) = (let q1 := (↑j : Int) - (1 : Int); let q0 := o_rt (↑r : Int) + (2 : Int) ^ Int.toNat q1; some (Ex.normal, { tmps := [((1 : Nat), AV.s (SV.one (LV.v (Value.int .i64 (↑k : Int))))), ((2 : Nat), AV.s (SV.one (LV.ptr (2 : Nat) (0 : Nat)))), ((4 : Nat), AV.s (SV.one (LV.ptr (4 : Nat) (0 : Nat)))), ((7 : Nat), AV.s (SV.one (LV.ptr (7 : Nat) (0 : Nat)))), ((8 : Nat), AV.s (SV.one (LV.v (Value.int .i64 (IntKind.wrap .i64 ((↑j : Int) - (1 : Int) - (1 : Int)))))))], boxes := [((2 : Nat), { ty := ty, bc := BC.cells [LV.v (Value.bool (decide (a < (0 : Int)))), LV.row EK.u32 (enc (Int.natAbs a))], mut_ := true }), ((4 : Nat), { ty := ty, bc := BC.cells [LV.v (Value.bool false), LV.row EK.u32 []], mut_ := true }), ((7 : Nat), { ty := ty, bc := BC.cells [LV.v (Value.bool (decide (o_rt (↑r : Int) + (2 : Int) ^ Int.toNat q1 < (0 : Int)))), LV.row EK.u32 (enc (Int.natAbs q0))], mut_ := true })] }, [decide ((0 : Int) ≤ (↑j : Int) - (1 : Int)) = true, (-9223372036854775808 : Int) ≤ (2 : Int) ∧ (2 : Int) < (9223372036854775808 : Int), (0 : Int) ≤ (↑j : Int) - (1 : Int) ∧ (↑j : Int) - (1 : Int) ≤ (100000000 : Int), List.length (enc (Int.natAbs (2 : Int))) * (Int.toNat q1 + (1 : Nat)) ≤ (100000000 : Nat), o_okz (↑r : Int), o_sz big (o_rt (↑r : Int)), o_sz big ((2 : Int) ^ Int.toNat q1), o_okz q0, (0 : Int) ≤ (↑k : Int) ∧ (↑k : Int) ≤ (100000000 : Int), List.length (enc (Int.natAbs (o_rt q0))) * (Int.toNat (↑k : Int) + (1 : Nat)) ≤ (100000000 : Nat), o_okz a, o_sz big (o_rt q0 ^ Int.toNat (↑k : Int)), o_sz big (o_rt a), decide (sgnI (o_rt q0 ^ Int.toNat (↑k : Int) - o_rt a) ≤ (0 : Int)) = true])) := by kernel_rfl
theorem loop47b (ty : TypeId) (a : Int) (k r j : Nat) : codeV Tryz.prog (lk E17) L0 (G1 [50]) Tryz.f47.ntmps 60 (loopC Tryz.f47 0) [1, 2, 4, 7, 8] [2, 4, 7] (I47 ty a k r j) = (let q1 := (↑j : Int) - (1 : Int); let q0 := o_rt (↑r : Int) + (2 : Int) ^ Int.toNat q1; some (Ex.normal, { tmps := [((1 : Nat), AV.s (SV.one (LV.v (Value.int .i64 (↑k : Int))))), ((2 : Nat), AV.s (SV.one (LV.ptr (2 : Nat) (0 : Nat)))), ((4 : Nat), AV.s (SV.one (LV.ptr (4 : Nat) (0 : Nat)))), ((7 : Nat), AV.s (SV.one (LV.ptr (7 : Nat) (0 : Nat)))), ((8 : Nat), AV.s (SV.one (LV.v (Value.int .i64 (IntKind.wrap .i64 ((↑j : Int) - (1 : Int) - (1 : Int)))))))], boxes := [((2 : Nat), { ty := ty, bc := BC.cells [LV.v (Value.bool (decide (a < (0 : Int)))), LV.row EK.u32 (enc (Int.natAbs a))], mut_ := true }), ((4 : Nat), { ty := ty, bc := BC.cells [LV.v (Value.bool false), LV.row EK.u32 []], mut_ := true }), ((7 : Nat), { ty := ty, bc := BC.cells [LV.v (Value.bool (decide ((↑r : Int) < (0 : Int)))), LV.row EK.u32 (enc (Int.natAbs (↑r : Int)))], mut_ := true })] }, [decide ((0 : Int) ≤ (↑j : Int) - (1 : Int)) = true, (-9223372036854775808 : Int) ≤ (2 : Int) ∧ (2 : Int) < (9223372036854775808 : Int), (0 : Int) ≤ (↑j : Int) - (1 : Int) ∧ (↑j : Int) - (1 : Int) ≤ (100000000 : Int), List.length (enc (Int.natAbs (2 : Int))) * (Int.toNat q1 + (1 : Nat)) ≤ (100000000 : Nat), o_okz (↑r : Int), o_sz big (o_rt (↑r : Int)), o_sz big ((2 : Int) ^ Int.toNat q1), o_okz q0, (0 : Int) ≤ (↑k : Int) ∧ (↑k : Int) ≤ (100000000 : Int), List.length (enc (Int.natAbs (o_rt q0))) * (Int.toNat (↑k : Int) + (1 : Nat)) ≤ (100000000 : Nat), o_okz a, o_sz big (o_rt q0 ^ Int.toNat (↑k : Int)), o_sz big (o_rt a), decide (sgnI (o_rt q0 ^ Int.toNat (↑k : Int) - o_rt a) ≤ (0 : Int)) = false])) := by kernel_rfl
theorem loop47c (ty : TypeId) (a : Int) (k r j : Nat) : codeV Tryz.prog (lk E17) L0 (G1 [37]) Tryz.f47.ntmps 60 (loopC Tryz.f47 0) [2, 4, 7] [2, 4, 7] (I47 ty a k r j) = some (Ex.exit (0 : Nat), { tmps := [((2 : Nat), AV.s (SV.one (LV.ptr (2 : Nat) (0 : Nat)))), ((4 : Nat), AV.s (SV.one (LV.ptr (4 : Nat) (0 : Nat)))), ((7 : Nat), AV.s (SV.one (LV.ptr (7 : Nat) (0 : Nat))))], boxes := [((2 : Nat), { ty := ty, bc := BC.cells [LV.v (Value.bool (decide (a < (0 : Int)))), LV.row EK.u32 (enc (Int.natAbs a))], mut_ := true }), ((4 : Nat), { ty := ty, bc := BC.cells [LV.v (Value.bool false), LV.row EK.u32 []], mut_ := true }), ((7 : Nat), { ty := ty, bc := BC.cells [LV.v (Value.bool (decide ((↑r : Int) < (0 : Int)))), LV.row EK.u32 (enc (Int.natAbs (↑r : Int)))], mut_ := true })] }, [decide ((0 : Int) ≤ (↑j : Int) - (1 : Int)) = false]) := by kernel_rfl
end Go.Proofs.YtkfdnpbpebmhaaaGreatDoor.Spec
end
namespace Go.Proofs.YtkfdnpbpebmhaaaGreatDoor.Spec
open Go Go.RowKit Sx Num

theorem B_pow (k : Nat) : B ^ k = 2 ^ (32 * k) := by rw [Nat.pow_mul]
theorem bits_spec (n : Nat) : n < 2 ^ o_bits n ∧ (n ≠ 0 → 2 ^ (o_bits n - 1) ≤ n) ∧ (n ≠ 0 → 0 < o_bits n) ∧ o_bits n ≤ 32 * (enc n).length := by
  unfold o_bits
  rcases Nat.eq_zero_or_pos n with h | h
  · subst h; exact ⟨by decide, fun h => absurd rfl h, fun h => absurd rfl h, by decide⟩
  · have hl := (enc_len_pos n).2 h
    obtain ⟨L, hL⟩ : ∃ L, (enc n).length = L + 1 := ⟨(enc n).length - 1, by omega⟩
    have h1 : n < B ^ (L + 1) := (enc_len n _).1 (by omega)
    have h2 : B ^ L ≤ n := by
      rcases Nat.lt_or_ge n (B ^ L) with h | h
      · have := (enc_len n L).2 h; omega
      · exact h
    rw [hL, Nat.add_sub_cancel]
    have hd : dg n L = n / B ^ L := by
      unfold dg
      apply Nat.mod_eq_of_lt
      rw [Nat.div_lt_iff_lt_mul (pow_pos' L), Nat.mul_comm]
      rwa [Nat.pow_succ] at h1
    have hlt := dg_lt n L
    have hb := bl_spec (x := dg n L) (by unfold B at hlt; omega)
    have hd0 : dg n L ≠ 0 := by rw [hd]; have := Nat.div_pos h2 (pow_pos' L); omega
    have hb32 := bl_le (x := dg n L) (k := 32) (by unfold B at hlt; omega) (by unfold B at hlt; omega)
    have hb1 : o_bl (dg n L) ≠ 0 := fun e => hd0 (hb.2.2.2.1 e)
    have e1 := Nat.div_add_mod n (B ^ L)
    have e2 := Nat.mod_lt n (pow_pos' L)
    rw [← hd] at e1
    refine ⟨?_, fun _ => ?_, fun _ => by omega, by omega⟩
    · rw [Nat.pow_add, ← B_pow]
      have : B ^ L * (dg n L + 1) ≤ B ^ L * 2 ^ o_bl (dg n L) := Nat.mul_le_mul_left _ hb.1
      rw [Nat.mul_add, Nat.mul_one] at this
      generalize B ^ L * 2 ^ o_bl (dg n L) = u at *
      generalize B ^ L * dg n L = v at *
      generalize n % B ^ L = t at *
      generalize B ^ L = p at *
      omega
    · have e3 : 32 * L + o_bl (dg n L) - 1 = 32 * L + (o_bl (dg n L) - 1) := by omega
      rw [e3, Nat.pow_add, ← B_pow]
      have : B ^ L * 2 ^ (o_bl (dg n L) - 1) ≤ B ^ L * dg n L := Nat.mul_le_mul_left _ (hb.2.1 hd0)
      generalize B ^ L * 2 ^ (o_bl (dg n L) - 1) = u at *
      generalize B ^ L * dg n L = v at *
      exact Nat.le_trans this (e1 ▸ Nat.le_add_right _ _)
theorem len_pow2 (e : Nat) : (enc (2 ^ e)).length ≤ e / 32 + 1 := by
  apply enc_len_le
  rw [B_pow]
  exact Nat.pow_lt_pow_right (by decide) (by omega)
theorem pow_div_le {e k b : Nat} (he : e * k ≤ b) : (e / 32 + 1) * k ≤ b / 32 + k := by
  rw [Nat.add_mul, Nat.one_mul]
  have h1 : e / 32 * k ≤ b / 32 := by
    rw [Nat.le_div_iff_mul_le (by decide)]
    have h2 := Nat.div_mul_le_self e 32
    have h3 := Nat.mul_le_mul_right k h2
    have h4 : e / 32 * k * 32 = e / 32 * 32 * k := Nat.mul_right_comm ..
    omega
  omega

theorem sub27 {st : St} {e : Ex} {s : St} {obs : List Prop} (h : F27 st = some (e, s, obs)) (hob : AllP obs) : ∃ x : TypeId × Nat × Nat × Nat, o_nok x.2.2.1 x.2.1 x.2.2.2 ∧ SubS st (I27 x.1 x.2.1 x.2.2.1 x.2.2.2) ∧ e = .ret ∧ s = ⟨[(4, ptrV 4), (5, .s (num 0))], [(4, bxZ x.1 (o_root x.2.2.1 x.2.1 : Nat))]⟩ := by
  unfold F27 at h
  split at h
  · rename_i n xs ys ty hz h1 h4 h6 h7 hb
    simp only [Option.some.injEq, Prod.mk.injEq] at h
    obtain ⟨rfl, rfl, rfl⟩ := h
    obtain ⟨hx, hy, hn, hk, _⟩ := hob
    refine ⟨(ty, nv xs, n.toNat, nv ys), hk, ⟨?_, ?_, ?_⟩, rfl, rfl⟩
    · have en : ((n.toNat : Nat) : Int) = n := by omega
      intro p hp
      simp only [I27, en, enc_nv hx, enc_nv hy, ptrV, List.mem_cons, List.not_mem_nil, or_false] at hp
      rcases hp with rfl | rfl | rfl | rfl <;> exact ⟨by assumption, rfl⟩
    · intro p hp
      simp only [I27, box0, List.mem_cons, List.not_mem_nil, or_false] at hp
      rcases hp with rfl
      exact ⟨by assumption, rfl⟩
    · intro hl; rw [hz] at hl; cases hl
  · cases h
theorem mul_len' {a b m n : Nat} (h : (enc a).length ≤ m) (k : (enc b).length ≤ n) : (enc (a * b)).length ≤ m + n := by
  apply enc_len_le
  rw [Nat.pow_add]
  exact Nat.mul_lt_mul_of_lt_of_le ((enc_len _ _).1 h) (Nat.le_of_lt ((enc_len _ _).1 k)) (pow_pos' n)
theorem add_len' {a b m : Nat} (h : (enc a).length ≤ m) (k : (enc b).length ≤ m) : (enc (a + b)).length ≤ m + 1 := by
  apply enc_len_le
  rw [Nat.pow_succ]
  have h1 := (enc_len _ _).1 h
  have h2 := (enc_len _ _).1 k
  have : B ^ m * 2 ≤ B ^ m * B := Nat.mul_le_mul_left _ (by decide)
  omega
theorem nok_step {k n r : Nat} (h : o_nok k n r) (hlt : o_nx k n r < r) : o_nok k n (o_nx k n r) := by
  obtain ⟨h0, h1, h2, h3, h4, h5, h6⟩ := h
  have hup := nx_up (n := n) h1 h3 (root_le h1)
  have hle := enc_le_of (Nat.le_refl (enc r).length) (Nat.le_of_lt hlt)
  have : 1 ≤ o_root k n := le_root h1 (by rw [Nat.one_pow]; omega)
  exact ⟨h0, h1, h2, by omega, hup, h5, Nat.le_trans (Nat.mul_le_mul_right _ hle) h6⟩
theorem u64_nat (a : Nat) (h : a ≤ 100000000) : IntKind.wrap IntKind.u64 (a : Int) = (a : Int) := by rw [w64]; omega
theorem lo27 : ∀ d ∈ loopsF Tryz.f27, LoopOk Tryz.prog Tryz.f27.ntmps L27 d := by
  rw [show loopsF Tryz.f27 = [loopC Tryz.f27 0] by kernel_rfl]
  intro d hd
  rw [List.mem_singleton] at hd
  subst hd
  refine loop_ok (k := 7) (f := F27) (α := TypeId × Nat × Nat × Nat) (by kernel_rfl) (by kernel_rfl) (fun x => I27 x.1 x.2.1 x.2.2.1 x.2.2.2) (fun x => ⟨[(4, ptrV 4), (5, .s (num 0))], [(4, bxZ x.1 (o_root x.2.2.1 x.2.1 : Nat))]⟩) (fun x => o_nok x.2.2.1 x.2.1 x.2.2.2) (fun x => x.2.2.2) .ret (by simp) (fun st e s obs h hob => sub27 h hob) ?_
  rintro ⟨ty, a, k, r⟩ hV
  have hV : o_nok k a r := hV
  obtain ⟨v0, v1, v2, v3, v4, v5, v6⟩ := id hV
  have hno : ∀ d ∈ loopsOf (loopC Tryz.f27 0), LoopOk Tryz.prog Tryz.f27.ntmps L0 d := by rw [show loopsOf (loopC Tryz.f27 0) = [] by kernel_rfl]; intro d hd; cases hd
  have w1 : IntKind.wrap IntKind.i64 ((k : Int) - 1) = ((k - 1 : Nat) : Int) := by rw [wi64 _ (by omega) (by omega)]; omega
  have w2 := u64_nat (k - 1) (by omega)
  have w3 := u64_nat k (by omega)
  have hpow := pow_len (Nat.le_refl (enc r).length) (k - 1)
  have hm1 : (enc r).length * (k - 1) ≤ 90000000 := Nat.le_trans (Nat.mul_le_mul_left _ (by omega)) v6
  have hm2 : (enc r).length * (k - 1 + 1) ≤ 90000000 := Nat.le_trans (Nat.mul_le_mul_left _ (by omega)) v6
  have hr1 : (enc r).length ≤ 90000000 := Nat.le_trans (Nat.le_mul_of_pos_right _ (by omega)) v6
  have hpp : 0 < (enc (r ^ (k - 1))).length := (enc_len_pos _).2 (Nat.pow_pos v3)
  have hk2 : (enc (k - 1)).length ≤ 2 := enc_len_le (by unfold B; omega)
  have hk3 : (enc k).length ≤ 2 := enc_len_le (by unfold B; omega)
  have hk4 : 0 < (enc k).length := (enc_len_pos _).2 v1
  have hmul := mul_len' hr1 hk2
  have hq := enc_le_of (n := a / r ^ (k - 1)) v5 (Nat.div_le_self _ _)
  have hsum := add_len' (m := 90000002) hmul (Nat.le_trans hq (by omega))
  have hnx := enc_le_of (n := (r * (k - 1) + a / r ^ (k - 1)) / k) hsum (Nat.div_le_self _ _)
  have hd : (r * (k - 1) + a / r ^ (k - 1)) / k = o_nx k a r := rfl
  by_cases hlt : o_nx k a r < r
  · refine (codeV_sound hmix E17ok.hS hno (loop27b ty a k r) ?_).mono ?_
    · simp only [AllP, w1, w2, w3, Int.toNat_natCast, nv_enc, canon_e, words_e, hd] at *
      unfold Ln
      and_intros <;> first | exact trivial | omega | (rw [o_cmp, if_pos hlt]; rfl)
    · rintro e s ⟨rfl, hs⟩
      refine .inl ⟨rfl, (ty, a, k, o_nx k a r), nok_step hV hlt, hlt, ?_, rfl⟩
      simp only [w1, w2, w3, Int.toNat_natCast, nv_enc, hd] at hs
      exact hs
  · have he : o_root k a = r := root_uniq v1 (nx_end v1 v3 (by omega)) (by
      have := root_lt (n := a) v1
      have h2 : (o_root k a + 1) ^ k ≤ (r + 1) ^ k := Nat.pow_le_pow_left (by omega) k
      omega)
    refine (codeV_sound hmix E17ok.hS hno (loop27a ty a k r) ?_).mono ?_
    · simp only [AllP, w1, w2, w3, Int.toNat_natCast, nv_enc, canon_e, words_e, hd] at *
      unfold Ln
      and_intros <;> first | exact trivial | omega | exact decide_eq_true (by unfold o_cmp; rw [if_neg hlt]; split <;> omega)
    · rintro e s ⟨rfl, hs⟩
      refine .inr ⟨rfl, ?_⟩
      simp only [toI_f] at hs
      show SubS s ⟨[(4, ptrV 4), (5, .s (num 0))], [(4, bxZ ty (o_root k a : Nat))]⟩
      rw [he]
      exact hs

/-- A root and its error. -/
def o_rootZ (x n : Int) : Int := if x < 0 ∨ n < 1 then 0 else (o_root n.toNat x.natAbs : Nat)
def o_re (x n : Int) : Int := if x < 0 ∨ n < 1 then 1 else 0
def spRoot : Sp
  | [.abs [x], .one (.v (.int .i64 n))] => some (.tup [.abs [o_rootZ x n], num (o_re x n)], [o_sz 1000000 x])
  | _ => none
def spRoot0 : Sp
  | [.abs [x], .one (.v (.int .i64 n))] => some (.tup [.agg [.v (.bool false), .v (.slice none 0 0)], num 1], [x < 0 ∨ n < 1])
  | _ => none
def spRoot1 : Sp
  | [.abs [x], .one (.v (.int .i64 n))] => some (.tup [.abs [(o_root n.toNat x.natAbs : Nat)], num 0], [0 ≤ x, 1 ≤ n, o_sz 1000000 x])
  | _ => none
theorem root_z {f : FuncId} (h0 : Con Tryz.prog f spRoot0) (h1 : Con Tryz.prog f spRoot1) : Con Tryz.prog f spRoot := by
  refine con_cases (con_absA (con_ans h0)) h1 fun avs r ps hs hp => ?_
  unfold spRoot at hs
  split at hs
  · rename_i x n
    simp only [Option.some.injEq, Prod.mk.injEq] at hs
    obtain ⟨rfl, rfl⟩ := hs
    obtain ⟨hx, _⟩ := hp
    by_cases h : x < 0 ∨ n < 1
    · left
      rw [o_rootZ, o_re, if_pos h, if_pos h]
      exact ⟨_, rfl, h, trivial⟩
    · right
      rw [o_rootZ, o_re, if_neg h, if_neg h]
      exact ⟨_, rfl, by omega, by omega, hx, trivial⟩
  · cases hs
theorem mb6 : (1000000 : Nat) ≤ big := by unfold big; omega
/-- A root that is less than two. -/
theorem root_sgn {x n : Int} (hx : 0 ≤ x) (hn : 1 ≤ n) (hb : (o_bits x.natAbs : Int) ≤ n) : ((o_root n.toNat x.natAbs : Nat) : Int) = sgnI x := by
  have hs := bits_spec x.natAbs
  have h2 : x.natAbs < 2 ^ n.toNat := Nat.lt_of_lt_of_le hs.1 (Nat.pow_le_pow_right (by decide) (by omega))
  unfold sgnI
  rw [if_neg (by omega)]
  by_cases h0 : x = 0
  · subst h0
    rw [if_pos rfl, root_uniq (s := 0) (by omega) (by rw [Nat.zero_pow (by omega)]; exact Nat.zero_le _) (by rw [Nat.zero_add, Nat.one_pow]; decide)]; rfl
  · rw [if_neg h0, root_uniq (s := 1) (by omega) (by rw [Nat.one_pow]; omega) h2]; rfl
theorem con27a : Con Tryz.prog 27 spRoot0 := by
  refine con_runL (fn := Tryz.f27) hmix E17ok.hS (by kernel_rfl) (fun _ => by kernel_rfl) ?_
  intro avs r ps hsp hps
  unfold spRoot0 at hsp
  split at hsp
  · rename_i x n
    simp only [Option.some.injEq, Prod.mk.injEq] at hsp
    obtain ⟨rfl, rfl⟩ := hsp
    obtain ⟨h, _⟩ := hps
    by_cases hx : x < 0
    · refine ⟨rfl, L27, lo27, _, _, _, _, run27a x n, rfl, ?_⟩
      exact ⟨decide_eq_true hx, decide_eq_true hx, decide_eq_true hx, rfl, trivial⟩
    · refine ⟨rfl, L27, lo27, _, _, _, _, run27b x n, rfl, ?_⟩
      exact ⟨decide_eq_false hx, decide_eq_false hx, decide_eq_false hx, decide_eq_true (by omega), trivial⟩
  · cases hsp
theorem sgn64 {x : Int} (h : 0 ≤ x) : IntKind.wrap IntKind.u64 (sgnI x) = sgnI x ∧ 0 ≤ sgnI x ∧ sgnI x < 2 := by
  have : 0 ≤ sgnI x ∧ sgnI x < 2 := by unfold sgnI; rw [if_neg (by omega)]; split <;> omega
  refine ⟨?_, this⟩
  rw [w64]; omega
theorem tdiv_nat {a b : Nat} : Int.tdiv (a : Int) (b : Int) = ((a / b : Nat) : Int) := by rw [Int.tdiv_eq_ediv_of_nonneg (Int.natCast_nonneg a)]; rfl
theorem ceil_div {b k e : Nat} (hk : 0 < k) (he : (b + k - 1) / k = e) : b ≤ e * k ∧ e * k ≤ b + k - 1 ∧ (0 < b → e ≤ b) := by
  subst he
  have h1 := Nat.div_mul_le_self (b + k - 1) k
  have h2 := Nat.div_add_mod (b + k - 1) k
  have h3 := Nat.mod_lt (b + k - 1) hk
  rw [Nat.mul_comm] at h2
  refine ⟨by omega, h1, fun hb => ?_⟩
  refine Nat.le_of_lt_succ ((Nat.div_lt_iff_lt_mul hk).2 ?_)
  have : b * 1 ≤ b * k := Nat.mul_le_mul_left _ hk
  rw [Nat.succ_mul]
  omega
theorem nok_start {x : Nat} {k e : Nat} (hk : 0 < k) (hx : 0 < x) (hl : (enc x).length ≤ 1000000) (hlt : k < o_bits x) (he : (o_bits x + k - 1) / k = e) : o_nok k x (2 ^ e) := by
  obtain ⟨b1, b2, b3, b4⟩ := bits_spec x
  obtain ⟨c1, c2, c3⟩ := ceil_div hk he
  have c3 := c3 (by omega)
  have hp := pow_div_le c2
  have hl2 := len_pow2 e
  refine ⟨hx, hk, by omega, Nat.pow_pos (by decide), root_up hk (root_bits b1 c1), hl, Nat.le_trans (Nat.mul_le_mul_right _ hl2) ?_⟩
  rw [Nat.mul_add, Nat.mul_one]
  generalize (e / 32 + 1) * k = u at *
  omega
theorem con27b : Con Tryz.prog 27 spRoot1 := by
  refine con_runZ (fn := Tryz.f27) hmix E17ok.hS (by kernel_rfl) (fun _ => by kernel_rfl) ?_
  intro avs r ps hsp hps
  unfold spRoot1 at hsp
  split at hsp
  · rename_i x n
    simp only [Option.some.injEq, Prod.mk.injEq] at hsp
    obtain ⟨rfl, rfl⟩ := hsp
    obtain ⟨hx, hn, hz, _⟩ := hps
    have hb := sz_mono hz mb6
    by_cases hc : (o_bits x.natAbs : Int) ≤ n
    · obtain ⟨s1, s2, s3⟩ := sgn64 hx
      refine ⟨rfl, L27, lo27, _, _, _, _, run27c x n, tupP (by rw [rt_eq, s1, toI_f, root_sgn hx hn hc]; omega), ?_⟩
      simp only [AllP, rt_eq, okz_t, s1, words_e]
      have := len64 (n := (sgnI x).toNat) (by omega)
      unfold Ln
      and_intros <;> first | exact trivial | assumption | omega | exact decide_eq_false (by omega) | exact decide_eq_true hc
    · obtain ⟨b1, b2, b3, b4⟩ := bits_spec x.natAbs
      have hl := sz_len hz
      obtain ⟨k, rfl⟩ := Int.eq_ofNat_of_zero_le (show 0 ≤ n by omega)
      have hk : 0 < k := by omega
      have hx0 : x.natAbs ≠ 0 := fun e => by rw [e] at hc; exact hc (by show ((0 : Nat) : Int) ≤ _; omega)
      have w1 : IntKind.wrap IntKind.i64 ((o_bits x.natAbs : Int) + (k : Int)) = ((o_bits x.natAbs + k : Nat) : Int) := by rw [wi64 _ (by omega) (by omega)]; omega
      have w2 : IntKind.wrap IntKind.i64 (((o_bits x.natAbs + k : Nat) : Int) - 1) = ((o_bits x.natAbs + k - 1 : Nat) : Int) := by rw [wi64 _ (by omega) (by omega)]; omega
      obtain ⟨e, he⟩ : ∃ e, (o_bits x.natAbs + k - 1) / k = e := ⟨_, rfl⟩
      obtain ⟨c1, c2, c3⟩ := ceil_div hk he
      have c3 := c3 (by omega)
      have w3 : IntKind.wrap IntKind.i64 (e : Int) = (e : Int) := wi64 _ (by omega) (by omega)
      have hno := nok_start hk (by omega) hl (by omega) he
      obtain ⟨q0, q1, q2, q3, q4, q5, q6⟩ := id hno
      have e2 : (enc (Int.toNat 2)).length = 1 := rfl
      have e3 : nv (enc (Int.toNat 2)) = 2 := nv_enc 2
      refine ⟨rfl, L27, lo27, _, _, _, _, run27d x k, tupP (by rw [nv_enc, tnc]), ?_⟩
      simp only [AllP, rt_eq, okz_t, w1, w2, tdiv_nat, he, w3, e2, e3, nv_enc, canon_e, tnc]
      and_intros <;> first | exact trivial | omega | exact decide_eq_false (by omega) | exact canon_enc 2 | exact hb | exact q3 | exact q4 | exact q6
  · cases hsp
theorem con27 : Con Tryz.prog 27 spRoot := root_z con27a con27b

theorem sub47 {st : St} {e : Ex} {s : St} {obs : List Prop} (h : F47 st = some (e, s, obs)) (hob : AllP obs) : ∃ x : TypeId × Int × Nat × Nat, (0 ≤ x.2.1 ∧ o_rok x.2.2.1 x.2.1.toNat x.2.2.2) ∧ SubS (fixSt st) (I47 x.1 x.2.1 x.2.2.1 (o_rj x.2.2.1 x.2.1.toNat x.2.2.2) x.2.2.2) ∧ e = .exit 0 ∧ s = ⟨[(2, ptrV 2), (4, ptrV 4), (7, ptrV 7)], [(2, bxZ x.1 x.2.1), (4, bx0 x.1), (7, bxZ x.1 (o_root x.2.2.1 x.2.1.toNat : Nat))]⟩ := by
  unfold F47 at h
  split at h
  · rename_i n i ty s xs ty4 ty7 hz h1 h2 h4 h7 h8 b2 b4 b7
    simp only [Option.some.injEq, Prod.mk.injEq] at h
    obtain ⟨rfl, rfl, rfl⟩ := h
    obtain ⟨rfl, rfl, ho, h0, hn, hi, hk, _⟩ := hob
    have q := ok_split ho
    refine ⟨(ty7, o_toI s xs, n.toNat, i.toNat + 1), ⟨h0, hk⟩, ⟨?_, ?_, ?_⟩, rfl, rfl⟩
    · have en : ((n.toNat : Nat) : Int) = n := by omega
      have ei : ((i.toNat + 1 : Nat) : Int) - 1 = i := by omega
      intro p hp
      simp only [I47, en, ei, ptrV, List.mem_cons, List.not_mem_nil, or_false] at hp
      rcases hp with rfl | rfl | rfl | rfl | rfl <;> exact ⟨by assumption, rfl⟩
    · have e0 := rj_start hk.2.2.2.2.1
      intro p hp
      simp only [I47, e0, bxZ, bx0, absL, ← q.1, ← q.2, Int.natCast_zero, Int.natAbs_zero, enc_zero, Int.lt_irrefl, decide_false, List.mem_cons, List.not_mem_nil, or_false] at hp
      rcases hp with rfl | rfl | rfl <;> exact ⟨by assumption, rfl⟩
    · intro hl
      have : liv (fixSt st).boxes = liv st.boxes := liv_fix _
      rw [this, hz] at hl; cases hl
  · cases h
theorem root_len {k n j : Nat} (h : o_rok k n j) {i : Nat} (hi : i < j) : (enc (o_rj k n (i + 1) + 2 ^ i)).length * (k + 1) ≤ 90000000 := by
  obtain ⟨h1, h2, h3, h4, h5, h6⟩ := h
  refine Nat.le_trans (Nat.mul_le_mul_right _ (enc_le_of (Nat.le_refl _) ?_)) h6
  have h7 := rj_le k n (i + 1)
  have h8 : 2 ^ i ≤ 2 ^ j := Nat.pow_le_pow_right (by decide) (by omega)
  rw [Nat.pow_succ]
  omega
theorem sgn_le (t : Int) : sgnI t ≤ 0 ↔ t ≤ 0 := by
  unfold sgnI
  split
  · omega
  · split <;> omega
theorem lo47 : ∀ d ∈ loopsF Tryz.f47, LoopOk Tryz.prog Tryz.f47.ntmps L47 d := by
  rw [show loopsF Tryz.f47 = [loopC Tryz.f47 0] by kernel_rfl]
  intro d hd
  rw [List.mem_singleton] at hd
  subst hd
  refine loop_okF (k := 10) (f := F47) (α := TypeId × Int × Nat × Nat) (by kernel_rfl) (by kernel_rfl) (fun x => I47 x.1 x.2.1 x.2.2.1 (o_rj x.2.2.1 x.2.1.toNat x.2.2.2) x.2.2.2) (fun x => ⟨[(2, ptrV 2), (4, ptrV 4), (7, ptrV 7)], [(2, bxZ x.1 x.2.1), (4, bx0 x.1), (7, bxZ x.1 (o_root x.2.2.1 x.2.1.toNat : Nat))]⟩) (fun x => 0 ≤ x.2.1 ∧ ∃ J, x.2.2.2 ≤ J ∧ o_rok x.2.2.1 x.2.1.toNat J) (fun x => x.2.2.2) (.exit 0) (by simp) ?_ ?_
  · intro st e s obs h hob
    obtain ⟨x, hx, h1, h2, h3⟩ := sub47 h hob
    exact ⟨x, ⟨hx.1, _, Nat.le_refl _, hx.2⟩, h1, h2, h3⟩
  rintro ⟨ty, a, k, j⟩ ⟨ha, J, hJ, hV⟩
  have ha : 0 ≤ a := ha
  have hJ : j ≤ J := hJ
  have hV : o_rok k a.toNat J := hV
  obtain ⟨v1, v2, v3, v4, v5, v6⟩ := id hV
  have hno : ∀ d ∈ loopsOf (loopC Tryz.f47 0), LoopOk Tryz.prog Tryz.f47.ntmps L0 d := by rw [show loopsOf (loopC Tryz.f47 0) = [] by kernel_rfl]; intro d hd; cases hd
  cases j with
  | zero =>
    refine (codeV_sound hmix E17ok.hS hno (loop47c ty a k (o_rj k a.toNat 0) 0) ?_).mono ?_
    · exact ⟨decide_eq_false (by omega), trivial⟩
    · rintro e s ⟨rfl, hs⟩
      refine .inr ⟨rfl, ?_⟩
      rw [rj_zero] at hs
      exact hs
  | succ i =>
    obtain ⟨r, hr⟩ : ∃ r, o_rj k a.toNat (i + 1) = r := ⟨_, rfl⟩
    have hlen := root_len hV (i := i) (by omega)
    have hstep := rj_step (k := k) (n := a.toNat) i v1
    rw [hr] at hlen hstep
    have e1 : ((i + 1 : Nat) : Int) - 1 = (i : Int) := by omega
    have w1 : IntKind.wrap IntKind.i64 ((i : Int) - 1) = (i : Int) - 1 := wi64 _ (by omega) (by omega)
    have e2 : (enc (Int.natAbs 2)).length = 1 := rfl
    have e3 : ((r : Int) + 2 ^ i) = ((r + 2 ^ i : Nat) : Int) := by rw [Int.natCast_add, Int.natCast_pow]; rfl
    have e4 : (((r + 2 ^ i : Nat) : Int) ^ k - a : Int) = (((r + 2 ^ i) ^ k : Nat) : Int) - a := by rw [Int.natCast_pow]
    have hone : (enc (r + 2 ^ i)).length ≤ 90000000 := Nat.le_trans (Nat.le_mul_of_pos_right _ (by omega)) hlen
    have z1 : o_sz big ((r : Nat) : Int) := len_sz (by rw [Int.natAbs_natCast]; exact Nat.le_trans (enc_le_of hone (Nat.le_add_right _ _)) (by unfold big; omega))
    have z2 : o_sz big ((2 : Int) ^ i) := len_sz (by rw [Int.natAbs_pow]; exact Nat.le_trans (enc_le_of hone (Nat.le_add_left _ _)) (by unfold big; omega))
    have hm : (enc (r + 2 ^ i)).length * k ≤ 90000000 := Nat.le_trans (Nat.mul_le_mul_left _ (Nat.le_succ k)) hlen
    have z3 : o_sz big (((r + 2 ^ i : Nat) : Int) ^ k) := sz_pow_big (by rw [Int.natAbs_natCast]; exact Nat.le_trans hm (by decide))
    have ea : a.natAbs = a.toNat := by omega
    have z4 : o_sz big a := len_sz (by rw [ea]; exact Nat.le_trans v3 mb6)
    have hc : (((r + 2 ^ i : Nat) : Int) ^ k ≤ a) ↔ (r + 2 ^ i) ^ k ≤ a.toNat := by
      have hcc : ∀ n : Nat, ((n : Int) ≤ a) ↔ n ≤ a.toNat := fun n => by omega
      rw [← Int.natCast_pow]; exact hcc _
    have hsg : sgnI (((r + 2 ^ i : Nat) : Int) ^ k - a) ≤ 0 ↔ ((r + 2 ^ i : Nat) : Int) ^ k ≤ a := by rw [sgn_le]; exact ⟨Int.le_of_sub_nonpos, Int.sub_nonpos_of_le⟩
    by_cases hle : (r + 2 ^ i) ^ k ≤ a.toNat
    · rw [if_pos hle] at hstep
      refine (codeV_sound hmix E17ok.hS hno (by show codeV _ _ _ _ _ _ _ _ _ (I47 ty a k (o_rj k a.toNat (i + 1)) (i + 1)) = _; rw [hr]; exact loop47a ty a k r (i + 1)) ?_).mono ?_
      · simp only [AllP, rt_eq, okz_t, e1, e2, e3, tnc, Int.natAbs_natCast]
        and_intros <;> first | exact trivial | omega | exact z1 | exact z2 | exact z3 | exact z4 | exact Nat.le_trans hlen (by decide) | exact decide_eq_true (by omega) | exact decide_eq_true (hsg.2 (hc.2 hle))
      · rintro e s ⟨rfl, hs⟩
        refine .inl ⟨rfl, (ty, a, k, i), ⟨ha, J, by show i ≤ J; omega, hV⟩, by show i < i + 1; omega, ?_, rfl⟩
        simp only [rt_eq, e1, e3, tnc, w1, ← hstep] at hs
        exact hs
    · rw [if_neg hle] at hstep
      refine (codeV_sound hmix E17ok.hS hno (by show codeV _ _ _ _ _ _ _ _ _ (I47 ty a k (o_rj k a.toNat (i + 1)) (i + 1)) = _; rw [hr]; exact loop47b ty a k r (i + 1)) ?_).mono ?_
      · simp only [AllP, rt_eq, okz_t, e1, e2, e3, tnc, Int.natAbs_natCast]
        and_intros <;> first | exact trivial | omega | exact z1 | exact z2 | exact z3 | exact z4 | exact Nat.le_trans hlen (by decide) | exact decide_eq_true (by omega) | exact decide_eq_false fun h => hle (hc.1 (hsg.1 h))
      · rintro e s ⟨rfl, hs⟩
        refine .inl ⟨rfl, (ty, a, k, i), ⟨ha, J, by show i ≤ J; omega, hV⟩, by show i < i + 1; omega, ?_, rfl⟩
        simp only [e1, w1, ← hstep] at hs
        exact hs

theorem con47a : Con Tryz.prog 47 spRoot0 := by
  refine con_runL (fn := Tryz.f47) hmix E17ok.hS (by kernel_rfl) (fun _ => by kernel_rfl) ?_
  intro avs r ps hsp hps
  unfold spRoot0 at hsp
  split at hsp
  · rename_i x n
    simp only [Option.some.injEq, Prod.mk.injEq] at hsp
    obtain ⟨rfl, rfl⟩ := hsp
    obtain ⟨h, _⟩ := hps
    by_cases hx : x < 0
    · refine ⟨rfl, L47, lo47, _, _, _, _, run47a x n, rfl, ?_⟩
      exact ⟨decide_eq_true hx, decide_eq_true hx, decide_eq_true hx, rfl, trivial⟩
    · refine ⟨rfl, L47, lo47, _, _, _, _, run47b x n, rfl, ?_⟩
      exact ⟨decide_eq_false hx, decide_eq_false hx, decide_eq_false hx, decide_eq_true (by omega), trivial⟩
  · cases hsp
theorem rok_start {x k : Nat} (hk : 0 < k) (hl : (enc x).length ≤ 1000000) (hlt : k < o_bits x) : o_rok k x (o_bits x / k + 1) := by
  obtain ⟨b1, b2, b3, b4⟩ := bits_spec x
  have h1 := Nat.div_mul_le_self (o_bits x) k
  have h2 := Nat.div_le_self (o_bits x) k
  have h3 : o_bits x ≤ (o_bits x / k + 1) * k := by
    have e := Nat.div_add_mod (o_bits x) k
    have m := Nat.mod_lt (o_bits x) hk
    rw [Nat.mul_comm] at e
    rw [Nat.succ_mul]; omega
  refine ⟨hk, by omega, hl, by omega, root_lt_bits hk b1 h3, ?_⟩
  obtain ⟨q, hq⟩ : ∃ q, o_bits x / k = q := ⟨_, rfl⟩
  rw [hq] at h1 h2 ⊢
  have hl2 := len_pow2 (q + 1 + 1)
  have hl3 : (enc (2 ^ (q + 1 + 1))).length ≤ q / 32 + 1 + 1 := by omega
  refine Nat.le_trans (Nat.mul_le_mul_right _ hl3) ?_
  have hp := pow_div_le h1
  rw [Nat.mul_add, Nat.mul_one, Nat.succ_mul]
  generalize (q / 32 + 1) * k = u at *
  omega
theorem con47b : Con Tryz.prog 47 spRoot1 := by
  refine con_runZ (fn := Tryz.f47) hmix E17ok.hS (by kernel_rfl) (fun _ => by kernel_rfl) ?_
  intro avs r ps hsp hps
  unfold spRoot1 at hsp
  split at hsp
  · rename_i x n
    simp only [Option.some.injEq, Prod.mk.injEq] at hsp
    obtain ⟨rfl, rfl⟩ := hsp
    obtain ⟨hx, hn, hz, _⟩ := hps
    have hb := sz_mono hz mb6
    have ex : ((x.natAbs : Nat) : Int) = x := by omega
    have dx : decide (x < 0) = false := decide_eq_false (by omega)
    have dn : decide (n < 1) = false := decide_eq_false (by omega)
    by_cases h1 : n = 1
    · subst h1
      have hr : o_root (Int.toNat 1) x.natAbs = x.natAbs := root_uniq (by decide) (by show x.natAbs ^ 1 ≤ _; rw [Nat.pow_one]; exact Nat.le_refl _) (by show _ < (x.natAbs + 1) ^ 1; rw [Nat.pow_one]; omega)
      refine ⟨rfl, L47, lo47, _, _, _, _, run47c x 1, tupP (by rw [hr, ex]), ?_⟩
      exact ⟨dx, dx, dx, rfl, rfl, rfl, rfl, rfl, rfl, rfl, trivial⟩
    · have d1 : decide (n = 1) = false := decide_eq_false h1
      by_cases h0 : x = 0
      · subst h0
        have hr : o_root n.toNat (Int.natAbs 0) = 0 := root_uniq (by omega) (by rw [Nat.zero_pow (by omega)]; exact Nat.zero_le _) (by rw [Nat.zero_add, Nat.one_pow]; decide)
        refine ⟨rfl, L47, lo47, _, _, _, _, run47d 0 n, tupP (by rw [hr]; rfl), ?_⟩
        exact ⟨rfl, rfl, rfl, dn, d1, d1, d1, d1, d1, rfl, trivial⟩
      · have hlen := (enc_len_pos x.natAbs).2 (by omega)
        have dl : decide ((((enc x.natAbs).length : Nat) : Int) = 0) = false := decide_eq_false (by omega)
        by_cases hc : (o_bits x.natAbs : Int) ≤ n
        · have hs : sgnI x = 1 := by unfold sgnI; rw [if_neg (by omega), if_neg h0]
          refine ⟨rfl, L47, lo47, _, _, _, _, run47e x n, tupP (by rw [root_sgn hx hn hc, hs]), ?_⟩
          simp only [AllP, rt_eq, okz_t]
          exact ⟨dx, dx, dx, dn, d1, d1, d1, d1, d1, dl, trivial, hb, decide_eq_true hc, by omega, trivial⟩
        · obtain ⟨k, rfl⟩ := Int.eq_ofNat_of_zero_le (show 0 ≤ n by omega)
          have hk : 0 < k := by omega
          have hl := sz_len hz
          obtain ⟨b1, b2, b3, b4⟩ := bits_spec x.natAbs
          have hro := rok_start hk hl (by omega)
          have h2 := Nat.div_le_self (o_bits x.natAbs) k
          obtain ⟨q, hq⟩ : ∃ q, o_bits x.natAbs / k = q := ⟨_, rfl⟩
          rw [hq] at hro h2
          have w1 : IntKind.wrap IntKind.i64 (q : Int) = (q : Int) := wi64 _ (by omega) (by omega)
          have et : x.toNat = x.natAbs := by omega
          refine ⟨rfl, L47, lo47, _, _, _, _, run47f x k, tupP (by rw [rt_eq, tnc, et]), ?_⟩
          simp only [AllP, rt_eq, okz_t, tnc, et, tdiv_nat, hq, w1]
          exact ⟨dx, dx, dx, dn, d1, d1, d1, d1, d1, dl, trivial, hb, decide_eq_false hc, by omega, trivial, trivial, trivial, hx, by omega, by omega, hro, trivial⟩
  · cases hsp
theorem con47 : Con Tryz.prog 47 spRoot := root_z con47a con47b
def E18 : List (Nat × Ctr) := (27, .fn (zArgs spRoot)) :: (47, .fn (zArgs spRoot)) :: E17
theorem E18ok : EnvOk Tryz.prog E18 := .cons (con_z con27) (.cons (con_z con47) E17ok)

end Go.Proofs.YtkfdnpbpebmhaaaGreatDoor.Spec
namespace Go.Proofs.YtkfdnpbpebmhaaaGreatDoor.Spec
open Go Go.RowKit Sx Num

def bxR (ty : TypeId) (s : Bool) (xs : List Int) : Box := ⟨ty, .cells [.v (.bool s), .row .u32 xs], true⟩
/-- Before the first word, and after some. -/
def I14s (ty ty3 : TypeId) (s : Bool) (xs : List Int) (n : Int) : St := ⟨[(1, .s (num n)), (2, ptrV 2), (4, ptrV 4), (5, .s (slW 7 0 0 0)), (6, .s (num 0))], [(7, ⟨27, .ints .u32 [], true⟩), (4, bx0 ty), (2, bxR ty3 s xs)]⟩
def I14 (ty ty3 : TypeId) (s : Bool) (xs : List Int) (n : Int) (zs : List Int) : St := ⟨[(1, .s (num n)), (2, ptrV 2), (4, ptrV 4), (5, .s (.one (.gsl 27 zs.length))), (6, .s (num zs.length))], [(27, ⟨27, .gi .u32 zs, true⟩), (4, bx0 ty), (2, bxR ty3 s xs)]⟩
def E14s (ty ty3 : TypeId) (s : Bool) (xs : List Int) : St := ⟨[(2, ptrV 2), (4, ptrV 4), (5, .s (slW 7 0 0 0))], [(7, ⟨27, .ints .u32 [], true⟩), (4, bx0 ty), (2, bxR ty3 s xs)]⟩
def E14e (ty ty3 : TypeId) (s : Bool) (xs zs : List Int) : St := ⟨[(2, ptrV 2), (4, ptrV 4), (5, .s (.one (.gsl 27 zs.length)))], [(27, ⟨27, .gi .u32 zs, true⟩), (4, bx0 ty), (2, bxR ty3 s xs)]⟩
def F14 (d : Bool) (st : St) : Option (Ex × St × List Prop) :=
  match liv st.boxes 0, lk st.tmps 1, lk st.tmps 2, lk st.tmps 4, lk st.tmps 5, lk st.tmps 6, lk (fixBs st.boxes) 7, lk (fixBs st.boxes) 4, lk (fixBs st.boxes) 2 with
  | false, some (.s (.one (.v (.int .i64 n)))), some (.s (.one (.ptr 2 0))), some (.s (.one (.ptr 4 0))), some (.s (.one (.sl 7 0 0 0))), some (.s (.one (.v (.int .i64 i)))),
    some ⟨ty7, .ints .u32 [], true⟩, some ⟨ty4, .cells [.v (.bool false), .row .u32 []], true⟩, some ⟨ty2, .cells [.v (.bool s), .row .u32 xs], true⟩ =>
    some (.exit 0, bif d then E14s ty4 ty2 s xs else E14e ty4 ty2 s xs (xs.take n.toNat), [ty7 = 27, i = 0, (xs.take n.toNat).length < 1099511627776, bif d then xs.take n.toNat = [] else xs.take n.toNat ≠ []])
  | _, _, _, _, _, _, _, _, _ => none
def L14 (d : Bool) : Loops := fun k => bif Nat.beq k 3 then some (F14 d) else none

end Go.Proofs.YtkfdnpbpebmhaaaGreatDoor.Spec
section
set_option maxRecDepth 100000
namespace Go.Proofs.YtkfdnpbpebmhaaaGreatDoor.Spec
open Go Go.RowKit Sx Num

theorem loop14a (ty ty3 : TypeId) (s : Bool) (xs : List Int) (n : Int) : codeV Tryz.prog (lk E18) L0 (G1 []) Tryz.f14.ntmps 60 (loopC Tryz.f14 0) [1, 2, 4, 5, 6] [27, 4, 2] (I14s ty ty3 s xs n) = (let q1 := List.drop (0 : Nat) [List.getD xs (Int.toNat (0 : Int)) (0 : Int)]; let q2 := (↑(List.length xs) : Int); let q0 := decide ((0 : Int) < q2) = true; let q3 := List.take (1 : Nat) q1; some (Ex.normal, { tmps := [((1 : Nat), AV.s (SV.one (LV.v (Value.int .i64 n)))), ((2 : Nat), AV.s (SV.one (LV.ptr (2 : Nat) (0 : Nat)))), ((4 : Nat), AV.s (SV.one (LV.ptr (4 : Nat) (0 : Nat)))), ((5 : Nat), AV.s (SV.one (LV.gsl (27 : Nat) ((0 : Nat) + List.length q3)))), ((6 : Nat), AV.s (SV.one (LV.v (Value.int .i64 (IntKind.wrap .i64 ((0 : Int) + (1 : Int)))))))], boxes := [((27 : Nat), { ty := (27 : Nat), bc := BC.gi EK.u32 ([] ++ List.take (1 : Nat) q1), mut_ := true }), ((4 : Nat), { ty := ty, bc := BC.cells [LV.v (Value.bool false), LV.row EK.u32 []], mut_ := true }), ((2 : Nat), { ty := ty3, bc := BC.cells [LV.v (Value.bool s), LV.row EK.u32 xs], mut_ := true })] }, [q0, q0, q0, q0, decide ((0 : Int) < n) = true, (0 : Int) ≤ (0 : Int) ∧ (0 : Int) < q2, (0 : Nat) = (0 : Nat) ∧ (0 : Nat) = (0 : Nat), (0 : Nat) + (1 : Nat) ≤ (0 : Nat) + (1 : Nat) ∧ (1 : Nat) ≤ (1 : Nat) ∧ (1 : Nat) ≤ (9223372036854775807 : Nat), (0 : Nat) + List.length q3 ≤ (1099511627776 : Nat)])) := by kernel_rfl
theorem loop14b (ty ty3 : TypeId) (s : Bool) (xs : List Int) (n : Int) : codeV Tryz.prog (lk E18) L0 (G1 [12, 13, 17]) Tryz.f14.ntmps 60 (loopC Tryz.f14 0) [2, 4, 5] [7, 4, 2] (I14s ty ty3 s xs n) = (let q0 := decide ((0 : Int) < (↑(List.length xs) : Int)) = false; some (Ex.exit (0 : Nat), { tmps := [((2 : Nat), AV.s (SV.one (LV.ptr (2 : Nat) (0 : Nat)))), ((4 : Nat), AV.s (SV.one (LV.ptr (4 : Nat) (0 : Nat)))), ((5 : Nat), AV.s (SV.one (LV.sl (7 : Nat) (0 : Nat) (0 : Nat) (0 : Nat))))], boxes := [((7 : Nat), { ty := nat_lit 27, bc := BC.ints EK.u32 [], mut_ := true }), ((4 : Nat), { ty := ty, bc := BC.cells [LV.v (Value.bool false), LV.row EK.u32 []], mut_ := true }), ((2 : Nat), { ty := ty3, bc := BC.cells [LV.v (Value.bool s), LV.row EK.u32 xs], mut_ := true })] }, [q0, q0, q0, q0, false = false])) := by kernel_rfl
theorem loop14c (ty ty3 : TypeId) (s : Bool) (xs : List Int) (n : Int) : codeV Tryz.prog (lk E18) L0 (G1 [16, 17]) Tryz.f14.ntmps 60 (loopC Tryz.f14 0) [2, 4, 5] [7, 4, 2] (I14s ty ty3 s xs n) = (let q0 := decide ((0 : Int) < (↑(List.length xs) : Int)) = true; some (Ex.exit (0 : Nat), { tmps := [((2 : Nat), AV.s (SV.one (LV.ptr (2 : Nat) (0 : Nat)))), ((4 : Nat), AV.s (SV.one (LV.ptr (4 : Nat) (0 : Nat)))), ((5 : Nat), AV.s (SV.one (LV.sl (7 : Nat) (0 : Nat) (0 : Nat) (0 : Nat))))], boxes := [((7 : Nat), { ty := nat_lit 27, bc := BC.ints EK.u32 [], mut_ := true }), ((4 : Nat), { ty := ty, bc := BC.cells [LV.v (Value.bool false), LV.row EK.u32 []], mut_ := true }), ((2 : Nat), { ty := ty3, bc := BC.cells [LV.v (Value.bool s), LV.row EK.u32 xs], mut_ := true })] }, [q0, q0, q0, q0, decide ((0 : Int) < n) = false])) := by kernel_rfl
theorem loop14d (ty ty3 : TypeId) (s : Bool) (xs : List Int) (n : Int) (zs : List Int) : codeV Tryz.prog (lk E18) L0 (G1 []) Tryz.f14.ntmps 60 (loopC Tryz.f14 0) [1, 2, 4, 5, 6] [27, 4, 2] (I14 ty ty3 s xs n zs) = (let q0 := (↑(List.length zs) : Int); let q2 := List.drop (0 : Nat) [List.getD xs (Int.toNat q0) (0 : Int)]; let q3 := (↑(List.length xs) : Int); let q1 := decide (q0 < q3) = true; let q4 := List.take (1 : Nat) q2; some (Ex.normal, { tmps := [((1 : Nat), AV.s (SV.one (LV.v (Value.int .i64 n)))), ((2 : Nat), AV.s (SV.one (LV.ptr (2 : Nat) (0 : Nat)))), ((4 : Nat), AV.s (SV.one (LV.ptr (4 : Nat) (0 : Nat)))), ((5 : Nat), AV.s (SV.one (LV.gsl (27 : Nat) (List.length zs + List.length q4)))), ((6 : Nat), AV.s (SV.one (LV.v (Value.int .i64 (IntKind.wrap .i64 (q0 + (1 : Int)))))))], boxes := [((27 : Nat), { ty := (27 : Nat), bc := BC.gi EK.u32 (zs ++ List.take (1 : Nat) q2), mut_ := true }), ((4 : Nat), { ty := ty, bc := BC.cells [LV.v (Value.bool false), LV.row EK.u32 []], mut_ := true }), ((2 : Nat), { ty := ty3, bc := BC.cells [LV.v (Value.bool s), LV.row EK.u32 xs], mut_ := true })] }, [q1, q1, q1, q1, decide (q0 < n) = true, (0 : Int) ≤ q0 ∧ q0 < q3, List.length zs = List.length zs, (0 : Nat) + (1 : Nat) ≤ (0 : Nat) + (1 : Nat) ∧ (1 : Nat) ≤ (1 : Nat) ∧ (1 : Nat) ≤ (9223372036854775807 : Nat), List.length zs + List.length q4 ≤ (1099511627776 : Nat)])) := by kernel_rfl
theorem loop14e (ty ty3 : TypeId) (s : Bool) (xs : List Int) (n : Int) (zs : List Int) : codeV Tryz.prog (lk E18) L0 (G1 [12, 13, 17]) Tryz.f14.ntmps 60 (loopC Tryz.f14 0) [2, 4, 5] [27, 4, 2] (I14 ty ty3 s xs n zs) = (let q0 := decide ((↑(List.length zs) : Int) < (↑(List.length xs) : Int)) = false; some (Ex.exit (0 : Nat), { tmps := [((2 : Nat), AV.s (SV.one (LV.ptr (2 : Nat) (0 : Nat)))), ((4 : Nat), AV.s (SV.one (LV.ptr (4 : Nat) (0 : Nat)))), ((5 : Nat), AV.s (SV.one (LV.gsl (27 : Nat) (List.length zs))))], boxes := [((27 : Nat), { ty := nat_lit 27, bc := BC.gi EK.u32 zs, mut_ := true }), ((4 : Nat), { ty := ty, bc := BC.cells [LV.v (Value.bool false), LV.row EK.u32 []], mut_ := true }), ((2 : Nat), { ty := ty3, bc := BC.cells [LV.v (Value.bool s), LV.row EK.u32 xs], mut_ := true })] }, [q0, q0, q0, q0, false = false])) := by kernel_rfl
theorem loop14f (ty ty3 : TypeId) (s : Bool) (xs : List Int) (n : Int) (zs : List Int) : codeV Tryz.prog (lk E18) L0 (G1 [16, 17]) Tryz.f14.ntmps 60 (loopC Tryz.f14 0) [2, 4, 5] [27, 4, 2] (I14 ty ty3 s xs n zs) = (let q1 := (↑(List.length zs) : Int); let q0 := decide (q1 < (↑(List.length xs) : Int)) = true; some (Ex.exit (0 : Nat), { tmps := [((2 : Nat), AV.s (SV.one (LV.ptr (2 : Nat) (0 : Nat)))), ((4 : Nat), AV.s (SV.one (LV.ptr (4 : Nat) (0 : Nat)))), ((5 : Nat), AV.s (SV.one (LV.gsl (27 : Nat) (List.length zs))))], boxes := [((27 : Nat), { ty := nat_lit 27, bc := BC.gi EK.u32 zs, mut_ := true }), ((4 : Nat), { ty := ty, bc := BC.cells [LV.v (Value.bool false), LV.row EK.u32 []], mut_ := true }), ((2 : Nat), { ty := ty3, bc := BC.cells [LV.v (Value.bool s), LV.row EK.u32 xs], mut_ := true })] }, [q0, q0, q0, q0, decide (q1 < n) = false])) := by kernel_rfl
theorem run14a (s : Bool) (xs : List Int) (n : Int) : fnEx Tryz.prog (lk E18) (L14 true) (G1 []) 60 Tryz.f14 [.agg [.v (.bool s), .row .u32 xs], num n] = (let q0 := List.take (0 : Nat) (List.drop (0 : Nat) []); some (AV.s (SV.agg [LV.v (Value.bool (decide (o_toI s q0 < (0 : Int)))), LV.row EK.u32 (enc (Int.natAbs (o_toI s q0)))]), [nat_lit 27 = nat_lit 27, (0 : Int) = (0 : Int), List.length (List.take (Int.toNat n) xs) < (1099511627776 : Nat), List.take (Int.toNat n) xs = [], (0 : Nat) + (0 : Nat) ≤ (0 : Nat) ∧ (0 : Nat) ≤ (0 : Nat) ∧ (0 : Nat) ≤ (9223372036854775807 : Nat), Words q0, Ln q0])) := by kernel_rfl
theorem run14b (s : Bool) (xs : List Int) (n : Int) : fnEx Tryz.prog (lk E18) (L14 false) (G1 []) 60 Tryz.f14 [.agg [.v (.bool s), .row .u32 xs], num n] = (let q0 := List.take (Int.toNat n) xs; let q1 := List.take (List.length q0) q0; some (AV.s (SV.agg [LV.v (Value.bool (decide (o_toI s q1 < (0 : Int)))), LV.row EK.u32 (enc (Int.natAbs (o_toI s q1)))]), [nat_lit 27 = nat_lit 27, (0 : Int) = (0 : Int), List.length q0 < (1099511627776 : Nat), ¬List.take (Int.toNat n) xs = [], List.length q0 ≤ List.length q0 ∧ List.length q0 ≤ (9223372036854775807 : Nat), Words q1, Ln q1])) := by kernel_rfl
theorem run48va (x y : Int) : fnEx Tryz.prog (lk E18) L0 (G1 []) 60 Tryz.f48 [.abs [x], .abs [y]] = (let q0 := decide ((↑(List.length (enc (Int.natAbs y))) : Int) = (0 : Int)) = true; some (AV.s (SV.one (LV.v (Value.bool true))), [o_okz y, o_okz x, o_sz big (o_rt y), o_sz big (o_rt x), q0, q0, q0, q0, q0])) := by kernel_rfl
theorem run48vb (x y : Int) : fnEx Tryz.prog (lk E18) L0 (G1 [18, 19]) 60 Tryz.f48 [.abs [x], .abs [y]] = (let q0 := decide ((↑(List.length (enc (Int.natAbs y))) : Int) = (0 : Int)) = false; let q1 := decide (o_dz (o_rt x) = (0 : Int)) = true; some (AV.s (SV.one (LV.v (Value.bool (decide ((↑(List.length (enc (Int.natAbs (o_rem (o_rt y) (o_rt x))))) : Int) = (0 : Int)))))), [o_okz y, o_okz x, o_sz big (o_rt y), o_sz big (o_rt x), q0, q0, q0, q1, q1, q1, q1, q0, q1, q0])) := by kernel_rfl
theorem run48vc (x y : Int) : fnEx Tryz.prog (lk E18) L0 (G1 [18, 19, 21, 22]) 60 Tryz.f48 [.abs [x], .abs [y]] = (let q0 := decide ((↑(List.length (enc (Int.natAbs y))) : Int) = (0 : Int)) = false; let q1 := decide (o_dz (o_rt x) = (0 : Int)) = false; some (AV.s (SV.one (LV.v (Value.bool false))), [o_okz y, o_okz x, o_sz big (o_rt y), o_sz big (o_rt x), q0, q0, q0, q1, q1, q1, q1, q0, q1, q0])) := by kernel_rfl
end Go.Proofs.YtkfdnpbpebmhaaaGreatDoor.Spec
end
namespace Go.Proofs.YtkfdnpbpebmhaaaGreatDoor.Spec
open Go Go.RowKit Sx Num

theorem sub14 {d : Bool} {st : St} {e : Ex} {s : St} {obs : List Prop} (h : F14 d st = some (e, s, obs)) (hob : AllP obs) : ∃ x : TypeId × TypeId × Bool × List Int × Int, ((x.2.2.2.1.take x.2.2.2.2.toNat).length < 1099511627776 ∧ bif d then x.2.2.2.1.take x.2.2.2.2.toNat = [] else x.2.2.2.1.take x.2.2.2.2.toNat ≠ []) ∧ SubS (fixSt st) (I14s x.1 x.2.1 x.2.2.1 x.2.2.2.1 x.2.2.2.2) ∧ e = .exit 0 ∧ s = bif d then E14s x.1 x.2.1 x.2.2.1 x.2.2.2.1 else E14e x.1 x.2.1 x.2.2.1 x.2.2.2.1 (x.2.2.2.1.take x.2.2.2.2.toNat) := by
  unfold F14 at h
  split at h
  · rename_i n i ty7 ty4 ty2 s xs hz h1 h2 h4 h5 h6 b7 b4 b2
    simp only [Option.some.injEq, Prod.mk.injEq] at h
    obtain ⟨rfl, rfl, rfl⟩ := h
    obtain ⟨rfl, rfl, hl, hd, _⟩ := hob
    refine ⟨(ty4, ty2, s, xs, n), ⟨hl, hd⟩, ⟨?_, ?_, ?_⟩, rfl, rfl⟩
    · intro p hp
      simp only [I14s, ptrV, List.mem_cons, List.not_mem_nil, or_false] at hp
      rcases hp with rfl | rfl | rfl | rfl | rfl <;> exact ⟨by assumption, rfl⟩
    · intro p hp
      simp only [I14s, bxR, bx0, List.mem_cons, List.not_mem_nil, or_false] at hp
      rcases hp with rfl | rfl | rfl <;> exact ⟨by assumption, rfl⟩
    · intro hl
      have : liv (fixSt st).boxes = liv st.boxes := liv_fix _
      rw [this, hz] at hl; cases hl
  · cases h
abbrev A14 : Type := (TypeId × TypeId × Bool × List Int × Int) × Nat
def J14 (x : A14) : St := if x.2 = 0 then I14s x.1.1 x.1.2.1 x.1.2.2.1 x.1.2.2.2.1 x.1.2.2.2.2 else I14 x.1.1 x.1.2.1 x.1.2.2.1 x.1.2.2.2.1 x.1.2.2.2.2 (x.1.2.2.2.1.take x.2)
def fin14 (d : Bool) (x : A14) : St := bif d then E14s x.1.1 x.1.2.1 x.1.2.2.1 x.1.2.2.2.1 else E14e x.1.1 x.1.2.1 x.1.2.2.1 x.1.2.2.2.1 (x.1.2.2.2.1.take x.1.2.2.2.2.toNat)
def V14 (d : Bool) (x : A14) : Prop := (x.1.2.2.2.1.take x.1.2.2.2.2.toNat).length < 1099511627776 ∧ (bif d then x.1.2.2.2.1.take x.1.2.2.2.2.toNat = [] else x.1.2.2.2.1.take x.1.2.2.2.2.toNat ≠ []) ∧ x.2 ≤ (x.1.2.2.2.1.take x.1.2.2.2.2.toNat).length
theorem take_one (x : Int) : List.take 1 (List.drop 0 [x]) = [x] := rfl
theorem take_succ {xs : List Int} {i : Nat} (h : i < xs.length) : xs.take i ++ [xs.getD i 0] = xs.take (i + 1) := by
  rw [List.take_succ_eq_append_getElem h]
  congr 2
  simp [List.getD, List.getElem?_eq_getElem h]
theorem lo14 (d : Bool) : ∀ c ∈ loopsF Tryz.f14, LoopOk Tryz.prog Tryz.f14.ntmps (L14 d) c := by
  rw [show loopsF Tryz.f14 = [loopC Tryz.f14 0] by kernel_rfl]
  intro c hd
  rw [List.mem_singleton] at hd
  subst hd
  refine loop_okF (k := 3) (f := F14 d) (α := A14) (by kernel_rfl) (by kernel_rfl) J14 (fin14 d) (V14 d) (fun x => (x.1.2.2.2.1.take x.1.2.2.2.2.toNat).length - x.2) (.exit 0) (by simp) ?_ ?_
  · intro st e s obs h hob
    obtain ⟨x, hx, h1, h2, h3⟩ := sub14 h hob
    exact ⟨(x, 0), ⟨hx.1, hx.2, Nat.zero_le _⟩, h1, h2, h3⟩
  rintro ⟨⟨ty, ty3, s, xs, n⟩, i⟩ ⟨hl, hd, hi⟩
  have hl : (xs.take n.toNat).length < 1099511627776 := hl
  have hi : i ≤ (xs.take n.toNat).length := hi
  have hd : bif d then xs.take n.toNat = [] else xs.take n.toNat ≠ [] := hd
  have hlen : (xs.take n.toNat).length = min n.toNat xs.length := List.length_take
  have hno : ∀ d ∈ loopsOf (loopC Tryz.f14 0), LoopOk Tryz.prog Tryz.f14.ntmps L0 d := by rw [show loopsOf (loopC Tryz.f14 0) = [] by kernel_rfl]; intro d hd; cases hd
  by_cases hlt : i < (xs.take n.toNat).length
  · cases i with
    | zero =>
      refine (codeV_sound hmix E18ok.hS hno (loop14a ty ty3 s xs n) ?_).mono ?_
      · simp only [AllP, take_one, List.length_singleton]
        and_intros <;> first | exact trivial | omega | exact decide_eq_true (by omega)
      · rintro e s' ⟨rfl, hs⟩
        refine .inl ⟨rfl, ((ty, ty3, s, xs, n), 1), ⟨hl, hd, hlt⟩, by show (xs.take n.toNat).length - 1 < (xs.take n.toNat).length - 0; omega, ?_, rfl⟩
        have et := take_succ (xs := xs) (i := 0) (by omega)
        simp only [List.take_zero, List.nil_append] at et
        have e1 : (xs.take 1).length = 1 := by rw [List.length_take]; omega
        show SubS s' (I14 ty ty3 s xs n (xs.take 1))
        unfold I14
        rw [e1, ← et]
        exact hs
    | succ i =>
      have e1 : (xs.take (i + 1)).length = i + 1 := by rw [List.length_take]; omega
      have et := take_succ (xs := xs) (i := i + 1) (by omega)
      have w1 : IntKind.wrap IntKind.i64 (((i + 1 : Nat) : Int) + 1) = ((i + 1 + 1 : Nat) : Int) := by rw [wi64 _ (by omega) (by omega)]; omega
      refine (codeV_sound hmix E18ok.hS hno (loop14d ty ty3 s xs n (xs.take (i + 1))) ?_).mono ?_
      · simp only [AllP, take_one, List.length_singleton, e1, tnc]
        and_intros <;> first | exact trivial | omega | exact decide_eq_true (by omega)
      · rintro e s' ⟨rfl, hs⟩
        refine .inl ⟨rfl, ((ty, ty3, s, xs, n), i + 1 + 1), ⟨hl, hd, hlt⟩, by show (xs.take n.toNat).length - (i + 1 + 1) < (xs.take n.toNat).length - (i + 1); omega, ?_, rfl⟩
        have e2 : (xs.take (i + 1 + 1)).length = i + 1 + 1 := by rw [List.length_take]; omega
        show SubS s' (I14 ty ty3 s xs n (xs.take (i + 1 + 1)))
        unfold I14
        rw [e2, ← et]
        simp only [take_one, List.length_singleton, e1, tnc, w1] at hs
        exact hs
  · have hie : i = (xs.take n.toNat).length := by omega
    cases i with
    | zero =>
      have hnil : xs.take n.toNat = [] := List.length_eq_zero_iff.1 hie.symm
      have hdt : d = true := by
        cases d with
        | true => rfl
        | false => exact absurd hnil hd
      subst hdt
      by_cases hx : xs.length = 0
      · refine (codeV_sound hmix E18ok.hS hno (loop14b ty ty3 s xs n) ?_).mono ?_
        · simp only [AllP]
          and_intros <;> first | exact trivial | omega | exact decide_eq_false (by omega)
        · rintro e s' ⟨rfl, hs⟩
          exact .inr ⟨rfl, hs⟩
      · refine (codeV_sound hmix E18ok.hS hno (loop14c ty ty3 s xs n) ?_).mono ?_
        · simp only [AllP]
          and_intros <;> first | exact trivial | omega | exact decide_eq_true (by omega) | exact decide_eq_false (by omega)
        · rintro e s' ⟨rfl, hs⟩
          exact .inr ⟨rfl, hs⟩
    | succ i =>
      have hdt : d = false := by
        cases d with
        | false => rfl
        | true =>
          have hd : xs.take n.toNat = [] := hd
          rw [hd] at hie; cases hie
      subst hdt
      have e0 : xs.take (i + 1) = xs.take n.toNat := by rw [hie, hlen, List.take_eq_take_iff]; omega
      by_cases hx : (xs.take n.toNat).length < xs.length
      · refine (codeV_sound hmix E18ok.hS hno (loop14f ty ty3 s xs n (xs.take (i + 1))) ?_).mono ?_
        · rw [e0]
          simp only [AllP]
          and_intros <;> first | exact trivial | omega | exact decide_eq_true (by omega) | exact decide_eq_false (by omega)
        · rintro e s' ⟨rfl, hs⟩
          rw [e0] at hs
          exact .inr ⟨rfl, hs⟩
      · refine (codeV_sound hmix E18ok.hS hno (loop14e ty ty3 s xs n (xs.take (i + 1))) ?_).mono ?_
        · rw [e0]
          simp only [AllP]
          and_intros <;> first | exact trivial | omega | exact decide_eq_true (by omega) | exact decide_eq_false (by omega)
        · rintro e s' ⟨rfl, hs⟩
          rw [e0] at hs
          exact .inr ⟨rfl, hs⟩
/-- The integer of a description. -/
def o_made (s : Bool) (xs : List Int) (n : Nat) : Int := o_toI s (xs.take n)
def spMadeR : Sp
  | [.agg [.v (.bool s), .row .u32 xs], .one (.v (.int .i64 n))] => some (rZ (o_made s xs n.toNat), [Words xs, 0 ≤ n ∧ n ≤ 1000000])
  | _ => none
theorem con14 : Con Tryz.prog 14 spMadeR := by
  refine con_runZ (fn := Tryz.f14) hmix E18ok.hS (by kernel_rfl) (fun _ => by kernel_rfl) ?_
  intro avs r ps hsp hps
  unfold spMadeR at hsp
  split at hsp
  · rename_i s xs n
    simp only [Option.some.injEq, Prod.mk.injEq] at hsp
    obtain ⟨rfl, rfl⟩ := hsp
    obtain ⟨hw, hn, _⟩ := hps
    have hlen : (xs.take n.toNat).length = min n.toNat xs.length := List.length_take
    by_cases h : xs.take n.toNat = []
    · refine ⟨rfl, L14 true, lo14 true, _, _, _, _, run14a s xs n, unZ (by unfold o_made; rw [h]; rfl), ?_⟩
      rw [h] at hlen ⊢
      exact ⟨rfl, rfl, by decide, rfl, by decide, Words.nil, by unfold Ln; decide, trivial⟩
    · refine ⟨rfl, L14 false, lo14 false, _, _, _, _, run14b s xs n, unZ (by rw [List.take_length]; rfl), ?_⟩
      rw [List.take_length]
      exact ⟨rfl, rfl, by omega, h, by omega, hw.take _, by unfold Ln; omega, trivial⟩
  · cases hsp
theorem made_sz (s : Bool) {xs : List Int} (hw : Words xs) (n : Nat) : o_sz n (o_made s xs n) := by
  have h := nv_lt (hw.take n)
  have hl : (xs.take n).length ≤ n := by rw [List.length_take]; omega
  have h2 : nv (xs.take n) < B ^ n := Nat.lt_of_lt_of_le h (Nat.pow_le_pow_right (by decide) hl)
  unfold o_sz o_made o_toI
  split <;> omega
/-- Whether a number divides another one. -/
def o_dvd (g a : Int) : Bool := decide (a = 0 ∨ (g ≠ 0 ∧ a % g = 0))
def spDvd : Sp
  | [.abs [x], .abs [y]] => some (.s (boo (o_dvd x y)), [o_sz big x, o_sz big y])
  | _ => none
theorem len0 (x : Int) : decide ((((enc x.natAbs).length : Nat) : Int) = 0) = decide (x = 0) := by
  have := enc_len_pos x.natAbs
  rw [decide_eq_decide]; omega
theorem booE {a b : Bool} (h : a = b) : AV.s (SV.one (LV.v (Value.bool a))) = AV.s (boo b) := by subst h; rfl
theorem con48 : Con Tryz.prog 48 spDvd := by
  refine con_flatZ (l := E18) (fn := Tryz.f48) hmix E18ok (by kernel_rfl) (by kernel_rfl) (fun _ => by kernel_rfl) ?_
  intro avs r ps hsp hps
  unfold spDvd at hsp
  split at hsp
  · rename_i x y
    simp only [Option.some.injEq, Prod.mk.injEq] at hsp
    obtain ⟨rfl, rfl⟩ := hsp
    obtain ⟨hx, hy, _⟩ := hps
    unfold o_dvd
    by_cases hy0 : y = 0
    · refine ⟨rfl, _, _, _, _, run48va x y, booE (by simp [hy0]), ?_⟩
      simp only [AllP, rt_eq, okz_t, len0]
      and_intros <;> first | exact trivial | assumption | exact decide_eq_true hy0
    · by_cases hx0 : x = 0
      · have hdz : decide (o_dz x = 0) = false := by unfold o_dz; rw [if_pos hx0]; rfl
        refine ⟨rfl, _, _, _, _, run48vc x y, booE (by simp [hy0, hx0]), ?_⟩
        simp only [AllP, rt_eq, okz_t, len0, hdz]
        and_intros <;> first | exact trivial | assumption | exact decide_eq_false hy0 | rfl
      · have hdz : decide (o_dz x = 0) = true := by unfold o_dz; rw [if_neg hx0]; rfl
        refine ⟨rfl, _, _, _, _, run48vb x y, booE (by rw [rt_eq, rt_eq, len0, rem_ne hx0]; simp [hy0, hx0]), ?_⟩
        simp only [AllP, rt_eq, okz_t, len0, hdz]
        and_intros <;> first | exact trivial | assumption | exact decide_eq_false hy0 | rfl
  · cases hsp
def E19 : List (Nat × Ctr) := (14, .fn spMadeR) :: (48, .fn (zArgs spDvd)) :: E18
theorem E19ok : EnvOk Tryz.prog E19 := .cons con14 (.cons (con_z con48) E18ok)

end Go.Proofs.YtkfdnpbpebmhaaaGreatDoor.Spec
namespace Go.Proofs.YtkfdnpbpebmhaaaGreatDoor.Num

def dg10 (n : Nat) : UInt8 := UInt8.ofNat (48 + n % 10)
def decF : Nat → Nat → List UInt8
  | 0, _ => []
  | f + 1, n => if n = 0 then [] else decF f (n / 10) ++ [dg10 n]
/-- The decimal digits, none for 0. -/
def dec (n : Nat) : List UInt8 := decF n n
theorem decF_eq : ∀ (f g n : Nat), n ≤ f → n ≤ g → decF f n = decF g n
  | 0, g, n, h, _ => by have : n = 0 := by omega
                        subst this; cases g <;> simp [decF]
  | f + 1, 0, n, _, h => by have : n = 0 := by omega
                            subst this; simp [decF]
  | f + 1, g + 1, n, h1, h2 => by
    unfold decF
    by_cases hn : n = 0
    · rw [if_pos hn, if_pos hn]
    · rw [if_neg hn, if_neg hn, decF_eq f g (n / 10) (by omega) (by omega)]
theorem dec_zero : dec 0 = [] := rfl
theorem dec_step {n : Nat} (h : 0 < n) : dec n = dec (n / 10) ++ [dg10 n] := by
  obtain ⟨m, rfl⟩ : ∃ m, n = m + 1 := ⟨n - 1, by omega⟩
  unfold dec
  rw [decF, if_neg (by omega), decF_eq m _ ((m + 1) / 10) (by omega) (Nat.le_refl _)]
theorem dg10_toNat (n : Nat) : (dg10 n).toNat = 48 + n % 10 := by
  unfold dg10
  rw [UInt8.toNat_ofNat']
  omega
/-- The last k digits. -/
def pad : Nat → Nat → List UInt8
  | 0, _ => []
  | k + 1, n => pad k (n / 10) ++ [dg10 n]
theorem pad_length : ∀ k n, (pad k n).length = k
  | 0, _ => rfl
  | k + 1, n => by simp [pad, pad_length k]
theorem pad_add (j : Nat) : ∀ k n, pad (j + k) n = pad j (n / 10 ^ k) ++ pad k n
  | 0, n => by simp [pad]
  | k + 1, n => by
    show pad (j + k) (n / 10) ++ [dg10 n] = _
    rw [pad_add j k (n / 10), Nat.div_div_eq_div_mul, Nat.pow_succ, Nat.mul_comm 10, pad, List.append_assoc]
theorem dg10_mod (n k : Nat) : dg10 (n % 10 ^ (k + 1)) = dg10 n := by
  unfold dg10
  rw [Nat.mod_mod_of_dvd n (show 10 ∣ 10 ^ (k + 1) from ⟨10 ^ k, by rw [Nat.pow_succ, Nat.mul_comm]⟩)]
theorem pad_mod : ∀ k n, pad k (n % 10 ^ k) = pad k n
  | 0, _ => rfl
  | k + 1, n => by
    unfold pad
    rw [dg10_mod]
    congr 1
    have : n % 10 ^ (k + 1) / 10 = n / 10 % 10 ^ k := by
      rw [Nat.pow_succ, Nat.mul_comm, Nat.mod_mul_right_div_self]
    rw [this, pad_mod k]
theorem beq48 (n : Nat) : (dg10 n == 48) = decide (n % 10 = 0) := by
  rw [Bool.eq_iff_iff, beq_iff_eq, decide_eq_true_iff, ← UInt8.toNat_inj, dg10_toNat]
  show 48 + n % 10 = 48 ↔ _
  omega
theorem dec_ne {n : Nat} (h : 0 < n) : dec n ≠ [] := by rw [dec_step h]; simp
theorem drop_pad : ∀ k n, n < 10 ^ k → (pad k n).dropWhile (· == 48) = dec n
  | 0, n, h => by have : n = 0 := by simpa using h
                  subst this; rfl
  | k + 1, n, h => by
    have ih := drop_pad k (n / 10) (by rw [Nat.pow_succ] at h; omega)
    rw [pad, List.dropWhile_append, ih]
    by_cases h0 : n / 10 = 0
    · rw [h0, dec_zero, List.isEmpty_nil, if_pos rfl]
      by_cases hn : n = 0
      · subst hn; rfl
      · rw [dec_step (by omega), h0, dec_zero, List.nil_append, List.dropWhile_cons, beq48, if_neg]
        simp; omega
    · have hne := dec_ne (show 0 < n / 10 by omega)
      rw [dec_step (show 0 < n by omega), if_neg]
      simpa using hne
/-- The text of an integer. -/
def text (z : Int) : List UInt8 := if z = 0 then [48] else (if z < 0 then [45] else []) ++ dec z.natAbs
def val10 (l : List UInt8) : Nat := l.foldl (fun a c => a * 10 + (c.toNat - 48)) 0
theorem val10_app (l : List UInt8) (c : UInt8) : val10 (l ++ [c]) = val10 l * 10 + (c.toNat - 48) := by simp [val10]
theorem val10_dec (n : Nat) : val10 (dec n) = n := by
  induction n using Nat.strongRecOn with
  | ind n ih =>
    rcases Nat.eq_zero_or_pos n with h | h
    · subst h; rfl
    · rw [dec_step h, val10_app, ih (n / 10) (by omega), dg10_toNat]; omega
def isDig (c : UInt8) : Bool := decide (48 ≤ c.toNat) && decide (c.toNat ≤ 57)
theorem isDig_iff {c : UInt8} : isDig c = true ↔ 48 ≤ c.toNat ∧ c.toNat ≤ 57 := by simp [isDig]
theorem dec_dig (n : Nat) : ∀ c ∈ dec n, isDig c = true := by
  induction n using Nat.strongRecOn with
  | ind n ih =>
    rcases Nat.eq_zero_or_pos n with h | h
    · subst h; intro c hc; cases hc
    · rw [dec_step h]
      intro c hc
      rcases List.mem_append.1 hc with hc | hc
      · exact ih _ (by omega) c hc
      · rw [List.mem_singleton] at hc; subst hc; rw [isDig_iff, dg10_toNat]; omega
theorem head_app {l r : List UInt8} (h : l ≠ []) : (l ++ r).head? = l.head? := by
  cases l with
  | nil => exact absurd rfl h
  | cons x l => rfl
theorem dec_head (n : Nat) : (dec n).head? ≠ some 48 := by
  induction n using Nat.strongRecOn with
  | ind n ih =>
    rcases Nat.eq_zero_or_pos n with h | h
    · subst h; simp [dec_zero]
    · rw [dec_step h]
      by_cases h0 : n / 10 = 0
      · rw [h0, dec_zero]
        intro hc
        simp only [List.nil_append, List.head?_cons, Option.some.injEq] at hc
        have := beq48 n
        rw [hc] at this
        simp at this
        omega
      · have := ih (n / 10) (by omega)
        have hne := dec_ne (show 0 < n / 10 by omega)
        rw [head_app hne]
        exact this
theorem dec_val : ∀ (k : Nat) (l : List UInt8), l.length = k → (∀ c ∈ l, isDig c = true) → l.head? ≠ some 48 → dec (val10 l) = l
  | 0, l, hk, _, _ => by rw [List.length_eq_zero_iff] at hk; subst hk; rfl
  | k + 1, l, hk, hd, hh => by
    obtain ⟨l', c, rfl⟩ : ∃ l' c, l = l' ++ [c] := ⟨l.dropLast, l.getLast (by intro h; subst h; cases hk), (List.dropLast_concat_getLast _).symm⟩
    have hc := isDig_iff.1 (hd c (by simp))
    have hl : l'.length = k := by simpa using hk
    rw [val10_app]
    have e1 : (val10 l' * 10 + (c.toNat - 48)) / 10 = val10 l' := by omega
    have e2 : dg10 (val10 l' * 10 + (c.toNat - 48)) = c := by rw [← UInt8.toNat_inj, dg10_toNat]; omega
    by_cases hn : l' = []
    · subst hn
      have h48 : c.toNat ≠ 48 := by
        intro h; apply hh
        simp only [List.nil_append, List.head?_cons, Option.some.injEq]
        rw [← UInt8.toNat_inj, h]; rfl
      rw [dec_step (by omega), e1, e2]; rfl
    · have ih := dec_val k l' hl (fun c hc => hd c (by simp [hc])) (by rwa [head_app hn] at hh)
      have hp : 0 < val10 l' := by
        rcases Nat.eq_zero_or_pos (val10 l') with h | h
        · rw [h, dec_zero] at ih; exact absurd ih.symm hn
        · exact h
      rw [dec_step (by omega), e1, e2, ih]
/-- What a text would be worth. -/
def pval (l : List UInt8) : Int := match l with
  | 45 :: t => -(val10 t : Int)
  | _ => val10 l
theorem pval_minus (t : List UInt8) : pval (45 :: t) = -(val10 t : Int) := rfl
theorem pval_other {l : List UInt8} (h : l.head? ≠ some 45) : pval l = val10 l := by
  unfold pval
  split
  · exact absurd rfl h
  · rfl
theorem dec_head45 (n : Nat) : (dec n).head? ≠ some 45 := by
  intro h
  cases hd : dec n with
  | nil => rw [hd] at h; cases h
  | cons c t =>
    rw [hd] at h
    have := dec_dig n c (by rw [hd]; simp)
    simp only [List.head?_cons, Option.some.injEq] at h
    subst h
    revert this; decide
theorem pval_text (z : Int) : pval (text z) = z := by
  unfold text
  by_cases h0 : z = 0
  · subst h0; rfl
  · rw [if_neg h0]
    by_cases h : z < 0
    · rw [if_pos h, List.singleton_append, pval_minus, val10_dec]; omega
    · rw [if_neg h, List.nil_append, pval_other (dec_head45 _), val10_dec]; omega
theorem text_inj {x y : Int} (h : text x = text y) : x = y := by rw [← pval_text x, h, pval_text]
/-- Which lists are texts. -/
theorem text_of {l : List UInt8} (hd : ∀ c ∈ l, isDig c = true) (hne : l ≠ []) (hh : l.head? ≠ some 48 ∨ l = [48]) : text (val10 l) = l := by
  rcases hh with hh | rfl
  · have e := dec_val _ l rfl hd hh
    have hp : val10 l ≠ 0 := by intro h; rw [h, dec_zero] at e; exact hne e.symm
    unfold text
    rw [if_neg (by omega), if_neg (by omega), Int.natAbs_natCast, e]; rfl
  · rfl
theorem text_of_neg {l : List UInt8} (hd : ∀ c ∈ l, isDig c = true) (hne : l ≠ []) (hh : l.head? ≠ some 48) : text (-(val10 l : Int)) = 45 :: l := by
  have e := dec_val _ l rfl hd hh
  have hp : val10 l ≠ 0 := by intro h; rw [h, dec_zero] at e; exact hne e.symm
  unfold text
  rw [if_neg (by omega), if_pos (by omega), Int.natAbs_neg, Int.natAbs_natCast, e]; rfl
theorem text_nonneg {z : Int} (h : 0 ≤ z) : (∀ c ∈ text z, isDig c = true) ∧ text z ≠ [] ∧ ((text z).head? ≠ some 48 ∨ text z = [48]) := by
  unfold text
  by_cases h0 : z = 0
  · rw [if_pos h0]; refine ⟨?_, by simp, .inr rfl⟩
    intro c hc; rw [List.mem_singleton] at hc; subst hc; decide
  · rw [if_neg h0, if_neg (by omega), List.nil_append]
    exact ⟨dec_dig _, dec_ne (by omega), .inl (dec_head _)⟩
theorem text_neg {z : Int} (h : z < 0) : ∃ l, text z = 45 :: l ∧ l = dec z.natAbs ∧ l ≠ [] := by
  refine ⟨_, ?_, rfl, dec_ne (by omega)⟩
  unfold text
  rw [if_neg (by omega), if_pos h]; rfl

end Go.Proofs.YtkfdnpbpebmhaaaGreatDoor.Num
