/- Contracts: integers: adding, multiplying, dividing, signs, bits; Contracts: division with rest; Runs: more of integers; Contracts: comparing, subtracting, quotients, rests, small numbers, validity; Integers: bits, equality, powers, greatest common divisors: the invariants of the loops; Runs: bits, equality, powers, greatest common divisors; Contracts: bits, equality, greatest common divisors; Contracts: powers, small numbers; A loop's start: nil slices in cells count as rows without words; Roots: the numbers; The extended greatest common divisor: the invariants. -/
import Derived.Test.YtkfdnpbpebmhaaaGreatDoorProg
import Derived.Test.YtkfdnpbpebmhaaaGreatDoorZ0
import Derived.Test.YtkfdnpbpebmhaaaGreatDoorZ1
import Derived.Test.YtkfdnpbpebmhaaaGreatDoorZ2
import Derived.Test.YtkfdnpbpebmhaaaGreatDoorZ3
import Derived.Test.YtkfdnpbpebmhaaaGreatDoorZ4
namespace Go.Proofs.YtkfdnpbpebmhaaaGreatDoor.Spec
open Go Go.RowKit Sx Num

theorem toI_n (s : Bool) (n : Nat) : o_toI s (enc n) = if s = true then -(n : Int) else n := by unfold o_toI; rw [nv_enc]
theorem words_e (n : Nat) : Words (enc n) ↔ True := ⟨fun _ => trivial, fun _ => words_enc n⟩
theorem canon_e (n : Nat) : Canon (enc n) ↔ True := ⟨fun _ => trivial, fun _ => canon_enc n⟩
theorem enc_len_le {n k : Nat} (h : n < B ^ k) : (enc n).length ≤ k := (enc_len n k).2 h
theorem sz_big {z : Int} (h : o_sz big z) : (enc z.natAbs).length ≤ 100000000 := sz_len h
theorem le_big {a b : Nat} (h : a ≤ b) (k : b ≤ 300000000) : a ≤ 300000000 := Nat.le_trans h k
theorem decb (a b : Prop) [Decidable a] [Decidable b] : decide (decide a = decide b) = decide (a ↔ b) := by
  by_cases ha : a <;> by_cases hb : b <;> simp [ha, hb]
def spZ1 (f : Int → Int) : Sp
  | [.abs [x]] => some (rZ (f x), [o_sz big x])
  | _ => none
def spZ2 (f : Int → Int → Int) : Sp
  | [.abs [x], .abs [y]] => some (rZ (f x y), [o_sz big x, o_sz big y])
  | _ => none
def spZn (f : Int → Int) : Sp
  | [.abs [x]] => some (.s (num (f x)), [o_sz big x])
  | _ => none

theorem add_len {n : Nat} {x y : Int} (h : o_sz n x) (k : o_sz n y) : (enc (x.natAbs + y.natAbs)).length ≤ n + 1 := by
  apply enc_len_le
  unfold o_sz at h k
  rw [Nat.pow_succ]
  have : B ^ n * 2 ≤ B ^ n * B := Nat.mul_le_mul_left _ (by decide)
  generalize B ^ n = t at *
  generalize t * B = u at *
  omega
theorem sub_len {n : Nat} {x : Int} (h : o_sz n x) (m : Nat) : (enc (x.natAbs - m)).length ≤ n := by
  apply enc_len_le
  unfold o_sz at h
  generalize B ^ n = t at *
  omega
theorem conAdd {f : FuncId} {fn : Func} (hl : loopsF fn = []) (hf : Tryz.prog.funcs[f]? = some fn) (hent : ∀ args : Array Value, pureRun Tryz.prog (callFunc f args) = some (.enter f args)) (hn : Nat.ble 2 fn.ntmps = true)
    (ra : ∀ x y : Int, ∃ G, fnEx Tryz.prog (lk E12) L0 G 60 fn [.abs [x], .abs [y]] = some (AV.s (.agg [.v (.bool (decide (o_toI (decide (x < 0)) (enc (nv (enc x.natAbs) + nv (enc y.natAbs))) < 0))), .row .u32 (enc (o_toI (decide (x < 0)) (enc (nv (enc x.natAbs) + nv (enc y.natAbs)))).natAbs)]),
      [decide (decide (x < 0) = decide (y < 0)) = true, Words (enc x.natAbs), Words (enc y.natAbs), (enc x.natAbs).length < 137438953472, (enc y.natAbs).length < 137438953472, Words (enc (nv (enc x.natAbs) + nv (enc y.natAbs))), Ln (enc (nv (enc x.natAbs) + nv (enc y.natAbs)))]))
    (rb : ∀ x y : Int, ∃ G, fnEx Tryz.prog (lk E12) L0 G 60 fn [.abs [x], .abs [y]] = some (AV.s (.agg [.v (.bool (decide (o_toI (decide (y < 0)) (enc (nv (enc y.natAbs) - nv (enc x.natAbs))) < 0))), .row .u32 (enc (o_toI (decide (y < 0)) (enc (nv (enc y.natAbs) - nv (enc x.natAbs)))).natAbs)]),
      [decide (decide (x < 0) = decide (y < 0)) = false, Canon (enc x.natAbs), Canon (enc y.natAbs), Ln (enc x.natAbs), Ln (enc y.natAbs), decide (o_cmp (nv (enc x.natAbs)) (nv (enc y.natAbs)) < 0) = true, Words (enc y.natAbs), Words (enc x.natAbs), Ln (enc y.natAbs), nv (enc x.natAbs) ≤ nv (enc y.natAbs), Words (enc (nv (enc y.natAbs) - nv (enc x.natAbs))), Ln (enc (nv (enc y.natAbs) - nv (enc x.natAbs)))]))
    (rc : ∀ x y : Int, ∃ G, fnEx Tryz.prog (lk E12) L0 G 60 fn [.abs [x], .abs [y]] = some (AV.s (.agg [.v (.bool (decide (o_toI (decide (x < 0)) (enc (nv (enc x.natAbs) - nv (enc y.natAbs))) < 0))), .row .u32 (enc (o_toI (decide (x < 0)) (enc (nv (enc x.natAbs) - nv (enc y.natAbs)))).natAbs)]),
      [decide (decide (x < 0) = decide (y < 0)) = false, Canon (enc x.natAbs), Canon (enc y.natAbs), Ln (enc x.natAbs), Ln (enc y.natAbs), decide (o_cmp (nv (enc x.natAbs)) (nv (enc y.natAbs)) < 0) = false, Words (enc x.natAbs), Words (enc y.natAbs), Ln (enc x.natAbs), nv (enc y.natAbs) ≤ nv (enc x.natAbs), Words (enc (nv (enc x.natAbs) - nv (enc y.natAbs))), Ln (enc (nv (enc x.natAbs) - nv (enc y.natAbs)))])) :
    Con Tryz.prog f (spZ2 (· + ·)) := by
  refine con_flatZ (l := E12) (fn := fn) hmix E12ok hl hf hent ?_
  intro avs r ps hsp hps
  unfold spZ2 at hsp
  split at hsp
  · rename_i x y
    simp only [Option.some.injEq, Prod.mk.injEq] at hsp
    obtain ⟨rfl, rfl⟩ := hsp
    obtain ⟨hx, hy, _⟩ := hps
    have lx := sz_big hx
    have ly := sz_big hy
    have la := le_big (add_len hx hy) (by decide)
    have l1 := le_big (sub_len hx y.natAbs) (by decide)
    have l2 := le_big (sub_len hy x.natAbs) (by decide)
    refine ⟨by simp [rZ, AV.okB, SV.okB, hn], ?_⟩
    by_cases hs : (x < 0 ↔ y < 0)
    · obtain ⟨G, h⟩ := ra x y
      refine ⟨G, 60, _, _, h, unZ ?_, ?_⟩
      · rw [toI_n, nv_enc, nv_enc]
        by_cases h0 : x < 0
        · simp only [h0, decide_true, if_true]; omega
        · simp only [h0, decide_false, Bool.false_eq_true, if_false]; omega
      · simp only [AllP, nv_enc, decb, words_e, decide_eq_true hs]
        unfold Ln
        and_intros <;> first | exact trivial | omega
    · by_cases hc : x.natAbs < y.natAbs
      · obtain ⟨G, h⟩ := rb x y
        refine ⟨G, 60, _, _, h, unZ ?_, ?_⟩
        · rw [toI_n, nv_enc, nv_enc]
          by_cases h0 : y < 0
          · simp only [h0, decide_true, if_true]; omega
          · simp only [h0, decide_false, Bool.false_eq_true, if_false]; omega
        · simp only [AllP, nv_enc, decb, words_e, canon_e, cmp_lt, decide_eq_false hs, decide_eq_true hc]
          unfold Ln
          and_intros <;> first | exact trivial | omega
      · obtain ⟨G, h⟩ := rc x y
        refine ⟨G, 60, _, _, h, unZ ?_, ?_⟩
        · rw [toI_n, nv_enc, nv_enc]
          by_cases h0 : x < 0
          · simp only [h0, decide_true, if_true]; omega
          · simp only [h0, decide_false, Bool.false_eq_true, if_false]; omega
        · simp only [AllP, nv_enc, decb, words_e, canon_e, cmp_lt, decide_eq_false hs, decide_eq_false hc]
          unfold Ln
          and_intros <;> first | exact trivial | omega
  · cases hsp
theorem con17 : Con Tryz.prog 17 (spZ2 (· + ·)) := conAdd (fn := Tryz.f17) (by kernel_rfl) (by kernel_rfl) (fun _ => by kernel_rfl) rfl (fun x y => ⟨_, run17a x y⟩) (fun x y => ⟨_, run17b x y⟩) (fun x y => ⟨_, run17c x y⟩)
theorem con42 : Con Tryz.prog 42 (spZ2 (· + ·)) := conAdd (fn := Tryz.f42) (by kernel_rfl) (by kernel_rfl) (fun _ => by kernel_rfl) rfl (fun x y => ⟨_, run42a x y⟩) (fun x y => ⟨_, run42b x y⟩) (fun x y => ⟨_, run42c x y⟩)

theorem mul_sign (x y : Int) : (if (!decide (decide (x < 0) = decide (y < 0))) = true then -((x.natAbs * y.natAbs : Nat) : Int) else ((x.natAbs * y.natAbs : Nat) : Int)) = x * y := by
  rw [Int.natCast_mul]
  by_cases h0 : x < 0 <;> by_cases h1 : y < 0
  · simp only [h0, h1, decide_true, Bool.not_true, Bool.false_eq_true, if_false]
    rw [show (x.natAbs : Int) = -x by omega, show (y.natAbs : Int) = -y by omega, Int.neg_mul_neg]
  · simp only [h0, h1, decide_true, decide_false, Bool.true_eq_false, Bool.not_false, if_true]
    rw [show (x.natAbs : Int) = -x by omega, show (y.natAbs : Int) = y by omega, Int.neg_mul, Int.neg_neg]
  · simp only [h0, h1, decide_true, decide_false, Bool.false_eq_true, Bool.not_false, if_true]
    rw [show (x.natAbs : Int) = x by omega, show (y.natAbs : Int) = -y by omega, Int.mul_neg, Int.neg_neg]
  · simp only [h0, h1, decide_true, decide_false, Bool.not_true, Bool.false_eq_true, if_false]
    rw [show (x.natAbs : Int) = x by omega, show (y.natAbs : Int) = y by omega]
theorem mul_len {n : Nat} {x y : Int} (h : o_sz n x) (k : o_sz n y) : (enc (x.natAbs * y.natAbs)).length ≤ n + n := by
  apply enc_len_le
  have := sz_mul h k
  unfold o_sz at this
  rwa [Int.natAbs_mul] at this
theorem con18 : Con Tryz.prog 18 (spZ2 (· * ·)) := by
  refine con_flatZ (l := E12) (fn := Tryz.f18) hmix E12ok (by kernel_rfl) (by kernel_rfl) (fun _ => by kernel_rfl) ?_
  intro avs r ps hsp hps
  unfold spZ2 at hsp
  split at hsp
  · rename_i x y
    simp only [Option.some.injEq, Prod.mk.injEq] at hsp
    obtain ⟨rfl, rfl⟩ := hsp
    obtain ⟨hx, hy, _⟩ := hps
    have lx := sz_big hx
    have ly := sz_big hy
    have la := le_big (mul_len hx hy) (by decide)
    refine ⟨rfl, _, _, _, _, run18 x y, unZ ?_, ?_⟩
    · rw [toI_n, nv_enc, nv_enc]; exact mul_sign x y
    · simp only [AllP, nv_enc, words_e]
      unfold Ln
      and_intros <;> first | exact trivial | omega
  · cases hsp
theorem con44 : Con Tryz.prog 44 (spZ2 (· * ·)) := by
  refine con_flatZ (l := E12) (fn := Tryz.f44) hmix E12ok (by kernel_rfl) (by kernel_rfl) (fun _ => by kernel_rfl) ?_
  intro avs r ps hsp hps
  unfold spZ2 at hsp
  split at hsp
  · rename_i x y
    simp only [Option.some.injEq, Prod.mk.injEq] at hsp
    obtain ⟨rfl, rfl⟩ := hsp
    obtain ⟨hx, hy, _⟩ := hps
    have lx := sz_big hx
    have ly := sz_big hy
    have la := le_big (mul_len hx hy) (by decide)
    refine ⟨rfl, _, _, _, _, run44 x y, unZ ?_, ?_⟩
    · rw [toI_n, nv_enc, nv_enc]; exact mul_sign x y
    · simp only [AllP, nv_enc, words_e]
      unfold Ln
      and_intros <;> first | exact trivial | omega
  · cases hsp
theorem neg_sign (x : Int) : o_toI (!decide (x < 0)) (enc x.natAbs) = -x := by
  rw [toI_n]
  by_cases h0 : x < 0 <;> simp [h0] <;> omega
theorem con22 : Con Tryz.prog 22 (spZ1 (- ·)) := by
  refine con_flatZ (l := E12) (fn := Tryz.f22) hmix E12ok (by kernel_rfl) (by kernel_rfl) (fun _ => by kernel_rfl) ?_
  intro avs r ps hsp hps
  unfold spZ1 at hsp
  split at hsp
  · rename_i x
    simp only [Option.some.injEq, Prod.mk.injEq] at hsp
    obtain ⟨rfl, rfl⟩ := hsp
    have lx := sz_big hps.1
    refine ⟨rfl, _, _, _, _, run22 x, unZ (neg_sign x), ?_⟩
    simp only [AllP, words_e]
    unfold Ln
    and_intros <;> first | exact trivial | omega
  · cases hsp
theorem con81 : Con Tryz.prog 81 (spZ1 (- ·)) := by
  refine con_flatZ (l := E12) (fn := Tryz.f81) hmix E12ok (by kernel_rfl) (by kernel_rfl) (fun _ => by kernel_rfl) ?_
  intro avs r ps hsp hps
  unfold spZ1 at hsp
  split at hsp
  · rename_i x
    simp only [Option.some.injEq, Prod.mk.injEq] at hsp
    obtain ⟨rfl, rfl⟩ := hsp
    have lx := sz_big hps.1
    refine ⟨rfl, _, _, _, _, run81 x, unZ (neg_sign x), ?_⟩
    simp only [AllP, words_e]
    unfold Ln
    and_intros <;> first | exact trivial | omega
  · cases hsp
def absZ (x : Int) : Int := (x.natAbs : Int)
theorem con78 : Con Tryz.prog 78 (spZ1 absZ) := by
  refine con_flatZ (l := E12) (fn := Tryz.f78) hmix E12ok (by kernel_rfl) (by kernel_rfl) (fun _ => by kernel_rfl) ?_
  intro avs r ps hsp hps
  unfold spZ1 at hsp
  split at hsp
  · rename_i x
    simp only [Option.some.injEq, Prod.mk.injEq] at hsp
    obtain ⟨rfl, rfl⟩ := hsp
    have lx := sz_big hps.1
    refine ⟨rfl, _, _, _, _, run78 x, unZ (by rw [toI_n]; rfl), ?_⟩
    simp only [AllP, words_e]
    unfold Ln
    and_intros <;> first | exact trivial | omega
  · cases hsp
theorem sign_len (x : Int) (h : ¬ x < 0) : (if (1 : Int) < ((enc x.natAbs).length : Int) then (1 : Int) else ((enc x.natAbs).length : Int)) = sgnI x := by
  have h1 := enc_len_pos x.natAbs
  unfold sgnI
  rw [if_neg h]
  by_cases h0 : x = 0
  · have : ¬ 0 < (enc x.natAbs).length := by rw [h1]; omega
    rw [if_pos h0]
    split <;> omega
  · have : 0 < (enc x.natAbs).length := by rw [h1]; omega
    rw [if_neg h0]
    split <;> omega
theorem con24 : Con Tryz.prog 24 (spZn sgnI) := by
  refine con_flatZ (l := E12) (fn := Tryz.f24) hmix E12ok (by kernel_rfl) (by kernel_rfl) (fun _ => by kernel_rfl) ?_
  intro avs r ps hsp hps
  unfold spZn at hsp
  split at hsp
  · rename_i x
    simp only [Option.some.injEq, Prod.mk.injEq] at hsp
    obtain ⟨rfl, rfl⟩ := hsp
    refine ⟨rfl, ?_⟩
    by_cases h : x < 0
    · refine ⟨_, _, _, _, run24a x, by rw [sgnI, if_pos h]; rfl, by simp [AllP, h]⟩
    · refine ⟨_, _, _, _, run24b x, by rw [sign_len x h]; rfl, by simp [AllP, h]⟩
  · cases hsp
theorem con49 : Con Tryz.prog 49 (spZn sgnI) := by
  refine con_flatZ (l := E12) (fn := Tryz.f49) hmix E12ok (by kernel_rfl) (by kernel_rfl) (fun _ => by kernel_rfl) ?_
  intro avs r ps hsp hps
  unfold spZn at hsp
  split at hsp
  · rename_i x
    simp only [Option.some.injEq, Prod.mk.injEq] at hsp
    obtain ⟨rfl, rfl⟩ := hsp
    refine ⟨rfl, ?_⟩
    by_cases h : x < 0
    · refine ⟨_, _, _, _, run49a x, by rw [sgnI, if_pos h]; rfl, by simp [AllP, h]⟩
    · refine ⟨_, _, _, _, run49b x, by rw [sign_len x h]; rfl, by simp [AllP, h]⟩
  · cases hsp
def spOf : Sp
  | [.one (.v (.int .i64 n))] => some (rZ n, [-9223372036854775808 ≤ n ∧ n < 9223372036854775808])
  | _ => none
theorem len64 {n : Nat} (h : n < 18446744073709551616) : (enc n).length ≤ 2 := enc_len_le (by unfold B; exact h)
theorem con31 : Con Tryz.prog 31 spOf := by
  refine con_flatZ (l := E12) (fn := Tryz.f31) hmix E12ok (by kernel_rfl) (by kernel_rfl) (fun _ => by kernel_rfl) ?_
  intro avs r ps hsp hps
  unfold spOf at hsp
  split at hsp
  · rename_i n
    simp only [Option.some.injEq, Prod.mk.injEq] at hsp
    obtain ⟨rfl, rfl⟩ := hsp
    obtain ⟨⟨h1, h2⟩, _⟩ := hps
    refine ⟨rfl, ?_⟩
    by_cases h : n < 0
    · have e : IntKind.wrap IntKind.u64 (0 - IntKind.wrap IntKind.u64 n) = ((n.natAbs : Nat) : Int) := by simp only [w64]; omega
      have hl := len64 (n := n.natAbs) (by omega)
      refine ⟨_, _, _, _, run31a n, ?_, ?_⟩
      · rw [e, tnc]; exact unZ (by rw [toI_n, if_pos rfl]; omega)
      · simp only [AllP, e, tnc, words_e, decide_eq_true h]
        unfold Ln
        and_intros <;> first | exact trivial | omega
    · have e : IntKind.wrap IntKind.u64 n = ((n.natAbs : Nat) : Int) := by simp only [w64]; omega
      have hl := len64 (n := n.natAbs) (by omega)
      refine ⟨_, _, _, _, run31b n, ?_, ?_⟩
      · rw [e, tnc]; exact unZ (by rw [toI_n, if_neg (by simp)]; omega)
      · simp only [AllP, e, tnc, words_e, decide_eq_false h]
        unfold Ln
        and_intros <;> first | exact trivial | omega
  · cases hsp
theorem con58 : Con Tryz.prog 58 spOf := by
  refine con_flatZ (l := E12) (fn := Tryz.f58) hmix E12ok (by kernel_rfl) (by kernel_rfl) (fun _ => by kernel_rfl) ?_
  intro avs r ps hsp hps
  unfold spOf at hsp
  split at hsp
  · rename_i n
    simp only [Option.some.injEq, Prod.mk.injEq] at hsp
    obtain ⟨rfl, rfl⟩ := hsp
    obtain ⟨⟨h1, h2⟩, _⟩ := hps
    refine ⟨rfl, ?_⟩
    by_cases h : n < 0
    · have e1 : IntKind.wrap IntKind.i64 (n + 1) = n + 1 := wi64 _ (by omega) (by omega)
      have e2 : IntKind.wrap IntKind.i64 (0 - (n + 1)) = 0 - (n + 1) := wi64 _ (by omega) (by omega)
      have e : IntKind.wrap IntKind.u64 (IntKind.wrap IntKind.u64 (IntKind.wrap IntKind.i64 (0 - IntKind.wrap IntKind.i64 (n + 1))) + 1) = ((n.natAbs : Nat) : Int) := by rw [e1, e2]; simp only [w64]; omega
      have hl := len64 (n := n.natAbs) (by omega)
      refine ⟨_, _, _, _, run58a n, ?_, ?_⟩
      · rw [e, tnc]; exact unZ (by rw [toI_n, if_pos rfl]; omega)
      · simp only [AllP, e, tnc, words_e, decide_eq_true h]
        unfold Ln
        and_intros <;> first | exact trivial | omega
    · have e : IntKind.wrap IntKind.u64 n = ((n.natAbs : Nat) : Int) := by simp only [w64]; omega
      have hl := len64 (n := n.natAbs) (by omega)
      refine ⟨_, _, _, _, run58b n, ?_, ?_⟩
      · rw [e, tnc]; exact unZ (by rw [toI_n, if_neg (by simp)]; omega)
      · simp only [AllP, e, tnc, words_e, decide_eq_false h]
        unfold Ln
        and_intros <;> first | exact trivial | omega
  · cases hsp

/-- The number of bits of a number. -/
def o_bits (n : Nat) : Nat := 32 * ((enc n).length - 1) + o_bl (dg n ((enc n).length - 1))
theorem con33 : Con Tryz.prog 33 (spZn fun x => (o_bits x.natAbs : Int)) := by
  refine con_flatZ (l := E12) (fn := Tryz.f33) hmix E12ok (by kernel_rfl) (by kernel_rfl) (fun _ => by kernel_rfl) ?_
  intro avs r ps hsp hps
  unfold spZn at hsp
  split at hsp
  · rename_i x
    simp only [Option.some.injEq, Prod.mk.injEq] at hsp
    obtain ⟨rfl, rfl⟩ := hsp
    have lx := sz_big hps.1
    refine ⟨rfl, ?_⟩
    by_cases h : x = 0
    · subst h
      refine ⟨_, _, _, _, run33a 0, rfl, by simp [AllP, enc_zero]⟩
    · have hp : 0 < (enc x.natAbs).length := (enc_len_pos _).2 (by omega)
      have w1 : IntKind.wrap IntKind.i64 (((enc x.natAbs).length : Int) - 1) = (((enc x.natAbs).length - 1 : Nat) : Int) := by rw [wi64 _ (by omega) (by omega)]; omega
      have g1 : (enc x.natAbs).getD ((enc x.natAbs).length - 1) 0 = ((dg x.natAbs ((enc x.natAbs).length - 1) : Nat) : Int) := by
        have := nv_getD (words_enc x.natAbs) ((enc x.natAbs).length - 1)
        rwa [nv_enc] at this
      have hd := dg_lt x.natAbs ((enc x.natAbs).length - 1)
      have hbl := bl_le (Nat.lt_trans hd (by decide)) (k := 32) hd
      refine ⟨_, _, _, _, run33b x, ?_, ?_⟩
      · rw [w1, tnc, g1, tnc]
        unfold o_bits
        generalize o_bl (dg x.natAbs ((enc x.natAbs).length - 1)) = b at *
        rw [wi64 (32 * _) (by omega) (by omega), wi64 _ (by omega) (by omega)]
        show AV.s (num _) = AV.s (num _)
        congr 2
      · simp only [AllP, w1, tnc, g1]
        unfold B at hd
        and_intros <;> first | exact trivial | omega | exact decide_eq_false (by omega)
  · cases hsp

theorem divmod_unique {x y q r : Int} (hy : y ≠ 0) (e : q * y + r = x) (h0 : 0 ≤ r) (h1 : r < y.natAbs) : x / y = q ∧ x % y = r := by
  rcases Int.lt_or_gt_of_ne hy with h | h
  · obtain ⟨b, rfl⟩ : ∃ b, y = -b := ⟨-y, by omega⟩
    have := (Int.ediv_emod_unique (a := x) (b := b) (r := r) (q := -q) (by omega)).2 ⟨by rw [Int.mul_neg, Int.mul_comm b q, ← Int.mul_neg]; omega, h0, by omega⟩
    rw [Int.ediv_neg, Int.emod_neg, this.1, this.2, Int.neg_neg]
    exact ⟨rfl, rfl⟩
  · exact (Int.ediv_emod_unique (a := x) (b := y) (r := r) (q := q) h).2 ⟨by rw [Int.mul_comm y q]; omega, h0, by omega⟩
/-- The rest, 0 where the divisor is 0. -/
def o_rem (x y : Int) : Int := if y = 0 then 0 else x % y
def o_dz (y : Int) : Int := if y = 0 then 10 else 0
/-- Quotient, rest and error. -/
def spDivMod : Sp
  | [.abs [x], .abs [y]] => some (.tup [.abs [x / y], .abs [o_rem x y], num (o_dz y)], [o_sz big x, o_sz big y])
  | _ => none
def spDivM0 : Sp
  | [.abs [x], .abs [y]] => some (.tup [.agg [.v (.bool false), .v (.slice none 0 0)], .agg [.v (.bool false), .v (.slice none 0 0)], num 10], [y = 0, o_sz big x])
  | _ => none
def spDivM1 : Sp
  | [.abs [x], .abs [y]] => some (.tup [.abs [x / y], .abs [x % y], num 0], [y ≠ 0, o_sz big x, o_sz big y])
  | _ => none
theorem divmod_z {f : FuncId} (h0 : Con Tryz.prog f spDivM0) (h1 : Con Tryz.prog f spDivM1) : Con Tryz.prog f spDivMod := by
  refine con_cases (con_absA (con_ans h0)) h1 fun avs r ps hs hp => ?_
  unfold spDivMod at hs
  split at hs
  · rename_i x y
    simp only [Option.some.injEq, Prod.mk.injEq] at hs
    obtain ⟨rfl, rfl⟩ := hs
    obtain ⟨hx, hy, _⟩ := hp
    by_cases h : y = 0
    · left
      rw [o_rem, o_dz, if_pos h, if_pos h, h, Int.ediv_zero]
      exact ⟨_, rfl, rfl, hx, trivial⟩
    · right
      rw [o_rem, o_dz, if_neg h, if_neg h]
      exact ⟨_, rfl, h, hx, hy, trivial⟩
  · cases hs

end Go.Proofs.YtkfdnpbpebmhaaaGreatDoor.Spec
namespace Go.Proofs.YtkfdnpbpebmhaaaGreatDoor.Spec
open Go Go.RowKit Sx Num

/-- The sign and the size of the quotient where the rest is turned. -/
theorem dm_turn {x y : Int} (hy : y ≠ 0) (hx : x < 0) (hr : 0 < x.natAbs % y.natAbs) : (if (!(decide (x < 0) == decide (y < 0))) = true then -((x.natAbs / y.natAbs + 1 : Nat) : Int) else ((x.natAbs / y.natAbs + 1 : Nat) : Int)) = x / y ∧ ((y.natAbs - x.natAbs % y.natAbs : Nat) : Int) = x % y := by
  have e := Nat.div_add_mod x.natAbs y.natAbs
  have hm := Nat.mod_lt x.natAbs (show 0 < y.natAbs by omega)
  rw [Nat.mul_comm] at e
  generalize x.natAbs / y.natAbs = Q at *
  generalize x.natAbs % y.natAbs = R at *
  by_cases h : y < 0
  · simp only [hx, h, decide_true, beq_self_eq_true, Bool.not_true, Bool.false_eq_true, if_false]
    have := divmod_unique (x := x) (y := y) (q := ((Q + 1 : Nat) : Int)) (r := ((y.natAbs - R : Nat) : Int)) hy (by
      have e2 : (Q : Int) * y = -((Q * y.natAbs : Nat) : Int) := by rw [Int.natCast_mul, show (y.natAbs : Int) = -y by omega, Int.mul_neg, Int.neg_neg]
      rw [Int.natCast_add, Int.add_mul, e2]; omega) (by omega) (by omega)
    exact ⟨this.1.symm, this.2.symm⟩
  · simp only [hx, h, decide_true, decide_false]
    have := divmod_unique (x := x) (y := y) (q := -((Q + 1 : Nat) : Int)) (r := ((y.natAbs - R : Nat) : Int)) hy (by
      have e2 : (Q : Int) * y = ((Q * y.natAbs : Nat) : Int) := by rw [Int.natCast_mul, show (y.natAbs : Int) = y by omega]
      rw [Int.natCast_add, Int.neg_mul, Int.add_mul, e2]; omega) (by omega) (by omega)
    exact ⟨this.1.symm, this.2.symm⟩
/-- Where it stays. -/
theorem dm_stay {x y : Int} (hy : y ≠ 0) (hr : ¬ x < 0 ∨ x.natAbs % y.natAbs = 0) : (if (!(decide (x < 0) == decide (y < 0))) = true then -((x.natAbs / y.natAbs : Nat) : Int) else ((x.natAbs / y.natAbs : Nat) : Int)) = x / y ∧ ((x.natAbs % y.natAbs : Nat) : Int) = x % y := by
  have e := Nat.div_add_mod x.natAbs y.natAbs
  have hm := Nat.mod_lt x.natAbs (show 0 < y.natAbs by omega)
  rw [Nat.mul_comm] at e
  generalize x.natAbs / y.natAbs = Q at *
  generalize x.natAbs % y.natAbs = R at *
  have e1 : y < 0 → (Q : Int) * y = -((Q * y.natAbs : Nat) : Int) := fun h => by rw [Int.natCast_mul, show (y.natAbs : Int) = -y by omega, Int.mul_neg, Int.neg_neg]
  have e2 : ¬ y < 0 → (Q : Int) * y = ((Q * y.natAbs : Nat) : Int) := fun h => by rw [Int.natCast_mul, show (y.natAbs : Int) = y by omega]
  by_cases hx : x < 0 <;> by_cases h : y < 0
  · simp only [hx, h, decide_true, beq_self_eq_true, Bool.not_true, Bool.false_eq_true, if_false]
    have := divmod_unique (x := x) (y := y) (q := (Q : Int)) (r := (R : Int)) hy (by rw [e1 h]; omega) (by omega) (by omega)
    exact ⟨this.1.symm, this.2.symm⟩
  · simp only [hx, h, decide_true, decide_false]
    have := divmod_unique (x := x) (y := y) (q := -(Q : Int)) (r := (R : Int)) hy (by rw [Int.neg_mul, e2 h]; omega) (by omega) (by omega)
    exact ⟨this.1.symm, this.2.symm⟩
  · simp only [hx, h, decide_true, decide_false]
    have := divmod_unique (x := x) (y := y) (q := -(Q : Int)) (r := (R : Int)) hy (by rw [Int.neg_mul, e1 h]; omega) (by omega) (by omega)
    exact ⟨this.1.symm, this.2.symm⟩
  · simp only [hx, h, decide_false, beq_self_eq_true, Bool.not_true, Bool.false_eq_true, if_false]
    have := divmod_unique (x := x) (y := y) (q := (Q : Int)) (r := (R : Int)) hy (by rw [e2 h]; omega) (by omega) (by omega)
    exact ⟨this.1.symm, this.2.symm⟩
theorem enc_le_of {n m k : Nat} (h : (enc m).length ≤ k) (hn : n ≤ m) : (enc n).length ≤ k := (enc_len n k).2 (Nat.lt_of_le_of_lt hn ((enc_len m k).1 h))
theorem enc_succ_le {n m k : Nat} (h : (enc m).length ≤ k) (hn : n ≤ m) : (enc (n + 1)).length ≤ k + 1 := by
  apply enc_len_le
  have h1 := (enc_len m k).1 h
  rw [Nat.pow_succ]
  have : B ^ k * 2 ≤ B ^ k * B := Nat.mul_le_mul_left _ (by decide)
  have := Nat.pow_pos (n := k) (show 0 < B by decide)
  generalize B ^ k = t at *
  generalize t * B = u at *
  omega
theorem nv_1 : nv (List.take 1 (List.drop 0 [(1 : Int)])) = 1 := rfl
theorem w_1 : Words (List.take 1 (List.drop 0 [(1 : Int)])) ↔ True := ⟨fun _ => trivial, fun _ => by intro x hx; simp at hx; subst hx; decide⟩
theorem l_1 : (List.take 1 (List.drop 0 [(1 : Int)])).length = 1 := rfl
theorem tn1 : Int.toNat 1 = 1 := rfl
/-- Quotients and rests as numbers. -/
theorem tupZ {q q' r r' : Int} (h : q = q') (k : r = r') : AV.tup [.agg [.v (.bool (decide (q < 0))), .row .u32 (enc q.natAbs)], .agg [.v (.bool (decide (r < 0))), .row .u32 (enc r.natAbs)], .one (.v (.int .i64 0))] = unAA (.tup [.abs [q'], .abs [r'], num 0]) := by subst h k; rfl

theorem con25a : Con Tryz.prog 25 spDivM0 := by
  refine con_flat hmix E12ok (by kernel_rfl) (fn := Tryz.f25) (by kernel_rfl) (fun _ => by kernel_rfl) ?_
  intro avs r ps hsp hps
  unfold spDivM0 at hsp
  split at hsp
  · rename_i x y
    simp only [Option.some.injEq, Prod.mk.injEq] at hsp
    obtain ⟨rfl, rfl⟩ := hsp
    obtain ⟨rfl, _⟩ := hps
    exact ⟨rfl, _, _, _, _, run25a x 0, rfl, by simp [AllP, enc_zero]⟩
  · cases hsp
theorem con25b : Con Tryz.prog 25 spDivM1 := by
  refine con_flatZ (l := E12) (fn := Tryz.f25) hmix E12ok (by kernel_rfl) (by kernel_rfl) (fun _ => by kernel_rfl) ?_
  intro avs r ps hsp hps
  unfold spDivM1 at hsp
  split at hsp
  · rename_i x y
    simp only [Option.some.injEq, Prod.mk.injEq] at hsp
    obtain ⟨rfl, rfl⟩ := hsp
    obtain ⟨hy, hx, hk, _⟩ := hps
    have lx := sz_big hx
    have ly := sz_big hk
    have py : 0 < (enc y.natAbs).length := (enc_len_pos _).2 (by omega)
    have hm := Nat.mod_lt x.natAbs (show 0 < y.natAbs by omega)
    have lq := enc_le_of lx (Nat.div_le_self x.natAbs y.natAbs)
    have lq1 := enc_succ_le lx (Nat.div_le_self x.natAbs y.natAbs)
    have lr := enc_le_of lx (Nat.mod_le x.natAbs y.natAbs)
    have ls := enc_le_of ly (Nat.sub_le y.natAbs (x.natAbs % y.natAbs))
    have l1 := enc_len_le (n := 1) (k := 1) (by decide)
    have pr := enc_len_pos (x.natAbs % y.natAbs)
    refine ⟨rfl, ?_⟩
    by_cases h0 : x < 0
    · by_cases hr : 0 < x.natAbs % y.natAbs
      · have hd := dm_turn hy h0 hr
        refine ⟨_, _, _, _, run25b x y, tupZ ?_ ?_, ?_⟩
        · rw [toI_n]; simp only [nv_enc, tn1]; exact hd.1
        · rw [toI_n]; simp only [nv_enc]; exact hd.2
        · simp only [AllP, nv_enc, tn1, words_e, canon_e, decide_eq_true h0, decide_eq_true_eq, decide_eq_false_iff_not]
          generalize x.natAbs / y.natAbs = Q at *
          generalize x.natAbs % y.natAbs = R at *
          unfold Ln
          and_intros <;> first | exact trivial | omega
      · have hd := dm_stay hy (.inr (by omega : x.natAbs % y.natAbs = 0))
        refine ⟨_, _, _, _, run25c x y, tupZ ?_ ?_, ?_⟩
        · rw [toI_n]; simp only [nv_enc]; exact hd.1
        · rw [toI_n]; simp only [nv_enc]; exact hd.2
        · simp only [AllP, nv_enc, words_e, canon_e, decide_eq_true h0, decide_eq_false_iff_not]
          generalize x.natAbs / y.natAbs = Q at *
          generalize x.natAbs % y.natAbs = R at *
          unfold Ln
          and_intros <;> first | exact trivial | omega
    · have hd := dm_stay hy (.inl h0)
      refine ⟨_, _, _, _, run25d x y, tupZ ?_ ?_, ?_⟩
      · rw [toI_n]; simp only [nv_enc]; exact hd.1
      · rw [toI_n]; simp only [nv_enc]; exact hd.2
      · simp only [AllP, nv_enc, words_e, canon_e, decide_eq_false h0, decide_eq_false_iff_not]
        generalize x.natAbs / y.natAbs = Q at *
        generalize x.natAbs % y.natAbs = R at *
        unfold Ln
        and_intros <;> first | exact trivial | omega
  · cases hsp
theorem con25 : Con Tryz.prog 25 spDivMod := divmod_z con25a con25b

theorem con34a : Con Tryz.prog 34 spDivM0 := by
  refine con_flat hmix E12ok (by kernel_rfl) (fn := Tryz.f34) (by kernel_rfl) (fun _ => by kernel_rfl) ?_
  intro avs r ps hsp hps
  unfold spDivM0 at hsp
  split at hsp
  · rename_i x y
    simp only [Option.some.injEq, Prod.mk.injEq] at hsp
    obtain ⟨rfl, rfl⟩ := hsp
    obtain ⟨rfl, _⟩ := hps
    exact ⟨rfl, _, _, _, _, run34a x 0, rfl, by simp [AllP, enc_zero]⟩
  · cases hsp
theorem con34b : Con Tryz.prog 34 spDivM1 := by
  refine con_flatZ (l := E12) (fn := Tryz.f34) hmix E12ok (by kernel_rfl) (by kernel_rfl) (fun _ => by kernel_rfl) ?_
  intro avs r ps hsp hps
  unfold spDivM1 at hsp
  split at hsp
  · rename_i x y
    simp only [Option.some.injEq, Prod.mk.injEq] at hsp
    obtain ⟨rfl, rfl⟩ := hsp
    obtain ⟨hy, hx, hk, _⟩ := hps
    have lx := sz_big hx
    have ly := sz_big hk
    have py : 0 < (enc y.natAbs).length := (enc_len_pos _).2 (by omega)
    have hm := Nat.mod_lt x.natAbs (show 0 < y.natAbs by omega)
    have lq := enc_le_of lx (Nat.div_le_self x.natAbs y.natAbs)
    have lq1 := enc_succ_le lx (Nat.div_le_self x.natAbs y.natAbs)
    have lr := enc_le_of lx (Nat.mod_le x.natAbs y.natAbs)
    have ls := enc_le_of ly (Nat.sub_le y.natAbs (x.natAbs % y.natAbs))
    have l1 := enc_len_le (n := 1) (k := 1) (by decide)
    have pr := enc_len_pos (x.natAbs % y.natAbs)
    refine ⟨rfl, ?_⟩
    by_cases h0 : x < 0
    · by_cases hr : 0 < x.natAbs % y.natAbs
      · have hd := dm_turn hy h0 hr
        refine ⟨_, _, _, _, run34b x y, tupZ ?_ ?_, ?_⟩
        · rw [toI_n]; simp only [nv_enc, nv_1]; exact hd.1
        · rw [toI_n]; simp only [nv_enc]; exact hd.2
        · simp only [AllP, nv_enc, nv_1, words_e, canon_e, w_1, l_1, decide_eq_true h0, decide_eq_true_eq, decide_eq_false_iff_not]
          generalize x.natAbs / y.natAbs = Q at *
          generalize x.natAbs % y.natAbs = R at *
          unfold Ln
          and_intros <;> first | exact trivial | omega
      · have hd := dm_stay hy (.inr (by omega : x.natAbs % y.natAbs = 0))
        refine ⟨_, _, _, _, run34c x y, tupZ ?_ ?_, ?_⟩
        · rw [toI_n]; simp only [nv_enc]; exact hd.1
        · rw [toI_n]; simp only [nv_enc]; exact hd.2
        · simp only [AllP, nv_enc, words_e, canon_e, decide_eq_true h0, decide_eq_false_iff_not]
          generalize x.natAbs / y.natAbs = Q at *
          generalize x.natAbs % y.natAbs = R at *
          unfold Ln
          and_intros <;> first | exact trivial | omega
    · have hd := dm_stay hy (.inl h0)
      refine ⟨_, _, _, _, run34d x y, tupZ ?_ ?_, ?_⟩
      · rw [toI_n]; simp only [nv_enc]; exact hd.1
      · rw [toI_n]; simp only [nv_enc]; exact hd.2
      · simp only [AllP, nv_enc, words_e, canon_e, decide_eq_false h0, decide_eq_false_iff_not]
        generalize x.natAbs / y.natAbs = Q at *
        generalize x.natAbs % y.natAbs = R at *
        unfold Ln
        and_intros <;> first | exact trivial | omega
  · cases hsp
theorem con34 : Con Tryz.prog 34 spDivMod := divmod_z con34a con34b

/-- The contracts so far, over integers. -/
def E13 : List (Nat × Ctr) := (17, .fn (zArgs (spZ2 (· + ·)))) :: (42, .fn (zArgs (spZ2 (· + ·)))) :: (18, .fn (zArgs (spZ2 (· * ·)))) :: (44, .fn (zArgs (spZ2 (· * ·)))) :: (22, .fn (zArgs (spZ1 (- ·)))) :: (81, .fn (zArgs (spZ1 (- ·)))) :: (78, .fn (zArgs (spZ1 absZ))) :: (24, .fn (zArgs (spZn sgnI))) :: (49, .fn (zArgs (spZn sgnI))) :: (33, .fn (zArgs (spZn fun x => (o_bits x.natAbs : Int)))) :: (25, .fn (zArgs (spDivMod))) :: (34, .fn (zArgs (spDivMod))) :: (31, .fn spOf) :: (58, .fn spOf) :: E12
theorem E13ok : EnvOk Tryz.prog E13 := .cons (con_z con17) (.cons (con_z con42) (.cons (con_z con18) (.cons (con_z con44) (.cons (con_z con22) (.cons (con_z con81) (.cons (con_z con78) (.cons (con_z con24) (.cons (con_z con49) (.cons (con_z con33) (.cons (con_z con25) (.cons (con_z con34) (.cons con31 (.cons con58 E12ok)))))))))))))

end Go.Proofs.YtkfdnpbpebmhaaaGreatDoor.Spec
section
set_option maxRecDepth 100000
namespace Go.Proofs.YtkfdnpbpebmhaaaGreatDoor.Spec
open Go Go.RowKit Sx Num

theorem run16a (x y : Int) : fnEx Tryz.prog (lk E13) L0 (G1 []) 60 Tryz.f16 [.abs [x], .abs [y]] = some (AV.s (SV.one (LV.v (Value.int IntKind.i64 (if sgnI (o_toI (decide (x < (0 : Int))) (enc (Int.natAbs x))) < sgnI (o_toI (decide (y < (0 : Int))) (enc (Int.natAbs y))) then (-1 : Int) else if sgnI (o_toI (decide (y < (0 : Int))) (enc (Int.natAbs y))) < sgnI (o_toI (decide (x < (0 : Int))) (enc (Int.natAbs x))) then (1 : Int) else (0 : Int))))), [(cond.match_1 (fun _x => Bool) (decide (decide (x < (0 : Int)) = decide (y < (0 : Int)))) (fun _ => false) fun _ => true) = true, o_ok (decide (x < (0 : Int))) (enc (Int.natAbs x)), o_sz big (o_toI (decide (x < (0 : Int))) (enc (Int.natAbs x))), o_ok (decide (y < (0 : Int))) (enc (Int.natAbs y)), o_sz big (o_toI (decide (y < (0 : Int))) (enc (Int.natAbs y)))]) := by kernel_rfl
theorem run16b (x y : Int) : fnEx Tryz.prog (lk E13) L0 (G1 [9]) 60 Tryz.f16 [.abs [x], .abs [y]] = some (AV.s (SV.one (LV.v (Value.int IntKind.i64 (o_cmp (nv (enc (Int.natAbs y))) (nv (enc (Int.natAbs x))))))), [(cond.match_1 (fun _x => Bool) (decide (decide (x < (0 : Int)) = decide (y < (0 : Int)))) (fun _ => false) fun _ => true) = false, decide (x < (0 : Int)) = true, Canon (enc (Int.natAbs y)), Canon (enc (Int.natAbs x)), Ln (enc (Int.natAbs y)), Ln (enc (Int.natAbs x))]) := by kernel_rfl
theorem run16c (x y : Int) : fnEx Tryz.prog (lk E13) L0 (G1 [9, 16]) 60 Tryz.f16 [.abs [x], .abs [y]] = some (AV.s (SV.one (LV.v (Value.int IntKind.i64 (o_cmp (nv (enc (Int.natAbs x))) (nv (enc (Int.natAbs y))))))), [(cond.match_1 (fun _x => Bool) (decide (decide (x < (0 : Int)) = decide (y < (0 : Int)))) (fun _ => false) fun _ => true) = false, decide (x < (0 : Int)) = false, Canon (enc (Int.natAbs x)), Canon (enc (Int.natAbs y)), Ln (enc (Int.natAbs x)), Ln (enc (Int.natAbs y))]) := by kernel_rfl
theorem run41a (x y : Int) : fnEx Tryz.prog (lk E13) L0 (G1 []) 60 Tryz.f41 [.abs [x], .abs [y]] = some (AV.s (SV.one (LV.v (Value.int IntKind.i64 (-1 : Int)))), [decide (x < (0 : Int)) = true, decide (x < (0 : Int)) = true, decide (x < (0 : Int)) = true, decide (x < (0 : Int)) = true, (Bool.not (decide (y < (0 : Int)))) = true]) := by kernel_rfl
theorem run41b (x y : Int) : fnEx Tryz.prog (lk E13) L0 (G1 [7, 11]) 60 Tryz.f41 [.abs [x], .abs [y]] = some (AV.s (SV.one (LV.v (Value.int IntKind.i64 (1 : Int)))), [decide (x < (0 : Int)) = false, decide (x < (0 : Int)) = false, decide (x < (0 : Int)) = false, decide (x < (0 : Int)) = false, false = false, (Bool.not (decide (x < (0 : Int)))) = true, (Bool.not (decide (x < (0 : Int)))) = true, (Bool.not (decide (x < (0 : Int)))) = true, decide (y < (0 : Int)) = true]) := by kernel_rfl
theorem run41c (x y : Int) : fnEx Tryz.prog (lk E13) L0 (G1 [7, 11, 18, 20]) 60 Tryz.f41 [.abs [x], .abs [y]] = some (AV.s (SV.one (LV.v (Value.int IntKind.i64 (o_cmp (nv (enc (Int.natAbs x))) (nv (enc (Int.natAbs y))))))), [decide (x < (0 : Int)) = false, decide (x < (0 : Int)) = false, decide (x < (0 : Int)) = false, decide (x < (0 : Int)) = false, false = false, (Bool.not (decide (x < (0 : Int)))) = true, (Bool.not (decide (x < (0 : Int)))) = true, (Bool.not (decide (x < (0 : Int)))) = true, decide (y < (0 : Int)) = false, decide (x < (0 : Int)) = false, Canon (enc (Int.natAbs x)), Canon (enc (Int.natAbs y)), Ln (enc (Int.natAbs x)), Ln (enc (Int.natAbs y))]) := by kernel_rfl
theorem run41d (x y : Int) : fnEx Tryz.prog (lk E13) L0 (G1 [11, 15, 18]) 60 Tryz.f41 [.abs [x], .abs [y]] = some (AV.s (SV.one (LV.v (Value.int IntKind.i64 (o_cmp (nv (enc (Int.natAbs y))) (nv (enc (Int.natAbs x))))))), [decide (x < (0 : Int)) = true, decide (x < (0 : Int)) = true, decide (x < (0 : Int)) = true, decide (x < (0 : Int)) = true, (Bool.not (decide (y < (0 : Int)))) = false, (Bool.not (decide (x < (0 : Int)))) = false, (Bool.not (decide (x < (0 : Int)))) = false, (Bool.not (decide (x < (0 : Int)))) = false, false = false, decide (x < (0 : Int)) = true, Canon (enc (Int.natAbs y)), Canon (enc (Int.natAbs x)), Ln (enc (Int.natAbs y)), Ln (enc (Int.natAbs x))]) := by kernel_rfl
theorem run19 (x y : Int) : fnEx Tryz.prog (lk E13) L0 (G1 []) 60 Tryz.f19 [.abs [x], .abs [y]] = some (AV.s (SV.agg [LV.v (Value.bool (decide (o_toI (decide (x < (0 : Int))) (enc (Int.natAbs x)) + -o_toI (decide (y < (0 : Int))) (enc (Int.natAbs y)) < (0 : Int)))), LV.row EK.u32 (enc (Int.natAbs ((fun x1 x2 => x1 + x2) (o_toI (decide (x < (0 : Int))) (enc (Int.natAbs x))) ((fun x => -x) (o_toI (decide (y < (0 : Int))) (enc (Int.natAbs y)))))))]), [o_ok (decide (y < (0 : Int))) (enc (Int.natAbs y)), o_sz big (o_toI (decide (y < (0 : Int))) (enc (Int.natAbs y))), o_ok (decide (x < (0 : Int))) (enc (Int.natAbs x)), o_sz big (o_toI (decide (x < (0 : Int))) (enc (Int.natAbs x))), o_sz big ((fun x => -x) (o_toI (decide (y < (0 : Int))) (enc (Int.natAbs y))))]) := by kernel_rfl
theorem run43 (x y : Int) : fnEx Tryz.prog (lk E13) L0 (G1 []) 60 Tryz.f43 [.abs [x], .abs [y]] = some (AV.s (SV.agg [LV.v (Value.bool (decide (o_toI (decide (x < (0 : Int))) (enc (Int.natAbs x)) + -o_toI (decide (y < (0 : Int))) (enc (Int.natAbs y)) < (0 : Int)))), LV.row EK.u32 (enc (Int.natAbs ((fun x1 x2 => x1 + x2) (o_toI (decide (x < (0 : Int))) (enc (Int.natAbs x))) ((fun x => -x) (o_toI (decide (y < (0 : Int))) (enc (Int.natAbs y)))))))]), [o_ok (decide (y < (0 : Int))) (enc (Int.natAbs y)), o_sz big (o_toI (decide (y < (0 : Int))) (enc (Int.natAbs y))), o_ok (decide (x < (0 : Int))) (enc (Int.natAbs x)), o_sz big (o_toI (decide (x < (0 : Int))) (enc (Int.natAbs x))), o_sz big ((fun x => -x) (o_toI (decide (y < (0 : Int))) (enc (Int.natAbs y))))]) := by kernel_rfl
theorem run76 (x y : Int) : fnEx Tryz.prog (lk E13) L0 (G1 []) 60 Tryz.f76 [.abs [x], .abs [y]] = some (AV.s (SV.agg [LV.v (Value.bool (decide (o_rem (o_toI (decide (x < (0 : Int))) (enc (Int.natAbs x))) (o_toI (decide (y < (0 : Int))) (enc (Int.natAbs y))) < (0 : Int)))), LV.row EK.u32 (enc (Int.natAbs (o_rem (o_toI (decide (x < (0 : Int))) (enc (Int.natAbs x))) (o_toI (decide (y < (0 : Int))) (enc (Int.natAbs y))))))]), [o_ok (decide (x < (0 : Int))) (enc (Int.natAbs x)), o_ok (decide (y < (0 : Int))) (enc (Int.natAbs y)), o_sz big (o_toI (decide (x < (0 : Int))) (enc (Int.natAbs x))), o_sz big (o_toI (decide (y < (0 : Int))) (enc (Int.natAbs y)))]) := by kernel_rfl
theorem run77 (x y : Int) : fnEx Tryz.prog (lk E13) L0 (G1 []) 60 Tryz.f77 [.abs [x], .abs [y]] = some (AV.s (SV.agg [LV.v (Value.bool (decide (o_toI (decide (x < (0 : Int))) (enc (Int.natAbs x)) / o_toI (decide (y < (0 : Int))) (enc (Int.natAbs y)) < (0 : Int)))), LV.row EK.u32 (enc (Int.natAbs (o_toI (decide (x < (0 : Int))) (enc (Int.natAbs x)) / o_toI (decide (y < (0 : Int))) (enc (Int.natAbs y)))))]), [o_ok (decide (x < (0 : Int))) (enc (Int.natAbs x)), o_ok (decide (y < (0 : Int))) (enc (Int.natAbs y)), o_sz big (o_toI (decide (x < (0 : Int))) (enc (Int.natAbs x))), o_sz big (o_toI (decide (y < (0 : Int))) (enc (Int.natAbs y)))]) := by kernel_rfl
theorem run23 (n : Int) : fnEx Tryz.prog (lk E13) L0 (G1 []) 60 Tryz.f23 [num n] = some (AV.s (SV.agg [LV.v (Value.bool (decide (n < (0 : Int)))), LV.row EK.u32 (enc (Int.natAbs n))]), [(-9223372036854775808 : Int) ≤ n ∧ n < (9223372036854775808 : Int)]) := by kernel_rfl
theorem run117 (xs : List Int) : fnEx Tryz.prog (lk E13) L0 (G1 []) 60 Tryz.f117 [.one (.row .u32 xs)] = some (AV.s (SV.one (LV.v (Value.int IntKind.u64 (IntKind.wrap IntKind.u64 (IntKind.wrap IntKind.u64 (List.getD xs (Int.toNat (1 : Int)) (0 : Int) * (4294967296 : Int)) + List.getD xs (Int.toNat (0 : Int)) (0 : Int)))))), [(0 : Int) ≤ (1 : Int), Words xs, (0 : Int) ≤ (0 : Int), Words xs]) := by kernel_rfl
theorem run32a (x : Int) : fnEx Tryz.prog (lk E13) L0 (G1 []) 60 Tryz.f32 [.abs [x]] = some (AV.tup [SV.one (LV.v (Value.int IntKind.i64 (0 : Int))), SV.one (LV.v (Value.bool false))], [(0 : Int) ≤ (1 : Int), (0 : Int) ≤ (32 : Int), (0 : Int) ≤ (0 : Int), decide ((2 : Int) < (↑(List.length (enc (Int.natAbs x))) : Int)) = true]) := by kernel_rfl
theorem run32b (x : Int) : fnEx Tryz.prog (lk E13) L0 (G1 [16]) 60 Tryz.f32 [.abs [x]] = some (AV.tup [SV.one (LV.v (Value.int IntKind.i64 (IntKind.wrap IntKind.i64 (IntKind.wrap IntKind.u64 ((0 : Int) - IntKind.wrap IntKind.u64 (↑(BitVec.toNat (BitVec.ofInt (IntKind.bits IntKind.u64) (IntKind.wrap IntKind.u64 (IntKind.wrap IntKind.u64 (List.getD (enc (Int.natAbs x)) (Int.toNat (1 : Int)) (0 : Int)) * (2 : Int) ^ min (Int.toNat (32 : Int)) (IntKind.bits IntKind.u64))) ||| BitVec.ofInt (IntKind.bits IntKind.u64) (IntKind.wrap IntKind.u64 (List.getD (enc (Int.natAbs x)) (Int.toNat (0 : Int)) (0 : Int))))) : Int)))))), SV.one (LV.v (Value.bool true))], [(0 : Int) ≤ (1 : Int), (0 : Int) ≤ (32 : Int), (0 : Int) ≤ (0 : Int), decide ((2 : Int) < (↑(List.length (enc (Int.natAbs x))) : Int)) = false, decide (x < (0 : Int)) = true, decide (x < (0 : Int)) = true, decide (x < (0 : Int)) = true, decide (IntKind.wrap IntKind.u64 (↑(BitVec.toNat (BitVec.ofInt (IntKind.bits IntKind.u64) (IntKind.wrap IntKind.u64 (IntKind.wrap IntKind.u64 (List.getD (enc (Int.natAbs x)) (Int.toNat (1 : Int)) (0 : Int)) * (2 : Int) ^ min (Int.toNat (32 : Int)) (IntKind.bits IntKind.u64))) ||| BitVec.ofInt (IntKind.bits IntKind.u64) (IntKind.wrap IntKind.u64 (List.getD (enc (Int.natAbs x)) (Int.toNat (0 : Int)) (0 : Int))))) : Int) ≤ (9223372036854775808 : Int)) = true]) := by kernel_rfl
theorem run15a (s : Bool) (xs : List Int) : fnEx Tryz.prog (lk E13) L0 (G1 []) 60 Tryz.f15 [.agg [.v (.bool s), .row .u32 xs]] = some (AV.s (SV.one (LV.v (Value.bool (cond.match_1 (fun _x => Bool) (decide (List.getD xs (Int.toNat (IntKind.wrap IntKind.i64 ((↑(List.length xs) : Int) - (1 : Int)))) (0 : Int) = (0 : Int))) (fun _ => false) fun _ => true)))), [decide ((0 : Int) < (↑(List.length xs) : Int)) = true, (0 : Int) ≤ IntKind.wrap IntKind.i64 ((↑(List.length xs) : Int) - (1 : Int)) ∧ IntKind.wrap IntKind.i64 ((↑(List.length xs) : Int) - (1 : Int)) < (↑(List.length xs) : Int)]) := by kernel_rfl
theorem run15b (s : Bool) (xs : List Int) : fnEx Tryz.prog (lk E13) L0 (G1 [8]) 60 Tryz.f15 [.agg [.v (.bool s), .row .u32 xs]] = some (AV.s (SV.one (LV.v (Value.bool (Bool.not s)))), [decide ((0 : Int) < (↑(List.length xs) : Int)) = false]) := by kernel_rfl
theorem run20a (s : Bool) (xs : List Int) : fnEx Tryz.prog (lk E13) L0 (G1 []) 60 Tryz.f20 [.agg [.v (.bool s), .row .u32 xs]] = some (AV.s (SV.one (LV.v (Value.bool (Bool.not s)))), [decide ((↑(List.length xs) : Int) = (0 : Int)) = true]) := by kernel_rfl
theorem run20b (s : Bool) (xs : List Int) : fnEx Tryz.prog (lk E13) L0 (G1 [8]) 60 Tryz.f20 [.agg [.v (.bool s), .row .u32 xs]] = some (AV.s (SV.one (LV.v (Value.bool (cond.match_1 (fun _x => Bool) (decide (List.getD xs (Int.toNat (IntKind.wrap IntKind.i64 ((↑(List.length xs) : Int) - (1 : Int)))) (0 : Int) = (0 : Int))) (fun _ => false) fun _ => true)))), [decide ((↑(List.length xs) : Int) = (0 : Int)) = false, (0 : Int) ≤ IntKind.wrap IntKind.i64 ((↑(List.length xs) : Int) - (1 : Int)) ∧ IntKind.wrap IntKind.i64 ((↑(List.length xs) : Int) - (1 : Int)) < (↑(List.length xs) : Int)]) := by kernel_rfl
theorem run32c (x : Int) : fnEx Tryz.prog (lk E13) L0 (G1 [16, 23, 20]) 60 Tryz.f32 [.abs [x]] = some (AV.tup [SV.one (LV.v (Value.int IntKind.i64 (IntKind.wrap IntKind.i64 (IntKind.wrap IntKind.u64 (↑(BitVec.toNat (BitVec.ofInt (IntKind.bits IntKind.u64) (IntKind.wrap IntKind.u64 (IntKind.wrap IntKind.u64 (List.getD (enc (Int.natAbs x)) (Int.toNat (1 : Int)) (0 : Int)) * (2 : Int) ^ min (Int.toNat (32 : Int)) (IntKind.bits IntKind.u64))) ||| BitVec.ofInt (IntKind.bits IntKind.u64) (IntKind.wrap IntKind.u64 (List.getD (enc (Int.natAbs x)) (Int.toNat (0 : Int)) (0 : Int))))) : Int))))), SV.one (LV.v (Value.bool true))], [(0 : Int) ≤ (1 : Int), (0 : Int) ≤ (32 : Int), (0 : Int) ≤ (0 : Int), decide ((2 : Int) < (↑(List.length (enc (Int.natAbs x))) : Int)) = false, decide (x < (0 : Int)) = false, decide (x < (0 : Int)) = false, decide (x < (0 : Int)) = false, false = false, (Bool.not (decide (x < (0 : Int)))) = true, (Bool.not (decide (x < (0 : Int)))) = true, (Bool.not (decide (x < (0 : Int)))) = true, decide (IntKind.wrap IntKind.u64 (↑(BitVec.toNat (BitVec.ofInt (IntKind.bits IntKind.u64) (IntKind.wrap IntKind.u64 (IntKind.wrap IntKind.u64 (List.getD (enc (Int.natAbs x)) (Int.toNat (1 : Int)) (0 : Int)) * (2 : Int) ^ min (Int.toNat (32 : Int)) (IntKind.bits IntKind.u64))) ||| BitVec.ofInt (IntKind.bits IntKind.u64) (IntKind.wrap IntKind.u64 (List.getD (enc (Int.natAbs x)) (Int.toNat (0 : Int)) (0 : Int))))) : Int) < (9223372036854775808 : Int)) = true]) := by kernel_rfl
theorem run32d (x : Int) : fnEx Tryz.prog (lk E13) L0 (G1 [16, 23, 20, 30]) 60 Tryz.f32 [.abs [x]] = some (AV.tup [SV.one (LV.v (Value.int IntKind.i64 (0 : Int))), SV.one (LV.v (Value.bool false))], [(0 : Int) ≤ (1 : Int), (0 : Int) ≤ (32 : Int), (0 : Int) ≤ (0 : Int), decide ((2 : Int) < (↑(List.length (enc (Int.natAbs x))) : Int)) = false, decide (x < (0 : Int)) = false, decide (x < (0 : Int)) = false, decide (x < (0 : Int)) = false, false = false, (Bool.not (decide (x < (0 : Int)))) = true, (Bool.not (decide (x < (0 : Int)))) = true, (Bool.not (decide (x < (0 : Int)))) = true, decide (IntKind.wrap IntKind.u64 (↑(BitVec.toNat (BitVec.ofInt (IntKind.bits IntKind.u64) (IntKind.wrap IntKind.u64 (IntKind.wrap IntKind.u64 (List.getD (enc (Int.natAbs x)) (Int.toNat (1 : Int)) (0 : Int)) * (2 : Int) ^ min (Int.toNat (32 : Int)) (IntKind.bits IntKind.u64))) ||| BitVec.ofInt (IntKind.bits IntKind.u64) (IntKind.wrap IntKind.u64 (List.getD (enc (Int.natAbs x)) (Int.toNat (0 : Int)) (0 : Int))))) : Int) < (9223372036854775808 : Int)) = false]) := by kernel_rfl
theorem run32e (x : Int) : fnEx Tryz.prog (lk E13) L0 (G1 [16, 20, 34, 30]) 60 Tryz.f32 [.abs [x]] = some (AV.tup [SV.one (LV.v (Value.int IntKind.i64 (0 : Int))), SV.one (LV.v (Value.bool false))], [(0 : Int) ≤ (1 : Int), (0 : Int) ≤ (32 : Int), (0 : Int) ≤ (0 : Int), decide ((2 : Int) < (↑(List.length (enc (Int.natAbs x))) : Int)) = false, decide (x < (0 : Int)) = true, decide (x < (0 : Int)) = true, decide (x < (0 : Int)) = true, decide (IntKind.wrap IntKind.u64 (↑(BitVec.toNat (BitVec.ofInt (IntKind.bits IntKind.u64) (IntKind.wrap IntKind.u64 (IntKind.wrap IntKind.u64 (List.getD (enc (Int.natAbs x)) (Int.toNat (1 : Int)) (0 : Int)) * (2 : Int) ^ min (Int.toNat (32 : Int)) (IntKind.bits IntKind.u64))) ||| BitVec.ofInt (IntKind.bits IntKind.u64) (IntKind.wrap IntKind.u64 (List.getD (enc (Int.natAbs x)) (Int.toNat (0 : Int)) (0 : Int))))) : Int) ≤ (9223372036854775808 : Int)) = false, (Bool.not (decide (x < (0 : Int)))) = false, (Bool.not (decide (x < (0 : Int)))) = false, (Bool.not (decide (x < (0 : Int)))) = false, false = false]) := by kernel_rfl
theorem run15c (x : Int) : fnEx Tryz.prog (lk E13) L0 (G1 []) 60 Tryz.f15 [.abs [x]] = some (AV.s (SV.one (LV.v (Value.bool (cond.match_1 (fun _x => Bool) (decide (List.getD (enc (Int.natAbs x)) (Int.toNat (IntKind.wrap IntKind.i64 ((↑(List.length (enc (Int.natAbs x))) : Int) - (1 : Int)))) (0 : Int) = (0 : Int))) (fun _ => false) fun _ => true)))), [decide ((0 : Int) < (↑(List.length (enc (Int.natAbs x))) : Int)) = true, (0 : Int) ≤ IntKind.wrap IntKind.i64 ((↑(List.length (enc (Int.natAbs x))) : Int) - (1 : Int)) ∧ IntKind.wrap IntKind.i64 ((↑(List.length (enc (Int.natAbs x))) : Int) - (1 : Int)) < (↑(List.length (enc (Int.natAbs x))) : Int)]) := by kernel_rfl
theorem run15d (x : Int) : fnEx Tryz.prog (lk E13) L0 (G1 [8]) 60 Tryz.f15 [.abs [x]] = some (AV.s (SV.one (LV.v (Value.bool (Bool.not (decide (x < (0 : Int))))))), [decide ((0 : Int) < (↑(List.length (enc (Int.natAbs x))) : Int)) = false]) := by kernel_rfl
theorem run20c (x : Int) : fnEx Tryz.prog (lk E13) L0 (G1 []) 60 Tryz.f20 [.abs [x]] = some (AV.s (SV.one (LV.v (Value.bool (Bool.not (decide (x < (0 : Int))))))), [decide ((↑(List.length (enc (Int.natAbs x))) : Int) = (0 : Int)) = true]) := by kernel_rfl
theorem run20d (x : Int) : fnEx Tryz.prog (lk E13) L0 (G1 [8]) 60 Tryz.f20 [.abs [x]] = some (AV.s (SV.one (LV.v (Value.bool (cond.match_1 (fun _x => Bool) (decide (List.getD (enc (Int.natAbs x)) (Int.toNat (IntKind.wrap IntKind.i64 ((↑(List.length (enc (Int.natAbs x))) : Int) - (1 : Int)))) (0 : Int) = (0 : Int))) (fun _ => false) fun _ => true)))), [decide ((↑(List.length (enc (Int.natAbs x))) : Int) = (0 : Int)) = false, (0 : Int) ≤ IntKind.wrap IntKind.i64 ((↑(List.length (enc (Int.natAbs x))) : Int) - (1 : Int)) ∧ IntKind.wrap IntKind.i64 ((↑(List.length (enc (Int.natAbs x))) : Int) - (1 : Int)) < (↑(List.length (enc (Int.natAbs x))) : Int)]) := by kernel_rfl 
end Go.Proofs.YtkfdnpbpebmhaaaGreatDoor.Spec
end
namespace Go.Proofs.YtkfdnpbpebmhaaaGreatDoor.Spec
open Go Go.RowKit Sx Num

theorem ok_e (z : Int) : o_ok (decide (z < 0)) (enc z.natAbs) ↔ True := ⟨fun _ => trivial, fun _ => ok_enc z⟩
theorem nb_t {b : Bool} (h : b = false) : cond.match_1 (fun _ => Bool) b (fun _ => false) (fun _ => true) = true := by subst h; rfl
theorem nb_f {b : Bool} (h : b = true) : cond.match_1 (fun _ => Bool) b (fun _ => false) (fun _ => true) = false := by subst h; rfl
theorem nb_n (b : Bool) : cond.match_1 (fun _ => Bool) b (fun _ => false) (fun _ => true) = !b := by cases b <;> rfl
/-- Comparing two integers. -/
def spCmpZ : Sp
  | [.abs [x], .abs [y]] => some (.s (num (sgnI (x - y))), [o_sz big x, o_sz big y])
  | _ => none
theorem cmpZ_diff {x y : Int} (h : ¬ (x < 0 ↔ y < 0)) : (if sgnI x < sgnI y then (-1 : Int) else if sgnI y < sgnI x then 1 else 0) = sgnI (x - y) := by
  unfold sgnI
  repeat' split
  all_goals omega
theorem cmpZ_neg {x y : Int} (h : x < 0) (k : y < 0) : o_cmp y.natAbs x.natAbs = sgnI (x - y) := by
  unfold o_cmp sgnI
  repeat' split
  all_goals omega
theorem cmpZ_pos {x y : Int} (h : ¬ x < 0) (k : ¬ y < 0) : o_cmp x.natAbs y.natAbs = sgnI (x - y) := by
  unfold o_cmp sgnI
  repeat' split
  all_goals omega
theorem numE {a b : Int} (h : a = b) : AV.s (SV.one (LV.v (Value.int IntKind.i64 a))) = AV.s (num b) := by subst h; rfl
theorem con16 : Con Tryz.prog 16 spCmpZ := by
  refine con_flat hmix E13ok (by kernel_rfl) (fn := Tryz.f16) (by kernel_rfl) (fun _ => by kernel_rfl) ?_
  intro avs r ps hsp hps
  unfold spCmpZ at hsp
  split at hsp
  · rename_i x y
    simp only [Option.some.injEq, Prod.mk.injEq] at hsp
    obtain ⟨rfl, rfl⟩ := hsp
    obtain ⟨hx, hy, _⟩ := hps
    have lx := sz_big hx
    have ly := sz_big hy
    refine ⟨rfl, ?_⟩
    by_cases h : x < 0 ↔ y < 0
    · by_cases h0 : x < 0
      · refine ⟨_, _, _, _, run16b x y, numE ?_, ?_⟩
        · rw [nv_enc, nv_enc]; exact cmpZ_neg h0 (h.1 h0)
        · simp only [AllP, decb, decide_eq_true h, canon_e]
          simp only [decide_eq_true h0]
          unfold Ln
          and_intros <;> first | exact trivial | omega | rfl
      · refine ⟨_, _, _, _, run16c x y, numE ?_, ?_⟩
        · rw [nv_enc, nv_enc]; exact cmpZ_pos h0 (by omega)
        · simp only [AllP, decb, decide_eq_true h, canon_e]
          simp only [decide_eq_false h0]
          unfold Ln
          and_intros <;> first | exact trivial | omega | rfl
    · refine ⟨_, _, _, _, run16a x y, numE ?_, ?_⟩
      · rw [toI_enc, toI_enc]; exact cmpZ_diff h
      · simp only [AllP, decb, decide_eq_false h, ok_e, toI_enc]
        exact ⟨trivial, trivial, hx, trivial, hy, trivial⟩
  · cases hsp
theorem con41 : Con Tryz.prog 41 spCmpZ := by
  refine con_flat hmix E13ok (by kernel_rfl) (fn := Tryz.f41) (by kernel_rfl) (fun _ => by kernel_rfl) ?_
  intro avs r ps hsp hps
  unfold spCmpZ at hsp
  split at hsp
  · rename_i x y
    simp only [Option.some.injEq, Prod.mk.injEq] at hsp
    obtain ⟨rfl, rfl⟩ := hsp
    obtain ⟨hx, hy, _⟩ := hps
    have lx := sz_big hx
    have ly := sz_big hy
    refine ⟨rfl, ?_⟩
    by_cases h0 : x < 0 <;> by_cases h1 : y < 0
    · refine ⟨_, _, _, _, run41d x y, numE ?_, ?_⟩
      · rw [nv_enc, nv_enc]; exact cmpZ_neg h0 h1
      · simp only [AllP, decide_eq_true h0, decide_eq_true h1, canon_e]
        unfold Ln
        and_intros <;> first | exact trivial | omega | rfl
    · refine ⟨_, _, _, _, run41a x y, numE ?_, ?_⟩
      · unfold sgnI; rw [if_pos (by omega)]
      · simp only [AllP, decide_eq_true h0, decide_eq_false h1]
        and_intros <;> first | exact trivial | rfl
    · refine ⟨_, _, _, _, run41b x y, numE ?_, ?_⟩
      · unfold sgnI; rw [if_neg (by omega), if_neg (by omega)]
      · simp only [AllP, decide_eq_false h0, decide_eq_true h1]
        and_intros <;> first | exact trivial | rfl
    · refine ⟨_, _, _, _, run41c x y, numE ?_, ?_⟩
      · rw [nv_enc, nv_enc]; exact cmpZ_pos h0 h1
      · simp only [AllP, decide_eq_false h0, decide_eq_false h1, canon_e]
        unfold Ln
        and_intros <;> first | exact trivial | omega | rfl
  · cases hsp
theorem con19 : Con Tryz.prog 19 (spZ2 (· - ·)) := by
  refine con_flatZ (l := E13) (fn := Tryz.f19) hmix E13ok (by kernel_rfl) (by kernel_rfl) (fun _ => by kernel_rfl) ?_
  intro avs r ps hsp hps
  unfold spZ2 at hsp
  split at hsp
  · rename_i x y
    simp only [Option.some.injEq, Prod.mk.injEq] at hsp
    obtain ⟨rfl, rfl⟩ := hsp
    obtain ⟨hx, hy, _⟩ := hps
    refine ⟨rfl, _, _, _, _, run19 x y, unZ (by rw [toI_enc, toI_enc]; exact Int.sub_eq_add_neg.symm), ?_⟩
    simp only [AllP, ok_e, toI_enc]
    and_intros <;> first | exact trivial | assumption | exact sz_neg hy
  · cases hsp
theorem con43 : Con Tryz.prog 43 (spZ2 (· - ·)) := by
  refine con_flatZ (l := E13) (fn := Tryz.f43) hmix E13ok (by kernel_rfl) (by kernel_rfl) (fun _ => by kernel_rfl) ?_
  intro avs r ps hsp hps
  unfold spZ2 at hsp
  split at hsp
  · rename_i x y
    simp only [Option.some.injEq, Prod.mk.injEq] at hsp
    obtain ⟨rfl, rfl⟩ := hsp
    obtain ⟨hx, hy, _⟩ := hps
    refine ⟨rfl, _, _, _, _, run43 x y, unZ (by rw [toI_enc, toI_enc]; exact Int.sub_eq_add_neg.symm), ?_⟩
    simp only [AllP, ok_e, toI_enc]
    and_intros <;> first | exact trivial | assumption | exact sz_neg hy
  · cases hsp
theorem con76 : Con Tryz.prog 76 (spZ2 o_rem) := by
  refine con_flatZ (l := E13) (fn := Tryz.f76) hmix E13ok (by kernel_rfl) (by kernel_rfl) (fun _ => by kernel_rfl) ?_
  intro avs r ps hsp hps
  unfold spZ2 at hsp
  split at hsp
  · rename_i x y
    simp only [Option.some.injEq, Prod.mk.injEq] at hsp
    obtain ⟨rfl, rfl⟩ := hsp
    obtain ⟨hx, hy, _⟩ := hps
    refine ⟨rfl, _, _, _, _, run76 x y, unZ (by rw [toI_enc, toI_enc]), ?_⟩
    simp only [AllP, ok_e, toI_enc]
    and_intros <;> first | exact trivial | assumption | exact sz_neg hy
  · cases hsp
theorem con77 : Con Tryz.prog 77 (spZ2 (· / ·)) := by
  refine con_flatZ (l := E13) (fn := Tryz.f77) hmix E13ok (by kernel_rfl) (by kernel_rfl) (fun _ => by kernel_rfl) ?_
  intro avs r ps hsp hps
  unfold spZ2 at hsp
  split at hsp
  · rename_i x y
    simp only [Option.some.injEq, Prod.mk.injEq] at hsp
    obtain ⟨rfl, rfl⟩ := hsp
    obtain ⟨hx, hy, _⟩ := hps
    refine ⟨rfl, _, _, _, _, run77 x y, unZ (by rw [toI_enc, toI_enc]), ?_⟩
    simp only [AllP, ok_e, toI_enc]
    and_intros <;> first | exact trivial | assumption | exact sz_neg hy
  · cases hsp
theorem con23 : Con Tryz.prog 23 spOf := by
  refine con_flatZ (l := E13) (fn := Tryz.f23) hmix E13ok (by kernel_rfl) (by kernel_rfl) (fun _ => by kernel_rfl) ?_
  intro avs r ps hsp hps
  unfold spOf at hsp
  split at hsp
  · rename_i n
    simp only [Option.some.injEq, Prod.mk.injEq] at hsp
    obtain ⟨rfl, rfl⟩ := hsp
    exact ⟨rfl, _, _, _, _, run23 n, unZ rfl, hps⟩
  · cases hsp
/-- The value of at most two words. -/
def spNumber : Sp
  | [.one (.row .u32 xs)] => some (.s (.one (.v (.int .u64 (nv xs)))), [Words xs, xs.length ≤ 2])
  | _ => none
theorem nv_two {xs : List Int} (hw : Words xs) (h : xs.length ≤ 2) : nv xs = dg (nv xs) 1 * 4294967296 + dg (nv xs) 0 ∧ nv xs < 18446744073709551616 := by
  have h1 := nv_lt hw
  have h2 : B ^ xs.length ≤ B ^ 2 := Nat.pow_le_pow_right (by decide) h
  have h3 : nv xs < 18446744073709551616 := Nat.lt_of_lt_of_le h1 h2
  refine ⟨?_, h3⟩
  unfold dg B
  omega
theorem con117 : Con Tryz.prog 117 spNumber := by
  refine con_flat hmix E13ok (by kernel_rfl) (fn := Tryz.f117) (by kernel_rfl) (fun _ => by kernel_rfl) ?_
  intro avs r ps hsp hps
  unfold spNumber at hsp
  split at hsp
  · rename_i xs
    simp only [Option.some.injEq, Prod.mk.injEq] at hsp
    obtain ⟨rfl, rfl⟩ := hsp
    obtain ⟨hw, hl, _⟩ := hps
    obtain ⟨e, hlt⟩ := nv_two hw hl
    have g1 := nv_getD hw 1
    have g0 := nv_getD hw 0
    refine ⟨rfl, _, _, _, _, run117 xs, ?_, ?_⟩
    · show AV.s (SV.one (LV.v (Value.int IntKind.u64 _))) = AV.s (SV.one (LV.v (Value.int IntKind.u64 _)))
      rw [show Int.toNat 1 = 1 from rfl, show Int.toNat 0 = 0 from rfl, g1, g0, w64, w64]
      congr 4
      omega
    · exact ⟨by decide, hw, by decide, hw, trivial⟩
  · cases hsp
/-- Validity. -/
def o_valid (s : Bool) (xs : List Int) : Bool := if xs.length = 0 then !s else !decide (xs.getD (xs.length - 1) 0 = 0)
def spValid : Sp
  | [.agg [.v (.bool s), .row .u32 xs]] => some (.s (.one (.v (.bool (o_valid s xs)))), [Words xs, Ln xs])
  | [.abs [x]] => some (.s (.one (.v (.bool true))), [o_sz big x])
  | _ => none
theorem valid_e (x : Int) : o_valid (decide (x < 0)) (enc x.natAbs) = true := by
  unfold o_valid
  have h := enc_len_pos x.natAbs
  split
  · by_cases h0 : x < 0
    · omega
    · simp [h0]
  · have := canon_enc x.natAbs
    have ht := canon_top this (by omega)
    have hd := nv_getD (words_enc x.natAbs) ((enc x.natAbs).length - 1)
    have hg : ¬ (enc x.natAbs).getD ((enc x.natAbs).length - 1) 0 = 0 := by rw [hd]; omega
    simp only [decide_eq_false hg, Bool.not_false]
theorem con15 : Con Tryz.prog 15 spValid := by
  refine con_flat hmix E13ok (by kernel_rfl) (fn := Tryz.f15) (by kernel_rfl) (fun _ => by kernel_rfl) ?_
  intro avs r ps hsp hps
  unfold spValid at hsp
  split at hsp
  · rename_i s xs
    simp only [Option.some.injEq, Prod.mk.injEq] at hsp
    obtain ⟨rfl, rfl⟩ := hsp
    obtain ⟨hw, hl, _⟩ := hps
    unfold Ln at hl
    refine ⟨rfl, ?_⟩
    by_cases h : xs.length = 0
    · refine ⟨_, _, _, _, run15b s xs, ?_, ?_⟩
      · unfold o_valid; rw [if_pos h]
      · simp only [AllP, decide_eq_false (show ¬ 0 < ((xs).length : Int) by omega)]; exact ⟨trivial, trivial⟩
    · have w1 : IntKind.wrap IntKind.i64 ((xs.length : Int) - 1) = ((xs.length - 1 : Nat) : Int) := by rw [wi64 _ (by omega) (by omega)]; omega
      refine ⟨_, _, _, _, run15a s xs, ?_, ?_⟩
      · rw [nb_n, w1, tnc]; unfold o_valid; rw [if_neg h]
      · simp only [AllP, w1, decide_eq_true (show 0 < ((xs).length : Int) by omega)]
        and_intros <;> first | exact trivial | omega
  · rename_i x
    simp only [Option.some.injEq, Prod.mk.injEq] at hsp
    obtain ⟨rfl, rfl⟩ := hsp
    have lx := sz_big hps.1
    have hv := valid_e x
    refine ⟨rfl, ?_⟩
    by_cases h : (enc x.natAbs).length = 0
    · refine ⟨_, _, _, _, run15d x, ?_, ?_⟩
      · unfold o_valid at hv; rw [if_pos h] at hv
        show AV.s (SV.one (LV.v (Value.bool (!decide (x < 0))))) = _
        rw [hv]
      · simp only [AllP, decide_eq_false (show ¬ 0 < ((enc x.natAbs).length : Int) by omega)]; exact ⟨trivial, trivial⟩
    · have w1 : IntKind.wrap IntKind.i64 (((enc x.natAbs).length : Int) - 1) = (((enc x.natAbs).length - 1 : Nat) : Int) := by rw [wi64 _ (by omega) (by omega)]; omega
      refine ⟨_, _, _, _, run15c x, ?_, ?_⟩
      · rw [nb_n, w1, tnc]; unfold o_valid at hv; rw [if_neg h] at hv; rw [hv]
      · simp only [AllP, w1, decide_eq_true (show 0 < ((enc x.natAbs).length : Int) by omega)]
        and_intros <;> first | exact trivial | omega
  · cases hsp
theorem con20 : Con Tryz.prog 20 spValid := by
  refine con_flat hmix E13ok (by kernel_rfl) (fn := Tryz.f20) (by kernel_rfl) (fun _ => by kernel_rfl) ?_
  intro avs r ps hsp hps
  unfold spValid at hsp
  split at hsp
  · rename_i s xs
    simp only [Option.some.injEq, Prod.mk.injEq] at hsp
    obtain ⟨rfl, rfl⟩ := hsp
    obtain ⟨hw, hl, _⟩ := hps
    unfold Ln at hl
    refine ⟨rfl, ?_⟩
    by_cases h : xs.length = 0
    · refine ⟨_, _, _, _, run20a s xs, ?_, ?_⟩
      · unfold o_valid; rw [if_pos h]
      · simp only [AllP, decide_eq_true (show ((xs).length : Int) = 0 by omega)]; exact ⟨trivial, trivial⟩
    · have w1 : IntKind.wrap IntKind.i64 ((xs.length : Int) - 1) = ((xs.length - 1 : Nat) : Int) := by rw [wi64 _ (by omega) (by omega)]; omega
      refine ⟨_, _, _, _, run20b s xs, ?_, ?_⟩
      · rw [nb_n, w1, tnc]; unfold o_valid; rw [if_neg h]
      · simp only [AllP, w1, decide_eq_false (show ¬ ((xs).length : Int) = 0 by omega)]
        and_intros <;> first | exact trivial | omega
  · rename_i x
    simp only [Option.some.injEq, Prod.mk.injEq] at hsp
    obtain ⟨rfl, rfl⟩ := hsp
    have lx := sz_big hps.1
    have hv := valid_e x
    refine ⟨rfl, ?_⟩
    by_cases h : (enc x.natAbs).length = 0
    · refine ⟨_, _, _, _, run20c x, ?_, ?_⟩
      · unfold o_valid at hv; rw [if_pos h] at hv
        show AV.s (SV.one (LV.v (Value.bool (!decide (x < 0))))) = _
        rw [hv]
      · simp only [AllP, decide_eq_true (show ((enc x.natAbs).length : Int) = 0 by omega)]; exact ⟨trivial, trivial⟩
    · have w1 : IntKind.wrap IntKind.i64 (((enc x.natAbs).length : Int) - 1) = (((enc x.natAbs).length - 1 : Nat) : Int) := by rw [wi64 _ (by omega) (by omega)]; omega
      refine ⟨_, _, _, _, run20d x, ?_, ?_⟩
      · rw [nb_n, w1, tnc]; unfold o_valid at hv; rw [if_neg h] at hv; rw [hv]
      · simp only [AllP, w1, decide_eq_false (show ¬ ((enc x.natAbs).length : Int) = 0 by omega)]
        and_intros <;> first | exact trivial | omega
  · cases hsp
/-- The value, where it fits into 64 bits. -/
def o_small (x : Int) : Int := if -9223372036854775808 ≤ x ∧ x < 9223372036854775808 then x else 0
def o_fits (x : Int) : Bool := decide (-9223372036854775808 ≤ x ∧ x < 9223372036854775808)
def spSmall : Sp
  | [.abs [x]] => some (.tup [num (o_small x), .one (.v (.bool (o_fits x)))], [o_sz big x])
  | _ => none
theorem tupS {a b : Int} {s t : Bool} (h : a = b) (k : s = t) : AV.tup [.one (.v (.int .i64 a)), .one (.v (.bool s))] = .tup [num b, .one (.v (.bool t))] := by subst h k; rfl
theorem small_yes {x : Int} (h : -9223372036854775808 ≤ x ∧ x < 9223372036854775808) : o_small x = x ∧ o_fits x = true := ⟨if_pos h, decide_eq_true h⟩
theorem small_no {x : Int} (h : ¬ (-9223372036854775808 ≤ x ∧ x < 9223372036854775808)) : o_small x = 0 ∧ o_fits x = false := ⟨if_neg h, decide_eq_false h⟩
theorem two64 {x : Int} (h : (enc x.natAbs).length ≤ 2) : x.natAbs < 18446744073709551616 := (enc_len _ 2).1 h
theorem more64 {x : Int} (h : ¬ (enc x.natAbs).length ≤ 2) : ¬ x.natAbs < 18446744073709551616 := fun k => h ((enc_len _ 2).2 k)
theorem con32 : Con Tryz.prog 32 spSmall := by
  refine con_flat hmix E13ok (by kernel_rfl) (fn := Tryz.f32) (by kernel_rfl) (fun _ => by kernel_rfl) ?_
  intro avs r ps hsp hps
  unfold spSmall at hsp
  split at hsp
  · rename_i x
    simp only [Option.some.injEq, Prod.mk.injEq] at hsp
    obtain ⟨rfl, rfl⟩ := hsp
    have lx := sz_big hps.1
    refine ⟨rfl, ?_⟩
    by_cases h2 : (enc x.natAbs).length ≤ 2
    · have hk := two64 h2
      have hT : IntKind.wrap IntKind.u64 ((BitVec.ofInt (IntKind.bits IntKind.u64) (IntKind.wrap IntKind.u64 (IntKind.wrap IntKind.u64 ((enc x.natAbs).getD (Int.toNat 1) 0) * (2 : Int) ^ min (Int.toNat 32) (IntKind.bits IntKind.u64))) ||| BitVec.ofInt (IntKind.bits IntKind.u64) (IntKind.wrap IntKind.u64 ((enc x.natAbs).getD (Int.toNat 0) 0))).toNat : Int) = (x.natAbs : Int) := by
        have g1 := nv_getD (words_enc x.natAbs) 1
        have g0 := nv_getD (words_enc x.natAbs) 0
        rw [nv_enc] at g1 g0
        have e := (nv_two (words_enc x.natAbs) h2).1
        rw [nv_enc] at e
        have := or64 (dg x.natAbs 1) (dg x.natAbs 0) (dg_lt _ _) (dg_lt _ _)
        rw [show Int.toNat 1 = 1 from rfl, show Int.toNat 0 = 0 from rfl, g1, g0, this, ← e]
      have hl : decide ((2 : Int) < ((enc x.natAbs).length : Int)) = false := decide_eq_false (by omega)
      by_cases h0 : x < 0
      · by_cases hs : x.natAbs ≤ 9223372036854775808
        · obtain ⟨e1, e2⟩ := small_yes (x := x) (by omega)
          refine ⟨_, _, _, _, run32b x, tupS ?_ e2.symm, ?_⟩
          · rw [hT, e1]; simp only [w64, IntKind.wrap_i64]; omega
          · simp only [AllP, hT, hl, decide_eq_true h0]
            and_intros <;> first | exact trivial | omega | exact decide_eq_true (by omega)
        · obtain ⟨e1, e2⟩ := small_no (x := x) (by omega)
          refine ⟨_, _, _, _, run32e x, tupS e1.symm e2.symm, ?_⟩
          simp only [AllP, hT, hl, decide_eq_true h0]
          and_intros <;> first | exact trivial | omega | exact decide_eq_false (by omega) | rfl
      · by_cases hs : x.natAbs < 9223372036854775808
        · obtain ⟨e1, e2⟩ := small_yes (x := x) (by omega)
          refine ⟨_, _, _, _, run32c x, tupS ?_ e2.symm, ?_⟩
          · rw [hT, e1]; simp only [IntKind.wrap_i64]; omega
          · simp only [AllP, hT, hl, decide_eq_false h0]
            and_intros <;> first | exact trivial | omega | exact decide_eq_true (by omega) | rfl
        · obtain ⟨e1, e2⟩ := small_no (x := x) (by omega)
          refine ⟨_, _, _, _, run32d x, tupS e1.symm e2.symm, ?_⟩
          simp only [AllP, hT, hl, decide_eq_false h0]
          and_intros <;> first | exact trivial | omega | exact decide_eq_false (by omega) | rfl
    · have hk := more64 h2
      obtain ⟨e1, e2⟩ := small_no (x := x) (by omega)
      refine ⟨_, _, _, _, run32a x, tupS e1.symm e2.symm, ?_⟩
      simp only [AllP]
      and_intros <;> first | exact trivial | omega | exact decide_eq_true (by omega)
  · cases hsp
def E14 : List (Nat × Ctr) := (16, .fn (zArgs (spCmpZ))) :: (41, .fn (zArgs (spCmpZ))) :: (19, .fn (zArgs (spZ2 (· - ·)))) :: (43, .fn (zArgs (spZ2 (· - ·)))) :: (76, .fn (zArgs (spZ2 o_rem))) :: (77, .fn (zArgs (spZ2 (· / ·)))) :: (32, .fn (zArgs (spSmall))) :: (23, .fn (spOf)) :: (117, .fn (spNumber)) :: (15, .fn (nilOk spValid)) :: (20, .fn (nilOk spValid)) :: E13
theorem E14ok : EnvOk Tryz.prog E14 := .cons (con_z con16) (.cons (con_z con41) (.cons (con_z con19) (.cons (con_z con43) (.cons (con_z con76) (.cons (con_z con77) (.cons (con_z con32) (.cons con23 (.cons con117 (.cons (con_nil con15) (.cons (con_nil con20) (E13ok)))))))))))

end Go.Proofs.YtkfdnpbpebmhaaaGreatDoor.Spec
namespace Go.Proofs.YtkfdnpbpebmhaaaGreatDoor.Spec
open Go Go.RowKit Sx Num

def o_gcd (a b : Nat) : Nat := Nat.gcd a b
def I45 (c t : Int) : St := ⟨[(4, .s (num c)), (5, .s (u32 t))], []⟩
def F45 (st : St) : Option (Ex × St × List Prop) :=
  match liv st.boxes 0, lk st.tmps 4, lk st.tmps 5 with
  | false, some (.s (.one (.v (.int .i64 c)))), some (.s (.one (.v (.int .u32 t)))) => some (.exit 0, I45 (c + (o_bl t.toNat : Int)) 0, [0 ≤ c ∧ c < 4611686018427387904, isW t])
  | _, _, _ => none
def L45 : Loops := fun k => bif Nat.beq k 6 then some F45 else none

def boxZ (ty : TypeId) (s : Bool) (xs : List Int) : Box := ⟨ty, .cells [.v (.bool s), .row .u32 xs], true⟩
def I21 (ty ty2 : TypeId) (s : Bool) (xs : List Int) (t : Bool) (ys : List Int) (i : Int) : St := ⟨[(2, .s (.one (.ptr 2 0))), (3, .s (.one (.ptr 3 0))), (5, .s (num i))], [(2, boxZ ty s xs), (3, boxZ ty2 t ys)]⟩
def F21 (d : Bool) (st : St) : Option (Ex × St × List Prop) :=
  match liv st.boxes 0, lk st.tmps 2, lk st.tmps 3, lk st.tmps 5, lk st.boxes 2, lk st.boxes 3 with
  | false, some (.s (.one (.ptr 2 0))), some (.s (.one (.ptr 3 0))), some (.s (.one (.v (.int .i64 i)))), some ⟨_, .cells [.v (.bool _), .row .u32 xs], true⟩, some ⟨_, .cells [.v (.bool _), .row .u32 ys], true⟩ =>
    some (bif d then (.exit 0, ⟨[], []⟩, [i = 0 ∧ xs.length = ys.length ∧ Ln xs ∧ xs = ys])
      else (.ret, ⟨[(4, .s (boo false))], []⟩, [i = 0 ∧ xs.length = ys.length ∧ Ln xs ∧ xs ≠ ys]))
  | _, _, _, _, _, _ => none
def L21 (d : Bool) : Loops := fun k => bif Nat.beq k 4 then some (F21 d) else none

def I61 (x n i : Nat) : St := ⟨[(0, .s (roW (enc (x ^ 2 ^ min i (o_bl n - 1))))), (1, .s (num n)), (5, .s (roW (enc (x ^ (n % 2 ^ i))))), (10, .s (num (o_bl n))), (11, .s (num i))], []⟩
def F61 (st : St) : Option (Ex × St × List Prop) :=
  match liv st.boxes 0, lk st.tmps 0, lk st.tmps 1, lk st.tmps 5, lk st.tmps 10, lk st.tmps 11 with
  | false, some (.s (.one (.row .u32 xs))), some (.s (.one (.v (.int .i64 n)))), some (.s (.one (.row .u32 ys))), some (.s (.one (.v (.int .i64 l)))), some (.s (.one (.v (.int .i64 i)))) =>
    some (.exit 0, ⟨[(5, .s (roW (enc (nv xs ^ n.toNat))))], []⟩, [Canon xs, ys = enc 1, 0 ≤ n ∧ n ≤ 100000000, l = o_bl n.toNat, i = 0, xs.length * (n.toNat + 1) ≤ 100000000])
  | _, _, _, _, _, _ => none
def L61 : Loops := fun k => bif Nat.beq k 3 then some F61 else none

def box0 (ty : TypeId) : Box := ⟨ty, .cells [.v (.bool false), .v (.slice none 0 0)], true⟩
def I38 (ty : TypeId) (a b : Nat) : St := ⟨[(4, .s (.one (.ptr 4 0))), (5, .s (roW (enc a))), (6, .s (roW (enc b)))], [(4, box0 ty)]⟩
def F38 (st : St) : Option (Ex × St × List Prop) :=
  match liv st.boxes 0, lk st.tmps 4, lk st.tmps 5, lk st.tmps 6, lk st.boxes 4 with
  | false, some (.s (.one (.ptr 4 0))), some (.s (.one (.row .u32 xs))), some (.s (.one (.row .u32 ys))), some ⟨ty, .cells [.v (.bool false), .v (.slice none 0 0)], true⟩ =>
    some (.exit 0, I38 ty (o_gcd (nv xs) (nv ys)) 0, [Canon xs, Canon ys, xs.length ≤ 100000000, ys.length ≤ 100000000])
  | _, _, _, _, _ => none
def L38 : Loops := fun k => bif Nat.beq k 2 then some F38 else none

/-- Two words are enough, before the rest is 0. -/
def way (a b : Nat) : Bool := if _h : b = 0 then false else if (enc a).length ≤ 2 ∧ (enc b).length ≤ 2 then true else way b (a % b)
termination_by b
decreasing_by exact Nat.mod_lt _ (by omega)
def o_way (a b : Nat) : Bool := way a b
def I79 (a b : Nat) : St := ⟨[(0, .s (roW (enc a))), (1, .s (roW (enc b)))], []⟩
def F79 (d : Bool) (st : St) : Option (Ex × St × List Prop) :=
  match liv st.boxes 0, lk st.tmps 0, lk st.tmps 1 with
  | false, some (.s (.one (.row .u32 xs))), some (.s (.one (.row .u32 ys))) =>
    some (bif d then (.ret, ⟨[(4, .s (roW (enc (o_gcd (nv xs) (nv ys)))))], []⟩, [Canon xs, Canon ys, xs.length ≤ 100000000, ys.length ≤ 100000000, o_way (nv xs) (nv ys) = true])
      else (.exit 0, ⟨[(0, .s (roW (enc (o_gcd (nv xs) (nv ys)))))], []⟩, [Canon xs, Canon ys, xs.length ≤ 100000000, ys.length ≤ 100000000, o_way (nv xs) (nv ys) = false]))
  | _, _, _ => none
def L79 (d : Bool) : Loops := fun k => bif Nat.beq k 1 then some (F79 d) else none
def I116 (a b : Nat) : St := ⟨[(0, .s (u64 a)), (1, .s (u64 b))], []⟩
def F116 (st : St) : Option (Ex × St × List Prop) :=
  match liv st.boxes 0, lk st.tmps 0, lk st.tmps 1 with
  | false, some (.s (.one (.v (.int .u64 a)))), some (.s (.one (.v (.int .u64 b)))) => some (.exit 0, I116 (o_gcd a.toNat b.toNat) 0, [0 ≤ a ∧ a < 18446744073709551616, 0 ≤ b ∧ b < 18446744073709551616])
  | _, _, _ => none
def L116 : Loops := fun k => bif Nat.beq k 1 then some F116 else none
/-- A power, over integers, below an exponent. -/
def spPowZ (m : Int) : Sp
  | [.abs [x], .one (.v (.int .i64 n))] => some (rZ (x ^ n.toNat), [0 ≤ n ∧ n < m, n ≤ 100000000, (enc x.natAbs).length * (n.toNat + 1) ≤ 100000000])
  | _ => none
def spGcd2 : Sp
  | [.one (.v (.int .u64 a)), .one (.v (.int .u64 b))] => some (.s (.one (.v (.int .u64 (o_gcd a.toNat b.toNat : Nat)))), [0 ≤ a ∧ a < 18446744073709551616, 0 ≤ b ∧ b < 18446744073709551616])
  | _ => none
def E14g : List (Nat × Ctr) := (116, .fn spGcd2) :: E14
def E14p (m : Int) : List (Nat × Ctr) := (84, .fn (zArgs (spPowZ m))) :: E14

end Go.Proofs.YtkfdnpbpebmhaaaGreatDoor.Spec
section
set_option maxRecDepth 100000
namespace Go.Proofs.YtkfdnpbpebmhaaaGreatDoor.Spec
open Go Go.RowKit Sx Num

theorem loop45a (c t : Int) : codeV Tryz.prog (lk E14) L0 (G1 []) Tryz.f45.ntmps 60 (loopC Tryz.f45 0) [4, 5] [] (I45 c t) = some (Ex.normal, { tmps := [((4 : Nat), AV.s (SV.one (LV.v (Value.int IntKind.i64 (IntKind.wrap IntKind.i64 (c + (1 : Int))))))), ((5 : Nat), AV.s (SV.one (LV.v (Value.int IntKind.u32 (IntKind.wrap IntKind.u32 (Int.tdiv t (2 : Int)))))))], boxes := [] }, [decide ((0 : Int) < t) = true, ¬(2 : Int) = (0 : Int)]) := by kernel_rfl
theorem loop45b (c t : Int) : codeV Tryz.prog (lk E14) L0 (G1 [21]) Tryz.f45.ntmps 60 (loopC Tryz.f45 0) [4, 5] [] (I45 c t) = some (Ex.exit (0 : Nat), { tmps := [((4 : Nat), AV.s (SV.one (LV.v (Value.int IntKind.i64 c)))), ((5 : Nat), AV.s (SV.one (LV.v (Value.int IntKind.u32 t))))], boxes := [] }, [decide ((0 : Int) < t) = false]) := by kernel_rfl
theorem run45a (x : Int) : fnEx Tryz.prog (lk E14) L45 (G1 []) 60 Tryz.f45 [.abs [x]] = some (AV.s (SV.one (LV.v (Value.int IntKind.i64 (0 : Int)))), [decide ((↑(List.length (enc (Int.natAbs x))) : Int) = (0 : Int)) = true]) := by kernel_rfl
theorem run45b (x : Int) : fnEx Tryz.prog (lk E14) L45 (G1 [10]) 60 Tryz.f45 [.abs [x]] = some (AV.s (SV.one (LV.v (Value.int IntKind.i64 (IntKind.wrap IntKind.i64 ((32 : Int) * IntKind.wrap IntKind.i64 ((↑(List.length (enc (Int.natAbs x))) : Int) - (1 : Int))) + (↑(o_bl (Int.toNat (List.getD (enc (Int.natAbs x)) (Int.toNat (IntKind.wrap IntKind.i64 ((↑(List.length (enc (Int.natAbs x))) : Int) - (1 : Int)))) (0 : Int)))) : Int))))), [decide ((↑(List.length (enc (Int.natAbs x))) : Int) = (0 : Int)) = false, (0 : Int) ≤ IntKind.wrap IntKind.i64 ((↑(List.length (enc (Int.natAbs x))) : Int) - (1 : Int)) ∧ IntKind.wrap IntKind.i64 ((↑(List.length (enc (Int.natAbs x))) : Int) - (1 : Int)) < (↑(List.length (enc (Int.natAbs x))) : Int), (0 : Int) ≤ IntKind.wrap IntKind.i64 ((32 : Int) * IntKind.wrap IntKind.i64 ((↑(List.length (enc (Int.natAbs x))) : Int) - (1 : Int))) ∧ IntKind.wrap IntKind.i64 ((32 : Int) * IntKind.wrap IntKind.i64 ((↑(List.length (enc (Int.natAbs x))) : Int) - (1 : Int))) < (4611686018427387904 : Int), isW (List.getD (enc (Int.natAbs x)) (Int.toNat (IntKind.wrap IntKind.i64 ((↑(List.length (enc (Int.natAbs x))) : Int) - (1 : Int)))) (0 : Int))]) := by kernel_rfl
theorem loop21a (ty ty2 : TypeId) (s : Bool) (xs : List Int) (t : Bool) (ys : List Int) (i : Int) : codeV Tryz.prog (lk E14) L0 (G1 []) Tryz.f21.ntmps 60 (loopC Tryz.f21 0) [4] [] (I21 ty ty2 s xs t ys i) = some (Ex.ret, { tmps := [((4 : Nat), AV.s (SV.one (LV.v (Value.bool false))))], boxes := [] }, [decide (i < (↑(List.length xs) : Int)) = true, (0 : Int) ≤ i ∧ i < (↑(List.length xs) : Int), (0 : Int) ≤ i ∧ i < (↑(List.length ys) : Int), (cond.match_1 (fun _x => Bool) (decide (List.getD xs (Int.toNat i) (0 : Int) = List.getD ys (Int.toNat i) (0 : Int))) (fun _ => false) fun _ => true) = true]) := by kernel_rfl
theorem loop21b (ty ty2 : TypeId) (s : Bool) (xs : List Int) (t : Bool) (ys : List Int) (i : Int) : codeV Tryz.prog (lk E14) L0 (G1 [37]) Tryz.f21.ntmps 60 (loopC Tryz.f21 0) [2, 3, 5] [2, 3] (I21 ty ty2 s xs t ys i) = some (Ex.normal, { tmps := [((2 : Nat), AV.s (SV.one (LV.ptr (2 : Nat) (0 : Nat)))), ((3 : Nat), AV.s (SV.one (LV.ptr (3 : Nat) (0 : Nat)))), ((5 : Nat), AV.s (SV.one (LV.v (Value.int IntKind.i64 (IntKind.wrap IntKind.i64 (i + (1 : Int)))))))], boxes := [((2 : Nat), { ty := ty, bc := BC.cells [LV.v (Value.bool s), LV.row EK.u32 xs], mut_ := true }), ((3 : Nat), { ty := ty2, bc := BC.cells [LV.v (Value.bool t), LV.row EK.u32 ys], mut_ := true })] }, [decide (i < (↑(List.length xs) : Int)) = true, (0 : Int) ≤ i ∧ i < (↑(List.length xs) : Int), (0 : Int) ≤ i ∧ i < (↑(List.length ys) : Int), (cond.match_1 (fun _x => Bool) (decide (List.getD xs (Int.toNat i) (0 : Int) = List.getD ys (Int.toNat i) (0 : Int))) (fun _ => false) fun _ => true) = false]) := by kernel_rfl
theorem loop21c (ty ty2 : TypeId) (s : Bool) (xs : List Int) (t : Bool) (ys : List Int) (i : Int) : codeV Tryz.prog (lk E14) L0 (G1 [24]) Tryz.f21.ntmps 60 (loopC Tryz.f21 0) [] [] (I21 ty ty2 s xs t ys i) = some (Ex.exit (0 : Nat), { tmps := [], boxes := [] }, [decide (i < (↑(List.length xs) : Int)) = false]) := by kernel_rfl
theorem run21a (x y : Int) : fnEx Tryz.prog (lk E14) (L21 true) (G1 []) 60 Tryz.f21 [.abs [x], .abs [y]] = some (AV.s (SV.one (LV.v (Value.bool false))), [(cond.match_1 (fun _x => Bool) (decide (decide (x < (0 : Int)) = decide (y < (0 : Int)))) (fun _ => false) fun _ => true) = true, (cond.match_1 (fun _x => Bool) (decide (decide (x < (0 : Int)) = decide (y < (0 : Int)))) (fun _ => false) fun _ => true) = true, (cond.match_1 (fun _x => Bool) (decide (decide (x < (0 : Int)) = decide (y < (0 : Int)))) (fun _ => false) fun _ => true) = true, (cond.match_1 (fun _x => Bool) (decide (decide (x < (0 : Int)) = decide (y < (0 : Int)))) (fun _ => false) fun _ => true) = true, (cond.match_1 (fun _x => Bool) (decide (decide (x < (0 : Int)) = decide (y < (0 : Int)))) (fun _ => false) fun _ => true) = true, (cond.match_1 (fun _x => Bool) (decide (decide (x < (0 : Int)) = decide (y < (0 : Int)))) (fun _ => false) fun _ => true) = true, (cond.match_1 (fun _x => Bool) (decide (decide (x < (0 : Int)) = decide (y < (0 : Int)))) (fun _ => false) fun _ => true) = true, (cond.match_1 (fun _x => Bool) (decide (decide (x < (0 : Int)) = decide (y < (0 : Int)))) (fun _ => false) fun _ => true) = true, true = true]) := by kernel_rfl
theorem run21b (x y : Int) : fnEx Tryz.prog (lk E14) (L21 true) (G1 [10, 11]) 60 Tryz.f21 [.abs [x], .abs [y]] = some (AV.s (SV.one (LV.v (Value.bool false))), [(cond.match_1 (fun _x => Bool) (decide (decide (x < (0 : Int)) = decide (y < (0 : Int)))) (fun _ => false) fun _ => true) = false, (cond.match_1 (fun _x => Bool) (decide (decide (x < (0 : Int)) = decide (y < (0 : Int)))) (fun _ => false) fun _ => true) = false, (cond.match_1 (fun _x => Bool) (decide (decide (x < (0 : Int)) = decide (y < (0 : Int)))) (fun _ => false) fun _ => true) = false, (cond.match_1 (fun _x => Bool) (decide (decide (x < (0 : Int)) = decide (y < (0 : Int)))) (fun _ => false) fun _ => true) = false, (cond.match_1 (fun _x => Bool) (decide (decide (x < (0 : Int)) = decide (y < (0 : Int)))) (fun _ => false) fun _ => true) = false, (cond.match_1 (fun _x => Bool) (decide (decide (x < (0 : Int)) = decide (y < (0 : Int)))) (fun _ => false) fun _ => true) = false, (cond.match_1 (fun _x => Bool) (decide (decide (x < (0 : Int)) = decide (y < (0 : Int)))) (fun _ => false) fun _ => true) = false, (cond.match_1 (fun _x => Bool) (decide (decide (x < (0 : Int)) = decide (y < (0 : Int)))) (fun _ => false) fun _ => true) = false, (cond.match_1 (fun _x => Bool) (decide ((↑(List.length (enc (Int.natAbs x))) : Int) = (↑(List.length (enc (Int.natAbs y))) : Int))) (fun _ => false) fun _ => true) = true]) := by kernel_rfl
theorem run21c (x y : Int) : fnEx Tryz.prog (lk E14) (L21 true) (G1 [10, 11, 19]) 60 Tryz.f21 [.abs [x], .abs [y]] = some (AV.s (SV.one (LV.v (Value.bool true))), [(cond.match_1 (fun _x => Bool) (decide (decide (x < (0 : Int)) = decide (y < (0 : Int)))) (fun _ => false) fun _ => true) = false, (cond.match_1 (fun _x => Bool) (decide (decide (x < (0 : Int)) = decide (y < (0 : Int)))) (fun _ => false) fun _ => true) = false, (cond.match_1 (fun _x => Bool) (decide (decide (x < (0 : Int)) = decide (y < (0 : Int)))) (fun _ => false) fun _ => true) = false, (cond.match_1 (fun _x => Bool) (decide (decide (x < (0 : Int)) = decide (y < (0 : Int)))) (fun _ => false) fun _ => true) = false, (cond.match_1 (fun _x => Bool) (decide (decide (x < (0 : Int)) = decide (y < (0 : Int)))) (fun _ => false) fun _ => true) = false, (cond.match_1 (fun _x => Bool) (decide (decide (x < (0 : Int)) = decide (y < (0 : Int)))) (fun _ => false) fun _ => true) = false, (cond.match_1 (fun _x => Bool) (decide (decide (x < (0 : Int)) = decide (y < (0 : Int)))) (fun _ => false) fun _ => true) = false, (cond.match_1 (fun _x => Bool) (decide (decide (x < (0 : Int)) = decide (y < (0 : Int)))) (fun _ => false) fun _ => true) = false, (cond.match_1 (fun _x => Bool) (decide ((↑(List.length (enc (Int.natAbs x))) : Int) = (↑(List.length (enc (Int.natAbs y))) : Int))) (fun _ => false) fun _ => true) = false, (0 : Int) = (0 : Int) ∧ List.length (enc (Int.natAbs x)) = List.length (enc (Int.natAbs y)) ∧ Ln (enc (Int.natAbs x)) ∧ enc (Int.natAbs x) = enc (Int.natAbs y)]) := by kernel_rfl
theorem run21d (x y : Int) : fnEx Tryz.prog (lk E14) (L21 false) (G1 [10, 11, 19]) 60 Tryz.f21 [.abs [x], .abs [y]] = some (AV.s (SV.one (LV.v (Value.bool false))), [(cond.match_1 (fun _x => Bool) (decide (decide (x < (0 : Int)) = decide (y < (0 : Int)))) (fun _ => false) fun _ => true) = false, (cond.match_1 (fun _x => Bool) (decide (decide (x < (0 : Int)) = decide (y < (0 : Int)))) (fun _ => false) fun _ => true) = false, (cond.match_1 (fun _x => Bool) (decide (decide (x < (0 : Int)) = decide (y < (0 : Int)))) (fun _ => false) fun _ => true) = false, (cond.match_1 (fun _x => Bool) (decide (decide (x < (0 : Int)) = decide (y < (0 : Int)))) (fun _ => false) fun _ => true) = false, (cond.match_1 (fun _x => Bool) (decide (decide (x < (0 : Int)) = decide (y < (0 : Int)))) (fun _ => false) fun _ => true) = false, (cond.match_1 (fun _x => Bool) (decide (decide (x < (0 : Int)) = decide (y < (0 : Int)))) (fun _ => false) fun _ => true) = false, (cond.match_1 (fun _x => Bool) (decide (decide (x < (0 : Int)) = decide (y < (0 : Int)))) (fun _ => false) fun _ => true) = false, (cond.match_1 (fun _x => Bool) (decide (decide (x < (0 : Int)) = decide (y < (0 : Int)))) (fun _ => false) fun _ => true) = false, (cond.match_1 (fun _x => Bool) (decide ((↑(List.length (enc (Int.natAbs x))) : Int) = (↑(List.length (enc (Int.natAbs y))) : Int))) (fun _ => false) fun _ => true) = false, (0 : Int) = (0 : Int) ∧ List.length (enc (Int.natAbs x)) = List.length (enc (Int.natAbs y)) ∧ Ln (enc (Int.natAbs x)) ∧ ¬enc (Int.natAbs x) = enc (Int.natAbs y)]) := by kernel_rfl
theorem loop61a (x n i : Nat) : codeV Tryz.prog (lk E14) L0 (G1 []) Tryz.f61.ntmps 60 (loopC Tryz.f61 0) [0, 1, 5, 10, 11] [] (I61 x n i) = some (Ex.normal, { tmps := [((0 : Nat), AV.s (SV.one (LV.row EK.u32 (enc (nv (enc (x ^ (2 : Nat) ^ min i (o_bl n - (1 : Nat)))) * nv (enc (x ^ (2 : Nat) ^ min i (o_bl n - (1 : Nat))))))))), ((1 : Nat), AV.s (SV.one (LV.v (Value.int IntKind.i64 (↑n : Int))))), ((5 : Nat), AV.s (SV.one (LV.row EK.u32 (enc (nv (enc (x ^ (n % (2 : Nat) ^ i))) * nv (enc (x ^ (2 : Nat) ^ min i (o_bl n - (1 : Nat))))))))), ((10 : Nat), AV.s (SV.one (LV.v (Value.int IntKind.i64 (↑(o_bl n) : Int))))), ((11 : Nat), AV.s (SV.one (LV.v (Value.int IntKind.i64 (IntKind.wrap IntKind.i64 ((↑i : Int) + (1 : Int)))))))], boxes := [] }, [decide ((↑i : Int) < (↑(o_bl n) : Int)) = true, (0 : Int) ≤ (↑i : Int), decide (IntKind.wrap IntKind.i64 (↑(BitVec.toNat (BitVec.ofInt (IntKind.bits IntKind.i64) (Int.fdiv (↑n : Int) ((2 : Int) ^ min (Int.toNat (↑i : Int)) (IntKind.bits IntKind.i64))) &&& BitVec.ofInt (IntKind.bits IntKind.i64) (1 : Int))) : Int) = (1 : Int)) = true, Words (enc (x ^ (n % (2 : Nat) ^ i))), Words (enc (x ^ (2 : Nat) ^ min i (o_bl n - (1 : Nat)))), List.length (enc (x ^ (n % (2 : Nat) ^ i))) < (137438953472 : Nat), List.length (enc (x ^ (2 : Nat) ^ min i (o_bl n - (1 : Nat)))) < (137438953472 : Nat), (0 : Int) ≤ (↑i : Int), decide ((1 : Int) < Int.fdiv (↑n : Int) ((2 : Int) ^ min (Int.toNat (↑i : Int)) (IntKind.bits IntKind.i64))) = true, Words (enc (x ^ (2 : Nat) ^ min i (o_bl n - (1 : Nat)))), Words (enc (x ^ (2 : Nat) ^ min i (o_bl n - (1 : Nat)))), List.length (enc (x ^ (2 : Nat) ^ min i (o_bl n - (1 : Nat)))) < (137438953472 : Nat), List.length (enc (x ^ (2 : Nat) ^ min i (o_bl n - (1 : Nat)))) < (137438953472 : Nat)]) := by kernel_rfl
theorem loop61b (x n i : Nat) : codeV Tryz.prog (lk E14) L0 (G1 [18]) Tryz.f61.ntmps 60 (loopC Tryz.f61 0) [0, 1, 5, 10, 11] [] (I61 x n i) = some (Ex.normal, { tmps := [((0 : Nat), AV.s (SV.one (LV.row EK.u32 (enc (nv (enc (x ^ (2 : Nat) ^ min i (o_bl n - (1 : Nat)))) * nv (enc (x ^ (2 : Nat) ^ min i (o_bl n - (1 : Nat))))))))), ((1 : Nat), AV.s (SV.one (LV.v (Value.int IntKind.i64 (↑n : Int))))), ((5 : Nat), AV.s (SV.one (LV.row EK.u32 (enc (x ^ (n % (2 : Nat) ^ i)))))), ((10 : Nat), AV.s (SV.one (LV.v (Value.int IntKind.i64 (↑(o_bl n) : Int))))), ((11 : Nat), AV.s (SV.one (LV.v (Value.int IntKind.i64 (IntKind.wrap IntKind.i64 ((↑i : Int) + (1 : Int)))))))], boxes := [] }, [decide ((↑i : Int) < (↑(o_bl n) : Int)) = true, (0 : Int) ≤ (↑i : Int), decide (IntKind.wrap IntKind.i64 (↑(BitVec.toNat (BitVec.ofInt (IntKind.bits IntKind.i64) (Int.fdiv (↑n : Int) ((2 : Int) ^ min (Int.toNat (↑i : Int)) (IntKind.bits IntKind.i64))) &&& BitVec.ofInt (IntKind.bits IntKind.i64) (1 : Int))) : Int) = (1 : Int)) = false, (0 : Int) ≤ (↑i : Int), decide ((1 : Int) < Int.fdiv (↑n : Int) ((2 : Int) ^ min (Int.toNat (↑i : Int)) (IntKind.bits IntKind.i64))) = true, Words (enc (x ^ (2 : Nat) ^ min i (o_bl n - (1 : Nat)))), Words (enc (x ^ (2 : Nat) ^ min i (o_bl n - (1 : Nat)))), List.length (enc (x ^ (2 : Nat) ^ min i (o_bl n - (1 : Nat)))) < (137438953472 : Nat), List.length (enc (x ^ (2 : Nat) ^ min i (o_bl n - (1 : Nat)))) < (137438953472 : Nat)]) := by kernel_rfl
theorem loop61c (x n i : Nat) : codeV Tryz.prog (lk E14) L0 (G1 [25]) Tryz.f61.ntmps 60 (loopC Tryz.f61 0) [0, 1, 5, 10, 11] [] (I61 x n i) = some (Ex.normal, { tmps := [((0 : Nat), AV.s (SV.one (LV.row EK.u32 (enc (x ^ (2 : Nat) ^ min i (o_bl n - (1 : Nat))))))), ((1 : Nat), AV.s (SV.one (LV.v (Value.int IntKind.i64 (↑n : Int))))), ((5 : Nat), AV.s (SV.one (LV.row EK.u32 (enc (nv (enc (x ^ (n % (2 : Nat) ^ i))) * nv (enc (x ^ (2 : Nat) ^ min i (o_bl n - (1 : Nat))))))))), ((10 : Nat), AV.s (SV.one (LV.v (Value.int IntKind.i64 (↑(o_bl n) : Int))))), ((11 : Nat), AV.s (SV.one (LV.v (Value.int IntKind.i64 (IntKind.wrap IntKind.i64 ((↑i : Int) + (1 : Int)))))))], boxes := [] }, [decide ((↑i : Int) < (↑(o_bl n) : Int)) = true, (0 : Int) ≤ (↑i : Int), decide (IntKind.wrap IntKind.i64 (↑(BitVec.toNat (BitVec.ofInt (IntKind.bits IntKind.i64) (Int.fdiv (↑n : Int) ((2 : Int) ^ min (Int.toNat (↑i : Int)) (IntKind.bits IntKind.i64))) &&& BitVec.ofInt (IntKind.bits IntKind.i64) (1 : Int))) : Int) = (1 : Int)) = true, Words (enc (x ^ (n % (2 : Nat) ^ i))), Words (enc (x ^ (2 : Nat) ^ min i (o_bl n - (1 : Nat)))), List.length (enc (x ^ (n % (2 : Nat) ^ i))) < (137438953472 : Nat), List.length (enc (x ^ (2 : Nat) ^ min i (o_bl n - (1 : Nat)))) < (137438953472 : Nat), (0 : Int) ≤ (↑i : Int), decide ((1 : Int) < Int.fdiv (↑n : Int) ((2 : Int) ^ min (Int.toNat (↑i : Int)) (IntKind.bits IntKind.i64))) = false]) := by kernel_rfl
theorem loop61d (x n i : Nat) : codeV Tryz.prog (lk E14) L0 (G1 [12]) Tryz.f61.ntmps 60 (loopC Tryz.f61 0) [5] [] (I61 x n i) = some (Ex.exit (0 : Nat), { tmps := [((5 : Nat), AV.s (SV.one (LV.row EK.u32 (enc (x ^ (n % (2 : Nat) ^ i))))))], boxes := [] }, [decide ((↑i : Int) < (↑(o_bl n) : Int)) = false]) := by kernel_rfl
theorem run61 (xs : List Int) (n : Int) : fnEx Tryz.prog (lk E14) L61 (G1 []) 60 Tryz.f61 [.one (.row .u32 xs), num n] = some (AV.s (SV.one (LV.row EK.u32 (enc (nv xs ^ Int.toNat n)))), [(0 : Int) ≤ (1 : Int) ∧ (1 : Int) < (18446744073709551616 : Int), (0 : Int) ≤ IntKind.wrap IntKind.u64 n ∧ IntKind.wrap IntKind.u64 n ≤ (18446744073709551615 : Int), Canon xs, enc (Int.toNat (1 : Int)) = enc (1 : Nat), (0 : Int) ≤ n ∧ n ≤ (100000000 : Int), (↑(o_bl (Int.toNat (IntKind.wrap IntKind.u64 n))) : Int) = (↑(o_bl (Int.toNat n)) : Int), (0 : Int) = (0 : Int), List.length xs * (Int.toNat n + (1 : Nat)) ≤ (100000000 : Nat)]) := by kernel_rfl
theorem loop38a (ty : TypeId) (a b : Nat) : codeV Tryz.prog (lk E14) L0 (G1 []) Tryz.f38.ntmps 60 (loopC Tryz.f38 0) [4, 5, 6] [4] (I38 ty a b) = some (Ex.normal, { tmps := [((4 : Nat), AV.s (SV.one (LV.ptr (4 : Nat) (0 : Nat)))), ((5 : Nat), AV.s (SV.one (LV.row EK.u32 (enc b)))), ((6 : Nat), AV.s (SV.one (LV.row EK.u32 (enc (nv (enc a) % nv (enc b))))))], boxes := [((4 : Nat), { ty := ty, bc := BC.cells [LV.v (Value.bool false), LV.v (Value.slice none (0 : Nat) (0 : Nat))], mut_ := true })] }, [decide ((0 : Int) < (↑(List.length (enc b)) : Int)) = true, Canon (enc a), Canon (enc b), (0 : Nat) < List.length (enc b), List.length (enc a) < (137438953471 : Nat), List.length (enc b) < (137438953471 : Nat)]) := by kernel_rfl
theorem loop38b (ty : TypeId) (a b : Nat) : codeV Tryz.prog (lk E14) L0 (G1 [15]) Tryz.f38.ntmps 60 (loopC Tryz.f38 0) [4, 5, 6] [4] (I38 ty a b) = some (Ex.exit (0 : Nat), { tmps := [((4 : Nat), AV.s (SV.one (LV.ptr (4 : Nat) (0 : Nat)))), ((5 : Nat), AV.s (SV.one (LV.row EK.u32 (enc a)))), ((6 : Nat), AV.s (SV.one (LV.row EK.u32 (enc b))))], boxes := [((4 : Nat), { ty := ty, bc := BC.cells [LV.v (Value.bool false), LV.v (Value.slice none (0 : Nat) (0 : Nat))], mut_ := true })] }, [decide ((0 : Int) < (↑(List.length (enc b)) : Int)) = false]) := by kernel_rfl
theorem run38 (x y : Int) : fnEx Tryz.prog (lk E14) L38 (G1 []) 60 Tryz.f38 [.abs [x], .abs [y]] = some (AV.s (SV.agg [LV.v (Value.bool (decide (o_toI false (enc (o_gcd (nv (enc (Int.natAbs x))) (nv (enc (Int.natAbs y))))) < (0 : Int)))), LV.row EK.u32 (enc (Int.natAbs (o_toI false (enc (o_gcd (nv (enc (Int.natAbs x))) (nv (enc (Int.natAbs y))))))))]), [Canon (enc (Int.natAbs x)), Canon (enc (Int.natAbs y)), List.length (enc (Int.natAbs x)) ≤ (100000000 : Nat), List.length (enc (Int.natAbs y)) ≤ (100000000 : Nat), Words (enc (o_gcd (nv (enc (Int.natAbs x))) (nv (enc (Int.natAbs y))))), Ln (enc (o_gcd (nv (enc (Int.natAbs x))) (nv (enc (Int.natAbs y)))))]) := by kernel_rfl
theorem loop116a (a b : Nat) : codeV Tryz.prog (lk E14) L0 (G1 []) Tryz.f116.ntmps 60 (loopC Tryz.f116 0) [0, 1] [] (I116 a b) = some (Ex.normal, { tmps := [((0 : Nat), AV.s (SV.one (LV.v (Value.int IntKind.u64 (↑b : Int))))), ((1 : Nat), AV.s (SV.one (LV.v (Value.int IntKind.u64 (Int.tmod (↑a : Int) (↑b : Int))))))], boxes := [] }, [decide ((0 : Int) < (↑b : Int)) = true, ¬(↑b : Int) = (0 : Int)]) := by kernel_rfl
theorem loop116b (a b : Nat) : codeV Tryz.prog (lk E14) L0 (G1 [7]) Tryz.f116.ntmps 60 (loopC Tryz.f116 0) [0, 1] [] (I116 a b) = some (Ex.exit (0 : Nat), { tmps := [((0 : Nat), AV.s (SV.one (LV.v (Value.int IntKind.u64 (↑a : Int))))), ((1 : Nat), AV.s (SV.one (LV.v (Value.int IntKind.u64 (↑b : Int)))))], boxes := [] }, [decide ((0 : Int) < (↑b : Int)) = false]) := by kernel_rfl
theorem run116 (x y : Int) : fnEx Tryz.prog (lk E14) L116 (G1 []) 60 Tryz.f116 [.one (.v (.int .u64 x)), .one (.v (.int .u64 y))] = some (AV.s (SV.one (LV.v (Value.int IntKind.u64 (↑(o_gcd (Int.toNat x) (Int.toNat y)) : Int)))), [(0 : Int) ≤ x ∧ x < (18446744073709551616 : Int), (0 : Int) ≤ y ∧ y < (18446744073709551616 : Int)]) := by kernel_rfl
theorem loop79a (a b : Nat) : codeV Tryz.prog (lk E14g) L0 (G1 []) Tryz.f79.ntmps 60 (loopC Tryz.f79 0) [4] [] (I79 a b) = some (Ex.ret, { tmps := [((4 : Nat), AV.s (SV.one (LV.row EK.u32 (enc (Int.toNat (↑(o_gcd (Int.toNat (↑(nv (enc a)) : Int)) (Int.toNat (↑(nv (enc b)) : Int))) : Int))))))], boxes := [] }, [decide ((0 : Int) < (↑(List.length (enc b)) : Int)) = true, decide ((↑(List.length (enc a)) : Int) ≤ (2 : Int)) = true, decide ((↑(List.length (enc a)) : Int) ≤ (2 : Int)) = true, decide ((↑(List.length (enc a)) : Int) ≤ (2 : Int)) = true, decide ((↑(List.length (enc a)) : Int) ≤ (2 : Int)) = true, decide ((↑(List.length (enc b)) : Int) ≤ (2 : Int)) = true, Words (enc a), List.length (enc a) ≤ (2 : Nat), Words (enc b), List.length (enc b) ≤ (2 : Nat), (0 : Int) ≤ (↑(nv (enc a)) : Int) ∧ (↑(nv (enc a)) : Int) < (18446744073709551616 : Int), (0 : Int) ≤ (↑(nv (enc b)) : Int) ∧ (↑(nv (enc b)) : Int) < (18446744073709551616 : Int), (0 : Int) ≤ (↑(o_gcd (Int.toNat (↑(nv (enc a)) : Int)) (Int.toNat (↑(nv (enc b)) : Int))) : Int) ∧ (↑(o_gcd (Int.toNat (↑(nv (enc a)) : Int)) (Int.toNat (↑(nv (enc b)) : Int))) : Int) < (18446744073709551616 : Int)]) := by kernel_rfl
theorem loop79b (a b : Nat) : codeV Tryz.prog (lk E14g) L0 (G1 [13, 17]) Tryz.f79.ntmps 60 (loopC Tryz.f79 0) [0, 1] [] (I79 a b) = some (Ex.normal, { tmps := [((0 : Nat), AV.s (SV.one (LV.row EK.u32 (enc b)))), ((1 : Nat), AV.s (SV.one (LV.row EK.u32 (enc (nv (enc a) % nv (enc b))))))], boxes := [] }, [decide ((0 : Int) < (↑(List.length (enc b)) : Int)) = true, decide ((↑(List.length (enc a)) : Int) ≤ (2 : Int)) = false, decide ((↑(List.length (enc a)) : Int) ≤ (2 : Int)) = false, decide ((↑(List.length (enc a)) : Int) ≤ (2 : Int)) = false, decide ((↑(List.length (enc a)) : Int) ≤ (2 : Int)) = false, false = false, Canon (enc a), Canon (enc b), (0 : Nat) < List.length (enc b), List.length (enc a) < (137438953471 : Nat), List.length (enc b) < (137438953471 : Nat)]) := by kernel_rfl
theorem loop79c (a b : Nat) : codeV Tryz.prog (lk E14g) L0 (G1 [17]) Tryz.f79.ntmps 60 (loopC Tryz.f79 0) [0, 1] [] (I79 a b) = some (Ex.normal, { tmps := [((0 : Nat), AV.s (SV.one (LV.row EK.u32 (enc b)))), ((1 : Nat), AV.s (SV.one (LV.row EK.u32 (enc (nv (enc a) % nv (enc b))))))], boxes := [] }, [decide ((0 : Int) < (↑(List.length (enc b)) : Int)) = true, decide ((↑(List.length (enc a)) : Int) ≤ (2 : Int)) = true, decide ((↑(List.length (enc a)) : Int) ≤ (2 : Int)) = true, decide ((↑(List.length (enc a)) : Int) ≤ (2 : Int)) = true, decide ((↑(List.length (enc a)) : Int) ≤ (2 : Int)) = true, decide ((↑(List.length (enc b)) : Int) ≤ (2 : Int)) = false, Canon (enc a), Canon (enc b), (0 : Nat) < List.length (enc b), List.length (enc a) < (137438953471 : Nat), List.length (enc b) < (137438953471 : Nat)]) := by kernel_rfl
theorem loop79d (a b : Nat) : codeV Tryz.prog (lk E14g) L0 (G1 [9]) Tryz.f79.ntmps 60 (loopC Tryz.f79 0) [0] [] (I79 a b) = some (Ex.exit (0 : Nat), { tmps := [((0 : Nat), AV.s (SV.one (LV.row EK.u32 (enc a))))], boxes := [] }, [decide ((0 : Int) < (↑(List.length (enc b)) : Int)) = false]) := by kernel_rfl
theorem run79a (xs ys : List Int) : fnEx Tryz.prog (lk E14g) (L79 true) (G1 []) 60 Tryz.f79 [.one (.row .u32 xs), .one (.row .u32 ys)] = some (AV.s (SV.one (LV.row EK.u32 (enc (o_gcd (nv xs) (nv ys))))), [Canon xs, Canon ys, List.length xs ≤ (100000000 : Nat), List.length ys ≤ (100000000 : Nat), o_way (nv xs) (nv ys) = true]) := by kernel_rfl
theorem run79b (xs ys : List Int) : fnEx Tryz.prog (lk E14g) (L79 false) (G1 []) 60 Tryz.f79 [.one (.row .u32 xs), .one (.row .u32 ys)] = some (AV.s (SV.one (LV.row EK.u32 (enc (o_gcd (nv xs) (nv ys))))), [Canon xs, Canon ys, List.length xs ≤ (100000000 : Nat), List.length ys ≤ (100000000 : Nat), o_way (nv xs) (nv ys) = false]) := by kernel_rfl
theorem run84a (m x n : Int) : fnEx Tryz.prog (lk (E14p m)) L0 (G1 []) 60 Tryz.f84 [.abs [x], num n] = some (AV.s (SV.agg [LV.v (Value.bool (decide ((1 : Int) < (0 : Int)))), LV.row EK.u32 (enc (Int.natAbs (1 : Int)))]), [decide (n = (0 : Int)) = true, (-9223372036854775808 : Int) ≤ (1 : Int) ∧ (1 : Int) < (9223372036854775808 : Int)]) := by kernel_rfl
theorem run84b (m x n : Int) : fnEx Tryz.prog (lk (E14p m)) L0 (G1 [8]) 60 Tryz.f84 [.abs [x], num n] = some (AV.s (SV.agg [LV.v (Value.bool (decide (o_toI (decide ((fun x1 x2 => x1 * x2) (o_toI (decide (o_toI (decide (x < (0 : Int))) (enc (Int.natAbs x)) ^ Int.toNat (IntKind.wrap IntKind.i64 (Int.tdiv n (2 : Int))) < (0 : Int))) (enc (Int.natAbs (o_toI (decide (x < (0 : Int))) (enc (Int.natAbs x)) ^ Int.toNat (IntKind.wrap IntKind.i64 (Int.tdiv n (2 : Int))))))) (o_toI (decide (o_toI (decide (x < (0 : Int))) (enc (Int.natAbs x)) ^ Int.toNat (IntKind.wrap IntKind.i64 (Int.tdiv n (2 : Int))) < (0 : Int))) (enc (Int.natAbs (o_toI (decide (x < (0 : Int))) (enc (Int.natAbs x)) ^ Int.toNat (IntKind.wrap IntKind.i64 (Int.tdiv n (2 : Int))))))) < (0 : Int))) (enc (Int.natAbs ((fun x1 x2 => x1 * x2) (o_toI (decide (o_toI (decide (x < (0 : Int))) (enc (Int.natAbs x)) ^ Int.toNat (IntKind.wrap IntKind.i64 (Int.tdiv n (2 : Int))) < (0 : Int))) (enc (Int.natAbs (o_toI (decide (x < (0 : Int))) (enc (Int.natAbs x)) ^ Int.toNat (IntKind.wrap IntKind.i64 (Int.tdiv n (2 : Int))))))) (o_toI (decide (o_toI (decide (x < (0 : Int))) (enc (Int.natAbs x)) ^ Int.toNat (IntKind.wrap IntKind.i64 (Int.tdiv n (2 : Int))) < (0 : Int))) (enc (Int.natAbs (o_toI (decide (x < (0 : Int))) (enc (Int.natAbs x)) ^ Int.toNat (IntKind.wrap IntKind.i64 (Int.tdiv n (2 : Int)))))))))) * o_toI (decide (x < (0 : Int))) (enc (Int.natAbs x)) < (0 : Int)))), LV.row EK.u32 (enc (Int.natAbs ((fun x1 x2 => x1 * x2) (o_toI (decide ((fun x1 x2 => x1 * x2) (o_toI (decide (o_toI (decide (x < (0 : Int))) (enc (Int.natAbs x)) ^ Int.toNat (IntKind.wrap IntKind.i64 (Int.tdiv n (2 : Int))) < (0 : Int))) (enc (Int.natAbs (o_toI (decide (x < (0 : Int))) (enc (Int.natAbs x)) ^ Int.toNat (IntKind.wrap IntKind.i64 (Int.tdiv n (2 : Int))))))) (o_toI (decide (o_toI (decide (x < (0 : Int))) (enc (Int.natAbs x)) ^ Int.toNat (IntKind.wrap IntKind.i64 (Int.tdiv n (2 : Int))) < (0 : Int))) (enc (Int.natAbs (o_toI (decide (x < (0 : Int))) (enc (Int.natAbs x)) ^ Int.toNat (IntKind.wrap IntKind.i64 (Int.tdiv n (2 : Int))))))) < (0 : Int))) (enc (Int.natAbs ((fun x1 x2 => x1 * x2) (o_toI (decide (o_toI (decide (x < (0 : Int))) (enc (Int.natAbs x)) ^ Int.toNat (IntKind.wrap IntKind.i64 (Int.tdiv n (2 : Int))) < (0 : Int))) (enc (Int.natAbs (o_toI (decide (x < (0 : Int))) (enc (Int.natAbs x)) ^ Int.toNat (IntKind.wrap IntKind.i64 (Int.tdiv n (2 : Int))))))) (o_toI (decide (o_toI (decide (x < (0 : Int))) (enc (Int.natAbs x)) ^ Int.toNat (IntKind.wrap IntKind.i64 (Int.tdiv n (2 : Int))) < (0 : Int))) (enc (Int.natAbs (o_toI (decide (x < (0 : Int))) (enc (Int.natAbs x)) ^ Int.toNat (IntKind.wrap IntKind.i64 (Int.tdiv n (2 : Int))))))))))) (o_toI (decide (x < (0 : Int))) (enc (Int.natAbs x))))))]), [decide (n = (0 : Int)) = false, ¬(2 : Int) = (0 : Int), o_ok (decide (x < (0 : Int))) (enc (Int.natAbs x)), (0 : Int) ≤ IntKind.wrap IntKind.i64 (Int.tdiv n (2 : Int)) ∧ IntKind.wrap IntKind.i64 (Int.tdiv n (2 : Int)) < m, IntKind.wrap IntKind.i64 (Int.tdiv n (2 : Int)) ≤ (100000000 : Int), List.length (enc (Int.natAbs (o_toI (decide (x < (0 : Int))) (enc (Int.natAbs x))))) * (Int.toNat (IntKind.wrap IntKind.i64 (Int.tdiv n (2 : Int))) + (1 : Nat)) ≤ (100000000 : Nat), o_ok (decide (o_toI (decide (x < (0 : Int))) (enc (Int.natAbs x)) ^ Int.toNat (IntKind.wrap IntKind.i64 (Int.tdiv n (2 : Int))) < (0 : Int))) (enc (Int.natAbs (o_toI (decide (x < (0 : Int))) (enc (Int.natAbs x)) ^ Int.toNat (IntKind.wrap IntKind.i64 (Int.tdiv n (2 : Int)))))), o_ok (decide (o_toI (decide (x < (0 : Int))) (enc (Int.natAbs x)) ^ Int.toNat (IntKind.wrap IntKind.i64 (Int.tdiv n (2 : Int))) < (0 : Int))) (enc (Int.natAbs (o_toI (decide (x < (0 : Int))) (enc (Int.natAbs x)) ^ Int.toNat (IntKind.wrap IntKind.i64 (Int.tdiv n (2 : Int)))))), o_sz big (o_toI (decide (o_toI (decide (x < (0 : Int))) (enc (Int.natAbs x)) ^ Int.toNat (IntKind.wrap IntKind.i64 (Int.tdiv n (2 : Int))) < (0 : Int))) (enc (Int.natAbs (o_toI (decide (x < (0 : Int))) (enc (Int.natAbs x)) ^ Int.toNat (IntKind.wrap IntKind.i64 (Int.tdiv n (2 : Int))))))), o_sz big (o_toI (decide (o_toI (decide (x < (0 : Int))) (enc (Int.natAbs x)) ^ Int.toNat (IntKind.wrap IntKind.i64 (Int.tdiv n (2 : Int))) < (0 : Int))) (enc (Int.natAbs (o_toI (decide (x < (0 : Int))) (enc (Int.natAbs x)) ^ Int.toNat (IntKind.wrap IntKind.i64 (Int.tdiv n (2 : Int))))))), ¬(2 : Int) = (0 : Int), decide (Int.tmod n (2 : Int) = (1 : Int)) = true, o_ok (decide ((fun x1 x2 => x1 * x2) (o_toI (decide (o_toI (decide (x < (0 : Int))) (enc (Int.natAbs x)) ^ Int.toNat (IntKind.wrap IntKind.i64 (Int.tdiv n (2 : Int))) < (0 : Int))) (enc (Int.natAbs (o_toI (decide (x < (0 : Int))) (enc (Int.natAbs x)) ^ Int.toNat (IntKind.wrap IntKind.i64 (Int.tdiv n (2 : Int))))))) (o_toI (decide (o_toI (decide (x < (0 : Int))) (enc (Int.natAbs x)) ^ Int.toNat (IntKind.wrap IntKind.i64 (Int.tdiv n (2 : Int))) < (0 : Int))) (enc (Int.natAbs (o_toI (decide (x < (0 : Int))) (enc (Int.natAbs x)) ^ Int.toNat (IntKind.wrap IntKind.i64 (Int.tdiv n (2 : Int))))))) < (0 : Int))) (enc (Int.natAbs ((fun x1 x2 => x1 * x2) (o_toI (decide (o_toI (decide (x < (0 : Int))) (enc (Int.natAbs x)) ^ Int.toNat (IntKind.wrap IntKind.i64 (Int.tdiv n (2 : Int))) < (0 : Int))) (enc (Int.natAbs (o_toI (decide (x < (0 : Int))) (enc (Int.natAbs x)) ^ Int.toNat (IntKind.wrap IntKind.i64 (Int.tdiv n (2 : Int))))))) (o_toI (decide (o_toI (decide (x < (0 : Int))) (enc (Int.natAbs x)) ^ Int.toNat (IntKind.wrap IntKind.i64 (Int.tdiv n (2 : Int))) < (0 : Int))) (enc (Int.natAbs (o_toI (decide (x < (0 : Int))) (enc (Int.natAbs x)) ^ Int.toNat (IntKind.wrap IntKind.i64 (Int.tdiv n (2 : Int)))))))))), o_ok (decide (x < (0 : Int))) (enc (Int.natAbs x)), o_sz big (o_toI (decide ((fun x1 x2 => x1 * x2) (o_toI (decide (o_toI (decide (x < (0 : Int))) (enc (Int.natAbs x)) ^ Int.toNat (IntKind.wrap IntKind.i64 (Int.tdiv n (2 : Int))) < (0 : Int))) (enc (Int.natAbs (o_toI (decide (x < (0 : Int))) (enc (Int.natAbs x)) ^ Int.toNat (IntKind.wrap IntKind.i64 (Int.tdiv n (2 : Int))))))) (o_toI (decide (o_toI (decide (x < (0 : Int))) (enc (Int.natAbs x)) ^ Int.toNat (IntKind.wrap IntKind.i64 (Int.tdiv n (2 : Int))) < (0 : Int))) (enc (Int.natAbs (o_toI (decide (x < (0 : Int))) (enc (Int.natAbs x)) ^ Int.toNat (IntKind.wrap IntKind.i64 (Int.tdiv n (2 : Int))))))) < (0 : Int))) (enc (Int.natAbs ((fun x1 x2 => x1 * x2) (o_toI (decide (o_toI (decide (x < (0 : Int))) (enc (Int.natAbs x)) ^ Int.toNat (IntKind.wrap IntKind.i64 (Int.tdiv n (2 : Int))) < (0 : Int))) (enc (Int.natAbs (o_toI (decide (x < (0 : Int))) (enc (Int.natAbs x)) ^ Int.toNat (IntKind.wrap IntKind.i64 (Int.tdiv n (2 : Int))))))) (o_toI (decide (o_toI (decide (x < (0 : Int))) (enc (Int.natAbs x)) ^ Int.toNat (IntKind.wrap IntKind.i64 (Int.tdiv n (2 : Int))) < (0 : Int))) (enc (Int.natAbs (o_toI (decide (x < (0 : Int))) (enc (Int.natAbs x)) ^ Int.toNat (IntKind.wrap IntKind.i64 (Int.tdiv n (2 : Int))))))))))), o_sz big (o_toI (decide (x < (0 : Int))) (enc (Int.natAbs x)))]) := by kernel_rfl
theorem run84c (m x n : Int) : fnEx Tryz.prog (lk (E14p m)) L0 (G1 [8, 19]) 60 Tryz.f84 [.abs [x], num n] = some (AV.s (SV.agg [LV.v (Value.bool (decide (o_toI (decide (o_toI (decide (x < (0 : Int))) (enc (Int.natAbs x)) ^ Int.toNat (IntKind.wrap IntKind.i64 (Int.tdiv n (2 : Int))) < (0 : Int))) (enc (Int.natAbs (o_toI (decide (x < (0 : Int))) (enc (Int.natAbs x)) ^ Int.toNat (IntKind.wrap IntKind.i64 (Int.tdiv n (2 : Int)))))) * o_toI (decide (o_toI (decide (x < (0 : Int))) (enc (Int.natAbs x)) ^ Int.toNat (IntKind.wrap IntKind.i64 (Int.tdiv n (2 : Int))) < (0 : Int))) (enc (Int.natAbs (o_toI (decide (x < (0 : Int))) (enc (Int.natAbs x)) ^ Int.toNat (IntKind.wrap IntKind.i64 (Int.tdiv n (2 : Int)))))) < (0 : Int)))), LV.row EK.u32 (enc (Int.natAbs ((fun x1 x2 => x1 * x2) (o_toI (decide (o_toI (decide (x < (0 : Int))) (enc (Int.natAbs x)) ^ Int.toNat (IntKind.wrap IntKind.i64 (Int.tdiv n (2 : Int))) < (0 : Int))) (enc (Int.natAbs (o_toI (decide (x < (0 : Int))) (enc (Int.natAbs x)) ^ Int.toNat (IntKind.wrap IntKind.i64 (Int.tdiv n (2 : Int))))))) (o_toI (decide (o_toI (decide (x < (0 : Int))) (enc (Int.natAbs x)) ^ Int.toNat (IntKind.wrap IntKind.i64 (Int.tdiv n (2 : Int))) < (0 : Int))) (enc (Int.natAbs (o_toI (decide (x < (0 : Int))) (enc (Int.natAbs x)) ^ Int.toNat (IntKind.wrap IntKind.i64 (Int.tdiv n (2 : Int))))))))))]), [decide (n = (0 : Int)) = false, ¬(2 : Int) = (0 : Int), o_ok (decide (x < (0 : Int))) (enc (Int.natAbs x)), (0 : Int) ≤ IntKind.wrap IntKind.i64 (Int.tdiv n (2 : Int)) ∧ IntKind.wrap IntKind.i64 (Int.tdiv n (2 : Int)) < m, IntKind.wrap IntKind.i64 (Int.tdiv n (2 : Int)) ≤ (100000000 : Int), List.length (enc (Int.natAbs (o_toI (decide (x < (0 : Int))) (enc (Int.natAbs x))))) * (Int.toNat (IntKind.wrap IntKind.i64 (Int.tdiv n (2 : Int))) + (1 : Nat)) ≤ (100000000 : Nat), o_ok (decide (o_toI (decide (x < (0 : Int))) (enc (Int.natAbs x)) ^ Int.toNat (IntKind.wrap IntKind.i64 (Int.tdiv n (2 : Int))) < (0 : Int))) (enc (Int.natAbs (o_toI (decide (x < (0 : Int))) (enc (Int.natAbs x)) ^ Int.toNat (IntKind.wrap IntKind.i64 (Int.tdiv n (2 : Int)))))), o_ok (decide (o_toI (decide (x < (0 : Int))) (enc (Int.natAbs x)) ^ Int.toNat (IntKind.wrap IntKind.i64 (Int.tdiv n (2 : Int))) < (0 : Int))) (enc (Int.natAbs (o_toI (decide (x < (0 : Int))) (enc (Int.natAbs x)) ^ Int.toNat (IntKind.wrap IntKind.i64 (Int.tdiv n (2 : Int)))))), o_sz big (o_toI (decide (o_toI (decide (x < (0 : Int))) (enc (Int.natAbs x)) ^ Int.toNat (IntKind.wrap IntKind.i64 (Int.tdiv n (2 : Int))) < (0 : Int))) (enc (Int.natAbs (o_toI (decide (x < (0 : Int))) (enc (Int.natAbs x)) ^ Int.toNat (IntKind.wrap IntKind.i64 (Int.tdiv n (2 : Int))))))), o_sz big (o_toI (decide (o_toI (decide (x < (0 : Int))) (enc (Int.natAbs x)) ^ Int.toNat (IntKind.wrap IntKind.i64 (Int.tdiv n (2 : Int))) < (0 : Int))) (enc (Int.natAbs (o_toI (decide (x < (0 : Int))) (enc (Int.natAbs x)) ^ Int.toNat (IntKind.wrap IntKind.i64 (Int.tdiv n (2 : Int))))))), ¬(2 : Int) = (0 : Int), decide (Int.tmod n (2 : Int) = (1 : Int)) = false]) := by kernel_rfl
theorem run80a (x : Int) : fnEx Tryz.prog (lk E14) L0 (G1 []) 60 Tryz.f80 [.abs [x]] = some (AV.tup [SV.one (LV.v (Value.int IntKind.i64 (0 : Int))), SV.one (LV.v (Value.bool false))], [decide ((2 : Int) < (↑(List.length (enc (Int.natAbs x))) : Int)) = true]) := by kernel_rfl
theorem run80b (x : Int) : fnEx Tryz.prog (lk E14) L0 (G1 [8]) 60 Tryz.f80 [.abs [x]] = some (AV.tup [SV.one (LV.v (Value.int IntKind.i64 (IntKind.wrap IntKind.i64 (↑(nv (enc (Int.natAbs x))) : Int)))), SV.one (LV.v (Value.bool true))], [decide ((2 : Int) < (↑(List.length (enc (Int.natAbs x))) : Int)) = false, Words (enc (Int.natAbs x)), List.length (enc (Int.natAbs x)) ≤ (2 : Nat), (Bool.not (decide (x < (0 : Int)))) = true, (Bool.not (decide (x < (0 : Int)))) = true, (Bool.not (decide (x < (0 : Int)))) = true, decide ((↑(nv (enc (Int.natAbs x))) : Int) < (9223372036854775808 : Int)) = true]) := by kernel_rfl
theorem run80c (x : Int) : fnEx Tryz.prog (lk E14) L0 (G1 [8, 18, 23, 26]) 60 Tryz.f80 [.abs [x]] = some (AV.tup [SV.one (LV.v (Value.int IntKind.i64 (0 : Int))), SV.one (LV.v (Value.bool false))], [decide ((2 : Int) < (↑(List.length (enc (Int.natAbs x))) : Int)) = false, Words (enc (Int.natAbs x)), List.length (enc (Int.natAbs x)) ≤ (2 : Nat), (Bool.not (decide (x < (0 : Int)))) = true, (Bool.not (decide (x < (0 : Int)))) = true, (Bool.not (decide (x < (0 : Int)))) = true, decide ((↑(nv (enc (Int.natAbs x))) : Int) < (9223372036854775808 : Int)) = false, decide (x < (0 : Int)) = false, decide (x < (0 : Int)) = false, decide (x < (0 : Int)) = false, false = false]) := by kernel_rfl
theorem run80d (x : Int) : fnEx Tryz.prog (lk E14) L0 (G1 [8, 15, 18]) 60 Tryz.f80 [.abs [x]] = some (AV.tup [SV.one (LV.v (Value.int IntKind.i64 (IntKind.wrap IntKind.i64 (IntKind.wrap IntKind.i64 ((0 : Int) - IntKind.wrap IntKind.i64 (IntKind.wrap IntKind.u64 ((↑(nv (enc (Int.natAbs x))) : Int) - (1 : Int)))) - (1 : Int))))), SV.one (LV.v (Value.bool true))], [decide ((2 : Int) < (↑(List.length (enc (Int.natAbs x))) : Int)) = false, Words (enc (Int.natAbs x)), List.length (enc (Int.natAbs x)) ≤ (2 : Nat), (Bool.not (decide (x < (0 : Int)))) = false, (Bool.not (decide (x < (0 : Int)))) = false, (Bool.not (decide (x < (0 : Int)))) = false, false = false, decide (x < (0 : Int)) = true, decide (x < (0 : Int)) = true, decide (x < (0 : Int)) = true, decide ((↑(nv (enc (Int.natAbs x))) : Int) ≤ (9223372036854775808 : Int)) = true]) := by kernel_rfl
theorem run80e (x : Int) : fnEx Tryz.prog (lk E14) L0 (G1 [8, 15, 18, 26]) 60 Tryz.f80 [.abs [x]] = some (AV.tup [SV.one (LV.v (Value.int IntKind.i64 (0 : Int))), SV.one (LV.v (Value.bool false))], [decide ((2 : Int) < (↑(List.length (enc (Int.natAbs x))) : Int)) = false, Words (enc (Int.natAbs x)), List.length (enc (Int.natAbs x)) ≤ (2 : Nat), (Bool.not (decide (x < (0 : Int)))) = false, (Bool.not (decide (x < (0 : Int)))) = false, (Bool.not (decide (x < (0 : Int)))) = false, false = false, decide (x < (0 : Int)) = true, decide (x < (0 : Int)) = true, decide (x < (0 : Int)) = true, decide ((↑(nv (enc (Int.natAbs x))) : Int) ≤ (9223372036854775808 : Int)) = false]) := by kernel_rfl 
end Go.Proofs.YtkfdnpbpebmhaaaGreatDoor.Spec
end
namespace Go.Proofs.YtkfdnpbpebmhaaaGreatDoor.Spec
open Go Go.RowKit Sx Num

theorem bl_half {t : Nat} (h : t < 2 ^ 64) (h0 : 0 < t) : o_bl t = o_bl (t / 2) + 1 := by
  have a := bl_spec h
  have hh : t / 2 < 2 ^ 64 := Nat.lt_of_le_of_lt (Nat.div_le_self _ _) h
  have b := bl_spec hh
  have hp : 0 < o_bl t := by have := a.2.2.2; omega
  apply Nat.le_antisymm
  · apply bl_le h
    have := b.1
    rw [Nat.pow_succ]
    generalize 2 ^ o_bl (t / 2) = z at *
    omega
  · have : o_bl (t / 2) ≤ o_bl t - 1 := by
      apply bl_le hh
      have h1 := a.1
      rw [show o_bl t = (o_bl t - 1) + 1 by omega, Nat.pow_succ] at h1
      generalize 2 ^ (o_bl t - 1) = z at *
      omega
    omega
def V45 (x : Int × Int) : Prop := 0 ≤ x.1 ∧ 0 ≤ x.2 ∧ x.2 < 4294967296 ∧ x.1 + (o_bl x.2.toNat : Int) < 4611686018427388000
theorem sub45 {st : St} {e : Ex} {s : St} {obs : List Prop} (h : F45 st = some (e, s, obs)) (hob : AllP obs) : ∃ x : Int × Int, V45 x ∧ SubS st (I45 x.1 x.2) ∧ e = .exit 0 ∧ s = I45 (x.1 + (o_bl x.2.toNat : Int)) 0 := by
  unfold F45 at h
  split at h
  · rename_i c t hz h1 h2
    simp only [Option.some.injEq, Prod.mk.injEq] at h
    obtain ⟨rfl, rfl, rfl⟩ := h
    obtain ⟨⟨h3, h4⟩, ⟨h5, h6⟩, _⟩ := hob
    have hb : o_bl t.toNat ≤ 32 := bl_le (by omega) (by omega)
    refine ⟨(c, t), ⟨h3, h5, h6, by show c + (o_bl t.toNat : Int) < _; omega⟩, ⟨?_, ?_, ?_⟩, rfl, rfl⟩
    · intro p hp
      simp only [I45, List.mem_cons, List.not_mem_nil, or_false] at hp
      rcases hp with rfl | rfl <;> exact ⟨by assumption, rfl⟩
    · intro p hp; cases hp
    · rw [hz]; intro h; cases h
  · cases h
theorem lo45 : ∀ d ∈ loopsF Tryz.f45, LoopOk Tryz.prog Tryz.f45.ntmps L45 d := by
  rw [show loopsF Tryz.f45 = [loopC Tryz.f45 0] by kernel_rfl]
  intro d hd
  rw [List.mem_singleton] at hd
  subst hd
  refine loop_ok (k := 6) (f := F45) (α := Int × Int) (by kernel_rfl) (by kernel_rfl) (fun x => I45 x.1 x.2) (fun x => I45 (x.1 + (o_bl x.2.toNat : Int)) 0) V45 (fun x => x.2.toNat) (.exit 0) (by simp) (fun st e s obs h hob => sub45 h hob) ?_
  rintro ⟨c, t⟩ ⟨h0, h1, h2, h3⟩
  simp only at h0 h1 h2 h3 ⊢
  have hno : ∀ d ∈ loopsOf (loopC Tryz.f45 0), LoopOk Tryz.prog Tryz.f45.ntmps L0 d := by rw [show loopsOf (loopC Tryz.f45 0) = [] by kernel_rfl]; intro d hd; cases hd
  by_cases ht : 0 < t
  · obtain ⟨k, rfl⟩ := Int.eq_ofNat_of_zero_le h1
    have w1 : IntKind.wrap IntKind.u32 (Int.tdiv (k : Int) 2) = ((k / 2 : Nat) : Int) := by
      rw [Int.tdiv_eq_ediv_of_nonneg h1, w32]; omega
    have hb := bl_half (t := k) (by omega) (by omega)
    rw [tnc] at h3
    have w2 : IntKind.wrap IntKind.i64 (c + 1) = c + 1 := wi64 _ (by omega) (by omega)
    refine (codeV_sound hmix E14ok.hS hno (loop45a c k) ?_).mono ?_
    · simp [AllP]; omega
    · rintro e s ⟨rfl, hs⟩
      refine .inl ⟨rfl, (c + 1, ((k / 2 : Nat) : Int)), ⟨by show 0 ≤ c + 1; omega, by show (0 : Int) ≤ ((k / 2 : Nat) : Int); omega, by show ((k / 2 : Nat) : Int) < _; omega, by show c + 1 + (o_bl (Int.toNat ((k / 2 : Nat) : Int)) : Int) < _; rw [tnc]; omega⟩, by simp only [tnc]; omega, ?_, ?_⟩
      · rw [w1, w2] at hs; exact hs
      · simp only [tnc]; rw [hb]; congr 1; omega
  · refine (codeV_sound hmix E14ok.hS hno (loop45b c t) ?_).mono ?_
    · simp [AllP, ht]
    · rintro e s ⟨rfl, hs⟩
      have : t = 0 := by omega
      subst this
      refine .inr ⟨rfl, ?_⟩
      rw [show c + (o_bl (Int.toNat 0) : Int) = c by rw [show o_bl (Int.toNat 0) = 0 from rfl]; omega]
      exact hs
theorem con45 : Con Tryz.prog 45 (spZn fun x => (o_bits x.natAbs : Int)) := by
  refine con_run (L := L45) (fn := Tryz.f45) hmix E14ok.hS lo45 (by kernel_rfl) (fun _ => by kernel_rfl) ?_
  intro avs r ps hsp hps
  unfold spZn at hsp
  split at hsp
  · rename_i x
    simp only [Option.some.injEq, Prod.mk.injEq] at hsp
    obtain ⟨rfl, rfl⟩ := hsp
    have lx := sz_big hps.1
    refine ⟨rfl, ?_⟩
    by_cases h : x = 0
    · subst h
      refine ⟨_, _, _, _, run45a 0, rfl, by simp [AllP, enc_zero]⟩
    · have hp : 0 < (enc x.natAbs).length := (enc_len_pos _).2 (by omega)
      have w1 : IntKind.wrap IntKind.i64 (((enc x.natAbs).length : Int) - 1) = (((enc x.natAbs).length - 1 : Nat) : Int) := by rw [wi64 _ (by omega) (by omega)]; omega
      have g1 : (enc x.natAbs).getD ((enc x.natAbs).length - 1) 0 = ((dg x.natAbs ((enc x.natAbs).length - 1) : Nat) : Int) := by
        have := nv_getD (words_enc x.natAbs) ((enc x.natAbs).length - 1)
        rwa [nv_enc] at this
      have hd := dg_lt x.natAbs ((enc x.natAbs).length - 1)
      refine ⟨_, _, _, _, run45b x, numE ?_, ?_⟩
      · rw [w1, tnc, g1, tnc]
        unfold o_bits
        rw [wi64 (32 * _) (by omega) (by omega)]
        omega
      · simp only [AllP, w1, tnc, g1]
        unfold B at hd
        unfold isW
        rw [wi64 (32 * _) (by omega) (by omega)]
        and_intros <;> first | exact trivial | omega | exact decide_eq_false (by omega)
  · cases hsp

/-- Equality. -/
def spSame : Sp
  | [.abs [x], .abs [y]] => some (.s (.one (.v (.bool (decide (x = y))))), [o_sz big x, o_sz big y])
  | _ => none
abbrev A21 : Type := TypeId × TypeId × Bool × List Int × Bool × List Int × Int
def V21 (d : Bool) (x : A21) : Prop := 0 ≤ x.2.2.2.2.2.2 ∧ x.2.2.2.2.2.2 ≤ x.2.2.2.1.length ∧ x.2.2.2.1.length = x.2.2.2.2.2.1.length ∧ Ln x.2.2.2.1 ∧ (∀ j : Nat, (j : Int) < x.2.2.2.2.2.2 → x.2.2.2.1.getD j 0 = x.2.2.2.2.2.1.getD j 0) ∧ (d = true ↔ x.2.2.2.1 = x.2.2.2.2.2.1)
def J21 (x : A21) : St := I21 x.1 x.2.1 x.2.2.1 x.2.2.2.1 x.2.2.2.2.1 x.2.2.2.2.2.1 x.2.2.2.2.2.2
def fin21 (d : Bool) (_ : A21) : St := bif d then ⟨[], []⟩ else ⟨[(4, .s (boo false))], []⟩
theorem sub21 {d : Bool} {st : St} {e : Ex} {s : St} {obs : List Prop} (h : F21 d st = some (e, s, obs)) (hob : AllP obs) : ∃ x : A21, V21 d x ∧ SubS st (J21 x) ∧ e = (bif d then .exit 0 else .ret) ∧ s = fin21 d x := by
  unfold F21 at h
  split at h
  · rename_i i ty b xs ty2 b2 ys hz h1 h2 h3 h4 h5
    have hsub : SubS st (J21 (ty, ty2, b, xs, b2, ys, i)) := by
      refine ⟨?_, ?_, ?_⟩
      · intro p hp
        simp only [J21, I21, List.mem_cons, List.not_mem_nil, or_false] at hp
        rcases hp with rfl | rfl | rfl <;> exact ⟨by assumption, rfl⟩
      · intro p hp
        simp only [J21, I21, boxZ, List.mem_cons, List.not_mem_nil, or_false] at hp
        rcases hp with rfl | rfl <;> exact ⟨by assumption, rfl⟩
      · rw [hz]; intro h; cases h
    cases d with
    | true =>
      simp only [cond_true, Option.some.injEq, Prod.mk.injEq] at h
      obtain ⟨rfl, rfl, rfl⟩ := h
      obtain ⟨⟨rfl, hl, hln, he⟩, _⟩ := hob
      exact ⟨(ty, ty2, b, xs, b2, ys, 0), ⟨Int.le_refl _, by show (0 : Int) ≤ xs.length; omega, hl, hln, fun j hj => absurd hj (by show ¬ (j : Int) < 0; omega), ⟨fun _ => he, fun _ => rfl⟩⟩, hsub, rfl, rfl⟩
    | false =>
      simp only [cond_false, Option.some.injEq, Prod.mk.injEq] at h
      obtain ⟨rfl, rfl, rfl⟩ := h
      obtain ⟨⟨rfl, hl, hln, he⟩, _⟩ := hob
      exact ⟨(ty, ty2, b, xs, b2, ys, 0), ⟨Int.le_refl _, by show (0 : Int) ≤ xs.length; omega, hl, hln, fun j hj => absurd hj (by show ¬ (j : Int) < 0; omega), ⟨fun h => Bool.noConfusion h, fun h => absurd h he⟩⟩, hsub, rfl, rfl⟩
  · cases h
theorem getD_ext {xs ys : List Int} (hl : xs.length = ys.length) (h : ∀ j : Nat, j < xs.length → xs.getD j 0 = ys.getD j 0) : xs = ys := by
  apply List.ext_getElem hl
  intro j h1 h2
  have := h j h1
  rw [List.getD_eq_getElem?_getD, List.getD_eq_getElem?_getD, List.getElem?_eq_getElem h1, List.getElem?_eq_getElem h2] at this
  exact this
theorem lo21 (d : Bool) : ∀ c ∈ loopsF Tryz.f21, LoopOk Tryz.prog Tryz.f21.ntmps (L21 d) c := by
  rw [show loopsF Tryz.f21 = [loopC Tryz.f21 0] by kernel_rfl]
  intro c hc
  rw [List.mem_singleton] at hc
  subst hc
  refine loop_ok (k := 4) (f := F21 d) (α := A21) (by kernel_rfl) rfl J21 (fin21 d) (V21 d) (fun x => (x.2.2.2.1.length - x.2.2.2.2.2.2).toNat) (bif d then .exit 0 else .ret) (by cases d <;> simp) (fun st e s obs h hob => sub21 h hob) ?_
  rintro ⟨ty, ty2, b, xs, b2, ys, i⟩ ⟨h0, h1, hl, hln, he, hd⟩
  simp only at h0 h1 hl hln he hd ⊢
  have hno : ∀ d ∈ loopsOf (loopC Tryz.f21 0), LoopOk Tryz.prog Tryz.f21.ntmps L0 d := by rw [show loopsOf (loopC Tryz.f21 0) = [] by kernel_rfl]; intro d hd; cases hd
  unfold Ln at hln
  by_cases hi : i < xs.length
  · obtain ⟨k, rfl⟩ := Int.eq_ofNat_of_zero_le h0
    have w3 : IntKind.wrap IntKind.i64 ((k : Int) + 1) = (k : Int) + 1 := wi64 _ (by omega) (by omega)
    by_cases hq : xs.getD k 0 = ys.getD k 0
    · refine (codeV_sound hmix E14ok.hS hno (loop21b ty ty2 b xs b2 ys k) ?_).mono ?_
      · simp only [AllP, tnc, decide_eq_true hq, decide_eq_true hi]
        and_intros <;> first | exact trivial | omega | rfl
      · rintro e s ⟨rfl, hs⟩
        refine .inl ⟨rfl, (ty, ty2, b, xs, b2, ys, (k : Int) + 1), ⟨by show (0 : Int) ≤ (k : Int) + 1; omega, by show (k : Int) + 1 ≤ (xs.length : Int); omega, hl, hln, fun j hj => ?_, hd⟩, by simp only; omega, by rw [w3] at hs; exact hs, rfl⟩
        simp only at hj ⊢
        by_cases hjk : j = k
        · subst hjk; exact hq
        · exact he j (by omega)
    · have hdf : d = false := by
        cases d with
        | false => rfl
        | true => exact absurd (by rw [hd.1 rfl]) hq
      subst hdf
      refine (codeV_sound hmix E14ok.hS hno (loop21a ty ty2 b xs b2 ys k) ?_).mono ?_
      · simp only [AllP, tnc, decide_eq_false hq, decide_eq_true hi]
        and_intros <;> first | exact trivial | omega | rfl
      · rintro e s ⟨rfl, hs⟩
        exact .inr ⟨rfl, hs⟩
  · have hdt : d = true := hd.2 (getD_ext hl fun j hj => he j (by omega))
    subst hdt
    refine (codeV_sound hmix E14ok.hS hno (loop21c ty ty2 b xs b2 ys i) ?_).mono ?_
    · simp only [AllP, decide_eq_false hi]
      and_intros <;> first | exact trivial | rfl
    · rintro e s ⟨rfl, hs⟩
      exact .inr ⟨rfl, hs⟩
theorem enc_inj {a b : Nat} (h : enc a = enc b) : a = b := by rw [← nv_enc a, h, nv_enc]
theorem con21 : Con Tryz.prog 21 spSame := by
  refine con_runL (fn := Tryz.f21) hmix E14ok.hS (by kernel_rfl) (fun _ => by kernel_rfl) ?_
  intro avs r ps hsp hps
  unfold spSame at hsp
  split at hsp
  · rename_i x y
    simp only [Option.some.injEq, Prod.mk.injEq] at hsp
    obtain ⟨rfl, rfl⟩ := hsp
    obtain ⟨hx, hy, _⟩ := hps
    have lx := sz_big hx
    have ly := sz_big hy
    refine ⟨rfl, ?_⟩
    by_cases h : x < 0 ↔ y < 0
    · by_cases hl : (enc x.natAbs).length = (enc y.natAbs).length
      · have hli : ((enc x.natAbs).length : Int) = ((enc y.natAbs).length : Int) := by omega
        by_cases hq : x = y
        · refine ⟨L21 true, lo21 true, _, _, _, _, run21c x y, by rw [decide_eq_true hq], ?_⟩
          simp only [AllP, decb, decide_eq_true h, decide_eq_true hli]
          unfold Ln
          and_intros <;> first | exact trivial | rfl | omega | rw [hq]
        · refine ⟨L21 false, lo21 false, _, _, _, _, run21d x y, by rw [decide_eq_false hq], ?_⟩
          have hne : ¬ enc x.natAbs = enc y.natAbs := fun e => by have := enc_inj e; omega
          simp only [AllP, decb, decide_eq_true h, decide_eq_true hli]
          unfold Ln
          and_intros <;> first | exact trivial | rfl | exact hne | omega
      · have hli : ¬ ((enc x.natAbs).length : Int) = ((enc y.natAbs).length : Int) := by omega
        refine ⟨L21 true, lo21 true, _, _, _, _, run21b x y, by rw [decide_eq_false (fun e => hl (by rw [e]))], ?_⟩
        · simp only [AllP, decb, decide_eq_true h, decide_eq_false hli]
          and_intros <;> first | exact trivial | rfl
    · refine ⟨L21 true, lo21 true, _, _, _, _, run21a x y, by rw [decide_eq_false (fun e => h (by rw [e]))], ?_⟩
      · simp only [AllP, decb, decide_eq_false h]
        and_intros <;> first | exact trivial | rfl
  · cases hsp

/-- The greatest common divisor, as the loop comes to it. -/
theorem gcd_step (a b : Nat) : o_gcd b (a % b) = o_gcd a b := by
  unfold o_gcd
  rw [Nat.gcd_comm a b, Nat.gcd_rec b a, Nat.gcd_comm]
theorem gcd_len {a b k : Nat} (ha : (enc a).length ≤ k) (hb : (enc b).length ≤ k) : (enc (o_gcd a b)).length ≤ k := by
  unfold o_gcd
  by_cases h : a = 0
  · rw [h, Nat.gcd_zero_left]; exact hb
  · exact enc_le_of ha (Nat.le_of_dvd (by omega) (Nat.gcd_dvd_left a b))
def V38 (x : TypeId × Nat × Nat) : Prop := (enc x.2.1).length ≤ 100000000 ∧ (enc x.2.2).length ≤ 100000000
theorem sub38 {st : St} {e : Ex} {s : St} {obs : List Prop} (h : F38 st = some (e, s, obs)) (hob : AllP obs) : ∃ x : TypeId × Nat × Nat, V38 x ∧ SubS st (I38 x.1 x.2.1 x.2.2) ∧ e = .exit 0 ∧ s = I38 x.1 (o_gcd x.2.1 x.2.2) 0 := by
  unfold F38 at h
  split at h
  · rename_i xs ys ty hz h1 h2 h3 h4
    simp only [Option.some.injEq, Prod.mk.injEq] at h
    obtain ⟨rfl, rfl, rfl⟩ := h
    obtain ⟨hc1, hc2, hl1, hl2, _⟩ := hob
    refine ⟨(ty, nv xs, nv ys), ⟨by show (enc (nv xs)).length ≤ _; rw [enc_nv hc1]; exact hl1, by show (enc (nv ys)).length ≤ _; rw [enc_nv hc2]; exact hl2⟩, ⟨?_, ?_, ?_⟩, rfl, rfl⟩
    · intro p hp
      simp only [I38, enc_nv hc1, enc_nv hc2, List.mem_cons, List.not_mem_nil, or_false] at hp
      rcases hp with rfl | rfl | rfl <;> exact ⟨by assumption, rfl⟩
    · intro p hp
      simp only [I38, box0, List.mem_cons, List.not_mem_nil, or_false] at hp
      rcases hp with rfl; exact ⟨by assumption, rfl⟩
    · rw [hz]; intro h; cases h
  · cases h
theorem lo38 : ∀ d ∈ loopsF Tryz.f38, LoopOk Tryz.prog Tryz.f38.ntmps L38 d := by
  rw [show loopsF Tryz.f38 = [loopC Tryz.f38 0] by kernel_rfl]
  intro d hd
  rw [List.mem_singleton] at hd
  subst hd
  refine loop_ok (k := 2) (f := F38) (α := TypeId × Nat × Nat) (by kernel_rfl) (by kernel_rfl) (fun x => I38 x.1 x.2.1 x.2.2) (fun x => I38 x.1 (o_gcd x.2.1 x.2.2) 0) V38 (fun x => x.2.2) (.exit 0) (by simp) (fun st e s obs h hob => sub38 h hob) ?_
  rintro ⟨ty, a, b⟩ ⟨h0, h1⟩
  simp only at h0 h1 ⊢
  have hno : ∀ d ∈ loopsOf (loopC Tryz.f38 0), LoopOk Tryz.prog Tryz.f38.ntmps L0 d := by rw [show loopsOf (loopC Tryz.f38 0) = [] by kernel_rfl]; intro d hd; cases hd
  have hp := enc_len_pos b
  by_cases hb : 0 < b
  · refine (codeV_sound hmix E14ok.hS hno (loop38a ty a b) ?_).mono ?_
    · simp only [AllP, canon_e]
      and_intros <;> first | exact trivial | omega | exact decide_eq_true (by omega)
    · rintro e s ⟨rfl, hs⟩
      refine .inl ⟨rfl, (ty, b, a % b), ⟨h1, by show (enc (a % b)).length ≤ _; exact enc_le_of h0 (Nat.mod_le _ _)⟩, Nat.mod_lt _ hb, ?_, ?_⟩
      · rw [nv_enc, nv_enc] at hs; exact hs
      · simp only [gcd_step]
  · refine (codeV_sound hmix E14ok.hS hno (loop38b ty a b) ?_).mono ?_
    · simp only [AllP]
      and_intros <;> first | exact trivial | exact decide_eq_false (by omega)
    · rintro e s ⟨rfl, hs⟩
      have : b = 0 := by omega
      subst this
      refine .inr ⟨rfl, ?_⟩
      rw [show o_gcd a 0 = a from Nat.gcd_zero_right a]
      exact hs
def gcdZ (x y : Int) : Int := (o_gcd x.natAbs y.natAbs : Nat)
theorem con38 : Con Tryz.prog 38 (spZ2 gcdZ) := by
  refine con_runZ (fn := Tryz.f38) hmix E14ok.hS (by kernel_rfl) (fun _ => by kernel_rfl) ?_
  intro avs r ps hsp hps
  unfold spZ2 at hsp
  split at hsp
  · rename_i x y
    simp only [Option.some.injEq, Prod.mk.injEq] at hsp
    obtain ⟨rfl, rfl⟩ := hsp
    obtain ⟨hx, hy, _⟩ := hps
    have lx := sz_big hx
    have ly := sz_big hy
    have lg := gcd_len lx ly
    refine ⟨rfl, L38, lo38, _, _, _, _, run38 x y, unZ (by rw [toI_n, nv_enc, nv_enc]; rfl), ?_⟩
    simp only [AllP, nv_enc, words_e, canon_e]
    unfold Ln
    and_intros <;> first | exact trivial | omega
  · cases hsp

def V116 (x : Nat × Nat) : Prop := x.1 < 18446744073709551616 ∧ x.2 < 18446744073709551616
theorem sub116 {st : St} {e : Ex} {s : St} {obs : List Prop} (h : F116 st = some (e, s, obs)) (hob : AllP obs) : ∃ x : Nat × Nat, V116 x ∧ SubS st (I116 x.1 x.2) ∧ e = .exit 0 ∧ s = I116 (o_gcd x.1 x.2) 0 := by
  unfold F116 at h
  split at h
  · rename_i a b hz h1 h2
    simp only [Option.some.injEq, Prod.mk.injEq] at h
    obtain ⟨rfl, rfl, rfl⟩ := h
    obtain ⟨⟨ha, ha'⟩, ⟨hb, hb'⟩, _⟩ := hob
    obtain ⟨a, rfl⟩ := Int.eq_ofNat_of_zero_le ha
    obtain ⟨b, rfl⟩ := Int.eq_ofNat_of_zero_le hb
    refine ⟨(a, b), ⟨by show a < _; omega, by show b < _; omega⟩, ⟨?_, ?_, ?_⟩, rfl, rfl⟩
    · intro p hp
      simp only [I116, List.mem_cons, List.not_mem_nil, or_false] at hp
      rcases hp with rfl | rfl <;> exact ⟨by assumption, rfl⟩
    · intro p hp; cases hp
    · rw [hz]; intro h; cases h
  · cases h
theorem lo116 : ∀ d ∈ loopsF Tryz.f116, LoopOk Tryz.prog Tryz.f116.ntmps L116 d := by
  rw [show loopsF Tryz.f116 = [loopC Tryz.f116 0] by kernel_rfl]
  intro d hd
  rw [List.mem_singleton] at hd
  subst hd
  refine loop_ok (k := 1) (f := F116) (α := Nat × Nat) (by kernel_rfl) (by kernel_rfl) (fun x => I116 x.1 x.2) (fun x => I116 (o_gcd x.1 x.2) 0) V116 (fun x => x.2) (.exit 0) (by simp) (fun st e s obs h hob => sub116 h hob) ?_
  rintro ⟨a, b⟩ ⟨h0, h1⟩
  simp only at h0 h1 ⊢
  have hno : ∀ d ∈ loopsOf (loopC Tryz.f116 0), LoopOk Tryz.prog Tryz.f116.ntmps L0 d := by rw [show loopsOf (loopC Tryz.f116 0) = [] by kernel_rfl]; intro d hd; cases hd
  by_cases hb : 0 < b
  · refine (codeV_sound hmix E14ok.hS hno (loop116a a b) ?_).mono ?_
    · simp only [AllP]
      and_intros <;> first | exact trivial | omega | exact decide_eq_true (by omega)
    · rintro e s ⟨rfl, hs⟩
      have hm := Nat.mod_lt a hb
      refine .inl ⟨rfl, (b, a % b), ⟨h1, by show a % b < _; generalize a % b = r at *; omega⟩, hm, ?_, ?_⟩
      · rw [show Int.tmod (a : Int) (b : Int) = ((a % b : Nat) : Int) from rfl] at hs; exact hs
      · simp only [gcd_step]
  · refine (codeV_sound hmix E14ok.hS hno (loop116b a b) ?_).mono ?_
    · simp only [AllP]
      and_intros <;> first | exact trivial | exact decide_eq_false (by omega)
    · rintro e s ⟨rfl, hs⟩
      have : b = 0 := by omega
      subst this
      refine .inr ⟨rfl, ?_⟩
      rw [show o_gcd a 0 = a from Nat.gcd_zero_right a]
      exact hs
theorem con116 : Con Tryz.prog 116 spGcd2 := by
  refine con_run (L := L116) (fn := Tryz.f116) hmix E14ok.hS lo116 (by kernel_rfl) (fun _ => by kernel_rfl) ?_
  intro avs r ps hsp hps
  unfold spGcd2 at hsp
  split at hsp
  · rename_i a b
    simp only [Option.some.injEq, Prod.mk.injEq] at hsp
    obtain ⟨rfl, rfl⟩ := hsp
    exact ⟨rfl, _, _, _, _, run116 a b, rfl, hps⟩
  · cases hsp
theorem E14gok : EnvOk Tryz.prog E14g := .cons con116 E14ok
theorem way_zero (a : Nat) : o_way a 0 = false := by unfold o_way; rw [way, dif_pos rfl]
theorem way_two {a b : Nat} (h : 0 < b) (k : (enc a).length ≤ 2 ∧ (enc b).length ≤ 2) : o_way a b = true := by unfold o_way; rw [way, dif_neg (by omega), if_pos k]
theorem way_step {a b : Nat} (h : 0 < b) (k : ¬ ((enc a).length ≤ 2 ∧ (enc b).length ≤ 2)) : o_way b (a % b) = o_way a b := by unfold o_way; rw [way.eq_def a b, dif_neg (by omega), if_neg k]
def V79 (d : Bool) (x : Nat × Nat) : Prop := (enc x.1).length ≤ 100000000 ∧ (enc x.2).length ≤ 100000000 ∧ o_way x.1 x.2 = d
def fin79 (d : Bool) (x : Nat × Nat) : St := bif d then ⟨[(4, .s (roW (enc (o_gcd x.1 x.2))))], []⟩ else ⟨[(0, .s (roW (enc (o_gcd x.1 x.2))))], []⟩
theorem sub79 {d : Bool} {st : St} {e : Ex} {s : St} {obs : List Prop} (h : F79 d st = some (e, s, obs)) (hob : AllP obs) : ∃ x : Nat × Nat, V79 d x ∧ SubS st (I79 x.1 x.2) ∧ e = (bif d then .ret else .exit 0) ∧ s = fin79 d x := by
  unfold F79 at h
  split at h
  · rename_i xs ys hz h1 h2
    have hsub : Canon xs → Canon ys → SubS st (I79 (nv xs) (nv ys)) := fun hc1 hc2 => by
      refine ⟨?_, ?_, ?_⟩
      · intro p hp
        simp only [I79, enc_nv hc1, enc_nv hc2, List.mem_cons, List.not_mem_nil, or_false] at hp
        rcases hp with rfl | rfl <;> exact ⟨by assumption, rfl⟩
      · intro p hp; cases hp
      · rw [hz]; intro h; cases h
    cases d with
    | true =>
      simp only [cond_true, Option.some.injEq, Prod.mk.injEq] at h
      obtain ⟨rfl, rfl, rfl⟩ := h
      obtain ⟨hc1, hc2, hl1, hl2, hw, _⟩ := hob
      exact ⟨(nv xs, nv ys), ⟨by show (enc (nv xs)).length ≤ _; rw [enc_nv hc1]; exact hl1, by show (enc (nv ys)).length ≤ _; rw [enc_nv hc2]; exact hl2, hw⟩, hsub hc1 hc2, rfl, rfl⟩
    | false =>
      simp only [cond_false, Option.some.injEq, Prod.mk.injEq] at h
      obtain ⟨rfl, rfl, rfl⟩ := h
      obtain ⟨hc1, hc2, hl1, hl2, hw, _⟩ := hob
      exact ⟨(nv xs, nv ys), ⟨by show (enc (nv xs)).length ≤ _; rw [enc_nv hc1]; exact hl1, by show (enc (nv ys)).length ≤ _; rw [enc_nv hc2]; exact hl2, hw⟩, hsub hc1 hc2, rfl, rfl⟩
  · cases h
theorem lo79 (d : Bool) : ∀ c ∈ loopsF Tryz.f79, LoopOk Tryz.prog Tryz.f79.ntmps (L79 d) c := by
  rw [show loopsF Tryz.f79 = [loopC Tryz.f79 0] by kernel_rfl]
  intro c hc
  rw [List.mem_singleton] at hc
  subst hc
  refine loop_ok (k := 1) (f := F79 d) (α := Nat × Nat) (by kernel_rfl) rfl (fun x => I79 x.1 x.2) (fin79 d) (V79 d) (fun x => x.2) (bif d then .ret else .exit 0) (by cases d <;> simp) (fun st e s obs h hob => sub79 h hob) ?_
  rintro ⟨a, b⟩ ⟨h0, h1, hd⟩
  simp only at h0 h1 hd ⊢
  have hno : ∀ d ∈ loopsOf (loopC Tryz.f79 0), LoopOk Tryz.prog Tryz.f79.ntmps L0 d := by rw [show loopsOf (loopC Tryz.f79 0) = [] by kernel_rfl]; intro d hd; cases hd
  have hp := enc_len_pos b
  by_cases hb : 0 < b
  · by_cases h2 : (enc a).length ≤ 2 ∧ (enc b).length ≤ 2
    · have hdt : d = true := by rw [← hd]; exact way_two hb h2
      subst hdt
      have la : a < 18446744073709551616 := (enc_len _ 2).1 h2.1
      have lb : b < 18446744073709551616 := (enc_len _ 2).1 h2.2
      have lg : o_gcd a b < 18446744073709551616 := (enc_len _ 2).1 (gcd_len h2.1 h2.2)
      refine (codeV_sound hmix E14gok.hS hno (loop79a a b) ?_).mono ?_
      · simp only [AllP, words_e, nv_enc, tnc]
        and_intros <;> first | exact trivial | omega | exact decide_eq_true (by omega)
      · rintro e s ⟨rfl, hs⟩
        refine .inr ⟨rfl, ?_⟩
        simp only [nv_enc, tnc] at hs
        exact hs
    · have nxt : ∀ e s, (e = Ex.normal ∧ SubS s ⟨[(0, .s (roW (enc b))), (1, .s (roW (enc (nv (enc a) % nv (enc b)))))], []⟩) → (e = .normal ∧ ∃ y : Nat × Nat, V79 d y ∧ y.2 < b ∧ SubS s (I79 y.1 y.2) ∧ fin79 d y = fin79 d (a, b)) ∨ (e = (bif d then Ex.ret else .exit 0) ∧ SubS s (fin79 d (a, b))) := by
        rintro e s ⟨rfl, hs⟩
        refine .inl ⟨rfl, (b, a % b), ⟨h1, by show (enc (a % b)).length ≤ _; exact enc_le_of h0 (Nat.mod_le _ _), by show o_way b (a % b) = d; rw [way_step hb h2]; exact hd⟩, Nat.mod_lt _ hb, ?_, ?_⟩
        · rw [nv_enc, nv_enc] at hs; exact hs
        · simp only [fin79, gcd_step]
      by_cases h3 : (enc a).length ≤ 2
      · refine (codeV_sound hmix E14gok.hS hno (loop79c a b) ?_).mono nxt
        simp only [AllP, canon_e]
        and_intros <;> first | exact trivial | omega | exact decide_eq_true (by omega) | exact decide_eq_false (by omega)
      · refine (codeV_sound hmix E14gok.hS hno (loop79b a b) ?_).mono nxt
        simp only [AllP, canon_e]
        and_intros <;> first | exact trivial | omega | exact decide_eq_true (by omega) | exact decide_eq_false (by omega) | rfl
  · have : b = 0 := by omega
    subst this
    have hdf : d = false := by rw [← hd]; exact way_zero a
    subst hdf
    refine (codeV_sound hmix E14gok.hS hno (loop79d a 0) ?_).mono ?_
    · simp only [AllP]
      and_intros <;> first | exact trivial | exact decide_eq_false (by omega)
    · rintro e s ⟨rfl, hs⟩
      refine .inr ⟨rfl, ?_⟩
      show SubS s ⟨[(0, .s (roW (enc (o_gcd a 0))))], []⟩
      rw [show o_gcd a 0 = a from Nat.gcd_zero_right a]
      exact hs
def spCommon : Sp
  | [.one (.row .u32 xs), .one (.row .u32 ys)] => some (.s (roW (enc (o_gcd (nv xs) (nv ys)))), [Canon xs, Canon ys, xs.length ≤ 100000000, ys.length ≤ 100000000])
  | _ => none
theorem con79 : Con Tryz.prog 79 spCommon := by
  refine con_runL (fn := Tryz.f79) hmix E14gok.hS (by kernel_rfl) (fun _ => by kernel_rfl) ?_
  intro avs r ps hsp hps
  unfold spCommon at hsp
  split at hsp
  · rename_i xs ys
    simp only [Option.some.injEq, Prod.mk.injEq] at hsp
    obtain ⟨rfl, rfl⟩ := hsp
    obtain ⟨h1, h2, h3, h4, _⟩ := hps
    refine ⟨rfl, ?_⟩
    cases hw : o_way (nv xs) (nv ys) with
    | true => exact ⟨L79 true, lo79 true, _, _, _, _, run79a xs ys, rfl, h1, h2, h3, h4, hw, trivial⟩
    | false => exact ⟨L79 false, lo79 false, _, _, _, _, run79b xs ys, rfl, h1, h2, h3, h4, hw, trivial⟩
  · cases hsp

end Go.Proofs.YtkfdnpbpebmhaaaGreatDoor.Spec
namespace Go.Proofs.YtkfdnpbpebmhaaaGreatDoor.Spec
open Go Go.RowKit Sx Num

theorem pow_len {x k : Nat} (h : (enc x).length ≤ k) (m : Nat) : (enc (x ^ m)).length ≤ k * m + 1 := by
  apply enc_len_le
  have h1 := (enc_len x k).1 h
  have h2 : x ^ m ≤ (B ^ k) ^ m := Nat.pow_le_pow_left (Nat.le_of_lt h1) m
  rw [← Nat.pow_mul] at h2
  exact Nat.lt_of_le_of_lt h2 (Nat.pow_lt_pow_right (by decide) (Nat.lt_succ_self _))
theorem and1 (a : Nat) (h : a < 9223372036854775808) : IntKind.wrap IntKind.i64 ((BitVec.ofInt (IntKind.bits IntKind.i64) (a : Int) &&& BitVec.ofInt (IntKind.bits IntKind.i64) 1).toNat : Int) = ((a % 2 : Nat) : Int) := by
  rw [show IntKind.bits IntKind.i64 = 64 from rfl, BitVec.toNat_and, BitVec.toNat_ofInt, BitVec.toNat_ofInt]
  have e1 : ((a : Int) % ((2 ^ 64 : Nat) : Int)).toNat = a := by omega
  have e2 : ((1 : Int) % ((2 ^ 64 : Nat) : Int)).toNat = 1 := by decide
  rw [e1, e2, Nat.and_one_is_mod, wi64 _ (by omega) (by omega)]
theorem fdiv_i64 (x s : Nat) (hs : s < 32) : Int.fdiv (x : Int) ((2 : Int) ^ min (Int.toNat (s : Int)) (IntKind.bits IntKind.i64)) = ((x / 2 ^ s : Nat) : Int) := fdiv_shr x s hs
def V61 (x n : Nat) (i : Nat) : Prop := i ≤ o_bl n ∧ n ≤ 100000000 ∧ (enc x).length * (n + 1) ≤ 100000000
theorem bl_1 : o_bl 1 = 1 := rfl
theorem sub61 {st : St} {e : Ex} {s : St} {obs : List Prop} (h : F61 st = some (e, s, obs)) (hob : AllP obs) : ∃ x : Nat × Nat × Nat, V61 x.1 x.2.1 x.2.2 ∧ SubS st (I61 x.1 x.2.1 x.2.2) ∧ e = .exit 0 ∧ s = ⟨[(5, .s (roW (enc (x.1 ^ x.2.1))))], []⟩ := by
  unfold F61 at h
  split at h
  · rename_i xs n ys l i hz h1 h2 h3 h4 h5
    simp only [Option.some.injEq, Prod.mk.injEq] at h
    obtain ⟨rfl, rfl, rfl⟩ := h
    obtain ⟨hc, rfl, ⟨hn, hn'⟩, rfl, rfl, hl, _⟩ := hob
    obtain ⟨n, rfl⟩ := Int.eq_ofNat_of_zero_le hn
    rw [tnc] at hl h4
    refine ⟨(nv xs, n, 0), ⟨Nat.zero_le _, by show n ≤ _; omega, by show (enc (nv xs)).length * (n + 1) ≤ _; rw [enc_nv hc]; exact hl⟩, ⟨?_, ?_, ?_⟩, rfl, by rw [tnc]⟩
    · intro p hp
      simp only [I61, Nat.zero_min, Nat.pow_zero, Nat.pow_one, Nat.mod_one, enc_nv hc, List.mem_cons, List.not_mem_nil, or_false] at hp
      rcases hp with rfl | rfl | rfl | rfl | rfl <;> exact ⟨by assumption, rfl⟩
    · intro p hp; cases hp
    · rw [hz]; intro h; cases h
  · cases h
theorem lo61 : ∀ d ∈ loopsF Tryz.f61, LoopOk Tryz.prog Tryz.f61.ntmps L61 d := by
  rw [show loopsF Tryz.f61 = [loopC Tryz.f61 0] by kernel_rfl]
  intro d hd
  rw [List.mem_singleton] at hd
  subst hd
  refine loop_ok (k := 3) (f := F61) (α := Nat × Nat × Nat) (by kernel_rfl) (by kernel_rfl) (fun x => I61 x.1 x.2.1 x.2.2) (fun x => ⟨[(5, .s (roW (enc (x.1 ^ x.2.1))))], []⟩) (fun x => V61 x.1 x.2.1 x.2.2) (fun x => o_bl x.2.1 - x.2.2) (.exit 0) (by simp) (fun st e s obs h hob => sub61 h hob) ?_
  rintro ⟨x, n, i⟩ ⟨hi, hn, hl⟩
  simp only at hi hn hl ⊢
  have hno : ∀ d ∈ loopsOf (loopC Tryz.f61 0), LoopOk Tryz.prog Tryz.f61.ntmps L0 d := by rw [show loopsOf (loopC Tryz.f61 0) = [] by kernel_rfl]; intro d hd; cases hd
  have hb := bl_spec (x := n) (by omega)
  have hb27 : o_bl n ≤ 27 := bl_le (by omega) (by omega)
  by_cases hlt : i < o_bl n
  · have hn0 : n ≠ 0 := fun e => by have := hb.2.2.2.2 e; omega
    have hlow := hb.2.1 hn0
    have w1 : IntKind.wrap IntKind.i64 ((i : Int) + 1) = ((i + 1 : Nat) : Int) := by rw [wi64 _ (by omega) (by omega)]; omega
    have hmin : min i (o_bl n - 1) = i := by omega
    have hq1 : n / 2 ^ i ≤ n := Nat.div_le_self _ _
    have hand := and1 (n / 2 ^ i) (by generalize n / 2 ^ i = q at *; omega)
    have hfd := fdiv_i64 n i (by omega)
    have hpi : 2 ^ i ≤ n := Nat.le_trans (Nat.pow_le_pow_right (by decide) (by omega)) hlow
    have hl2 := pow_len (Nat.le_refl (enc x).length) (2 ^ i)
    have hl3 := pow_len (Nat.le_refl (enc x).length) (n % 2 ^ i)
    have hm1 : (enc x).length * 2 ^ i ≤ 100000000 := Nat.le_trans (Nat.mul_le_mul_left _ (by omega)) hl
    have hm2 : (enc x).length * (n % 2 ^ i) ≤ 100000000 := Nat.le_trans (Nat.mul_le_mul_left _ (Nat.le_trans (Nat.mod_le _ _) (by omega))) hl
    have hpos : 0 < n / 2 ^ i := Nat.div_pos hpi (Nat.pow_pos (by decide))
    have hsq : x ^ 2 ^ i * x ^ 2 ^ i = x ^ 2 ^ (i + 1) := by rw [← Nat.pow_add, Nat.pow_succ]; congr 1; omega
    have hmp := Nat.mod_pow_succ (x := n) (b := 2) (k := i)
    by_cases hbit : n / 2 ^ i % 2 = 1
    · have ho : x ^ (n % 2 ^ i) * x ^ 2 ^ i = x ^ (n % 2 ^ (i + 1)) := by rw [hmp, hbit, Nat.mul_one, Nat.pow_add]
      by_cases hmore : 1 < n / 2 ^ i
      · have hi1 : i + 1 < o_bl n := by
          rcases Nat.lt_or_ge (i + 1) (o_bl n) with h | h
          · exact h
          · exfalso
            have : n < 2 ^ (i + 1) := Nat.lt_of_lt_of_le hb.1 (Nat.pow_le_pow_right (by decide) h)
            have h3 := (Nat.le_div_iff_mul_le (Nat.pow_pos (n := i) (show 0 < 2 by decide))).1 hmore
            rw [Nat.pow_succ] at this
            generalize 2 ^ i = z at *
            omega
        have hmin' : min (i + 1) (o_bl n - 1) = i + 1 := by omega
        refine (codeV_sound hmix E14ok.hS hno (loop61a x n i) ?_).mono ?_
        · simp only [AllP, hmin, hfd, hand, words_e]
          generalize 2 ^ i = z at *
          generalize n / z = q at *
          and_intros <;> first | exact trivial | omega | exact decide_eq_true (by omega)
        · rintro e s ⟨rfl, hs⟩
          refine .inl ⟨rfl, (x, n, i + 1), ⟨by show i + 1 ≤ o_bl n; omega, hn, hl⟩, by show o_bl n - (i + 1) < o_bl n - i; omega, ?_, rfl⟩
          rw [w1, hmin, nv_enc, nv_enc, hsq, ho] at hs
          show SubS s (I61 x n (i + 1))
          rw [I61, hmin']
          exact hs
      · have hi1 : i = o_bl n - 1 := by
          rcases Nat.lt_or_ge i (o_bl n - 1) with h | h
          · exfalso
            have h4 : 2 ^ (i + 1) ≤ n := Nat.le_trans (Nat.pow_le_pow_right (by decide) (by omega)) hlow
            have h3 := (Nat.le_div_iff_mul_le (Nat.pow_pos (n := i) (show 0 < 2 by decide)) (x := 2) (y := n)).2 (by rw [Nat.pow_succ] at h4; omega)
            omega
          · omega
        have hmin' : min (i + 1) (o_bl n - 1) = i := by omega
        refine (codeV_sound hmix E14ok.hS hno (loop61c x n i) ?_).mono ?_
        · simp only [AllP, hmin, hfd, hand, words_e]
          generalize 2 ^ i = z at *
          generalize n / z = q at *
          and_intros <;> first | exact trivial | omega | exact decide_eq_true (by omega) | exact decide_eq_false (by omega)
        · rintro e s ⟨rfl, hs⟩
          refine .inl ⟨rfl, (x, n, i + 1), ⟨by show i + 1 ≤ o_bl n; omega, hn, hl⟩, by show o_bl n - (i + 1) < o_bl n - i; omega, ?_, rfl⟩
          rw [w1, hmin, nv_enc, nv_enc, ho] at hs
          show SubS s (I61 x n (i + 1))
          rw [I61, hmin']
          exact hs
    · have hb0 : n / 2 ^ i % 2 = 0 := by omega
      have hmore : 1 < n / 2 ^ i := by omega
      have ho : n % 2 ^ (i + 1) = n % 2 ^ i := by rw [hmp, hb0, Nat.mul_zero, Nat.add_zero]
      have hi1 : i + 1 < o_bl n := by
        rcases Nat.lt_or_ge (i + 1) (o_bl n) with h | h
        · exact h
        · exfalso
          have : n < 2 ^ (i + 1) := Nat.lt_of_lt_of_le hb.1 (Nat.pow_le_pow_right (by decide) h)
          have h3 := (Nat.le_div_iff_mul_le (Nat.pow_pos (n := i) (show 0 < 2 by decide))).1 hmore
          rw [Nat.pow_succ] at this
          generalize 2 ^ i = z at *
          omega
      have hmin' : min (i + 1) (o_bl n - 1) = i + 1 := by omega
      refine (codeV_sound hmix E14ok.hS hno (loop61b x n i) ?_).mono ?_
      · simp only [AllP, hmin, hfd, hand, words_e]
        generalize 2 ^ i = z at *
        generalize n / z = q at *
        and_intros <;> first | exact trivial | omega | exact decide_eq_true (by omega) | exact decide_eq_false (by omega)
      · rintro e s ⟨rfl, hs⟩
        refine .inl ⟨rfl, (x, n, i + 1), ⟨by show i + 1 ≤ o_bl n; omega, hn, hl⟩, by show o_bl n - (i + 1) < o_bl n - i; omega, ?_, rfl⟩
        rw [w1, hmin, nv_enc, hsq] at hs
        show SubS s (I61 x n (i + 1))
        rw [I61, hmin', ho]
        exact hs
  · refine (codeV_sound hmix E14ok.hS hno (loop61d x n i) ?_).mono ?_
    · simp only [AllP]
      and_intros <;> first | exact trivial | exact decide_eq_false (by omega)
    · rintro e s ⟨rfl, hs⟩
      refine .inr ⟨rfl, ?_⟩
      have : i = o_bl n := by omega
      rw [this, Nat.mod_eq_of_lt hb.1] at hs
      exact hs
/-- A power of words. -/
def spPowN : Sp
  | [.one (.row .u32 xs), .one (.v (.int .i64 n))] => some (.s (roW (enc (nv xs ^ n.toNat))), [Canon xs, 0 ≤ n ∧ n ≤ 100000000, xs.length * (n.toNat + 1) ≤ 100000000])
  | _ => none
theorem con61 : Con Tryz.prog 61 spPowN := by
  refine con_run (L := L61) (fn := Tryz.f61) hmix E14ok.hS lo61 (by kernel_rfl) (fun _ => by kernel_rfl) ?_
  intro avs r ps hsp hps
  unfold spPowN at hsp
  split at hsp
  · rename_i xs n
    simp only [Option.some.injEq, Prod.mk.injEq] at hsp
    obtain ⟨rfl, rfl⟩ := hsp
    obtain ⟨hc, ⟨h1, h2⟩, hl, _⟩ := hps
    have w : IntKind.wrap IntKind.u64 n = n := by rw [w64]; omega
    refine ⟨rfl, _, _, _, _, run61 xs n, rfl, ?_⟩
    rw [w]
    exact ⟨by decide, ⟨h1, by omega⟩, hc, rfl, ⟨h1, h2⟩, rfl, rfl, hl, trivial⟩
  · cases hsp

theorem sz_pow {x : Int} {m N : Nat} (h : (enc x.natAbs).length * m + 1 ≤ N) : o_sz N (x ^ m) := by
  have h1 := pow_len (Nat.le_refl (enc x.natAbs).length) m
  have h2 := (enc_len _ _).1 (Nat.le_trans h1 h)
  unfold o_sz
  rwa [Int.natAbs_pow]
theorem sz_pow_big {x : Int} {m : Nat} (h : (enc x.natAbs).length * m ≤ 99999999) : o_sz big (x ^ m) := sz_pow (by unfold big; omega)
theorem pow_half (x : Int) (k : Nat) (h : k % 2 = 0) : x ^ (k / 2) * x ^ (k / 2) = x ^ k := by rw [← Int.pow_add]; congr 1; omega
theorem pow_half1 (x : Int) (k : Nat) (h : k % 2 = 1) : x ^ (k / 2) * x ^ (k / 2) * x = x ^ k := by rw [← Int.pow_add, ← Int.pow_succ]; congr 1; omega
theorem len_sz {x : Int} {N : Nat} (h : (enc x.natAbs).length ≤ N) : o_sz N x := (enc_len _ _).1 h
theorem con84m (m : Nat) : Con Tryz.prog 84 (spPowZ m) := by
  induction m with
  | zero =>
    refine ⟨fun _ => by kernel_rfl, fun avs r ps hsp hp => ?_⟩
    unfold spPowZ at hsp
    split at hsp
    · simp only [Option.some.injEq, Prod.mk.injEq] at hsp
      obtain ⟨rfl, rfl⟩ := hsp
      have := hp _ (List.mem_cons_self ..)
      omega
    · cases hsp
  | succ m ih =>
    have hE : EnvOk Tryz.prog (E14p m) := .cons (con_z ih) E14ok
    refine con_flatZ (l := E14p m) (fn := Tryz.f84) hmix hE (by kernel_rfl) (by kernel_rfl) (fun _ => by kernel_rfl) ?_
    intro avs r ps hsp hps
    unfold spPowZ at hsp
    split at hsp
    · rename_i x n
      simp only [Option.some.injEq, Prod.mk.injEq] at hsp
      obtain ⟨rfl, rfl⟩ := hsp
      obtain ⟨⟨h0, h1⟩, h2, h3, _⟩ := hps
      obtain ⟨k, rfl⟩ := Int.eq_ofNat_of_zero_le h0
      rw [tnc] at h3 ⊢
      refine ⟨rfl, ?_⟩
      by_cases hk : k = 0
      · subst hk
        refine ⟨_, _, _, _, run84a m x 0, unZ (by rw [Int.pow_zero]), ?_⟩
        exact ⟨rfl, by decide, trivial⟩
      · have hkz : decide ((k : Int) = 0) = false := decide_eq_false (by omega)
        have wd : IntKind.wrap IntKind.i64 (Int.tdiv (k : Int) 2) = ((k / 2 : Nat) : Int) := by
          rw [Int.tdiv_eq_ediv_of_nonneg h0, wi64 _ (by omega) (by omega)]; omega
        have wm : Int.tmod (k : Int) 2 = ((k % 2 : Nat) : Int) := rfl
        have hlk : (enc x.natAbs).length * (k / 2 + 1) ≤ 100000000 := Nat.le_trans (Nat.mul_le_mul_left _ (by omega)) h3
        have s1 : (enc x.natAbs).length * (k / 2) ≤ 99999999 := by
          by_cases hx : (enc x.natAbs).length = 0
          · rw [hx, Nat.zero_mul]; omega
          · rw [Nat.mul_succ] at hlk; omega
        have s2 : o_sz big (x ^ (k / 2)) := sz_pow_big s1
        have s3 : o_sz big x := len_sz (Nat.le_trans (Nat.le_mul_of_pos_right _ (by omega)) h3)
        by_cases hodd : k % 2 = 1
        · have s4 : o_sz big (x ^ (k / 2) * x ^ (k / 2)) := by
            rw [← Int.pow_add]
            apply sz_pow_big
            by_cases hx : (enc x.natAbs).length = 0
            · rw [hx, Nat.zero_mul]; omega
            · have : (enc x.natAbs).length * (k / 2 + k / 2) ≤ (enc x.natAbs).length * k := Nat.mul_le_mul_left _ (by omega)
              rw [Nat.mul_succ] at h3; omega
          refine ⟨_, _, _, _, run84b m x k, unZ (Z := x ^ (k / 2) * x ^ (k / 2) * x) (pow_half1 x k hodd) ▸ ?_, ?_⟩
          · simp only [toI_enc, wd, tnc]
          · simp only [AllP, toI_enc, ok_e, wd, wm, tnc, hkz]
            and_intros <;> first | exact trivial | assumption | omega | exact decide_eq_true (by omega) | decide
        · refine ⟨_, _, _, _, run84c m x k, unZ (Z := x ^ (k / 2) * x ^ (k / 2)) (pow_half x k (by omega)) ▸ ?_, ?_⟩
          · simp only [toI_enc, wd, tnc]
          · simp only [AllP, toI_enc, ok_e, wd, wm, tnc, hkz]
            and_intros <;> first | exact trivial | assumption | omega | exact decide_eq_false (by omega) | decide
    · cases hsp
/-- A power, over integers. -/
def spPow : Sp
  | [.abs [x], .one (.v (.int .i64 n))] => some (rZ (x ^ n.toNat), [0 ≤ n ∧ n ≤ 100000000, (enc x.natAbs).length * (n.toNat + 1) ≤ 100000000])
  | _ => none
theorem con84 : Con Tryz.prog 84 spPow := by
  refine conWeaken (con84m 100000001) fun avs r ps hs hp => ?_
  unfold spPow at hs
  split at hs
  · rename_i x n
    simp only [Option.some.injEq, Prod.mk.injEq] at hs
    obtain ⟨rfl, rfl⟩ := hs
    obtain ⟨⟨h0, h1⟩, h2, _⟩ := hp
    exact ⟨_, rfl, ⟨h0, by omega⟩, h1, h2, trivial⟩
  · cases hs
theorem con80 : Con Tryz.prog 80 spSmall := by
  refine con_flat hmix E14ok (by kernel_rfl) (fn := Tryz.f80) (by kernel_rfl) (fun _ => by kernel_rfl) ?_
  intro avs r ps hsp hps
  unfold spSmall at hsp
  split at hsp
  · rename_i x
    simp only [Option.some.injEq, Prod.mk.injEq] at hsp
    obtain ⟨rfl, rfl⟩ := hsp
    have lx := sz_big hps.1
    refine ⟨rfl, ?_⟩
    by_cases h2 : (enc x.natAbs).length ≤ 2
    · have hk := two64 h2
      have hl : decide ((2 : Int) < ((enc x.natAbs).length : Int)) = false := decide_eq_false (by omega)
      by_cases h0 : x < 0
      · by_cases hs : x.natAbs ≤ 9223372036854775808
        · obtain ⟨e1, e2⟩ := small_yes (x := x) (by omega)
          refine ⟨_, _, _, _, run80d x, tupS ?_ e2.symm, ?_⟩
          · rw [nv_enc, e1, w64]
            have e3 : ((x.natAbs : Int) - 1) % 18446744073709551616 = (x.natAbs : Int) - 1 := by omega
            rw [e3, wi64 ((x.natAbs : Int) - 1) (by omega) (by omega), wi64 (0 - _) (by omega) (by omega), wi64 _ (by omega) (by omega)]
            omega
          · simp only [AllP, nv_enc, words_e, hl, decide_eq_true h0]
            and_intros <;> first | exact trivial | omega | exact decide_eq_true (by omega) | rfl
        · obtain ⟨e1, e2⟩ := small_no (x := x) (by omega)
          refine ⟨_, _, _, _, run80e x, tupS e1.symm e2.symm, ?_⟩
          simp only [AllP, nv_enc, words_e, hl, decide_eq_true h0]
          and_intros <;> first | exact trivial | omega | exact decide_eq_false (by omega) | rfl
      · by_cases hs : x.natAbs < 9223372036854775808
        · obtain ⟨e1, e2⟩ := small_yes (x := x) (by omega)
          refine ⟨_, _, _, _, run80b x, tupS ?_ e2.symm, ?_⟩
          · rw [nv_enc, e1, wi64 _ (by omega) (by omega)]; omega
          · simp only [AllP, nv_enc, words_e, hl, decide_eq_false h0]
            and_intros <;> first | exact trivial | omega | exact decide_eq_true (by omega) | rfl
        · obtain ⟨e1, e2⟩ := small_no (x := x) (by omega)
          refine ⟨_, _, _, _, run80c x, tupS e1.symm e2.symm, ?_⟩
          simp only [AllP, nv_enc, words_e, hl, decide_eq_false h0]
          and_intros <;> first | exact trivial | omega | exact decide_eq_false (by omega) | rfl
    · have hk := more64 h2
      obtain ⟨e1, e2⟩ := small_no (x := x) (by omega)
      refine ⟨_, _, _, _, run80a x, tupS e1.symm e2.symm, ?_⟩
      simp only [AllP]
      and_intros <;> first | exact trivial | exact decide_eq_true (by omega)
  · cases hsp
def E15 : List (Nat × Ctr) := (45, .fn (zArgs (spZn fun x => (o_bits x.natAbs : Int)))) :: (21, .fn (zArgs spSame)) :: (38, .fn (zArgs (spZ2 gcdZ))) :: (79, .fn spCommon) :: (61, .fn spPowN) :: (84, .fn (zArgs spPow)) :: (80, .fn (zArgs spSmall)) :: E14
theorem E15ok : EnvOk Tryz.prog E15 := .cons (con_z con45) (.cons (con_z con21) (.cons (con_z con38) (.cons con79 (.cons con61 (.cons (con_z con84) (.cons (con_z con80) E14ok))))))

end Go.Proofs.YtkfdnpbpebmhaaaGreatDoor.Spec
namespace Go.Proofs.YtkfdnpbpebmhaaaGreatDoor.Spec
open Go Go.RowKit Sx Num

def fixBC : BC → BC
  | .cells ls => .cells (ls.map fixL)
  | b => b
def fixBx (b : Box) : Box := ⟨b.ty, fixBC b.bc, b.mut_⟩
def fixBs (bs : List (Nat × Box)) : List (Nat × Box) := bs.map fun p => (p.1, fixBx p.2)
def fixSt (s : St) : St := ⟨s.tmps, fixBs s.boxes⟩
theorem lk_fix : ∀ (bs : List (Nat × Box)) (i : Nat), lk (fixBs bs) i = (lk bs i).map fixBx
  | [], i => rfl
  | (j, b) :: bs, i => by
    unfold fixBs
    rw [List.map_cons, lk_cons, lk_cons]
    split
    · rfl
    · exact lk_fix bs i
theorem liv_fix (bs : List (Nat × Box)) : liv (fixBs bs) = liv bs := by
  funext i
  unfold liv
  rw [lk_fix]
  cases lk bs i <;> rfl
theorem mof_fix (M0 : Nat → Prop) (β : Nat → Nat) (bs : List (Nat × Box)) : Mof M0 β (fixBs bs) = Mof M0 β bs := by
  funext b
  unfold Mof
  apply propext
  constructor
  · rintro (h | ⟨i, x, h1, h2, h3⟩)
    · exact .inl h
    · rw [lk_fix] at h1
      obtain ⟨y, h4, rfl⟩ := Option.map_eq_some_iff.1 h1
      exact .inr ⟨i, y, h4, h2, h3⟩
  · rintro (h | ⟨i, x, h1, h2, h3⟩)
    · exact .inl h
    · exact .inr ⟨i, fixBx x, by rw [lk_fix, h1]; rfl, h2, h3⟩
theorem fixBC_ok {n : Nat → Bool} {b : BC} (h : b.okB n = true) : (fixBC b).okB n = true := by
  cases b with
  | cells ls =>
    simp only [fixBC, BC.okB, okLs, List.all_map] at h ⊢
    rw [List.all_eq_true] at h ⊢
    exact fun l hl => fixL_ok (h l hl)
  | ints k xs => exact h
  | gi k xs => exact h
theorem fixBC_g {M : Nat → Prop} {β : Nat → Nat} {w : World} {b : BC} {us : List Value} (h : gBC M β w b us) : gBC M β w (fixBC b) us := by
  cases b with
  | cells ls => exact fixLs_g h
  | ints k xs => exact h
  | gi k xs => exact h
theorem gm_fix {nt : Nat} {s : St} {M0 X : Nat → Prop} {base : Nat} {β : Nat → Nat} {a : Act} {w : World} (h : Gm M0 base X nt β s a w) : Gm M0 base X nt β (fixSt s) a w where
  def_ := h.def_
  size := h.size
  tmps := fun t x hx => by
    obtain ⟨h1, h2, h3⟩ := h.tmps t x hx
    refine ⟨h1, ?_, ?_⟩
    · show x.okB (liv (fixBs s.boxes)) = true
      rw [liv_fix]; exact h2
    · show gA (Mof M0 β (fixBs s.boxes)) β w x _
      rw [mof_fix]; exact h3
  boxes := fun i b hb => by
    have hb : lk (fixBs s.boxes) i = some b := hb
    rw [lk_fix] at hb
    obtain ⟨y, h4, rfl⟩ := Option.map_eq_some_iff.1 hb
    obtain ⟨h1, arr, h2, h3⟩ := h.boxes i y h4
    refine ⟨?_, arr, h2, ?_⟩
    · show (fixBC y.bc).okB (liv (fixBs s.boxes)) = true
      rw [liv_fix]; exact fixBC_ok h1
    · show gBC (Mof M0 β (fixBs s.boxes)) β w (fixBC y.bc) _
      rw [mof_fix]; exact fixBC_g h3
  inj := fun i j hi hj => h.inj i j (by rw [← liv_fix]; exact hi) (by rw [← liv_fix]; exact hj)
  ge := fun i hi => h.ge i (by rw [← liv_fix]; exact hi)
  M0lt := h.M0lt
  M0X := h.M0X
  pin := fun g hg => by
    obtain ⟨h1, h2⟩ := h.pin g hg
    exact ⟨by show liv (fixBs s.boxes) 0 = true; rw [liv_fix]; exact h1, h2⟩
  base_le := h.base_le
section
variable {P : Program} {L : Loops} {nt : Nat}
theorem WX.fix {c : Code} {s : St} {R : Ex → St → Prop} (h : WX P nt c (fixSt s) R) : WX P nt c s R :=
  fun M0 base X β a w Q hΓ hK => h M0 base X β a w Q (gm_fix hΓ) hK
theorem loop_okF {α : Type} {c : Code} {k : Nat} {f : St → Option (Ex × St × List Prop)} (hk : lkey c = k) (hL : L k = some f) (I fin : α → St) (V : α → Prop) (μ : α → Nat) (e0 : Ex) (he0 : e0 ≠ .normal)
    (hf : ∀ st e s obs, f st = some (e, s, obs) → AllP obs → ∃ x, V x ∧ SubS (fixSt st) (I x) ∧ e = e0 ∧ s = fin x)
    (h : ∀ x, V x → WX P nt c (I x) fun e s => (e = .normal ∧ ∃ y, V y ∧ μ y < μ x ∧ SubS s (I y) ∧ fin y = fin x) ∨ (e = e0 ∧ SubS s (fin x))) : LoopOk P nt L c := by
  intro f' hf' st e s obs hst hob
  rw [hk, hL] at hf'
  cases hf'
  obtain ⟨x, hx, hsub, rfl, rfl⟩ := hf st e s obs hst (allP_iff.2 hob)
  refine WX.fix (WX.sub hsub (WX.post (WX.loop (R := fun e' s' => e' = e ∧ SubS s' (fin x)) I (fun y => V y ∧ fin y = fin x) μ ?_ x ⟨hx, rfl⟩) ?_))
  · rintro y ⟨hy, hfy⟩
    refine (h y hy).mono ?_
    rintro e' s' (⟨rfl, z, hz, hlt, hs, hfz⟩ | ⟨rfl, hs⟩)
    · exact .inl ⟨rfl, z, ⟨hz, hfz.trans hfy⟩, hlt, hs⟩
    · rw [hfy] at hs; exact .inr ⟨he0, rfl, hs⟩
  · rintro e' s' ⟨rfl, hs⟩
    exact ⟨_, hs, rfl, rfl⟩
end
theorem ok_split {s : Bool} {xs : List Int} (h : o_ok s xs) : s = decide (o_toI s xs < 0) ∧ xs = enc (o_toI s xs).natAbs := ⟨(toI_abs h).1.symm, (toI_abs h).2.symm⟩

/-- The same of the slots; there own slices without words, too. -/
def fixL2 : LV → LV
  | .sl _ _ 0 _ => .row .u32 []
  | l => fixL l
def fixA2 : AV → AV
  | .s (.one l) => .s (.one (fixL2 l))
  | x => fixA x
theorem fixL2_g {M : Nat → Prop} {β : Nat → Nat} {w : World} {l : LV} {u : Value} (h : gL M β w l u) : gL M β w (fixL2 l) u := by
  unfold fixL2
  split
  · rename_i id off cap
    have h : u = .slice (some ⟨β id, off, none⟩) 0 cap := h
    subst h
    exact ⟨_, cap, rfl, Nat.zero_le _, by simp, fun _ _ h => by simp at h⟩
  · exact fixL_g h
theorem fixA2_g {M : Nat → Prop} {β : Nat → Nat} {w : World} {x : AV} {u : Value} (h : gA M β w x u) : gA M β w (fixA2 x) u := by
  unfold fixA2
  split
  · exact fixL2_g h
  · exact fixA_g h
theorem fixA2_ok {n : Nat → Bool} {x : AV} (h : x.okB n = true) : (fixA2 x).okB n = true := by
  unfold fixA2
  split
  · unfold fixL2
    split
    · rfl
    · exact fixL_ok h
  · exact fixA_ok h
def fixTs (ts : List (Nat × AV)) : List (Nat × AV) := ts.map fun p => (p.1, fixA2 p.2)
def fixSt2 (s : St) : St := ⟨fixTs s.tmps, fixBs s.boxes⟩
theorem lk_fixT : ∀ (ts : List (Nat × AV)) (i : Nat), lk (fixTs ts) i = (lk ts i).map fixA2
  | [], i => rfl
  | (j, b) :: ts, i => by
    unfold fixTs
    rw [List.map_cons, lk_cons, lk_cons]
    split
    · rfl
    · exact lk_fixT ts i
theorem gm_fix2 {nt : Nat} {s : St} {M0 X : Nat → Prop} {base : Nat} {β : Nat → Nat} {a : Act} {w : World} (h : Gm M0 base X nt β s a w) : Gm M0 base X nt β (fixSt2 s) a w where
  def_ := h.def_
  size := h.size
  tmps := fun t x hx => by
    have hx : lk (fixTs s.tmps) t = some x := hx
    rw [lk_fixT] at hx
    obtain ⟨y, h4, rfl⟩ := Option.map_eq_some_iff.1 hx
    obtain ⟨h1, h2, h3⟩ := (gm_fix h).tmps t y h4
    exact ⟨h1, fixA2_ok h2, fixA2_g h3⟩
  boxes := (gm_fix h).boxes
  inj := (gm_fix h).inj
  ge := (gm_fix h).ge
  M0lt := h.M0lt
  M0X := h.M0X
  pin := (gm_fix h).pin
  base_le := h.base_le
section
variable {P : Program} {L : Loops} {nt : Nat}
theorem loop_okT {α : Type} {c : Code} {k : Nat} {f : St → Option (Ex × St × List Prop)} (hk : lkey c = k) (hL : L k = some f) (I fin : α → St) (V : α → Prop) (μ : α → Nat) (ex : α → Ex) (he0 : ∀ x, ex x ≠ .normal)
    (hf : ∀ st e s obs, f st = some (e, s, obs) → AllP obs → ∃ x, V x ∧ SubS (fixSt2 st) (I x) ∧ e = ex x ∧ s = fin x)
    (h : ∀ x, V x → WX P nt c (I x) fun e s => (e = .normal ∧ ∃ y, V y ∧ μ y < μ x ∧ SubS s (I y) ∧ fin y = fin x ∧ ex y = ex x) ∨ (e = ex x ∧ SubS s (fin x))) : LoopOk P nt L c := by
  intro f' hf' st e s obs hst hob
  rw [hk, hL] at hf'
  cases hf'
  obtain ⟨x, hx, hsub, rfl, rfl⟩ := hf st e s obs hst (allP_iff.2 hob)
  have hw := WX.loop (P := P) (nt := nt) (c := c) (R := fun e' s' => e' = ex x ∧ SubS s' (fin x)) I (fun y => V y ∧ fin y = fin x ∧ ex y = ex x) μ (by
    rintro y ⟨hy, hfy, hey⟩
    refine (h y hy).mono ?_
    rintro e' s' (⟨rfl, z, hz, hlt, hs, hfz, hez⟩ | ⟨rfl, hs⟩)
    · exact .inl ⟨rfl, z, ⟨hz, hfz.trans hfy, hez.trans hey⟩, hlt, hs⟩
    · rw [hfy] at hs; exact .inr ⟨by rw [hey]; exact he0 x, hey, hs⟩) x ⟨hx, rfl, rfl⟩
  have hw2 : WX P nt (.loop c) (fixSt2 st) fun e' s' => e' = ex x ∧ s' = fin x := WX.sub hsub (WX.post hw (by
    rintro e' s' ⟨rfl, hs⟩
    exact ⟨_, hs, rfl, rfl⟩))
  exact fun M0 base X β a w Q hΓ hK => hw2 M0 base X β a w Q (gm_fix2 hΓ) hK
end

end Go.Proofs.YtkfdnpbpebmhaaaGreatDoor.Spec
namespace Go.Proofs.YtkfdnpbpebmhaaaGreatDoor.Num

def rootTo (k n : Nat) : Nat → Nat
  | 0 => 0
  | m + 1 => if (m + 1) ^ k ≤ n then m + 1 else rootTo k n m
/-- The greatest number whose k-th power is not greater than n. -/
def o_root (k n : Nat) : Nat := rootTo k n n
theorem rootTo_le {k n : Nat} (hk : 0 < k) : ∀ m, rootTo k n m ^ k ≤ n
  | 0 => by simp [rootTo, Nat.zero_pow hk]
  | m + 1 => by
    unfold rootTo
    split
    · assumption
    · exact rootTo_le hk m
theorem le_rootTo {k n j : Nat} (h : j ^ k ≤ n) : ∀ m, j ≤ m → j ≤ rootTo k n m
  | 0, hj => hj
  | m + 1, hj => by
    unfold rootTo
    split
    · exact hj
    · rename_i hne
      refine le_rootTo h m ?_
      rcases Nat.lt_or_eq_of_le hj with h1 | h1
      · omega
      · subst h1; exact absurd h hne
theorem le_pow {k j : Nat} (hk : 0 < k) : j ≤ j ^ k := by
  obtain ⟨i, rfl⟩ : ∃ i, k = i + 1 := ⟨k - 1, by omega⟩
  rcases Nat.eq_zero_or_pos j with h | h
  · omega
  · rw [Nat.pow_succ]
    exact Nat.le_mul_of_pos_left _ (Nat.pow_pos h)
theorem root_le {k n : Nat} (hk : 0 < k) : o_root k n ^ k ≤ n := rootTo_le hk n
theorem le_root {k n j : Nat} (hk : 0 < k) (h : j ^ k ≤ n) : j ≤ o_root k n := le_rootTo h n (Nat.le_trans (le_pow hk) h)
theorem root_lt {k n : Nat} (hk : 0 < k) : n < (o_root k n + 1) ^ k := by
  rcases Nat.lt_or_ge n ((o_root k n + 1) ^ k) with h | h
  · exact h
  · have := le_root hk h; omega
theorem root_uniq {k n s : Nat} (hk : 0 < k) (h1 : s ^ k ≤ n) (h2 : n < (s + 1) ^ k) : o_root k n = s := by
  have h3 := le_root hk h1
  rcases Nat.lt_or_eq_of_le h3 with h | h
  · have h4 : (s + 1) ^ k ≤ o_root k n ^ k := Nat.pow_le_pow_left h k
    have := root_le (n := n) hk
    omega
  · exact h.symm
theorem root_up {k n r : Nat} (hk : 0 < k) (h : n < r ^ k) : o_root k n ≤ r := by
  rcases Nat.lt_or_ge r (o_root k n) with h1 | h1
  · have h4 : r ^ k ≤ o_root k n ^ k := Nat.pow_le_pow_left (Nat.le_of_lt h1) k
    have := root_le (n := n) hk
    omega
  · exact h1
theorem two_le (r s : Nat) : 2 * (s * r) ≤ r * r + s * s := by
  rcases Nat.le_total r s with h | h
  · obtain ⟨d, rfl⟩ : ∃ d, s = r + d := ⟨s - r, by omega⟩
    have e : (r + d) * r = r * r + d * r := Nat.add_mul ..
    have e2 : (r + d) * (r + d) = r * r + d * r + (d * r + d * d) := by rw [Nat.mul_add, Nat.add_mul, Nat.add_mul, Nat.mul_comm r d]
    rw [e, e2]
    generalize r * r = a; generalize d * r = b; generalize d * d = c
    omega
  · obtain ⟨d, rfl⟩ : ∃ d, r = s + d := ⟨r - s, by omega⟩
    have e : s * (s + d) = s * s + d * s := by rw [Nat.mul_add, Nat.mul_comm s d]
    have e2 : (s + d) * (s + d) = s * s + d * s + (d * s + d * d) := by rw [Nat.mul_add, Nat.add_mul, Nat.add_mul, Nat.mul_comm s d]
    rw [e, e2]
    generalize s * s = a; generalize d * s = b; generalize d * d = c
    omega
/-- The means of a power. -/
theorem amgm (r s : Nat) : ∀ j, (j + 1) * (s * r ^ j) ≤ j * r ^ (j + 1) + s ^ (j + 1)
  | 0 => by simp
  | j + 1 => by
    have ih := Nat.mul_le_mul_right s (amgm r s j)
    have h2 := Nat.mul_le_mul_left (r ^ j) (two_le r s)
    have h3 := Nat.mul_le_mul_left (j + 1) h2
    have e1 : (j + 1) * (s * r ^ j) * s = (j + 1) * (r ^ j * (s * s)) := by rw [Nat.mul_assoc, Nat.mul_comm s (r ^ j), Nat.mul_assoc]
    have e2 : (j * r ^ (j + 1) + s ^ (j + 1)) * s = j * (r ^ j * (s * r)) + s ^ (j + 1 + 1) := by
      rw [Nat.add_mul, ← Nat.pow_succ, Nat.mul_assoc, Nat.pow_succ r j, Nat.mul_assoc (r ^ j), Nat.mul_comm r s]
    have e3 : (j + 1 + 1) * (s * r ^ (j + 1)) = (j + 1 + 1) * (r ^ j * (s * r)) := by rw [Nat.pow_succ r j, Nat.mul_left_comm s]
    have e4 : (j + 1) * r ^ (j + 1 + 1) = (j + 1) * (r ^ j * (r * r)) := by rw [Nat.pow_succ r (j + 1), Nat.pow_succ r j, Nat.mul_assoc]
    have e5 : r ^ j * (2 * (s * r)) = 2 * (r ^ j * (s * r)) := by rw [Nat.mul_left_comm]
    rw [e1, e2] at ih
    rw [Nat.mul_add (r ^ j), e5] at h3
    rw [e3, e4]
    generalize r ^ j * (s * r) = Y at *
    generalize r ^ j * (s * s) = X at *
    generalize r ^ j * (r * r) = Z at *
    generalize s ^ (j + 1 + 1) = t at *
    have a1 : (j + 1) * X = j * X + X := Nat.succ_mul ..
    have a2 : (j + 1 + 1) * Y = j * Y + Y + Y := by rw [Nat.succ_mul, Nat.succ_mul]
    have a3 : (j + 1) * Z = j * Z + Z := Nat.succ_mul ..
    have a4 : (j + 1) * (2 * Y) = 2 * (j * Y) + 2 * Y := by rw [Nat.succ_mul, Nat.mul_left_comm]
    have a5 : (j + 1) * (Z + X) = j * Z + Z + (j * X + X) := by rw [Nat.mul_add, a3, a1]
    rw [a4, a5] at h3
    rw [a1] at ih
    rw [a2, a3]
    generalize j * X = p at *
    generalize j * Y = q at *
    generalize j * Z = u at *
    omega
/-- Newton's step. -/
def o_nx (k n r : Nat) : Nat := (r * (k - 1) + n / r ^ (k - 1)) / k
theorem nx_up {k n r s : Nat} (hk : 0 < k) (hr : 0 < r) (h : s ^ k ≤ n) : s ≤ o_nx k n r := by
  obtain ⟨j, rfl⟩ : ∃ i, k = i + 1 := ⟨k - 1, by omega⟩
  unfold o_nx
  rw [Nat.add_sub_cancel, Nat.le_div_iff_mul_le hk]
  have h1 := amgm r s j
  have hp : 0 < r ^ j := Nat.pow_pos hr
  rcases Nat.le_total (s * (j + 1)) (r * j) with h2 | h2
  · exact Nat.le_trans h2 (Nat.le_add_right _ _)
  · obtain ⟨d, hd⟩ : ∃ d, s * (j + 1) = r * j + d := ⟨s * (j + 1) - r * j, by omega⟩
    rw [hd]
    refine Nat.add_le_add_left ((Nat.le_div_iff_mul_le hp).2 ?_) _
    have e1 : (j + 1) * (s * r ^ j) = (r * j + d) * r ^ j := by rw [← hd, Nat.mul_assoc, Nat.mul_left_comm]
    have e2 : (r * j + d) * r ^ j = j * r ^ (j + 1) + d * r ^ j := by rw [Nat.add_mul, Nat.pow_succ r j, Nat.mul_comm r j, Nat.mul_assoc, Nat.mul_comm r (r ^ j)]
    rw [e1, e2] at h1
    omega
theorem nx_end {k n r : Nat} (hk : 0 < k) (hr : 0 < r) (h : r ≤ o_nx k n r) : r ^ k ≤ n := by
  obtain ⟨j, rfl⟩ : ∃ i, k = i + 1 := ⟨k - 1, by omega⟩
  unfold o_nx at h
  rw [Nat.add_sub_cancel, Nat.le_div_iff_mul_le hk, Nat.mul_add, Nat.mul_one] at h
  have hp : 0 < r ^ j := Nat.pow_pos hr
  have : r ≤ n / r ^ j := by omega
  rw [Nat.le_div_iff_mul_le hp] at this
  rw [Nat.pow_succ, Nat.mul_comm]
  exact this

/-- The root without its last j bits. -/
def o_rj (k n j : Nat) : Nat := o_root k n / 2 ^ j * 2 ^ j
theorem rj_zero (k n : Nat) : o_rj k n 0 = o_root k n := by unfold o_rj; rw [Nat.pow_zero, Nat.div_one, Nat.mul_one]
theorem rj_start {k n j : Nat} (h : o_root k n < 2 ^ j) : o_rj k n j = 0 := by unfold o_rj; rw [Nat.div_eq_of_lt h, Nat.zero_mul]
theorem rj_step {k n : Nat} (j : Nat) (hk : 0 < k) : o_rj k n j = if (o_rj k n (j + 1) + 2 ^ j) ^ k ≤ n then o_rj k n (j + 1) + 2 ^ j else o_rj k n (j + 1) := by
  have hp : 0 < 2 ^ j := Nat.pow_pos (by decide)
  have hiff : (o_rj k n (j + 1) + 2 ^ j) ^ k ≤ n ↔ o_rj k n (j + 1) + 2 ^ j ≤ o_root k n := by
    constructor
    · exact le_root hk
    · exact fun h => Nat.le_trans (Nat.pow_le_pow_left h k) (root_le hk)
  simp only [hiff]
  unfold o_rj
  generalize o_root k n = r
  have e1 : r / 2 ^ (j + 1) = r / 2 ^ j / 2 := by rw [Nat.pow_succ, Nat.div_div_eq_div_mul]
  have e2 : r / 2 ^ j / 2 * 2 ^ (j + 1) = (2 * (r / 2 ^ j / 2)) * 2 ^ j := by rw [Nat.pow_succ, Nat.mul_comm (2 ^ j) 2, ← Nat.mul_assoc, Nat.mul_comm _ 2]
  rw [e1, e2]
  have e3 : 2 * (r / 2 ^ j / 2) * 2 ^ j + 2 ^ j = (2 * (r / 2 ^ j / 2) + 1) * 2 ^ j := (Nat.succ_mul _ _).symm
  rw [e3]
  have e4 : (2 * (r / 2 ^ j / 2) + 1) * 2 ^ j ≤ r ↔ 2 * (r / 2 ^ j / 2) + 1 ≤ r / 2 ^ j := (Nat.le_div_iff_mul_le hp).symm
  simp only [e4]
  generalize r / 2 ^ j = q
  split
  · congr 1; omega
  · congr 1; omega
theorem rj_lt {k n j : Nat} (h : o_root k n < 2 ^ (j + 1)) : o_rj k n (j + 1) + 2 ^ j ≤ 2 ^ (j + 1) := by
  rw [rj_start h, Nat.pow_succ]
  have : 0 < 2 ^ j := Nat.pow_pos (by decide)
  omega
theorem rj_le (k n j : Nat) : o_rj k n j ≤ o_root k n := Nat.div_mul_le_self ..
/-- A power of two above a root. -/
theorem root_bits {k n e b : Nat} (hb : n < 2 ^ b) (he : b ≤ e * k) : n < (2 ^ e) ^ k := by
  rw [← Nat.pow_mul]
  exact Nat.lt_of_lt_of_le hb (Nat.pow_le_pow_right (by decide) he)
theorem root_lt_bits {k n e b : Nat} (hk : 0 < k) (hb : n < 2 ^ b) (he : b ≤ e * k) : o_root k n < 2 ^ e := by
  rcases Nat.lt_or_ge (o_root k n) (2 ^ e) with h | h
  · exact h
  · have h1 := root_bits hb he
    have h2 : (2 ^ e) ^ k ≤ o_root k n ^ k := Nat.pow_le_pow_left h k
    have := root_le (n := n) hk
    omega

end Go.Proofs.YtkfdnpbpebmhaaaGreatDoor.Num
namespace Go.Proofs.YtkfdnpbpebmhaaaGreatDoor.Spec
open Go Go.RowKit Sx Num

def bz (r0 r1 : Nat) (f0 f1 : Int) : Int × Int := if _h : r1 = 0 then (f0, f1) else bz r1 (r0 % r1) f1 (f0 - ((r0 / r1 : Nat) : Int) * f1)
termination_by r1
decreasing_by exact Nat.mod_lt _ (by omega)
def o_bz1 (r0 r1 : Nat) (f0 f1 : Int) : Int := (bz r0 r1 f0 f1).1
def o_bz2 (r0 r1 : Nat) (f0 f1 : Int) : Int := (bz r0 r1 f0 f1).2
/-- The sizes that are kept. -/
def o_bok (r0 r1 : Nat) (f0 f1 : Int) : Prop := r1 < r0 ∧ f0 * f1 ≤ 0 ∧ ∃ N : Nat, N < B ^ 40000000 ∧ r0 ≤ N ∧ f0.natAbs ≤ N ∧ f0.natAbs * r1 + f1.natAbs * r0 = N
def bxZ (ty : TypeId) (z : Int) : Box := ⟨ty, .cells (absL [z]), true⟩
def bxZ2 (ty : TypeId) (y z : Int) : Box := ⟨ty, .cells (absL [y, z]), true⟩
def bx0 (ty : TypeId) : Box := ⟨ty, .cells [.v (.bool false), .row .u32 []], true⟩
def ptrV (i : Nat) : AV := .s (.one (.ptr i 0))
def I35 (ty ty2 : TypeId) (a b : Int) (r0 r1 : Nat) (f0 f1 : Int) : St :=
  ⟨[(2, ptrV 2), (3, ptrV 3), (4, ptrV 4), (5, ptrV 5), (6, ptrV 6), (7, ptrV 7), (8, ptrV 8)],
   [(2, bxZ ty a), (3, bxZ ty b), (4, bx0 ty), (5, bx0 ty), (6, bx0 ty), (7, bxZ2 ty2 r0 r1), (8, bxZ2 ty2 f0 f1)]⟩
def F35 (st : St) : Option (Ex × St × List Prop) :=
  match liv st.boxes 0, lk st.tmps 2, lk st.tmps 3, lk st.tmps 4, lk st.tmps 5, lk st.tmps 6, lk st.tmps 7, lk st.tmps 8, lk (fixBs st.boxes) 2, lk (fixBs st.boxes) 3, lk (fixBs st.boxes) 4, lk (fixBs st.boxes) 5, lk (fixBs st.boxes) 6, lk (fixBs st.boxes) 7, lk (fixBs st.boxes) 8 with
  | false, some (.s (.one (.ptr 2 0))), some (.s (.one (.ptr 3 0))), some (.s (.one (.ptr 4 0))), some (.s (.one (.ptr 5 0))), some (.s (.one (.ptr 6 0))), some (.s (.one (.ptr 7 0))), some (.s (.one (.ptr 8 0))),
    some ⟨ty, .cells [.v (.bool s2), .row .u32 x2], true⟩, some ⟨ty3, .cells [.v (.bool s3), .row .u32 x3], true⟩,
    some ⟨ty4, .cells [.v (.bool false), .row .u32 []], true⟩, some ⟨ty5, .cells [.v (.bool false), .row .u32 []], true⟩, some ⟨ty6, .cells [.v (.bool false), .row .u32 []], true⟩,
    some ⟨ty7, .cells [.v (.bool s7), .row .u32 x7, .v (.bool t7), .row .u32 y7], true⟩, some ⟨ty8, .cells [.v (.bool s8), .row .u32 x8, .v (.bool t8), .row .u32 y8], true⟩ =>
    some (.exit 0, I35 ty ty7 (o_toI s2 x2) (o_toI s3 x3) (o_gcd (o_toI s7 x7).natAbs (o_toI t7 y7).natAbs) 0 (o_bz1 (o_toI s7 x7).natAbs (o_toI t7 y7).natAbs (o_toI s8 x8) (o_toI t8 y8)) (o_bz2 (o_toI s7 x7).natAbs (o_toI t7 y7).natAbs (o_toI s8 x8) (o_toI t8 y8)),
      [ty3 = ty, ty4 = ty, ty5 = ty, ty6 = ty, ty8 = ty7, o_ok s2 x2, o_ok s3 x3, o_ok s7 x7, o_ok t7 y7, o_ok s8 x8, o_ok t8 y8, 0 ≤ o_toI s7 x7, 0 ≤ o_toI t7 y7, o_bok (o_toI s7 x7).natAbs (o_toI t7 y7).natAbs (o_toI s8 x8) (o_toI t8 y8)])
  | _, _, _, _, _, _, _, _, _, _, _, _, _, _, _ => none
def L35 : Loops := fun k => bif Nat.beq k 4 then some F35 else none
def I36 (ty : TypeId) (a b : Int) (r0 r1 : Nat) (f0 f1 : Int) : St :=
  ⟨[(2, ptrV 2), (3, ptrV 3), (4, ptrV 4), (5, ptrV 5), (6, ptrV 6), (7, ptrV 7), (9, ptrV 9), (11, ptrV 11), (12, ptrV 12)],
   [(2, bxZ ty a), (3, bxZ ty b), (4, bx0 ty), (5, bx0 ty), (6, bx0 ty), (7, bxZ ty r0), (9, bxZ ty r1), (11, bxZ ty f0), (12, bxZ ty f1)]⟩
def F36 (st : St) : Option (Ex × St × List Prop) :=
  match liv st.boxes 0, lk st.tmps 2, lk st.tmps 3, lk st.tmps 4, lk st.tmps 5, lk st.tmps 6, lk st.tmps 7, lk st.tmps 9, lk st.tmps 11, lk st.tmps 12, lk (fixBs st.boxes) 2, lk (fixBs st.boxes) 3, lk (fixBs st.boxes) 4, lk (fixBs st.boxes) 5, lk (fixBs st.boxes) 6, lk (fixBs st.boxes) 7, lk (fixBs st.boxes) 9, lk (fixBs st.boxes) 11, lk (fixBs st.boxes) 12 with
  | false, some (.s (.one (.ptr 2 0))), some (.s (.one (.ptr 3 0))), some (.s (.one (.ptr 4 0))), some (.s (.one (.ptr 5 0))), some (.s (.one (.ptr 6 0))), some (.s (.one (.ptr 7 0))), some (.s (.one (.ptr 9 0))), some (.s (.one (.ptr 11 0))), some (.s (.one (.ptr 12 0))),
    some ⟨ty, .cells [.v (.bool s2), .row .u32 x2], true⟩, some ⟨ty3, .cells [.v (.bool s3), .row .u32 x3], true⟩,
    some ⟨ty4, .cells [.v (.bool false), .row .u32 []], true⟩, some ⟨ty5, .cells [.v (.bool false), .row .u32 []], true⟩, some ⟨ty6, .cells [.v (.bool false), .row .u32 []], true⟩,
    some ⟨ty7, .cells [.v (.bool s7), .row .u32 x7], true⟩, some ⟨ty9, .cells [.v (.bool t7), .row .u32 y7], true⟩, some ⟨ty11, .cells [.v (.bool s8), .row .u32 x8], true⟩, some ⟨ty12, .cells [.v (.bool t8), .row .u32 y8], true⟩ =>
    some (.exit 0, I36 ty (o_toI s2 x2) (o_toI s3 x3) (o_gcd (o_toI s7 x7).natAbs (o_toI t7 y7).natAbs) 0 (o_bz1 (o_toI s7 x7).natAbs (o_toI t7 y7).natAbs (o_toI s8 x8) (o_toI t8 y8)) (o_bz2 (o_toI s7 x7).natAbs (o_toI t7 y7).natAbs (o_toI s8 x8) (o_toI t8 y8)),
      [ty3 = ty, ty4 = ty, ty5 = ty, ty6 = ty, ty7 = ty, ty9 = ty, ty11 = ty, ty12 = ty, o_ok s2 x2, o_ok s3 x3, o_ok s7 x7, o_ok t7 y7, o_ok s8 x8, o_ok t8 y8, 0 ≤ o_toI s7 x7, 0 ≤ o_toI t7 y7, o_bok (o_toI s7 x7).natAbs (o_toI t7 y7).natAbs (o_toI s8 x8) (o_toI t8 y8)])
  | _, _, _, _, _, _, _, _, _, _, _, _, _, _, _, _, _, _, _ => none
def L36 : Loops := fun k => bif Nat.beq k 7 then some F36 else none

end Go.Proofs.YtkfdnpbpebmhaaaGreatDoor.Spec
