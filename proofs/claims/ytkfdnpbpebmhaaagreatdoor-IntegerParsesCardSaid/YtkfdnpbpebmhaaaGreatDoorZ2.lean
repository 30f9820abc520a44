/- Contracts: comparing, cutting off zeros; Rows of words as numbers: cutting off zeros, digits; Loops that compare: the invariants; Runs: comparing numbers, making integers; Contracts: cloning, numbers of 64 bits as words, integers out of words, comparing; Contracts: comparing rows of words; Adding and subtracting rows of words: the numbers, the invariants; Runs: signed, adding; Contracts: integers out of words (a copy), adding; Contracts: subtracting, and the reference's adding and taking; Multiplying rows of words: the numbers, the invariants; Runs: multiplying; Contracts: multiplying; Multiplying in the reference: the invariants; Runs: multiplying in the reference; Contracts: multiplying in the reference; Dividing by one word: the numbers, the invariants; Runs: dividing by one word; Contracts: dividing by one word; Shifting words: the invariants; Runs: shifting words. -/
import Derived.Test.YtkfdnpbpebmhaaaGreatDoorProg
import Derived.Test.YtkfdnpbpebmhaaaGreatDoorZ0
import Derived.Test.YtkfdnpbpebmhaaaGreatDoorZ1
namespace Go.Proofs.YtkfdnpbpebmhaaaGreatDoor.Spec
open Go Go.RowKit Sx Num

def spCmpI : Sp
  | [.one (.v (.int .i64 x)), .one (.v (.int .i64 y))] => some (.s (num (if x < y then -1 else if y < x then 1 else 0)), [])
  | _ => none
def spCmp32 : Sp
  | [.one (.v (.int .u32 x)), .one (.v (.int .u32 y))] => some (.s (num (if x < y then -1 else if y < x then 1 else 0)), [])
  | _ => none
def trimL (xs : List Int) : List Int := xs.take (o_nrm xs xs.length)
def spNorm : Sp
  | [.one (.row .u32 xs)] => some (.s (roW (trimL xs)), [Ln xs])
  | _ => none

theorem con52 : Con Tryz.prog 52 spCmpI := by
  refine con_flat (l := E1) (fn := Tryz.f52) hmix E1ok (by kernel_rfl) (by kernel_rfl) (fun _ => by kernel_rfl) ?_
  intro avs r ps hsp hps
  unfold spCmpI at hsp
  split at hsp
  · rename_i x y
    simp only [Option.some.injEq, Prod.mk.injEq] at hsp
    obtain ⟨rfl, rfl⟩ := hsp
    by_cases h1 : x < y
    · exact ⟨rfl, _, _, _, _, run52a x y, by simp [num, h1], by simp [AllP, h1]⟩
    · by_cases h2 : y < x
      · exact ⟨rfl, _, _, _, _, run52b x y, by simp [num, h1, h2], by simp [AllP, h1, h2]⟩
      · exact ⟨rfl, _, _, _, _, run52c x y, by simp [num, h1, h2], by simp [AllP, h1, h2]⟩
  · cases hsp
theorem con87 : Con Tryz.prog 87 spCmp32 := by
  refine con_flat (l := E1) (fn := Tryz.f87) hmix E1ok (by kernel_rfl) (by kernel_rfl) (fun _ => by kernel_rfl) ?_
  intro avs r ps hsp hps
  unfold spCmp32 at hsp
  split at hsp
  · rename_i x y
    simp only [Option.some.injEq, Prod.mk.injEq] at hsp
    obtain ⟨rfl, rfl⟩ := hsp
    by_cases h1 : x < y
    · exact ⟨rfl, _, _, _, _, run87a x y, by simp [num, h1], by simp [AllP, h1]⟩
    · by_cases h2 : y < x
      · exact ⟨rfl, _, _, _, _, run87b x y, by simp [num, h1, h2], by simp [AllP, h1, h2]⟩
      · exact ⟨rfl, _, _, _, _, run87c x y, by simp [num, h1, h2], by simp [AllP, h1, h2]⟩
  · cases hsp

theorem nrm_le (xs : List Int) : ∀ k, o_nrm xs k ≤ k
  | 0 => Nat.le_refl _
  | k + 1 => by
    simp only [o_nrm]
    split
    · have := nrm_le xs k; omega
    · exact Nat.le_refl _
theorem sub89 {st : St} {e : Ex} {s : St} {obs : List Prop} (h : F89 st = some (e, s, obs)) (hob : AllP obs) : ∃ x : List Int × Int, (0 ≤ x.2 ∧ x.2 ≤ x.1.length ∧ Ln x.1) ∧ SubS st (I89 x.1 x.2) ∧ e = .exit 0 ∧ s = I89 x.1 (o_nrm x.1 x.2.toNat) := by
  unfold F89 at h
  split at h
  · rename_i xs n hz h1 h2
    simp only [Option.some.injEq, Prod.mk.injEq] at h
    obtain ⟨rfl, rfl, rfl⟩ := h
    refine ⟨(xs, n), hob.1, ⟨?_, ?_, ?_⟩, rfl, rfl⟩
    · intro p hp
      simp only [I89, List.mem_cons, List.not_mem_nil, or_false] at hp
      rcases hp with rfl | rfl <;> exact ⟨by assumption, rfl⟩
    · intro p hp; cases hp
    · rw [hz]; intro h; cases h
  · cases h

theorem lo89 : ∀ d ∈ loopsF Tryz.f89, LoopOk Tryz.prog Tryz.f89.ntmps L89 d := by
  rw [show loopsF Tryz.f89 = [loopC Tryz.f89 0] by kernel_rfl]
  intro d hd
  rw [List.mem_singleton] at hd
  subst hd
  refine loop_ok (k := 2) (f := F89) (α := List Int × Int) (by kernel_rfl) (by kernel_rfl) (fun x => I89 x.1 x.2) (fun x => I89 x.1 (o_nrm x.1 x.2.toNat)) (fun x => 0 ≤ x.2 ∧ x.2 ≤ x.1.length ∧ Ln x.1) (fun x => x.2.toNat) (.exit 0) (by simp) (fun st e s obs h hob => sub89 h hob) ?_
  rintro ⟨xs, n⟩ ⟨h0, h1, h2⟩
  simp only at h0 h1 h2 ⊢
  have hno : ∀ d ∈ loopsOf (loopC Tryz.f89 0), LoopOk Tryz.prog Tryz.f89.ntmps L0 d := by rw [show loopsOf (loopC Tryz.f89 0) = [] by kernel_rfl]; intro d hd; cases hd
  unfold Ln at h2
  have hw : IntKind.wrap IntKind.i64 (n - 1) = n - 1 := wi64 _ (by omega) (by omega)
  by_cases hn : 0 < n
  · obtain ⟨m, rfl⟩ : ∃ m : Nat, n = m + 1 := ⟨n.toNat - 1, by omega⟩
    have hm : (m + 1 : Int) - 1 = m := by omega
    rw [hm] at hw
    have ht : Int.toNat ((m : Int) + 1) = m + 1 := by omega
    by_cases hz : xs.getD m 0 = 0
    · refine (codeV_sound hmix E1ok.hS hno (loop89a xs (m + 1)) ?_).mono ?_
      · simp [AllP, hm, hw, hz, -List.getD_eq_getElem?_getD]; omega
      · rintro e s ⟨rfl, hs⟩
        refine .inl ⟨rfl, (xs, (m : Int)), ⟨by show (0:Int) ≤ m; omega, by show (m:Int) ≤ xs.length; omega, h2⟩, by simp only; omega, ?_, ?_⟩
        · rw [hm, hw] at hs; exact hs
        · simp only [ht, o_nrm, hz, if_true, Int.toNat_natCast]
    · refine (codeV_sound hmix E1ok.hS hno (loop89b xs (m + 1)) ?_).mono ?_
      · simp [AllP, hm, hw, hz, -List.getD_eq_getElem?_getD]; omega
      · rintro e s ⟨rfl, hs⟩
        refine .inr ⟨rfl, ?_⟩
        simp only [ht, o_nrm, hz, if_false]
        exact hs
  · refine (codeV_sound hmix E1ok.hS hno (loop89c xs n) ?_).mono ?_
    · simp [AllP, hn]
    · rintro e s ⟨rfl, hs⟩
      have : n = 0 := by omega
      subst this
      exact .inr ⟨rfl, hs⟩
theorem con89 : Con Tryz.prog 89 spNorm := by
  refine con_run (L := L89) (fn := Tryz.f89) hmix E1ok.hS lo89 (by kernel_rfl) (fun _ => by kernel_rfl) ?_
  intro avs r ps hsp hps
  unfold spNorm at hsp
  split at hsp
  · rename_i xs
    simp only [Option.some.injEq, Prod.mk.injEq] at hsp
    obtain ⟨rfl, rfl⟩ := hsp
    refine ⟨rfl, _, _, _, _, run89 xs, rfl, ?_⟩
    have := nrm_le xs xs.length
    have hl : Ln xs := hps.1
    unfold Ln at hl
    simp [AllP]; omega
  · cases hsp
theorem lo85 : ∀ d ∈ loopsF Tryz.f85, LoopOk Tryz.prog Tryz.f85.ntmps L89 d := by
  rw [show loopsF Tryz.f85 = [loopC Tryz.f85 0] by kernel_rfl]
  intro d hd
  rw [List.mem_singleton] at hd
  subst hd
  refine loop_ok (k := 2) (f := F89) (α := List Int × Int) (by kernel_rfl) (by kernel_rfl) (fun x => I89 x.1 x.2) (fun x => I89 x.1 (o_nrm x.1 x.2.toNat)) (fun x => 0 ≤ x.2 ∧ x.2 ≤ x.1.length ∧ Ln x.1) (fun x => x.2.toNat) (.exit 0) (by simp) (fun st e s obs h hob => sub89 h hob) ?_
  rintro ⟨xs, n⟩ ⟨h0, h1, h2⟩
  simp only at h0 h1 h2 ⊢
  have hno : ∀ d ∈ loopsOf (loopC Tryz.f85 0), LoopOk Tryz.prog Tryz.f85.ntmps L0 d := by rw [show loopsOf (loopC Tryz.f85 0) = [] by kernel_rfl]; intro d hd; cases hd
  unfold Ln at h2
  have hw : IntKind.wrap IntKind.i64 (n - 1) = n - 1 := wi64 _ (by omega) (by omega)
  by_cases hn : 0 < n
  · obtain ⟨m, rfl⟩ : ∃ m : Nat, n = m + 1 := ⟨n.toNat - 1, by omega⟩
    have hm : (m + 1 : Int) - 1 = m := by omega
    rw [hm] at hw
    have ht : Int.toNat ((m : Int) + 1) = m + 1 := by omega
    by_cases hz : xs.getD m 0 = 0
    · refine (codeV_sound hmix E1ok.hS hno (loop85a xs (m + 1)) ?_).mono ?_
      · simp [AllP, hm, hw, hz, -List.getD_eq_getElem?_getD]; omega
      · rintro e s ⟨rfl, hs⟩
        refine .inl ⟨rfl, (xs, (m : Int)), ⟨by show (0:Int) ≤ m; omega, by show (m:Int) ≤ xs.length; omega, h2⟩, by simp only; omega, ?_, ?_⟩
        · rw [hm, hw] at hs; exact hs
        · simp only [ht, o_nrm, hz, if_true, Int.toNat_natCast]
    · refine (codeV_sound hmix E1ok.hS hno (loop85b xs (m + 1)) ?_).mono ?_
      · simp [AllP, hm, hw, hz, -List.getD_eq_getElem?_getD]; omega
      · rintro e s ⟨rfl, hs⟩
        refine .inr ⟨rfl, ?_⟩
        simp only [ht, o_nrm, hz, if_false]
        exact hs
  · refine (codeV_sound hmix E1ok.hS hno (loop85c xs n) ?_).mono ?_
    · simp [AllP, hn]
    · rintro e s ⟨rfl, hs⟩
      have : n = 0 := by omega
      subst this
      exact .inr ⟨rfl, hs⟩
theorem con85 : Con Tryz.prog 85 spNorm := by
  refine con_run (L := L89) (fn := Tryz.f85) hmix E1ok.hS lo85 (by kernel_rfl) (fun _ => by kernel_rfl) ?_
  intro avs r ps hsp hps
  unfold spNorm at hsp
  split at hsp
  · rename_i xs
    simp only [Option.some.injEq, Prod.mk.injEq] at hsp
    obtain ⟨rfl, rfl⟩ := hsp
    refine ⟨rfl, _, _, _, _, run85 xs, rfl, ?_⟩
    have := nrm_le xs xs.length
    have hl : Ln xs := hps.1
    unfold Ln at hl
    simp [AllP]; omega
  · cases hsp

def E2 : List (Nat × Ctr) := (52, .fn spCmpI) :: (87, .fn spCmp32) :: (89, .fn spNorm) :: (85, .fn spNorm) :: E1
theorem E2ok : EnvOk Tryz.prog E2 := .cons con52 (.cons con87 (.cons con89 (.cons con85 E1ok)))

end Go.Proofs.YtkfdnpbpebmhaaaGreatDoor.Spec
namespace Go.Proofs.YtkfdnpbpebmhaaaGreatDoor.Num
open Go.Proofs.YtkfdnpbpebmhaaaGreatDoor.Spec

/-- The number that a row of words is. -/
def nv (xs : List Int) : Nat := (val xs).toNat
theorem Words.tail {x : Int} {xs : List Int} (h : Words (x :: xs)) : Words xs := fun y hy => h y (List.mem_cons_of_mem _ hy)
theorem Words.take {xs : List Int} (h : Words xs) (n : Nat) : Words (xs.take n) := fun x hx => h x (List.mem_of_mem_take hx)
theorem Words.nil : Words [] := fun x hx => by cases hx
theorem Words.append {xs ys : List Int} (h : Words xs) (k : Words ys) : Words (xs ++ ys) := fun x hx => (List.mem_append.1 hx).elim (h x) (k x)
theorem nv_val {xs : List Int} (h : Words xs) : (nv xs : Int) = val xs := by unfold nv; have := val_nonneg h; omega
theorem nv_nil : nv [] = 0 := rfl
theorem nv_cons {x : Int} {xs : List Int} (h : Words (x :: xs)) : nv (x :: xs) = x.toNat + B * nv xs := by
  have h1 := h x (List.mem_cons_self ..)
  have h2 := nv_val h
  have h3 := nv_val h.tail
  simp only [val] at h2
  unfold B
  omega
theorem nv_enc (n : Nat) : nv (enc n) = n := by unfold nv; rw [val_enc]; simp
theorem enc_nv {xs : List Int} (h : Canon xs) : enc (nv xs) = xs := enc_val h
theorem nv_lt {xs : List Int} (h : Words xs) : nv xs < B ^ xs.length := by
  induction xs with
  | nil => simp [nv_nil]
  | cons x xs ih =>
    rw [nv_cons h, List.length_cons, Nat.pow_succ]
    have h1 := h x (List.mem_cons_self ..)
    have h2 := ih h.tail
    have : B * (nv xs + 1) ≤ B * B ^ xs.length := Nat.mul_le_mul_left _ h2
    rw [Nat.mul_comm (B ^ xs.length)]
    unfold B at *
    omega
theorem nv_append {xs ys : List Int} (h : Words xs) (k : Words ys) : nv (xs ++ ys) = nv xs + B ^ xs.length * nv ys := by
  induction xs with
  | nil => simp [nv_nil]
  | cons x xs ih =>
    have := Words.append h k
    rw [List.cons_append] at this ⊢
    rw [nv_cons this, nv_cons h, ih h.tail, List.length_cons, Nat.pow_succ, Nat.mul_add, Nat.add_assoc]
    congr 2
    rw [← Nat.mul_assoc, Nat.mul_comm B]
/-- Word number i. -/
def dg (n i : Nat) : Nat := n / B ^ i % B
theorem nv_getD {xs : List Int} (h : Words xs) (i : Nat) : xs.getD i 0 = dg (nv xs) i := by
  induction xs generalizing i with
  | nil => simp [dg, nv_nil]
  | cons x xs ih =>
    have h1 := h x (List.mem_cons_self ..)
    rw [nv_cons h]
    cases i with
    | zero => simp only [List.getD_cons_zero, dg, Nat.pow_zero, Nat.div_one, Nat.add_mul_mod_self_left]; unfold B; omega
    | succ i =>
      rw [List.getD_cons_succ, ih h.tail]
      unfold dg
      have e : (x.toNat + B * nv xs) / B ^ (i + 1) = nv xs / B ^ i := by
        rw [Nat.pow_succ, Nat.mul_comm (B ^ i) B, ← Nat.div_div_eq_div_mul, Nat.add_mul_div_left _ _ (show 0 < B by decide)]
        rw [Nat.div_eq_of_lt (show x.toNat < B by unfold B; omega), Nat.zero_add]
      rw [e]
/-- The first n words of a number, zeros and all. -/
def dgs (n s : Nat) : List Int := (List.range n).map fun i => ((dg s i : Nat) : Int)
theorem dgs_length (n s : Nat) : (dgs n s).length = n := by simp [dgs]
theorem dg_lt (s i : Nat) : dg s i < B := Nat.mod_lt _ (by decide)
theorem words_dgs (n s : Nat) : Words (dgs n s) := by
  intro x hx
  simp only [dgs, List.mem_map] at hx
  obtain ⟨i, _, rfl⟩ := hx
  have := dg_lt s i
  unfold B at this
  omega
theorem dgs_getD (n s i : Nat) (h : i < n) : (dgs n s).getD i 0 = dg s i := by
  simp [dgs, List.getD, h]
theorem nv_dgs (n s : Nat) : nv (dgs n s) = s % B ^ n := by
  induction n generalizing s with
  | zero => simp [dgs, nv_nil, Nat.mod_one]
  | succ n ih =>
    have e : dgs (n + 1) s = ((s % B : Nat) : Int) :: dgs n (s / B) := by
      unfold dgs
      rw [List.range_succ_eq_map, List.map_cons, List.map_map]
      congr 1
      · simp [dg]
      · apply List.map_congr_left
        intro i _
        simp only [Function.comp, dg, Nat.succ_eq_add_one]
        rw [Nat.pow_succ, Nat.mul_comm, ← Nat.div_div_eq_div_mul]
    have hw : Words (((s % B : Nat) : Int) :: dgs n (s / B)) := e ▸ words_dgs (n + 1) s
    rw [e, nv_cons hw, ih, Nat.pow_succ, Nat.mul_comm (B ^ n) B, Nat.mod_mul]
    congr 1

theorem canon_of_last {xs : List Int} (h : Words xs) (hl : xs = [] ∨ xs.getD (xs.length - 1) 0 ≠ 0) : Canon xs := by
  refine ⟨h, fun e => ?_⟩
  rw [List.getLast?_eq_getElem?] at e
  rcases hl with rfl | hl
  · simp at e
  · apply hl
    rw [List.getD, e]; rfl
theorem nrm_spec {xs : List Int} (h : Words xs) : ∀ k, k ≤ xs.length → Canon (xs.take (o_nrm xs k)) ∧ nv (xs.take (o_nrm xs k)) = nv (xs.take k)
  | 0, _ => by simp [o_nrm]; exact ⟨Words.nil, by simp⟩
  | k + 1, hk => by
    simp only [o_nrm]
    split
    · rename_i hz
      obtain ⟨h1, h2⟩ := nrm_spec h k (by omega)
      refine ⟨h1, h2.trans ?_⟩
      rw [List.take_add_one, List.getElem?_eq_getElem (by omega), Option.toList_some]
      have hx : xs[k] = 0 := by simpa [List.getD, List.getElem?_eq_getElem (show k < xs.length by omega)] using hz
      rw [nv_append (h.take k) (fun x hx' => by simp at hx'; subst hx'; rw [hx]; omega), hx]
      have : nv [0] = 0 := rfl
      rw [this]; simp
    · rename_i hz
      refine ⟨canon_of_last (h.take _) (.inr ?_), rfl⟩
      have hl : (xs.take (k + 1)).length = k + 1 := by simp; omega
      rw [hl, Nat.add_sub_cancel]
      have : (xs.take (k + 1)).getD k 0 = xs.getD k 0 := by simp [List.getD]
      rw [this]; exact hz
theorem trimL_eq {xs : List Int} (h : Words xs) : trimL xs = enc (nv xs) := by
  obtain ⟨h1, h2⟩ := nrm_spec h xs.length (Nat.le_refl _)
  unfold trimL
  rw [← enc_nv h1, h2, List.take_length]

theorem canon_lt {xs ys : List Int} (hx : Words xs) (hy : Canon ys) (h : xs.length < ys.length) : nv xs < nv ys := by
  have h1 := nv_lt hx
  have h2 : ¬ (enc (nv ys)).length ≤ xs.length := by rw [enc_nv hy]; omega
  rw [enc_len] at h2
  omega

end Go.Proofs.YtkfdnpbpebmhaaaGreatDoor.Num
namespace Go.Proofs.YtkfdnpbpebmhaaaGreatDoor.Spec
open Go Go.RowKit Sx Num

/-- How two numbers stand. -/
def o_cmp (a b : Nat) : Int := if a < b then -1 else if b < a then 1 else 0
def I53 (xs ys : List Int) (i : Int) : St := ⟨[(0, .s (roW xs)), (1, .s (roW ys)), (18, .s (num xs.length)), (19, .s (num i))], []⟩
/-- The words above are equal. -/
def topEq (xs ys : List Int) (k : Nat) : Prop := ∀ j, k ≤ j → xs.getD j 0 = ys.getD j 0
def F53 (d : Bool) (st : St) : Option (Ex × St × List Prop) :=
  match liv st.boxes 0, lk st.tmps 0, lk st.tmps 1, lk st.tmps 18, lk st.tmps 19 with
  | false, some (.s (.one (.row .u32 xs))), some (.s (.one (.row .u32 ys))), some (.s (.one (.v (.int .i64 n)))), some (.s (.one (.v (.int .i64 i)))) =>
    some (bif d then (.ret, ⟨[(4, .s (num (o_cmp (nv xs) (nv ys))))], []⟩, [i = 0 ∧ n = xs.length ∧ xs.length = ys.length ∧ Words xs ∧ Words ys ∧ Ln xs ∧ nv xs ≠ nv ys])
      else (.exit 0, ⟨[(0, .s (roW xs)), (1, .s (roW ys))], []⟩, [i = 0 ∧ n = xs.length ∧ xs.length = ys.length ∧ Words xs ∧ Words ys ∧ Ln xs ∧ nv xs = nv ys]))
  | _, _, _, _, _ => none
def L53 (d : Bool) : Loops := fun k => bif Nat.beq k 4 then some (F53 d) else none
def I83 (xs ys : List Int) (i : Int) : St := ⟨[(0, .s (roW xs)), (1, .s (roW ys)), (5, .s (num i))], []⟩
def F83 (d : Bool) (st : St) : Option (Ex × St × List Prop) :=
  match liv st.boxes 0, lk st.tmps 0, lk st.tmps 1, lk st.tmps 5 with
  | false, some (.s (.one (.row .u32 xs))), some (.s (.one (.row .u32 ys))), some (.s (.one (.v (.int .i64 i)))) =>
    some (bif d then (.ret, ⟨[(4, .s (num (o_cmp (nv xs) (nv ys))))], []⟩, [i = xs.length - 1 ∧ xs.length = ys.length ∧ Words xs ∧ Words ys ∧ Ln xs ∧ nv xs ≠ nv ys])
      else (.exit 0, ⟨[(0, .s (roW xs)), (1, .s (roW ys))], []⟩, [i = xs.length - 1 ∧ xs.length = ys.length ∧ Words xs ∧ Words ys ∧ Ln xs ∧ nv xs = nv ys]))
  | _, _, _, _ => none
def L83 (d : Bool) : Loops := fun k => bif Nat.beq k 6 then some (F83 d) else none

end Go.Proofs.YtkfdnpbpebmhaaaGreatDoor.Spec
section
set_option maxRecDepth 100000
namespace Go.Proofs.YtkfdnpbpebmhaaaGreatDoor.Spec
open Go Go.RowKit Sx Num

theorem run90a (xs : List Int) : fnEx Tryz.prog (lk E2) L0 (G1 [4]) 60 Tryz.f90 [roW xs] = some (AV.s (SV.one (LV.row EK.u32 (List.take ((0 : Nat) + List.length xs) ([] ++ xs)))), [(0 : Nat) < List.length xs, false = false, (0 : Nat) = (0 : Nat) ∧ (0 : Nat) = (0 : Nat), (0 : Nat) + List.length xs ≤ (1099511627776 : Nat), (0 : Nat) + List.length xs ≤ List.length ([] ++ xs) ∧ (0 : Nat) + List.length xs ≤ (9223372036854775807 : Nat)]) := by kernel_rfl
theorem run90b (c : Nat) : fnEx Tryz.prog (lk E2) L0 (G1 []) 60 Tryz.f90 [.one (.v (.slice none 0 c))] = some (AV.s (SV.one (LV.v (Value.slice none (0 : Nat) (0 : Nat)))), [true = true]) := by kernel_rfl
theorem run90c (ad : Addr) (c : Nat) : fnEx Tryz.prog (lk E2) L0 (G1 [4]) 60 Tryz.f90 [.one (.v (.slice (some ad) 0 c))] = some (AV.s (SV.one (LV.row EK.u32 (List.take ((0 : Nat) + (0 : Nat)) ([] ++ [])))), [false = false, (0 : Nat) = (0 : Nat) ∧ (0 : Nat) = (0 : Nat), (0 : Nat) + (0 : Nat) ≤ (1099511627776 : Nat), (0 : Nat) + (0 : Nat) ≤ (0 : Nat) ∧ (0 : Nat) + (0 : Nat) ≤ (9223372036854775807 : Nat)]) := by kernel_rfl
theorem run60 (n : Int) : fnEx Tryz.prog (lk E2) L0 (G1 []) 60 Tryz.f60 [u64 n] = (let q0 := (List.take (2 : Nat) (List.drop (0 : Nat) [IntKind.wrap .u32 n, IntKind.wrap .u32 (Int.fdiv n ((2 : Int) ^ min (Int.toNat (32 : Int)) (IntKind.bits IntKind.u64)))])); some (AV.s (SV.one (LV.row EK.u32 (List.take (o_nrm q0 (List.length q0)) q0))), [(0 : Int) ≤ (32 : Int), (0 : Nat) + (2 : Nat) ≤ (0 : Nat) + (1 : Nat) + (1 : Nat) ∧ (2 : Nat) ≤ (2 : Nat) ∧ (2 : Nat) ≤ (9223372036854775807 : Nat), List.length q0 ≤ (274877906944 : Nat)])) := by kernel_rfl
theorem run71 (n : Int) : fnEx Tryz.prog (lk E2) L0 (G1 []) 60 Tryz.f71 [u64 n] = (let q0 := (List.take (2 : Nat) (List.drop (0 : Nat) [IntKind.wrap .u32 (Int.tmod n (4294967296 : Int)), IntKind.wrap .u32 (IntKind.wrap .u64 (Int.tdiv n (4294967296 : Int)))])); let q1 := ¬(4294967296 : Int) = (0 : Int); some (AV.s (SV.one (LV.row EK.u32 (List.take (o_nrm q0 (List.length q0)) q0))), [q1, q1, (0 : Nat) + (2 : Nat) ≤ (0 : Nat) + (1 : Nat) + (1 : Nat) ∧ (2 : Nat) ≤ (2 : Nat) ∧ (2 : Nat) ≤ (9223372036854775807 : Nat), List.length q0 ≤ (274877906944 : Nat)])) := by kernel_rfl
theorem run51a (xs : List Int) : fnEx Tryz.prog (lk E2) L0 (G1 []) 60 Tryz.f51 [boo true, roW xs] = (let q0 := List.take (o_nrm xs (List.length xs)) xs; some (AV.s (SV.agg [LV.v (Value.bool (decide ((0 : Int) < (↑(List.length q0) : Int)))), LV.row EK.u32 q0]), [List.length xs ≤ (274877906944 : Nat), true = true, true = true, true = true, true = true])) := by kernel_rfl
theorem run51b (xs : List Int) : fnEx Tryz.prog (lk E2) L0 (G1 [8, 9]) 60 Tryz.f51 [boo false, roW xs] = some (AV.s (SV.agg [LV.v (Value.bool false), LV.row EK.u32 (List.take (o_nrm xs (List.length xs)) xs)]), [List.length xs ≤ (274877906944 : Nat), false = false, false = false, false = false, false = false]) := by kernel_rfl
theorem loop53a (xs ys : List Int) (i : Int) : codeV Tryz.prog (lk E2) L0 (G1 [35]) Tryz.f53.ntmps 60 (loopC Tryz.f53 0) [0, 1, 18, 19] [] (I53 xs ys i) = (let q1 := (↑(List.length xs) : Int); let q0 := IntKind.wrap .i64 (q1 - (1 : Int)) - i; let q2 := Int.toNat (IntKind.wrap .i64 q0); some (Ex.normal, { tmps := [((0 : Nat), AV.s (SV.one (LV.row EK.u32 xs))), ((1 : Nat), AV.s (SV.one (LV.row EK.u32 ys))), ((18 : Nat), AV.s (SV.one (LV.v (Value.int .i64 q1)))), ((19 : Nat), AV.s (SV.one (LV.v (Value.int .i64 (IntKind.wrap .i64 (i + (1 : Int)))))))], boxes := [] }, [decide (i < q1) = true, (0 : Int) ≤ IntKind.wrap .i64 q0 ∧ IntKind.wrap .i64 q0 < q1, (0 : Int) ≤ IntKind.wrap .i64 q0 ∧ IntKind.wrap .i64 q0 < (↑(List.length ys) : Int), (cond.match_1 (fun _x => Bool) (decide (List.getD xs q2 (0 : Int) = List.getD ys q2 (0 : Int))) (fun _ => false) fun _ => true) = false])) := by kernel_rfl
theorem loop53b (xs ys : List Int) (i : Int) : codeV Tryz.prog (lk E2) L0 (G1 [20]) Tryz.f53.ntmps 60 (loopC Tryz.f53 0) [0, 1, 18, 19] [] (I53 xs ys i) = (let q0 := (↑(List.length xs) : Int); some (Ex.exit (0 : Nat), { tmps := [((0 : Nat), AV.s (SV.one (LV.row EK.u32 xs))), ((1 : Nat), AV.s (SV.one (LV.row EK.u32 ys))), ((18 : Nat), AV.s (SV.one (LV.v (Value.int .i64 q0)))), ((19 : Nat), AV.s (SV.one (LV.v (Value.int .i64 i))))], boxes := [] }, [decide (i < q0) = false])) := by kernel_rfl
theorem loop53c (xs ys : List Int) (i : Int) : codeV Tryz.prog (lk E2) L0 (G1 []) Tryz.f53.ntmps 60 (loopC Tryz.f53 0) [4] [] (I53 xs ys i) = (let q4 := (↑(List.length xs) : Int); let q0 := IntKind.wrap .i64 (q4 - (1 : Int)) - i; let q1 := Int.toNat (IntKind.wrap .i64 q0); let q2 := (0 : Int) ≤ IntKind.wrap .i64 q0 ∧ IntKind.wrap .i64 q0 < (↑(List.length ys) : Int); let q3 := (0 : Int) ≤ IntKind.wrap .i64 q0 ∧ IntKind.wrap .i64 q0 < q4; some (Ex.ret, { tmps := [((4 : Nat), AV.s (SV.one (LV.v (Value.int .i64 (if List.getD xs q1 (0 : Int) < List.getD ys q1 (0 : Int) then (-1 : Int) else if List.getD ys q1 (0 : Int) < List.getD xs q1 (0 : Int) then (1 : Int) else (0 : Int))))))], boxes := [] }, [decide (i < q4) = true, q3, q2, (cond.match_1 (fun _x => Bool) (decide (List.getD xs q1 (0 : Int) = List.getD ys q1 (0 : Int))) (fun _ => false) fun _ => true) = true, q3, q2])) := by kernel_rfl
theorem run53a (xs ys : List Int) : fnEx Tryz.prog (lk E2) L0 (G1 []) 60 Tryz.f53 [roW xs, roW ys] = (let q0 := (↑(List.length xs) : Int); let q1 := (↑(List.length ys) : Int); some (AV.s (SV.one (LV.v (Value.int .i64 (if q0 < q1 then (-1 : Int) else if q1 < q0 then (1 : Int) else (0 : Int))))), [(Bool.not (decide (q0 = q1))) = true])) := by kernel_rfl
theorem run53b (xs ys : List Int) : fnEx Tryz.prog (lk E2) (L53 true) (G1 [11]) 60 Tryz.f53 [roW xs, roW ys] = (let q0 := (↑(List.length xs) : Int); some (AV.s (SV.one (LV.v (Value.int .i64 (o_cmp (nv xs) (nv ys))))), [(Bool.not (decide (q0 = (↑(List.length ys) : Int)))) = false, (0 : Int) = (0 : Int) ∧ q0 = q0 ∧ List.length xs = List.length ys ∧ Words xs ∧ Words ys ∧ List.length xs ≤ (274877906944 : Nat) ∧ ¬nv xs = nv ys])) := by kernel_rfl
theorem run53c (xs ys : List Int) : fnEx Tryz.prog (lk E2) (L53 false) (G1 [11]) 60 Tryz.f53 [roW xs, roW ys] = (let q0 := (↑(List.length xs) : Int); some (AV.s (SV.one (LV.v (Value.int .i64 (0 : Int)))), [(Bool.not (decide (q0 = (↑(List.length ys) : Int)))) = false, (0 : Int) = (0 : Int) ∧ q0 = q0 ∧ List.length xs = List.length ys ∧ Words xs ∧ Words ys ∧ List.length xs ≤ (274877906944 : Nat) ∧ nv xs = nv ys])) := by kernel_rfl
theorem loop83a (xs ys : List Int) (i : Int) : codeV Tryz.prog (lk E2) L0 (G1 [31, 40]) Tryz.f83.ntmps 60 (loopC Tryz.f83 0) [0, 1, 5] [] (I83 xs ys i) = (let q0 := (0 : Int) ≤ i ∧ i < (↑(List.length xs) : Int); let q1 := (0 : Int) ≤ i ∧ i < (↑(List.length ys) : Int); some (Ex.normal, { tmps := [((0 : Nat), AV.s (SV.one (LV.row EK.u32 xs))), ((1 : Nat), AV.s (SV.one (LV.row EK.u32 ys))), ((5 : Nat), AV.s (SV.one (LV.v (Value.int .i64 (IntKind.wrap .i64 (i - (1 : Int)))))))], boxes := [] }, [decide ((0 : Int) ≤ i) = true, q0, q1, decide (List.getD xs (Int.toNat i) (0 : Int) < List.getD ys (Int.toNat i) (0 : Int)) = false, q0, q1, decide (List.getD ys (Int.toNat i) (0 : Int) < List.getD xs (Int.toNat i) (0 : Int)) = false])) := by kernel_rfl
theorem loop83b (xs ys : List Int) (i : Int) : codeV Tryz.prog (lk E2) L0 (G1 [20]) Tryz.f83.ntmps 60 (loopC Tryz.f83 0) [0, 1, 5] [] (I83 xs ys i) = some (Ex.exit (0 : Nat), { tmps := [((0 : Nat), AV.s (SV.one (LV.row EK.u32 xs))), ((1 : Nat), AV.s (SV.one (LV.row EK.u32 ys))), ((5 : Nat), AV.s (SV.one (LV.v (Value.int .i64 i))))], boxes := [] }, [decide ((0 : Int) ≤ i) = false]) := by kernel_rfl
theorem loop83c (xs ys : List Int) (i : Int) : codeV Tryz.prog (lk E2) L0 (G1 []) Tryz.f83.ntmps 60 (loopC Tryz.f83 0) [4] [] (I83 xs ys i) = some (Ex.ret, { tmps := [((4 : Nat), AV.s (SV.one (LV.v (Value.int .i64 (-1 : Int)))))], boxes := [] }, [decide ((0 : Int) ≤ i) = true, (0 : Int) ≤ i ∧ i < (↑(List.length xs) : Int), (0 : Int) ≤ i ∧ i < (↑(List.length ys) : Int), decide (List.getD xs (Int.toNat i) (0 : Int) < List.getD ys (Int.toNat i) (0 : Int)) = true]) := by kernel_rfl
theorem loop83d (xs ys : List Int) (i : Int) : codeV Tryz.prog (lk E2) L0 (G1 [31]) Tryz.f83.ntmps 60 (loopC Tryz.f83 0) [4] [] (I83 xs ys i) = (let q0 := (0 : Int) ≤ i ∧ i < (↑(List.length xs) : Int); let q1 := (0 : Int) ≤ i ∧ i < (↑(List.length ys) : Int); some (Ex.ret, { tmps := [((4 : Nat), AV.s (SV.one (LV.v (Value.int .i64 (1 : Int)))))], boxes := [] }, [decide ((0 : Int) ≤ i) = true, q0, q1, decide (List.getD xs (Int.toNat i) (0 : Int) < List.getD ys (Int.toNat i) (0 : Int)) = false, q0, q1, decide (List.getD ys (Int.toNat i) (0 : Int) < List.getD xs (Int.toNat i) (0 : Int)) = true])) := by kernel_rfl
theorem run83a (xs ys : List Int) : fnEx Tryz.prog (lk E2) L0 (G1 []) 60 Tryz.f83 [roW xs, roW ys] = some (AV.s (SV.one (LV.v (Value.int .i64 (-1 : Int)))), [decide ((↑(List.length xs) : Int) < (↑(List.length ys) : Int)) = true]) := by kernel_rfl
theorem run83b (xs ys : List Int) : fnEx Tryz.prog (lk E2) L0 (G1 [10]) 60 Tryz.f83 [roW xs, roW ys] = (let q0 := (↑(List.length xs) : Int); let q1 := (↑(List.length ys) : Int); some (AV.s (SV.one (LV.v (Value.int .i64 (1 : Int)))), [decide (q0 < q1) = false, decide (q1 < q0) = true])) := by kernel_rfl
theorem run83c (xs ys : List Int) : fnEx Tryz.prog (lk E2) (L83 true) (G1 [10, 15]) 60 Tryz.f83 [roW xs, roW ys] = (let q0 := (↑(List.length xs) : Int); let q1 := (↑(List.length ys) : Int); some (AV.s (SV.one (LV.v (Value.int .i64 (o_cmp (nv xs) (nv ys))))), [decide (q0 < q1) = false, decide (q1 < q0) = false, IntKind.wrap .i64 (q0 - (1 : Int)) = q0 - (1 : Int) ∧ List.length xs = List.length ys ∧ Words xs ∧ Words ys ∧ List.length xs ≤ (274877906944 : Nat) ∧ ¬nv xs = nv ys])) := by kernel_rfl
theorem run83d (xs ys : List Int) : fnEx Tryz.prog (lk E2) (L83 false) (G1 [10, 15]) 60 Tryz.f83 [roW xs, roW ys] = (let q0 := (↑(List.length xs) : Int); let q1 := (↑(List.length ys) : Int); some (AV.s (SV.one (LV.v (Value.int .i64 (0 : Int)))), [decide (q0 < q1) = false, decide (q1 < q0) = false, IntKind.wrap .i64 (q0 - (1 : Int)) = q0 - (1 : Int) ∧ List.length xs = List.length ys ∧ Words xs ∧ Words ys ∧ List.length xs ≤ (274877906944 : Nat) ∧ nv xs = nv ys])) := by kernel_rfl
end Go.Proofs.YtkfdnpbpebmhaaaGreatDoor.Spec
end
namespace Go.Proofs.YtkfdnpbpebmhaaaGreatDoor.Spec
open Go Go.RowKit Sx Num

theorem conWeaken {P : Program} {f : FuncId} {sp sp' : Sp} (h : Con P f sp) (hw : ∀ avs r ps, sp' avs = some (r, ps) → AllP ps → ∃ qs, sp avs = some (r, qs) ∧ AllP qs) : Con P f sp' :=
  ⟨h.enters, fun avs r ps hs hp => by
    obtain ⟨qs, h1, h2⟩ := hw avs r ps hs (allP_iff.2 hp)
    exact h.calls avs r qs h1 (allP_iff.1 h2)⟩

def spNormN : Sp
  | [.one (.row .u32 xs)] => some (.s (roW (enc (nv xs))), [Words xs, Ln xs])
  | _ => none
theorem normN {f : FuncId} (h : Con Tryz.prog f spNorm) : Con Tryz.prog f spNormN := by
  refine conWeaken h fun avs r ps hs hp => ?_
  unfold spNormN at hs
  split at hs
  · rename_i xs
    simp only [Option.some.injEq, Prod.mk.injEq] at hs
    obtain ⟨rfl, rfl⟩ := hs
    exact ⟨[Ln xs], by rw [← trimL_eq hp.1]; rfl, hp.2.1, trivial⟩
  · cases hs

def spClone : Sp
  | [.one (.row .u32 xs)] => some (.s (roW xs), [Ln xs])
  | _ => none
def spClone1 : Sp
  | [.one (.row .u32 xs)] => some (.s (roW xs), [0 < xs.length, Ln xs])
  | _ => none
def spClone2 : Sp
  | [.one (.v (.slice none 0 _))] => some (.s (.one (.v (.slice none 0 0))), [])
  | [.one (.v (.slice (some _) 0 _))] => some (.s (roW []), [])
  | _ => none
theorem con90a : Con Tryz.prog 90 spClone1 := by
  refine con_flat (l := E2) (fn := Tryz.f90) hmix E2ok (by kernel_rfl) (by kernel_rfl) (fun _ => by kernel_rfl) ?_
  intro avs r ps hsp hps
  unfold spClone1 at hsp
  split at hsp
  · rename_i xs
    simp only [Option.some.injEq, Prod.mk.injEq] at hsp
    obtain ⟨rfl, rfl⟩ := hsp
    obtain ⟨h0, hl, _⟩ := hps
    unfold Ln at hl
    exact ⟨rfl, _, _, _, _, run90a xs, by simp [roW], by simp [AllP, h0]; omega⟩
  · cases hsp
theorem con90b : Con Tryz.prog 90 spClone2 := by
  refine con_flat (l := E2) (fn := Tryz.f90) hmix E2ok (by kernel_rfl) (by kernel_rfl) (fun _ => by kernel_rfl) ?_
  intro avs r ps hsp hps
  unfold spClone2 at hsp
  split at hsp
  · rename_i c
    simp only [Option.some.injEq, Prod.mk.injEq] at hsp
    obtain ⟨rfl, rfl⟩ := hsp
    exact ⟨rfl, _, _, _, _, run90b c, rfl, by simp [AllP]⟩
  · rename_i ad c
    simp only [Option.some.injEq, Prod.mk.injEq] at hsp
    obtain ⟨rfl, rfl⟩ := hsp
    exact ⟨rfl, _, _, _, _, run90c ad c, by simp [roW], by simp [AllP]⟩
  · cases hsp
theorem con90 : Con Tryz.prog 90 spClone := by
  refine ⟨con90a.enters, fun avs r ps hsp hps M β w vs hM hg => ?_⟩
  unfold spClone at hsp
  split at hsp
  · rename_i xs
    simp only [Option.some.injEq, Prod.mk.injEq] at hsp
    obtain ⟨rfl, rfl⟩ := hsp
    by_cases h0 : 0 < xs.length
    · exact con90a.calls [roW xs] _ _ rfl (allP_iff.1 ⟨h0, (allP_iff.2 hps).1, trivial⟩) M β w vs hM hg
    · have hx : xs = [] := List.eq_nil_of_length_eq_zero (by omega)
      subst hx
      cases hv : vs.toList with
      | nil => rw [hv] at hg; exact hg.elim
      | cons u us =>
        rw [hv] at hg
        obtain ⟨⟨A, c, hu, _⟩, hrest⟩ := hg
        subst hu
        cases us with
        | cons _ _ => exact hrest.elim
        | nil =>
          cases A with
          | none =>
            refine Calls.mono (con90b.calls [.one (.v (.slice none 0 c))] _ _ rfl (fun p hp => by cases hp) M β w vs hM (by rw [hv]; exact ⟨rfl, trivial⟩)) ?_
            rintro e w' ⟨u, rfl, _, hgu, hb⟩
            have hgu : u = .slice none 0 0 := hgu
            subst hgu
            exact ⟨_, rfl, rfl, ⟨none, 0, rfl, Nat.le_refl _, by simp, fun _ _ h => by simp at h⟩, hb⟩
          | some ad => exact con90b.calls [.one (.v (.slice (some ad) 0 c))] _ _ rfl (fun p hp => by cases hp) M β w vs hM (by rw [hv]; exact ⟨rfl, trivial⟩)
  · cases hsp

def spNat : Sp
  | [.one (.v (.int .u64 n))] => some (.s (roW (enc n.toNat)), [0 ≤ n ∧ n < 18446744073709551616])
  | _ => none
theorem two_words {n : Int} (h : 0 ≤ n ∧ n < 18446744073709551616) : trimL [n % 4294967296, n / 4294967296] = enc n.toNat := by
  have hw : Words [n % 4294967296, n / 4294967296] := by intro x hx; simp at hx; rcases hx with rfl | rfl <;> omega
  rw [trimL_eq hw]
  congr 1
  unfold nv
  simp only [val]
  omega
theorem con60 : Con Tryz.prog 60 spNat := by
  refine con_flat (l := E2) (fn := Tryz.f60) hmix E2ok (by kernel_rfl) (by kernel_rfl) (fun _ => by kernel_rfl) ?_
  intro avs r ps hsp hps
  unfold spNat at hsp
  split at hsp
  · rename_i n
    simp only [Option.some.injEq, Prod.mk.injEq] at hsp
    obtain ⟨rfl, rfl⟩ := hsp
    refine ⟨rfl, _, _, _, _, run60 n, ?_, by simp [AllP]⟩
    rw [← two_words hps.1]
    have h1 : IntKind.wrap IntKind.u32 (Int.fdiv n ((2 : Int) ^ min (Int.toNat 32) (IntKind.bits IntKind.u64))) = n / 4294967296 := by
      rw [show ((2 : Int) ^ min (Int.toNat 32) (IntKind.bits IntKind.u64)) = 4294967296 from by decide, Int.fdiv_eq_ediv_of_nonneg _ (by decide), w32]
      have := hps.1
      omega
    rw [h1, w32]
    rfl
  · cases hsp
theorem con71 : Con Tryz.prog 71 spNat := by
  refine con_flat (l := E2) (fn := Tryz.f71) hmix E2ok (by kernel_rfl) (by kernel_rfl) (fun _ => by kernel_rfl) ?_
  intro avs r ps hsp hps
  unfold spNat at hsp
  split at hsp
  · rename_i n
    simp only [Option.some.injEq, Prod.mk.injEq] at hsp
    obtain ⟨rfl, rfl⟩ := hsp
    refine ⟨rfl, _, _, _, _, run71 n, ?_, by simp [AllP]⟩
    rw [← two_words hps.1]
    have h0 := hps.1
    have h1 : IntKind.wrap IntKind.u32 (IntKind.wrap IntKind.u64 (Int.tdiv n 4294967296)) = n / 4294967296 := by
      rw [Int.tdiv_eq_ediv_of_nonneg h0.1, w32, w64]; omega
    have h2 : IntKind.wrap IntKind.u32 (Int.tmod n 4294967296) = n % 4294967296 := by
      rw [Int.tmod_eq_emod_of_nonneg h0.1, w32]; omega
    rw [h1, h2]
    rfl
  · cases hsp

/-- An integer with a sign and an absolute value. -/
def mkN (s : Bool) (n : Nat) : SV := .agg [.v (.bool (s && decide (0 < n))), .row .u32 (enc n)]
def spMade : Sp
  | [.one (.v (.bool s)), .one (.row .u32 xs)] => some (.s (mkN s (nv xs)), [Words xs, Ln xs])
  | _ => none
theorem enc_len_pos (n : Nat) : 0 < (enc n).length ↔ 0 < n := by
  have h := enc_len n 0
  rw [Nat.pow_zero] at h
  omega
theorem con51 : Con Tryz.prog 51 spMade := by
  refine con_flat (l := E2) (fn := Tryz.f51) hmix E2ok (by kernel_rfl) (by kernel_rfl) (fun _ => by kernel_rfl) ?_
  intro avs r ps hsp hps
  unfold spMade at hsp
  split at hsp
  · rename_i s xs
    simp only [Option.some.injEq, Prod.mk.injEq] at hsp
    obtain ⟨rfl, rfl⟩ := hsp
    obtain ⟨hw, hl, _⟩ := hps
    have ht : List.take (o_nrm xs xs.length) xs = enc (nv xs) := trimL_eq hw
    unfold Ln at hl
    cases s with
    | true =>
      refine ⟨rfl, _, _, _, _, run51a xs, ?_, by simp [AllP]; omega⟩
      rw [ht, mkN]
      have : decide ((0 : Int) < ((enc (nv xs)).length : Int)) = decide (0 < nv xs) := by rw [decide_eq_decide, ← enc_len_pos]; omega
      rw [this, Bool.true_and]
    | false =>
      refine ⟨rfl, _, _, _, _, run51b xs, ?_, by simp [AllP]; omega⟩
      rw [ht, mkN, Bool.false_and]
  · cases hsp

end Go.Proofs.YtkfdnpbpebmhaaaGreatDoor.Spec
namespace Go.Proofs.YtkfdnpbpebmhaaaGreatDoor.Spec
open Go Go.RowKit Sx Num

theorem nv_split {xs : List Int} (h : Words xs) {k : Nat} (hk : k < xs.length) : nv xs = nv (xs.take k) + B ^ k * ((xs.getD k 0).toNat + B * nv (xs.drop (k + 1))) := by
  have e : xs = xs.take k ++ (xs.getD k 0 :: xs.drop (k + 1)) := by
    conv => lhs; rw [← List.take_append_drop k xs, List.drop_eq_getElem_cons hk]
    simp [List.getD, List.getElem?_eq_getElem hk]
  have hd : Words (xs.getD k 0 :: xs.drop (k + 1)) := by
    intro x hx
    exact h x (by rw [e]; exact List.mem_append.2 (.inr hx))
  have hl : (xs.take k).length = k := by simp; omega
  conv => lhs; rw [e, nv_append (h.take k) hd, nv_cons hd, hl]
theorem drop_eq {xs ys : List Int} (hl : xs.length = ys.length) {k : Nat} (he : ∀ j, k ≤ j → xs.getD j 0 = ys.getD j 0) : xs.drop k = ys.drop k := by
  apply List.ext_getElem
  · simp [hl]
  · intro j h1 h2
    simp only [List.length_drop] at h1 h2
    have := he (k + j) (by omega)
    simpa [List.getD, List.getElem?_eq_getElem (show k + j < xs.length by omega), List.getElem?_eq_getElem (show k + j < ys.length by omega)] using this
theorem nv_lt_at {xs ys : List Int} (hx : Words xs) (hy : Words ys) (hl : xs.length = ys.length) {k : Nat} (hk : k < xs.length) (he : ∀ j, k + 1 ≤ j → xs.getD j 0 = ys.getD j 0) (hlt : xs.getD k 0 < ys.getD k 0) : nv xs < nv ys := by
  rw [nv_split hx hk, nv_split hy (k := k) (by omega), drop_eq hl he]
  have h1 := nv_lt (hx.take k)
  have hlk : (xs.take k).length = k := by simp; omega
  rw [hlk] at h1
  have h2 := Words.getD hx k
  have h3 : (xs.getD k 0).toNat + 1 ≤ (ys.getD k 0).toNat := by omega
  have h4 : B ^ k * ((xs.getD k 0).toNat + B * nv (ys.drop (k + 1)) + 1) ≤ B ^ k * ((ys.getD k 0).toNat + B * nv (ys.drop (k + 1))) := Nat.mul_le_mul_left _ (by omega)
  rw [Nat.mul_add, Nat.mul_one] at h4
  omega
theorem nv_eq_all {xs ys : List Int} (hl : xs.length = ys.length) (he : ∀ j, xs.getD j 0 = ys.getD j 0) : nv xs = nv ys := by
  have := drop_eq hl (k := 0) fun j _ => he j
  simp at this
  rw [this]

def spCmpN : Sp
  | [.one (.row .u32 xs), .one (.row .u32 ys)] => some (.s (num (o_cmp (nv xs) (nv ys))), [Canon xs, Canon ys, Ln xs, Ln ys])
  | _ => none

def V53 (d : Bool) (x : List Int × List Int × Int) : Prop :=
  0 ≤ x.2.2 ∧ x.2.2 ≤ x.1.length ∧ x.1.length = x.2.1.length ∧ Words x.1 ∧ Words x.2.1 ∧ Ln x.1 ∧ (∀ j : Nat, (x.1.length : Int) - x.2.2 ≤ j → x.1.getD j 0 = x.2.1.getD j 0) ∧ (bif d then nv x.1 ≠ nv x.2.1 else nv x.1 = nv x.2.1)
def fin53 (d : Bool) (x : List Int × List Int × Int) : St := bif d then ⟨[(4, .s (num (o_cmp (nv x.1) (nv x.2.1))))], []⟩ else ⟨[(0, .s (roW x.1)), (1, .s (roW x.2.1))], []⟩

theorem sub53 {d : Bool} {st : St} {e : Ex} {s : St} {obs : List Prop} (h : F53 d st = some (e, s, obs)) (hob : AllP obs) : ∃ x : List Int × List Int × Int, V53 d x ∧ SubS st (I53 x.1 x.2.1 x.2.2) ∧ e = (bif d then .ret else .exit 0) ∧ s = fin53 d x := by
  unfold F53 at h
  split at h
  · rename_i xs ys n i hz h1 h2 h3 h4
    have hsub : n = (xs.length : Int) → SubS st (I53 xs ys i) := by
      intro hn
      subst hn
      refine ⟨?_, ?_, ?_⟩
      · intro p hp
        simp only [I53, List.mem_cons, List.not_mem_nil, or_false] at hp
        rcases hp with rfl | rfl | rfl | rfl <;> exact ⟨by assumption, rfl⟩
      · intro p hp; cases hp
      · rw [hz]; intro h; cases h
    have out : ∀ j : Nat, (xs.length : Int) - 0 ≤ j → xs.length = ys.length → xs.getD j 0 = ys.getD j 0 := by
      intro j hj hl
      simp [List.getD, List.getElem?_eq_none (show xs.length ≤ j by omega), List.getElem?_eq_none (show ys.length ≤ j by omega)]
    cases d with
    | true =>
      simp only [cond_true, Option.some.injEq, Prod.mk.injEq] at h
      obtain ⟨rfl, rfl, rfl⟩ := h
      obtain ⟨⟨rfl, hn, hl, hw, hw', hln, hne⟩, _⟩ := hob
      exact ⟨(xs, ys, 0), ⟨Int.le_refl _, by show (0 : Int) ≤ xs.length; omega, hl, hw, hw', hln, fun j hj => out j hj hl, hne⟩, hsub hn, rfl, rfl⟩
    | false =>
      simp only [cond_false, Option.some.injEq, Prod.mk.injEq] at h
      obtain ⟨rfl, rfl, rfl⟩ := h
      obtain ⟨⟨rfl, hn, hl, hw, hw', hln, hne⟩, _⟩ := hob
      exact ⟨(xs, ys, 0), ⟨Int.le_refl _, by show (0 : Int) ≤ xs.length; omega, hl, hw, hw', hln, fun j hj => out j hj hl, hne⟩, hsub hn, rfl, rfl⟩
  · cases h

theorem lo53 (d : Bool) : ∀ c ∈ loopsF Tryz.f53, LoopOk Tryz.prog Tryz.f53.ntmps (L53 d) c := by
  rw [show loopsF Tryz.f53 = [loopC Tryz.f53 0] by kernel_rfl]
  intro c hc
  rw [List.mem_singleton] at hc
  subst hc
  refine loop_ok (k := 4) (f := F53 d) (α := List Int × List Int × Int) (by kernel_rfl) rfl (fun x => I53 x.1 x.2.1 x.2.2) (fin53 d) (V53 d) (fun x => (x.1.length - x.2.2).toNat) (bif d then .ret else .exit 0) (by cases d <;> simp) (fun st e s obs h hob => sub53 h hob) ?_
  rintro ⟨xs, ys, i⟩ ⟨h0, h1, hl, hw, hw', hln, he, hd⟩
  simp only at h0 h1 hl hw hw' hln he hd ⊢
  have hno : ∀ d ∈ loopsOf (loopC Tryz.f53 0), LoopOk Tryz.prog Tryz.f53.ntmps L0 d := by rw [show loopsOf (loopC Tryz.f53 0) = [] by kernel_rfl]; intro d hd; cases hd
  unfold Ln at hln
  by_cases hi : i < xs.length
  · obtain ⟨k, hk⟩ : ∃ k : Nat, (xs.length : Int) - 1 - i = k := ⟨((xs.length : Int) - 1 - i).toNat, by omega⟩
    have w1 : IntKind.wrap IntKind.i64 ((xs.length : Int) - 1) = xs.length - 1 := wi64 _ (by omega) (by omega)
    have w2 : IntKind.wrap IntKind.i64 (xs.length - 1 - i) = k := by rw [wi64 _ (by omega) (by omega), hk]
    have w3 : IntKind.wrap IntKind.i64 (i + 1) = i + 1 := wi64 _ (by omega) (by omega)
    have hkl : k < xs.length := by omega
    have hab : ∀ j : Nat, k + 1 ≤ j → xs.getD j 0 = ys.getD j 0 := fun j hj => he j (by omega)
    by_cases hq : xs.getD k 0 = ys.getD k 0
    · refine (codeV_sound hmix E2ok.hS hno (loop53a xs ys i) ?_).mono ?_
      · rw [w1, w2]; simp only [AllP, Int.toNat_natCast, hq]; simp; omega
      · rintro e s ⟨rfl, hs⟩
        refine .inl ⟨rfl, (xs, ys, i + 1), ⟨by show 0 ≤ i + 1; omega, by show i + 1 ≤ (xs.length : Int); omega, hl, hw, hw', hln, fun j hj => ?_, hd⟩, by simp only; omega, by rw [w3] at hs; exact hs, rfl⟩
        simp only at hj ⊢
        by_cases hjk : j = k
        · subst hjk; exact hq
        · exact hab j (by omega)
    · have hne : nv xs ≠ nv ys := fun h => hq (by rw [nv_getD hw, nv_getD hw', h])
      have hdt : d = true := by cases d with
        | true => rfl
        | false => exact absurd hd hne
      subst hdt
      refine (codeV_sound hmix E2ok.hS hno (loop53c xs ys i) ?_).mono ?_
      · rw [w1, w2]; simp only [AllP, Int.toNat_natCast, hq]; simp; omega
      · rintro e s ⟨rfl, hs⟩
        refine .inr ⟨rfl, ?_⟩
        rw [w1, w2] at hs
        simp only [Int.toNat_natCast] at hs
        have hv : (if xs.getD k 0 < ys.getD k 0 then (-1 : Int) else if ys.getD k 0 < xs.getD k 0 then 1 else 0) = o_cmp (nv xs) (nv ys) := by
          unfold o_cmp
          rcases Int.lt_or_gt_of_ne hq with hlt | hgt
          · rw [if_pos hlt, if_pos (nv_lt_at hw hw' hl hkl hab hlt)]
          · have := nv_lt_at hw' hw hl.symm (by omega) (fun j hj => (hab j hj).symm) hgt
            rw [if_neg (by omega), if_pos hgt, if_neg (by omega), if_pos this]
        rw [hv] at hs
        exact hs
  · have hiv : i = xs.length := by omega
    have heq : nv xs = nv ys := nv_eq_all hl fun j => he j (by omega)
    have hdf : d = false := by cases d with
      | false => rfl
      | true => exact absurd heq hd
    subst hdf
    refine (codeV_sound hmix E2ok.hS hno (loop53b xs ys i) ?_).mono ?_
    · simp [AllP]; omega
    · rintro e s ⟨rfl, hs⟩
      refine .inr ⟨rfl, ⟨fun p hp => ?_, fun p hp => (by cases hp), hs.2.2⟩⟩
      simp only [fin53, cond_false, List.mem_cons, List.not_mem_nil, or_false] at hp
      rcases hp with rfl | rfl
      · exact hs.1 _ (by simp [roW])
      · exact hs.1 _ (by simp [roW])

theorem con53 : Con Tryz.prog 53 spCmpN := by
  refine con_runL (fn := Tryz.f53) hmix E2ok.hS (by kernel_rfl) (fun _ => by kernel_rfl) ?_
  intro avs r ps hsp hps
  unfold spCmpN at hsp
  split at hsp
  · rename_i xs ys
    simp only [Option.some.injEq, Prod.mk.injEq] at hsp
    obtain ⟨rfl, rfl⟩ := hsp
    obtain ⟨hc, hc', hl, hl', _⟩ := hps
    unfold Ln at hl hl'
    refine ⟨rfl, ?_⟩
    by_cases he : xs.length = ys.length
    · by_cases hv : nv xs = nv ys
      · refine ⟨L53 false, lo53 false, _, _, _, _, run53c xs ys, by simp [num, o_cmp, hv], ?_⟩
        simp [AllP, he, hc.1, hc'.1, hv]; omega
      · refine ⟨L53 true, lo53 true, _, _, _, _, run53b xs ys, rfl, ?_⟩
        simp [AllP, he, hc.1, hc'.1, hv]; omega
    · refine ⟨L0, fun c hc0 => ?_, _, _, _, _, run53a xs ys, ?_, ?_⟩
      · intro f hf; cases hf
      · rcases Nat.lt_or_gt_of_ne he with h1 | h1
        · have := canon_lt hc.1 hc' h1
          simp [num, o_cmp, this, h1]
        · have := canon_lt hc'.1 hc h1
          rw [if_neg (by omega), if_pos (by omega)]
          unfold o_cmp
          rw [if_neg (by omega), if_pos this]
          rfl
      · simp [AllP]; omega
  · cases hsp

def V83 (d : Bool) (x : List Int × List Int × Int) : Prop :=
  -1 ≤ x.2.2 ∧ x.2.2 < x.1.length ∧ x.1.length = x.2.1.length ∧ Words x.1 ∧ Words x.2.1 ∧ Ln x.1 ∧ (∀ j : Nat, x.2.2 < j → x.1.getD j 0 = x.2.1.getD j 0) ∧ (bif d then nv x.1 ≠ nv x.2.1 else nv x.1 = nv x.2.1)
theorem sub83 {d : Bool} {st : St} {e : Ex} {s : St} {obs : List Prop} (h : F83 d st = some (e, s, obs)) (hob : AllP obs) : ∃ x : List Int × List Int × Int, V83 d x ∧ SubS st (I83 x.1 x.2.1 x.2.2) ∧ e = (bif d then .ret else .exit 0) ∧ s = fin53 d x := by
  unfold F83 at h
  split at h
  · rename_i xs ys i hz h1 h2 h3
    have hsub : SubS st (I83 xs ys i) := by
      refine ⟨?_, ?_, ?_⟩
      · intro p hp
        simp only [I83, List.mem_cons, List.not_mem_nil, or_false] at hp
        rcases hp with rfl | rfl | rfl <;> exact ⟨by assumption, rfl⟩
      · intro p hp; cases hp
      · rw [hz]; intro h; cases h
    have out : ∀ j : Nat, (xs.length : Int) - 1 < j → xs.length = ys.length → xs.getD j 0 = ys.getD j 0 := by
      intro j hj hl
      simp [List.getD, List.getElem?_eq_none (show xs.length ≤ j by omega), List.getElem?_eq_none (show ys.length ≤ j by omega)]
    cases d with
    | true =>
      simp only [cond_true, Option.some.injEq, Prod.mk.injEq] at h
      obtain ⟨rfl, rfl, rfl⟩ := h
      obtain ⟨⟨rfl, hl, hw, hw', hln, hne⟩, _⟩ := hob
      exact ⟨(xs, ys, (xs.length : Int) - 1), ⟨by show (-1 : Int) ≤ xs.length - 1; omega, by show (xs.length : Int) - 1 < xs.length; omega, hl, hw, hw', hln, fun j hj => out j hj hl, hne⟩, hsub, rfl, rfl⟩
    | false =>
      simp only [cond_false, Option.some.injEq, Prod.mk.injEq] at h
      obtain ⟨rfl, rfl, rfl⟩ := h
      obtain ⟨⟨rfl, hl, hw, hw', hln, hne⟩, _⟩ := hob
      exact ⟨(xs, ys, (xs.length : Int) - 1), ⟨by show (-1 : Int) ≤ xs.length - 1; omega, by show (xs.length : Int) - 1 < xs.length; omega, hl, hw, hw', hln, fun j hj => out j hj hl, hne⟩, hsub, rfl, rfl⟩
  · cases h

theorem lo83 (d : Bool) : ∀ c ∈ loopsF Tryz.f83, LoopOk Tryz.prog Tryz.f83.ntmps (L83 d) c := by
  rw [show loopsF Tryz.f83 = [loopC Tryz.f83 0] by kernel_rfl]
  intro c hc
  rw [List.mem_singleton] at hc
  subst hc
  refine loop_ok (k := 6) (f := F83 d) (α := List Int × List Int × Int) (by kernel_rfl) rfl (fun x => I83 x.1 x.2.1 x.2.2) (fin53 d) (V83 d) (fun x => (x.2.2 + 1).toNat) (bif d then .ret else .exit 0) (by cases d <;> simp) (fun st e s obs h hob => sub83 h hob) ?_
  rintro ⟨xs, ys, i⟩ ⟨h0, h1, hl, hw, hw', hln, he, hd⟩
  simp only at h0 h1 hl hw hw' hln he hd ⊢
  have hno : ∀ d ∈ loopsOf (loopC Tryz.f83 0), LoopOk Tryz.prog Tryz.f83.ntmps L0 d := by rw [show loopsOf (loopC Tryz.f83 0) = [] by kernel_rfl]; intro d hd; cases hd
  unfold Ln at hln
  by_cases hi : 0 ≤ i
  · obtain ⟨k, rfl⟩ := Int.eq_ofNat_of_zero_le hi
    have w3 : IntKind.wrap IntKind.i64 ((k : Int) - 1) = k - 1 := wi64 _ (by omega) (by omega)
    have hkl : k < xs.length := by omega
    have hab : ∀ j : Nat, k + 1 ≤ j → xs.getD j 0 = ys.getD j 0 := fun j hj => he j (by omega)
    by_cases hq : xs.getD k 0 = ys.getD k 0
    · refine (codeV_sound hmix E2ok.hS hno (loop83a xs ys k) ?_).mono ?_
      · simp only [AllP, Int.toNat_natCast, hq]; simp; omega
      · rintro e s ⟨rfl, hs⟩
        refine .inl ⟨rfl, (xs, ys, (k : Int) - 1), ⟨by show -1 ≤ (k : Int) - 1; omega, by show (k : Int) - 1 < (xs.length : Int); omega, hl, hw, hw', hln, fun j hj => ?_, hd⟩, by simp only; omega, by rw [w3] at hs; exact hs, rfl⟩
        simp only at hj ⊢
        by_cases hjk : j = k
        · subst hjk; exact hq
        · exact hab j (by omega)
    · have hne : nv xs ≠ nv ys := fun h => hq (by rw [nv_getD hw, nv_getD hw', h])
      have hdt : d = true := by cases d with
        | true => rfl
        | false => exact absurd hd hne
      subst hdt
      rcases Int.lt_or_gt_of_ne hq with hlt | hgt
      · refine (codeV_sound hmix E2ok.hS hno (loop83c xs ys k) ?_).mono ?_
        · simp only [AllP, Int.toNat_natCast]; simp [-List.getD_eq_getElem?_getD, hlt]; omega
        · rintro e s ⟨rfl, hs⟩
          refine .inr ⟨rfl, ?_⟩
          have := nv_lt_at hw hw' hl hkl hab hlt
          simp only [fin53, cond_true, o_cmp, this, if_true]
          exact hs
      · refine (codeV_sound hmix E2ok.hS hno (loop83d xs ys k) ?_).mono ?_
        · have : ¬ xs.getD k 0 < ys.getD k 0 := by omega
          simp only [AllP, Int.toNat_natCast]; simp [-List.getD_eq_getElem?_getD, hgt, this]; omega
        · rintro e s ⟨rfl, hs⟩
          refine .inr ⟨rfl, ?_⟩
          have := nv_lt_at hw' hw hl.symm (by omega) (fun j hj => (hab j hj).symm) hgt
          simp only [fin53, cond_true, o_cmp, this, if_true, show ¬ nv xs < nv ys by omega, if_false]
          exact hs
  · have heq : nv xs = nv ys := nv_eq_all hl fun j => he j (by omega)
    have hdf : d = false := by cases d with
      | false => rfl
      | true => exact absurd heq hd
    subst hdf
    refine (codeV_sound hmix E2ok.hS hno (loop83b xs ys i) ?_).mono ?_
    · simp [AllP]; omega
    · rintro e s ⟨rfl, hs⟩
      refine .inr ⟨rfl, ⟨fun p hp => ?_, fun p hp => (by cases hp), hs.2.2⟩⟩
      simp only [fin53, cond_false, List.mem_cons, List.not_mem_nil, or_false] at hp
      rcases hp with rfl | rfl
      · exact hs.1 _ (by simp [roW])
      · exact hs.1 _ (by simp [roW])
theorem con83 : Con Tryz.prog 83 spCmpN := by
  refine con_runL (fn := Tryz.f83) hmix E2ok.hS (by kernel_rfl) (fun _ => by kernel_rfl) ?_
  intro avs r ps hsp hps
  unfold spCmpN at hsp
  split at hsp
  · rename_i xs ys
    simp only [Option.some.injEq, Prod.mk.injEq] at hsp
    obtain ⟨rfl, rfl⟩ := hsp
    obtain ⟨hc, hc', hl, hl', _⟩ := hps
    unfold Ln at hl hl'
    refine ⟨rfl, ?_⟩
    have hno : ∀ d ∈ loopsF Tryz.f83, LoopOk Tryz.prog Tryz.f83.ntmps L0 d := fun c hc0 f hf => by cases hf
    by_cases he : xs.length = ys.length
    · have hwr : IntKind.wrap IntKind.i64 ((xs.length : Int) - 1) = xs.length - 1 := wi64 _ (by omega) (by omega)
      by_cases hv : nv xs = nv ys
      · refine ⟨L83 false, lo83 false, _, _, _, _, run83d xs ys, by simp [num, o_cmp, hv], ?_⟩
        rw [hwr]
        simp [AllP, he, hc.1, hc'.1, hv]; omega
      · refine ⟨L83 true, lo83 true, _, _, _, _, run83c xs ys, rfl, ?_⟩
        rw [hwr]
        simp [AllP, he, hc.1, hc'.1, hv]; omega
    · rcases Nat.lt_or_gt_of_ne he with h1 | h1
      · have := canon_lt hc.1 hc' h1
        refine ⟨L0, hno, _, _, _, _, run83a xs ys, by simp [num, o_cmp, this], ?_⟩
        simp [AllP]; omega
      · have := canon_lt hc'.1 hc h1
        refine ⟨L0, hno, _, _, _, _, run83b xs ys, ?_, ?_⟩
        · unfold o_cmp; rw [if_neg (by omega), if_pos this]; rfl
        · simp [AllP]; omega
  · cases hsp

def E3 : List (Nat × Ctr) := (53, .fn spCmpN) :: (83, .fn spCmpN) :: (90, .fn spClone) :: (60, .fn spNat) :: (71, .fn spNat) :: (51, .fn spMade) :: (89, .fn spNormN) :: (85, .fn spNormN) :: E2
theorem E3ok : EnvOk Tryz.prog E3 := .cons con53 (.cons con83 (.cons con90 (.cons con60 (.cons con71 (.cons con51 (.cons (normN con89) (.cons (normN con85) E2ok)))))))

end Go.Proofs.YtkfdnpbpebmhaaaGreatDoor.Spec
namespace Go.Proofs.YtkfdnpbpebmhaaaGreatDoor.Num
open Go.Proofs.YtkfdnpbpebmhaaaGreatDoor.Spec

/-- A row of m words of which the first i are those of a number. -/
def o_Z (m s i : Nat) : List Int := dgs i s ++ List.replicate (m - i) 0
theorem Z_length {m s i : Nat} (h : i ≤ m) : (o_Z m s i).length = m := by simp [o_Z, dgs_length]; omega
theorem dgs_succ (n s : Nat) : dgs (n + 1) s = dgs n s ++ [((dg s n : Nat) : Int)] := by simp [dgs, List.range_succ]
theorem Z_set {m s i : Nat} (h : i < m) : (o_Z m s i).set i (dg s i) = o_Z m s (i + 1) := by
  unfold o_Z
  rw [List.set_append_right _ _ (by simp [dgs_length]), dgs_length, Nat.sub_self, dgs_succ]
  obtain ⟨k, hk⟩ : ∃ k, m - i = k + 1 := ⟨m - i - 1, by omega⟩
  rw [hk, List.replicate_succ, List.set_cons_zero, show m - (i + 1) = k by omega]
  simp
theorem Z_full (m s : Nat) : o_Z m s m = dgs m s := by simp [o_Z]
theorem Z_zero (m s : Nat) : o_Z m s 0 = List.replicate m 0 := by simp [o_Z, dgs]
theorem Z_words {m s i : Nat} : Words (o_Z m s i) := (words_dgs i s).append fun x hx => by rw [List.mem_replicate] at hx; rw [hx.2]; omega
theorem Z_get {m s i j : Nat} (h : i ≤ j) : (o_Z m s i).getD j 0 = 0 := by
  simp only [o_Z, List.getD, List.getElem?_append, dgs_length, show ¬ j < i by omega, if_false, List.getElem?_replicate]
  split <;> rfl
/-- What is carried into word i of a sum. -/
def o_cy (a b i : Nat) : Nat := (a % B ^ i + b % B ^ i) / B ^ i
theorem mod_succ (a i : Nat) : a % B ^ (i + 1) = a % B ^ i + B ^ i * dg a i := by rw [Nat.pow_succ, Nat.mod_mul]; rfl
theorem pow_pos' (i : Nat) : 0 < B ^ i := Nat.pow_pos (by decide)
theorem cy_le (a b i : Nat) : o_cy a b i ≤ 1 := by
  unfold o_cy
  have h1 := Nat.mod_lt a (pow_pos' i)
  have h2 := Nat.mod_lt b (pow_pos' i)
  have : (a % B ^ i + b % B ^ i) / B ^ i < 2 := by rw [Nat.div_lt_iff_lt_mul (pow_pos' i)]; omega
  omega
theorem cy_zero (a b : Nat) : o_cy a b 0 = 0 := by simp [o_cy, Nat.mod_one]
theorem cy_succ (a b i : Nat) : o_cy a b (i + 1) = (dg a i + dg b i + o_cy a b i) / B := by
  have e : a % B ^ (i + 1) + b % B ^ (i + 1) = (a % B ^ i + b % B ^ i) + B ^ i * (dg a i + dg b i) := by rw [mod_succ, mod_succ, Nat.mul_add]; omega
  have e2 : B ^ (i + 1) = B ^ i * B := Nat.pow_succ ..
  have e3 : o_cy a b (i + 1) = (a % B ^ (i + 1) + b % B ^ (i + 1)) / B ^ (i + 1) := rfl
  rw [e3, e, e2, ← Nat.div_div_eq_div_mul, Nat.add_mul_div_left _ _ (pow_pos' i)]
  congr 1
  unfold o_cy
  omega
theorem dg_add (a b i : Nat) : dg (a + b) i = (dg a i + dg b i + o_cy a b i) % B := by
  have h1 : a = a % B ^ i + B ^ i * (a / B ^ i) := (Nat.mod_add_div a (B ^ i)).symm
  have h2 : b = b % B ^ i + B ^ i * (b / B ^ i) := (Nat.mod_add_div b (B ^ i)).symm
  have e : (a + b) / B ^ i = o_cy a b i + (a / B ^ i + b / B ^ i) := by
    have : a + b = (a % B ^ i + b % B ^ i) + B ^ i * (a / B ^ i + b / B ^ i) := by rw [Nat.mul_add]; omega
    rw [this, Nat.add_mul_div_left _ _ (pow_pos' i)]
    rfl
  unfold dg
  rw [e]
  generalize a / B ^ i = A
  generalize b / B ^ i = C
  generalize o_cy a b i = k
  unfold B
  omega
/-- What is borrowed from word i of a difference. -/
def o_bw (a b i : Nat) : Nat := if a % B ^ i < b % B ^ i then 1 else 0
theorem bw_zero (a b : Nat) : o_bw a b 0 = 0 := by simp [o_bw, Nat.mod_one]
theorem bw_le (a b i : Nat) : o_bw a b i ≤ 1 := by unfold o_bw; split <;> omega
theorem bw_succ (a b i : Nat) : o_bw a b (i + 1) = if dg a i < dg b i + o_bw a b i then 1 else 0 := by
  unfold o_bw
  rw [mod_succ, mod_succ]
  have h1 := Nat.mod_lt a (pow_pos' i)
  have h2 := Nat.mod_lt b (pow_pos' i)
  generalize a % B ^ i = x at *
  generalize b % B ^ i = y at *
  generalize dg a i = p
  generalize dg b i = q
  generalize B ^ i = W at *
  by_cases hlt : x < y
  · simp only [hlt, if_true]
    by_cases hd : p < q + 1
    · have h3 : W * p ≤ W * q := Nat.mul_le_mul_left _ (by omega)
      simp only [hd, if_true]
      rw [if_pos]
      omega
    · have h3 : W * (q + 1) ≤ W * p := Nat.mul_le_mul_left _ (by omega)
      rw [Nat.mul_add] at h3
      simp only [hd, if_false]
      rw [if_neg]
      omega
  · simp only [hlt, if_false, Nat.add_zero]
    by_cases hd : p < q
    · have h3 : W * (p + 1) ≤ W * q := Nat.mul_le_mul_left _ (by omega)
      rw [Nat.mul_add] at h3
      simp only [hd, if_true]
      rw [if_pos]
      omega
    · have h3 : W * q ≤ W * p := Nat.mul_le_mul_left _ (by omega)
      simp only [hd, if_false]
      rw [if_neg]
      omega
theorem sub_div {W x y A C : Nat} (hx : x < W) (hy : y < W) (h : y + W * C ≤ x + W * A) : (x + W * A - (y + W * C)) / W = A - C - (if x < y then 1 else 0) ∧ C + (if x < y then 1 else 0) ≤ A := by
  have hp : 0 < W := by omega
  by_cases hlt : x < y
  · simp only [hlt, if_true]
    have hCA : C + 1 ≤ A := by
      rcases Nat.lt_or_ge C A with hh | hh
      · exact hh
      · have : W * A ≤ W * C := Nat.mul_le_mul_left _ hh
        omega
    refine ⟨?_, hCA⟩
    obtain ⟨D, rfl⟩ : ∃ D, A = C + 1 + D := ⟨A - (C + 1), by omega⟩
    have : x + W * (C + 1 + D) - (y + W * C) = (x + W - y) + W * D := by rw [Nat.mul_add, Nat.mul_add]; omega
    rw [this, Nat.add_mul_div_left _ _ hp, Nat.div_eq_of_lt (by omega)]
    omega
  · simp only [hlt, if_false, Nat.add_zero]
    have hCA : C ≤ A := by
      rcases Nat.lt_or_ge A C with hh | hh
      · have : W * (A + 1) ≤ W * C := Nat.mul_le_mul_left _ hh
        rw [Nat.mul_add] at this
        omega
      · exact hh
    refine ⟨?_, hCA⟩
    obtain ⟨D, rfl⟩ : ∃ D, A = C + D := ⟨A - C, by omega⟩
    have : x + W * (C + D) - (y + W * C) = (x - y) + W * D := by rw [Nat.mul_add]; omega
    rw [this, Nat.add_mul_div_left _ _ hp, Nat.div_eq_of_lt (by omega)]
    omega
theorem dg_sub (a b i : Nat) (h : b ≤ a) : ((dg (a - b) i : Nat) : Int) = ((dg a i : Int) - dg b i - o_bw a b i) % 4294967296 := by
  have h1 : a % B ^ i + B ^ i * (a / B ^ i) = a := Nat.mod_add_div a (B ^ i)
  have h2 : b % B ^ i + B ^ i * (b / B ^ i) = b := Nat.mod_add_div b (B ^ i)
  obtain ⟨e1, e2⟩ := sub_div (A := a / B ^ i) (C := b / B ^ i) (Nat.mod_lt a (pow_pos' i)) (Nat.mod_lt b (pow_pos' i)) (by rw [h1, h2]; exact h)
  rw [h1, h2] at e1
  unfold dg o_bw
  rw [e1]
  generalize a / B ^ i = A at *
  generalize b / B ^ i = C at *
  generalize (if a % B ^ i < b % B ^ i then 1 else 0) = k at *
  unfold B
  omega

end Go.Proofs.YtkfdnpbpebmhaaaGreatDoor.Num
namespace Go.Proofs.YtkfdnpbpebmhaaaGreatDoor.Spec
open Go Go.RowKit Sx Num

def box32 (ty : TypeId) (zs : List Int) : Box := ⟨ty, .ints .u32 zs, true⟩
def I54 (ty : TypeId) (xs ys : List Int) (n i : Nat) : St := ⟨[(0, .s (roW xs)), (1, .s (roW ys)), (5, .s (num n)), (6, .s (slW 16 0 (n + 1) (n + 1))), (7, .s (u32 (o_cy (nv xs) (nv ys) i))), (17, .s (num n)), (18, .s (num i))],
  [(16, box32 ty (o_Z (n + 1) (nv xs + nv ys) i))]⟩
def F54 (st : St) : Option (Ex × St × List Prop) :=
  match liv st.boxes 0, lk st.tmps 0, lk st.tmps 1, lk st.tmps 5, lk st.tmps 6, lk st.tmps 7, lk st.tmps 17, lk st.tmps 18, lk st.boxes 16 with
  | false, some (.s (.one (.row .u32 xs))), some (.s (.one (.row .u32 ys))), some (.s (.one (.v (.int .i64 n)))), some (.s (.one (.sl 16 0 len cap))), some (.s (.one (.v (.int .u32 c)))), some (.s (.one (.v (.int .i64 n')))), some (.s (.one (.v (.int .i64 i)))), some ⟨ty, .ints .u32 zs, true⟩ =>
    some (.exit 0, I54 ty xs ys n.toNat n.toNat, [0 ≤ n, len = n.toNat + 1, cap = n.toNat + 1, c = 0, n' = n, i = 0, zs = List.replicate (n.toNat + 1) 0, Words xs, Words ys, n < 274877906944])
  | _, _, _, _, _, _, _, _, _ => none
def L54 : Loops := fun k => bif Nat.beq k 5 then some F54 else none
def I69 (ty : TypeId) (xs ys : List Int) (n i : Nat) : St := ⟨[(0, .s (roW xs)), (1, .s (roW ys)), (5, .s (num n)), (6, .s (slW 17 0 n n)), (7, .s (u64 (o_cy (nv xs) (nv ys) i))), (8, .s (num i))],
  [(17, box32 ty (o_Z n (nv xs + nv ys) i))]⟩
def F69 (st : St) : Option (Ex × St × List Prop) :=
  match liv st.boxes 0, lk st.tmps 0, lk st.tmps 1, lk st.tmps 5, lk st.tmps 6, lk st.tmps 7, lk st.tmps 8, lk st.boxes 17 with
  | false, some (.s (.one (.row .u32 xs))), some (.s (.one (.row .u32 ys))), some (.s (.one (.v (.int .i64 n)))), some (.s (.one (.sl 17 0 len cap))), some (.s (.one (.v (.int .u64 c)))), some (.s (.one (.v (.int .i64 i)))), some ⟨ty, .ints .u32 zs, true⟩ =>
    some (.exit 0, I69 ty xs ys n.toNat n.toNat, [0 ≤ n, len = n.toNat, cap = n.toNat, c = 0, i = 0, zs = List.replicate n.toNat 0, Words xs, Words ys, n < 274877906944])
  | _, _, _, _, _, _, _, _ => none
def L69 : Loops := fun k => bif Nat.beq k 5 then some F69 else none
def I56 (ty : TypeId) (xs ys : List Int) (i : Nat) : St := ⟨[(0, .s (roW xs)), (1, .s (roW ys)), (5, .s (slW 10 0 xs.length xs.length)), (6, .s (u32 (o_bw (nv xs) (nv ys) i))), (12, .s (num xs.length)), (13, .s (num i))],
  [(10, box32 ty (o_Z xs.length (nv xs - nv ys) i))]⟩
def F56 (st : St) : Option (Ex × St × List Prop) :=
  match liv st.boxes 0, lk st.tmps 0, lk st.tmps 1, lk st.tmps 5, lk st.tmps 6, lk st.tmps 12, lk st.tmps 13, lk st.boxes 10 with
  | false, some (.s (.one (.row .u32 xs))), some (.s (.one (.row .u32 ys))), some (.s (.one (.sl 10 0 len cap))), some (.s (.one (.v (.int .u32 c)))), some (.s (.one (.v (.int .i64 n)))), some (.s (.one (.v (.int .i64 i)))), some ⟨ty, .ints .u32 zs, true⟩ =>
    some (.exit 0, I56 ty xs ys xs.length, [len = xs.length, cap = xs.length, c = 0, n = xs.length, i = 0, zs = List.replicate xs.length 0, Words xs, Words ys, Ln xs, nv ys ≤ nv xs])
  | _, _, _, _, _, _, _, _ => none
def L56 : Loops := fun k => bif Nat.beq k 4 then some F56 else none
def I75 (ty : TypeId) (xs ys : List Int) (i : Nat) : St := ⟨[(0, .s (roW xs)), (1, .s (roW ys)), (5, .s (slW 11 0 xs.length xs.length)), (6, .s (u64 (o_bw (nv xs) (nv ys) i))), (7, .s (num i))],
  [(11, box32 ty (o_Z xs.length (nv xs - nv ys) i))]⟩
def F75 (st : St) : Option (Ex × St × List Prop) :=
  match liv st.boxes 0, lk st.tmps 0, lk st.tmps 1, lk st.tmps 5, lk st.tmps 6, lk st.tmps 7, lk st.boxes 11 with
  | false, some (.s (.one (.row .u32 xs))), some (.s (.one (.row .u32 ys))), some (.s (.one (.sl 11 0 len cap))), some (.s (.one (.v (.int .u64 c)))), some (.s (.one (.v (.int .i64 i)))), some ⟨ty, .ints .u32 zs, true⟩ =>
    some (.exit 0, I75 ty xs ys xs.length, [len = xs.length, cap = xs.length, c = 0, i = 0, zs = List.replicate xs.length 0, Words xs, Words ys, Ln xs, nv ys ≤ nv xs])
  | _, _, _, _, _, _, _ => none
def L75 : Loops := fun k => bif Nat.beq k 4 then some F75 else none

end Go.Proofs.YtkfdnpbpebmhaaaGreatDoor.Spec
section
set_option maxRecDepth 100000
namespace Go.Proofs.YtkfdnpbpebmhaaaGreatDoor.Spec
open Go Go.RowKit Sx Num

theorem run55a (xs : List Int) : fnEx Tryz.prog (lk E3) L0 (G1 []) 60 Tryz.f55 [roW xs, boo true] = some (AV.s (SV.agg [LV.v (Value.bool (decide ((0 : Int) < (↑(List.length (enc (nv xs))) : Int)))), LV.row EK.u32 (enc (nv xs))]), [Words xs, List.length xs ≤ (274877906944 : Nat), true = true, true = true, true = true, true = true, List.length (enc (nv xs)) ≤ (274877906944 : Nat)]) := by kernel_rfl
theorem run55b (xs : List Int) : fnEx Tryz.prog (lk E3) L0 (G1 [7, 8]) 60 Tryz.f55 [roW xs, boo false] = some (AV.s (SV.agg [LV.v (Value.bool false), LV.row EK.u32 (enc (nv xs))]), [Words xs, List.length xs ≤ (274877906944 : Nat), false = false, false = false, false = false, false = false, List.length (enc (nv xs)) ≤ (274877906944 : Nat)]) := by kernel_rfl
theorem loop54a (ty : TypeId) (xs ys : List Int) (n i : Nat) : codeV Tryz.prog (lk E3) L0 (G1 []) Tryz.f54.ntmps 60 (loopC Tryz.f54 0) [0, 1, 5, 6, 7, 17, 18] [16] (I54 ty xs ys n i) = (let q1 := (↑(o_cy (nv xs) (nv ys) i) : Int); let q0 := List.getD xs (Int.toNat (↑i : Int)) (0 : Int) + List.getD ys (Int.toNat (↑i : Int)) (0 : Int) + q1; let q2 := SV.one (LV.v (Value.int .i64 (↑n : Int))); let q3 := o_Z (n + (1 : Nat)) (nv xs + nv ys) i; some (Ex.normal, { tmps := [((0 : Nat), AV.s (SV.one (LV.row EK.u32 xs))), ((1 : Nat), AV.s (SV.one (LV.row EK.u32 ys))), ((5 : Nat), AV.s q2), ((6 : Nat), AV.s (SV.one (LV.sl (16 : Nat) (0 : Nat) (n + (1 : Nat)) (n + (1 : Nat))))), ((7 : Nat), AV.s (SV.one (LV.v (Value.int .u32 (q0 / (4294967296 : Int)))))), ((17 : Nat), AV.s q2), ((18 : Nat), AV.s (SV.one (LV.v (Value.int .i64 (IntKind.wrap .i64 ((↑i : Int) + (1 : Int)))))))], boxes := [((16 : Nat), { ty := ty, bc := BC.ints EK.u32 (List.set q3 ((0 : Nat) + Int.toNat (↑i : Int)) (q0 % (4294967296 : Int))), mut_ := true })] }, [decide ((↑i : Int) < (↑n : Int)) = true, (0 : Int) ≤ (↑i : Int), (0 : Int) ≤ (↑i : Int), (0 : Int) ≤ List.getD xs (Int.toNat (↑i : Int)) (0 : Int) ∧ List.getD xs (Int.toNat (↑i : Int)) (0 : Int) < (4294967296 : Int), (0 : Int) ≤ List.getD ys (Int.toNat (↑i : Int)) (0 : Int) ∧ List.getD ys (Int.toNat (↑i : Int)) (0 : Int) < (4294967296 : Int), (0 : Int) ≤ q1 ∧ q1 ≤ (1 : Int), (0 : Int) ≤ (↑i : Int) ∧ (↑i : Int) < (↑(n + (1 : Nat)) : Int), (0 : Nat) + Int.toNat (↑i : Int) < List.length q3])) := by kernel_rfl
theorem loop54b (ty : TypeId) (xs ys : List Int) (n i : Nat) : codeV Tryz.prog (lk E3) L0 (G1 [19]) Tryz.f54.ntmps 60 (loopC Tryz.f54 0) [0, 1, 5, 6, 7, 17, 18] [16] (I54 ty xs ys n i) = (let q0 := SV.one (LV.v (Value.int .i64 (↑n : Int))); some (Ex.exit (0 : Nat), { tmps := [((0 : Nat), AV.s (SV.one (LV.row EK.u32 xs))), ((1 : Nat), AV.s (SV.one (LV.row EK.u32 ys))), ((5 : Nat), AV.s q0), ((6 : Nat), AV.s (SV.one (LV.sl (16 : Nat) (0 : Nat) (n + (1 : Nat)) (n + (1 : Nat))))), ((7 : Nat), AV.s (SV.one (LV.v (Value.int .u32 (↑(o_cy (nv xs) (nv ys) i) : Int))))), ((17 : Nat), AV.s q0), ((18 : Nat), AV.s (SV.one (LV.v (Value.int .i64 (↑i : Int)))))], boxes := [((16 : Nat), { ty := ty, bc := BC.ints EK.u32 (o_Z (n + (1 : Nat)) (nv xs + nv ys) i), mut_ := true })] }, [decide ((↑i : Int) < (↑n : Int)) = false])) := by kernel_rfl
theorem run54 (xs ys : List Int) : fnEx Tryz.prog (lk E3) L54 (G1 []) 60 Tryz.f54 [roW xs, roW ys] = (let q4 := (↑(List.length ys) : Int); let q5 := (↑(List.length xs) : Int); let q0 := if q4 > q5 then q4 else q5; let q1 := if q5 < q4 then q4 else q5; let q7 := IntKind.wrap .i64 (q0 + (1 : Int)); let q8 := Int.toNat q1 + (1 : Nat); let q9 := (↑(o_cy (nv xs) (nv ys) (Int.toNat q0)) : Int); let q10 := Int.toNat q7 = Int.toNat q1 + (1 : Nat); let q11 := Int.toNat q0 + (1 : Nat); let q2 := o_Z q11 (nv xs + nv ys) (Int.toNat q0); let q3 := List.take q11 (List.drop (0 : Nat) (List.set q2 ((0 : Nat) + Int.toNat (↑(Int.toNat q0) : Int)) q9)); let q6 := List.set q2 ((0 : Nat) + Int.toNat (↑(Int.toNat q1) : Int)) q9; some (AV.s (SV.one (LV.row EK.u32 (enc (nv q3)))), [(0 : Int) ≤ IntKind.wrap .i64 (q0 + (1 : Int)) ∧ IntKind.wrap .i64 (q0 + (1 : Int)) ≤ IntKind.wrap .i64 (q0 + (1 : Int)) ∧ IntKind.wrap .i64 (q0 + (1 : Int)) ≤ (1099511627776 : Int), (0 : Int) ≤ if q5 < q4 then q4 else q5, q10, q10, (0 : Int) = (0 : Int), q1 = if q5 < q4 then q4 else q5, (0 : Int) = (0 : Int), List.replicate (Int.toNat q7) (0 : Int) = List.replicate q8 (0 : Int), Words xs, Words ys, q1 < (274877906944 : Int), (0 : Int) ≤ (↑(Int.toNat q1) : Int) ∧ (↑(Int.toNat q1) : Int) < (↑q8 : Int), (0 : Nat) + Int.toNat (↑(Int.toNat q1) : Int) < List.length q2, (0 : Nat) + q8 ≤ List.length q6 ∧ Int.toNat q1 + (1 : Nat) ≤ Int.toNat q1 + (1 : Nat) ∧ Int.toNat q1 + (1 : Nat) ≤ (9223372036854775807 : Nat), Words q3, List.length (List.take q8 (List.drop (0 : Nat) q6)) ≤ (274877906944 : Nat)])) := by kernel_rfl
theorem loop69a (ty : TypeId) (xs ys : List Int) (n i : Nat) : codeV Tryz.prog (lk E3) L0 (G1 []) Tryz.f69.ntmps 60 (loopC Tryz.f69 0) [0, 1, 5, 6, 7, 8] [17] (I69 ty xs ys n i) = (let q0 := IntKind.wrap .u64 (IntKind.wrap .u64 (List.getD xs (Int.toNat (↑i : Int)) (0 : Int) + List.getD ys (Int.toNat (↑i : Int)) (0 : Int)) + (↑(o_cy (nv xs) (nv ys) i) : Int)); let q1 := ¬(4294967296 : Int) = (0 : Int); let q2 := o_Z n (nv xs + nv ys) i; some (Ex.normal, { tmps := [((0 : Nat), AV.s (SV.one (LV.row EK.u32 xs))), ((1 : Nat), AV.s (SV.one (LV.row EK.u32 ys))), ((5 : Nat), AV.s (SV.one (LV.v (Value.int .i64 (↑n : Int))))), ((6 : Nat), AV.s (SV.one (LV.sl (17 : Nat) (0 : Nat) n n))), ((7 : Nat), AV.s (SV.one (LV.v (Value.int .u64 (IntKind.wrap .u64 (Int.tdiv q0 (4294967296 : Int))))))), ((8 : Nat), AV.s (SV.one (LV.v (Value.int .i64 (IntKind.wrap .i64 ((↑i : Int) + (1 : Int)))))))], boxes := [((17 : Nat), { ty := ty, bc := BC.ints EK.u32 (List.set q2 ((0 : Nat) + Int.toNat (↑i : Int)) (IntKind.wrap .u32 (Int.tmod q0 (4294967296 : Int)))), mut_ := true })] }, [decide ((↑i : Int) < (↑n : Int)) = true, (0 : Int) ≤ (↑i : Int), Words xs, (0 : Int) ≤ (↑i : Int), Words ys, q1, (0 : Int) ≤ (↑i : Int) ∧ (↑i : Int) < (↑n : Int), (0 : Nat) + Int.toNat (↑i : Int) < List.length q2, q1])) := by kernel_rfl
theorem loop69b (ty : TypeId) (xs ys : List Int) (n i : Nat) : codeV Tryz.prog (lk E3) L0 (G1 [20]) Tryz.f69.ntmps 60 (loopC Tryz.f69 0) [0, 1, 5, 6, 7, 8] [17] (I69 ty xs ys n i) = some (Ex.exit (0 : Nat), { tmps := [((0 : Nat), AV.s (SV.one (LV.row EK.u32 xs))), ((1 : Nat), AV.s (SV.one (LV.row EK.u32 ys))), ((5 : Nat), AV.s (SV.one (LV.v (Value.int .i64 (↑n : Int))))), ((6 : Nat), AV.s (SV.one (LV.sl (17 : Nat) (0 : Nat) n n))), ((7 : Nat), AV.s (SV.one (LV.v (Value.int .u64 (↑(o_cy (nv xs) (nv ys) i) : Int))))), ((8 : Nat), AV.s (SV.one (LV.v (Value.int .i64 (↑i : Int)))))], boxes := [((17 : Nat), { ty := ty, bc := BC.ints EK.u32 (o_Z n (nv xs + nv ys) i), mut_ := true })] }, [decide ((↑i : Int) < (↑n : Int)) = false]) := by kernel_rfl
theorem run69 (xs ys : List Int) : fnEx Tryz.prog (lk E3) L69 (G1 []) 60 Tryz.f69 [roW xs, roW ys] = (let q5 := (↑(List.length ys) : Int); let q6 := (↑(List.length xs) : Int); let q0 := (if q5 > q6 then q5 else q6) + (1 : Int); let q1 := IntKind.wrap .i64 q0; let q3 := o_Z (Int.toNat q1) (nv xs + nv ys) (Int.toNat q1); let q2 := List.take (Int.toNat q1) (List.drop (0 : Nat) q3); let q4 := Int.toNat q1 = Int.toNat q1; some (AV.s (SV.one (LV.row EK.u32 (enc (nv q2)))), [(0 : Int) ≤ IntKind.wrap .i64 q0 ∧ IntKind.wrap .i64 q0 ≤ IntKind.wrap .i64 q0 ∧ IntKind.wrap .i64 q0 ≤ (1099511627776 : Int), (0 : Int) ≤ IntKind.wrap .i64 q0, q4, q4, (0 : Int) = (0 : Int), (0 : Int) = (0 : Int), List.replicate (Int.toNat q1) (0 : Int) = List.replicate (Int.toNat q1) (0 : Int), Words xs, Words ys, IntKind.wrap .i64 q0 < (274877906944 : Int), (0 : Nat) + Int.toNat q1 ≤ List.length q3 ∧ Int.toNat q1 ≤ Int.toNat q1 ∧ Int.toNat q1 ≤ (9223372036854775807 : Nat), Words q2, List.length q2 ≤ (274877906944 : Nat)])) := by kernel_rfl
theorem loop56a (ty : TypeId) (xs ys : List Int) (i : Nat) : codeV Tryz.prog (lk E3) L0 (G1 []) Tryz.f56.ntmps 60 (loopC Tryz.f56 0) [0, 1, 5, 6, 12, 13] [10] (I56 ty xs ys i) = (let q0 := (↑(o_bw (nv xs) (nv ys) i) : Int); let q1 := (↑(List.length xs) : Int); let q2 := o_Z (List.length xs) (nv xs - nv ys) i; let q3 := (0 : Int) ≤ (↑i : Int) ∧ (↑i : Int) < q1; some (Ex.normal, { tmps := [((0 : Nat), AV.s (SV.one (LV.row EK.u32 xs))), ((1 : Nat), AV.s (SV.one (LV.row EK.u32 ys))), ((5 : Nat), AV.s (SV.one (LV.sl (10 : Nat) (0 : Nat) (List.length xs) (List.length xs)))), ((6 : Nat), AV.s (SV.one (LV.v (Value.int .u32 (if List.getD xs (Int.toNat (↑i : Int)) (0 : Int) < List.getD ys (Int.toNat (↑i : Int)) (0 : Int) + q0 then (1 : Int) else (0 : Int)))))), ((12 : Nat), AV.s (SV.one (LV.v (Value.int .i64 q1)))), ((13 : Nat), AV.s (SV.one (LV.v (Value.int .i64 (IntKind.wrap .i64 ((↑i : Int) + (1 : Int)))))))], boxes := [((10 : Nat), { ty := ty, bc := BC.ints EK.u32 (List.set q2 ((0 : Nat) + Int.toNat (↑i : Int)) ((List.getD xs (Int.toNat (↑i : Int)) (0 : Int) - List.getD ys (Int.toNat (↑i : Int)) (0 : Int) - q0) % (4294967296 : Int))), mut_ := true })] }, [decide ((↑i : Int) < q1) = true, q3, (0 : Int) ≤ (↑i : Int), (0 : Int) ≤ List.getD xs (Int.toNat (↑i : Int)) (0 : Int) ∧ List.getD xs (Int.toNat (↑i : Int)) (0 : Int) < (4294967296 : Int), (0 : Int) ≤ List.getD ys (Int.toNat (↑i : Int)) (0 : Int) ∧ List.getD ys (Int.toNat (↑i : Int)) (0 : Int) < (4294967296 : Int), (0 : Int) ≤ q0 ∧ q0 ≤ (1 : Int), q3, (0 : Nat) + Int.toNat (↑i : Int) < List.length q2])) := by kernel_rfl
theorem loop56b (ty : TypeId) (xs ys : List Int) (i : Nat) : codeV Tryz.prog (lk E3) L0 (G1 [14]) Tryz.f56.ntmps 60 (loopC Tryz.f56 0) [0, 1, 5, 6, 12, 13] [10] (I56 ty xs ys i) = (let q0 := (↑(List.length xs) : Int); some (Ex.exit (0 : Nat), { tmps := [((0 : Nat), AV.s (SV.one (LV.row EK.u32 xs))), ((1 : Nat), AV.s (SV.one (LV.row EK.u32 ys))), ((5 : Nat), AV.s (SV.one (LV.sl (10 : Nat) (0 : Nat) (List.length xs) (List.length xs)))), ((6 : Nat), AV.s (SV.one (LV.v (Value.int .u32 (↑(o_bw (nv xs) (nv ys) i) : Int))))), ((12 : Nat), AV.s (SV.one (LV.v (Value.int .i64 q0)))), ((13 : Nat), AV.s (SV.one (LV.v (Value.int .i64 (↑i : Int)))))], boxes := [((10 : Nat), { ty := ty, bc := BC.ints EK.u32 (o_Z (List.length xs) (nv xs - nv ys) i), mut_ := true })] }, [decide ((↑i : Int) < q0) = false])) := by kernel_rfl
theorem run56 (xs ys : List Int) : fnEx Tryz.prog (lk E3) L56 (G1 []) 60 Tryz.f56 [roW xs, roW ys] = (let q1 := (↑(List.length xs) : Int); let q2 := o_Z (List.length xs) (nv xs - nv ys) (List.length xs); let q0 := List.take (List.length xs) (List.drop (0 : Nat) q2); let q3 := Int.toNat q1 = List.length xs; some (AV.s (SV.one (LV.row EK.u32 (enc (nv q0)))), [(0 : Int) ≤ q1 ∧ q1 ≤ q1 ∧ q1 ≤ (1099511627776 : Int), q3, q3, (0 : Int) = (0 : Int), (↑(Int.toNat q1) : Int) = q1, (0 : Int) = (0 : Int), List.replicate (Int.toNat q1) (0 : Int) = List.replicate (List.length xs) (0 : Int), Words xs, Words ys, List.length xs ≤ (274877906944 : Nat), nv ys ≤ nv xs, (0 : Nat) + List.length xs ≤ List.length q2 ∧ List.length xs ≤ List.length xs ∧ List.length xs ≤ (9223372036854775807 : Nat), Words q0, List.length q0 ≤ (274877906944 : Nat)])) := by kernel_rfl
theorem loop75a (ty : TypeId) (xs ys : List Int) (i : Nat) : codeV Tryz.prog (lk E3) L0 (G1 []) Tryz.f75.ntmps 60 (loopC Tryz.f75 0) [0, 1, 5, 6, 7] [11] (I75 ty xs ys i) = (let q0 := IntKind.wrap .u64 (IntKind.wrap .u64 (IntKind.wrap .u64 ((4294967296 : Int) + IntKind.wrap .u64 (List.getD xs (Int.toNat (↑i : Int)) (0 : Int))) - List.getD ys (Int.toNat (↑i : Int)) (0 : Int)) - (↑(o_bw (nv xs) (nv ys) i) : Int)); let q2 := o_Z (List.length xs) (nv xs - nv ys) i; let q3 := ¬(4294967296 : Int) = (0 : Int); let q4 := (↑(List.length xs) : Int); let q1 := (0 : Int) ≤ (↑i : Int) ∧ (↑i : Int) < q4; some (Ex.normal, { tmps := [((0 : Nat), AV.s (SV.one (LV.row EK.u32 xs))), ((1 : Nat), AV.s (SV.one (LV.row EK.u32 ys))), ((5 : Nat), AV.s (SV.one (LV.sl (11 : Nat) (0 : Nat) (List.length xs) (List.length xs)))), ((6 : Nat), AV.s (SV.one (LV.v (Value.int .u64 (IntKind.wrap .u64 ((1 : Int) - IntKind.wrap .u64 (Int.tdiv q0 (4294967296 : Int)))))))), ((7 : Nat), AV.s (SV.one (LV.v (Value.int .i64 (IntKind.wrap .i64 ((↑i : Int) + (1 : Int)))))))], boxes := [((11 : Nat), { ty := ty, bc := BC.ints EK.u32 (List.set q2 ((0 : Nat) + Int.toNat (↑i : Int)) (IntKind.wrap .u32 (Int.tmod q0 (4294967296 : Int)))), mut_ := true })] }, [decide ((↑i : Int) < q4) = true, q1, (0 : Int) ≤ (↑i : Int), Words ys, q3, q1, (0 : Nat) + Int.toNat (↑i : Int) < List.length q2, q3])) := by kernel_rfl
theorem loop75b (ty : TypeId) (xs ys : List Int) (i : Nat) : codeV Tryz.prog (lk E3) L0 (G1 [15]) Tryz.f75.ntmps 60 (loopC Tryz.f75 0) [0, 1, 5, 6, 7] [11] (I75 ty xs ys i) = some (Ex.exit (0 : Nat), { tmps := [((0 : Nat), AV.s (SV.one (LV.row EK.u32 xs))), ((1 : Nat), AV.s (SV.one (LV.row EK.u32 ys))), ((5 : Nat), AV.s (SV.one (LV.sl (11 : Nat) (0 : Nat) (List.length xs) (List.length xs)))), ((6 : Nat), AV.s (SV.one (LV.v (Value.int .u64 (↑(o_bw (nv xs) (nv ys) i) : Int))))), ((7 : Nat), AV.s (SV.one (LV.v (Value.int .i64 (↑i : Int)))))], boxes := [((11 : Nat), { ty := ty, bc := BC.ints EK.u32 (o_Z (List.length xs) (nv xs - nv ys) i), mut_ := true })] }, [decide ((↑i : Int) < (↑(List.length xs) : Int)) = false]) := by kernel_rfl
theorem run75 (xs ys : List Int) : fnEx Tryz.prog (lk E3) L75 (G1 []) 60 Tryz.f75 [roW xs, roW ys] = (let q1 := (↑(List.length xs) : Int); let q2 := o_Z (List.length xs) (nv xs - nv ys) (List.length xs); let q0 := List.take (List.length xs) (List.drop (0 : Nat) q2); let q3 := Int.toNat q1 = List.length xs; some (AV.s (SV.one (LV.row EK.u32 (enc (nv q0)))), [(0 : Int) ≤ q1 ∧ q1 ≤ q1 ∧ q1 ≤ (1099511627776 : Int), q3, q3, (0 : Int) = (0 : Int), (0 : Int) = (0 : Int), List.replicate (Int.toNat q1) (0 : Int) = List.replicate (List.length xs) (0 : Int), Words xs, Words ys, List.length xs ≤ (274877906944 : Nat), nv ys ≤ nv xs, (0 : Nat) + List.length xs ≤ List.length q2 ∧ List.length xs ≤ List.length xs ∧ List.length xs ≤ (9223372036854775807 : Nat), Words q0, List.length q0 ≤ (274877906944 : Nat)])) := by kernel_rfl
end Go.Proofs.YtkfdnpbpebmhaaaGreatDoor.Spec
end
namespace Go.Proofs.YtkfdnpbpebmhaaaGreatDoor.Spec
open Go Go.RowKit Sx Num

def spSigned : Sp
  | [.one (.row .u32 xs), .one (.v (.bool s))] => some (.s (mkN s (nv xs)), [Words xs, Ln xs])
  | _ => none
theorem enc_nv_len {xs : List Int} (h : Words xs) : (enc (nv xs)).length ≤ xs.length := by
  rw [enc_len]; exact nv_lt h
theorem con55 : Con Tryz.prog 55 spSigned := by
  refine con_flat (l := E3) (fn := Tryz.f55) hmix E3ok (by kernel_rfl) (by kernel_rfl) (fun _ => by kernel_rfl) ?_
  intro avs r ps hsp hps
  unfold spSigned at hsp
  split at hsp
  · rename_i xs s
    simp only [Option.some.injEq, Prod.mk.injEq] at hsp
    obtain ⟨rfl, rfl⟩ := hsp
    obtain ⟨hw, hl, _⟩ := hps
    have hle := enc_nv_len hw
    unfold Ln at hl
    cases s with
    | true =>
      refine ⟨rfl, _, _, _, _, run55a xs, ?_, by simp [AllP, hw]; omega⟩
      rw [mkN]
      have : decide ((0 : Int) < ((enc (nv xs)).length : Int)) = decide (0 < nv xs) := by rw [decide_eq_decide, ← enc_len_pos]; omega
      rw [this, Bool.true_and]
    | false =>
      refine ⟨rfl, _, _, _, _, run55b xs, ?_, by simp [AllP, hw]; omega⟩
      rw [mkN, Bool.false_and]
  · cases hsp

theorem sub54 {st : St} {e : Ex} {s : St} {obs : List Prop} (h : F54 st = some (e, s, obs)) (hob : AllP obs) : ∃ x : TypeId × List Int × List Int × Nat × Nat, (Words x.2.1 ∧ Words x.2.2.1 ∧ x.2.2.2.1 < 274877906944 ∧ x.2.2.2.2 ≤ x.2.2.2.1) ∧ SubS st (I54 x.1 x.2.1 x.2.2.1 x.2.2.2.1 x.2.2.2.2) ∧ e = .exit 0 ∧ s = I54 x.1 x.2.1 x.2.2.1 x.2.2.2.1 x.2.2.2.1 := by
  unfold F54 at h
  split at h
  · rename_i xs ys n len cap c n' i ty zs hz h1 h2 h3 h4 h5 h6 h7 h8
    simp only [Option.some.injEq, Prod.mk.injEq] at h
    obtain ⟨rfl, rfl, rfl⟩ := h
    obtain ⟨hn, rfl, rfl, rfl, rfl, rfl, rfl, hw, hw', hb, _⟩ := hob
    obtain ⟨n, rfl⟩ := Int.eq_ofNat_of_zero_le hn
    simp only [Int.toNat_natCast] at h3 h4 h6 h8
    refine ⟨(ty, xs, ys, n, 0), ⟨hw, hw', by show n < _; omega, Nat.zero_le _⟩, ⟨?_, ?_, ?_⟩, rfl, rfl⟩
    · intro p hp
      simp only [I54, List.mem_cons, List.not_mem_nil, or_false] at hp
      rw [cy_zero] at hp
      rcases hp with rfl | rfl | rfl | rfl | rfl | rfl | rfl <;> exact ⟨by assumption, rfl⟩
    · intro p hp
      simp only [I54, List.mem_cons, List.not_mem_nil, or_false] at hp
      rw [Z_zero] at hp
      subst hp
      exact ⟨by assumption, rfl⟩
    · rw [hz]; intro h; cases h
  · cases h

theorem lo54 : ∀ c ∈ loopsF Tryz.f54, LoopOk Tryz.prog Tryz.f54.ntmps L54 c := by
  rw [show loopsF Tryz.f54 = [loopC Tryz.f54 0] by kernel_rfl]
  intro c hc
  rw [List.mem_singleton] at hc
  subst hc
  refine loop_ok (k := 5) (f := F54) (α := TypeId × List Int × List Int × Nat × Nat) (by kernel_rfl) rfl (fun x => I54 x.1 x.2.1 x.2.2.1 x.2.2.2.1 x.2.2.2.2) (fun x => I54 x.1 x.2.1 x.2.2.1 x.2.2.2.1 x.2.2.2.1) (fun x => Words x.2.1 ∧ Words x.2.2.1 ∧ x.2.2.2.1 < 274877906944 ∧ x.2.2.2.2 ≤ x.2.2.2.1) (fun x => x.2.2.2.1 - x.2.2.2.2) (.exit 0) (by simp) (fun st e s obs h hob => sub54 h hob) ?_
  rintro ⟨ty, xs, ys, n, i⟩ ⟨hw, hw', hb, hi⟩
  simp only at hw hw' hb hi ⊢
  have hno : ∀ d ∈ loopsOf (loopC Tryz.f54 0), LoopOk Tryz.prog Tryz.f54.ntmps L0 d := by rw [show loopsOf (loopC Tryz.f54 0) = [] by kernel_rfl]; intro d hd; cases hd
  by_cases hlt : i < n
  · have g1 := Words.getD hw i
    have g2 := Words.getD hw' i
    have hc := cy_le (nv xs) (nv ys) i
    have hZ : (o_Z (n + 1) (nv xs + nv ys) i).length = n + 1 := Z_length (by omega)
    have w3 : IntKind.wrap IntKind.i64 ((i : Int) + 1) = ((i + 1 : Nat) : Int) := by rw [wi64 _ (by omega) (by omega)]; omega
    have hdig : ((xs.getD i 0 + ys.getD i 0 + (o_cy (nv xs) (nv ys) i : Int)) % 4294967296) = ((dg (nv xs + nv ys) i : Nat) : Int) := by
      rw [dg_add, nv_getD hw, nv_getD hw']; unfold B; omega
    have hcy : ((xs.getD i 0 + ys.getD i 0 + (o_cy (nv xs) (nv ys) i : Int)) / 4294967296) = ((o_cy (nv xs) (nv ys) (i + 1) : Nat) : Int) := by
      rw [cy_succ, nv_getD hw, nv_getD hw']; unfold B; omega
    refine (codeV_sound hmix E3ok.hS hno (loop54a ty xs ys n i) ?_).mono ?_
    · simp only [AllP, Int.toNat_natCast, hZ]; simp [-List.getD_eq_getElem?_getD]; omega
    · rintro e s ⟨rfl, hs⟩
      refine .inl ⟨rfl, (ty, xs, ys, n, i + 1), ⟨hw, hw', hb, by show i + 1 ≤ n; omega⟩, by simp only; omega, ?_, rfl⟩
      rw [w3] at hs
      simp only [Int.toNat_natCast, Nat.zero_add] at hs
      rw [hdig, hcy, Z_set (by omega)] at hs
      exact hs
  · have : i = n := by omega
    subst this
    refine (codeV_sound hmix E3ok.hS hno (loop54b ty xs ys i i) ?_).mono ?_
    · simp [AllP]
    · rintro e s ⟨rfl, hs⟩
      exact .inr ⟨rfl, hs⟩

def spAddN : Sp
  | [.one (.row .u32 xs), .one (.row .u32 ys)] => some (.s (roW (enc (nv xs + nv ys))), [Words xs, Words ys, xs.length < 137438953472, ys.length < 137438953472])
  | _ => none
theorem cy_top {xs ys : List Int} (hw : Words xs) (hw' : Words ys) {N : Nat} (h1 : xs.length ≤ N) (h2 : ys.length ≤ N) : o_cy (nv xs) (nv ys) N = dg (nv xs + nv ys) N ∧ (nv xs + nv ys) < B ^ (N + 1) := by
  have l1 : nv xs < B ^ N := Nat.lt_of_lt_of_le (nv_lt hw) (Nat.pow_le_pow_right (by decide) h1)
  have l2 : nv ys < B ^ N := Nat.lt_of_lt_of_le (nv_lt hw') (Nat.pow_le_pow_right (by decide) h2)
  have hlt : (nv xs + nv ys) / B ^ N < 2 := by rw [Nat.div_lt_iff_lt_mul (pow_pos' N)]; omega
  refine ⟨?_, ?_⟩
  · unfold o_cy dg
    rw [Nat.mod_eq_of_lt l1, Nat.mod_eq_of_lt l2, Nat.mod_eq_of_lt (Nat.lt_of_lt_of_le hlt (by decide))]
  · have : B ^ N * 2 ≤ B ^ N * B := Nat.mul_le_mul_left _ (by decide)
    rw [Nat.pow_succ]
    omega
theorem con54 : Con Tryz.prog 54 spAddN := by
  refine con_run (L := L54) (fn := Tryz.f54) hmix E3ok.hS lo54 (by kernel_rfl) (fun _ => by kernel_rfl) ?_
  intro avs r ps hsp hps
  unfold spAddN at hsp
  split at hsp
  · rename_i xs ys
    simp only [Option.some.injEq, Prod.mk.injEq] at hsp
    obtain ⟨rfl, rfl⟩ := hsp
    obtain ⟨hw, hw', hl, hl', _⟩ := hps
    obtain ⟨N, hN⟩ : ∃ N : Nat, N = max xs.length ys.length := ⟨_, rfl⟩
    have hif : (if (xs.length : Int) < (ys.length : Int) then (ys.length : Int) else (xs.length : Int)) = (N : Int) := by split <;> omega
    obtain ⟨ht, hs⟩ := cy_top hw hw' (N := N) (by omega) (by omega)
    have hwr : IntKind.wrap IntKind.i64 ((N : Int) + 1) = ((N + 1 : Nat) : Int) := by rw [wi64 _ (by omega) (by omega)]; omega
    have hZ : (o_Z (N + 1) (nv xs + nv ys) N).length = N + 1 := Z_length (by omega)
    refine ⟨rfl, _, _, _, _, run54 xs ys, ?_, ?_⟩
    · simp only [gt_iff_lt, hif, Int.toNat_natCast, Nat.zero_add, List.drop_zero, ht, Z_set (show N < N + 1 by omega), Z_full]
      rw [List.take_of_length_le (by rw [dgs_length]; exact Nat.le_refl _), nv_dgs, Nat.mod_eq_of_lt hs]
      rfl
    · simp only [AllP, gt_iff_lt, hif, Int.toNat_natCast, Nat.zero_add, hwr, hZ, ht, Z_set (show N < N + 1 by omega), List.drop_zero, Z_full]
      rw [List.take_of_length_le (by rw [dgs_length]; exact Nat.le_refl _)]
      simp [hw, hw', dgs_length, words_dgs]
      omega
  · cases hsp

end Go.Proofs.YtkfdnpbpebmhaaaGreatDoor.Spec
namespace Go.Proofs.YtkfdnpbpebmhaaaGreatDoor.Spec
open Go Go.RowKit Sx Num

theorem sub69 {st : St} {e : Ex} {s : St} {obs : List Prop} (h : F69 st = some (e, s, obs)) (hob : AllP obs) : ∃ x : TypeId × List Int × List Int × Nat × Nat, (Words x.2.1 ∧ Words x.2.2.1 ∧ x.2.2.2.1 < 274877906944 ∧ x.2.2.2.2 ≤ x.2.2.2.1) ∧ SubS st (I69 x.1 x.2.1 x.2.2.1 x.2.2.2.1 x.2.2.2.2) ∧ e = .exit 0 ∧ s = I69 x.1 x.2.1 x.2.2.1 x.2.2.2.1 x.2.2.2.1 := by
  unfold F69 at h
  split at h
  · rename_i xs ys n len cap c i ty zs hz h1 h2 h3 h4 h5 h6 h8
    simp only [Option.some.injEq, Prod.mk.injEq] at h
    obtain ⟨rfl, rfl, rfl⟩ := h
    obtain ⟨hn, rfl, rfl, rfl, rfl, rfl, hw, hw', hb, _⟩ := hob
    obtain ⟨n, rfl⟩ := Int.eq_ofNat_of_zero_le hn
    simp only [Int.toNat_natCast] at h3 h4 h8
    refine ⟨(ty, xs, ys, n, 0), ⟨hw, hw', by show n < _; omega, Nat.zero_le _⟩, ⟨?_, ?_, ?_⟩, rfl, rfl⟩
    · intro p hp
      simp only [I69, List.mem_cons, List.not_mem_nil, or_false] at hp
      rw [cy_zero] at hp
      rcases hp with rfl | rfl | rfl | rfl | rfl | rfl <;> exact ⟨by assumption, rfl⟩
    · intro p hp
      simp only [I69, List.mem_cons, List.not_mem_nil, or_false] at hp
      rw [Z_zero] at hp
      subst hp
      exact ⟨by assumption, rfl⟩
    · rw [hz]; intro h; cases h
  · cases h
theorem lo69 : ∀ c ∈ loopsF Tryz.f69, LoopOk Tryz.prog Tryz.f69.ntmps L69 c := by
  rw [show loopsF Tryz.f69 = [loopC Tryz.f69 0] by kernel_rfl]
  intro c hc
  rw [List.mem_singleton] at hc
  subst hc
  refine loop_ok (k := 5) (f := F69) (α := TypeId × List Int × List Int × Nat × Nat) (by kernel_rfl) rfl (fun x => I69 x.1 x.2.1 x.2.2.1 x.2.2.2.1 x.2.2.2.2) (fun x => I69 x.1 x.2.1 x.2.2.1 x.2.2.2.1 x.2.2.2.1) (fun x => Words x.2.1 ∧ Words x.2.2.1 ∧ x.2.2.2.1 < 274877906944 ∧ x.2.2.2.2 ≤ x.2.2.2.1) (fun x => x.2.2.2.1 - x.2.2.2.2) (.exit 0) (by simp) (fun st e s obs h hob => sub69 h hob) ?_
  rintro ⟨ty, xs, ys, n, i⟩ ⟨hw, hw', hb, hi⟩
  simp only at hw hw' hb hi ⊢
  have hno : ∀ d ∈ loopsOf (loopC Tryz.f69 0), LoopOk Tryz.prog Tryz.f69.ntmps L0 d := by rw [show loopsOf (loopC Tryz.f69 0) = [] by kernel_rfl]; intro d hd; cases hd
  by_cases hlt : i < n
  · have g1 := Words.getD hw i
    have g2 := Words.getD hw' i
    have hc := cy_le (nv xs) (nv ys) i
    have hZ : (o_Z n (nv xs + nv ys) i).length = n := Z_length (by omega)
    have w3 : IntKind.wrap IntKind.i64 ((i : Int) + 1) = ((i + 1 : Nat) : Int) := by rw [wi64 _ (by omega) (by omega)]; omega
    have hsum : IntKind.wrap IntKind.u64 (IntKind.wrap IntKind.u64 (xs.getD i 0 + ys.getD i 0) + (o_cy (nv xs) (nv ys) i : Int)) = xs.getD i 0 + ys.getD i 0 + (o_cy (nv xs) (nv ys) i : Int) := by
      rw [w64, w64]; omega
    have hdig : IntKind.wrap IntKind.u32 (Int.tmod (xs.getD i 0 + ys.getD i 0 + (o_cy (nv xs) (nv ys) i : Int)) 4294967296) = ((dg (nv xs + nv ys) i : Nat) : Int) := by
      rw [Int.tmod_eq_emod_of_nonneg (by omega), w32, dg_add, nv_getD hw, nv_getD hw']; unfold B; omega
    have hcy : IntKind.wrap IntKind.u64 (Int.tdiv (xs.getD i 0 + ys.getD i 0 + (o_cy (nv xs) (nv ys) i : Int)) 4294967296) = ((o_cy (nv xs) (nv ys) (i + 1) : Nat) : Int) := by
      rw [Int.tdiv_eq_ediv_of_nonneg (by omega), w64, cy_succ]
      rw [nv_getD hw, nv_getD hw'] at *
      unfold B; omega
    refine (codeV_sound hmix E3ok.hS hno (loop69a ty xs ys n i) ?_).mono ?_
    · simp only [AllP, Int.toNat_natCast, hZ]; simp [-List.getD_eq_getElem?_getD, hw, hw']; omega
    · rintro e s ⟨rfl, hs⟩
      refine .inl ⟨rfl, (ty, xs, ys, n, i + 1), ⟨hw, hw', hb, by show i + 1 ≤ n; omega⟩, by simp only; omega, ?_, rfl⟩
      rw [w3] at hs
      simp only [Int.toNat_natCast, Nat.zero_add] at hs
      rw [hsum, hdig, hcy, Z_set (by omega)] at hs
      exact hs
  · have : i = n := by omega
    subst this
    refine (codeV_sound hmix E3ok.hS hno (loop69b ty xs ys i i) ?_).mono ?_
    · simp [AllP]
    · rintro e s ⟨rfl, hs⟩
      exact .inr ⟨rfl, hs⟩

theorem sub56 {st : St} {e : Ex} {s : St} {obs : List Prop} (h : F56 st = some (e, s, obs)) (hob : AllP obs) : ∃ x : TypeId × List Int × List Int × Nat, (Words x.2.1 ∧ Words x.2.2.1 ∧ Ln x.2.1 ∧ nv x.2.2.1 ≤ nv x.2.1 ∧ x.2.2.2 ≤ x.2.1.length) ∧ SubS st (I56 x.1 x.2.1 x.2.2.1 x.2.2.2) ∧ e = .exit 0 ∧ s = I56 x.1 x.2.1 x.2.2.1 x.2.1.length := by
  unfold F56 at h
  split at h
  · rename_i xs ys len cap c n i ty zs hz h1 h2 h4 h5 h6 h7 h8
    simp only [Option.some.injEq, Prod.mk.injEq] at h
    obtain ⟨rfl, rfl, rfl⟩ := h
    obtain ⟨rfl, rfl, rfl, rfl, rfl, rfl, hw, hw', hl, hle, _⟩ := hob
    refine ⟨(ty, xs, ys, 0), ⟨hw, hw', hl, hle, Nat.zero_le _⟩, ⟨?_, ?_, ?_⟩, rfl, rfl⟩
    · intro p hp
      simp only [I56, List.mem_cons, List.not_mem_nil, or_false] at hp
      rw [bw_zero] at hp
      rcases hp with rfl | rfl | rfl | rfl | rfl | rfl <;> exact ⟨by assumption, rfl⟩
    · intro p hp
      simp only [I56, List.mem_cons, List.not_mem_nil, or_false] at hp
      rw [Z_zero] at hp
      subst hp
      exact ⟨by assumption, rfl⟩
    · rw [hz]; intro h; cases h
  · cases h
theorem lo56 : ∀ c ∈ loopsF Tryz.f56, LoopOk Tryz.prog Tryz.f56.ntmps L56 c := by
  rw [show loopsF Tryz.f56 = [loopC Tryz.f56 0] by kernel_rfl]
  intro c hc
  rw [List.mem_singleton] at hc
  subst hc
  refine loop_ok (k := 4) (f := F56) (α := TypeId × List Int × List Int × Nat) (by kernel_rfl) rfl (fun x => I56 x.1 x.2.1 x.2.2.1 x.2.2.2) (fun x => I56 x.1 x.2.1 x.2.2.1 x.2.1.length) (fun x => Words x.2.1 ∧ Words x.2.2.1 ∧ Ln x.2.1 ∧ nv x.2.2.1 ≤ nv x.2.1 ∧ x.2.2.2 ≤ x.2.1.length) (fun x => x.2.1.length - x.2.2.2) (.exit 0) (by simp) (fun st e s obs h hob => sub56 h hob) ?_
  rintro ⟨ty, xs, ys, i⟩ ⟨hw, hw', hln, hle, hi⟩
  simp only at hw hw' hln hle hi ⊢
  have hno : ∀ d ∈ loopsOf (loopC Tryz.f56 0), LoopOk Tryz.prog Tryz.f56.ntmps L0 d := by rw [show loopsOf (loopC Tryz.f56 0) = [] by kernel_rfl]; intro d hd; cases hd
  unfold Ln at hln
  by_cases hlt : i < xs.length
  · have g1 := Words.getD hw i
    have g2 := Words.getD hw' i
    have hc := bw_le (nv xs) (nv ys) i
    have hZ : (o_Z xs.length (nv xs - nv ys) i).length = xs.length := Z_length (by omega)
    have w3 : IntKind.wrap IntKind.i64 ((i : Int) + 1) = ((i + 1 : Nat) : Int) := by rw [wi64 _ (by omega) (by omega)]; omega
    have hdig : (xs.getD i 0 - ys.getD i 0 - (o_bw (nv xs) (nv ys) i : Int)) % 4294967296 = ((dg (nv xs - nv ys) i : Nat) : Int) := by
      rw [dg_sub _ _ _ hle, nv_getD hw, nv_getD hw']
    have hbw : (if xs.getD i 0 < ys.getD i 0 + (o_bw (nv xs) (nv ys) i : Int) then (1 : Int) else 0) = ((o_bw (nv xs) (nv ys) (i + 1) : Nat) : Int) := by
      rw [bw_succ, nv_getD hw, nv_getD hw']
      by_cases hh : dg (nv xs) i < dg (nv ys) i + o_bw (nv xs) (nv ys) i
      · rw [if_pos hh, if_pos (by omega)]; rfl
      · rw [if_neg hh, if_neg (by omega)]; rfl
    refine (codeV_sound hmix E3ok.hS hno (loop56a ty xs ys i) ?_).mono ?_
    · simp only [AllP, Int.toNat_natCast, hZ]; simp [-List.getD_eq_getElem?_getD]; omega
    · rintro e s ⟨rfl, hs⟩
      refine .inl ⟨rfl, (ty, xs, ys, i + 1), ⟨hw, hw', hln, hle, by show i + 1 ≤ xs.length; omega⟩, by simp only; omega, ?_, rfl⟩
      rw [w3] at hs
      simp only [Int.toNat_natCast, Nat.zero_add] at hs
      rw [hdig, hbw, Z_set (by omega)] at hs
      exact hs
  · have : i = xs.length := by omega
    subst this
    refine (codeV_sound hmix E3ok.hS hno (loop56b ty xs ys _) ?_).mono ?_
    · simp [AllP]
    · rintro e s ⟨rfl, hs⟩
      exact .inr ⟨rfl, hs⟩
def spSubN : Sp
  | [.one (.row .u32 xs), .one (.row .u32 ys)] => some (.s (roW (enc (nv xs - nv ys))), [Words xs, Words ys, Ln xs, nv ys ≤ nv xs])
  | _ => none
theorem con56 : Con Tryz.prog 56 spSubN := by
  refine con_run (L := L56) (fn := Tryz.f56) hmix E3ok.hS lo56 (by kernel_rfl) (fun _ => by kernel_rfl) ?_
  intro avs r ps hsp hps
  unfold spSubN at hsp
  split at hsp
  · rename_i xs ys
    simp only [Option.some.injEq, Prod.mk.injEq] at hsp
    obtain ⟨rfl, rfl⟩ := hsp
    obtain ⟨hw, hw', hl, hle, _⟩ := hps
    have hs : nv xs - nv ys < B ^ xs.length := by have := nv_lt hw; omega
    have ht : List.take xs.length (dgs xs.length (nv xs - nv ys)) = dgs xs.length (nv xs - nv ys) := List.take_of_length_le (by rw [dgs_length]; exact Nat.le_refl _)
    refine ⟨rfl, _, _, _, _, run56 xs ys, ?_, ?_⟩
    · simp only [List.drop_zero, Z_full, ht, nv_dgs, Nat.mod_eq_of_lt hs]
      rfl
    · unfold Ln at hl
      simp only [AllP, Int.toNat_natCast, List.drop_zero, Z_full, ht, dgs_length]
      simp [hw, hw', words_dgs, hle]
      omega
  · cases hsp

theorem con69 : Con Tryz.prog 69 spAddN := by
  refine con_run (L := L69) (fn := Tryz.f69) hmix E3ok.hS lo69 (by kernel_rfl) (fun _ => by kernel_rfl) ?_
  intro avs r ps hsp hps
  unfold spAddN at hsp
  split at hsp
  · rename_i xs ys
    simp only [Option.some.injEq, Prod.mk.injEq] at hsp
    obtain ⟨rfl, rfl⟩ := hsp
    obtain ⟨hw, hw', hl, hl', _⟩ := hps
    obtain ⟨N, hN⟩ : ∃ N : Nat, N = max xs.length ys.length := ⟨_, rfl⟩
    have hif : (if (xs.length : Int) < (ys.length : Int) then (ys.length : Int) else (xs.length : Int)) = (N : Int) := by split <;> omega
    obtain ⟨_, hs⟩ := cy_top hw hw' (N := N) (by omega) (by omega)
    have hwr : IntKind.wrap IntKind.i64 ((N : Int) + 1) = ((N + 1 : Nat) : Int) := by rw [wi64 _ (by omega) (by omega)]; omega
    have ht : List.take (N + 1) (dgs (N + 1) (nv xs + nv ys)) = dgs (N + 1) (nv xs + nv ys) := List.take_of_length_le (by rw [dgs_length]; exact Nat.le_refl _)
    refine ⟨rfl, _, _, _, _, run69 xs ys, ?_, ?_⟩
    · simp only [gt_iff_lt, hif, hwr, Int.toNat_natCast, List.drop_zero, Z_full, ht, nv_dgs, Nat.mod_eq_of_lt hs]
      rfl
    · simp only [AllP, gt_iff_lt, hif, hwr, Int.toNat_natCast, List.drop_zero, Z_full, ht, dgs_length]
      simp [hw, hw', words_dgs]
      omega
  · cases hsp

theorem sub75 {st : St} {e : Ex} {s : St} {obs : List Prop} (h : F75 st = some (e, s, obs)) (hob : AllP obs) : ∃ x : TypeId × List Int × List Int × Nat, (Words x.2.1 ∧ Words x.2.2.1 ∧ Ln x.2.1 ∧ nv x.2.2.1 ≤ nv x.2.1 ∧ x.2.2.2 ≤ x.2.1.length) ∧ SubS st (I75 x.1 x.2.1 x.2.2.1 x.2.2.2) ∧ e = .exit 0 ∧ s = I75 x.1 x.2.1 x.2.2.1 x.2.1.length := by
  unfold F75 at h
  split at h
  · rename_i xs ys len cap c i ty zs hz h1 h2 h4 h5 h7 h8
    simp only [Option.some.injEq, Prod.mk.injEq] at h
    obtain ⟨rfl, rfl, rfl⟩ := h
    obtain ⟨rfl, rfl, rfl, rfl, rfl, hw, hw', hl, hle, _⟩ := hob
    refine ⟨(ty, xs, ys, 0), ⟨hw, hw', hl, hle, Nat.zero_le _⟩, ⟨?_, ?_, ?_⟩, rfl, rfl⟩
    · intro p hp
      simp only [I75, List.mem_cons, List.not_mem_nil, or_false] at hp
      rw [bw_zero] at hp
      rcases hp with rfl | rfl | rfl | rfl | rfl <;> exact ⟨by assumption, rfl⟩
    · intro p hp
      simp only [I75, List.mem_cons, List.not_mem_nil, or_false] at hp
      rw [Z_zero] at hp
      subst hp
      exact ⟨by assumption, rfl⟩
    · rw [hz]; intro h; cases h
  · cases h
theorem lo75 : ∀ c ∈ loopsF Tryz.f75, LoopOk Tryz.prog Tryz.f75.ntmps L75 c := by
  rw [show loopsF Tryz.f75 = [loopC Tryz.f75 0] by kernel_rfl]
  intro c hc
  rw [List.mem_singleton] at hc
  subst hc
  refine loop_ok (k := 4) (f := F75) (α := TypeId × List Int × List Int × Nat) (by kernel_rfl) rfl (fun x => I75 x.1 x.2.1 x.2.2.1 x.2.2.2) (fun x => I75 x.1 x.2.1 x.2.2.1 x.2.1.length) (fun x => Words x.2.1 ∧ Words x.2.2.1 ∧ Ln x.2.1 ∧ nv x.2.2.1 ≤ nv x.2.1 ∧ x.2.2.2 ≤ x.2.1.length) (fun x => x.2.1.length - x.2.2.2) (.exit 0) (by simp) (fun st e s obs h hob => sub75 h hob) ?_
  rintro ⟨ty, xs, ys, i⟩ ⟨hw, hw', hln, hle, hi⟩
  simp only at hw hw' hln hle hi ⊢
  have hno : ∀ d ∈ loopsOf (loopC Tryz.f75 0), LoopOk Tryz.prog Tryz.f75.ntmps L0 d := by rw [show loopsOf (loopC Tryz.f75 0) = [] by kernel_rfl]; intro d hd; cases hd
  unfold Ln at hln
  by_cases hlt : i < xs.length
  · have g1 := Words.getD hw i
    have g2 := Words.getD hw' i
    have hc := bw_le (nv xs) (nv ys) i
    have hZ : (o_Z xs.length (nv xs - nv ys) i).length = xs.length := Z_length (by omega)
    have w3 : IntKind.wrap IntKind.i64 ((i : Int) + 1) = ((i + 1 : Nat) : Int) := by rw [wi64 _ (by omega) (by omega)]; omega
    have hT : IntKind.wrap IntKind.u64 (IntKind.wrap IntKind.u64 (IntKind.wrap IntKind.u64 ((4294967296 : Int) + IntKind.wrap IntKind.u64 (xs.getD i 0)) - ys.getD i 0) - (o_bw (nv xs) (nv ys) i : Int)) = 4294967296 + xs.getD i 0 - ys.getD i 0 - (o_bw (nv xs) (nv ys) i : Int) := by
      simp only [w64]; omega
    have hdig : IntKind.wrap IntKind.u32 (Int.tmod (4294967296 + xs.getD i 0 - ys.getD i 0 - (o_bw (nv xs) (nv ys) i : Int)) 4294967296) = ((dg (nv xs - nv ys) i : Nat) : Int) := by
      rw [Int.tmod_eq_emod_of_nonneg (by omega), w32, dg_sub _ _ _ hle, ← nv_getD hw, ← nv_getD hw']; omega
    have hbw : IntKind.wrap IntKind.u64 ((1 : Int) - IntKind.wrap IntKind.u64 (Int.tdiv (4294967296 + xs.getD i 0 - ys.getD i 0 - (o_bw (nv xs) (nv ys) i : Int)) 4294967296)) = ((o_bw (nv xs) (nv ys) (i + 1) : Nat) : Int) := by
      rw [Int.tdiv_eq_ediv_of_nonneg (by omega), w64, w64, bw_succ]
      have d1 := nv_getD hw i
      have d2 := nv_getD hw' i
      by_cases hh : dg (nv xs) i < dg (nv ys) i + o_bw (nv xs) (nv ys) i
      · rw [if_pos hh]; omega
      · rw [if_neg hh]; omega
    refine (codeV_sound hmix E3ok.hS hno (loop75a ty xs ys i) ?_).mono ?_
    · simp only [AllP, Int.toNat_natCast, hZ]; simp [-List.getD_eq_getElem?_getD, hw']; omega
    · rintro e s ⟨rfl, hs⟩
      refine .inl ⟨rfl, (ty, xs, ys, i + 1), ⟨hw, hw', hln, hle, by show i + 1 ≤ xs.length; omega⟩, by simp only; omega, ?_, rfl⟩
      rw [w3] at hs
      simp only [Int.toNat_natCast, Nat.zero_add] at hs
      rw [hT, hdig, hbw, Z_set (by omega)] at hs
      exact hs
  · have : i = xs.length := by omega
    subst this
    refine (codeV_sound hmix E3ok.hS hno (loop75b ty xs ys _) ?_).mono ?_
    · simp [AllP]
    · rintro e s ⟨rfl, hs⟩
      exact .inr ⟨rfl, hs⟩
theorem con75 : Con Tryz.prog 75 spSubN := by
  refine con_run (L := L75) (fn := Tryz.f75) hmix E3ok.hS lo75 (by kernel_rfl) (fun _ => by kernel_rfl) ?_
  intro avs r ps hsp hps
  unfold spSubN at hsp
  split at hsp
  · rename_i xs ys
    simp only [Option.some.injEq, Prod.mk.injEq] at hsp
    obtain ⟨rfl, rfl⟩ := hsp
    obtain ⟨hw, hw', hl, hle, _⟩ := hps
    have hs : nv xs - nv ys < B ^ xs.length := by have := nv_lt hw; omega
    have ht : List.take xs.length (dgs xs.length (nv xs - nv ys)) = dgs xs.length (nv xs - nv ys) := List.take_of_length_le (by rw [dgs_length]; exact Nat.le_refl _)
    refine ⟨rfl, _, _, _, _, run75 xs ys, ?_, ?_⟩
    · simp only [List.drop_zero, Z_full, ht, nv_dgs, Nat.mod_eq_of_lt hs]
      rfl
    · unfold Ln at hl
      simp only [AllP, Int.toNat_natCast, List.drop_zero, Z_full, ht, dgs_length]
      simp [hw, hw', words_dgs, hle]
      omega
  · cases hsp
def E4 : List (Nat × Ctr) := (55, .fn spSigned) :: (54, .fn spAddN) :: (69, .fn spAddN) :: (56, .fn spSubN) :: (75, .fn spSubN) :: E3
theorem E4ok : EnvOk Tryz.prog E4 := .cons con55 (.cons con54 (.cons con69 (.cons con56 (.cons con75 E3ok))))

end Go.Proofs.YtkfdnpbpebmhaaaGreatDoor.Spec
namespace Go.Proofs.YtkfdnpbpebmhaaaGreatDoor.Num
open Go.Proofs.YtkfdnpbpebmhaaaGreatDoor.Spec

/-- The first j words of a, then those of b. -/
def o_mix (n a b j : Nat) : List Int := dgs j a ++ (dgs n b).drop j
theorem mix_length {n a b j : Nat} (h : j ≤ n) : (o_mix n a b j).length = n := by simp [o_mix, dgs_length]; omega
theorem dg_add_mul (a c i j : Nat) (h : j < i) : dg (a + B ^ i * c) j = dg a j := by
  unfold dg
  obtain ⟨d, rfl⟩ : ∃ d, i = j + 1 + d := ⟨i - (j + 1), by omega⟩
  have e : a + B ^ (j + 1 + d) * c = a + B ^ j * (B * (B ^ d * c)) := by
    rw [Nat.pow_add, Nat.pow_succ]
    simp only [Nat.mul_assoc]
  rw [e, Nat.add_mul_div_left _ _ (pow_pos' j), Nat.add_mul_mod_self_left]
theorem dgs_add_mul (a c i : Nat) : dgs i (a + B ^ i * c) = dgs i a := by
  unfold dgs
  apply List.map_congr_left
  intro j hj
  rw [dg_add_mul a c i j (List.mem_range.1 hj)]
theorem mix_get {n a b j : Nat} (h : j < n) : (o_mix n a b j).getD j 0 = dg b j := by
  unfold o_mix
  simp [List.getD, List.getElem?_append, dgs, h]
theorem mix_set {n a b j v : Nat} (h : j < n) (a' : Nat) (ha : dgs j a' = dgs j a) (hv : v = dg a' j) : (o_mix n a b j).set j (v : Int) = o_mix n a' b (j + 1) := by
  unfold o_mix
  rw [List.set_append_right _ _ (by simp [dgs_length]), dgs_length, Nat.sub_self, dgs_succ, ha, hv]
  rw [List.drop_eq_getElem_cons (by rw [dgs_length]; exact h), List.set_cons_zero]
  simp
theorem mix_zero (n b : Nat) : o_mix n b b 0 = dgs n b := by simp [o_mix, dgs]
theorem mix_self {n a : Nat} (j : Nat) (h : j ≤ n) : o_mix n a a j = dgs n a := by
  unfold o_mix
  have : dgs j a = (dgs n a).take j := by
    unfold dgs
    rw [← List.map_take, List.take_range]
    congr 2
    omega
  rw [this, List.take_append_drop]
theorem mix_words {n a b j : Nat} : Words (o_mix n a b j) := (words_dgs j a).append fun x hx => words_dgs n b x (List.mem_of_mem_drop hx)
/-- A row of the product, k words of it done. -/
def o_Q (X Y i k : Nat) : Nat := ((X % B ^ i) * Y) % B ^ (i + k) + B ^ i * (dg X i * (Y % B ^ k))
theorem Q_succ (X Y i k : Nat) : o_Q X Y i (k + 1) = o_Q X Y i k + B ^ (i + k) * (dg (X % B ^ i * Y) (i + k) + dg X i * dg Y k) := by
  unfold o_Q
  rw [← Nat.add_assoc, mod_succ, mod_succ Y k, Nat.mul_add (B ^ (i + k)), Nat.mul_add (dg X i), Nat.mul_add (B ^ i)]
  have : B ^ i * (dg X i * (B ^ k * dg Y k)) = B ^ (i + k) * (dg X i * dg Y k) := by
    rw [Nat.pow_add]
    simp only [Nat.mul_left_comm, Nat.mul_assoc]
  rw [this]
  omega
theorem Q_end (X Y i m : Nat) (h : Y < B ^ m) : o_Q X Y i m = X % B ^ (i + 1) * Y ∧ X % B ^ (i + 1) * Y < B ^ (i + 1 + m) := by
  have h1 : X % B ^ i * Y < B ^ (i + m) := by
    rw [Nat.pow_add]
    rcases Nat.eq_zero_or_pos Y with h0 | h0
    · subst h0; rw [Nat.mul_zero]; exact Nat.mul_pos (pow_pos' i) (pow_pos' m)
    · calc X % B ^ i * Y < B ^ i * Y := Nat.mul_lt_mul_of_pos_right (Nat.mod_lt _ (pow_pos' i)) h0
        _ ≤ B ^ i * B ^ m := Nat.mul_le_mul_left _ (Nat.le_of_lt h)
  refine ⟨?_, ?_⟩
  · unfold o_Q
    rw [Nat.mod_eq_of_lt h1, Nat.mod_eq_of_lt h, mod_succ, Nat.add_mul, Nat.mul_assoc]
  · rw [show B ^ (i + 1 + m) = B ^ (i + 1) * B ^ m from Nat.pow_add ..]
    rcases Nat.eq_zero_or_pos Y with h0 | h0
    · subst h0; rw [Nat.mul_zero]; exact Nat.mul_pos (pow_pos' _) (pow_pos' m)
    · calc X % B ^ (i + 1) * Y < B ^ (i + 1) * Y := Nat.mul_lt_mul_of_pos_right (Nat.mod_lt _ (pow_pos' _)) h0
        _ ≤ B ^ (i + 1) * B ^ m := Nat.mul_le_mul_left _ (Nat.le_of_lt h)

end Go.Proofs.YtkfdnpbpebmhaaaGreatDoor.Num
namespace Go.Proofs.YtkfdnpbpebmhaaaGreatDoor.Spec
open Go Go.RowKit Sx Num

def I57i (ty : TypeId) (xs ys : List Int) (i k : Nat) : St :=
  ⟨[(0, .s (roW xs)), (1, .s (roW ys)), (5, .s (slW 16 0 (xs.length + ys.length) (xs.length + ys.length))), (6, .s (num i)), (7, .s (u32 (xs.getD i 0))), (8, .s (u64 ((o_Q (nv xs) (nv ys) i k / B ^ (i + k) : Nat)))), (17, .s (roW xs)), (18, .s (num xs.length)), (19, .s (num i)), (24, .s (roW ys)), (25, .s (num ys.length)), (26, .s (num k))],
   [(16, box32 ty (o_mix (xs.length + ys.length) (o_Q (nv xs) (nv ys) i k) (nv xs % B ^ i * nv ys) (i + k)))]⟩
def F57i (st : St) : Option (Ex × St × List Prop) :=
  match liv st.boxes 0, lk st.tmps 0, lk st.tmps 1, lk st.tmps 5, lk st.tmps 6, lk st.tmps 7, lk st.tmps 8, lk st.tmps 17, lk st.tmps 18, lk st.tmps 19, lk st.tmps 24, lk st.tmps 25, lk st.tmps 26, lk st.boxes 16 with
  | false, some (.s (.one (.row .u32 xs))), some (.s (.one (.row .u32 ys))), some (.s (.one (.sl 16 0 len cap))), some (.s (.one (.v (.int .i64 i)))), some (.s (.one (.v (.int .u32 a)))), some (.s (.one (.v (.int .u64 c)))), some (.s (.one (.row .u32 xs'))), some (.s (.one (.v (.int .i64 n)))), some (.s (.one (.v (.int .i64 i')))), some (.s (.one (.row .u32 ys'))), some (.s (.one (.v (.int .i64 m)))), some (.s (.one (.v (.int .i64 k)))), some ⟨ty, .ints .u32 zs, true⟩ =>
    some (.exit 2, I57i ty xs ys i.toNat ys.length, [0 ≤ i ∧ i < xs.length, len = xs.length + ys.length, cap = xs.length + ys.length, a = xs.getD i.toNat 0, c = 0, xs' = xs, n = xs.length, i' = i, ys' = ys, m = ys.length, k = 0, zs = dgs (xs.length + ys.length) (nv xs % B ^ i.toNat * nv ys), Words xs, Words ys, xs.length < 137438953472, ys.length < 137438953472])
  | _, _, _, _, _, _, _, _, _, _, _, _, _, _ => none
def L57i : Loops := fun k => bif Nat.beq k 7 then some F57i else none
def I57 (ty : TypeId) (xs ys : List Int) (i : Nat) : St :=
  ⟨[(0, .s (roW xs)), (1, .s (roW ys)), (5, .s (slW 16 0 (xs.length + ys.length) (xs.length + ys.length))), (17, .s (roW xs)), (18, .s (num xs.length)), (19, .s (num i))],
   [(16, box32 ty (dgs (xs.length + ys.length) (nv xs % B ^ i * nv ys)))]⟩
def F57 (st : St) : Option (Ex × St × List Prop) :=
  match liv st.boxes 0, lk st.tmps 0, lk st.tmps 1, lk st.tmps 5, lk st.tmps 17, lk st.tmps 18, lk st.tmps 19, lk st.boxes 16 with
  | false, some (.s (.one (.row .u32 xs))), some (.s (.one (.row .u32 ys))), some (.s (.one (.sl 16 0 len cap))), some (.s (.one (.row .u32 xs'))), some (.s (.one (.v (.int .i64 n)))), some (.s (.one (.v (.int .i64 i)))), some ⟨ty, .ints .u32 zs, true⟩ =>
    some (.exit 0, I57 ty xs ys xs.length, [i = 0, len = xs.length + ys.length, cap = xs.length + ys.length, xs' = xs, n = xs.length, zs = List.replicate (xs.length + ys.length) 0, Words xs, Words ys, xs.length < 137438953472, ys.length < 137438953472])
  | _, _, _, _, _, _, _, _ => none
def L57 : Loops := fun k => bif Nat.beq k 3 then some F57 else none

end Go.Proofs.YtkfdnpbpebmhaaaGreatDoor.Spec
section
set_option maxRecDepth 100000
namespace Go.Proofs.YtkfdnpbpebmhaaaGreatDoor.Spec
open Go Go.RowKit Sx Num

theorem loop57ia (ty : TypeId) (xs ys : List Int) (i k : Nat) : codeV Tryz.prog (lk E4) L0 (G1 []) Tryz.f57.ntmps 60 (loopC Tryz.f57 1) [0, 1, 5, 6, 7, 8, 17, 18, 19, 24, 25, 26] [16] (I57i ty xs ys i k) = (let q2 := (↑i : Int) + (↑k : Int); let q3 := List.length xs + List.length ys; let q1 := o_mix q3 (o_Q (nv xs) (nv ys) i k) (nv xs % B ^ i * nv ys) (i + k); let q4 := IntKind.wrap .i64 q2; let q5 := (0 : Int) ≤ IntKind.wrap .i64 q2 ∧ IntKind.wrap .i64 q2 < (↑q3 : Int); let q6 := SV.one (LV.v (Value.int .i64 (↑i : Int))); let q7 := (↑(List.length ys) : Int); let q8 := (0 : Nat) + Int.toNat q4 < List.length q1; let q9 := SV.one (LV.row EK.u32 ys); let q10 := SV.one (LV.row EK.u32 xs); let q11 := (0 : Nat) + Int.toNat q4; let q12 := List.getD xs i (0 : Int); let q0 := IntKind.wrap .u64 ((↑(o_Q (nv xs) (nv ys) i k / B ^ (i + k)) : Int) + IntKind.wrap .u64 (IntKind.wrap .u64 (IntKind.wrap .u64 q12 * IntKind.wrap .u64 (List.getD ys (Int.toNat (↑k : Int)) (0 : Int))) + IntKind.wrap .u64 (List.getD q1 q11 (0 : Int)))); some (Ex.normal, { tmps := [((0 : Nat), AV.s q10), ((1 : Nat), AV.s q9), ((5 : Nat), AV.s (SV.one (LV.sl (16 : Nat) (0 : Nat) q3 q3))), ((6 : Nat), AV.s q6), ((7 : Nat), AV.s (SV.one (LV.v (Value.int .u32 q12)))), ((8 : Nat), AV.s (SV.one (LV.v (Value.int .u64 (Int.fdiv q0 ((2 : Int) ^ min (Int.toNat (32 : Int)) (IntKind.bits IntKind.u64))))))), ((17 : Nat), AV.s q10), ((18 : Nat), AV.s (SV.one (LV.v (Value.int .i64 (↑(List.length xs) : Int))))), ((19 : Nat), AV.s q6), ((24 : Nat), AV.s q9), ((25 : Nat), AV.s (SV.one (LV.v (Value.int .i64 q7)))), ((26 : Nat), AV.s (SV.one (LV.v (Value.int .i64 (IntKind.wrap .i64 ((↑k : Int) + (1 : Int)))))))], boxes := [((16 : Nat), { ty := ty, bc := BC.ints EK.u32 (List.set q1 q11 (IntKind.wrap .u32 q0)), mut_ := true })] }, [decide ((↑k : Int) < q7) = true, (0 : Int) ≤ (↑k : Int) ∧ (↑k : Int) < q7, q5, q8, q5, q8, (0 : Int) ≤ (32 : Int)])) := by kernel_rfl
theorem loop57ib (ty : TypeId) (xs ys : List Int) (i k : Nat) : codeV Tryz.prog (lk E4) L0 (G1 [27]) Tryz.f57.ntmps 60 (loopC Tryz.f57 1) [0, 1, 5, 6, 7, 8, 17, 18, 19, 24, 25, 26] [16] (I57i ty xs ys i k) = (let q0 := List.length xs + List.length ys; let q1 := SV.one (LV.v (Value.int .i64 (↑i : Int))); let q2 := SV.one (LV.row EK.u32 xs); let q3 := SV.one (LV.row EK.u32 ys); let q4 := (↑(List.length ys) : Int); some (Ex.exit (2 : Nat), { tmps := [((0 : Nat), AV.s q2), ((1 : Nat), AV.s q3), ((5 : Nat), AV.s (SV.one (LV.sl (16 : Nat) (0 : Nat) q0 q0))), ((6 : Nat), AV.s q1), ((7 : Nat), AV.s (SV.one (LV.v (Value.int .u32 (List.getD xs i (0 : Int)))))), ((8 : Nat), AV.s (SV.one (LV.v (Value.int .u64 (↑(o_Q (nv xs) (nv ys) i k / (4294967296 : Nat) ^ (i + k)) : Int))))), ((17 : Nat), AV.s q2), ((18 : Nat), AV.s (SV.one (LV.v (Value.int .i64 (↑(List.length xs) : Int))))), ((19 : Nat), AV.s q1), ((24 : Nat), AV.s q3), ((25 : Nat), AV.s (SV.one (LV.v (Value.int .i64 q4)))), ((26 : Nat), AV.s (SV.one (LV.v (Value.int .i64 (↑k : Int)))))], boxes := [((16 : Nat), { ty := ty, bc := BC.ints EK.u32 (o_mix q0 (o_Q (nv xs) (nv ys) i k) (nv xs % B ^ i * nv ys) (i + k)), mut_ := true })] }, [decide ((↑k : Int) < q4) = false])) := by kernel_rfl
theorem loop57a (ty : TypeId) (xs ys : List Int) (i : Nat) : codeV Tryz.prog (lk E4) L57i (G1 []) Tryz.f57.ntmps 60 (loopC Tryz.f57 0) [0, 1, 5, 17, 18, 19] [16] (I57 ty xs ys i) = (let q0 := List.length xs + List.length ys; let q3 := (↑(List.length xs) : Int); let q4 := List.length xs + List.length ys = List.length xs + List.length ys; let q5 := (↑(List.length ys) : Int); let q6 := nv xs % B ^ Int.toNat (↑i : Int) * nv ys; let q7 := (0 : Int) ≤ (↑i : Int) ∧ (↑i : Int) < q3; let q8 := Int.toNat (↑i : Int) + List.length ys; let q2 := o_mix q0 (o_Q (nv xs) (nv ys) (Int.toNat (↑i : Int)) (List.length ys)) q6 q8; let q9 := (↑(Int.toNat (↑i : Int)) : Int); let q1 := q9 + q5; let q10 := IntKind.wrap .i64 q1; let q11 := SV.one (LV.row EK.u32 xs); some (Ex.normal, { tmps := [((0 : Nat), AV.s q11), ((1 : Nat), AV.s (SV.one (LV.row EK.u32 ys))), ((5 : Nat), AV.s (SV.one (LV.sl (16 : Nat) (0 : Nat) q0 q0))), ((17 : Nat), AV.s q11), ((18 : Nat), AV.s (SV.one (LV.v (Value.int .i64 q3)))), ((19 : Nat), AV.s (SV.one (LV.v (Value.int .i64 (IntKind.wrap .i64 (q9 + (1 : Int)))))))], boxes := [((16 : Nat), { ty := ty, bc := BC.ints EK.u32 (List.set q2 ((0 : Nat) + Int.toNat q10) (IntKind.wrap .u32 (↑(o_Q (nv xs) (nv ys) (Int.toNat (↑i : Int)) (List.length ys) / B ^ q8) : Int))), mut_ := true })] }, [decide ((↑i : Int) < q3) = true, q7, q7, q4, q4, List.getD xs (Int.toNat (↑i : Int)) (0 : Int) = List.getD xs (Int.toNat (↑i : Int)) (0 : Int), (0 : Int) = (0 : Int), xs = xs, q3 = q3, (↑i : Int) = (↑i : Int), ys = ys, q5 = q5, (0 : Int) = (0 : Int), dgs q0 (nv xs % B ^ i * nv ys) = dgs q0 q6, Words xs, Words ys, List.length xs < (137438953472 : Nat), List.length ys < (137438953472 : Nat), (0 : Int) ≤ IntKind.wrap .i64 q1 ∧ IntKind.wrap .i64 q1 < (↑q0 : Int), (0 : Nat) + Int.toNat q10 < List.length q2])) := by kernel_rfl
theorem loop57b (ty : TypeId) (xs ys : List Int) (i : Nat) : codeV Tryz.prog (lk E4) L57i (G1 [20]) Tryz.f57.ntmps 60 (loopC Tryz.f57 0) [0, 1, 5, 17, 18, 19] [16] (I57 ty xs ys i) = (let q0 := List.length xs + List.length ys; let q1 := SV.one (LV.row EK.u32 xs); let q2 := (↑(List.length xs) : Int); some (Ex.exit (0 : Nat), { tmps := [((0 : Nat), AV.s q1), ((1 : Nat), AV.s (SV.one (LV.row EK.u32 ys))), ((5 : Nat), AV.s (SV.one (LV.sl (16 : Nat) (0 : Nat) q0 q0))), ((17 : Nat), AV.s q1), ((18 : Nat), AV.s (SV.one (LV.v (Value.int .i64 q2)))), ((19 : Nat), AV.s (SV.one (LV.v (Value.int .i64 (↑i : Int)))))], boxes := [((16 : Nat), { ty := ty, bc := BC.ints EK.u32 (dgs q0 (nv xs % B ^ i * nv ys)), mut_ := true })] }, [decide ((↑i : Int) < q2) = false])) := by kernel_rfl
theorem run57 (xs ys : List Int) : fnEx Tryz.prog (lk E4) L57 (G1 []) 60 Tryz.f57 [roW xs, roW ys] = (let q2 := List.length xs + List.length ys; let q4 := (↑(List.length xs) : Int); let q0 := q4 + (↑(List.length ys) : Int); let q5 := dgs q2 (nv xs % B ^ List.length xs * nv ys); let q1 := List.take q2 (List.drop (0 : Nat) q5); let q6 := IntKind.wrap .i64 q0; let q3 := Int.toNat q6 = List.length xs + List.length ys; some (AV.s (SV.one (LV.row EK.u32 (enc (nv q1)))), [(0 : Int) ≤ IntKind.wrap .i64 q0 ∧ IntKind.wrap .i64 q0 ≤ IntKind.wrap .i64 q0 ∧ IntKind.wrap .i64 q0 ≤ (1099511627776 : Int), (0 : Int) = (0 : Int), q3, q3, xs = xs, q4 = q4, List.replicate (Int.toNat q6) (0 : Int) = List.replicate q2 (0 : Int), Words xs, Words ys, List.length xs < (137438953472 : Nat), List.length ys < (137438953472 : Nat), (0 : Nat) + q2 ≤ List.length q5 ∧ List.length xs + List.length ys ≤ List.length xs + List.length ys ∧ List.length xs + List.length ys ≤ (9223372036854775807 : Nat), Words q1, List.length q1 ≤ (274877906944 : Nat)])) := by kernel_rfl
end Go.Proofs.YtkfdnpbpebmhaaaGreatDoor.Spec
end
namespace Go.Proofs.YtkfdnpbpebmhaaaGreatDoor.Spec
open Go Go.RowKit Sx Num

/-- One step of a row of a product: the digit and what is carried. -/
theorem mul_step (X Y i k : Nat) : (o_Q X Y i k / B ^ (i + k) + dg X i * dg Y k + dg (X % B ^ i * Y) (i + k)) % B = dg (o_Q X Y i (k + 1)) (i + k) ∧ (o_Q X Y i k / B ^ (i + k) + dg X i * dg Y k + dg (X % B ^ i * Y) (i + k)) / B = o_Q X Y i (k + 1) / B ^ (i + (k + 1)) := by
  have e : o_Q X Y i (k + 1) / B ^ (i + k) = o_Q X Y i k / B ^ (i + k) + dg X i * dg Y k + dg (X % B ^ i * Y) (i + k) := by
    rw [Q_succ, Nat.add_mul_div_left _ _ (pow_pos' _)]; omega
  refine ⟨?_, ?_⟩
  · unfold dg at e ⊢
    rw [e]
  · rw [← e, ← Nat.add_assoc, Nat.pow_succ, Nat.div_div_eq_div_mul]
theorem mul_low (X Y i k : Nat) : dgs (i + k) (o_Q X Y i (k + 1)) = dgs (i + k) (o_Q X Y i k) := by rw [Q_succ, dgs_add_mul]
theorem mul_cy_lt (X Y i k : Nat) : o_Q X Y i k / B ^ (i + k) < B := by
  have h1 : X % B ^ i * Y % B ^ (i + k) < B ^ (i + k) := Nat.mod_lt _ (pow_pos' _)
  have h2 : dg X i + 1 ≤ B := dg_lt X i
  have h3 : Y % B ^ k + 1 ≤ B ^ k := Nat.mod_lt _ (pow_pos' k)
  rw [Nat.div_lt_iff_lt_mul (pow_pos' _)]
  unfold o_Q
  have h4 : dg X i * (Y % B ^ k) + B ^ k ≤ B * B ^ k := by
    have a1 : dg X i * (Y % B ^ k) ≤ dg X i * B ^ k := Nat.mul_le_mul_left _ (by omega)
    have a2 : (dg X i + 1) * B ^ k ≤ B * B ^ k := Nat.mul_le_mul_right _ h2
    rw [Nat.add_mul, Nat.one_mul] at a2
    omega
  have h5 : B ^ i * (dg X i * (Y % B ^ k) + B ^ k) ≤ B ^ i * (B * B ^ k) := Nat.mul_le_mul_left _ h4
  rw [Nat.mul_add, ← Nat.pow_add] at h5
  have h6 : B ^ i * (B * B ^ k) = B * B ^ (i + k) := by rw [Nat.pow_add, Nat.mul_left_comm]
  omega

theorem mul_wrap (c a b z : Nat) (hc : c < B) (ha : a < B) (hb : b < B) (hz : z < B) : IntKind.wrap IntKind.u64 ((c : Int) + IntKind.wrap IntKind.u64 (IntKind.wrap IntKind.u64 (IntKind.wrap IntKind.u64 (a : Int) * IntKind.wrap IntKind.u64 (b : Int)) + IntKind.wrap IntKind.u64 (z : Int))) = ((c + a * b + z : Nat) : Int) ∧ c + a * b + z < B * B := by
  have h1 : a * b ≤ 4294967295 * 4294967295 := Nat.mul_le_mul (by unfold B at ha; omega) (by unfold B at hb; omega)
  simp only [w64]
  unfold B at *
  rw [show (a : Int) % 18446744073709551616 = a by omega, show (b : Int) % 18446744073709551616 = b by omega, show (z : Int) % 18446744073709551616 = z by omega, ← Int.natCast_mul]
  obtain ⟨q, hq⟩ : ∃ q, q = a * b := ⟨_, rfl⟩
  rw [← hq] at h1 ⊢
  omega

def V57i (x : TypeId × List Int × List Int × Nat × Nat) : Prop := Words x.2.1 ∧ Words x.2.2.1 ∧ x.2.1.length < 137438953472 ∧ x.2.2.1.length < 137438953472 ∧ x.2.2.2.1 < x.2.1.length ∧ x.2.2.2.2 ≤ x.2.2.1.length
theorem sub57i {st : St} {e : Ex} {s : St} {obs : List Prop} (h : F57i st = some (e, s, obs)) (hob : AllP obs) : ∃ x : TypeId × List Int × List Int × Nat × Nat, V57i x ∧ SubS st (I57i x.1 x.2.1 x.2.2.1 x.2.2.2.1 x.2.2.2.2) ∧ e = .exit 2 ∧ s = I57i x.1 x.2.1 x.2.2.1 x.2.2.2.1 x.2.2.1.length := by
  unfold F57i at h
  split at h
  · rename_i xs ys len cap i a c xs' n i' ys' m k ty zs hz h1 h2 h3 h4 h5 h6 h7 h8 h9 h10 h11 h12 h13
    simp only [Option.some.injEq, Prod.mk.injEq] at h
    obtain ⟨rfl, rfl, rfl⟩ := h
    obtain ⟨⟨hi0, hi⟩, rfl, rfl, rfl, rfl, rfl, rfl, rfl, rfl, rfl, rfl, rfl, hw, hw', hl, hl', _⟩ := hob
    obtain ⟨i, rfl⟩ := Int.eq_ofNat_of_zero_le hi0
    simp only [Int.toNat_natCast] at h4 h5 h9 h13
    have hQ0 : o_Q (nv xs') (nv ys') i 0 = nv xs' % B ^ i * nv ys' % B ^ i := by unfold o_Q; simp [Nat.mod_one]
    have hc0 : o_Q (nv xs') (nv ys') i 0 / B ^ (i + 0) = 0 := by rw [hQ0]; exact Nat.div_eq_of_lt (Nat.mod_lt _ (pow_pos' i))
    have hm0 : o_mix (xs'.length + ys'.length) (o_Q (nv xs') (nv ys') i 0) (nv xs' % B ^ i * nv ys') (i + 0) = dgs (xs'.length + ys'.length) (nv xs' % B ^ i * nv ys') := by
      have e1 : dgs i (nv xs' % B ^ i * nv ys' % B ^ i) = dgs i (nv xs' % B ^ i * nv ys') := by
        have := Nat.mod_add_div (nv xs' % B ^ i * nv ys') (B ^ i)
        conv => rhs; rw [← this, dgs_add_mul]
      rw [hQ0, ← mix_self i (show i ≤ xs'.length + ys'.length by omega)]
      unfold o_mix
      rw [Nat.add_zero, e1]
    refine ⟨(ty, xs', ys', i, 0), ⟨hw, hw', hl, hl', by show i < xs'.length; omega, Nat.zero_le _⟩, ⟨?_, ?_, ?_⟩, rfl, rfl⟩
    · intro p hp
      simp only [I57i, List.mem_cons, List.not_mem_nil, or_false] at hp
      rw [hc0] at hp
      rcases hp with rfl | rfl | rfl | rfl | rfl | rfl | rfl | rfl | rfl | rfl | rfl | rfl <;> exact ⟨by assumption, rfl⟩
    · intro p hp
      simp only [I57i, List.mem_cons, List.not_mem_nil, or_false] at hp
      rw [hm0] at hp
      subst hp
      exact ⟨by assumption, rfl⟩
    · rw [hz]; intro h; cases h
  · cases h

theorem lo57i : LoopOk Tryz.prog Tryz.f57.ntmps L57i (loopC Tryz.f57 1) := by
  refine loop_ok (k := 7) (f := F57i) (α := TypeId × List Int × List Int × Nat × Nat) (by kernel_rfl) rfl (fun x => I57i x.1 x.2.1 x.2.2.1 x.2.2.2.1 x.2.2.2.2) (fun x => I57i x.1 x.2.1 x.2.2.1 x.2.2.2.1 x.2.2.1.length) V57i (fun x => x.2.2.1.length - x.2.2.2.2) (.exit 2) (by simp) (fun st e s obs h hob => sub57i h hob) ?_
  rintro ⟨ty, xs, ys, i, k⟩ ⟨hw, hw', hl, hl', hi, hk⟩
  simp only at hw hw' hl hl' hi hk ⊢
  have hno : ∀ d ∈ loopsOf (loopC Tryz.f57 1), LoopOk Tryz.prog Tryz.f57.ntmps L0 d := by rw [show loopsOf (loopC Tryz.f57 1) = [] by kernel_rfl]; intro d hd; cases hd
  by_cases hlt : k < ys.length
  · have w1 : IntKind.wrap IntKind.i64 ((i : Int) + (k : Int)) = ((i + k : Nat) : Int) := by rw [wi64 _ (by omega) (by omega)]; omega
    have w3 : IntKind.wrap IntKind.i64 ((k : Int) + 1) = ((k + 1 : Nat) : Int) := by rw [wi64 _ (by omega) (by omega)]; omega
    have hlen : (o_mix (xs.length + ys.length) (o_Q (nv xs) (nv ys) i k) (nv xs % B ^ i * nv ys) (i + k)).length = xs.length + ys.length := mix_length (by omega)
    have hget := mix_get (n := xs.length + ys.length) (a := o_Q (nv xs) (nv ys) i k) (b := nv xs % B ^ i * nv ys) (j := i + k) (by omega)
    obtain ⟨hT, hTb⟩ := mul_wrap (o_Q (nv xs) (nv ys) i k / B ^ (i + k)) (dg (nv xs) i) (dg (nv ys) k) (dg (nv xs % B ^ i * nv ys) (i + k)) (mul_cy_lt _ _ _ _) (dg_lt _ _) (dg_lt _ _) (dg_lt _ _)
    obtain ⟨m1, m2⟩ := mul_step (nv xs) (nv ys) i k
    refine (codeV_sound hmix E4ok.hS hno (loop57ia ty xs ys i k) ?_).mono ?_
    · simp only [AllP, w1, Int.toNat_natCast, Nat.zero_add, hlen]; simp; omega
    · rintro e s ⟨rfl, hs⟩
      refine .inl ⟨rfl, (ty, xs, ys, i, k + 1), ⟨hw, hw', hl, hl', hi, by show k + 1 ≤ ys.length; omega⟩, by simp only; omega, ?_, rfl⟩
      simp only [w1, w3, Int.toNat_natCast, Nat.zero_add, hget, nv_getD hw, nv_getD hw', hT] at hs
      have hd : IntKind.wrap IntKind.u32 ((o_Q (nv xs) (nv ys) i k / B ^ (i + k) + dg (nv xs) i * dg (nv ys) k + dg (nv xs % B ^ i * nv ys) (i + k) : Nat) : Int) = ((dg (o_Q (nv xs) (nv ys) i (k + 1)) (i + k) : Nat) : Int) := by
        rw [← m1, w32]; unfold B; omega
      have hc : Int.fdiv ((o_Q (nv xs) (nv ys) i k / B ^ (i + k) + dg (nv xs) i * dg (nv ys) k + dg (nv xs % B ^ i * nv ys) (i + k) : Nat) : Int) ((2 : Int) ^ min (Int.toNat (32 : Int)) (IntKind.bits IntKind.u64)) = ((o_Q (nv xs) (nv ys) i (k + 1) / B ^ (i + (k + 1)) : Nat) : Int) := by
        rw [← m2, show ((2 : Int) ^ min (Int.toNat 32) (IntKind.bits IntKind.u64)) = ((B : Nat) : Int) from by decide, Int.fdiv_eq_ediv_of_nonneg _ (by decide), Int.natCast_ediv]
      rw [hd, hc, mix_set (by omega) _ (mul_low _ _ _ _) rfl] at hs
      unfold I57i
      rw [nv_getD hw]
      exact hs
  · have : k = ys.length := by omega
    subst this
    refine (codeV_sound hmix E4ok.hS hno (loop57ib ty xs ys i _) ?_).mono ?_
    · simp [AllP]
    · rintro e s ⟨rfl, hs⟩
      exact .inr ⟨rfl, hs⟩

theorem dg_big {s k j : Nat} (h : s < B ^ k) (hj : k ≤ j) : dg s j = 0 := by
  unfold dg
  rw [Nat.div_eq_of_lt (Nat.lt_of_lt_of_le h (Nat.pow_le_pow_right (by decide) hj))]
  rfl
theorem dgs_zero (n : Nat) : dgs n 0 = List.replicate n 0 := by
  apply List.ext_getElem
  · simp [dgs]
  · intro j h1 h2
    simp [dgs, dg]
theorem mix_big {n a b j : Nat} (hj : j ≤ n) (ha : a < B ^ j) (hb : b < B ^ j) : o_mix n a b j = dgs n a := by
  rw [← mix_self j hj (a := a)]
  unfold o_mix
  congr 1
  apply List.ext_getElem
  · simp [dgs]
  · intro q h1 h2
    simp only [List.getElem_drop, dgs, List.getElem_map, List.getElem_range]
    rw [dg_big ha (Nat.le_add_right _ _), dg_big hb (Nat.le_add_right _ _)]
theorem P_lt (X Y i m : Nat) (h : Y < B ^ m) : X % B ^ i * Y < B ^ (i + m) := by
  rw [Nat.pow_add]
  rcases Nat.eq_zero_or_pos Y with h0 | h0
  · subst h0; rw [Nat.mul_zero]; exact Nat.mul_pos (pow_pos' i) (pow_pos' m)
  · exact Nat.lt_of_lt_of_le (Nat.mul_lt_mul_of_pos_right (Nat.mod_lt _ (pow_pos' i)) h0) (Nat.mul_le_mul_left _ (Nat.le_of_lt h))
def V57 (x : TypeId × List Int × List Int × Nat) : Prop := Words x.2.1 ∧ Words x.2.2.1 ∧ x.2.1.length < 137438953472 ∧ x.2.2.1.length < 137438953472 ∧ x.2.2.2 ≤ x.2.1.length
theorem sub57 {st : St} {e : Ex} {s : St} {obs : List Prop} (h : F57 st = some (e, s, obs)) (hob : AllP obs) : ∃ x : TypeId × List Int × List Int × Nat, V57 x ∧ SubS st (I57 x.1 x.2.1 x.2.2.1 x.2.2.2) ∧ e = .exit 0 ∧ s = I57 x.1 x.2.1 x.2.2.1 x.2.1.length := by
  unfold F57 at h
  split at h
  · rename_i xs ys len cap xs' n i ty zs hz h1 h2 h3 h4 h5 h6 h7
    simp only [Option.some.injEq, Prod.mk.injEq] at h
    obtain ⟨rfl, rfl, rfl⟩ := h
    obtain ⟨rfl, rfl, rfl, rfl, rfl, rfl, hw, hw', hl, hl', _⟩ := hob
    refine ⟨(ty, xs', ys, 0), ⟨hw, hw', hl, hl', Nat.zero_le _⟩, ⟨?_, ?_, ?_⟩, rfl, rfl⟩
    · intro p hp
      simp only [I57, List.mem_cons, List.not_mem_nil, or_false] at hp
      rcases hp with rfl | rfl | rfl | rfl | rfl | rfl <;> exact ⟨by assumption, rfl⟩
    · intro p hp
      simp only [I57, List.mem_cons, List.not_mem_nil, or_false] at hp
      have e0 : dgs (xs'.length + ys.length) (nv xs' % B ^ 0 * nv ys) = List.replicate (xs'.length + ys.length) 0 := by
        rw [Nat.pow_zero, Nat.mod_one, Nat.zero_mul, dgs_zero]
      rw [e0] at hp
      subst hp
      exact ⟨by assumption, rfl⟩
    · rw [hz]; intro h; cases h
  · cases h
theorem lo57 : ∀ c ∈ loopsF Tryz.f57, LoopOk Tryz.prog Tryz.f57.ntmps L57 c := by
  rw [show loopsF Tryz.f57 = [loopC Tryz.f57 0, loopC Tryz.f57 1] by kernel_rfl]
  intro c hc
  simp only [List.mem_cons, List.not_mem_nil, or_false] at hc
  rcases hc with rfl | rfl
  · refine loop_ok (k := 3) (f := F57) (α := TypeId × List Int × List Int × Nat) (by kernel_rfl) rfl (fun x => I57 x.1 x.2.1 x.2.2.1 x.2.2.2) (fun x => I57 x.1 x.2.1 x.2.2.1 x.2.1.length) V57 (fun x => x.2.1.length - x.2.2.2) (.exit 0) (by simp) (fun st e s obs h hob => sub57 h hob) ?_
    rintro ⟨ty, xs, ys, i⟩ ⟨hw, hw', hl, hl', hi⟩
    simp only at hw hw' hl hl' hi ⊢
    have hin : ∀ d ∈ loopsOf (loopC Tryz.f57 0), LoopOk Tryz.prog Tryz.f57.ntmps L57i d := by
      rw [show loopsOf (loopC Tryz.f57 0) = [loopC Tryz.f57 1] by kernel_rfl]
      intro d hd
      rw [List.mem_singleton] at hd
      subst hd
      exact lo57i
    by_cases hlt : i < xs.length
    · have w1 : IntKind.wrap IntKind.i64 ((i : Int) + (ys.length : Int)) = ((i + ys.length : Nat) : Int) := by rw [wi64 _ (by omega) (by omega)]; omega
      have w3 : IntKind.wrap IntKind.i64 ((i : Int) + 1) = ((i + 1 : Nat) : Int) := by rw [wi64 _ (by omega) (by omega)]; omega
      have hlen : (o_mix (xs.length + ys.length) (o_Q (nv xs) (nv ys) i ys.length) (nv xs % B ^ i * nv ys) (i + ys.length)).length = xs.length + ys.length := mix_length (by omega)
      obtain ⟨q1, q2⟩ := Q_end (nv xs) (nv ys) i ys.length (nv_lt hw')
      have hcl := mul_cy_lt (nv xs) (nv ys) i ys.length
      refine (codeV_sound hmix E4ok.hS hin (loop57a ty xs ys i) ?_).mono ?_
      · simp only [AllP, w1, Int.toNat_natCast, Nat.zero_add, hlen]; simp [hw, hw', hl, hl']; omega
      · rintro e s ⟨rfl, hs⟩
        refine .inl ⟨rfl, (ty, xs, ys, i + 1), ⟨hw, hw', hl, hl', by show i + 1 ≤ xs.length; omega⟩, by simp only; omega, ?_, rfl⟩
        simp only [w1, w3, Int.toNat_natCast, Nat.zero_add] at hs
        have hd : IntKind.wrap IntKind.u32 ((o_Q (nv xs) (nv ys) i ys.length / B ^ (i + ys.length) : Nat) : Int) = ((o_Q (nv xs) (nv ys) i ys.length / B ^ (i + ys.length) : Nat) : Int) := by
          rw [w32]
          generalize o_Q (nv xs) (nv ys) i ys.length / B ^ (i + ys.length) = q at *
          unfold B at hcl
          omega
        rw [hd, mix_set (by omega) _ rfl (show _ = dg (o_Q (nv xs) (nv ys) i ys.length) (i + ys.length) from (Nat.mod_eq_of_lt hcl).symm)] at hs
        have hfin : o_mix (xs.length + ys.length) (o_Q (nv xs) (nv ys) i ys.length) (nv xs % B ^ i * nv ys) (i + ys.length + 1) = dgs (xs.length + ys.length) (nv xs % B ^ (i + 1) * nv ys) := by
          have e1 : i + ys.length + 1 = i + 1 + ys.length := by omega
          rw [q1, e1]
          exact mix_big (by omega) q2 (Nat.lt_of_lt_of_le (P_lt _ _ _ _ (nv_lt hw')) (Nat.pow_le_pow_right (by decide) (by omega)))
        rw [hfin] at hs
        exact hs
    · have : i = xs.length := by omega
      subst this
      refine (codeV_sound hmix E4ok.hS hin (loop57b ty xs ys _) ?_).mono ?_
      · simp [AllP]
      · rintro e s ⟨rfl, hs⟩
        exact .inr ⟨rfl, hs⟩
  · intro f hf
    rw [show lkey (loopC Tryz.f57 1) = 7 by kernel_rfl] at hf
    cases hf

def spMulN : Sp
  | [.one (.row .u32 xs), .one (.row .u32 ys)] => some (.s (roW (enc (nv xs * nv ys))), [Words xs, Words ys, xs.length < 137438953472, ys.length < 137438953472])
  | _ => none
theorem con57 : Con Tryz.prog 57 spMulN := by
  refine con_run (L := L57) (fn := Tryz.f57) hmix E4ok.hS lo57 (by kernel_rfl) (fun _ => by kernel_rfl) ?_
  intro avs r ps hsp hps
  unfold spMulN at hsp
  split at hsp
  · rename_i xs ys
    simp only [Option.some.injEq, Prod.mk.injEq] at hsp
    obtain ⟨rfl, rfl⟩ := hsp
    obtain ⟨hw, hw', hl, hl', _⟩ := hps
    have hwr : IntKind.wrap IntKind.i64 ((xs.length : Int) + (ys.length : Int)) = ((xs.length + ys.length : Nat) : Int) := by rw [wi64 _ (by omega) (by omega)]; omega
    have hs : nv xs * nv ys < B ^ (xs.length + ys.length) := by
      have := P_lt (nv xs) (nv ys) xs.length ys.length (nv_lt hw')
      rwa [Nat.mod_eq_of_lt (nv_lt hw)] at this
    have ht : List.take (xs.length + ys.length) (dgs (xs.length + ys.length) (nv xs * nv ys)) = dgs (xs.length + ys.length) (nv xs * nv ys) := List.take_of_length_le (by rw [dgs_length]; exact Nat.le_refl _)
    refine ⟨rfl, _, _, _, _, run57 xs ys, ?_, ?_⟩
    · simp only [List.drop_zero, Nat.mod_eq_of_lt (nv_lt hw), ht, nv_dgs, Nat.mod_eq_of_lt hs]
      rfl
    · simp only [AllP, hwr, Int.toNat_natCast, List.drop_zero, Nat.mod_eq_of_lt (nv_lt hw), ht, dgs_length]
      simp [hw, hw', words_dgs, hl, hl']
      omega
  · cases hsp

end Go.Proofs.YtkfdnpbpebmhaaaGreatDoor.Spec
namespace Go.Proofs.YtkfdnpbpebmhaaaGreatDoor.Spec
open Go Go.RowKit Sx Num

def I70i (ty : TypeId) (xs ys : List Int) (i k : Nat) : St :=
  ⟨[(0, .s (roW xs)), (1, .s (roW ys)), (5, .s (slW 15 0 (xs.length + ys.length) (xs.length + ys.length))), (6, .s (num i)), (7, .s (u64 ((o_Q (nv xs) (nv ys) i k / B ^ (i + k) : Nat)))), (8, .s (num k))],
   [(15, box32 ty (o_mix (xs.length + ys.length) (o_Q (nv xs) (nv ys) i k) (nv xs % B ^ i * nv ys) (i + k)))]⟩
def F70i (st : St) : Option (Ex × St × List Prop) :=
  match liv st.boxes 0, lk st.tmps 0, lk st.tmps 1, lk st.tmps 5, lk st.tmps 6, lk st.tmps 7, lk st.tmps 8, lk st.boxes 15 with
  | false, some (.s (.one (.row .u32 xs))), some (.s (.one (.row .u32 ys))), some (.s (.one (.sl 15 0 len cap))), some (.s (.one (.v (.int .i64 i)))), some (.s (.one (.v (.int .u64 c)))), some (.s (.one (.v (.int .i64 k)))), some ⟨ty, .ints .u32 zs, true⟩ =>
    some (.exit 2, I70i ty xs ys i.toNat ys.length, [0 ≤ i ∧ i < xs.length, len = xs.length + ys.length, cap = xs.length + ys.length, c = 0, k = 0, zs = dgs (xs.length + ys.length) (nv xs % B ^ i.toNat * nv ys), Words xs, Words ys, xs.length < 137438953472, ys.length < 137438953472])
  | _, _, _, _, _, _, _, _ => none
def L70i : Loops := fun k => bif Nat.beq k 7 then some F70i else none
def I70 (ty : TypeId) (xs ys : List Int) (i : Nat) : St :=
  ⟨[(0, .s (roW xs)), (1, .s (roW ys)), (5, .s (slW 15 0 (xs.length + ys.length) (xs.length + ys.length))), (6, .s (num i))],
   [(15, box32 ty (dgs (xs.length + ys.length) (nv xs % B ^ i * nv ys)))]⟩
def F70 (st : St) : Option (Ex × St × List Prop) :=
  match liv st.boxes 0, lk st.tmps 0, lk st.tmps 1, lk st.tmps 5, lk st.tmps 6, lk st.boxes 15 with
  | false, some (.s (.one (.row .u32 xs))), some (.s (.one (.row .u32 ys))), some (.s (.one (.sl 15 0 len cap))), some (.s (.one (.v (.int .i64 i)))), some ⟨ty, .ints .u32 zs, true⟩ =>
    some (.exit 0, I70 ty xs ys xs.length, [i = 0, len = xs.length + ys.length, cap = xs.length + ys.length, zs = List.replicate (xs.length + ys.length) 0, Words xs, Words ys, xs.length < 137438953472, ys.length < 137438953472])
  | _, _, _, _, _, _ => none
def L70 : Loops := fun k => bif Nat.beq k 3 then some F70 else none

end Go.Proofs.YtkfdnpbpebmhaaaGreatDoor.Spec
section
set_option maxRecDepth 100000
namespace Go.Proofs.YtkfdnpbpebmhaaaGreatDoor.Spec
open Go Go.RowKit Sx Num

theorem loop70ia (ty : TypeId) (xs ys : List Int) (i k : Nat) : codeV Tryz.prog (lk E4) L0 (G1 []) Tryz.f70.ntmps 60 (loopC Tryz.f70 1) [0, 1, 5, 6, 7, 8] [15] (I70i ty xs ys i k) = (let q2 := (↑i : Int) + (↑k : Int); let q3 := List.length xs + List.length ys; let q1 := o_mix q3 (o_Q (nv xs) (nv ys) i k) (nv xs % B ^ i * nv ys) (i + k); let q4 := (0 : Int) ≤ IntKind.wrap .i64 q2 ∧ IntKind.wrap .i64 q2 < (↑q3 : Int); let q5 := IntKind.wrap .i64 q2; let q6 := (0 : Nat) + Int.toNat q5 < List.length q1; let q7 := ¬(4294967296 : Int) = (0 : Int); let q8 := (0 : Nat) + Int.toNat q5; let q0 := IntKind.wrap .u64 (IntKind.wrap .u64 (IntKind.wrap .u64 (IntKind.wrap .u64 (List.getD xs (Int.toNat (↑i : Int)) (0 : Int)) * IntKind.wrap .u64 (List.getD ys (Int.toNat (↑k : Int)) (0 : Int))) + IntKind.wrap .u64 (List.getD q1 q8 (0 : Int))) + (↑(o_Q (nv xs) (nv ys) i k / B ^ (i + k)) : Int)); let q9 := (↑(List.length ys) : Int); some (Ex.normal, { tmps := [((0 : Nat), AV.s (SV.one (LV.row EK.u32 xs))), ((1 : Nat), AV.s (SV.one (LV.row EK.u32 ys))), ((5 : Nat), AV.s (SV.one (LV.sl (15 : Nat) (0 : Nat) q3 q3))), ((6 : Nat), AV.s (SV.one (LV.v (Value.int .i64 (↑i : Int))))), ((7 : Nat), AV.s (SV.one (LV.v (Value.int .u64 (IntKind.wrap .u64 (Int.tdiv q0 (4294967296 : Int))))))), ((8 : Nat), AV.s (SV.one (LV.v (Value.int .i64 (IntKind.wrap .i64 ((↑k : Int) + (1 : Int)))))))], boxes := [((15 : Nat), { ty := ty, bc := BC.ints EK.u32 (List.set q1 q8 (IntKind.wrap .u32 (Int.tmod q0 (4294967296 : Int)))), mut_ := true })] }, [decide ((↑k : Int) < q9) = true, (0 : Int) ≤ (↑i : Int) ∧ (↑i : Int) < (↑(List.length xs) : Int), (0 : Int) ≤ (↑k : Int) ∧ (↑k : Int) < q9, q4, q6, q7, q4, q6, q7])) := by kernel_rfl
theorem loop70ib (ty : TypeId) (xs ys : List Int) (i k : Nat) : codeV Tryz.prog (lk E4) L0 (G1 [25]) Tryz.f70.ntmps 60 (loopC Tryz.f70 1) [0, 1, 5, 6, 7, 8] [15] (I70i ty xs ys i k) = (let q0 := List.length xs + List.length ys; some (Ex.exit (2 : Nat), { tmps := [((0 : Nat), AV.s (SV.one (LV.row EK.u32 xs))), ((1 : Nat), AV.s (SV.one (LV.row EK.u32 ys))), ((5 : Nat), AV.s (SV.one (LV.sl (15 : Nat) (0 : Nat) q0 q0))), ((6 : Nat), AV.s (SV.one (LV.v (Value.int .i64 (↑i : Int))))), ((7 : Nat), AV.s (SV.one (LV.v (Value.int .u64 (↑(o_Q (nv xs) (nv ys) i k / (4294967296 : Nat) ^ (i + k)) : Int))))), ((8 : Nat), AV.s (SV.one (LV.v (Value.int .i64 (↑k : Int)))))], boxes := [((15 : Nat), { ty := ty, bc := BC.ints EK.u32 (o_mix q0 (o_Q (nv xs) (nv ys) i k) (nv xs % B ^ i * nv ys) (i + k)), mut_ := true })] }, [decide ((↑k : Int) < (↑(List.length ys) : Int)) = false])) := by kernel_rfl
theorem loop70a (ty : TypeId) (xs ys : List Int) (i : Nat) : codeV Tryz.prog (lk E4) L70i (G1 []) Tryz.f70.ntmps 60 (loopC Tryz.f70 0) [0, 1, 5, 6] [15] (I70 ty xs ys i) = (let q0 := List.length xs + List.length ys; let q3 := List.length xs + List.length ys = List.length xs + List.length ys; let q4 := nv xs % B ^ Int.toNat (↑i : Int) * nv ys; let q5 := Int.toNat (↑i : Int) + List.length ys; let q2 := o_mix q0 (o_Q (nv xs) (nv ys) (Int.toNat (↑i : Int)) (List.length ys)) q4 q5; let q6 := (↑(Int.toNat (↑i : Int)) : Int); let q1 := q6 + (↑(List.length ys) : Int); let q7 := IntKind.wrap .i64 q1; let q8 := (↑(List.length xs) : Int); some (Ex.normal, { tmps := [((0 : Nat), AV.s (SV.one (LV.row EK.u32 xs))), ((1 : Nat), AV.s (SV.one (LV.row EK.u32 ys))), ((5 : Nat), AV.s (SV.one (LV.sl (15 : Nat) (0 : Nat) q0 q0))), ((6 : Nat), AV.s (SV.one (LV.v (Value.int .i64 (IntKind.wrap .i64 (q6 + (1 : Int)))))))], boxes := [((15 : Nat), { ty := ty, bc := BC.ints EK.u32 (List.set q2 ((0 : Nat) + Int.toNat q7) (IntKind.wrap .u32 (↑(o_Q (nv xs) (nv ys) (Int.toNat (↑i : Int)) (List.length ys) / B ^ q5) : Int))), mut_ := true })] }, [decide ((↑i : Int) < q8) = true, (0 : Int) ≤ (↑i : Int) ∧ (↑i : Int) < q8, q3, q3, (0 : Int) = (0 : Int), (0 : Int) = (0 : Int), dgs q0 (nv xs % B ^ i * nv ys) = dgs q0 q4, Words xs, Words ys, List.length xs < (137438953472 : Nat), List.length ys < (137438953472 : Nat), (0 : Int) ≤ IntKind.wrap .i64 q1 ∧ IntKind.wrap .i64 q1 < (↑q0 : Int), (0 : Nat) + Int.toNat q7 < List.length q2])) := by kernel_rfl
theorem loop70b (ty : TypeId) (xs ys : List Int) (i : Nat) : codeV Tryz.prog (lk E4) L70i (G1 [19]) Tryz.f70.ntmps 60 (loopC Tryz.f70 0) [0, 1, 5, 6] [15] (I70 ty xs ys i) = (let q0 := List.length xs + List.length ys; some (Ex.exit (0 : Nat), { tmps := [((0 : Nat), AV.s (SV.one (LV.row EK.u32 xs))), ((1 : Nat), AV.s (SV.one (LV.row EK.u32 ys))), ((5 : Nat), AV.s (SV.one (LV.sl (15 : Nat) (0 : Nat) q0 q0))), ((6 : Nat), AV.s (SV.one (LV.v (Value.int .i64 (↑i : Int)))))], boxes := [((15 : Nat), { ty := ty, bc := BC.ints EK.u32 (dgs q0 (nv xs % B ^ i * nv ys)), mut_ := true })] }, [decide ((↑i : Int) < (↑(List.length xs) : Int)) = false])) := by kernel_rfl
theorem run70 (xs ys : List Int) : fnEx Tryz.prog (lk E4) L70 (G1 []) 60 Tryz.f70 [roW xs, roW ys] = (let q0 := (↑(List.length xs) : Int) + (↑(List.length ys) : Int); let q2 := List.length xs + List.length ys; let q4 := dgs q2 (nv xs % B ^ List.length xs * nv ys); let q1 := List.take q2 (List.drop (0 : Nat) q4); let q5 := IntKind.wrap .i64 q0; let q3 := Int.toNat q5 = List.length xs + List.length ys; some (AV.s (SV.one (LV.row EK.u32 (enc (nv q1)))), [(0 : Int) ≤ IntKind.wrap .i64 q0 ∧ IntKind.wrap .i64 q0 ≤ IntKind.wrap .i64 q0 ∧ IntKind.wrap .i64 q0 ≤ (1099511627776 : Int), (0 : Int) = (0 : Int), q3, q3, List.replicate (Int.toNat q5) (0 : Int) = List.replicate q2 (0 : Int), Words xs, Words ys, List.length xs < (137438953472 : Nat), List.length ys < (137438953472 : Nat), (0 : Nat) + q2 ≤ List.length q4 ∧ List.length xs + List.length ys ≤ List.length xs + List.length ys ∧ List.length xs + List.length ys ≤ (9223372036854775807 : Nat), Words q1, List.length q1 ≤ (274877906944 : Nat)])) := by kernel_rfl
end Go.Proofs.YtkfdnpbpebmhaaaGreatDoor.Spec
end
namespace Go.Proofs.YtkfdnpbpebmhaaaGreatDoor.Spec
open Go Go.RowKit Sx Num

theorem mul_wrap2 (c a b z : Nat) (hc : c < B) (ha : a < B) (hb : b < B) (hz : z < B) : IntKind.wrap IntKind.u64 (IntKind.wrap IntKind.u64 (IntKind.wrap IntKind.u64 (IntKind.wrap IntKind.u64 (a : Int) * IntKind.wrap IntKind.u64 (b : Int)) + IntKind.wrap IntKind.u64 (z : Int)) + (c : Int)) = ((c + a * b + z : Nat) : Int) ∧ c + a * b + z < B * B := by
  have h1 : a * b ≤ 4294967295 * 4294967295 := Nat.mul_le_mul (by unfold B at ha; omega) (by unfold B at hb; omega)
  simp only [w64]
  unfold B at *
  rw [show (a : Int) % 18446744073709551616 = a by omega, show (b : Int) % 18446744073709551616 = b by omega, show (z : Int) % 18446744073709551616 = z by omega, ← Int.natCast_mul]
  obtain ⟨q, hq⟩ : ∃ q, q = a * b := ⟨_, rfl⟩
  rw [← hq] at h1 ⊢
  omega

theorem sub70i {st : St} {e : Ex} {s : St} {obs : List Prop} (h : F70i st = some (e, s, obs)) (hob : AllP obs) : ∃ x : TypeId × List Int × List Int × Nat × Nat, V57i x ∧ SubS st (I70i x.1 x.2.1 x.2.2.1 x.2.2.2.1 x.2.2.2.2) ∧ e = .exit 2 ∧ s = I70i x.1 x.2.1 x.2.2.1 x.2.2.2.1 x.2.2.1.length := by
  unfold F70i at h
  split at h
  · rename_i xs' ys' len cap i c k ty zs hz h1 h2 h3 h4 h6 h12 h13
    simp only [Option.some.injEq, Prod.mk.injEq] at h
    obtain ⟨rfl, rfl, rfl⟩ := h
    obtain ⟨⟨hi0, hi⟩, rfl, rfl, rfl, rfl, rfl, hw, hw', hl, hl', _⟩ := hob
    obtain ⟨i, rfl⟩ := Int.eq_ofNat_of_zero_le hi0
    simp only [Int.toNat_natCast] at h4 h13
    have hQ0 : o_Q (nv xs') (nv ys') i 0 = nv xs' % B ^ i * nv ys' % B ^ i := by unfold o_Q; simp [Nat.mod_one]
    have hc0 : o_Q (nv xs') (nv ys') i 0 / B ^ (i + 0) = 0 := by rw [hQ0]; exact Nat.div_eq_of_lt (Nat.mod_lt _ (pow_pos' i))
    have hm0 : o_mix (xs'.length + ys'.length) (o_Q (nv xs') (nv ys') i 0) (nv xs' % B ^ i * nv ys') (i + 0) = dgs (xs'.length + ys'.length) (nv xs' % B ^ i * nv ys') := by
      have e1 : dgs i (nv xs' % B ^ i * nv ys' % B ^ i) = dgs i (nv xs' % B ^ i * nv ys') := by
        have := Nat.mod_add_div (nv xs' % B ^ i * nv ys') (B ^ i)
        conv => rhs; rw [← this, dgs_add_mul]
      rw [hQ0, ← mix_self i (show i ≤ xs'.length + ys'.length by omega)]
      unfold o_mix
      rw [Nat.add_zero, e1]
    refine ⟨(ty, xs', ys', i, 0), ⟨hw, hw', hl, hl', by show i < xs'.length; omega, Nat.zero_le _⟩, ⟨?_, ?_, ?_⟩, rfl, rfl⟩
    · intro p hp
      simp only [I70i, List.mem_cons, List.not_mem_nil, or_false] at hp
      rw [hc0] at hp
      rcases hp with rfl | rfl | rfl | rfl | rfl | rfl <;> exact ⟨by assumption, rfl⟩
    · intro p hp
      simp only [I70i, List.mem_cons, List.not_mem_nil, or_false] at hp
      rw [hm0] at hp
      subst hp
      exact ⟨by assumption, rfl⟩
    · rw [hz]; intro h; cases h
  · cases h
theorem lo70i : LoopOk Tryz.prog Tryz.f70.ntmps L70i (loopC Tryz.f70 1) := by
  refine loop_ok (k := 7) (f := F70i) (α := TypeId × List Int × List Int × Nat × Nat) (by kernel_rfl) rfl (fun x => I70i x.1 x.2.1 x.2.2.1 x.2.2.2.1 x.2.2.2.2) (fun x => I70i x.1 x.2.1 x.2.2.1 x.2.2.2.1 x.2.2.1.length) V57i (fun x => x.2.2.1.length - x.2.2.2.2) (.exit 2) (by simp) (fun st e s obs h hob => sub70i h hob) ?_
  rintro ⟨ty, xs, ys, i, k⟩ ⟨hw, hw', hl, hl', hi, hk⟩
  simp only at hw hw' hl hl' hi hk ⊢
  have hno : ∀ d ∈ loopsOf (loopC Tryz.f70 1), LoopOk Tryz.prog Tryz.f70.ntmps L0 d := by rw [show loopsOf (loopC Tryz.f70 1) = [] by kernel_rfl]; intro d hd; cases hd
  by_cases hlt : k < ys.length
  · have w1 : IntKind.wrap IntKind.i64 ((i : Int) + (k : Int)) = ((i + k : Nat) : Int) := by rw [wi64 _ (by omega) (by omega)]; omega
    have w3 : IntKind.wrap IntKind.i64 ((k : Int) + 1) = ((k + 1 : Nat) : Int) := by rw [wi64 _ (by omega) (by omega)]; omega
    have hlen : (o_mix (xs.length + ys.length) (o_Q (nv xs) (nv ys) i k) (nv xs % B ^ i * nv ys) (i + k)).length = xs.length + ys.length := mix_length (by omega)
    have hget := mix_get (n := xs.length + ys.length) (a := o_Q (nv xs) (nv ys) i k) (b := nv xs % B ^ i * nv ys) (j := i + k) (by omega)
    obtain ⟨hT, hTb⟩ := mul_wrap2 (o_Q (nv xs) (nv ys) i k / B ^ (i + k)) (dg (nv xs) i) (dg (nv ys) k) (dg (nv xs % B ^ i * nv ys) (i + k)) (mul_cy_lt _ _ _ _) (dg_lt _ _) (dg_lt _ _) (dg_lt _ _)
    obtain ⟨m1, m2⟩ := mul_step (nv xs) (nv ys) i k
    refine (codeV_sound hmix E4ok.hS hno (loop70ia ty xs ys i k) ?_).mono ?_
    · simp only [AllP, w1, Int.toNat_natCast, Nat.zero_add, hlen]; simp; omega
    · rintro e s ⟨rfl, hs⟩
      refine .inl ⟨rfl, (ty, xs, ys, i, k + 1), ⟨hw, hw', hl, hl', hi, by show k + 1 ≤ ys.length; omega⟩, by simp only; omega, ?_, rfl⟩
      simp only [w1, w3, Int.toNat_natCast, Nat.zero_add, hget, nv_getD hw, nv_getD hw', hT] at hs
      have hd : IntKind.wrap IntKind.u32 (Int.tmod ((o_Q (nv xs) (nv ys) i k / B ^ (i + k) + dg (nv xs) i * dg (nv ys) k + dg (nv xs % B ^ i * nv ys) (i + k) : Nat) : Int) 4294967296) = ((dg (o_Q (nv xs) (nv ys) i (k + 1)) (i + k) : Nat) : Int) := by
        rw [Int.tmod_eq_emod_of_nonneg (Int.natCast_nonneg _), ← m1, w32]; unfold B; omega
      have hc : IntKind.wrap IntKind.u64 (Int.tdiv ((o_Q (nv xs) (nv ys) i k / B ^ (i + k) + dg (nv xs) i * dg (nv ys) k + dg (nv xs % B ^ i * nv ys) (i + k) : Nat) : Int) 4294967296) = ((o_Q (nv xs) (nv ys) i (k + 1) / B ^ (i + (k + 1)) : Nat) : Int) := by
        rw [Int.tdiv_eq_ediv_of_nonneg (Int.natCast_nonneg _), ← m2, w64]
        generalize o_Q (nv xs) (nv ys) i k / B ^ (i + k) + dg (nv xs) i * dg (nv ys) k + dg (nv xs % B ^ i * nv ys) (i + k) = T at *
        unfold B at *
        omega
      rw [hd, hc, mix_set (by omega) _ (mul_low _ _ _ _) rfl] at hs
      exact hs
  · have : k = ys.length := by omega
    subst this
    refine (codeV_sound hmix E4ok.hS hno (loop70ib ty xs ys i _) ?_).mono ?_
    · simp [AllP]
    · rintro e s ⟨rfl, hs⟩
      exact .inr ⟨rfl, hs⟩

theorem sub70 {st : St} {e : Ex} {s : St} {obs : List Prop} (h : F70 st = some (e, s, obs)) (hob : AllP obs) : ∃ x : TypeId × List Int × List Int × Nat, V57 x ∧ SubS st (I70 x.1 x.2.1 x.2.2.1 x.2.2.2) ∧ e = .exit 0 ∧ s = I70 x.1 x.2.1 x.2.2.1 x.2.1.length := by
  unfold F70 at h
  split at h
  · rename_i xs' ys len cap i ty zs hz h1 h2 h3 h4 h7
    simp only [Option.some.injEq, Prod.mk.injEq] at h
    obtain ⟨rfl, rfl, rfl⟩ := h
    obtain ⟨rfl, rfl, rfl, rfl, hw, hw', hl, hl', _⟩ := hob
    refine ⟨(ty, xs', ys, 0), ⟨hw, hw', hl, hl', Nat.zero_le _⟩, ⟨?_, ?_, ?_⟩, rfl, rfl⟩
    · intro p hp
      simp only [I70, List.mem_cons, List.not_mem_nil, or_false] at hp
      rcases hp with rfl | rfl | rfl | rfl <;> exact ⟨by assumption, rfl⟩
    · intro p hp
      simp only [I70, List.mem_cons, List.not_mem_nil, or_false] at hp
      have e0 : dgs (xs'.length + ys.length) (nv xs' % B ^ 0 * nv ys) = List.replicate (xs'.length + ys.length) 0 := by
        rw [Nat.pow_zero, Nat.mod_one, Nat.zero_mul, dgs_zero]
      rw [e0] at hp
      subst hp
      exact ⟨by assumption, rfl⟩
    · rw [hz]; intro h; cases h
  · cases h
theorem lo70 : ∀ c ∈ loopsF Tryz.f70, LoopOk Tryz.prog Tryz.f70.ntmps L70 c := by
  rw [show loopsF Tryz.f70 = [loopC Tryz.f70 0, loopC Tryz.f70 1] by kernel_rfl]
  intro c hc
  simp only [List.mem_cons, List.not_mem_nil, or_false] at hc
  rcases hc with rfl | rfl
  · refine loop_ok (k := 3) (f := F70) (α := TypeId × List Int × List Int × Nat) (by kernel_rfl) rfl (fun x => I70 x.1 x.2.1 x.2.2.1 x.2.2.2) (fun x => I70 x.1 x.2.1 x.2.2.1 x.2.1.length) V57 (fun x => x.2.1.length - x.2.2.2) (.exit 0) (by simp) (fun st e s obs h hob => sub70 h hob) ?_
    rintro ⟨ty, xs, ys, i⟩ ⟨hw, hw', hl, hl', hi⟩
    simp only at hw hw' hl hl' hi ⊢
    have hin : ∀ d ∈ loopsOf (loopC Tryz.f70 0), LoopOk Tryz.prog Tryz.f70.ntmps L70i d := by
      rw [show loopsOf (loopC Tryz.f70 0) = [loopC Tryz.f70 1] by kernel_rfl]
      intro d hd
      rw [List.mem_singleton] at hd
      subst hd
      exact lo70i
    by_cases hlt : i < xs.length
    · have w1 : IntKind.wrap IntKind.i64 ((i : Int) + (ys.length : Int)) = ((i + ys.length : Nat) : Int) := by rw [wi64 _ (by omega) (by omega)]; omega
      have w3 : IntKind.wrap IntKind.i64 ((i : Int) + 1) = ((i + 1 : Nat) : Int) := by rw [wi64 _ (by omega) (by omega)]; omega
      have hlen : (o_mix (xs.length + ys.length) (o_Q (nv xs) (nv ys) i ys.length) (nv xs % B ^ i * nv ys) (i + ys.length)).length = xs.length + ys.length := mix_length (by omega)
      obtain ⟨q1, q2⟩ := Q_end (nv xs) (nv ys) i ys.length (nv_lt hw')
      have hcl := mul_cy_lt (nv xs) (nv ys) i ys.length
      refine (codeV_sound hmix E4ok.hS hin (loop70a ty xs ys i) ?_).mono ?_
      · simp only [AllP, w1, Int.toNat_natCast, Nat.zero_add, hlen]; simp [hw, hw', hl, hl']; omega
      · rintro e s ⟨rfl, hs⟩
        refine .inl ⟨rfl, (ty, xs, ys, i + 1), ⟨hw, hw', hl, hl', by show i + 1 ≤ xs.length; omega⟩, by simp only; omega, ?_, rfl⟩
        simp only [w1, w3, Int.toNat_natCast, Nat.zero_add] at hs
        have hd : IntKind.wrap IntKind.u32 ((o_Q (nv xs) (nv ys) i ys.length / B ^ (i + ys.length) : Nat) : Int) = ((o_Q (nv xs) (nv ys) i ys.length / B ^ (i + ys.length) : Nat) : Int) := by
          rw [w32]
          generalize o_Q (nv xs) (nv ys) i ys.length / B ^ (i + ys.length) = q at *
          unfold B at hcl
          omega
        rw [hd, mix_set (by omega) _ rfl (show _ = dg (o_Q (nv xs) (nv ys) i ys.length) (i + ys.length) from (Nat.mod_eq_of_lt hcl).symm)] at hs
        have hfin : o_mix (xs.length + ys.length) (o_Q (nv xs) (nv ys) i ys.length) (nv xs % B ^ i * nv ys) (i + ys.length + 1) = dgs (xs.length + ys.length) (nv xs % B ^ (i + 1) * nv ys) := by
          have e1 : i + ys.length + 1 = i + 1 + ys.length := by omega
          rw [q1, e1]
          exact mix_big (by omega) q2 (Nat.lt_of_lt_of_le (P_lt _ _ _ _ (nv_lt hw')) (Nat.pow_le_pow_right (by decide) (by omega)))
        rw [hfin] at hs
        exact hs
    · have : i = xs.length := by omega
      subst this
      refine (codeV_sound hmix E4ok.hS hin (loop70b ty xs ys _) ?_).mono ?_
      · simp [AllP]
      · rintro e s ⟨rfl, hs⟩
        exact .inr ⟨rfl, hs⟩
  · intro f hf
    rw [show lkey (loopC Tryz.f70 1) = 7 by kernel_rfl] at hf
    cases hf

theorem con70 : Con Tryz.prog 70 spMulN := by
  refine con_run (L := L70) (fn := Tryz.f70) hmix E4ok.hS lo70 (by kernel_rfl) (fun _ => by kernel_rfl) ?_
  intro avs r ps hsp hps
  unfold spMulN at hsp
  split at hsp
  · rename_i xs ys
    simp only [Option.some.injEq, Prod.mk.injEq] at hsp
    obtain ⟨rfl, rfl⟩ := hsp
    obtain ⟨hw, hw', hl, hl', _⟩ := hps
    have hwr : IntKind.wrap IntKind.i64 ((xs.length : Int) + (ys.length : Int)) = ((xs.length + ys.length : Nat) : Int) := by rw [wi64 _ (by omega) (by omega)]; omega
    have hs : nv xs * nv ys < B ^ (xs.length + ys.length) := by
      have := P_lt (nv xs) (nv ys) xs.length ys.length (nv_lt hw')
      rwa [Nat.mod_eq_of_lt (nv_lt hw)] at this
    have ht : List.take (xs.length + ys.length) (dgs (xs.length + ys.length) (nv xs * nv ys)) = dgs (xs.length + ys.length) (nv xs * nv ys) := List.take_of_length_le (by rw [dgs_length]; exact Nat.le_refl _)
    refine ⟨rfl, _, _, _, _, run70 xs ys, ?_, ?_⟩
    · simp only [List.drop_zero, Nat.mod_eq_of_lt (nv_lt hw), ht, nv_dgs, Nat.mod_eq_of_lt hs]
      rfl
    · simp only [AllP, hwr, Int.toNat_natCast, List.drop_zero, Nat.mod_eq_of_lt (nv_lt hw), ht, dgs_length]
      simp [hw, hw', words_dgs, hl, hl']
      omega
  · cases hsp


def E5 : List (Nat × Ctr) := (57, .fn spMulN) :: (70, .fn spMulN) :: E4
theorem E5ok : EnvOk Tryz.prog E5 := .cons con57 (.cons con70 E4ok)

end Go.Proofs.YtkfdnpbpebmhaaaGreatDoor.Spec
namespace Go.Proofs.YtkfdnpbpebmhaaaGreatDoor.Num
open Go.Proofs.YtkfdnpbpebmhaaaGreatDoor.Spec

/-- A row of n words of which those from j on are those of a number. -/
def o_U (n s j : Nat) : List Int := List.replicate j 0 ++ (dgs n s).drop j
theorem U_length {n s j : Nat} (h : j ≤ n) : (o_U n s j).length = n := by simp [o_U, dgs_length]; omega
theorem U_set {n s k : Nat} (h : k < n) : (o_U n s (k + 1)).set k (dg s k) = o_U n s k := by
  unfold o_U
  rw [List.replicate_succ', List.append_assoc, List.set_append_right _ _ (by simp), List.length_replicate, Nat.sub_self]
  rw [List.drop_eq_getElem_cons (i := k) (by rw [dgs_length]; exact h)]
  simp [dgs]
theorem U_full (n s : Nat) : o_U n s n = List.replicate n 0 := by simp [o_U, dgs_length]
theorem U_zero (n s : Nat) : o_U n s 0 = dgs n s := by simp [o_U]
theorem short_step (X d k : Nat) (hd : 0 < d) : (X / B ^ (k + 1) % d * B + dg X k) / d = dg (X / d) k ∧ (X / B ^ (k + 1) % d * B + dg X k) % d = X / B ^ k % d ∧ (X / B ^ (k + 1) % d * B + dg X k) / d < B := by
  have e : X / B ^ k = X / B ^ (k + 1) * B + dg X k := by
    unfold dg
    rw [Nat.pow_succ, ← Nat.div_div_eq_div_mul, Nat.mul_comm]
    exact (Nat.div_add_mod _ _).symm
  have h1 := Nat.div_add_mod (X / B ^ (k + 1)) d
  have h2 := Nat.mod_lt (X / B ^ (k + 1)) hd
  have h3 := dg_lt X k
  have h4 : (X / B ^ (k + 1) % d * B + dg X k) / d < B := by
    rw [Nat.div_lt_iff_lt_mul hd]
    have : (X / B ^ (k + 1) % d + 1) * B ≤ d * B := Nat.mul_le_mul_right _ h2
    rw [Nat.add_mul, Nat.one_mul] at this
    rw [Nat.mul_comm B d]
    omega
  have e2 : X / B ^ k = X / B ^ (k + 1) % d * B + dg X k + d * (X / B ^ (k + 1) / d * B) := by
    rw [e]
    conv => lhs; rw [← h1]
    rw [Nat.add_mul, Nat.mul_assoc]
    omega
  refine ⟨?_, ?_, h4⟩
  · have e3 : X / d / B ^ k = X / B ^ k / d := by rw [Nat.div_div_eq_div_mul, Nat.div_div_eq_div_mul, Nat.mul_comm]
    rw [show dg (X / d) k = X / d / B ^ k % B from rfl, e3, e2, Nat.add_mul_div_left _ _ hd, Nat.add_mul_mod_self_right, Nat.mod_eq_of_lt h4]
  · rw [e2, Nat.add_mul_mod_self_left]

end Go.Proofs.YtkfdnpbpebmhaaaGreatDoor.Num
namespace Go.Proofs.YtkfdnpbpebmhaaaGreatDoor.Spec
open Go Go.RowKit Sx Num

def I62 (ty : TypeId) (xs : List Int) (d i : Nat) : St :=
  ⟨[(0, .s (roW xs)), (1, .s (u32 d)), (6, .s (slW 12 0 xs.length xs.length)), (7, .s (u32 ((nv xs / B ^ (xs.length - i) % d : Nat)))), (14, .s (num xs.length)), (15, .s (num i))],
   [(12, box32 ty (o_U xs.length (nv xs / d) (xs.length - i)))]⟩
def F62 (st : St) : Option (Ex × St × List Prop) :=
  match liv st.boxes 0, lk st.tmps 0, lk st.tmps 1, lk st.tmps 6, lk st.tmps 7, lk st.tmps 14, lk st.tmps 15, lk st.boxes 12 with
  | false, some (.s (.one (.row .u32 xs))), some (.s (.one (.v (.int .u32 d)))), some (.s (.one (.sl 12 0 len cap))), some (.s (.one (.v (.int .u32 c)))), some (.s (.one (.v (.int .i64 n)))), some (.s (.one (.v (.int .i64 i)))), some ⟨ty, .ints .u32 zs, true⟩ =>
    some (.exit 0, I62 ty xs d.toNat xs.length, [0 < d ∧ d < 4294967296, len = xs.length, cap = xs.length, c = 0, n = xs.length, i = 0, zs = List.replicate xs.length 0, Words xs, Ln xs])
  | _, _, _, _, _, _, _, _ => none
def L62 : Loops := fun k => bif Nat.beq k 4 then some F62 else none
def I112 (ty : TypeId) (xs : List Int) (d j : Nat) : St :=
  ⟨[(0, .s (roW xs)), (1, .s (u64 d)), (6, .s (slW 12 0 xs.length xs.length)), (7, .s (u64 ((nv xs / B ^ j % d : Nat)))), (8, .s (num ((j : Int) - 1)))],
   [(12, box32 ty (o_U xs.length (nv xs / d) j))]⟩
def F112 (st : St) : Option (Ex × St × List Prop) :=
  match liv st.boxes 0, lk st.tmps 0, lk st.tmps 1, lk st.tmps 6, lk st.tmps 7, lk st.tmps 8, lk st.boxes 12 with
  | false, some (.s (.one (.row .u32 xs))), some (.s (.one (.v (.int .u64 d)))), some (.s (.one (.sl 12 0 len cap))), some (.s (.one (.v (.int .u64 c)))), some (.s (.one (.v (.int .i64 i)))), some ⟨ty, .ints .u32 zs, true⟩ =>
    some (.exit 0, I112 ty xs d.toNat 0, [0 < d ∧ d < 4294967296, len = xs.length, cap = xs.length, c = 0, i = xs.length - 1, zs = List.replicate xs.length 0, Words xs, Ln xs])
  | _, _, _, _, _, _, _ => none
def L112 : Loops := fun k => bif Nat.beq k 4 then some F112 else none

end Go.Proofs.YtkfdnpbpebmhaaaGreatDoor.Spec
section
set_option maxRecDepth 100000
namespace Go.Proofs.YtkfdnpbpebmhaaaGreatDoor.Spec
open Go Go.RowKit Sx Num

theorem loop62a (ty : TypeId) (xs : List Int) (d i : Nat) : codeV Tryz.prog (lk E5) L0 (G1 []) Tryz.f62.ntmps 60 (loopC Tryz.f62 0) [0, 1, 6, 7, 14, 15] [12] (I62 ty xs d i) = (let q1 := (↑(nv xs / (4294967296 : Nat) ^ (List.length xs - i) % d) : Int); let q4 := (↑(List.length xs) : Int); let q0 := IntKind.wrap .i64 (q4 - (1 : Int)) - (↑i : Int); let q2 := IntKind.wrap .i64 q0; let q3 := (0 : Int) ≤ IntKind.wrap .i64 q0 ∧ IntKind.wrap .i64 q0 < q4; let q5 := q1 * (4294967296 : Int) + List.getD xs (Int.toNat q2) (0 : Int); let q6 := o_U (List.length xs) (nv xs / d) (List.length xs - i); some (Ex.normal, { tmps := [((0 : Nat), AV.s (SV.one (LV.row EK.u32 xs))), ((1 : Nat), AV.s (SV.one (LV.v (Value.int .u32 (↑d : Int))))), ((6 : Nat), AV.s (SV.one (LV.sl (12 : Nat) (0 : Nat) (List.length xs) (List.length xs)))), ((7 : Nat), AV.s (SV.one (LV.v (Value.int .u32 (q5 % (↑d : Int)))))), ((14 : Nat), AV.s (SV.one (LV.v (Value.int .i64 q4)))), ((15 : Nat), AV.s (SV.one (LV.v (Value.int .i64 (IntKind.wrap .i64 ((↑i : Int) + (1 : Int)))))))], boxes := [((12 : Nat), { ty := ty, bc := BC.ints EK.u32 (List.set q6 ((0 : Nat) + Int.toNat q2) (q5 / (↑d : Int))), mut_ := true })] }, [decide ((↑i : Int) < q4) = true, q3, (0 : Int) ≤ q1 ∧ q1 < (4294967296 : Int), (0 : Int) ≤ List.getD xs (Int.toNat q2) (0 : Int) ∧ List.getD xs (Int.toNat q2) (0 : Int) < (4294967296 : Int), (0 : Int) ≤ (↑d : Int) ∧ (↑d : Int) < (4294967296 : Int), q1 < (↑d : Int), q3, (0 : Nat) + Int.toNat q2 < List.length q6])) := by kernel_rfl
theorem loop62b (ty : TypeId) (xs : List Int) (d i : Nat) : codeV Tryz.prog (lk E5) L0 (G1 [16]) Tryz.f62.ntmps 60 (loopC Tryz.f62 0) [0, 1, 6, 7, 14, 15] [12] (I62 ty xs d i) = (let q0 := (↑(List.length xs) : Int); some (Ex.exit (0 : Nat), { tmps := [((0 : Nat), AV.s (SV.one (LV.row EK.u32 xs))), ((1 : Nat), AV.s (SV.one (LV.v (Value.int .u32 (↑d : Int))))), ((6 : Nat), AV.s (SV.one (LV.sl (12 : Nat) (0 : Nat) (List.length xs) (List.length xs)))), ((7 : Nat), AV.s (SV.one (LV.v (Value.int .u32 (↑(nv xs / (4294967296 : Nat) ^ (List.length xs - i) % d) : Int))))), ((14 : Nat), AV.s (SV.one (LV.v (Value.int .i64 q0)))), ((15 : Nat), AV.s (SV.one (LV.v (Value.int .i64 (↑i : Int)))))], boxes := [((12 : Nat), { ty := ty, bc := BC.ints EK.u32 (o_U (List.length xs) (nv xs / d) (List.length xs - i)), mut_ := true })] }, [decide ((↑i : Int) < q0) = false])) := by kernel_rfl
theorem run62 (xs : List Int) (d : Int) : fnEx Tryz.prog (lk E5) L62 (G1 []) 60 Tryz.f62 [roW xs, u32 d] = (let q1 := (↑(List.length xs) : Int); let q3 := List.length xs - List.length xs; let q2 := o_U (List.length xs) (nv xs / Int.toNat d) q3; let q0 := List.take (List.length xs) (List.drop (0 : Nat) q2); let q4 := Int.toNat q1 = List.length xs; some (AV.tup [SV.one (LV.row EK.u32 (enc (nv q0))), SV.one (LV.v (Value.int .u32 (↑(nv xs / (4294967296 : Nat) ^ q3 % Int.toNat d) : Int)))], [(0 : Int) ≤ q1 ∧ q1 ≤ q1 ∧ q1 ≤ (1099511627776 : Int), (0 : Int) < d ∧ d < (4294967296 : Int), q4, q4, (0 : Int) = (0 : Int), q1 = q1, (0 : Int) = (0 : Int), List.replicate (Int.toNat q1) (0 : Int) = List.replicate (List.length xs) (0 : Int), Words xs, List.length xs ≤ (274877906944 : Nat), (0 : Nat) + List.length xs ≤ List.length q2 ∧ List.length xs ≤ List.length xs ∧ List.length xs ≤ (9223372036854775807 : Nat), Words q0, List.length q0 ≤ (274877906944 : Nat)])) := by kernel_rfl
theorem loop112a (ty : TypeId) (xs : List Int) (d j : Nat) : codeV Tryz.prog (lk E5) L0 (G1 []) Tryz.f112.ntmps 60 (loopC Tryz.f112 0) [0, 1, 6, 7, 8] [12] (I112 ty xs d j) = (let q1 := (0 : Int) ≤ (↑j : Int) - (1 : Int) ∧ (↑j : Int) - (1 : Int) < (↑(List.length xs) : Int); let q2 := (↑j : Int) - (1 : Int); let q0 := IntKind.wrap .u64 (IntKind.wrap .u64 ((↑(nv xs / B ^ j % d) : Int) * (4294967296 : Int)) + IntKind.wrap .u64 (List.getD xs (Int.toNat q2) (0 : Int))); let q3 := o_U (List.length xs) (nv xs / d) j; some (Ex.normal, { tmps := [((0 : Nat), AV.s (SV.one (LV.row EK.u32 xs))), ((1 : Nat), AV.s (SV.one (LV.v (Value.int .u64 (↑d : Int))))), ((6 : Nat), AV.s (SV.one (LV.sl (12 : Nat) (0 : Nat) (List.length xs) (List.length xs)))), ((7 : Nat), AV.s (SV.one (LV.v (Value.int .u64 (Int.tmod q0 (↑d : Int)))))), ((8 : Nat), AV.s (SV.one (LV.v (Value.int .i64 (IntKind.wrap .i64 ((↑j : Int) - (1 : Int) - (1 : Int)))))))], boxes := [((12 : Nat), { ty := ty, bc := BC.ints EK.u32 (List.set q3 ((0 : Nat) + Int.toNat q2) (IntKind.wrap .u32 (IntKind.wrap .u64 (Int.tdiv q0 (↑d : Int))))), mut_ := true })] }, [decide ((0 : Int) ≤ (↑j : Int) - (1 : Int)) = true, q1, ¬(↑d : Int) = (0 : Int), q1, (0 : Nat) + Int.toNat q2 < List.length q3, ¬(↑d : Int) = (0 : Int)])) := by kernel_rfl
theorem loop112b (ty : TypeId) (xs : List Int) (d j : Nat) : codeV Tryz.prog (lk E5) L0 (G1 [17]) Tryz.f112.ntmps 60 (loopC Tryz.f112 0) [0, 1, 6, 7, 8] [12] (I112 ty xs d j) = some (Ex.exit (0 : Nat), { tmps := [((0 : Nat), AV.s (SV.one (LV.row EK.u32 xs))), ((1 : Nat), AV.s (SV.one (LV.v (Value.int .u64 (↑d : Int))))), ((6 : Nat), AV.s (SV.one (LV.sl (12 : Nat) (0 : Nat) (List.length xs) (List.length xs)))), ((7 : Nat), AV.s (SV.one (LV.v (Value.int .u64 (↑(nv xs / (4294967296 : Nat) ^ j % d) : Int))))), ((8 : Nat), AV.s (SV.one (LV.v (Value.int .i64 ((↑j : Int) - (1 : Int))))))], boxes := [((12 : Nat), { ty := ty, bc := BC.ints EK.u32 (o_U (List.length xs) (nv xs / d) j), mut_ := true })] }, [decide ((0 : Int) ≤ (↑j : Int) - (1 : Int)) = false]) := by kernel_rfl
theorem run112 (xs : List Int) (d : Int) : fnEx Tryz.prog (lk E5) L112 (G1 []) 60 Tryz.f112 [roW xs, u64 d] = (let q1 := (↑(List.length xs) : Int); let q2 := o_U (List.length xs) (nv xs / Int.toNat d) (0 : Nat); let q0 := List.take (List.length xs) (List.drop (0 : Nat) q2); let q3 := Int.toNat q1 = List.length xs; some (AV.tup [SV.one (LV.row EK.u32 (enc (nv q0))), SV.one (LV.v (Value.int .u64 (↑(nv xs / (4294967296 : Nat) ^ (0 : Nat) % Int.toNat d) : Int)))], [(0 : Int) ≤ q1 ∧ q1 ≤ q1 ∧ q1 ≤ (1099511627776 : Int), (0 : Int) < d ∧ d < (4294967296 : Int), q3, q3, (0 : Int) = (0 : Int), IntKind.wrap .i64 (q1 - (1 : Int)) = q1 - (1 : Int), List.replicate (Int.toNat q1) (0 : Int) = List.replicate (List.length xs) (0 : Int), Words xs, List.length xs ≤ (274877906944 : Nat), (0 : Nat) + List.length xs ≤ List.length q2 ∧ List.length xs ≤ List.length xs ∧ List.length xs ≤ (9223372036854775807 : Nat), Words q0, List.length q0 ≤ (274877906944 : Nat)])) := by kernel_rfl
end Go.Proofs.YtkfdnpbpebmhaaaGreatDoor.Spec
end
namespace Go.Proofs.YtkfdnpbpebmhaaaGreatDoor.Spec
open Go Go.RowKit Sx Num

def V62 (x : TypeId × List Int × Nat × Nat) : Prop := Words x.2.1 ∧ Ln x.2.1 ∧ 0 < x.2.2.1 ∧ x.2.2.1 < 4294967296 ∧ x.2.2.2 ≤ x.2.1.length
theorem top_zero {xs : List Int} (h : Words xs) (d : Nat) : nv xs / B ^ xs.length % d = 0 := by
  rw [Nat.div_eq_of_lt (nv_lt h), Nat.zero_mod]
theorem sub62 {st : St} {e : Ex} {s : St} {obs : List Prop} (h : F62 st = some (e, s, obs)) (hob : AllP obs) : ∃ x : TypeId × List Int × Nat × Nat, V62 x ∧ SubS st (I62 x.1 x.2.1 x.2.2.1 x.2.2.2) ∧ e = .exit 0 ∧ s = I62 x.1 x.2.1 x.2.2.1 x.2.1.length := by
  unfold F62 at h
  split at h
  · rename_i xs d len cap c n i ty zs hz h1 h2 h3 h4 h5 h6 h7
    simp only [Option.some.injEq, Prod.mk.injEq] at h
    obtain ⟨rfl, rfl, rfl⟩ := h
    obtain ⟨⟨hd0, hd⟩, rfl, rfl, rfl, rfl, rfl, rfl, hw, hl, _⟩ := hob
    obtain ⟨d, rfl⟩ := Int.eq_ofNat_of_zero_le (Int.le_of_lt hd0)
    refine ⟨(ty, xs, d, 0), ⟨hw, hl, by show 0 < d; omega, by show d < _; omega, Nat.zero_le _⟩, ⟨?_, ?_, ?_⟩, rfl, rfl⟩
    · intro p hp
      simp only [I62, List.mem_cons, List.not_mem_nil, or_false, Nat.sub_zero, top_zero hw] at hp
      rcases hp with rfl | rfl | rfl | rfl | rfl | rfl <;> exact ⟨by assumption, rfl⟩
    · intro p hp
      simp only [I62, List.mem_cons, List.not_mem_nil, or_false, Nat.sub_zero, U_full] at hp
      subst hp
      exact ⟨by assumption, rfl⟩
    · rw [hz]; intro h; cases h
  · cases h
theorem lo62 : ∀ c ∈ loopsF Tryz.f62, LoopOk Tryz.prog Tryz.f62.ntmps L62 c := by
  rw [show loopsF Tryz.f62 = [loopC Tryz.f62 0] by kernel_rfl]
  intro c hc
  rw [List.mem_singleton] at hc
  subst hc
  refine loop_ok (k := 4) (f := F62) (α := TypeId × List Int × Nat × Nat) (by kernel_rfl) rfl (fun x => I62 x.1 x.2.1 x.2.2.1 x.2.2.2) (fun x => I62 x.1 x.2.1 x.2.2.1 x.2.1.length) V62 (fun x => x.2.1.length - x.2.2.2) (.exit 0) (by simp) (fun st e s obs h hob => sub62 h hob) ?_
  rintro ⟨ty, xs, d, i⟩ ⟨hw, hl, hd0, hd, hi⟩
  simp only at hw hl hd0 hd hi ⊢
  have hno : ∀ d ∈ loopsOf (loopC Tryz.f62 0), LoopOk Tryz.prog Tryz.f62.ntmps L0 d := by rw [show loopsOf (loopC Tryz.f62 0) = [] by kernel_rfl]; intro d hd; cases hd
  unfold Ln at hl
  by_cases hlt : i < xs.length
  · obtain ⟨k, hk⟩ : ∃ k, k = xs.length - (i + 1) := ⟨_, rfl⟩
    have hk1 : xs.length - i = k + 1 := by omega
    have w1 : IntKind.wrap IntKind.i64 (IntKind.wrap IntKind.i64 ((xs.length : Int) - 1) - (i : Int)) = (k : Int) := by
      rw [wi64 ((xs.length : Int) - 1) (by omega) (by omega), wi64 _ (by omega) (by omega)]; omega
    have w3 : IntKind.wrap IntKind.i64 ((i : Int) + 1) = ((i + 1 : Nat) : Int) := by rw [wi64 _ (by omega) (by omega)]; omega
    obtain ⟨s1, s2, s3⟩ := short_step (nv xs) d k hd0
    have hU : (o_U xs.length (nv xs / d) (k + 1)).length = xs.length := U_length (by omega)
    have hm := Nat.mod_lt (nv xs / B ^ (k + 1)) hd0
    have hg := dg_lt (nv xs) k
    have e1 : ((nv xs / 4294967296 ^ (k + 1) % d : Nat) : Int) * 4294967296 + ((dg (nv xs) k : Nat) : Int) = ((nv xs / B ^ (k + 1) % d * B + dg (nv xs) k : Nat) : Int) := by
      unfold B; omega
    refine (codeV_sound hmix E5ok.hS hno (loop62a ty xs d i) ?_).mono ?_
    · simp only [AllP, w1, hk1, hU, Int.toNat_natCast, nv_getD hw, Nat.zero_add]
      obtain ⟨a, ha⟩ : ∃ a, a = nv xs / 4294967296 ^ (k + 1) % d := ⟨_, rfl⟩
      rw [← ha]
      have hm : a < d := by rw [ha]; exact hm
      unfold B at hg
      simp
      omega
    · rintro e s ⟨rfl, hs⟩
      refine .inl ⟨rfl, (ty, xs, d, i + 1), ⟨hw, hl, hd0, hd, by show i + 1 ≤ xs.length; omega⟩, by simp only; omega, ?_, rfl⟩
      simp only [w1, w3, hk1, Int.toNat_natCast, Nat.zero_add, nv_getD hw, e1] at hs
      rw [← Int.natCast_ediv, ← Int.natCast_emod, s1, s2, U_set (by omega)] at hs
      rw [hk] at hs
      exact hs
  · have : i = xs.length := by omega
    subst this
    refine (codeV_sound hmix E5ok.hS hno (loop62b ty xs d _) ?_).mono ?_
    · simp [AllP]
    · rintro e s ⟨rfl, hs⟩
      exact .inr ⟨rfl, hs⟩

def spShort (k : IntKind) : Sp
  | [.one (.row .u32 xs), .one (.v (.int k' d))] => bif kEq k k' then some (.tup [roW (enc (nv xs / d.toNat)), .one (.v (.int k ((nv xs % d.toNat : Nat) : Int)))], [0 < d ∧ d < 4294967296, Words xs, Ln xs]) else none
  | _ => none
theorem short_top {xs : List Int} (h : Words xs) (d : Nat) : List.take xs.length (dgs xs.length (nv xs / d)) = dgs xs.length (nv xs / d) ∧ nv (dgs xs.length (nv xs / d)) = nv xs / d := by
  refine ⟨List.take_of_length_le (by rw [dgs_length]; exact Nat.le_refl _), ?_⟩
  rw [nv_dgs, Nat.mod_eq_of_lt]
  exact Nat.lt_of_le_of_lt (Nat.div_le_self _ _) (nv_lt h)
theorem con62 : Con Tryz.prog 62 (spShort .u32) := by
  refine con_run (L := L62) (fn := Tryz.f62) hmix E5ok.hS lo62 (by kernel_rfl) (fun _ => by kernel_rfl) ?_
  intro avs r ps hsp hps
  unfold spShort at hsp
  split at hsp
  · rename_i xs k' d
    rw [Bool.cond_eq_ite] at hsp
    split at hsp
    · rename_i hk
      have hk := kEq_iff.1 hk
      subst hk
      simp only [Option.some.injEq, Prod.mk.injEq] at hsp
      obtain ⟨rfl, rfl⟩ := hsp
      obtain ⟨hd, hw, hl, _⟩ := hps
      obtain ⟨t1, t2⟩ := short_top hw d.toNat
      refine ⟨rfl, _, _, _, _, run62 xs d, ?_, ?_⟩
      · simp only [Nat.sub_self, Nat.pow_zero, Nat.div_one, U_zero, List.drop_zero, t1, t2]
        rfl
      · unfold Ln at hl
        simp only [AllP, Nat.sub_self, U_zero, List.drop_zero, t1, dgs_length, Int.toNat_natCast]
        simp [hw, words_dgs, hd, hl]
        omega
    · cases hsp
  · cases hsp

theorem sub112 {st : St} {e : Ex} {s : St} {obs : List Prop} (h : F112 st = some (e, s, obs)) (hob : AllP obs) : ∃ x : TypeId × List Int × Nat × Nat, V62 x ∧ SubS st (I112 x.1 x.2.1 x.2.2.1 x.2.2.2) ∧ e = .exit 0 ∧ s = I112 x.1 x.2.1 x.2.2.1 0 := by
  unfold F112 at h
  split at h
  · rename_i xs d len cap c i ty zs hz h1 h2 h3 h4 h5 h7
    simp only [Option.some.injEq, Prod.mk.injEq] at h
    obtain ⟨rfl, rfl, rfl⟩ := h
    obtain ⟨⟨hd0, hd⟩, rfl, rfl, rfl, rfl, rfl, hw, hl, _⟩ := hob
    obtain ⟨d, rfl⟩ := Int.eq_ofNat_of_zero_le (Int.le_of_lt hd0)
    refine ⟨(ty, xs, d, xs.length), ⟨hw, hl, by show 0 < d; omega, by show d < _; omega, Nat.le_refl _⟩, ⟨?_, ?_, ?_⟩, rfl, rfl⟩
    · intro p hp
      simp only [I112, List.mem_cons, List.not_mem_nil, or_false, top_zero hw] at hp
      rcases hp with rfl | rfl | rfl | rfl | rfl <;> exact ⟨by assumption, rfl⟩
    · intro p hp
      simp only [I112, List.mem_cons, List.not_mem_nil, or_false, U_full] at hp
      subst hp
      exact ⟨by assumption, rfl⟩
    · rw [hz]; intro h; cases h
  · cases h
theorem lo112 : ∀ c ∈ loopsF Tryz.f112, LoopOk Tryz.prog Tryz.f112.ntmps L112 c := by
  rw [show loopsF Tryz.f112 = [loopC Tryz.f112 0] by kernel_rfl]
  intro c hc
  rw [List.mem_singleton] at hc
  subst hc
  refine loop_ok (k := 4) (f := F112) (α := TypeId × List Int × Nat × Nat) (by kernel_rfl) rfl (fun x => I112 x.1 x.2.1 x.2.2.1 x.2.2.2) (fun x => I112 x.1 x.2.1 x.2.2.1 0) V62 (fun x => x.2.2.2) (.exit 0) (by simp) (fun st e s obs h hob => sub112 h hob) ?_
  rintro ⟨ty, xs, d, j⟩ ⟨hw, hl, hd0, hd, hi⟩
  simp only at hw hl hd0 hd hi ⊢
  have hno : ∀ d ∈ loopsOf (loopC Tryz.f112 0), LoopOk Tryz.prog Tryz.f112.ntmps L0 d := by rw [show loopsOf (loopC Tryz.f112 0) = [] by kernel_rfl]; intro d hd; cases hd
  unfold Ln at hl
  by_cases hlt : 0 < j
  · obtain ⟨k, rfl⟩ : ∃ k, j = k + 1 := ⟨j - 1, by omega⟩
    have w1 : ((k + 1 : Nat) : Int) - 1 = (k : Int) := by omega
    have w3 : IntKind.wrap IntKind.i64 ((k : Int) - 1) = (k : Int) - 1 := by rw [wi64 _ (by omega) (by omega)]
    obtain ⟨s1, s2, s3⟩ := short_step (nv xs) d k hd0
    have hU : (o_U xs.length (nv xs / d) (k + 1)).length = xs.length := U_length (by omega)
    have hm := Nat.mod_lt (nv xs / B ^ (k + 1)) hd0
    have hg := dg_lt (nv xs) k
    have e1 : IntKind.wrap IntKind.u64 (IntKind.wrap IntKind.u64 (((nv xs / B ^ (k + 1) % d : Nat) : Int) * 4294967296) + IntKind.wrap IntKind.u64 ((dg (nv xs) k : Nat) : Int)) = ((nv xs / B ^ (k + 1) % d * B + dg (nv xs) k : Nat) : Int) := by
      simp only [w64]
      generalize nv xs / B ^ (k + 1) % d = a at *
      unfold B at *; omega
    refine (codeV_sound hmix E5ok.hS hno (loop112a ty xs d (k + 1)) ?_).mono ?_
    · simp only [AllP, w1, hU, Int.toNat_natCast, Nat.zero_add]
      simp
      omega
    · rintro e s ⟨rfl, hs⟩
      refine .inl ⟨rfl, (ty, xs, d, k), ⟨hw, hl, hd0, hd, by show k ≤ xs.length; omega⟩, by simp only; omega, ?_, rfl⟩
      simp only [w1, w3, Int.toNat_natCast, Nat.zero_add, nv_getD hw, e1] at hs
      rw [Int.tdiv_eq_ediv_of_nonneg (Int.natCast_nonneg _), Int.tmod_eq_emod_of_nonneg (Int.natCast_nonneg _), ← Int.natCast_ediv, ← Int.natCast_emod, s1, s2] at hs
      have hd1 : IntKind.wrap IntKind.u32 (IntKind.wrap IntKind.u64 ((dg (nv xs / d) k : Nat) : Int)) = ((dg (nv xs / d) k : Nat) : Int) := by
        have := dg_lt (nv xs / d) k
        rw [w32, w64]
        unfold B at this
        omega
      rw [hd1, U_set (by omega)] at hs
      exact hs
  · have : j = 0 := by omega
    subst this
    refine (codeV_sound hmix E5ok.hS hno (loop112b ty xs d _) ?_).mono ?_
    · simp [AllP]
    · rintro e s ⟨rfl, hs⟩
      exact .inr ⟨rfl, hs⟩
theorem con112 : Con Tryz.prog 112 (spShort .u64) := by
  refine con_run (L := L112) (fn := Tryz.f112) hmix E5ok.hS lo112 (by kernel_rfl) (fun _ => by kernel_rfl) ?_
  intro avs r ps hsp hps
  unfold spShort at hsp
  split at hsp
  · rename_i xs k' d
    rw [Bool.cond_eq_ite] at hsp
    split at hsp
    · rename_i hk
      have hk := kEq_iff.1 hk
      subst hk
      simp only [Option.some.injEq, Prod.mk.injEq] at hsp
      obtain ⟨rfl, rfl⟩ := hsp
      obtain ⟨hd, hw, hl, _⟩ := hps
      obtain ⟨t1, t2⟩ := short_top hw d.toNat
      unfold Ln at hl
      have w1 : IntKind.wrap IntKind.i64 ((xs.length : Int) - 1) = (xs.length : Int) - 1 := by rw [wi64 _ (by omega) (by omega)]
      refine ⟨rfl, _, _, _, _, run112 xs d, ?_, ?_⟩
      · simp only [Nat.pow_zero, Nat.div_one, U_zero, List.drop_zero, t1, t2]
        rfl
      · simp only [AllP, w1, U_zero, List.drop_zero, t1, dgs_length, Int.toNat_natCast]
        simp [hw, words_dgs, hd, hl]
        omega
    · cases hsp
  · cases hsp

def E6 : List (Nat × Ctr) := (62, .fn (spShort .u32)) :: (112, .fn (spShort .u64)) :: E5
theorem E6ok : EnvOk Tryz.prog E6 := .cons con62 (.cons con112 E5ok)

end Go.Proofs.YtkfdnpbpebmhaaaGreatDoor.Spec
namespace Go.Proofs.YtkfdnpbpebmhaaaGreatDoor.Spec
open Go Go.RowKit Sx Num

def I93 (ty : TypeId) (xs : List Int) (s i : Nat) : St :=
  ⟨[(0, .s (roW xs)), (1, .s (num s)), (5, .s (slW 12 0 (xs.length + 1) (xs.length + 1))), (13, .s (roW xs)), (14, .s (num xs.length)), (15, .s (num i))],
   [(12, box32 ty (dgs (xs.length + 1) (nv xs % B ^ i * 2 ^ s)))]⟩
def F93 (st : St) : Option (Ex × St × List Prop) :=
  match liv st.boxes 0, lk st.tmps 0, lk st.tmps 1, lk st.tmps 5, lk st.tmps 13, lk st.tmps 14, lk st.tmps 15, lk st.boxes 12 with
  | false, some (.s (.one (.row .u32 xs))), some (.s (.one (.v (.int .i64 s)))), some (.s (.one (.sl 12 0 len cap))), some (.s (.one (.row .u32 xs'))), some (.s (.one (.v (.int .i64 n)))), some (.s (.one (.v (.int .i64 i)))), some ⟨ty, .ints .u32 zs, true⟩ =>
    some (.exit 0, I93 ty xs s.toNat xs.length, [0 ≤ s ∧ s < 32, len = xs.length + 1, cap = xs.length + 1, xs' = xs, n = xs.length, i = 0, zs = List.replicate (xs.length + 1) 0, Words xs, xs.length < 137438953472])
  | _, _, _, _, _, _, _, _ => none
def L93 : Loops := fun k => bif Nat.beq k 3 then some F93 else none
def I95 (ty : TypeId) (xs : List Int) (s i : Nat) : St :=
  ⟨[(0, .s (roW xs)), (1, .s (num s)), (5, .s (slW 9 0 xs.length xs.length)), (11, .s (num xs.length)), (12, .s (num i))],
   [(9, box32 ty (o_Z xs.length (nv xs / 2 ^ s) i))]⟩
def F95 (st : St) : Option (Ex × St × List Prop) :=
  match liv st.boxes 0, lk st.tmps 0, lk st.tmps 1, lk st.tmps 5, lk st.tmps 11, lk st.tmps 12, lk st.boxes 9 with
  | false, some (.s (.one (.row .u32 xs))), some (.s (.one (.v (.int .i64 s)))), some (.s (.one (.sl 9 0 len cap))), some (.s (.one (.v (.int .i64 n)))), some (.s (.one (.v (.int .i64 i)))), some ⟨ty, .ints .u32 zs, true⟩ =>
    some (.exit 0, I95 ty xs s.toNat xs.length, [0 ≤ s ∧ s < 32, len = xs.length, cap = xs.length, n = xs.length, i = 0, zs = List.replicate xs.length 0, Words xs, xs.length < 137438953472])
  | _, _, _, _, _, _, _ => none
def L95 : Loops := fun k => bif Nat.beq k 3 then some F95 else none

end Go.Proofs.YtkfdnpbpebmhaaaGreatDoor.Spec
section
set_option maxRecDepth 100000
namespace Go.Proofs.YtkfdnpbpebmhaaaGreatDoor.Spec
open Go Go.RowKit Sx Num

theorem loop93a (ty : TypeId) (xs : List Int) (s i : Nat) : codeV Tryz.prog (lk E6) L0 (G1 []) Tryz.f93.ntmps 60 (loopC Tryz.f93 0) [0, 1, 5, 13, 14, 15] [12] (I93 ty xs s i) = (let q1 := List.length xs + (1 : Nat); let q3 := dgs q1 (nv xs % B ^ i * (2 : Nat) ^ s); let q5 := (0 : Int) ≤ (↑i : Int) ∧ (↑i : Int) < (↑q1 : Int); let q6 := (0 : Nat) + Int.toNat (↑i : Int) < List.length q3; let q7 := (↑(List.length xs) : Int); let q8 := (↑i : Int) + (1 : Int); let q4 := IntKind.wrap .i64 q8; let q9 := (0 : Nat) + Int.toNat (↑i : Int); let q10 := SV.one (LV.row EK.u32 xs); let q11 := IntKind.bits IntKind.u64; let q2 := IntKind.wrap .u64 (IntKind.wrap .u64 (List.getD xs (Int.toNat (↑i : Int)) (0 : Int)) * (2 : Int) ^ min (Int.toNat (↑s : Int)) q11); let q12 := IntKind.bits IntKind.u32; let q0 := List.set q3 q9 (IntKind.wrap .u32 (↑(BitVec.toNat (BitVec.ofInt q12 (List.getD q3 q9 (0 : Int)) ||| BitVec.ofInt q12 (IntKind.wrap .u32 q2))) : Int)); some (Ex.normal, { tmps := [((0 : Nat), AV.s q10), ((1 : Nat), AV.s (SV.one (LV.v (Value.int .i64 (↑s : Int))))), ((5 : Nat), AV.s (SV.one (LV.sl (12 : Nat) (0 : Nat) q1 q1))), ((13 : Nat), AV.s q10), ((14 : Nat), AV.s (SV.one (LV.v (Value.int .i64 q7)))), ((15 : Nat), AV.s (SV.one (LV.v (Value.int .i64 q4))))], boxes := [((12 : Nat), { ty := ty, bc := BC.ints EK.u32 (List.set q0 ((0 : Nat) + Int.toNat q4) (IntKind.wrap .u32 (Int.fdiv q2 ((2 : Int) ^ min (Int.toNat (32 : Int)) q11)))), mut_ := true })] }, [decide ((↑i : Int) < q7) = true, (0 : Int) ≤ (↑i : Int) ∧ (↑i : Int) < q7, (0 : Int) ≤ (↑s : Int), q5, q6, q5, q6, (0 : Int) ≤ (32 : Int), (0 : Int) ≤ IntKind.wrap .i64 q8 ∧ IntKind.wrap .i64 q8 < (↑q1 : Int), (0 : Nat) + Int.toNat q4 < List.length q0])) := by kernel_rfl
theorem loop93b (ty : TypeId) (xs : List Int) (s i : Nat) : codeV Tryz.prog (lk E6) L0 (G1 [16]) Tryz.f93.ntmps 60 (loopC Tryz.f93 0) [0, 1, 5, 13, 14, 15] [12] (I93 ty xs s i) = (let q0 := List.length xs + (1 : Nat); let q1 := SV.one (LV.row EK.u32 xs); let q2 := (↑(List.length xs) : Int); some (Ex.exit (0 : Nat), { tmps := [((0 : Nat), AV.s q1), ((1 : Nat), AV.s (SV.one (LV.v (Value.int .i64 (↑s : Int))))), ((5 : Nat), AV.s (SV.one (LV.sl (12 : Nat) (0 : Nat) q0 q0))), ((13 : Nat), AV.s q1), ((14 : Nat), AV.s (SV.one (LV.v (Value.int .i64 q2)))), ((15 : Nat), AV.s (SV.one (LV.v (Value.int .i64 (↑i : Int)))))], boxes := [((12 : Nat), { ty := ty, bc := BC.ints EK.u32 (dgs q0 (nv xs % B ^ i * (2 : Nat) ^ s)), mut_ := true })] }, [decide ((↑i : Int) < q2) = false])) := by kernel_rfl
theorem run93 (xs : List Int) (s : Int) : fnEx Tryz.prog (lk E6) L93 (G1 []) 60 Tryz.f93 [roW xs, num s] = (let q1 := List.length xs + (1 : Nat); let q3 := dgs q1 (nv xs % B ^ List.length xs * (2 : Nat) ^ Int.toNat s); let q4 := (↑(List.length xs) : Int); let q0 := q4 + (1 : Int); let q5 := IntKind.wrap .i64 q0; let q2 := Int.toNat q5 = List.length xs + (1 : Nat); some (AV.s (SV.one (LV.row EK.u32 (List.take q1 (List.drop (0 : Nat) q3)))), [(0 : Int) ≤ IntKind.wrap .i64 q0 ∧ IntKind.wrap .i64 q0 ≤ IntKind.wrap .i64 q0 ∧ IntKind.wrap .i64 q0 ≤ (1099511627776 : Int), (0 : Int) ≤ s ∧ s < (32 : Int), q2, q2, xs = xs, q4 = q4, (0 : Int) = (0 : Int), List.replicate (Int.toNat q5) (0 : Int) = List.replicate q1 (0 : Int), Words xs, List.length xs < (137438953472 : Nat), (0 : Nat) + q1 ≤ List.length q3 ∧ List.length xs + (1 : Nat) ≤ List.length xs + (1 : Nat) ∧ List.length xs + (1 : Nat) ≤ (9223372036854775807 : Nat)])) := by kernel_rfl
theorem loop95a (ty : TypeId) (xs : List Int) (s i : Nat) : codeV Tryz.prog (lk E6) L0 (G1 []) Tryz.f95.ntmps 60 (loopC Tryz.f95 0) [0, 1, 5, 11, 12] [9] (I95 ty xs s i) = (let q0 := IntKind.bits IntKind.u64; let q1 := (↑(List.length xs) : Int); let q3 := o_Z (List.length xs) (nv xs / (2 : Nat) ^ s) i; let q4 := (0 : Int) ≤ (↑i : Int) ∧ (↑i : Int) < q1; let q5 := (↑i : Int) + (1 : Int); let q2 := IntKind.wrap .i64 q5; some (Ex.normal, { tmps := [((0 : Nat), AV.s (SV.one (LV.row EK.u32 xs))), ((1 : Nat), AV.s (SV.one (LV.v (Value.int .i64 (↑s : Int))))), ((5 : Nat), AV.s (SV.one (LV.sl (9 : Nat) (0 : Nat) (List.length xs) (List.length xs)))), ((11 : Nat), AV.s (SV.one (LV.v (Value.int .i64 q1)))), ((12 : Nat), AV.s (SV.one (LV.v (Value.int .i64 q2))))], boxes := [((9 : Nat), { ty := ty, bc := BC.ints EK.u32 (List.set q3 ((0 : Nat) + Int.toNat (↑i : Int)) (IntKind.wrap .u32 (Int.fdiv (IntKind.wrap .u64 (↑(BitVec.toNat (BitVec.ofInt q0 (IntKind.wrap .u64 (IntKind.wrap .u64 (List.getD xs (Int.toNat q2) (0 : Int)) * (2 : Int) ^ min (Int.toNat (32 : Int)) q0)) ||| BitVec.ofInt q0 (IntKind.wrap .u64 (List.getD xs (Int.toNat (↑i : Int)) (0 : Int))))) : Int)) ((2 : Int) ^ min (Int.toNat (↑s : Int)) q0)))), mut_ := true })] }, [decide ((↑i : Int) < q1) = true, (0 : Int) ≤ IntKind.wrap .i64 q5, (0 : Int) ≤ (32 : Int), q4, (0 : Int) ≤ (↑s : Int), q4, (0 : Nat) + Int.toNat (↑i : Int) < List.length q3])) := by kernel_rfl
theorem loop95b (ty : TypeId) (xs : List Int) (s i : Nat) : codeV Tryz.prog (lk E6) L0 (G1 [13]) Tryz.f95.ntmps 60 (loopC Tryz.f95 0) [0, 1, 5, 11, 12] [9] (I95 ty xs s i) = (let q0 := (↑(List.length xs) : Int); some (Ex.exit (0 : Nat), { tmps := [((0 : Nat), AV.s (SV.one (LV.row EK.u32 xs))), ((1 : Nat), AV.s (SV.one (LV.v (Value.int .i64 (↑s : Int))))), ((5 : Nat), AV.s (SV.one (LV.sl (9 : Nat) (0 : Nat) (List.length xs) (List.length xs)))), ((11 : Nat), AV.s (SV.one (LV.v (Value.int .i64 q0)))), ((12 : Nat), AV.s (SV.one (LV.v (Value.int .i64 (↑i : Int)))))], boxes := [((9 : Nat), { ty := ty, bc := BC.ints EK.u32 (o_Z (List.length xs) (nv xs / (2 : Nat) ^ s) i), mut_ := true })] }, [decide ((↑i : Int) < q0) = false])) := by kernel_rfl
theorem run95 (xs : List Int) (s : Int) : fnEx Tryz.prog (lk E6) L95 (G1 []) 60 Tryz.f95 [roW xs, num s] = (let q1 := (↑(List.length xs) : Int); let q2 := o_Z (List.length xs) (nv xs / (2 : Nat) ^ Int.toNat s) (List.length xs); let q0 := List.take (List.length xs) (List.drop (0 : Nat) q2); let q3 := Int.toNat q1 = List.length xs; some (AV.s (SV.one (LV.row EK.u32 (enc (nv q0)))), [(0 : Int) ≤ q1 ∧ q1 ≤ q1 ∧ q1 ≤ (1099511627776 : Int), (0 : Int) ≤ s ∧ s < (32 : Int), q3, q3, q1 = q1, (0 : Int) = (0 : Int), List.replicate (Int.toNat q1) (0 : Int) = List.replicate (List.length xs) (0 : Int), Words xs, List.length xs < (137438953472 : Nat), (0 : Nat) + List.length xs ≤ List.length q2 ∧ List.length xs ≤ List.length xs ∧ List.length xs ≤ (9223372036854775807 : Nat), Words q0, List.length q0 ≤ (274877906944 : Nat)])) := by kernel_rfl
end Go.Proofs.YtkfdnpbpebmhaaaGreatDoor.Spec
end
