/- Contracts: long division; Contracts: long division of the reference; Integers as numbers: contracts that speak of them; Runs: integers; Contracts: integers: adding, multiplying, dividing, signs, bits; Contracts: division with rest; Runs: more of integers; Contracts: comparing, subtracting, quotients, rests, small numbers, validity; Integers: bits, equality, powers, greatest common divisors: the invariants of the loops; Runs: bits, equality, powers, greatest common divisors; Contracts: bits, equality, greatest common divisors. -/
import Derived.Test.YtkfdnpbpebmhaaaGreatDoorProg
import Derived.Test.YtkfdnpbpebmhaaaGreatDoorZ0
import Derived.Test.YtkfdnpbpebmhaaaGreatDoorZ1
import Derived.Test.YtkfdnpbpebmhaaaGreatDoorZ2
import Derived.Test.YtkfdnpbpebmhaaaGreatDoorZ3
namespace Go.Proofs.YtkfdnpbpebmhaaaGreatDoor.Num
open Go.Proofs.YtkfdnpbpebmhaaaGreatDoor.Spec
theorem guess_spec {W V n : Nat} (h2 : 2 ≤ n) (hW : W < B ^ (n + 1)) (hV : V < B ^ n) (hp : 0 < dg V (n - 1)) (hlt : W < V * B) : W / V ≤ o_guess W V n ∧ o_guess W V n ≤ W / V + 1 ∧ o_guess W V n < B := by
  obtain ⟨m, rfl⟩ : ∃ m, n = m + 2 := ⟨n - 2, by omega⟩
  have hE := est_mk (m := m) hW hV hp hlt
  refine gue_spec hE _ _ ?_ ?_ hE.start
  · rw [Nat.mul_comm]; exact Nat.div_add_mod _ _
  · exact Nat.lt_trans (Nat.mod_lt _ hp) (dg_lt _ _)
theorem guess_over {W V g : Nat} (hle : W / V ≤ g) (hge : g ≤ W / V + 1) (hlt : W < g * V) : g = W / V + 1 := by
  rcases Nat.lt_or_ge (W / V) g with h | h
  · omega
  · exfalso
    have : g * V ≤ W / V * V := Nat.mul_le_mul_right _ h
    have := Nat.div_mul_le_self W V
    omega
theorem guess_exact {W V g : Nat} (hV : 0 < V) (hle : W / V ≤ g) (hlt : ¬ W < g * V) : g = W / V := (quot_exact hV hle (Nat.not_lt.1 hlt)).1
theorem less_dgs {W V N : Nat} : dgs N (W + B ^ N - W / V * V) = dgs N (W % V) := by
  have h := Nat.div_add_mod W V
  rw [Nat.mul_comm] at h
  have h2 := Nat.div_mul_le_self W V
  rw [show W + B ^ N - W / V * V = W % V + B ^ N by omega, dgs_top]
theorem enc_pad {A N : Nat} (h : A < B ^ N) : List.take 0 (List.replicate N (0 : Int)) ++ (List.take N (enc A) ++ List.drop (0 + min (enc A).length N) (List.replicate N 0)) = dgs N A := by
  have hl := (enc_len A N).2 h
  have hz : Words (List.replicate (N - (enc A).length) (0 : Int)) := fun x hx => by rw [List.mem_replicate] at hx; rw [hx.2]; omega
  have e : List.take 0 (List.replicate N (0 : Int)) ++ (List.take N (enc A) ++ List.drop (0 + min (enc A).length N) (List.replicate N 0)) = enc A ++ List.replicate (N - (enc A).length) 0 := by
    rw [List.take_zero, List.nil_append, List.take_of_length_le hl, List.drop_replicate]
    congr 2; omega
  rw [e]
  have hn : nv (enc A ++ List.replicate (N - (enc A).length) 0) = A := by
    rw [nv_append (words_enc A) hz, nv_enc]
    have : ∀ q, nv (List.replicate q (0 : Int)) = 0 := by
      intro q
      rw [← dgs_zero, nv_dgs, Nat.zero_mod]
    rw [this, Nat.mul_zero, Nat.add_zero]
  conv => rhs; rw [← hn]
  exact (dgs_nv ((words_enc A).append hz) (by rw [List.length_append, List.length_replicate]; omega)).symm
end Go.Proofs.YtkfdnpbpebmhaaaGreatDoor.Num
namespace Go.Proofs.YtkfdnpbpebmhaaaGreatDoor.Spec
open Go Go.RowKit Sx Num

abbrev T6 : Type := TypeId × TypeId × List Int × List Int × Nat × Nat
def V59 (X : List Int) (Y : List Int) (x : TypeId × TypeId × Nat × Nat) : Prop := Scaled (nv X) (nv Y) (2 ^ x.2.2.1) X.length Y.length ∧ 2 ≤ Y.length ∧ X.length < 137438953471 ∧ x.2.2.1 < 32 ∧ x.2.2.2 ≤ X.length + 1 - Y.length
theorem sub59 {xs ys : List Int} {st : St} {e : Ex} {s : St} {obs : List Prop} (h : F59 xs ys st = some (e, s, obs)) (hob : AllP obs) : ∃ x : TypeId × TypeId × Nat × Nat, V59 xs ys x ∧ SubS st (I59 x.1 x.2.1 xs ys x.2.2.1 x.2.2.2) ∧ e = .exit 0 ∧ s = I59 x.1 x.2.1 xs ys x.2.2.1 (xs.length + 1 - ys.length) := by
  unfold F59 at h
  split at h
  · rename_i s0 len cap vs len2 cap2 n i ty zs ty2 qs hz h1 h2 h3 h4 h5 h6 h7 h8
    simp only [Option.some.injEq, Prod.mk.injEq] at h
    obtain ⟨rfl, rfl, rfl⟩ := h
    obtain ⟨⟨hs0, hs⟩, rfl, rfl, rfl, rfl, rfl, rfl, rfl, rfl, rfl, hsc, h2', hl, _⟩ := hob
    obtain ⟨s, rfl⟩ := Int.eq_ofNat_of_zero_le hs0
    simp only [Int.toNat_natCast] at h3 h7 hsc
    refine ⟨(ty, ty2, s, 0), ⟨hsc, h2', hl, by show s < 32; omega, Nat.zero_le _⟩, ⟨?_, ?_, ?_⟩, rfl, rfl⟩
    · intro p hp
      simp only [I59, List.mem_cons, List.not_mem_nil, or_false] at hp
      rcases hp with rfl | rfl | rfl | rfl | rfl | rfl <;> exact ⟨by assumption, rfl⟩
    · intro p hp
      simp only [I59, List.mem_cons, List.not_mem_nil, or_false, Nat.sub_zero, U_full, Nat.mod_eq_of_lt hsc.big] at hp
      rcases hp with rfl | rfl <;> exact ⟨by assumption, rfl⟩
    · rw [hz]; intro h; cases h
  · cases h
theorem lo59 (xs ys : List Int) : ∀ c ∈ loopsF Tryz.f59, LoopOk Tryz.prog Tryz.f59.ntmps (L59 xs ys) c := by
  rw [show loopsF Tryz.f59 = [loopC Tryz.f59 0] by kernel_rfl]
  intro c hc
  rw [List.mem_singleton] at hc
  subst hc
  refine loop_ok (k := 10) (f := F59 xs ys) (α := TypeId × TypeId × Nat × Nat) (by kernel_rfl) rfl (fun x => I59 x.1 x.2.1 xs ys x.2.2.1 x.2.2.2) (fun x => I59 x.1 x.2.1 xs ys x.2.2.1 (xs.length + 1 - ys.length)) (V59 xs ys) (fun x => xs.length + 1 - ys.length - x.2.2.2) (.exit 0) (by simp) (fun st e s obs h hob => sub59 h hob) ?_
  rintro ⟨ty, ty2, s, i⟩ ⟨hsc, h2, hl, hs, hi⟩
  simp only at hsc h2 hl hs hi ⊢
  have hno : ∀ d ∈ loopsOf (loopC Tryz.f59 0), LoopOk Tryz.prog Tryz.f59.ntmps L0 d := by rw [show loopsOf (loopC Tryz.f59 0) = [] by kernel_rfl]; intro d hd; cases hd
  have hnm := hsc.hnm
  by_cases hlt : i < xs.length + 1 - ys.length
  · obtain ⟨k, hk⟩ : ∃ k, k = xs.length + 1 - ys.length - (i + 1) := ⟨_, rfl⟩
    have hk1 : xs.length + 1 - ys.length - i = k + 1 := by omega
    have hkn : k + (ys.length + 1) ≤ xs.length + 1 := by omega
    have w1 : IntKind.wrap IntKind.i64 (IntKind.wrap IntKind.i64 (((xs.length + 1 - ys.length : Nat) : Int) - 1) - (i : Int)) = (k : Int) := by
      rw [wi64 (((xs.length + 1 - ys.length : Nat) : Int) - 1) (by omega) (by omega), wi64 _ (by omega) (by omega)]; omega
    have w2 : IntKind.wrap IntKind.i64 (IntKind.wrap IntKind.i64 ((k : Int) + ((ys.length : Nat) : Int)) + 1) = ((k + ys.length + 1 : Nat) : Int) := by
      rw [wi64 ((k : Int) + ((ys.length : Nat) : Int)) (by omega) (by omega), wi64 _ (by omega) (by omega)]; omega
    have w3 : IntKind.wrap IntKind.i64 ((i : Int) + 1) = ((i + 1 : Nat) : Int) := by rw [wi64 _ (by omega) (by omega)]; omega
    have hLV := hsc.vlen
    have hVp := hsc.vpos
    have hq := hsc.quot
    have htop := hsc.top
    have hrl := hsc.rlt (k + 1)
    obtain ⟨V, hV⟩ : ∃ V, V = nv ys * 2 ^ s := ⟨_, rfl⟩
    obtain ⟨X, hX⟩ : ∃ X, X = nv xs * 2 ^ s := ⟨_, rfl⟩
    rw [← hV] at hLV hVp hq htop hrl
    rw [← hX] at hq hrl
    obtain ⟨r1, r2, r3⟩ := rest_step X V k hVp
    rw [hq] at r2
    obtain ⟨R, hR⟩ : ∃ R, R = X % (V * B ^ (k + 1)) := ⟨_, rfl⟩
    rw [← hR] at r1 r2 r3 hrl
    have hR2 : R < B ^ (k + (ys.length + 1)) := by rw [show k + (ys.length + 1) = k + 1 + ys.length by omega]; exact hrl
    have hWl : R / B ^ k < B ^ (ys.length + 1) := by
      rw [Nat.div_lt_iff_lt_mul (pow_pos' k), ← Nat.pow_add, Nat.add_comm]; exact hR2
    have hW : o_u (dgs (xs.length + 1) R) k (ys.length + 1) = R / B ^ k := by rw [u_dgs hkn, Nat.mod_eq_of_lt hWl]
    have hmodl : R / B ^ k % V < B ^ (ys.length + 1) := Nat.lt_of_le_of_lt (Nat.mod_le _ _) hWl
    have hwin := win_dgs hkn hmodl hR2
    have hUl : (o_U (xs.length + 1 - ys.length) (nv xs / nv ys) (k + 1)).length = xs.length + 1 - ys.length := U_length (by omega)
    have hset := U_set (n := xs.length + 1 - ys.length) (s := nv xs / nv ys) (k := k) (by omega)
    have htop' : 0 < dg V (ys.length - 1) := htop
    refine (codeV_sound hmix E10ok.hS hno (loop59a ty ty2 xs ys s i) ?_).mono ?_
    · rw [← hV, ← hX]
      simp only [AllP, w1, hk1, hLV, nv_enc, tnc, Nat.zero_add, w2, ← hR, hW, dgs_length, hUl]
      unfold B at r1
      and_intros <;> first | exact trivial | omega | assumption | exact words_dgs _ _ | exact words_enc _ | exact decide_eq_true (by omega)
    · rintro e st' ⟨rfl, hst⟩
      refine .inl ⟨rfl, (ty, ty2, s, i + 1), ⟨hsc, h2, hl, hs, by show i + 1 ≤ _; omega⟩, by simp only; omega, ?_, rfl⟩
      rw [← hV, ← hX] at hst
      simp only [w1, w3, hk1, hLV, nv_enc, tnc, Nat.zero_add, ← hR, hW, hwin, r2, r3, hset] at hst
      simp only [I59]
      rw [← hV, ← hX, ← hk]
      exact hst
  · have : i = xs.length + 1 - ys.length := by omega
    subst this
    refine (codeV_sound hmix E10ok.hS hno (loop59b ty ty2 xs ys s _) ?_).mono ?_
    · simp [AllP]
    · rintro e s ⟨rfl, hs⟩
      exact .inr ⟨rfl, hs⟩

/-- Quotient and rest, as the code answers. -/
def spDivR : Sp
  | [.one (.row .u32 xs), .one (.row .u32 ys)] => some (if nv xs < nv ys then .tup [.one (.v (.slice none 0 0)), roW xs] else .tup [roW (enc (nv xs / nv ys)), roW (enc (nv xs % nv ys))], [Canon xs, Canon ys, 0 < ys.length, xs.length < 137438953471, ys.length < 137438953471])
  | _ => none
def spDivN : Sp
  | [.one (.row .u32 xs), .one (.row .u32 ys)] => some (.tup [roW (enc (nv xs / nv ys)), roW (enc (nv xs % nv ys))], [Canon xs, Canon ys, 0 < ys.length, xs.length < 137438953471, ys.length < 137438953471])
  | _ => none
theorem divN {f : FuncId} (h : Con Tryz.prog f spDivR) : Con Tryz.prog f spDivN := by
  refine conWeaken (con_ans h) fun avs r ps hs hp => ?_
  unfold spDivN at hs
  split at hs
  · rename_i xs ys
    simp only [Option.some.injEq, Prod.mk.injEq] at hs
    obtain ⟨rfl, rfl⟩ := hs
    refine ⟨_, ?_, hp⟩
    simp only [nilAns, spDivR, Option.map_some, Option.some.injEq, Prod.mk.injEq, and_true]
    by_cases hlt : nv xs < nv ys
    · rw [if_pos hlt, Nat.div_eq_of_lt hlt, Nat.mod_eq_of_lt hlt, enc_nv hp.1]
      rfl
    · rw [if_neg hlt]; rfl
  · cases hs
theorem cmp_lt (a b : Nat) : decide (o_cmp a b < 0) = decide (a < b) := by
  unfold o_cmp
  by_cases h : a < b
  · simp [h]
  · rw [if_neg h]
    split <;> simp [h]
theorem one_word {ys : List Int} (h : Words ys) (h1 : ys.length = 1) : nv ys = (ys.getD 0 0).toNat := by
  match ys, h1 with
  | [y], _ => rw [nv_cons h, nv_nil]; simp
theorem con59r : Con Tryz.prog 59 spDivR := by
  refine con_runL (fn := Tryz.f59) hmix E10ok.hS (by kernel_rfl) (fun _ => by kernel_rfl) ?_
  intro avs r ps hsp hps
  unfold spDivR at hsp
  split at hsp
  · rename_i xs ys
    simp only [Option.some.injEq, Prod.mk.injEq] at hsp
    obtain ⟨rfl, rfl⟩ := hsp
    obtain ⟨hx, hy, h0, hl, hl', _⟩ := hps
    have hLx : Ln xs := by unfold Ln; omega
    have hLy : Ln ys := by unfold Ln; omega
    refine ⟨rfl, L59 xs ys, lo59 xs ys, ?_⟩
    have hno : ∀ {L}, L = L0 → ∀ d ∈ loopsF Tryz.f59, True := fun _ _ _ => trivial
    by_cases hlt : nv xs < nv ys
    · have hg : ∃ G fuel r' obs, fnEx Tryz.prog (lk E10) (L59 xs ys) G fuel Tryz.f59 [roW xs, roW ys] = some (r', obs) ∧ r' = .tup [.one (.v (.slice none 0 0)), roW xs] ∧ AllP obs := by
        refine ⟨_, _, _, _, run59a' xs ys, rfl, ?_⟩
        simp only [AllP, cmp_lt]
        and_intros <;> first | exact trivial | assumption | exact decide_eq_true hlt | exact hx.1 | exact hx.2 | exact hy.1 | exact hy.2
      rw [if_pos hlt]; exact hg
    · rw [if_neg hlt]
      have hle : ys.length ≤ xs.length := by
        rcases Nat.lt_or_ge xs.length ys.length with h | h
        · exact absurd (canon_lt hx.1 hy h) hlt
        · exact h
      by_cases h1 : ys.length = 1
      · have hY := one_word hy.1 h1
        have hYp : 0 < nv ys := (canon_top hy h0).2.2
        refine ⟨_, _, _, _, run59b' xs ys, ?_, ?_⟩
        · rw [show Int.toNat 0 = 0 from rfl, ← hY]
          have hw1 : Words [((nv xs % nv ys : Nat) : Int)] := by
            intro x hx'
            rw [List.mem_singleton] at hx'
            subst hx'
            have := Nat.mod_lt (nv xs) hYp
            have h5 := nv_lt hy.1
            rw [h1, Nat.pow_one] at h5
            unfold B at h5; omega
          have : nv (List.take 1 (List.drop 0 [((nv xs % nv ys : Nat) : Int)])) = nv xs % nv ys := by
            rw [List.drop_zero, show List.take 1 [((nv xs % nv ys : Nat) : Int)] = [((nv xs % nv ys : Nat) : Int)] from rfl, nv_cons hw1, nv_nil, tnc, Nat.mul_zero, Nat.add_zero]
          rw [this]; rfl
        · rw [show Int.toNat 0 = 0 from rfl]
          rw [← hY]
          have hYB : nv ys < 4294967296 := by have h5 := nv_lt hy.1; rw [h1, Nat.pow_one] at h5; exact h5
          have hr := Nat.mod_lt (nv xs) hYp
          have hw1 : Words (List.take 1 (List.drop 0 [((nv xs % nv ys : Nat) : Int)])) := by
            intro x hx'
            simp only [List.drop_zero, List.take_succ_cons, List.take_zero, List.mem_singleton] at hx'
            subst hx'
            omega
          have hg : ys.getD 0 0 = ((nv ys : Nat) : Int) := by rw [hY]; omega
          have hln : Ln (List.take 1 (List.drop 0 [((nv xs % nv ys : Nat) : Int)])) := by simp [Ln]
          simp only [AllP, cmp_lt, h1, hg]
          have hx1 := hx.1
          have hx2 := hx.2
          have hy1 := hy.1
          have hy2 := hy.2
          and_intros <;> first | exact trivial | omega | assumption | exact decide_eq_false hlt | rfl
      · obtain ⟨sh1, hsc⟩ := scaled_shift hx.1 hy h0 hle _ rfl
        obtain ⟨t, ht⟩ : ∃ t, t = dg (nv ys) (ys.length - 1) := ⟨_, rfl⟩
        rw [← ht] at sh1 hsc
        obtain ⟨s, hs⟩ : ∃ s, s = 32 - o_bl t := ⟨_, rfl⟩
        rw [← hs] at sh1 hsc
        have htb : t < B := by rw [ht]; exact dg_lt _ _
        have hbl : o_bl t ≤ 32 := bl_le (Nat.lt_trans htb (by decide)) htb
        have w1 : IntKind.wrap IntKind.i64 ((ys.length : Int) - 1) = ((ys.length - 1 : Nat) : Int) := by rw [wi64 _ (by omega) (by omega)]; omega
        have g1 : ys.getD (ys.length - 1) 0 = (t : Int) := by rw [ht]; exact nv_getD hy.1 _
        have hsI : (32 : Int) - ((o_bl t : Nat) : Int) = ((s : Nat) : Int) := by omega
        have hVn : nv (dgs (ys.length + 1) (nv ys * 2 ^ s)) = nv ys * 2 ^ s := by
          rw [nv_dgs, Nat.mod_eq_of_lt]
          exact Nat.lt_of_lt_of_le hsc.hV (Nat.pow_le_pow_right (by decide) (by omega))
        have hLV := hsc.vlen
        have htk : ∀ n v, List.take n (dgs n v) = dgs n v := fun n v => List.take_of_length_le (by rw [dgs_length]; exact Nat.le_refl _)
        have hw4 : IntKind.wrap IntKind.i64 (((xs.length + 1 : Nat) : Int) - ((ys.length : Nat) : Int)) = ((xs.length + 1 - ys.length : Nat) : Int) := by rw [wi64 _ (by omega) (by omega)]; omega
        have hQ : nv xs / nv ys < B ^ (xs.length + 1 - ys.length) := by
          rw [← hsc.quot, Nat.div_lt_iff_lt_mul hsc.vpos, Nat.mul_comm (B ^ _)]; exact hsc.big
        have hRl : nv xs * 2 ^ s % (nv ys * 2 ^ s) < B ^ (xs.length + 1) := Nat.lt_of_le_of_lt (Nat.mod_le _ _) hsc.xlt
        have hR : nv xs * 2 ^ s % (nv ys * 2 ^ s) / 2 ^ s = nv xs % nv ys := by rw [hsc.rem, Nat.mul_div_cancel _ (Nat.two_pow_pos s)]
        have hRe := (enc_len (nv xs * 2 ^ s % (nv ys * 2 ^ s)) (xs.length + 1)).2 hRl
        refine ⟨_, _, _, _, run59c xs ys, ?_, ?_⟩
        · simp only [w1, tnc, g1, hsI, Nat.sub_self, Nat.pow_zero, Nat.mul_one, List.drop_zero, U_zero, htk, nv_dgs, Nat.mod_eq_of_lt hQ, Nat.mod_eq_of_lt hRl, nv_enc, hR]
          rfl
        · simp only [AllP, w1, tnc, g1, hsI, cmp_lt, Nat.sub_self, Nat.pow_zero, Nat.mul_one, List.drop_zero, U_zero, htk, dgs_length, hVn, hLV, hw4, nv_dgs, Nat.mod_eq_of_lt hRl]
          have hx1 := hx.1
          have hy1 := hy.1
          have hx2 := hx.2
          have hy2 := hy.2
          unfold B at htb
          and_intros <;> first | exact trivial | omega | assumption | exact words_dgs _ _ | exact words_enc _ | exact decide_eq_false hlt | exact decide_eq_false (by omega) | (unfold Ln; rw [dgs_length]; omega) | rfl
  · cases hsp

end Go.Proofs.YtkfdnpbpebmhaaaGreatDoor.Spec
namespace Go.Proofs.YtkfdnpbpebmhaaaGreatDoor.Spec
open Go Go.RowKit Sx Num

def V74 (X : List Int) (Y : List Int) (x : TypeId × TypeId × Nat × Nat) : Prop := Scaled (nv X) (nv Y) x.2.2.1 X.length Y.length ∧ 2 ≤ Y.length ∧ X.length < 137438953471 ∧ x.2.2.2 ≤ X.length + 1 - Y.length
theorem sub74 {xs ys : List Int} {st : St} {e : Ex} {s : St} {obs : List Prop} (h : F74 xs ys st = some (e, s, obs)) (hob : AllP obs) : ∃ x : TypeId × TypeId × Nat × Nat, V74 xs ys x ∧ SubS st (I74 x.1 x.2.1 xs ys x.2.2.1 x.2.2.2) ∧ e = .exit 0 ∧ s = I74 x.1 x.2.1 xs ys x.2.2.1 0 := by
  unfold F74 at h
  split at h
  · rename_i n d vs len cap len2 cap2 j ty zs ty2 qs hz h1 h2 h3 h4 h5 h6 h7 h8
    simp only [Option.some.injEq, Prod.mk.injEq] at h
    obtain ⟨rfl, rfl, rfl⟩ := h
    obtain ⟨hd0, rfl, rfl, rfl, rfl, rfl, rfl, rfl, rfl, rfl, hsc, h2', hl, _⟩ := hob
    obtain ⟨d, rfl⟩ := Int.eq_ofNat_of_zero_le hd0
    simp only [Int.toNat_natCast] at h3 h7 hsc
    refine ⟨(ty, ty2, d, xs.length + 1 - ys.length), ⟨hsc, h2', hl, Nat.le_refl _⟩, ⟨?_, ?_, ?_⟩, rfl, rfl⟩
    · intro p hp
      simp only [I74, List.mem_cons, List.not_mem_nil, or_false] at hp
      rcases hp with rfl | rfl | rfl | rfl | rfl | rfl <;> exact ⟨by assumption, rfl⟩
    · intro p hp
      simp only [I74, List.mem_cons, List.not_mem_nil, or_false, U_full, Nat.mod_eq_of_lt hsc.big] at hp
      rcases hp with rfl | rfl <;> exact ⟨by assumption, rfl⟩
    · rw [hz]; intro h; cases h
  · cases h
theorem u32_lt (x : Nat) (h : x < B) : IntKind.wrap IntKind.u32 (x : Int) = x := by
  rw [w32]
  exact Int.emod_eq_of_lt (Int.natCast_nonneg _) (by unfold B at h; omega)
theorem lo74 (xs ys : List Int) : ∀ c ∈ loopsF Tryz.f74, LoopOk Tryz.prog Tryz.f74.ntmps (L74 xs ys) c := by
  rw [show loopsF Tryz.f74 = [loopC Tryz.f74 0] by kernel_rfl]
  intro c hc
  rw [List.mem_singleton] at hc
  subst hc
  refine loop_ok (k := 13) (f := F74 xs ys) (α := TypeId × TypeId × Nat × Nat) (by kernel_rfl) rfl (fun x => I74 x.1 x.2.1 xs ys x.2.2.1 x.2.2.2) (fun x => I74 x.1 x.2.1 xs ys x.2.2.1 0) (V74 xs ys) (fun x => x.2.2.2) (.exit 0) (by simp) (fun st e s obs h hob => sub74 h hob) ?_
  rintro ⟨ty, ty2, s, k1⟩ ⟨hsc, h2, hl, hi⟩
  simp only at hsc h2 hl hi ⊢
  have hno : ∀ d ∈ loopsOf (loopC Tryz.f74 0), LoopOk Tryz.prog Tryz.f74.ntmps L0 d := by rw [show loopsOf (loopC Tryz.f74 0) = [] by kernel_rfl]; intro d hd; cases hd
  have hnm := hsc.hnm
  by_cases hlt : 0 < k1
  · obtain ⟨k, rfl⟩ : ∃ k, k1 = k + 1 := ⟨k1 - 1, by omega⟩
    have hkn : k + (ys.length + 1) ≤ xs.length + 1 := by omega
    have w1 : ((k + 1 : Nat) : Int) - 1 = (k : Int) := by omega
    have w2 : IntKind.wrap IntKind.i64 (IntKind.wrap IntKind.i64 ((k : Int) + ((ys.length : Nat) : Int)) + 1) = ((k + ys.length + 1 : Nat) : Int) := by
      rw [wi64 ((k : Int) + ((ys.length : Nat) : Int)) (by omega) (by omega), wi64 _ (by omega) (by omega)]; omega
    have w3 : IntKind.wrap IntKind.i64 ((k : Int) - 1) = (k : Int) - 1 := by rw [wi64 _ (by omega) (by omega)]
    have hdiff : k + ys.length + 1 - k = ys.length + 1 := by omega
    have hLV := hsc.vlen
    have hVp := hsc.vpos
    have hq := hsc.quot
    have htop := hsc.top
    have hVl := hsc.hV
    have hrl := hsc.rlt (k + 1)
    obtain ⟨V, hV⟩ : ∃ V, V = nv ys * s := ⟨_, rfl⟩
    obtain ⟨X, hX⟩ : ∃ X, X = nv xs * s := ⟨_, rfl⟩
    rw [← hV] at hLV hVp hq htop hrl hVl
    rw [← hX] at hq hrl
    obtain ⟨r1, r2, r3⟩ := rest_step X V k hVp
    rw [hq] at r2
    obtain ⟨R, hR⟩ : ∃ R, R = X % (V * B ^ (k + 1)) := ⟨_, rfl⟩
    rw [← hR] at r1 r2 r3 hrl
    have hR2 : R < B ^ (k + (ys.length + 1)) := by rw [show k + (ys.length + 1) = k + 1 + ys.length by omega]; exact hrl
    have hWl : R / B ^ k < B ^ (ys.length + 1) := by
      rw [Nat.div_lt_iff_lt_mul (pow_pos' k), ← Nat.pow_add, Nat.add_comm]; exact hR2
    have hW : o_u (dgs (xs.length + 1) R) k (ys.length + 1) = R / B ^ k := by rw [u_dgs hkn, Nat.mod_eq_of_lt hWl]
    have hW0 : nv (List.take (ys.length + 1) (List.drop k (dgs (xs.length + 1) R))) = R / B ^ k := hW
    have hWw : Words (List.take (ys.length + 1) (List.drop k (dgs (xs.length + 1) R))) := part_words (words_dgs _ _)
    have hWn : (List.take (ys.length + 1) (List.drop k (dgs (xs.length + 1) R))).length = ys.length + 1 := part_length (by rw [dgs_length]; exact hkn)
    have hmodl : R / B ^ k % V < B ^ (ys.length + 1) := Nat.lt_of_le_of_lt (Nat.mod_le _ _) hWl
    have hwin := win_dgs hkn hmodl hR2
    have hUl : (o_U (xs.length + 1 - ys.length) (nv xs / nv ys) (k + 1)).length = xs.length + 1 - ys.length := U_length (by omega)
    have hset := U_set (n := xs.length + 1 - ys.length) (s := nv xs / nv ys) (k := k) (by omega)
    obtain ⟨g1, g2, g3⟩ := guess_spec h2 hWl hVl htop r1
    obtain ⟨W, hWdef⟩ : ∃ W, W = R / B ^ k := ⟨_, rfl⟩
    rw [← hWdef] at r1 r2 r3 hW hW0 hmodl hwin g1 g2 g3 hWl
    obtain ⟨g, hg⟩ : ∃ g, g = o_guess W V ys.length := ⟨_, rfl⟩
    rw [← hg] at g1 g2 g3
    by_cases hov : W < g * V
    · have hgq := guess_over g1 g2 hov
      obtain ⟨Q, hQ⟩ : ∃ Q, Q = W / V := ⟨_, rfl⟩
      have hQB : Q < B := by rw [← hQ] at hgq; omega
      have hgI : IntKind.wrap IntKind.u32 (IntKind.wrap IntKind.u64 ((g : Int) - 1)) = ((W / V : Nat) : Int) := by
        rw [hgq, ← hQ, show (((Q + 1 : Nat) : Int) - 1) = (Q : Int) by omega, u64_lt _ hQB, u32_lt _ hQB]
      have hqV : g * V < B ^ (ys.length + 1) := mul_lt_pow g3 hVl
      have hs1 : (W + B ^ (ys.length + 1) - g * V) % B ^ (ys.length + 1) = W + B ^ (ys.length + 1) - g * V := Nat.mod_eq_of_lt (by omega)
      have hu1 : o_u (o_win (dgs (xs.length + 1) R) k (dgs (ys.length + 1) (W + B ^ (ys.length + 1) - g * V))) k (ys.length + 1) = W + B ^ (ys.length + 1) - g * V := by
        rw [u_win (by rw [dgs_length]; exact hkn), hs1]
      have hs2 : W + B ^ (ys.length + 1) - g * V + V = W + B ^ (ys.length + 1) - W / V * V := by
        rw [hgq, Nat.add_mul, Nat.one_mul]
        rw [hgq, Nat.add_mul, Nat.one_mul] at hqV
        omega
      have hfull : dgs (ys.length + 1) (W + B ^ (ys.length + 1) - g * V + V) = dgs (ys.length + 1) (W % V) := by rw [hs2, less_dgs]
      have hww : o_win (o_win (dgs (xs.length + 1) R) k (dgs (ys.length + 1) (W + B ^ (ys.length + 1) - g * V))) k (dgs (ys.length + 1) (W % V)) = o_win (dgs (xs.length + 1) R) k (dgs (ys.length + 1) (W % V)) := win_win (by rw [dgs_length, dgs_length]; exact hkn) (by rw [dgs_length, dgs_length])
      have hwl : (o_win (dgs (xs.length + 1) R) k (dgs (ys.length + 1) (W + B ^ (ys.length + 1) - g * V))).length = xs.length + 1 := by rw [wdgs_len (by rw [dgs_length]; exact hkn), dgs_length]
      have hwW : Words (o_win (dgs (xs.length + 1) R) k (dgs (ys.length + 1) (W + B ^ (ys.length + 1) - g * V))) := win_words (words_dgs _ _) (words_dgs _ _)
      have htop' : 0 < dg V (ys.length - 1) := htop
      refine (codeV_sound hmix E10ok.hS hno (loop74a ty ty2 xs ys s (k + 1)) ?_).mono ?_
      · rw [← hV, ← hX]
        simp only [AllP, w1, hLV, nv_enc, tnc, Nat.zero_add, w2, hdiff, ← hR, hW, hW0, ← hg, dgs_length, hUl, hWn, hwl]
        unfold B at g3
        and_intros <;> first | exact trivial | omega | assumption | exact words_dgs _ _ | exact words_enc _ | exact decide_eq_true (by omega) | exact decide_eq_true hov
      · rintro e st' ⟨rfl, hst⟩
        refine .inl ⟨rfl, (ty, ty2, s, k), ⟨hsc, h2, hl, by show k ≤ _; omega⟩, by simp only; omega, ?_, rfl⟩
        rw [← hV, ← hX] at hst
        simp only [w1, w2, w3, hLV, nv_enc, tnc, Nat.zero_add, hdiff, ← hR, hW, hW0, ← hg, hu1, hfull, hww, hwin, hgI, r2, r3, hset] at hst
        simp only [I74]
        rw [← hV, ← hX]
        exact hst
    · have hgq := guess_exact hVp g1 hov
      have hgI : IntKind.wrap IntKind.u32 ((g : Nat) : Int) = ((W / V : Nat) : Int) := by rw [u32_lt _ g3, hgq]
      have hs2 : W + B ^ (ys.length + 1) - g * V = W + B ^ (ys.length + 1) - W / V * V := by rw [← hgq]
      have htop' : 0 < dg V (ys.length - 1) := htop
      refine (codeV_sound hmix E10ok.hS hno (loop74b ty ty2 xs ys s (k + 1)) ?_).mono ?_
      · rw [← hV, ← hX]
        simp only [AllP, w1, hLV, nv_enc, tnc, Nat.zero_add, w2, hdiff, ← hR, hW, hW0, ← hg, dgs_length, hUl, hWn]
        unfold B at g3
        and_intros <;> first | exact trivial | omega | assumption | exact words_dgs _ _ | exact words_enc _ | exact decide_eq_true (by omega) | exact decide_eq_false hov
      · rintro e st' ⟨rfl, hst⟩
        refine .inl ⟨rfl, (ty, ty2, s, k), ⟨hsc, h2, hl, by show k ≤ _; omega⟩, by simp only; omega, ?_, rfl⟩
        rw [← hV, ← hX] at hst
        simp only [w1, w2, w3, hLV, nv_enc, tnc, Nat.zero_add, hdiff, ← hR, hW, hW0, ← hg, hgI] at hst
        rw [hs2, less_dgs, hwin, r2, r3, hset] at hst
        simp only [I74]
        rw [← hV, ← hX]
        exact hst
  · have : k1 = 0 := by omega
    subst this
    refine (codeV_sound hmix E10ok.hS hno (loop74c ty ty2 xs ys s _) ?_).mono ?_
    · simp [AllP]
    · rintro e s ⟨rfl, hs⟩
      exact .inr ⟨rfl, hs⟩

theorem con74r : Con Tryz.prog 74 spDivR := by
  refine con_runL (fn := Tryz.f74) hmix E10ok.hS (by kernel_rfl) (fun _ => by kernel_rfl) ?_
  intro avs r ps hsp hps
  unfold spDivR at hsp
  split at hsp
  · rename_i xs ys
    simp only [Option.some.injEq, Prod.mk.injEq] at hsp
    obtain ⟨rfl, rfl⟩ := hsp
    obtain ⟨hx, hy, h0, hl, hl', _⟩ := hps
    have hLx : Ln xs := by unfold Ln; omega
    have hLy : Ln ys := by unfold Ln; omega
    have hx1 := hx.1
    have hx2 := hx.2
    have hy1 := hy.1
    have hy2 := hy.2
    refine ⟨rfl, L74 xs ys, lo74 xs ys, ?_⟩
    by_cases hlt : nv xs < nv ys
    · rw [if_pos hlt]
      refine ⟨_, _, _, _, run74a' xs ys, rfl, ?_⟩
      simp only [AllP, cmp_lt]
      and_intros <;> first | exact trivial | assumption | exact decide_eq_true hlt
    · rw [if_neg hlt]
      have hle : ys.length ≤ xs.length := by
        rcases Nat.lt_or_ge xs.length ys.length with h | h
        · exact absurd (canon_lt hx.1 hy h) hlt
        · exact h
      by_cases h1 : ys.length = 1
      · have hY := one_word hy.1 h1
        have hYp : 0 < nv ys := (canon_top hy h0).2.2
        have hYB : nv ys < 4294967296 := by have h5 := nv_lt hy.1; rw [h1, Nat.pow_one] at h5; exact h5
        have hr := Nat.mod_lt (nv xs) hYp
        have hg : ys.getD 0 0 = ((nv ys : Nat) : Int) := by have := Words.getD hy.1 0; rw [hY]; omega
        have hwy : IntKind.wrap IntKind.u64 ((nv ys : Nat) : Int) = ((nv ys : Nat) : Int) := u64_lt _ hYB
        refine ⟨_, _, _, _, run74b' xs ys, ?_, ?_⟩
        · simp only [show Int.toNat 0 = 0 from rfl, hg, hwy, tnc]
          rfl
        · simp only [AllP, cmp_lt, show Int.toNat 0 = 0 from rfl, h1, hg, hwy, tnc]
          and_intros <;> first | exact trivial | omega | assumption | exact decide_eq_false hlt | rfl
      · obtain ⟨sh1, hsc⟩ := scaled_word hx.1 hy h0 hle _ rfl
        obtain ⟨t, ht⟩ : ∃ t, t = dg (nv ys) (ys.length - 1) := ⟨_, rfl⟩
        rw [← ht] at sh1 hsc
        obtain ⟨d, hd⟩ : ∃ d, d = B / (t + 1) := ⟨_, rfl⟩
        rw [← hd] at sh1 hsc
        have htb : t < B := by rw [ht]; exact dg_lt _ _
        have w1 : IntKind.wrap IntKind.i64 ((ys.length : Int) - 1) = ((ys.length - 1 : Nat) : Int) := by rw [wi64 _ (by omega) (by omega)]; omega
        have w2 : IntKind.wrap IntKind.i64 ((xs.length : Int) + 1) = ((xs.length + 1 : Nat) : Int) := by rw [wi64 _ (by omega) (by omega)]; omega
        have w3 : IntKind.wrap IntKind.i64 ((xs.length : Int) - (ys.length : Int)) = ((xs.length + 1 - ys.length : Nat) : Int) - 1 := by rw [wi64 _ (by omega) (by omega)]; omega
        have w4 : IntKind.wrap IntKind.i64 ((((xs.length + 1 - ys.length : Nat) : Int) - 1) + 1) = ((xs.length + 1 - ys.length : Nat) : Int) := by rw [wi64 _ (by omega) (by omega)]; omega
        have g1 : ys.getD (ys.length - 1) 0 = (t : Int) := by rw [ht]; exact nv_getD hy.1 _
        have hwt : IntKind.wrap IntKind.u64 (IntKind.wrap IntKind.u64 (t : Int) + 1) = ((t + 1 : Nat) : Int) := by
          rw [u64_lt _ htb, w64]; unfold B at htb; omega
        have hdI : IntKind.wrap IntKind.u64 (Int.tdiv 4294967296 ((t + 1 : Nat) : Int)) = ((d : Nat) : Int) := by
          rw [show (4294967296 : Int) = ((B : Nat) : Int) from rfl, Int.tdiv_eq_ediv_of_nonneg (Int.natCast_nonneg _), ← Int.natCast_ediv, ← hd]
          exact u64_lt _ sh1
        have hdp := hsc.hc
        have htk : ∀ n v, List.take n (dgs n v) = dgs n v := fun n v => List.take_of_length_le (by rw [dgs_length]; exact Nat.le_refl _)
        have hQ : nv xs / nv ys < B ^ (xs.length + 1 - ys.length) := by
          rw [← hsc.quot, Nat.div_lt_iff_lt_mul hsc.vpos, Nat.mul_comm (B ^ _)]; exact hsc.big
        have hRl : nv xs * d % (nv ys * d) < B ^ (xs.length + 1) := Nat.lt_of_le_of_lt (Nat.mod_le _ _) hsc.xlt
        have hR : nv xs * d % (nv ys * d) / d = nv xs % nv ys := by rw [hsc.rem, Nat.mul_div_cancel _ hdp]
        have hRe := (enc_len (nv xs * d % (nv ys * d)) (xs.length + 1)).2 hRl
        have hde : (enc d).length ≤ 1 := (enc_len d 1).2 (by rw [Nat.pow_one]; exact sh1)
        have hpad := enc_pad hsc.xlt
        refine ⟨_, _, _, _, run74c xs ys, ?_, ?_⟩
        · simp only [w1, tnc, g1, hwt, hdI, Nat.pow_zero, Nat.mul_one, List.drop_zero, U_zero, htk, nv_dgs, Nat.mod_eq_of_lt hQ, Nat.mod_eq_of_lt hRl, nv_enc, hR]
          rfl
        · simp only [AllP, w1, w2, w3, w4, tnc, g1, hwt, hdI, cmp_lt, Nat.pow_zero, Nat.mul_one, List.drop_zero, U_zero, htk, dgs_length, nv_enc, nv_dgs, Nat.mod_eq_of_lt hRl, List.length_replicate]
          unfold B at htb sh1
          and_intros <;> first | exact trivial | omega | assumption | exact words_dgs _ _ | exact words_enc _ | exact decide_eq_false hlt | exact decide_eq_false (by omega) | (unfold Ln; rw [dgs_length]; omega) | (unfold Ln; omega) | rfl
  · cases hsp
def E11 : List (Nat × Ctr) := (59, .fn spDivN) :: (74, .fn spDivN) :: E10
theorem E11ok : EnvOk Tryz.prog E11 := .cons (divN con59r) (.cons (divN con74r) E10ok)

end Go.Proofs.YtkfdnpbpebmhaaaGreatDoor.Spec
namespace Go.Proofs.YtkfdnpbpebmhaaaGreatDoor.Spec
open Go Go.RowKit Sx Num

def unA : SV → SV
  | .abs zs => .agg (absL zs)
  | x => x
def unAA : AV → AV
  | .s x => .s (unA x)
  | .tup xs => .tup (xs.map unA)
theorem gS_unA {M : Nat → Prop} {β : Nat → Nat} {w : World} (x : SV) (u : Value) : gS M β w (unA x) u ↔ gS M β w x u := by
  cases x <;> exact Iff.rfl
theorem gSs_unA {M : Nat → Prop} {β : Nat → Nat} {w : World} : ∀ (xs : List SV) (us : List Value), gSs M β w (xs.map unA) us ↔ gSs M β w xs us
  | [], [] => Iff.rfl
  | x :: xs, u :: us => by
    simp only [List.map_cons, gSs, gS_unA, gSs_unA xs us]
  | [], _ :: _ => Iff.rfl
  | _ :: _, [] => Iff.rfl
theorem gA_unAA {M : Nat → Prop} {β : Nat → Nat} {w : World} (x : AV) (u : Value) : gA M β w (unAA x) u ↔ gA M β w x u := by
  cases x with
  | s x => exact gS_unA x u
  | tup xs => simp only [unAA, gA, gSs_unA]
/-- A contract that speaks of numbers, out of one that speaks of words. -/
theorem con_abs {P : Program} {f : FuncId} {sp sp' : Sp} (h : Con P f sp) (hw : ∀ avs r ps, sp' avs = some (r, ps) → AllP ps → r.okB noB = true ∧ ∃ r0 qs, sp (avs.map unA) = some (r0, qs) ∧ r0 = unAA r ∧ AllP qs) : Con P f sp' :=
  ⟨h.enters, fun avs r ps hs hp M β w vs hM hg => by
    obtain ⟨hok, r0, qs, h1, rfl, h3⟩ := hw avs r ps hs (allP_iff.2 hp)
    exact (h.calls _ _ qs h1 (allP_iff.1 h3) M β w vs hM ((gSs_unA _ _).2 hg)).mono fun e w' ⟨u, he, _, hgu, hb⟩ => ⟨u, he, hok, (gA_unAA _ _).1 hgu, hb⟩⟩

def o_toI (s : Bool) (xs : List Int) : Int := if s = true then -(nv xs : Int) else nv xs
def o_ok (s : Bool) (xs : List Int) : Prop := Canon xs ∧ (s = true → xs ≠ [])
def o_sz (n : Nat) (z : Int) : Prop := z.natAbs < B ^ n
theorem ok_enc (z : Int) : o_ok (decide (z < 0)) (enc z.natAbs) := by
  refine ⟨canon_enc _, fun h e => ?_⟩
  have hz : z < 0 := of_decide_eq_true h
  have : (enc z.natAbs).length = 0 := by rw [e]; rfl
  have := (enc_len_pos z.natAbs).2 (by omega)
  omega
theorem toI_enc (z : Int) : o_toI (decide (z < 0)) (enc z.natAbs) = z := by
  unfold o_toI
  rw [nv_enc]
  by_cases h : z < 0
  · rw [if_pos (by simp [h])]; omega
  · rw [if_neg (by simp [h])]; omega
theorem toI_abs {s : Bool} {xs : List Int} (h : o_ok s xs) : decide (o_toI s xs < 0) = s ∧ enc (o_toI s xs).natAbs = xs := by
  obtain ⟨hc, hs⟩ := h
  unfold o_toI
  cases s with
  | false => exact ⟨by simp, by simp [enc_nv hc]⟩
  | true =>
    have hp : 0 < nv xs := by
      rcases Nat.eq_zero_or_pos (nv xs) with e | e
      · have := enc_nv hc; rw [e, enc_zero] at this; exact absurd this.symm (hs rfl)
      · exact e
    exact ⟨by simp; omega, by simp [enc_nv hc]⟩
/-- A number, read back from its sign and words. -/
def o_rt (z : Int) : Int := o_toI (decide (z < 0)) (enc z.natAbs)
theorem rt_eq (z : Int) : o_rt z = z := toI_enc z
def o_okz (z : Int) : Prop := o_ok (decide (z < 0)) (enc z.natAbs)
theorem okz_t (z : Int) : o_okz z ↔ True := ⟨fun _ => trivial, fun _ => ok_enc z⟩
theorem sz_mono {m n : Nat} {z : Int} (h : o_sz m z) (hmn : m ≤ n) : o_sz n z := Nat.lt_of_lt_of_le h (Nat.pow_le_pow_right (by decide) hmn)
theorem sz_len {n : Nat} {z : Int} (h : o_sz n z) : (enc z.natAbs).length ≤ n := (enc_len _ _).2 h
theorem sz_neg {n : Nat} {z : Int} (h : o_sz n z) : o_sz n (-z) := by unfold o_sz at *; rwa [Int.natAbs_neg]
theorem sz_add {m n : Nat} {x y : Int} (h : o_sz m x) (k : o_sz n y) : o_sz (max m n + 1) (x + y) := by
  unfold o_sz at *
  have h1 : x.natAbs < B ^ max m n := Nat.lt_of_lt_of_le h (Nat.pow_le_pow_right (by decide) (Nat.le_max_left _ _))
  have h2 : y.natAbs < B ^ max m n := Nat.lt_of_lt_of_le k (Nat.pow_le_pow_right (by decide) (Nat.le_max_right _ _))
  have h3 := Int.natAbs_add_le x y
  rw [Nat.pow_succ]
  have : B ^ max m n * 2 ≤ B ^ max m n * B := Nat.mul_le_mul_left _ (by decide)
  omega
theorem sz_sub {m n : Nat} {x y : Int} (h : o_sz m x) (k : o_sz n y) : o_sz (max m n + 1) (x - y) := by
  rw [Int.sub_eq_add_neg]; exact sz_add h (sz_neg k)
theorem sz_mul {m n : Nat} {x y : Int} (h : o_sz m x) (k : o_sz n y) : o_sz (m + n) (x * y) := by
  unfold o_sz at *
  rw [Int.natAbs_mul, Nat.pow_add]
  exact Nat.mul_lt_mul_of_lt_of_le h (Nat.le_of_lt k) (pow_pos' n)
theorem sz_zero (n : Nat) : o_sz n 0 := by unfold o_sz; exact pow_pos' n

/-- Arguments that are structs of signs and words go as numbers. -/
def zfix : SV → SV × List Prop
  | .agg [.v (.bool s), .row .u32 xs] => (.abs [o_toI s xs], [o_ok s xs])
  | .agg [.v (.bool s), .v (.slice none 0 0)] => (.abs [0], [s = false])
  | .agg [.v (.bool s), .row .u32 xs, .v (.bool t), .row .u32 ys] => (.abs [o_toI s xs, o_toI t ys], [o_ok s xs, o_ok t ys])
  | x => (x, [])
def zfixs : List SV → List SV × List Prop
  | [] => ([], [])
  | x :: xs => ((zfix x).1 :: (zfixs xs).1, (zfix x).2 ++ (zfixs xs).2)
theorem zfix_g {M : Nat → Prop} {β : Nat → Nat} {w : World} {x : SV} {u : Value} (h : gS M β w x u) (hp : ∀ p, p ∈ (zfix x).2 → p) : gS M β w (zfix x).1 u := by
  unfold zfix at hp ⊢
  split
  · rename_i s xs
    have hk : o_ok s xs := hp _ (List.mem_singleton.2 rfl)
    obtain ⟨h1, h2⟩ := toI_abs hk
    obtain ⟨arr, e, hg⟩ := h
    refine ⟨arr, e, ?_⟩
    simp only [absL, h1, h2]
    exact hg
  · rename_i s
    have hk : s = false := hp _ (List.mem_singleton.2 rfl)
    subst hk
    obtain ⟨arr, rfl, hg⟩ := h
    refine ⟨arr, rfl, ?_⟩
    match hq : arr.toList, hg with
    | [a, b], hg =>
      have hb : b = .slice none 0 0 := hg.2.1
      subst hb
      exact ⟨hg.1, ⟨none, 0, rfl, Nat.le_refl _, by simp [enc_zero], fun _ _ h => by simp [enc_zero] at h⟩, trivial⟩
    | [], hg => exact hg.elim
    | [_], hg => exact hg.2.elim
    | _ :: _ :: _ :: _, hg => exact hg.2.2.elim
  · rename_i s xs t ys
    have hk : o_ok s xs := hp _ (List.mem_cons_self ..)
    have hk' : o_ok t ys := hp _ (List.mem_cons_of_mem _ (List.mem_singleton.2 rfl))
    obtain ⟨h1, h2⟩ := toI_abs hk
    obtain ⟨h3, h4⟩ := toI_abs hk'
    obtain ⟨arr, e, hg⟩ := h
    refine ⟨arr, e, ?_⟩
    simp only [absL, h1, h2, h3, h4]
    exact hg
  · exact h
theorem zfixs_g {M : Nat → Prop} {β : Nat → Nat} {w : World} : ∀ {xs : List SV} {us : List Value}, gSs M β w xs us → (∀ p, p ∈ (zfixs xs).2 → p) → gSs M β w (zfixs xs).1 us
  | [], [], _, _ => trivial
  | _x :: _xs, _u :: _us, h, hp => ⟨zfix_g h.1 fun p hm => hp p (List.mem_append.2 (.inl hm)), zfixs_g h.2 fun p hm => hp p (List.mem_append.2 (.inr hm))⟩
  | [], _ :: _, h, _ => h.elim
  | _ :: _, [], h, _ => h.elim
def zArgs (sp : Sp) : Sp := fun avs => (sp (zfixs avs).1).map fun (r, qs) => (r, (zfixs avs).2 ++ qs)
theorem con_z {P : Program} {f : FuncId} {sp : Sp} (h : Con P f sp) : Con P f (zArgs sp) :=
  ⟨h.enters, fun avs r ps hs hp M β w vs hM hg => by
    unfold zArgs at hs
    obtain ⟨⟨r0, qs⟩, h1, h2⟩ := Option.map_eq_some_iff.1 hs
    simp only [Prod.mk.injEq] at h2
    obtain ⟨rfl, rfl⟩ := h2
    exact h.calls _ r0 qs h1 (fun p hm => hp p (List.mem_append.2 (.inr hm))) M β w vs hM (zfixs_g hg fun p hm => hp p (List.mem_append.2 (.inl hm)))⟩
theorem allP_append {l r : List Prop} : AllP (l ++ r) ↔ AllP l ∧ AllP r := by
  rw [allP_iff, allP_iff, allP_iff]
  exact ⟨fun h => ⟨fun p hp => h p (List.mem_append.2 (.inl hp)), fun p hp => h p (List.mem_append.2 (.inr hp))⟩, fun h p hp => (List.mem_append.1 hp).elim (h.1 p) (h.2 p)⟩
/-- What an integer's sign and words come to. -/
theorem mkN_abs (s : Bool) (n : Nat) (z : Int) (h : z = if s = true then -(n : Int) else n) : mkN s n = .agg (absL [z]) := by
  unfold mkN absL
  cases s with
  | false =>
    have : z = (n : Int) := by simpa using h
    subst this
    simp [absL]
  | true =>
    have : z = -(n : Int) := by simpa using h
    subst this
    have e1 : decide (0 < n) = decide (-(n : Int) < 0) := by rw [decide_eq_decide]; omega
    simp [absL]
theorem con_runZ {P : Program} {S : FuncId → Option Ctr} {f : FuncId} {fn : Func} {sp : Sp} (hm : P.follows .mixedOrders = true) (hS : ∀ f c, S f = some c → Cn P f c) (hf : P.funcs[f]? = some fn) (hent : ∀ args : Array Value, pureRun P (callFunc f args) = some (.enter f args))
    (h : ∀ avs r ps, sp avs = some (r, ps) → AllP ps → (Nat.ble avs.length fn.ntmps && ((avs.all fun x => x.okB noB) && r.okB noB)) = true ∧ ∃ L, (∀ d ∈ loopsF fn, LoopOk P fn.ntmps L d) ∧ ∃ G fuel r' obs, fnEx P S L G fuel fn avs = some (r', obs) ∧ r' = unAA r ∧ AllP obs) : Con P f sp := by
  have h0 : Con P f (fun avs => (sp avs).map fun (r, ps) => (unAA r, ps)) := by
    refine con_runL (fn := fn) hm hS hf hent fun avs r ps hs hp => ?_
    obtain ⟨⟨r0, qs⟩, h1, h2⟩ := Option.map_eq_some_iff.1 hs
    simp only [Prod.mk.injEq] at h2
    obtain ⟨rfl, rfl⟩ := h2
    obtain ⟨e1, e2⟩ := h avs r0 qs h1 hp
    simp only [Bool.and_eq_true] at e1 ⊢
    exact ⟨⟨e1.1, e1.2.1⟩, e2⟩
  refine ⟨hent, fun avs r ps hs hp M β w vs hM hg => ?_⟩
  obtain ⟨e1, _⟩ := h avs r ps hs (allP_iff.2 hp)
  simp only [Bool.and_eq_true] at e1
  exact (h0.calls avs (unAA r) ps (by show (sp avs).map _ = _; rw [hs]; rfl) hp M β w vs hM hg).mono fun e w' ⟨u, he, _, hgu, hb⟩ => ⟨u, he, e1.2.2, (gA_unAA _ _).1 hgu, hb⟩
/-- The same of functions without loops. -/
theorem con_flatZ {P : Program} {l : List (Nat × Ctr)} {f : FuncId} {fn : Func} {sp : Sp} (hm : P.follows .mixedOrders = true) (hE : EnvOk P l) (hl : loopsF fn = []) (hf : P.funcs[f]? = some fn) (hent : ∀ args : Array Value, pureRun P (callFunc f args) = some (.enter f args))
    (h : ∀ avs r ps, sp avs = some (r, ps) → AllP ps → (Nat.ble avs.length fn.ntmps && ((avs.all fun x => x.okB noB) && r.okB noB)) = true ∧ ∃ G fuel r' obs, fnEx P (lk l) L0 G fuel fn avs = some (r', obs) ∧ r' = unAA r ∧ AllP obs) : Con P f sp :=
  con_runZ hm hE.hS hf hent fun avs r ps hs hp => by
    obtain ⟨h1, h2⟩ := h avs r ps hs hp
    exact ⟨h1, L0, (fun d hd => by rw [hl] at hd; cases hd), h2⟩
/-- Answers that are structs of signs and words go as numbers, where they are closed. -/
def zcl : SV → SV
  | .agg [.v (.bool false), .row .u32 []] => .abs [0]
  | x => x
def zclA : AV → AV
  | .s x => .s (zcl x)
  | .tup xs => .tup (xs.map zcl)
theorem zcl_g {M : Nat → Prop} {β : Nat → Nat} {w : World} {x : SV} {u : Value} (h : gS M β w x u) : gS M β w (zcl x) u := by
  unfold zcl
  split
  · exact h
  · exact h
theorem zcls_g {M : Nat → Prop} {β : Nat → Nat} {w : World} : ∀ {xs : List SV} {us : List Value}, gSs M β w xs us → gSs M β w (xs.map zcl) us
  | [], [], _ => trivial
  | _x :: _xs, _u :: _us, h => ⟨zcl_g h.1, zcls_g h.2⟩
  | [], _ :: _, h => h.elim
  | _ :: _, [], h => h.elim
theorem zcl_ok {n : Nat → Bool} {x : SV} (h : x.okB n = true) : (zcl x).okB n = true := by
  unfold zcl
  split
  · rfl
  · exact h
theorem con_absA {P : Program} {f : FuncId} {sp : Sp} (h : Con P f sp) : Con P f (fun avs => (sp avs).map fun (r, ps) => (zclA r, ps)) :=
  ⟨h.enters, fun avs r ps hs hp M β w vs hM hg => by
    obtain ⟨⟨r0, qs⟩, h1, h2⟩ := Option.map_eq_some_iff.1 hs
    simp only [Prod.mk.injEq] at h2
    obtain ⟨rfl, rfl⟩ := h2
    refine (h.calls avs r0 qs h1 hp M β w vs hM hg).mono fun e w' ⟨u, he, hok, hgu, hb⟩ => ⟨u, he, ?_, ?_, hb⟩
    · cases r0 with
      | s x => exact zcl_ok hok
      | tup xs =>
        simp only [zclA, AV.okB, List.all_map] at hok ⊢
        rw [List.all_eq_true] at hok ⊢
        exact fun x hx => zcl_ok (hok x hx)
    · cases r0 with
      | s x => exact zcl_g hgu
      | tup xs => obtain ⟨arr, e, hg⟩ := hgu; exact ⟨arr, e, zcls_g hg⟩⟩
/-- How long integers may be. -/
def big : Nat := 100000000

def spSignedZ : Sp
  | [.one (.row .u32 xs), .one (.v (.bool s))] => some (.s (.abs [o_toI s xs]), [Words xs, Ln xs])
  | _ => none
def spMadeZ : Sp
  | [.one (.v (.bool s)), .one (.row .u32 xs)] => some (.s (.abs [o_toI s xs]), [Words xs, Ln xs])
  | _ => none
theorem con55z : Con Tryz.prog 55 spSignedZ := by
  refine con_abs con55 fun avs r ps hs hp => ?_
  unfold spSignedZ at hs
  split at hs
  · rename_i xs s
    simp only [Option.some.injEq, Prod.mk.injEq] at hs
    obtain ⟨rfl, rfl⟩ := hs
    exact ⟨rfl, _, _, rfl, by rw [mkN_abs s (nv xs) (o_toI s xs) rfl]; rfl, hp⟩
  · cases hs
theorem con51z : Con Tryz.prog 51 spMadeZ := by
  refine con_abs con51 fun avs r ps hs hp => ?_
  unfold spMadeZ at hs
  split at hs
  · rename_i s xs
    simp only [Option.some.injEq, Prod.mk.injEq] at hs
    obtain ⟨rfl, rfl⟩ := hs
    exact ⟨rfl, _, _, rfl, by rw [mkN_abs s (nv xs) (o_toI s xs) rfl]; rfl, hp⟩
  · cases hs
def E12 : List (Nat × Ctr) := (55, .fn spSignedZ) :: (51, .fn (nilOk spMadeZ)) :: E11
theorem E12ok : EnvOk Tryz.prog E12 := .cons con55z (.cons (con_nil con51z) E11ok)
/-- The answer of a function of one or two integers. -/
def rZ (z : Int) : AV := .s (.abs [z])
theorem unZ {Z z : Int} (h : Z = z) : AV.s (.agg [.v (.bool (decide (Z < 0))), .row .u32 (enc Z.natAbs)]) = unAA (rZ z) := by subst h; rfl

end Go.Proofs.YtkfdnpbpebmhaaaGreatDoor.Spec
section
set_option maxRecDepth 100000
namespace Go.Proofs.YtkfdnpbpebmhaaaGreatDoor.Spec
open Go Go.RowKit Sx Num

theorem run17a (x y : Int) : fnEx Tryz.prog (lk E12) L0 (G1 []) 60 Tryz.f17 [.abs [x], .abs [y]] = (let q0 := enc (nv (enc (Int.natAbs x)) + nv (enc (Int.natAbs y))); let q1 := decide (x < (0 : Int)); some (AV.s (SV.agg [LV.v (Value.bool (decide (o_toI q1 q0 < (0 : Int)))), LV.row EK.u32 (enc (Int.natAbs (o_toI q1 q0)))]), [decide (decide (x < (0 : Int)) = decide (y < (0 : Int))) = true, Words (enc (Int.natAbs x)), Words (enc (Int.natAbs y)), List.length (enc (Int.natAbs x)) < (137438953472 : Nat), List.length (enc (Int.natAbs y)) < (137438953472 : Nat), Words q0, Ln q0])) := by kernel_rfl
theorem run17b (x y : Int) : fnEx Tryz.prog (lk E12) L0 (G1 [11, 16]) 60 Tryz.f17 [.abs [x], .abs [y]] = (let q0 := enc (nv (enc (Int.natAbs y)) - nv (enc (Int.natAbs x))); let q1 := decide (y < (0 : Int)); some (AV.s (SV.agg [LV.v (Value.bool (decide (o_toI q1 q0 < (0 : Int)))), LV.row EK.u32 (enc (Int.natAbs (o_toI q1 q0)))]), [decide (decide (x < (0 : Int)) = decide (y < (0 : Int))) = false, Canon (enc (Int.natAbs x)), Canon (enc (Int.natAbs y)), Ln (enc (Int.natAbs x)), Ln (enc (Int.natAbs y)), decide (o_cmp (nv (enc (Int.natAbs x))) (nv (enc (Int.natAbs y))) < (0 : Int)) = true, Words (enc (Int.natAbs y)), Words (enc (Int.natAbs x)), Ln (enc (Int.natAbs y)), nv (enc (Int.natAbs x)) ≤ nv (enc (Int.natAbs y)), Words q0, Ln q0])) := by kernel_rfl
theorem run17c (x y : Int) : fnEx Tryz.prog (lk E12) L0 (G1 [11, 16, 23, 27]) 60 Tryz.f17 [.abs [x], .abs [y]] = (let q0 := enc (nv (enc (Int.natAbs x)) - nv (enc (Int.natAbs y))); let q1 := decide (x < (0 : Int)); some (AV.s (SV.agg [LV.v (Value.bool (decide (o_toI q1 q0 < (0 : Int)))), LV.row EK.u32 (enc (Int.natAbs (o_toI q1 q0)))]), [decide (decide (x < (0 : Int)) = decide (y < (0 : Int))) = false, Canon (enc (Int.natAbs x)), Canon (enc (Int.natAbs y)), Ln (enc (Int.natAbs x)), Ln (enc (Int.natAbs y)), decide (o_cmp (nv (enc (Int.natAbs x))) (nv (enc (Int.natAbs y))) < (0 : Int)) = false, Words (enc (Int.natAbs x)), Words (enc (Int.natAbs y)), Ln (enc (Int.natAbs x)), nv (enc (Int.natAbs y)) ≤ nv (enc (Int.natAbs x)), Words q0, Ln q0])) := by kernel_rfl
theorem run42a (x y : Int) : fnEx Tryz.prog (lk E12) L0 (G1 []) 60 Tryz.f42 [.abs [x], .abs [y]] = (let q0 := enc (nv (enc (Int.natAbs x)) + nv (enc (Int.natAbs y))); let q1 := decide (x < (0 : Int)); some (AV.s (SV.agg [LV.v (Value.bool (decide (o_toI q1 q0 < (0 : Int)))), LV.row EK.u32 (enc (Int.natAbs (o_toI q1 q0)))]), [decide (decide (x < (0 : Int)) = decide (y < (0 : Int))) = true, Words (enc (Int.natAbs x)), Words (enc (Int.natAbs y)), List.length (enc (Int.natAbs x)) < (137438953472 : Nat), List.length (enc (Int.natAbs y)) < (137438953472 : Nat), Words q0, Ln q0])) := by kernel_rfl
theorem run42b (x y : Int) : fnEx Tryz.prog (lk E12) L0 (G1 [9]) 60 Tryz.f42 [.abs [x], .abs [y]] = (let q0 := enc (nv (enc (Int.natAbs y)) - nv (enc (Int.natAbs x))); let q1 := decide (y < (0 : Int)); some (AV.s (SV.agg [LV.v (Value.bool (decide (o_toI q1 q0 < (0 : Int)))), LV.row EK.u32 (enc (Int.natAbs (o_toI q1 q0)))]), [decide (decide (x < (0 : Int)) = decide (y < (0 : Int))) = false, Canon (enc (Int.natAbs x)), Canon (enc (Int.natAbs y)), Ln (enc (Int.natAbs x)), Ln (enc (Int.natAbs y)), decide (o_cmp (nv (enc (Int.natAbs x))) (nv (enc (Int.natAbs y))) < (0 : Int)) = true, Words (enc (Int.natAbs y)), Words (enc (Int.natAbs x)), Ln (enc (Int.natAbs y)), nv (enc (Int.natAbs x)) ≤ nv (enc (Int.natAbs y)), Words q0, Ln q0])) := by kernel_rfl
theorem run42c (x y : Int) : fnEx Tryz.prog (lk E12) L0 (G1 [9, 23]) 60 Tryz.f42 [.abs [x], .abs [y]] = (let q0 := enc (nv (enc (Int.natAbs x)) - nv (enc (Int.natAbs y))); let q1 := decide (x < (0 : Int)); some (AV.s (SV.agg [LV.v (Value.bool (decide (o_toI q1 q0 < (0 : Int)))), LV.row EK.u32 (enc (Int.natAbs (o_toI q1 q0)))]), [decide (decide (x < (0 : Int)) = decide (y < (0 : Int))) = false, Canon (enc (Int.natAbs x)), Canon (enc (Int.natAbs y)), Ln (enc (Int.natAbs x)), Ln (enc (Int.natAbs y)), decide (o_cmp (nv (enc (Int.natAbs x))) (nv (enc (Int.natAbs y))) < (0 : Int)) = false, Words (enc (Int.natAbs x)), Words (enc (Int.natAbs y)), Ln (enc (Int.natAbs x)), nv (enc (Int.natAbs y)) ≤ nv (enc (Int.natAbs x)), Words q0, Ln q0])) := by kernel_rfl
theorem run18 (x y : Int) : fnEx Tryz.prog (lk E12) L0 (G1 []) 60 Tryz.f18 [.abs [x], .abs [y]] = (let q0 := enc (nv (enc (Int.natAbs x)) * nv (enc (Int.natAbs y))); let q1 := !decide (x < (0 : Int)) == decide (y < (0 : Int)); some (AV.s (SV.agg [LV.v (Value.bool (decide (o_toI q1 q0 < (0 : Int)))), LV.row EK.u32 (enc (Int.natAbs (o_toI q1 q0)))]), [Words (enc (Int.natAbs x)), Words (enc (Int.natAbs y)), List.length (enc (Int.natAbs x)) < (137438953472 : Nat), List.length (enc (Int.natAbs y)) < (137438953472 : Nat), Words q0, Ln q0])) := by kernel_rfl
theorem run44 (x y : Int) : fnEx Tryz.prog (lk E12) L0 (G1 []) 60 Tryz.f44 [.abs [x], .abs [y]] = (let q0 := enc (nv (enc (Int.natAbs x)) * nv (enc (Int.natAbs y))); let q1 := !decide (x < (0 : Int)) == decide (y < (0 : Int)); some (AV.s (SV.agg [LV.v (Value.bool (decide (o_toI q1 q0 < (0 : Int)))), LV.row EK.u32 (enc (Int.natAbs (o_toI q1 q0)))]), [Words (enc (Int.natAbs x)), Words (enc (Int.natAbs y)), List.length (enc (Int.natAbs x)) < (137438953472 : Nat), List.length (enc (Int.natAbs y)) < (137438953472 : Nat), Words q0, Ln q0])) := by kernel_rfl
theorem run22 (x : Int) : fnEx Tryz.prog (lk E12) L0 (G1 []) 60 Tryz.f22 [.abs [x]] = (let q0 := !decide (x < (0 : Int)); some (AV.s (SV.agg [LV.v (Value.bool (decide (o_toI q0 (enc (Int.natAbs x)) < (0 : Int)))), LV.row EK.u32 (enc (Int.natAbs (o_toI q0 (enc (Int.natAbs x)))))]), [Words (enc (Int.natAbs x)), Ln (enc (Int.natAbs x))])) := by kernel_rfl
theorem run81 (x : Int) : fnEx Tryz.prog (lk E12) L0 (G1 []) 60 Tryz.f81 [.abs [x]] = (let q0 := !decide (x < (0 : Int)); some (AV.s (SV.agg [LV.v (Value.bool (decide (o_toI q0 (enc (Int.natAbs x)) < (0 : Int)))), LV.row EK.u32 (enc (Int.natAbs (o_toI q0 (enc (Int.natAbs x)))))]), [Words (enc (Int.natAbs x)), Ln (enc (Int.natAbs x))])) := by kernel_rfl
theorem run78 (x : Int) : fnEx Tryz.prog (lk E12) L0 (G1 []) 60 Tryz.f78 [.abs [x]] = some (AV.s (SV.agg [LV.v (Value.bool (decide (o_toI false (enc (Int.natAbs x)) < (0 : Int)))), LV.row EK.u32 (enc (Int.natAbs (o_toI false (enc (Int.natAbs x)))))]), [Words (enc (Int.natAbs x)), Ln (enc (Int.natAbs x))]) := by kernel_rfl
theorem run24a (x : Int) : fnEx Tryz.prog (lk E12) L0 (G1 []) 60 Tryz.f24 [.abs [x]] = some (AV.s (SV.one (LV.v (Value.int .i64 (-1 : Int)))), [decide (x < (0 : Int)) = true]) := by kernel_rfl
theorem run24b (x : Int) : fnEx Tryz.prog (lk E12) L0 (G1 [4]) 60 Tryz.f24 [.abs [x]] = (let q0 := (↑(List.length (enc (Int.natAbs x))) : Int); some (AV.s (SV.one (LV.v (Value.int .i64 (if (1 : Int) < q0 then (1 : Int) else q0)))), [decide (x < (0 : Int)) = false])) := by kernel_rfl
theorem run49a (x : Int) : fnEx Tryz.prog (lk E12) L0 (G1 []) 60 Tryz.f49 [.abs [x]] = some (AV.s (SV.one (LV.v (Value.int .i64 (-1 : Int)))), [decide (x < (0 : Int)) = true]) := by kernel_rfl
theorem run49b (x : Int) : fnEx Tryz.prog (lk E12) L0 (G1 [4]) 60 Tryz.f49 [.abs [x]] = (let q0 := (↑(List.length (enc (Int.natAbs x))) : Int); some (AV.s (SV.one (LV.v (Value.int .i64 (if (1 : Int) < q0 then (1 : Int) else q0)))), [decide (x < (0 : Int)) = false])) := by kernel_rfl
theorem run31a (n : Int) : fnEx Tryz.prog (lk E12) L0 (G1 []) 60 Tryz.f31 [num n] = (let q1 := (0 : Int) - IntKind.wrap .u64 n; let q0 := enc (Int.toNat (IntKind.wrap .u64 q1)); some (AV.s (SV.agg [LV.v (Value.bool (decide (o_toI true q0 < (0 : Int)))), LV.row EK.u32 (enc (Int.natAbs (o_toI true q0)))]), [decide (n < (0 : Int)) = true, (0 : Int) ≤ IntKind.wrap .u64 q1 ∧ IntKind.wrap .u64 q1 < (18446744073709551616 : Int), Words q0, Ln q0])) := by kernel_rfl
theorem run31b (n : Int) : fnEx Tryz.prog (lk E12) L0 (G1 [4]) 60 Tryz.f31 [num n] = (let q0 := enc (Int.toNat (IntKind.wrap .u64 n)); some (AV.s (SV.agg [LV.v (Value.bool (decide (o_toI false q0 < (0 : Int)))), LV.row EK.u32 (enc (Int.natAbs (o_toI false q0)))]), [decide (n < (0 : Int)) = false, (0 : Int) ≤ IntKind.wrap .u64 n ∧ IntKind.wrap .u64 n < (18446744073709551616 : Int), Words q0, Ln q0])) := by kernel_rfl
theorem run58a (n : Int) : fnEx Tryz.prog (lk E12) L0 (G1 []) 60 Tryz.f58 [num n] = (let q0 := IntKind.wrap .u64 (IntKind.wrap .i64 ((0 : Int) - IntKind.wrap .i64 (n + (1 : Int)))) + (1 : Int); let q1 := enc (Int.toNat (IntKind.wrap .u64 q0)); some (AV.s (SV.agg [LV.v (Value.bool (decide (o_toI true q1 < (0 : Int)))), LV.row EK.u32 (enc (Int.natAbs (o_toI true q1)))]), [decide (n < (0 : Int)) = true, (0 : Int) ≤ IntKind.wrap .u64 q0 ∧ IntKind.wrap .u64 q0 < (18446744073709551616 : Int), Words q1, Ln q1])) := by kernel_rfl
theorem run58b (n : Int) : fnEx Tryz.prog (lk E12) L0 (G1 [4]) 60 Tryz.f58 [num n] = (let q0 := enc (Int.toNat (IntKind.wrap .u64 n)); some (AV.s (SV.agg [LV.v (Value.bool (decide (o_toI false q0 < (0 : Int)))), LV.row EK.u32 (enc (Int.natAbs (o_toI false q0)))]), [decide (n < (0 : Int)) = false, (0 : Int) ≤ IntKind.wrap .u64 n ∧ IntKind.wrap .u64 n < (18446744073709551616 : Int), Words q0, Ln q0])) := by kernel_rfl
theorem run33a (x : Int) : fnEx Tryz.prog (lk E12) L0 (G1 []) 60 Tryz.f33 [.abs [x]] = some (AV.s (SV.one (LV.v (Value.int .i64 (0 : Int)))), [decide ((↑(List.length (enc (Int.natAbs x))) : Int) = (0 : Int)) = true]) := by kernel_rfl
theorem run33b (x : Int) : fnEx Tryz.prog (lk E12) L0 (G1 [8]) 60 Tryz.f33 [.abs [x]] = (let q0 := (↑(List.length (enc (Int.natAbs x))) : Int); let q1 := Int.toNat (IntKind.wrap .i64 (q0 - (1 : Int))); some (AV.s (SV.one (LV.v (Value.int .i64 (IntKind.wrap .i64 (IntKind.wrap .i64 ((32 : Int) * IntKind.wrap .i64 (q0 - (1 : Int))) + (↑(o_bl (Int.toNat (List.getD (enc (Int.natAbs x)) q1 (0 : Int)))) : Int)))))), [decide (q0 = (0 : Int)) = false, (0 : Int) ≤ IntKind.wrap .i64 (q0 - (1 : Int)) ∧ IntKind.wrap .i64 (q0 - (1 : Int)) < q0, (0 : Int) ≤ List.getD (enc (Int.natAbs x)) q1 (0 : Int) ∧ List.getD (enc (Int.natAbs x)) q1 (0 : Int) ≤ (4294967295 : Int)])) := by kernel_rfl
theorem run25a (x y : Int) : fnEx Tryz.prog (lk E12) L0 (G1 []) 60 Tryz.f25 [.abs [x], .abs [y]] = (let q0 := Value.slice none (0 : Nat) (0 : Nat); some (AV.tup [SV.agg [LV.v (Value.bool false), LV.v q0], SV.agg [LV.v (Value.bool false), LV.v q0], SV.one (LV.v (Value.int .i64 (10 : Int)))], [decide ((↑(List.length (enc (Int.natAbs y))) : Int) = (0 : Int)) = true])) := by kernel_rfl
theorem run25b (x y : Int) : fnEx Tryz.prog (lk E12) L0 (G1 [14]) 60 Tryz.f25 [.abs [x], .abs [y]] = (let q0 := enc (nv (enc (Int.natAbs x)) % nv (enc (Int.natAbs y))); let q2 := enc (nv (enc (Int.natAbs y)) - nv q0); let q3 := enc (nv (enc (Int.natAbs x)) / nv (enc (Int.natAbs y))); let q4 := decide (x < (0 : Int)) = true; let q5 := enc (Int.toNat (1 : Int)); let q1 := enc (nv q3 + nv q5); let q6 := !decide (x < (0 : Int)) == decide (y < (0 : Int)); some (AV.tup [SV.agg [LV.v (Value.bool (decide (o_toI q6 q1 < (0 : Int)))), LV.row EK.u32 (enc (Int.natAbs (o_toI q6 q1)))], SV.agg [LV.v (Value.bool (decide (o_toI false q2 < (0 : Int)))), LV.row EK.u32 (enc (Int.natAbs (o_toI false q2)))], SV.one (LV.v (Value.int .i64 (0 : Int)))], [decide ((↑(List.length (enc (Int.natAbs y))) : Int) = (0 : Int)) = false, Canon (enc (Int.natAbs x)), Canon (enc (Int.natAbs y)), (0 : Nat) < List.length (enc (Int.natAbs y)), List.length (enc (Int.natAbs x)) < (137438953471 : Nat), List.length (enc (Int.natAbs y)) < (137438953471 : Nat), q4, q4, q4, q4, decide ((0 : Int) < (↑(List.length q0) : Int)) = true, (0 : Int) ≤ (1 : Int) ∧ (1 : Int) < (18446744073709551616 : Int), Words q3, Words q5, List.length q3 < (137438953472 : Nat), List.length q5 < (137438953472 : Nat), Words (enc (Int.natAbs y)), Words q0, Ln (enc (Int.natAbs y)), nv q0 ≤ nv (enc (Int.natAbs y)), Words q1, Ln q1, Words q2, Ln q2])) := by kernel_rfl
theorem run25c (x y : Int) : fnEx Tryz.prog (lk E12) L0 (G1 [14, 29, 30]) 60 Tryz.f25 [.abs [x], .abs [y]] = (let q0 := enc (nv (enc (Int.natAbs x)) % nv (enc (Int.natAbs y))); let q1 := enc (nv (enc (Int.natAbs x)) / nv (enc (Int.natAbs y))); let q2 := decide (x < (0 : Int)) = true; let q3 := !decide (x < (0 : Int)) == decide (y < (0 : Int)); some (AV.tup [SV.agg [LV.v (Value.bool (decide (o_toI q3 q1 < (0 : Int)))), LV.row EK.u32 (enc (Int.natAbs (o_toI q3 q1)))], SV.agg [LV.v (Value.bool (decide (o_toI false q0 < (0 : Int)))), LV.row EK.u32 (enc (Int.natAbs (o_toI false q0)))], SV.one (LV.v (Value.int .i64 (0 : Int)))], [decide ((↑(List.length (enc (Int.natAbs y))) : Int) = (0 : Int)) = false, Canon (enc (Int.natAbs x)), Canon (enc (Int.natAbs y)), (0 : Nat) < List.length (enc (Int.natAbs y)), List.length (enc (Int.natAbs x)) < (137438953471 : Nat), List.length (enc (Int.natAbs y)) < (137438953471 : Nat), q2, q2, q2, q2, decide ((0 : Int) < (↑(List.length q0) : Int)) = false, Words q1, Ln q1, Words q0, Ln q0])) := by kernel_rfl
theorem run25d (x y : Int) : fnEx Tryz.prog (lk E12) L0 (G1 [14, 25, 26, 30]) 60 Tryz.f25 [.abs [x], .abs [y]] = (let q0 := enc (nv (enc (Int.natAbs x)) / nv (enc (Int.natAbs y))); let q1 := enc (nv (enc (Int.natAbs x)) % nv (enc (Int.natAbs y))); let q2 := decide (x < (0 : Int)) = false; let q3 := !decide (x < (0 : Int)) == decide (y < (0 : Int)); some (AV.tup [SV.agg [LV.v (Value.bool (decide (o_toI q3 q0 < (0 : Int)))), LV.row EK.u32 (enc (Int.natAbs (o_toI q3 q0)))], SV.agg [LV.v (Value.bool (decide (o_toI false q1 < (0 : Int)))), LV.row EK.u32 (enc (Int.natAbs (o_toI false q1)))], SV.one (LV.v (Value.int .i64 (0 : Int)))], [decide ((↑(List.length (enc (Int.natAbs y))) : Int) = (0 : Int)) = false, Canon (enc (Int.natAbs x)), Canon (enc (Int.natAbs y)), (0 : Nat) < List.length (enc (Int.natAbs y)), List.length (enc (Int.natAbs x)) < (137438953471 : Nat), List.length (enc (Int.natAbs y)) < (137438953471 : Nat), q2, q2, q2, q2, false = false, Words q0, Ln q0, Words q1, Ln q1])) := by kernel_rfl
theorem run34a (x y : Int) : fnEx Tryz.prog (lk E12) L0 (G1 []) 60 Tryz.f34 [.abs [x], .abs [y]] = (let q0 := Value.slice none (0 : Nat) (0 : Nat); some (AV.tup [SV.agg [LV.v (Value.bool false), LV.v q0], SV.agg [LV.v (Value.bool false), LV.v q0], SV.one (LV.v (Value.int .i64 (10 : Int)))], [decide ((↑(List.length (enc (Int.natAbs y))) : Int) = (0 : Int)) = true])) := by kernel_rfl
theorem run34b (x y : Int) : fnEx Tryz.prog (lk E12) L0 (G1 [12]) 60 Tryz.f34 [.abs [x], .abs [y]] = (let q1 := enc (nv (enc (Int.natAbs x)) % nv (enc (Int.natAbs y))); let q2 := enc (nv (enc (Int.natAbs y)) - nv q1); let q3 := enc (nv (enc (Int.natAbs x)) / nv (enc (Int.natAbs y))); let q4 := List.take (1 : Nat) (List.drop (0 : Nat) [(1 : Int)]); let q0 := enc (nv q3 + nv q4); let q5 := decide (x < (0 : Int)) = true; let q6 := !decide (x < (0 : Int)) == decide (y < (0 : Int)); some (AV.tup [SV.agg [LV.v (Value.bool (decide (o_toI q6 q0 < (0 : Int)))), LV.row EK.u32 (enc (Int.natAbs (o_toI q6 q0)))], SV.agg [LV.v (Value.bool (decide (o_toI false q2 < (0 : Int)))), LV.row EK.u32 (enc (Int.natAbs (o_toI false q2)))], SV.one (LV.v (Value.int .i64 (0 : Int)))], [decide ((↑(List.length (enc (Int.natAbs y))) : Int) = (0 : Int)) = false, Canon (enc (Int.natAbs x)), Canon (enc (Int.natAbs y)), (0 : Nat) < List.length (enc (Int.natAbs y)), List.length (enc (Int.natAbs x)) < (137438953471 : Nat), List.length (enc (Int.natAbs y)) < (137438953471 : Nat), q5, q5, q5, q5, decide ((0 : Int) < (↑(List.length q1) : Int)) = true, (0 : Nat) + (1 : Nat) ≤ (0 : Nat) + (1 : Nat) ∧ (1 : Nat) ≤ (1 : Nat) ∧ (1 : Nat) ≤ (9223372036854775807 : Nat), Words q3, Words q4, List.length q3 < (137438953472 : Nat), List.length q4 < (137438953472 : Nat), Words (enc (Int.natAbs y)), Words q1, Ln (enc (Int.natAbs y)), nv q1 ≤ nv (enc (Int.natAbs y)), Words q0, Ln q0, Words q2, Ln q2])) := by kernel_rfl
theorem run34c (x y : Int) : fnEx Tryz.prog (lk E12) L0 (G1 [12, 28, 29]) 60 Tryz.f34 [.abs [x], .abs [y]] = (let q0 := enc (nv (enc (Int.natAbs x)) % nv (enc (Int.natAbs y))); let q1 := enc (nv (enc (Int.natAbs x)) / nv (enc (Int.natAbs y))); let q2 := decide (x < (0 : Int)) = true; let q3 := !decide (x < (0 : Int)) == decide (y < (0 : Int)); some (AV.tup [SV.agg [LV.v (Value.bool (decide (o_toI q3 q1 < (0 : Int)))), LV.row EK.u32 (enc (Int.natAbs (o_toI q3 q1)))], SV.agg [LV.v (Value.bool (decide (o_toI false q0 < (0 : Int)))), LV.row EK.u32 (enc (Int.natAbs (o_toI false q0)))], SV.one (LV.v (Value.int .i64 (0 : Int)))], [decide ((↑(List.length (enc (Int.natAbs y))) : Int) = (0 : Int)) = false, Canon (enc (Int.natAbs x)), Canon (enc (Int.natAbs y)), (0 : Nat) < List.length (enc (Int.natAbs y)), List.length (enc (Int.natAbs x)) < (137438953471 : Nat), List.length (enc (Int.natAbs y)) < (137438953471 : Nat), q2, q2, q2, q2, decide ((0 : Int) < (↑(List.length q0) : Int)) = false, Words q1, Ln q1, Words q0, Ln q0])) := by kernel_rfl
theorem run34d (x y : Int) : fnEx Tryz.prog (lk E12) L0 (G1 [12, 24, 25, 29]) 60 Tryz.f34 [.abs [x], .abs [y]] = (let q0 := enc (nv (enc (Int.natAbs x)) / nv (enc (Int.natAbs y))); let q1 := enc (nv (enc (Int.natAbs x)) % nv (enc (Int.natAbs y))); let q2 := decide (x < (0 : Int)) = false; let q3 := !decide (x < (0 : Int)) == decide (y < (0 : Int)); some (AV.tup [SV.agg [LV.v (Value.bool (decide (o_toI q3 q0 < (0 : Int)))), LV.row EK.u32 (enc (Int.natAbs (o_toI q3 q0)))], SV.agg [LV.v (Value.bool (decide (o_toI false q1 < (0 : Int)))), LV.row EK.u32 (enc (Int.natAbs (o_toI false q1)))], SV.one (LV.v (Value.int .i64 (0 : Int)))], [decide ((↑(List.length (enc (Int.natAbs y))) : Int) = (0 : Int)) = false, Canon (enc (Int.natAbs x)), Canon (enc (Int.natAbs y)), (0 : Nat) < List.length (enc (Int.natAbs y)), List.length (enc (Int.natAbs x)) < (137438953471 : Nat), List.length (enc (Int.natAbs y)) < (137438953471 : Nat), q2, q2, q2, q2, false = false, Words q0, Ln q0, Words q1, Ln q1])) := by kernel_rfl
end Go.Proofs.YtkfdnpbpebmhaaaGreatDoor.Spec
end
namespace Go.Proofs.YtkfdnpbpebmhaaaGreatDoor.Spec
open Go Go.RowKit Sx Num

theorem toI_n (s : Bool) (n : Nat) : o_toI s (enc n) = if s = true then -(n : Int) else n := by unfold o_toI; rw [nv_enc]
theorem words_e (n : Nat) : Words (enc n) ↔ True := ⟨fun _ => trivial, fun _ => words_enc n⟩
theorem canon_e (n : Nat) : Canon (enc n) ↔ True := ⟨fun _ => trivial, fun _ => canon_enc n⟩
theorem enc_len_le {n k : Nat} (h : n < B ^ k) : (enc n).length ≤ k := (enc_len n k).2 h
theorem sz_big {z : Int} (h : o_sz big z) : (enc z.natAbs).length ≤ 100000000 := sz_len h
theorem le_big {a b : Nat} (h : a ≤ b) (k : b ≤ 300000000) : a ≤ 300000000 := Nat.le_trans h k
theorem decb (a b : Prop) [Decidable a] [Decidable b] : decide (decide a = decide b) = decide (a ↔ b) := by
  by_cases ha : a <;> by_cases hb : b <;> simp [ha, hb]
def spZ1 (f : Int → Int) : Sp
  | [.abs [x]] => some (rZ (f x), [o_sz big x])
  | _ => none
def spZ2 (f : Int → Int → Int) : Sp
  | [.abs [x], .abs [y]] => some (rZ (f x y), [o_sz big x, o_sz big y])
  | _ => none
def spZn (f : Int → Int) : Sp
  | [.abs [x]] => some (.s (num (f x)), [o_sz big x])
  | _ => none

theorem add_len {n : Nat} {x y : Int} (h : o_sz n x) (k : o_sz n y) : (enc (x.natAbs + y.natAbs)).length ≤ n + 1 := by
  apply enc_len_le
  unfold o_sz at h k
  rw [Nat.pow_succ]
  have : B ^ n * 2 ≤ B ^ n * B := Nat.mul_le_mul_left _ (by decide)
  generalize B ^ n = t at *
  generalize t * B = u at *
  omega
theorem sub_len {n : Nat} {x : Int} (h : o_sz n x) (m : Nat) : (enc (x.natAbs - m)).length ≤ n := by
  apply enc_len_le
  unfold o_sz at h
  generalize B ^ n = t at *
  omega
theorem conAdd {f : FuncId} {fn : Func} (hl : loopsF fn = []) (hf : Tryz.prog.funcs[f]? = some fn) (hent : ∀ args : Array Value, pureRun Tryz.prog (callFunc f args) = some (.enter f args)) (hn : Nat.ble 2 fn.ntmps = true)
    (ra : ∀ x y : Int, ∃ G, fnEx Tryz.prog (lk E12) L0 G 60 fn [.abs [x], .abs [y]] = some (AV.s (.agg [.v (.bool (decide (o_toI (decide (x < 0)) (enc (nv (enc x.natAbs) + nv (enc y.natAbs))) < 0))), .row .u32 (enc (o_toI (decide (x < 0)) (enc (nv (enc x.natAbs) + nv (enc y.natAbs)))).natAbs)]),
      [decide (decide (x < 0) = decide (y < 0)) = true, Words (enc x.natAbs), Words (enc y.natAbs), (enc x.natAbs).length < 137438953472, (enc y.natAbs).length < 137438953472, Words (enc (nv (enc x.natAbs) + nv (enc y.natAbs))), Ln (enc (nv (enc x.natAbs) + nv (enc y.natAbs)))]))
    (rb : ∀ x y : Int, ∃ G, fnEx Tryz.prog (lk E12) L0 G 60 fn [.abs [x], .abs [y]] = some (AV.s (.agg [.v (.bool (decide (o_toI (decide (y < 0)) (enc (nv (enc y.natAbs) - nv (enc x.natAbs))) < 0))), .row .u32 (enc (o_toI (decide (y < 0)) (enc (nv (enc y.natAbs) - nv (enc x.natAbs)))).natAbs)]),
      [decide (decide (x < 0) = decide (y < 0)) = false, Canon (enc x.natAbs), Canon (enc y.natAbs), Ln (enc x.natAbs), Ln (enc y.natAbs), decide (o_cmp (nv (enc x.natAbs)) (nv (enc y.natAbs)) < 0) = true, Words (enc y.natAbs), Words (enc x.natAbs), Ln (enc y.natAbs), nv (enc x.natAbs) ≤ nv (enc y.natAbs), Words (enc (nv (enc y.natAbs) - nv (enc x.natAbs))), Ln (enc (nv (enc y.natAbs) - nv (enc x.natAbs)))]))
    (rc : ∀ x y : Int, ∃ G, fnEx Tryz.prog (lk E12) L0 G 60 fn [.abs [x], .abs [y]] = some (AV.s (.agg [.v (.bool (decide (o_toI (decide (x < 0)) (enc (nv (enc x.natAbs) - nv (enc y.natAbs))) < 0))), .row .u32 (enc (o_toI (decide (x < 0)) (enc (nv (enc x.natAbs) - nv (enc y.natAbs)))).natAbs)]),
      [decide (decide (x < 0) = decide (y < 0)) = false, Canon (enc x.natAbs), Canon (enc y.natAbs), Ln (enc x.natAbs), Ln (enc y.natAbs), decide (o_cmp (nv (enc x.natAbs)) (nv (enc y.natAbs)) < 0) = false, Words (enc x.natAbs), Words (enc y.natAbs), Ln (enc x.natAbs), nv (enc y.natAbs) ≤ nv (enc x.natAbs), Words (enc (nv (enc x.natAbs) - nv (enc y.natAbs))), Ln (enc (nv (enc x.natAbs) - nv (enc y.natAbs)))])) :
    Con Tryz.prog f (spZ2 (· + ·)) := by
  refine con_flatZ (l := E12) (fn := fn) hmix E12ok hl hf hent ?_
  intro avs r ps hsp hps
  unfold spZ2 at hsp
  split at hsp
  · rename_i x y
    simp only [Option.some.injEq, Prod.mk.injEq] at hsp
    obtain ⟨rfl, rfl⟩ := hsp
    obtain ⟨hx, hy, _⟩ := hps
    have lx := sz_big hx
    have ly := sz_big hy
    have la := le_big (add_len hx hy) (by decide)
    have l1 := le_big (sub_len hx y.natAbs) (by decide)
    have l2 := le_big (sub_len hy x.natAbs) (by decide)
    refine ⟨by simp [rZ, AV.okB, SV.okB, hn], ?_⟩
    by_cases hs : (x < 0 ↔ y < 0)
    · obtain ⟨G, h⟩ := ra x y
      refine ⟨G, 60, _, _, h, unZ ?_, ?_⟩
      · rw [toI_n, nv_enc, nv_enc]
        by_cases h0 : x < 0
        · simp only [h0, decide_true, if_true]; omega
        · simp only [h0, decide_false, Bool.false_eq_true, if_false]; omega
      · simp only [AllP, nv_enc, decb, words_e, decide_eq_true hs]
        unfold Ln
        and_intros <;> first | exact trivial | omega
    · by_cases hc : x.natAbs < y.natAbs
      · obtain ⟨G, h⟩ := rb x y
        refine ⟨G, 60, _, _, h, unZ ?_, ?_⟩
        · rw [toI_n, nv_enc, nv_enc]
          by_cases h0 : y < 0
          · simp only [h0, decide_true, if_true]; omega
          · simp only [h0, decide_false, Bool.false_eq_true, if_false]; omega
        · simp only [AllP, nv_enc, decb, words_e, canon_e, cmp_lt, decide_eq_false hs, decide_eq_true hc]
          unfold Ln
          and_intros <;> first | exact trivial | omega
      · obtain ⟨G, h⟩ := rc x y
        refine ⟨G, 60, _, _, h, unZ ?_, ?_⟩
        · rw [toI_n, nv_enc, nv_enc]
          by_cases h0 : x < 0
          · simp only [h0, decide_true, if_true]; omega
          · simp only [h0, decide_false, Bool.false_eq_true, if_false]; omega
        · simp only [AllP, nv_enc, decb, words_e, canon_e, cmp_lt, decide_eq_false hs, decide_eq_false hc]
          unfold Ln
          and_intros <;> first | exact trivial | omega
  · cases hsp
theorem con17 : Con Tryz.prog 17 (spZ2 (· + ·)) := conAdd (fn := Tryz.f17) (by kernel_rfl) (by kernel_rfl) (fun _ => by kernel_rfl) rfl (fun x y => ⟨_, run17a x y⟩) (fun x y => ⟨_, run17b x y⟩) (fun x y => ⟨_, run17c x y⟩)
theorem con42 : Con Tryz.prog 42 (spZ2 (· + ·)) := conAdd (fn := Tryz.f42) (by kernel_rfl) (by kernel_rfl) (fun _ => by kernel_rfl) rfl (fun x y => ⟨_, run42a x y⟩) (fun x y => ⟨_, run42b x y⟩) (fun x y => ⟨_, run42c x y⟩)

theorem mul_sign (x y : Int) : (if (!decide (decide (x < 0) = decide (y < 0))) = true then -((x.natAbs * y.natAbs : Nat) : Int) else ((x.natAbs * y.natAbs : Nat) : Int)) = x * y := by
  rw [Int.natCast_mul]
  by_cases h0 : x < 0 <;> by_cases h1 : y < 0
  · simp only [h0, h1, decide_true, Bool.not_true, Bool.false_eq_true, if_false]
    rw [show (x.natAbs : Int) = -x by omega, show (y.natAbs : Int) = -y by omega, Int.neg_mul_neg]
  · simp only [h0, h1, decide_true, decide_false, Bool.true_eq_false, Bool.not_false, if_true]
    rw [show (x.natAbs : Int) = -x by omega, show (y.natAbs : Int) = y by omega, Int.neg_mul, Int.neg_neg]
  · simp only [h0, h1, decide_true, decide_false, Bool.false_eq_true, Bool.not_false, if_true]
    rw [show (x.natAbs : Int) = x by omega, show (y.natAbs : Int) = -y by omega, Int.mul_neg, Int.neg_neg]
  · simp only [h0, h1, decide_true, decide_false, Bool.not_true, Bool.false_eq_true, if_false]
    rw [show (x.natAbs : Int) = x by omega, show (y.natAbs : Int) = y by omega]
theorem mul_len {n : Nat} {x y : Int} (h : o_sz n x) (k : o_sz n y) : (enc (x.natAbs * y.natAbs)).length ≤ n + n := by
  apply enc_len_le
  have := sz_mul h k
  unfold o_sz at this
  rwa [Int.natAbs_mul] at this
theorem con18 : Con Tryz.prog 18 (spZ2 (· * ·)) := by
  refine con_flatZ (l := E12) (fn := Tryz.f18) hmix E12ok (by kernel_rfl) (by kernel_rfl) (fun _ => by kernel_rfl) ?_
  intro avs r ps hsp hps
  unfold spZ2 at hsp
  split at hsp
  · rename_i x y
    simp only [Option.some.injEq, Prod.mk.injEq] at hsp
    obtain ⟨rfl, rfl⟩ := hsp
    obtain ⟨hx, hy, _⟩ := hps
    have lx := sz_big hx
    have ly := sz_big hy
    have la := le_big (mul_len hx hy) (by decide)
    refine ⟨rfl, _, _, _, _, run18 x y, unZ ?_, ?_⟩
    · rw [toI_n, nv_enc, nv_enc]; exact mul_sign x y
    · simp only [AllP, nv_enc, words_e]
      unfold Ln
      and_intros <;> first | exact trivial | omega
  · cases hsp
theorem con44 : Con Tryz.prog 44 (spZ2 (· * ·)) := by
  refine con_flatZ (l := E12) (fn := Tryz.f44) hmix E12ok (by kernel_rfl) (by kernel_rfl) (fun _ => by kernel_rfl) ?_
  intro avs r ps hsp hps
  unfold spZ2 at hsp
  split at hsp
  · rename_i x y
    simp only [Option.some.injEq, Prod.mk.injEq] at hsp
    obtain ⟨rfl, rfl⟩ := hsp
    obtain ⟨hx, hy, _⟩ := hps
    have lx := sz_big hx
    have ly := sz_big hy
    have la := le_big (mul_len hx hy) (by decide)
    refine ⟨rfl, _, _, _, _, run44 x y, unZ ?_, ?_⟩
    · rw [toI_n, nv_enc, nv_enc]; exact mul_sign x y
    · simp only [AllP, nv_enc, words_e]
      unfold Ln
      and_intros <;> first | exact trivial | omega
  · cases hsp
theorem neg_sign (x : Int) : o_toI (!decide (x < 0)) (enc x.natAbs) = -x := by
  rw [toI_n]
  by_cases h0 : x < 0 <;> simp [h0] <;> omega
theorem con22 : Con Tryz.prog 22 (spZ1 (- ·)) := by
  refine con_flatZ (l := E12) (fn := Tryz.f22) hmix E12ok (by kernel_rfl) (by kernel_rfl) (fun _ => by kernel_rfl) ?_
  intro avs r ps hsp hps
  unfold spZ1 at hsp
  split at hsp
  · rename_i x
    simp only [Option.some.injEq, Prod.mk.injEq] at hsp
    obtain ⟨rfl, rfl⟩ := hsp
    have lx := sz_big hps.1
    refine ⟨rfl, _, _, _, _, run22 x, unZ (neg_sign x), ?_⟩
    simp only [AllP, words_e]
    unfold Ln
    and_intros <;> first | exact trivial | omega
  · cases hsp
theorem con81 : Con Tryz.prog 81 (spZ1 (- ·)) := by
  refine con_flatZ (l := E12) (fn := Tryz.f81) hmix E12ok (by kernel_rfl) (by kernel_rfl) (fun _ => by kernel_rfl) ?_
  intro avs r ps hsp hps
  unfold spZ1 at hsp
  split at hsp
  · rename_i x
    simp only [Option.some.injEq, Prod.mk.injEq] at hsp
    obtain ⟨rfl, rfl⟩ := hsp
    have lx := sz_big hps.1
    refine ⟨rfl, _, _, _, _, run81 x, unZ (neg_sign x), ?_⟩
    simp only [AllP, words_e]
    unfold Ln
    and_intros <;> first | exact trivial | omega
  · cases hsp
def absZ (x : Int) : Int := (x.natAbs : Int)
theorem con78 : Con Tryz.prog 78 (spZ1 absZ) := by
  refine con_flatZ (l := E12) (fn := Tryz.f78) hmix E12ok (by kernel_rfl) (by kernel_rfl) (fun _ => by kernel_rfl) ?_
  intro avs r ps hsp hps
  unfold spZ1 at hsp
  split at hsp
  · rename_i x
    simp only [Option.some.injEq, Prod.mk.injEq] at hsp
    obtain ⟨rfl, rfl⟩ := hsp
    have lx := sz_big hps.1
    refine ⟨rfl, _, _, _, _, run78 x, unZ (by rw [toI_n]; rfl), ?_⟩
    simp only [AllP, words_e]
    unfold Ln
    and_intros <;> first | exact trivial | omega
  · cases hsp
theorem sign_len (x : Int) (h : ¬ x < 0) : (if (1 : Int) < ((enc x.natAbs).length : Int) then (1 : Int) else ((enc x.natAbs).length : Int)) = sgnI x := by
  have h1 := enc_len_pos x.natAbs
  unfold sgnI
  rw [if_neg h]
  by_cases h0 : x = 0
  · have : ¬ 0 < (enc x.natAbs).length := by rw [h1]; omega
    rw [if_pos h0]
    split <;> omega
  · have : 0 < (enc x.natAbs).length := by rw [h1]; omega
    rw [if_neg h0]
    split <;> omega
theorem con24 : Con Tryz.prog 24 (spZn sgnI) := by
  refine con_flatZ (l := E12) (fn := Tryz.f24) hmix E12ok (by kernel_rfl) (by kernel_rfl) (fun _ => by kernel_rfl) ?_
  intro avs r ps hsp hps
  unfold spZn at hsp
  split at hsp
  · rename_i x
    simp only [Option.some.injEq, Prod.mk.injEq] at hsp
    obtain ⟨rfl, rfl⟩ := hsp
    refine ⟨rfl, ?_⟩
    by_cases h : x < 0
    · refine ⟨_, _, _, _, run24a x, by rw [sgnI, if_pos h]; rfl, by simp [AllP, h]⟩
    · refine ⟨_, _, _, _, run24b x, by rw [sign_len x h]; rfl, by simp [AllP, h]⟩
  · cases hsp
theorem con49 : Con Tryz.prog 49 (spZn sgnI) := by
  refine con_flatZ (l := E12) (fn := Tryz.f49) hmix E12ok (by kernel_rfl) (by kernel_rfl) (fun _ => by kernel_rfl) ?_
  intro avs r ps hsp hps
  unfold spZn at hsp
  split at hsp
  · rename_i x
    simp only [Option.some.injEq, Prod.mk.injEq] at hsp
    obtain ⟨rfl, rfl⟩ := hsp
    refine ⟨rfl, ?_⟩
    by_cases h : x < 0
    · refine ⟨_, _, _, _, run49a x, by rw [sgnI, if_pos h]; rfl, by simp [AllP, h]⟩
    · refine ⟨_, _, _, _, run49b x, by rw [sign_len x h]; rfl, by simp [AllP, h]⟩
  · cases hsp
def spOf : Sp
  | [.one (.v (.int .i64 n))] => some (rZ n, [-9223372036854775808 ≤ n ∧ n < 9223372036854775808])
  | _ => none
theorem len64 {n : Nat} (h : n < 18446744073709551616) : (enc n).length ≤ 2 := enc_len_le (by unfold B; exact h)
theorem con31 : Con Tryz.prog 31 spOf := by
  refine con_flatZ (l := E12) (fn := Tryz.f31) hmix E12ok (by kernel_rfl) (by kernel_rfl) (fun _ => by kernel_rfl) ?_
  intro avs r ps hsp hps
  unfold spOf at hsp
  split at hsp
  · rename_i n
    simp only [Option.some.injEq, Prod.mk.injEq] at hsp
    obtain ⟨rfl, rfl⟩ := hsp
    obtain ⟨⟨h1, h2⟩, _⟩ := hps
    refine ⟨rfl, ?_⟩
    by_cases h : n < 0
    · have e : IntKind.wrap IntKind.u64 (0 - IntKind.wrap IntKind.u64 n) = ((n.natAbs : Nat) : Int) := by simp only [w64]; omega
      have hl := len64 (n := n.natAbs) (by omega)
      refine ⟨_, _, _, _, run31a n, ?_, ?_⟩
      · rw [e, tnc]; exact unZ (by rw [toI_n, if_pos rfl]; omega)
      · simp only [AllP, e, tnc, words_e, decide_eq_true h]
        unfold Ln
        and_intros <;> first | exact trivial | omega
    · have e : IntKind.wrap IntKind.u64 n = ((n.natAbs : Nat) : Int) := by simp only [w64]; omega
      have hl := len64 (n := n.natAbs) (by omega)
      refine ⟨_, _, _, _, run31b n, ?_, ?_⟩
      · rw [e, tnc]; exact unZ (by rw [toI_n, if_neg (by simp)]; omega)
      · simp only [AllP, e, tnc, words_e, decide_eq_false h]
        unfold Ln
        and_intros <;> first | exact trivial | omega
  · cases hsp
theorem con58 : Con Tryz.prog 58 spOf := by
  refine con_flatZ (l := E12) (fn := Tryz.f58) hmix E12ok (by kernel_rfl) (by kernel_rfl) (fun _ => by kernel_rfl) ?_
  intro avs r ps hsp hps
  unfold spOf at hsp
  split at hsp
  · rename_i n
    simp only [Option.some.injEq, Prod.mk.injEq] at hsp
    obtain ⟨rfl, rfl⟩ := hsp
    obtain ⟨⟨h1, h2⟩, _⟩ := hps
    refine ⟨rfl, ?_⟩
    by_cases h : n < 0
    · have e1 : IntKind.wrap IntKind.i64 (n + 1) = n + 1 := wi64 _ (by omega) (by omega)
      have e2 : IntKind.wrap IntKind.i64 (0 - (n + 1)) = 0 - (n + 1) := wi64 _ (by omega) (by omega)
      have e : IntKind.wrap IntKind.u64 (IntKind.wrap IntKind.u64 (IntKind.wrap IntKind.i64 (0 - IntKind.wrap IntKind.i64 (n + 1))) + 1) = ((n.natAbs : Nat) : Int) := by rw [e1, e2]; simp only [w64]; omega
      have hl := len64 (n := n.natAbs) (by omega)
      refine ⟨_, _, _, _, run58a n, ?_, ?_⟩
      · rw [e, tnc]; exact unZ (by rw [toI_n, if_pos rfl]; omega)
      · simp only [AllP, e, tnc, words_e, decide_eq_true h]
        unfold Ln
        and_intros <;> first | exact trivial | omega
    · have e : IntKind.wrap IntKind.u64 n = ((n.natAbs : Nat) : Int) := by simp only [w64]; omega
      have hl := len64 (n := n.natAbs) (by omega)
      refine ⟨_, _, _, _, run58b n, ?_, ?_⟩
      · rw [e, tnc]; exact unZ (by rw [toI_n, if_neg (by simp)]; omega)
      · simp only [AllP, e, tnc, words_e, decide_eq_false h]
        unfold Ln
        and_intros <;> first | exact trivial | omega
  · cases hsp

/-- The number of bits of a number. -/
def o_bits (n : Nat) : Nat := 32 * ((enc n).length - 1) + o_bl (dg n ((enc n).length - 1))
theorem con33 : Con Tryz.prog 33 (spZn fun x => (o_bits x.natAbs : Int)) := by
  refine con_flatZ (l := E12) (fn := Tryz.f33) hmix E12ok (by kernel_rfl) (by kernel_rfl) (fun _ => by kernel_rfl) ?_
  intro avs r ps hsp hps
  unfold spZn at hsp
  split at hsp
  · rename_i x
    simp only [Option.some.injEq, Prod.mk.injEq] at hsp
    obtain ⟨rfl, rfl⟩ := hsp
    have lx := sz_big hps.1
    refine ⟨rfl, ?_⟩
    by_cases h : x = 0
    · subst h
      refine ⟨_, _, _, _, run33a 0, rfl, by simp [AllP, enc_zero]⟩
    · have hp : 0 < (enc x.natAbs).length := (enc_len_pos _).2 (by omega)
      have w1 : IntKind.wrap IntKind.i64 (((enc x.natAbs).length : Int) - 1) = (((enc x.natAbs).length - 1 : Nat) : Int) := by rw [wi64 _ (by omega) (by omega)]; omega
      have g1 : (enc x.natAbs).getD ((enc x.natAbs).length - 1) 0 = ((dg x.natAbs ((enc x.natAbs).length - 1) : Nat) : Int) := by
        have := nv_getD (words_enc x.natAbs) ((enc x.natAbs).length - 1)
        rwa [nv_enc] at this
      have hd := dg_lt x.natAbs ((enc x.natAbs).length - 1)
      have hbl := bl_le (Nat.lt_trans hd (by decide)) (k := 32) hd
      refine ⟨_, _, _, _, run33b x, ?_, ?_⟩
      · rw [w1, tnc, g1, tnc]
        unfold o_bits
        generalize o_bl (dg x.natAbs ((enc x.natAbs).length - 1)) = b at *
        rw [wi64 (32 * _) (by omega) (by omega), wi64 _ (by omega) (by omega)]
        show AV.s (num _) = AV.s (num _)
        congr 2
      · simp only [AllP, w1, tnc, g1]
        unfold B at hd
        and_intros <;> first | exact trivial | omega | exact decide_eq_false (by omega)
  · cases hsp

theorem divmod_unique {x y q r : Int} (hy : y ≠ 0) (e : q * y + r = x) (h0 : 0 ≤ r) (h1 : r < y.natAbs) : x / y = q ∧ x % y = r := by
  rcases Int.lt_or_gt_of_ne hy with h | h
  · obtain ⟨b, rfl⟩ : ∃ b, y = -b := ⟨-y, by omega⟩
    have := (Int.ediv_emod_unique (a := x) (b := b) (r := r) (q := -q) (by omega)).2 ⟨by rw [Int.mul_neg, Int.mul_comm b q, ← Int.mul_neg]; omega, h0, by omega⟩
    rw [Int.ediv_neg, Int.emod_neg, this.1, this.2, Int.neg_neg]
    exact ⟨rfl, rfl⟩
  · exact (Int.ediv_emod_unique (a := x) (b := y) (r := r) (q := q) h).2 ⟨by rw [Int.mul_comm y q]; omega, h0, by omega⟩
/-- The rest, 0 where the divisor is 0. -/
def o_rem (x y : Int) : Int := if y = 0 then 0 else x % y
def o_dz (y : Int) : Int := if y = 0 then 10 else 0
/-- Quotient, rest and error. -/
def spDivMod : Sp
  | [.abs [x], .abs [y]] => some (.tup [.abs [x / y], .abs [o_rem x y], num (o_dz y)], [o_sz big x, o_sz big y])
  | _ => none
def spDivM0 : Sp
  | [.abs [x], .abs [y]] => some (.tup [.agg [.v (.bool false), .v (.slice none 0 0)], .agg [.v (.bool false), .v (.slice none 0 0)], num 10], [y = 0, o_sz big x])
  | _ => none
def spDivM1 : Sp
  | [.abs [x], .abs [y]] => some (.tup [.abs [x / y], .abs [x % y], num 0], [y ≠ 0, o_sz big x, o_sz big y])
  | _ => none
theorem divmod_z {f : FuncId} (h0 : Con Tryz.prog f spDivM0) (h1 : Con Tryz.prog f spDivM1) : Con Tryz.prog f spDivMod := by
  refine con_cases (con_absA (con_ans h0)) h1 fun avs r ps hs hp => ?_
  unfold spDivMod at hs
  split at hs
  · rename_i x y
    simp only [Option.some.injEq, Prod.mk.injEq] at hs
    obtain ⟨rfl, rfl⟩ := hs
    obtain ⟨hx, hy, _⟩ := hp
    by_cases h : y = 0
    · left
      rw [o_rem, o_dz, if_pos h, if_pos h, h, Int.ediv_zero]
      exact ⟨_, rfl, rfl, hx, trivial⟩
    · right
      rw [o_rem, o_dz, if_neg h, if_neg h]
      exact ⟨_, rfl, h, hx, hy, trivial⟩
  · cases hs

end Go.Proofs.YtkfdnpbpebmhaaaGreatDoor.Spec
namespace Go.Proofs.YtkfdnpbpebmhaaaGreatDoor.Spec
open Go Go.RowKit Sx Num

/-- The sign and the size of the quotient where the rest is turned. -/
theorem dm_turn {x y : Int} (hy : y ≠ 0) (hx : x < 0) (hr : 0 < x.natAbs % y.natAbs) : (if (!(decide (x < 0) == decide (y < 0))) = true then -((x.natAbs / y.natAbs + 1 : Nat) : Int) else ((x.natAbs / y.natAbs + 1 : Nat) : Int)) = x / y ∧ ((y.natAbs - x.natAbs % y.natAbs : Nat) : Int) = x % y := by
  have e := Nat.div_add_mod x.natAbs y.natAbs
  have hm := Nat.mod_lt x.natAbs (show 0 < y.natAbs by omega)
  rw [Nat.mul_comm] at e
  generalize x.natAbs / y.natAbs = Q at *
  generalize x.natAbs % y.natAbs = R at *
  by_cases h : y < 0
  · simp only [hx, h, decide_true, beq_self_eq_true, Bool.not_true, Bool.false_eq_true, if_false]
    have := divmod_unique (x := x) (y := y) (q := ((Q + 1 : Nat) : Int)) (r := ((y.natAbs - R : Nat) : Int)) hy (by
      have e2 : (Q : Int) * y = -((Q * y.natAbs : Nat) : Int) := by rw [Int.natCast_mul, show (y.natAbs : Int) = -y by omega, Int.mul_neg, Int.neg_neg]
      rw [Int.natCast_add, Int.add_mul, e2]; omega) (by omega) (by omega)
    exact ⟨this.1.symm, this.2.symm⟩
  · simp only [hx, h, decide_true, decide_false]
    have := divmod_unique (x := x) (y := y) (q := -((Q + 1 : Nat) : Int)) (r := ((y.natAbs - R : Nat) : Int)) hy (by
      have e2 : (Q : Int) * y = ((Q * y.natAbs : Nat) : Int) := by rw [Int.natCast_mul, show (y.natAbs : Int) = y by omega]
      rw [Int.natCast_add, Int.neg_mul, Int.add_mul, e2]; omega) (by omega) (by omega)
    exact ⟨this.1.symm, this.2.symm⟩
/-- Where it stays. -/
theorem dm_stay {x y : Int} (hy : y ≠ 0) (hr : ¬ x < 0 ∨ x.natAbs % y.natAbs = 0) : (if (!(decide (x < 0) == decide (y < 0))) = true then -((x.natAbs / y.natAbs : Nat) : Int) else ((x.natAbs / y.natAbs : Nat) : Int)) = x / y ∧ ((x.natAbs % y.natAbs : Nat) : Int) = x % y := by
  have e := Nat.div_add_mod x.natAbs y.natAbs
  have hm := Nat.mod_lt x.natAbs (show 0 < y.natAbs by omega)
  rw [Nat.mul_comm] at e
  generalize x.natAbs / y.natAbs = Q at *
  generalize x.natAbs % y.natAbs = R at *
  have e1 : y < 0 → (Q : Int) * y = -((Q * y.natAbs : Nat) : Int) := fun h => by rw [Int.natCast_mul, show (y.natAbs : Int) = -y by omega, Int.mul_neg, Int.neg_neg]
  have e2 : ¬ y < 0 → (Q : Int) * y = ((Q * y.natAbs : Nat) : Int) := fun h => by rw [Int.natCast_mul, show (y.natAbs : Int) = y by omega]
  by_cases hx : x < 0 <;> by_cases h : y < 0
  · simp only [hx, h, decide_true, beq_self_eq_true, Bool.not_true, Bool.false_eq_true, if_false]
    have := divmod_unique (x := x) (y := y) (q := (Q : Int)) (r := (R : Int)) hy (by rw [e1 h]; omega) (by omega) (by omega)
    exact ⟨this.1.symm, this.2.symm⟩
  · simp only [hx, h, decide_true, decide_false]
    have := divmod_unique (x := x) (y := y) (q := -(Q : Int)) (r := (R : Int)) hy (by rw [Int.neg_mul, e2 h]; omega) (by omega) (by omega)
    exact ⟨this.1.symm, this.2.symm⟩
  · simp only [hx, h, decide_true, decide_false]
    have := divmod_unique (x := x) (y := y) (q := -(Q : Int)) (r := (R : Int)) hy (by rw [Int.neg_mul, e1 h]; omega) (by omega) (by omega)
    exact ⟨this.1.symm, this.2.symm⟩
  · simp only [hx, h, decide_false, beq_self_eq_true, Bool.not_true, Bool.false_eq_true, if_false]
    have := divmod_unique (x := x) (y := y) (q := (Q : Int)) (r := (R : Int)) hy (by rw [e2 h]; omega) (by omega) (by omega)
    exact ⟨this.1.symm, this.2.symm⟩
theorem enc_le_of {n m k : Nat} (h : (enc m).length ≤ k) (hn : n ≤ m) : (enc n).length ≤ k := (enc_len n k).2 (Nat.lt_of_le_of_lt hn ((enc_len m k).1 h))
theorem enc_succ_le {n m k : Nat} (h : (enc m).length ≤ k) (hn : n ≤ m) : (enc (n + 1)).length ≤ k + 1 := by
  apply enc_len_le
  have h1 := (enc_len m k).1 h
  rw [Nat.pow_succ]
  have : B ^ k * 2 ≤ B ^ k * B := Nat.mul_le_mul_left _ (by decide)
  have := Nat.pow_pos (n := k) (show 0 < B by decide)
  generalize B ^ k = t at *
  generalize t * B = u at *
  omega
theorem nv_1 : nv (List.take 1 (List.drop 0 [(1 : Int)])) = 1 := rfl
theorem w_1 : Words (List.take 1 (List.drop 0 [(1 : Int)])) ↔ True := ⟨fun _ => trivial, fun _ => by intro x hx; simp at hx; subst hx; decide⟩
theorem l_1 : (List.take 1 (List.drop 0 [(1 : Int)])).length = 1 := rfl
theorem tn1 : Int.toNat 1 = 1 := rfl
/-- Quotients and rests as numbers. -/
theorem tupZ {q q' r r' : Int} (h : q = q') (k : r = r') : AV.tup [.agg [.v (.bool (decide (q < 0))), .row .u32 (enc q.natAbs)], .agg [.v (.bool (decide (r < 0))), .row .u32 (enc r.natAbs)], .one (.v (.int .i64 0))] = unAA (.tup [.abs [q'], .abs [r'], num 0]) := by subst h k; rfl

theorem con25a : Con Tryz.prog 25 spDivM0 := by
  refine con_flat hmix E12ok (by kernel_rfl) (fn := Tryz.f25) (by kernel_rfl) (fun _ => by kernel_rfl) ?_
  intro avs r ps hsp hps
  unfold spDivM0 at hsp
  split at hsp
  · rename_i x y
    simp only [Option.some.injEq, Prod.mk.injEq] at hsp
    obtain ⟨rfl, rfl⟩ := hsp
    obtain ⟨rfl, _⟩ := hps
    exact ⟨rfl, _, _, _, _, run25a x 0, rfl, by simp [AllP, enc_zero]⟩
  · cases hsp
theorem con25b : Con Tryz.prog 25 spDivM1 := by
  refine con_flatZ (l := E12) (fn := Tryz.f25) hmix E12ok (by kernel_rfl) (by kernel_rfl) (fun _ => by kernel_rfl) ?_
  intro avs r ps hsp hps
  unfold spDivM1 at hsp
  split at hsp
  · rename_i x y
    simp only [Option.some.injEq, Prod.mk.injEq] at hsp
    obtain ⟨rfl, rfl⟩ := hsp
    obtain ⟨hy, hx, hk, _⟩ := hps
    have lx := sz_big hx
    have ly := sz_big hk
    have py : 0 < (enc y.natAbs).length := (enc_len_pos _).2 (by omega)
    have hm := Nat.mod_lt x.natAbs (show 0 < y.natAbs by omega)
    have lq := enc_le_of lx (Nat.div_le_self x.natAbs y.natAbs)
    have lq1 := enc_succ_le lx (Nat.div_le_self x.natAbs y.natAbs)
    have lr := enc_le_of lx (Nat.mod_le x.natAbs y.natAbs)
    have ls := enc_le_of ly (Nat.sub_le y.natAbs (x.natAbs % y.natAbs))
    have l1 := enc_len_le (n := 1) (k := 1) (by decide)
    have pr := enc_len_pos (x.natAbs % y.natAbs)
    refine ⟨rfl, ?_⟩
    by_cases h0 : x < 0
    · by_cases hr : 0 < x.natAbs % y.natAbs
      · have hd := dm_turn hy h0 hr
        refine ⟨_, _, _, _, run25b x y, tupZ ?_ ?_, ?_⟩
        · rw [toI_n]; simp only [nv_enc, tn1]; exact hd.1
        · rw [toI_n]; simp only [nv_enc]; exact hd.2
        · simp only [AllP, nv_enc, tn1, words_e, canon_e, decide_eq_true h0, decide_eq_true_eq, decide_eq_false_iff_not]
          generalize x.natAbs / y.natAbs = Q at *
          generalize x.natAbs % y.natAbs = R at *
          unfold Ln
          and_intros <;> first | exact trivial | omega
      · have hd := dm_stay hy (.inr (by omega : x.natAbs % y.natAbs = 0))
        refine ⟨_, _, _, _, run25c x y, tupZ ?_ ?_, ?_⟩
        · rw [toI_n]; simp only [nv_enc]; exact hd.1
        · rw [toI_n]; simp only [nv_enc]; exact hd.2
        · simp only [AllP, nv_enc, words_e, canon_e, decide_eq_true h0, decide_eq_false_iff_not]
          generalize x.natAbs / y.natAbs = Q at *
          generalize x.natAbs % y.natAbs = R at *
          unfold Ln
          and_intros <;> first | exact trivial | omega
    · have hd := dm_stay hy (.inl h0)
      refine ⟨_, _, _, _, run25d x y, tupZ ?_ ?_, ?_⟩
      · rw [toI_n]; simp only [nv_enc]; exact hd.1
      · rw [toI_n]; simp only [nv_enc]; exact hd.2
      · simp only [AllP, nv_enc, words_e, canon_e, decide_eq_false h0, decide_eq_false_iff_not]
        generalize x.natAbs / y.natAbs = Q at *
        generalize x.natAbs % y.natAbs = R at *
        unfold Ln
        and_intros <;> first | exact trivial | omega
  · cases hsp
theorem con25 : Con Tryz.prog 25 spDivMod := divmod_z con25a con25b

theorem con34a : Con Tryz.prog 34 spDivM0 := by
  refine con_flat hmix E12ok (by kernel_rfl) (fn := Tryz.f34) (by kernel_rfl) (fun _ => by kernel_rfl) ?_
  intro avs r ps hsp hps
  unfold spDivM0 at hsp
  split at hsp
  · rename_i x y
    simp only [Option.some.injEq, Prod.mk.injEq] at hsp
    obtain ⟨rfl, rfl⟩ := hsp
    obtain ⟨rfl, _⟩ := hps
    exact ⟨rfl, _, _, _, _, run34a x 0, rfl, by simp [AllP, enc_zero]⟩
  · cases hsp
theorem con34b : Con Tryz.prog 34 spDivM1 := by
  refine con_flatZ (l := E12) (fn := Tryz.f34) hmix E12ok (by kernel_rfl) (by kernel_rfl) (fun _ => by kernel_rfl) ?_
  intro avs r ps hsp hps
  unfold spDivM1 at hsp
  split at hsp
  · rename_i x y
    simp only [Option.some.injEq, Prod.mk.injEq] at hsp
    obtain ⟨rfl, rfl⟩ := hsp
    obtain ⟨hy, hx, hk, _⟩ := hps
    have lx := sz_big hx
    have ly := sz_big hk
    have py : 0 < (enc y.natAbs).length := (enc_len_pos _).2 (by omega)
    have hm := Nat.mod_lt x.natAbs (show 0 < y.natAbs by omega)
    have lq := enc_le_of lx (Nat.div_le_self x.natAbs y.natAbs)
    have lq1 := enc_succ_le lx (Nat.div_le_self x.natAbs y.natAbs)
    have lr := enc_le_of lx (Nat.mod_le x.natAbs y.natAbs)
    have ls := enc_le_of ly (Nat.sub_le y.natAbs (x.natAbs % y.natAbs))
    have l1 := enc_len_le (n := 1) (k := 1) (by decide)
    have pr := enc_len_pos (x.natAbs % y.natAbs)
    refine ⟨rfl, ?_⟩
    by_cases h0 : x < 0
    · by_cases hr : 0 < x.natAbs % y.natAbs
      · have hd := dm_turn hy h0 hr
        refine ⟨_, _, _, _, run34b x y, tupZ ?_ ?_, ?_⟩
        · rw [toI_n]; simp only [nv_enc, nv_1]; exact hd.1
        · rw [toI_n]; simp only [nv_enc]; exact hd.2
        · simp only [AllP, nv_enc, nv_1, words_e, canon_e, w_1, l_1, decide_eq_true h0, decide_eq_true_eq, decide_eq_false_iff_not]
          generalize x.natAbs / y.natAbs = Q at *
          generalize x.natAbs % y.natAbs = R at *
          unfold Ln
          and_intros <;> first | exact trivial | omega
      · have hd := dm_stay hy (.inr (by omega : x.natAbs % y.natAbs = 0))
        refine ⟨_, _, _, _, run34c x y, tupZ ?_ ?_, ?_⟩
        · rw [toI_n]; simp only [nv_enc]; exact hd.1
        · rw [toI_n]; simp only [nv_enc]; exact hd.2
        · simp only [AllP, nv_enc, words_e, canon_e, decide_eq_true h0, decide_eq_false_iff_not]
          generalize x.natAbs / y.natAbs = Q at *
          generalize x.natAbs % y.natAbs = R at *
          unfold Ln
          and_intros <;> first | exact trivial | omega
    · have hd := dm_stay hy (.inl h0)
      refine ⟨_, _, _, _, run34d x y, tupZ ?_ ?_, ?_⟩
      · rw [toI_n]; simp only [nv_enc]; exact hd.1
      · rw [toI_n]; simp only [nv_enc]; exact hd.2
      · simp only [AllP, nv_enc, words_e, canon_e, decide_eq_false h0, decide_eq_false_iff_not]
        generalize x.natAbs / y.natAbs = Q at *
        generalize x.natAbs % y.natAbs = R at *
        unfold Ln
        and_intros <;> first | exact trivial | omega
  · cases hsp
theorem con34 : Con Tryz.prog 34 spDivMod := divmod_z con34a con34b

/-- The contracts so far, over integers. -/
def E13 : List (Nat × Ctr) := (17, .fn (zArgs (spZ2 (· + ·)))) :: (42, .fn (zArgs (spZ2 (· + ·)))) :: (18, .fn (zArgs (spZ2 (· * ·)))) :: (44, .fn (zArgs (spZ2 (· * ·)))) :: (22, .fn (zArgs (spZ1 (- ·)))) :: (81, .fn (zArgs (spZ1 (- ·)))) :: (78, .fn (zArgs (spZ1 absZ))) :: (24, .fn (zArgs (spZn sgnI))) :: (49, .fn (zArgs (spZn sgnI))) :: (33, .fn (zArgs (spZn fun x => (o_bits x.natAbs : Int)))) :: (25, .fn (zArgs (spDivMod))) :: (34, .fn (zArgs (spDivMod))) :: (31, .fn spOf) :: (58, .fn spOf) :: E12
theorem E13ok : EnvOk Tryz.prog E13 := .cons (con_z con17) (.cons (con_z con42) (.cons (con_z con18) (.cons (con_z con44) (.cons (con_z con22) (.cons (con_z con81) (.cons (con_z con78) (.cons (con_z con24) (.cons (con_z con49) (.cons (con_z con33) (.cons (con_z con25) (.cons (con_z con34) (.cons con31 (.cons con58 E12ok)))))))))))))

end Go.Proofs.YtkfdnpbpebmhaaaGreatDoor.Spec
section
set_option maxRecDepth 100000
namespace Go.Proofs.YtkfdnpbpebmhaaaGreatDoor.Spec
open Go Go.RowKit Sx Num

theorem run16a (x y : Int) : fnEx Tryz.prog (lk E13) L0 (G1 []) 60 Tryz.f16 [.abs [x], .abs [y]] = (let q2 := decide (x < (0 : Int)); let q1 := o_toI q2 (enc (Int.natAbs x)); let q3 := decide (y < (0 : Int)); let q0 := o_toI q3 (enc (Int.natAbs y)); some (AV.s (SV.one (LV.v (Value.int .i64 (if sgnI q1 < sgnI q0 then (-1 : Int) else if sgnI q0 < sgnI q1 then (1 : Int) else (0 : Int))))), [(cond.match_1 (fun _x => Bool) (decide (decide (x < (0 : Int)) = decide (y < (0 : Int)))) (fun _ => false) fun _ => true) = true, o_ok q2 (enc (Int.natAbs x)), o_sz big q1, o_ok q3 (enc (Int.natAbs y)), o_sz big q0])) := by kernel_rfl
theorem run16b (x y : Int) : fnEx Tryz.prog (lk E13) L0 (G1 [9]) 60 Tryz.f16 [.abs [x], .abs [y]] = some (AV.s (SV.one (LV.v (Value.int .i64 (o_cmp (nv (enc (Int.natAbs y))) (nv (enc (Int.natAbs x))))))), [(cond.match_1 (fun _x => Bool) (decide (decide (x < (0 : Int)) = decide (y < (0 : Int)))) (fun _ => false) fun _ => true) = false, decide (x < (0 : Int)) = true, Canon (enc (Int.natAbs y)), Canon (enc (Int.natAbs x)), Ln (enc (Int.natAbs y)), Ln (enc (Int.natAbs x))]) := by kernel_rfl
theorem run16c (x y : Int) : fnEx Tryz.prog (lk E13) L0 (G1 [9, 16]) 60 Tryz.f16 [.abs [x], .abs [y]] = some (AV.s (SV.one (LV.v (Value.int .i64 (o_cmp (nv (enc (Int.natAbs x))) (nv (enc (Int.natAbs y))))))), [(cond.match_1 (fun _x => Bool) (decide (decide (x < (0 : Int)) = decide (y < (0 : Int)))) (fun _ => false) fun _ => true) = false, decide (x < (0 : Int)) = false, Canon (enc (Int.natAbs x)), Canon (enc (Int.natAbs y)), Ln (enc (Int.natAbs x)), Ln (enc (Int.natAbs y))]) := by kernel_rfl
theorem run41a (x y : Int) : fnEx Tryz.prog (lk E13) L0 (G1 []) 60 Tryz.f41 [.abs [x], .abs [y]] = (let q0 := decide (x < (0 : Int)) = true; some (AV.s (SV.one (LV.v (Value.int .i64 (-1 : Int)))), [q0, q0, q0, q0, (Bool.not (decide (y < (0 : Int)))) = true])) := by kernel_rfl
theorem run41b (x y : Int) : fnEx Tryz.prog (lk E13) L0 (G1 [7, 11]) 60 Tryz.f41 [.abs [x], .abs [y]] = (let q0 := decide (x < (0 : Int)) = false; let q1 := (Bool.not (decide (x < (0 : Int)))) = true; some (AV.s (SV.one (LV.v (Value.int .i64 (1 : Int)))), [q0, q0, q0, q0, false = false, q1, q1, q1, decide (y < (0 : Int)) = true])) := by kernel_rfl
theorem run41c (x y : Int) : fnEx Tryz.prog (lk E13) L0 (G1 [7, 11, 18, 20]) 60 Tryz.f41 [.abs [x], .abs [y]] = (let q0 := decide (x < (0 : Int)) = false; let q1 := (Bool.not (decide (x < (0 : Int)))) = true; some (AV.s (SV.one (LV.v (Value.int .i64 (o_cmp (nv (enc (Int.natAbs x))) (nv (enc (Int.natAbs y))))))), [q0, q0, q0, q0, false = false, q1, q1, q1, decide (y < (0 : Int)) = false, q0, Canon (enc (Int.natAbs x)), Canon (enc (Int.natAbs y)), Ln (enc (Int.natAbs x)), Ln (enc (Int.natAbs y))])) := by kernel_rfl
theorem run41d (x y : Int) : fnEx Tryz.prog (lk E13) L0 (G1 [11, 15, 18]) 60 Tryz.f41 [.abs [x], .abs [y]] = (let q0 := decide (x < (0 : Int)) = true; let q1 := (Bool.not (decide (x < (0 : Int)))) = false; some (AV.s (SV.one (LV.v (Value.int .i64 (o_cmp (nv (enc (Int.natAbs y))) (nv (enc (Int.natAbs x))))))), [q0, q0, q0, q0, (Bool.not (decide (y < (0 : Int)))) = false, q1, q1, q1, false = false, q0, Canon (enc (Int.natAbs y)), Canon (enc (Int.natAbs x)), Ln (enc (Int.natAbs y)), Ln (enc (Int.natAbs x))])) := by kernel_rfl
theorem run19 (x y : Int) : fnEx Tryz.prog (lk E13) L0 (G1 []) 60 Tryz.f19 [.abs [x], .abs [y]] = (let q1 := decide (y < (0 : Int)); let q0 := o_toI q1 (enc (Int.natAbs y)); some (AV.s (SV.agg [LV.v (Value.bool (decide (o_toI (decide (x < (0 : Int))) (enc (Int.natAbs x)) + -o_toI q1 (enc (Int.natAbs y)) < (0 : Int)))), LV.row EK.u32 (enc (Int.natAbs ((fun x1 x2 => x1 + x2) (o_toI (decide (x < (0 : Int))) (enc (Int.natAbs x))) ((fun x => -x) q0))))]), [o_ok q1 (enc (Int.natAbs y)), o_sz big q0, o_ok (decide (x < (0 : Int))) (enc (Int.natAbs x)), o_sz big (o_toI (decide (x < (0 : Int))) (enc (Int.natAbs x))), o_sz big ((fun x => -x) q0)])) := by kernel_rfl
theorem run43 (x y : Int) : fnEx Tryz.prog (lk E13) L0 (G1 []) 60 Tryz.f43 [.abs [x], .abs [y]] = (let q1 := decide (y < (0 : Int)); let q0 := o_toI q1 (enc (Int.natAbs y)); some (AV.s (SV.agg [LV.v (Value.bool (decide (o_toI (decide (x < (0 : Int))) (enc (Int.natAbs x)) + -o_toI q1 (enc (Int.natAbs y)) < (0 : Int)))), LV.row EK.u32 (enc (Int.natAbs ((fun x1 x2 => x1 + x2) (o_toI (decide (x < (0 : Int))) (enc (Int.natAbs x))) ((fun x => -x) q0))))]), [o_ok q1 (enc (Int.natAbs y)), o_sz big q0, o_ok (decide (x < (0 : Int))) (enc (Int.natAbs x)), o_sz big (o_toI (decide (x < (0 : Int))) (enc (Int.natAbs x))), o_sz big ((fun x => -x) q0)])) := by kernel_rfl
theorem run76 (x y : Int) : fnEx Tryz.prog (lk E13) L0 (G1 []) 60 Tryz.f76 [.abs [x], .abs [y]] = (let q2 := decide (x < (0 : Int)); let q1 := o_toI q2 (enc (Int.natAbs x)); let q3 := decide (y < (0 : Int)); let q0 := o_toI q3 (enc (Int.natAbs y)); some (AV.s (SV.agg [LV.v (Value.bool (decide (o_rem q1 q0 < (0 : Int)))), LV.row EK.u32 (enc (Int.natAbs (o_rem q1 q0)))]), [o_ok q2 (enc (Int.natAbs x)), o_ok q3 (enc (Int.natAbs y)), o_sz big q1, o_sz big q0])) := by kernel_rfl
theorem run77 (x y : Int) : fnEx Tryz.prog (lk E13) L0 (G1 []) 60 Tryz.f77 [.abs [x], .abs [y]] = (let q0 := decide (x < (0 : Int)); let q1 := decide (y < (0 : Int)); some (AV.s (SV.agg [LV.v (Value.bool (decide (o_toI q0 (enc (Int.natAbs x)) / o_toI q1 (enc (Int.natAbs y)) < (0 : Int)))), LV.row EK.u32 (enc (Int.natAbs (o_toI q0 (enc (Int.natAbs x)) / o_toI q1 (enc (Int.natAbs y)))))]), [o_ok q0 (enc (Int.natAbs x)), o_ok q1 (enc (Int.natAbs y)), o_sz big (o_toI q0 (enc (Int.natAbs x))), o_sz big (o_toI q1 (enc (Int.natAbs y)))])) := by kernel_rfl
theorem run23 (n : Int) : fnEx Tryz.prog (lk E13) L0 (G1 []) 60 Tryz.f23 [num n] = some (AV.s (SV.agg [LV.v (Value.bool (decide (n < (0 : Int)))), LV.row EK.u32 (enc (Int.natAbs n))]), [(-9223372036854775808 : Int) ≤ n ∧ n < (9223372036854775808 : Int)]) := by kernel_rfl
theorem run117 (xs : List Int) : fnEx Tryz.prog (lk E13) L0 (G1 []) 60 Tryz.f117 [.one (.row .u32 xs)] = some (AV.s (SV.one (LV.v (Value.int .u64 (IntKind.wrap .u64 (IntKind.wrap .u64 (List.getD xs (Int.toNat (1 : Int)) (0 : Int) * (4294967296 : Int)) + List.getD xs (Int.toNat (0 : Int)) (0 : Int)))))), [(0 : Int) ≤ (1 : Int), Words xs, (0 : Int) ≤ (0 : Int), Words xs]) := by kernel_rfl
theorem run32a (x : Int) : fnEx Tryz.prog (lk E13) L0 (G1 []) 60 Tryz.f32 [.abs [x]] = some (AV.tup [SV.one (LV.v (Value.int .i64 (0 : Int))), SV.one (LV.v (Value.bool false))], [(0 : Int) ≤ (1 : Int), (0 : Int) ≤ (32 : Int), (0 : Int) ≤ (0 : Int), decide ((2 : Int) < (↑(List.length (enc (Int.natAbs x))) : Int)) = true]) := by kernel_rfl
theorem run32b (x : Int) : fnEx Tryz.prog (lk E13) L0 (G1 [16]) 60 Tryz.f32 [.abs [x]] = (let q1 := decide (x < (0 : Int)) = true; let q2 := IntKind.bits IntKind.u64; let q0 := (↑(BitVec.toNat (BitVec.ofInt q2 (IntKind.wrap .u64 (IntKind.wrap .u64 (List.getD (enc (Int.natAbs x)) (Int.toNat (1 : Int)) (0 : Int)) * (2 : Int) ^ min (Int.toNat (32 : Int)) q2)) ||| BitVec.ofInt q2 (IntKind.wrap .u64 (List.getD (enc (Int.natAbs x)) (Int.toNat (0 : Int)) (0 : Int))))) : Int); some (AV.tup [SV.one (LV.v (Value.int .i64 (IntKind.wrap .i64 (IntKind.wrap .u64 ((0 : Int) - IntKind.wrap .u64 q0))))), SV.one (LV.v (Value.bool true))], [(0 : Int) ≤ (1 : Int), (0 : Int) ≤ (32 : Int), (0 : Int) ≤ (0 : Int), decide ((2 : Int) < (↑(List.length (enc (Int.natAbs x))) : Int)) = false, q1, q1, q1, decide (IntKind.wrap .u64 q0 ≤ (9223372036854775808 : Int)) = true])) := by kernel_rfl
theorem run15a (s : Bool) (xs : List Int) : fnEx Tryz.prog (lk E13) L0 (G1 []) 60 Tryz.f15 [.agg [.v (.bool s), .row .u32 xs]] = (let q0 := (↑(List.length xs) : Int); some (AV.s (SV.one (LV.v (Value.bool (cond.match_1 (fun _x => Bool) (decide (List.getD xs (Int.toNat (IntKind.wrap .i64 (q0 - (1 : Int)))) (0 : Int) = (0 : Int))) (fun _ => false) fun _ => true)))), [decide ((0 : Int) < q0) = true, (0 : Int) ≤ IntKind.wrap .i64 (q0 - (1 : Int)) ∧ IntKind.wrap .i64 (q0 - (1 : Int)) < q0])) := by kernel_rfl
theorem run15b (s : Bool) (xs : List Int) : fnEx Tryz.prog (lk E13) L0 (G1 [8]) 60 Tryz.f15 [.agg [.v (.bool s), .row .u32 xs]] = some (AV.s (SV.one (LV.v (Value.bool (Bool.not s)))), [decide ((0 : Int) < (↑(List.length xs) : Int)) = false]) := by kernel_rfl
theorem run20a (s : Bool) (xs : List Int) : fnEx Tryz.prog (lk E13) L0 (G1 []) 60 Tryz.f20 [.agg [.v (.bool s), .row .u32 xs]] = some (AV.s (SV.one (LV.v (Value.bool (Bool.not s)))), [decide ((↑(List.length xs) : Int) = (0 : Int)) = true]) := by kernel_rfl
theorem run20b (s : Bool) (xs : List Int) : fnEx Tryz.prog (lk E13) L0 (G1 [8]) 60 Tryz.f20 [.agg [.v (.bool s), .row .u32 xs]] = (let q0 := (↑(List.length xs) : Int); some (AV.s (SV.one (LV.v (Value.bool (cond.match_1 (fun _x => Bool) (decide (List.getD xs (Int.toNat (IntKind.wrap .i64 (q0 - (1 : Int)))) (0 : Int) = (0 : Int))) (fun _ => false) fun _ => true)))), [decide (q0 = (0 : Int)) = false, (0 : Int) ≤ IntKind.wrap .i64 (q0 - (1 : Int)) ∧ IntKind.wrap .i64 (q0 - (1 : Int)) < q0])) := by kernel_rfl
theorem run32c (x : Int) : fnEx Tryz.prog (lk E13) L0 (G1 [16, 23, 20]) 60 Tryz.f32 [.abs [x]] = (let q1 := (Bool.not (decide (x < (0 : Int)))) = true; let q2 := decide (x < (0 : Int)) = false; let q3 := IntKind.bits IntKind.u64; let q0 := (↑(BitVec.toNat (BitVec.ofInt q3 (IntKind.wrap .u64 (IntKind.wrap .u64 (List.getD (enc (Int.natAbs x)) (Int.toNat (1 : Int)) (0 : Int)) * (2 : Int) ^ min (Int.toNat (32 : Int)) q3)) ||| BitVec.ofInt q3 (IntKind.wrap .u64 (List.getD (enc (Int.natAbs x)) (Int.toNat (0 : Int)) (0 : Int))))) : Int); some (AV.tup [SV.one (LV.v (Value.int .i64 (IntKind.wrap .i64 (IntKind.wrap .u64 q0)))), SV.one (LV.v (Value.bool true))], [(0 : Int) ≤ (1 : Int), (0 : Int) ≤ (32 : Int), (0 : Int) ≤ (0 : Int), decide ((2 : Int) < (↑(List.length (enc (Int.natAbs x))) : Int)) = false, q2, q2, q2, false = false, q1, q1, q1, decide (IntKind.wrap .u64 q0 < (9223372036854775808 : Int)) = true])) := by kernel_rfl
theorem run32d (x : Int) : fnEx Tryz.prog (lk E13) L0 (G1 [16, 23, 20, 30]) 60 Tryz.f32 [.abs [x]] = (let q0 := (Bool.not (decide (x < (0 : Int)))) = true; let q1 := decide (x < (0 : Int)) = false; let q2 := IntKind.bits IntKind.u64; some (AV.tup [SV.one (LV.v (Value.int .i64 (0 : Int))), SV.one (LV.v (Value.bool false))], [(0 : Int) ≤ (1 : Int), (0 : Int) ≤ (32 : Int), (0 : Int) ≤ (0 : Int), decide ((2 : Int) < (↑(List.length (enc (Int.natAbs x))) : Int)) = false, q1, q1, q1, false = false, q0, q0, q0, decide (IntKind.wrap .u64 (↑(BitVec.toNat (BitVec.ofInt q2 (IntKind.wrap .u64 (IntKind.wrap .u64 (List.getD (enc (Int.natAbs x)) (Int.toNat (1 : Int)) (0 : Int)) * (2 : Int) ^ min (Int.toNat (32 : Int)) q2)) ||| BitVec.ofInt q2 (IntKind.wrap .u64 (List.getD (enc (Int.natAbs x)) (Int.toNat (0 : Int)) (0 : Int))))) : Int) < (9223372036854775808 : Int)) = false])) := by kernel_rfl
theorem run32e (x : Int) : fnEx Tryz.prog (lk E13) L0 (G1 [16, 20, 34, 30]) 60 Tryz.f32 [.abs [x]] = (let q0 := (Bool.not (decide (x < (0 : Int)))) = false; let q1 := decide (x < (0 : Int)) = true; let q2 := IntKind.bits IntKind.u64; some (AV.tup [SV.one (LV.v (Value.int .i64 (0 : Int))), SV.one (LV.v (Value.bool false))], [(0 : Int) ≤ (1 : Int), (0 : Int) ≤ (32 : Int), (0 : Int) ≤ (0 : Int), decide ((2 : Int) < (↑(List.length (enc (Int.natAbs x))) : Int)) = false, q1, q1, q1, decide (IntKind.wrap .u64 (↑(BitVec.toNat (BitVec.ofInt q2 (IntKind.wrap .u64 (IntKind.wrap .u64 (List.getD (enc (Int.natAbs x)) (Int.toNat (1 : Int)) (0 : Int)) * (2 : Int) ^ min (Int.toNat (32 : Int)) q2)) ||| BitVec.ofInt q2 (IntKind.wrap .u64 (List.getD (enc (Int.natAbs x)) (Int.toNat (0 : Int)) (0 : Int))))) : Int) ≤ (9223372036854775808 : Int)) = false, q0, q0, q0, false = false])) := by kernel_rfl
theorem run15c (x : Int) : fnEx Tryz.prog (lk E13) L0 (G1 []) 60 Tryz.f15 [.abs [x]] = (let q0 := (↑(List.length (enc (Int.natAbs x))) : Int); some (AV.s (SV.one (LV.v (Value.bool (cond.match_1 (fun _x => Bool) (decide (List.getD (enc (Int.natAbs x)) (Int.toNat (IntKind.wrap .i64 (q0 - (1 : Int)))) (0 : Int) = (0 : Int))) (fun _ => false) fun _ => true)))), [decide ((0 : Int) < q0) = true, (0 : Int) ≤ IntKind.wrap .i64 (q0 - (1 : Int)) ∧ IntKind.wrap .i64 (q0 - (1 : Int)) < q0])) := by kernel_rfl
theorem run15d (x : Int) : fnEx Tryz.prog (lk E13) L0 (G1 [8]) 60 Tryz.f15 [.abs [x]] = some (AV.s (SV.one (LV.v (Value.bool (Bool.not (decide (x < (0 : Int))))))), [decide ((0 : Int) < (↑(List.length (enc (Int.natAbs x))) : Int)) = false]) := by kernel_rfl
theorem run20c (x : Int) : fnEx Tryz.prog (lk E13) L0 (G1 []) 60 Tryz.f20 [.abs [x]] = some (AV.s (SV.one (LV.v (Value.bool (Bool.not (decide (x < (0 : Int))))))), [decide ((↑(List.length (enc (Int.natAbs x))) : Int) = (0 : Int)) = true]) := by kernel_rfl
theorem run20d (x : Int) : fnEx Tryz.prog (lk E13) L0 (G1 [8]) 60 Tryz.f20 [.abs [x]] = (let q0 := (↑(List.length (enc (Int.natAbs x))) : Int); some (AV.s (SV.one (LV.v (Value.bool (cond.match_1 (fun _x => Bool) (decide (List.getD (enc (Int.natAbs x)) (Int.toNat (IntKind.wrap .i64 (q0 - (1 : Int)))) (0 : Int) = (0 : Int))) (fun _ => false) fun _ => true)))), [decide (q0 = (0 : Int)) = false, (0 : Int) ≤ IntKind.wrap .i64 (q0 - (1 : Int)) ∧ IntKind.wrap .i64 (q0 - (1 : Int)) < q0])) := by kernel_rfl
end Go.Proofs.YtkfdnpbpebmhaaaGreatDoor.Spec
end
namespace Go.Proofs.YtkfdnpbpebmhaaaGreatDoor.Spec
open Go Go.RowKit Sx Num

theorem ok_e (z : Int) : o_ok (decide (z < 0)) (enc z.natAbs) ↔ True := ⟨fun _ => trivial, fun _ => ok_enc z⟩
theorem nb_t {b : Bool} (h : b = false) : cond.match_1 (fun _ => Bool) b (fun _ => false) (fun _ => true) = true := by subst h; rfl
theorem nb_f {b : Bool} (h : b = true) : cond.match_1 (fun _ => Bool) b (fun _ => false) (fun _ => true) = false := by subst h; rfl
theorem nb_n (b : Bool) : cond.match_1 (fun _ => Bool) b (fun _ => false) (fun _ => true) = !b := by cases b <;> rfl
/-- Comparing two integers. -/
def spCmpZ : Sp
  | [.abs [x], .abs [y]] => some (.s (num (sgnI (x - y))), [o_sz big x, o_sz big y])
  | _ => none
theorem cmpZ_diff {x y : Int} (h : ¬ (x < 0 ↔ y < 0)) : (if sgnI x < sgnI y then (-1 : Int) else if sgnI y < sgnI x then 1 else 0) = sgnI (x - y) := by
  unfold sgnI
  repeat' split
  all_goals omega
theorem cmpZ_neg {x y : Int} (h : x < 0) (k : y < 0) : o_cmp y.natAbs x.natAbs = sgnI (x - y) := by
  unfold o_cmp sgnI
  repeat' split
  all_goals omega
theorem cmpZ_pos {x y : Int} (h : ¬ x < 0) (k : ¬ y < 0) : o_cmp x.natAbs y.natAbs = sgnI (x - y) := by
  unfold o_cmp sgnI
  repeat' split
  all_goals omega
theorem numE {a b : Int} (h : a = b) : AV.s (SV.one (LV.v (Value.int IntKind.i64 a))) = AV.s (num b) := by subst h; rfl
theorem con16 : Con Tryz.prog 16 spCmpZ := by
  refine con_flat hmix E13ok (by kernel_rfl) (fn := Tryz.f16) (by kernel_rfl) (fun _ => by kernel_rfl) ?_
  intro avs r ps hsp hps
  unfold spCmpZ at hsp
  split at hsp
  · rename_i x y
    simp only [Option.some.injEq, Prod.mk.injEq] at hsp
    obtain ⟨rfl, rfl⟩ := hsp
    obtain ⟨hx, hy, _⟩ := hps
    have lx := sz_big hx
    have ly := sz_big hy
    refine ⟨rfl, ?_⟩
    by_cases h : x < 0 ↔ y < 0
    · by_cases h0 : x < 0
      · refine ⟨_, _, _, _, run16b x y, numE ?_, ?_⟩
        · rw [nv_enc, nv_enc]; exact cmpZ_neg h0 (h.1 h0)
        · simp only [AllP, decb, decide_eq_true h, canon_e]
          simp only [decide_eq_true h0]
          unfold Ln
          and_intros <;> first | exact trivial | omega | rfl
      · refine ⟨_, _, _, _, run16c x y, numE ?_, ?_⟩
        · rw [nv_enc, nv_enc]; exact cmpZ_pos h0 (by omega)
        · simp only [AllP, decb, decide_eq_true h, canon_e]
          simp only [decide_eq_false h0]
          unfold Ln
          and_intros <;> first | exact trivial | omega | rfl
    · refine ⟨_, _, _, _, run16a x y, numE ?_, ?_⟩
      · rw [toI_enc, toI_enc]; exact cmpZ_diff h
      · simp only [AllP, decb, decide_eq_false h, ok_e, toI_enc]
        exact ⟨trivial, trivial, hx, trivial, hy, trivial⟩
  · cases hsp
theorem con41 : Con Tryz.prog 41 spCmpZ := by
  refine con_flat hmix E13ok (by kernel_rfl) (fn := Tryz.f41) (by kernel_rfl) (fun _ => by kernel_rfl) ?_
  intro avs r ps hsp hps
  unfold spCmpZ at hsp
  split at hsp
  · rename_i x y
    simp only [Option.some.injEq, Prod.mk.injEq] at hsp
    obtain ⟨rfl, rfl⟩ := hsp
    obtain ⟨hx, hy, _⟩ := hps
    have lx := sz_big hx
    have ly := sz_big hy
    refine ⟨rfl, ?_⟩
    by_cases h0 : x < 0 <;> by_cases h1 : y < 0
    · refine ⟨_, _, _, _, run41d x y, numE ?_, ?_⟩
      · rw [nv_enc, nv_enc]; exact cmpZ_neg h0 h1
      · simp only [AllP, decide_eq_true h0, decide_eq_true h1, canon_e]
        unfold Ln
        and_intros <;> first | exact trivial | omega | rfl
    · refine ⟨_, _, _, _, run41a x y, numE ?_, ?_⟩
      · unfold sgnI; rw [if_pos (by omega)]
      · simp only [AllP, decide_eq_true h0, decide_eq_false h1]
        and_intros <;> first | exact trivial | rfl
    · refine ⟨_, _, _, _, run41b x y, numE ?_, ?_⟩
      · unfold sgnI; rw [if_neg (by omega), if_neg (by omega)]
      · simp only [AllP, decide_eq_false h0, decide_eq_true h1]
        and_intros <;> first | exact trivial | rfl
    · refine ⟨_, _, _, _, run41c x y, numE ?_, ?_⟩
      · rw [nv_enc, nv_enc]; exact cmpZ_pos h0 h1
      · simp only [AllP, decide_eq_false h0, decide_eq_false h1, canon_e]
        unfold Ln
        and_intros <;> first | exact trivial | omega | rfl
  · cases hsp
theorem con19 : Con Tryz.prog 19 (spZ2 (· - ·)) := by
  refine con_flatZ (l := E13) (fn := Tryz.f19) hmix E13ok (by kernel_rfl) (by kernel_rfl) (fun _ => by kernel_rfl) ?_
  intro avs r ps hsp hps
  unfold spZ2 at hsp
  split at hsp
  · rename_i x y
    simp only [Option.some.injEq, Prod.mk.injEq] at hsp
    obtain ⟨rfl, rfl⟩ := hsp
    obtain ⟨hx, hy, _⟩ := hps
    refine ⟨rfl, _, _, _, _, run19 x y, unZ (by rw [toI_enc, toI_enc]; exact Int.sub_eq_add_neg.symm), ?_⟩
    simp only [AllP, ok_e, toI_enc]
    and_intros <;> first | exact trivial | assumption | exact sz_neg hy
  · cases hsp
theorem con43 : Con Tryz.prog 43 (spZ2 (· - ·)) := by
  refine con_flatZ (l := E13) (fn := Tryz.f43) hmix E13ok (by kernel_rfl) (by kernel_rfl) (fun _ => by kernel_rfl) ?_
  intro avs r ps hsp hps
  unfold spZ2 at hsp
  split at hsp
  · rename_i x y
    simp only [Option.some.injEq, Prod.mk.injEq] at hsp
    obtain ⟨rfl, rfl⟩ := hsp
    obtain ⟨hx, hy, _⟩ := hps
    refine ⟨rfl, _, _, _, _, run43 x y, unZ (by rw [toI_enc, toI_enc]; exact Int.sub_eq_add_neg.symm), ?_⟩
    simp only [AllP, ok_e, toI_enc]
    and_intros <;> first | exact trivial | assumption | exact sz_neg hy
  · cases hsp
theorem con76 : Con Tryz.prog 76 (spZ2 o_rem) := by
  refine con_flatZ (l := E13) (fn := Tryz.f76) hmix E13ok (by kernel_rfl) (by kernel_rfl) (fun _ => by kernel_rfl) ?_
  intro avs r ps hsp hps
  unfold spZ2 at hsp
  split at hsp
  · rename_i x y
    simp only [Option.some.injEq, Prod.mk.injEq] at hsp
    obtain ⟨rfl, rfl⟩ := hsp
    obtain ⟨hx, hy, _⟩ := hps
    refine ⟨rfl, _, _, _, _, run76 x y, unZ (by rw [toI_enc, toI_enc]), ?_⟩
    simp only [AllP, ok_e, toI_enc]
    and_intros <;> first | exact trivial | assumption | exact sz_neg hy
  · cases hsp
theorem con77 : Con Tryz.prog 77 (spZ2 (· / ·)) := by
  refine con_flatZ (l := E13) (fn := Tryz.f77) hmix E13ok (by kernel_rfl) (by kernel_rfl) (fun _ => by kernel_rfl) ?_
  intro avs r ps hsp hps
  unfold spZ2 at hsp
  split at hsp
  · rename_i x y
    simp only [Option.some.injEq, Prod.mk.injEq] at hsp
    obtain ⟨rfl, rfl⟩ := hsp
    obtain ⟨hx, hy, _⟩ := hps
    refine ⟨rfl, _, _, _, _, run77 x y, unZ (by rw [toI_enc, toI_enc]), ?_⟩
    simp only [AllP, ok_e, toI_enc]
    and_intros <;> first | exact trivial | assumption | exact sz_neg hy
  · cases hsp
theorem con23 : Con Tryz.prog 23 spOf := by
  refine con_flatZ (l := E13) (fn := Tryz.f23) hmix E13ok (by kernel_rfl) (by kernel_rfl) (fun _ => by kernel_rfl) ?_
  intro avs r ps hsp hps
  unfold spOf at hsp
  split at hsp
  · rename_i n
    simp only [Option.some.injEq, Prod.mk.injEq] at hsp
    obtain ⟨rfl, rfl⟩ := hsp
    exact ⟨rfl, _, _, _, _, run23 n, unZ rfl, hps⟩
  · cases hsp
/-- The value of at most two words. -/
def spNumber : Sp
  | [.one (.row .u32 xs)] => some (.s (.one (.v (.int .u64 (nv xs)))), [Words xs, xs.length ≤ 2])
  | _ => none
theorem nv_two {xs : List Int} (hw : Words xs) (h : xs.length ≤ 2) : nv xs = dg (nv xs) 1 * 4294967296 + dg (nv xs) 0 ∧ nv xs < 18446744073709551616 := by
  have h1 := nv_lt hw
  have h2 : B ^ xs.length ≤ B ^ 2 := Nat.pow_le_pow_right (by decide) h
  have h3 : nv xs < 18446744073709551616 := Nat.lt_of_lt_of_le h1 h2
  refine ⟨?_, h3⟩
  unfold dg B
  omega
theorem con117 : Con Tryz.prog 117 spNumber := by
  refine con_flat hmix E13ok (by kernel_rfl) (fn := Tryz.f117) (by kernel_rfl) (fun _ => by kernel_rfl) ?_
  intro avs r ps hsp hps
  unfold spNumber at hsp
  split at hsp
  · rename_i xs
    simp only [Option.some.injEq, Prod.mk.injEq] at hsp
    obtain ⟨rfl, rfl⟩ := hsp
    obtain ⟨hw, hl, _⟩ := hps
    obtain ⟨e, hlt⟩ := nv_two hw hl
    have g1 := nv_getD hw 1
    have g0 := nv_getD hw 0
    refine ⟨rfl, _, _, _, _, run117 xs, ?_, ?_⟩
    · show AV.s (SV.one (LV.v (Value.int IntKind.u64 _))) = AV.s (SV.one (LV.v (Value.int IntKind.u64 _)))
      rw [show Int.toNat 1 = 1 from rfl, show Int.toNat 0 = 0 from rfl, g1, g0, w64, w64]
      congr 4
      omega
    · exact ⟨by decide, hw, by decide, hw, trivial⟩
  · cases hsp
/-- Validity. -/
def o_valid (s : Bool) (xs : List Int) : Bool := if xs.length = 0 then !s else !decide (xs.getD (xs.length - 1) 0 = 0)
def spValid : Sp
  | [.agg [.v (.bool s), .row .u32 xs]] => some (.s (.one (.v (.bool (o_valid s xs)))), [Words xs, Ln xs])
  | [.abs [x]] => some (.s (.one (.v (.bool true))), [o_sz big x])
  | _ => none
theorem valid_e (x : Int) : o_valid (decide (x < 0)) (enc x.natAbs) = true := by
  unfold o_valid
  have h := enc_len_pos x.natAbs
  split
  · by_cases h0 : x < 0
    · omega
    · simp [h0]
  · have := canon_enc x.natAbs
    have ht := canon_top this (by omega)
    have hd := nv_getD (words_enc x.natAbs) ((enc x.natAbs).length - 1)
    have hg : ¬ (enc x.natAbs).getD ((enc x.natAbs).length - 1) 0 = 0 := by rw [hd]; omega
    simp only [decide_eq_false hg, Bool.not_false]
theorem con15 : Con Tryz.prog 15 spValid := by
  refine con_flat hmix E13ok (by kernel_rfl) (fn := Tryz.f15) (by kernel_rfl) (fun _ => by kernel_rfl) ?_
  intro avs r ps hsp hps
  unfold spValid at hsp
  split at hsp
  · rename_i s xs
    simp only [Option.some.injEq, Prod.mk.injEq] at hsp
    obtain ⟨rfl, rfl⟩ := hsp
    obtain ⟨hw, hl, _⟩ := hps
    unfold Ln at hl
    refine ⟨rfl, ?_⟩
    by_cases h : xs.length = 0
    · refine ⟨_, _, _, _, run15b s xs, ?_, ?_⟩
      · unfold o_valid; rw [if_pos h]
      · simp only [AllP, decide_eq_false (show ¬ 0 < ((xs).length : Int) by omega)]; exact ⟨trivial, trivial⟩
    · have w1 : IntKind.wrap IntKind.i64 ((xs.length : Int) - 1) = ((xs.length - 1 : Nat) : Int) := by rw [wi64 _ (by omega) (by omega)]; omega
      refine ⟨_, _, _, _, run15a s xs, ?_, ?_⟩
      · rw [nb_n, w1, tnc]; unfold o_valid; rw [if_neg h]
      · simp only [AllP, w1, decide_eq_true (show 0 < ((xs).length : Int) by omega)]
        and_intros <;> first | exact trivial | omega
  · rename_i x
    simp only [Option.some.injEq, Prod.mk.injEq] at hsp
    obtain ⟨rfl, rfl⟩ := hsp
    have lx := sz_big hps.1
    have hv := valid_e x
    refine ⟨rfl, ?_⟩
    by_cases h : (enc x.natAbs).length = 0
    · refine ⟨_, _, _, _, run15d x, ?_, ?_⟩
      · unfold o_valid at hv; rw [if_pos h] at hv
        show AV.s (SV.one (LV.v (Value.bool (!decide (x < 0))))) = _
        rw [hv]
      · simp only [AllP, decide_eq_false (show ¬ 0 < ((enc x.natAbs).length : Int) by omega)]; exact ⟨trivial, trivial⟩
    · have w1 : IntKind.wrap IntKind.i64 (((enc x.natAbs).length : Int) - 1) = (((enc x.natAbs).length - 1 : Nat) : Int) := by rw [wi64 _ (by omega) (by omega)]; omega
      refine ⟨_, _, _, _, run15c x, ?_, ?_⟩
      · rw [nb_n, w1, tnc]; unfold o_valid at hv; rw [if_neg h] at hv; rw [hv]
      · simp only [AllP, w1, decide_eq_true (show 0 < ((enc x.natAbs).length : Int) by omega)]
        and_intros <;> first | exact trivial | omega
  · cases hsp
theorem con20 : Con Tryz.prog 20 spValid := by
  refine con_flat hmix E13ok (by kernel_rfl) (fn := Tryz.f20) (by kernel_rfl) (fun _ => by kernel_rfl) ?_
  intro avs r ps hsp hps
  unfold spValid at hsp
  split at hsp
  · rename_i s xs
    simp only [Option.some.injEq, Prod.mk.injEq] at hsp
    obtain ⟨rfl, rfl⟩ := hsp
    obtain ⟨hw, hl, _⟩ := hps
    unfold Ln at hl
    refine ⟨rfl, ?_⟩
    by_cases h : xs.length = 0
    · refine ⟨_, _, _, _, run20a s xs, ?_, ?_⟩
      · unfold o_valid; rw [if_pos h]
      · simp only [AllP, decide_eq_true (show ((xs).length : Int) = 0 by omega)]; exact ⟨trivial, trivial⟩
    · have w1 : IntKind.wrap IntKind.i64 ((xs.length : Int) - 1) = ((xs.length - 1 : Nat) : Int) := by rw [wi64 _ (by omega) (by omega)]; omega
      refine ⟨_, _, _, _, run20b s xs, ?_, ?_⟩
      · rw [nb_n, w1, tnc]; unfold o_valid; rw [if_neg h]
      · simp only [AllP, w1, decide_eq_false (show ¬ ((xs).length : Int) = 0 by omega)]
        and_intros <;> first | exact trivial | omega
  · rename_i x
    simp only [Option.some.injEq, Prod.mk.injEq] at hsp
    obtain ⟨rfl, rfl⟩ := hsp
    have lx := sz_big hps.1
    have hv := valid_e x
    refine ⟨rfl, ?_⟩
    by_cases h : (enc x.natAbs).length = 0
    · refine ⟨_, _, _, _, run20c x, ?_, ?_⟩
      · unfold o_valid at hv; rw [if_pos h] at hv
        show AV.s (SV.one (LV.v (Value.bool (!decide (x < 0))))) = _
        rw [hv]
      · simp only [AllP, decide_eq_true (show ((enc x.natAbs).length : Int) = 0 by omega)]; exact ⟨trivial, trivial⟩
    · have w1 : IntKind.wrap IntKind.i64 (((enc x.natAbs).length : Int) - 1) = (((enc x.natAbs).length - 1 : Nat) : Int) := by rw [wi64 _ (by omega) (by omega)]; omega
      refine ⟨_, _, _, _, run20d x, ?_, ?_⟩
      · rw [nb_n, w1, tnc]; unfold o_valid at hv; rw [if_neg h] at hv; rw [hv]
      · simp only [AllP, w1, decide_eq_false (show ¬ ((enc x.natAbs).length : Int) = 0 by omega)]
        and_intros <;> first | exact trivial | omega
  · cases hsp
/-- The value, where it fits into 64 bits. -/
def o_small (x : Int) : Int := if -9223372036854775808 ≤ x ∧ x < 9223372036854775808 then x else 0
def o_fits (x : Int) : Bool := decide (-9223372036854775808 ≤ x ∧ x < 9223372036854775808)
def spSmall : Sp
  | [.abs [x]] => some (.tup [num (o_small x), .one (.v (.bool (o_fits x)))], [o_sz big x])
  | _ => none
theorem tupS {a b : Int} {s t : Bool} (h : a = b) (k : s = t) : AV.tup [.one (.v (.int .i64 a)), .one (.v (.bool s))] = .tup [num b, .one (.v (.bool t))] := by subst h k; rfl
theorem small_yes {x : Int} (h : -9223372036854775808 ≤ x ∧ x < 9223372036854775808) : o_small x = x ∧ o_fits x = true := ⟨if_pos h, decide_eq_true h⟩
theorem small_no {x : Int} (h : ¬ (-9223372036854775808 ≤ x ∧ x < 9223372036854775808)) : o_small x = 0 ∧ o_fits x = false := ⟨if_neg h, decide_eq_false h⟩
theorem two64 {x : Int} (h : (enc x.natAbs).length ≤ 2) : x.natAbs < 18446744073709551616 := (enc_len _ 2).1 h
theorem more64 {x : Int} (h : ¬ (enc x.natAbs).length ≤ 2) : ¬ x.natAbs < 18446744073709551616 := fun k => h ((enc_len _ 2).2 k)
theorem con32 : Con Tryz.prog 32 spSmall := by
  refine con_flat hmix E13ok (by kernel_rfl) (fn := Tryz.f32) (by kernel_rfl) (fun _ => by kernel_rfl) ?_
  intro avs r ps hsp hps
  unfold spSmall at hsp
  split at hsp
  · rename_i x
    simp only [Option.some.injEq, Prod.mk.injEq] at hsp
    obtain ⟨rfl, rfl⟩ := hsp
    have lx := sz_big hps.1
    refine ⟨rfl, ?_⟩
    by_cases h2 : (enc x.natAbs).length ≤ 2
    · have hk := two64 h2
      have hT : IntKind.wrap IntKind.u64 ((BitVec.ofInt (IntKind.bits IntKind.u64) (IntKind.wrap IntKind.u64 (IntKind.wrap IntKind.u64 ((enc x.natAbs).getD (Int.toNat 1) 0) * (2 : Int) ^ min (Int.toNat 32) (IntKind.bits IntKind.u64))) ||| BitVec.ofInt (IntKind.bits IntKind.u64) (IntKind.wrap IntKind.u64 ((enc x.natAbs).getD (Int.toNat 0) 0))).toNat : Int) = (x.natAbs : Int) := by
        have g1 := nv_getD (words_enc x.natAbs) 1
        have g0 := nv_getD (words_enc x.natAbs) 0
        rw [nv_enc] at g1 g0
        have e := (nv_two (words_enc x.natAbs) h2).1
        rw [nv_enc] at e
        have := or64 (dg x.natAbs 1) (dg x.natAbs 0) (dg_lt _ _) (dg_lt _ _)
        rw [show Int.toNat 1 = 1 from rfl, show Int.toNat 0 = 0 from rfl, g1, g0, this, ← e]
      have hl : decide ((2 : Int) < ((enc x.natAbs).length : Int)) = false := decide_eq_false (by omega)
      by_cases h0 : x < 0
      · by_cases hs : x.natAbs ≤ 9223372036854775808
        · obtain ⟨e1, e2⟩ := small_yes (x := x) (by omega)
          refine ⟨_, _, _, _, run32b x, tupS ?_ e2.symm, ?_⟩
          · rw [hT, e1]; simp only [w64, IntKind.wrap_i64]; omega
          · simp only [AllP, hT, hl, decide_eq_true h0]
            and_intros <;> first | exact trivial | omega | exact decide_eq_true (by omega)
        · obtain ⟨e1, e2⟩ := small_no (x := x) (by omega)
          refine ⟨_, _, _, _, run32e x, tupS e1.symm e2.symm, ?_⟩
          simp only [AllP, hT, hl, decide_eq_true h0]
          and_intros <;> first | exact trivial | omega | exact decide_eq_false (by omega) | rfl
      · by_cases hs : x.natAbs < 9223372036854775808
        · obtain ⟨e1, e2⟩ := small_yes (x := x) (by omega)
          refine ⟨_, _, _, _, run32c x, tupS ?_ e2.symm, ?_⟩
          · rw [hT, e1]; simp only [IntKind.wrap_i64]; omega
          · simp only [AllP, hT, hl, decide_eq_false h0]
            and_intros <;> first | exact trivial | omega | exact decide_eq_true (by omega) | rfl
        · obtain ⟨e1, e2⟩ := small_no (x := x) (by omega)
          refine ⟨_, _, _, _, run32d x, tupS e1.symm e2.symm, ?_⟩
          simp only [AllP, hT, hl, decide_eq_false h0]
          and_intros <;> first | exact trivial | omega | exact decide_eq_false (by omega) | rfl
    · have hk := more64 h2
      obtain ⟨e1, e2⟩ := small_no (x := x) (by omega)
      refine ⟨_, _, _, _, run32a x, tupS e1.symm e2.symm, ?_⟩
      simp only [AllP]
      and_intros <;> first | exact trivial | omega | exact decide_eq_true (by omega)
  · cases hsp
def E14 : List (Nat × Ctr) := (16, .fn (zArgs (spCmpZ))) :: (41, .fn (zArgs (spCmpZ))) :: (19, .fn (zArgs (spZ2 (· - ·)))) :: (43, .fn (zArgs (spZ2 (· - ·)))) :: (76, .fn (zArgs (spZ2 o_rem))) :: (77, .fn (zArgs (spZ2 (· / ·)))) :: (32, .fn (zArgs (spSmall))) :: (23, .fn (spOf)) :: (117, .fn (spNumber)) :: (15, .fn (nilOk spValid)) :: (20, .fn (nilOk spValid)) :: E13
theorem E14ok : EnvOk Tryz.prog E14 := .cons (con_z con16) (.cons (con_z con41) (.cons (con_z con19) (.cons (con_z con43) (.cons (con_z con76) (.cons (con_z con77) (.cons (con_z con32) (.cons con23 (.cons con117 (.cons (con_nil con15) (.cons (con_nil con20) (E13ok)))))))))))

end Go.Proofs.YtkfdnpbpebmhaaaGreatDoor.Spec
namespace Go.Proofs.YtkfdnpbpebmhaaaGreatDoor.Spec
open Go Go.RowKit Sx Num

def o_gcd (a b : Nat) : Nat := Nat.gcd a b
def I45 (c t : Int) : St := ⟨[(4, .s (num c)), (5, .s (u32 t))], []⟩
def F45 (st : St) : Option (Ex × St × List Prop) :=
  match liv st.boxes 0, lk st.tmps 4, lk st.tmps 5 with
  | false, some (.s (.one (.v (.int .i64 c)))), some (.s (.one (.v (.int .u32 t)))) => some (.exit 0, I45 (c + (o_bl t.toNat : Int)) 0, [0 ≤ c ∧ c < 4611686018427387904, isW t])
  | _, _, _ => none
def L45 : Loops := fun k => bif Nat.beq k 6 then some F45 else none

def boxZ (ty : TypeId) (s : Bool) (xs : List Int) : Box := ⟨ty, .cells [.v (.bool s), .row .u32 xs], true⟩
def I21 (ty ty2 : TypeId) (s : Bool) (xs : List Int) (t : Bool) (ys : List Int) (i : Int) : St := ⟨[(2, .s (.one (.ptr 2 0))), (3, .s (.one (.ptr 3 0))), (5, .s (num i))], [(2, boxZ ty s xs), (3, boxZ ty2 t ys)]⟩
def F21 (d : Bool) (st : St) : Option (Ex × St × List Prop) :=
  match liv st.boxes 0, lk st.tmps 2, lk st.tmps 3, lk st.tmps 5, lk st.boxes 2, lk st.boxes 3 with
  | false, some (.s (.one (.ptr 2 0))), some (.s (.one (.ptr 3 0))), some (.s (.one (.v (.int .i64 i)))), some ⟨_, .cells [.v (.bool _), .row .u32 xs], true⟩, some ⟨_, .cells [.v (.bool _), .row .u32 ys], true⟩ =>
    some (bif d then (.exit 0, ⟨[], []⟩, [i = 0 ∧ xs.length = ys.length ∧ Ln xs ∧ xs = ys])
      else (.ret, ⟨[(4, .s (boo false))], []⟩, [i = 0 ∧ xs.length = ys.length ∧ Ln xs ∧ xs ≠ ys]))
  | _, _, _, _, _, _ => none
def L21 (d : Bool) : Loops := fun k => bif Nat.beq k 4 then some (F21 d) else none

def I61 (x n i : Nat) : St := ⟨[(0, .s (roW (enc (x ^ 2 ^ min i (o_bl n - 1))))), (1, .s (num n)), (5, .s (roW (enc (x ^ (n % 2 ^ i))))), (10, .s (num (o_bl n))), (11, .s (num i))], []⟩
def F61 (st : St) : Option (Ex × St × List Prop) :=
  match liv st.boxes 0, lk st.tmps 0, lk st.tmps 1, lk st.tmps 5, lk st.tmps 10, lk st.tmps 11 with
  | false, some (.s (.one (.row .u32 xs))), some (.s (.one (.v (.int .i64 n)))), some (.s (.one (.row .u32 ys))), some (.s (.one (.v (.int .i64 l)))), some (.s (.one (.v (.int .i64 i)))) =>
    some (.exit 0, ⟨[(5, .s (roW (enc (nv xs ^ n.toNat))))], []⟩, [Canon xs, ys = enc 1, 0 ≤ n ∧ n ≤ 100000000, l = o_bl n.toNat, i = 0, xs.length * (n.toNat + 1) ≤ 100000000])
  | _, _, _, _, _, _ => none
def L61 : Loops := fun k => bif Nat.beq k 3 then some F61 else none

def box0 (ty : TypeId) : Box := ⟨ty, .cells [.v (.bool false), .v (.slice none 0 0)], true⟩
def I38 (ty : TypeId) (a b : Nat) : St := ⟨[(4, .s (.one (.ptr 4 0))), (5, .s (roW (enc a))), (6, .s (roW (enc b)))], [(4, box0 ty)]⟩
def F38 (st : St) : Option (Ex × St × List Prop) :=
  match liv st.boxes 0, lk st.tmps 4, lk st.tmps 5, lk st.tmps 6, lk st.boxes 4 with
  | false, some (.s (.one (.ptr 4 0))), some (.s (.one (.row .u32 xs))), some (.s (.one (.row .u32 ys))), some ⟨ty, .cells [.v (.bool false), .v (.slice none 0 0)], true⟩ =>
    some (.exit 0, I38 ty (o_gcd (nv xs) (nv ys)) 0, [Canon xs, Canon ys, xs.length ≤ 100000000, ys.length ≤ 100000000])
  | _, _, _, _, _ => none
def L38 : Loops := fun k => bif Nat.beq k 2 then some F38 else none

/-- Two words are enough, before the rest is 0. -/
def way (a b : Nat) : Bool := if _h : b = 0 then false else if (enc a).length ≤ 2 ∧ (enc b).length ≤ 2 then true else way b (a % b)
termination_by b
decreasing_by exact Nat.mod_lt _ (by omega)
def o_way (a b : Nat) : Bool := way a b
def I79 (a b : Nat) : St := ⟨[(0, .s (roW (enc a))), (1, .s (roW (enc b)))], []⟩
def F79 (d : Bool) (st : St) : Option (Ex × St × List Prop) :=
  match liv st.boxes 0, lk st.tmps 0, lk st.tmps 1 with
  | false, some (.s (.one (.row .u32 xs))), some (.s (.one (.row .u32 ys))) =>
    some (bif d then (.ret, ⟨[(4, .s (roW (enc (o_gcd (nv xs) (nv ys)))))], []⟩, [Canon xs, Canon ys, xs.length ≤ 100000000, ys.length ≤ 100000000, o_way (nv xs) (nv ys) = true])
      else (.exit 0, ⟨[(0, .s (roW (enc (o_gcd (nv xs) (nv ys)))))], []⟩, [Canon xs, Canon ys, xs.length ≤ 100000000, ys.length ≤ 100000000, o_way (nv xs) (nv ys) = false]))
  | _, _, _ => none
def L79 (d : Bool) : Loops := fun k => bif Nat.beq k 1 then some (F79 d) else none
def I116 (a b : Nat) : St := ⟨[(0, .s (u64 a)), (1, .s (u64 b))], []⟩
def F116 (st : St) : Option (Ex × St × List Prop) :=
  match liv st.boxes 0, lk st.tmps 0, lk st.tmps 1 with
  | false, some (.s (.one (.v (.int .u64 a)))), some (.s (.one (.v (.int .u64 b)))) => some (.exit 0, I116 (o_gcd a.toNat b.toNat) 0, [0 ≤ a ∧ a < 18446744073709551616, 0 ≤ b ∧ b < 18446744073709551616])
  | _, _, _ => none
def L116 : Loops := fun k => bif Nat.beq k 1 then some F116 else none
/-- A power, over integers, below an exponent. -/
def spPowZ (m : Int) : Sp
  | [.abs [x], .one (.v (.int .i64 n))] => some (rZ (x ^ n.toNat), [0 ≤ n ∧ n < m, n ≤ 100000000, (enc x.natAbs).length * (n.toNat + 1) ≤ 100000000])
  | _ => none
def spGcd2 : Sp
  | [.one (.v (.int .u64 a)), .one (.v (.int .u64 b))] => some (.s (.one (.v (.int .u64 (o_gcd a.toNat b.toNat : Nat)))), [0 ≤ a ∧ a < 18446744073709551616, 0 ≤ b ∧ b < 18446744073709551616])
  | _ => none
def E14g : List (Nat × Ctr) := (116, .fn spGcd2) :: E14
def E14p (m : Int) : List (Nat × Ctr) := (84, .fn (zArgs (spPowZ m))) :: E14

end Go.Proofs.YtkfdnpbpebmhaaaGreatDoor.Spec
section
set_option maxRecDepth 100000
namespace Go.Proofs.YtkfdnpbpebmhaaaGreatDoor.Spec
open Go Go.RowKit Sx Num

theorem loop45a (c t : Int) : codeV Tryz.prog (lk E14) L0 (G1 []) Tryz.f45.ntmps 60 (loopC Tryz.f45 0) [4, 5] [] (I45 c t) = some (Ex.normal, { tmps := [((4 : Nat), AV.s (SV.one (LV.v (Value.int .i64 (IntKind.wrap .i64 (c + (1 : Int))))))), ((5 : Nat), AV.s (SV.one (LV.v (Value.int .u32 (IntKind.wrap .u32 (Int.tdiv t (2 : Int)))))))], boxes := [] }, [decide ((0 : Int) < t) = true, ¬(2 : Int) = (0 : Int)]) := by kernel_rfl
theorem loop45b (c t : Int) : codeV Tryz.prog (lk E14) L0 (G1 [21]) Tryz.f45.ntmps 60 (loopC Tryz.f45 0) [4, 5] [] (I45 c t) = some (Ex.exit (0 : Nat), { tmps := [((4 : Nat), AV.s (SV.one (LV.v (Value.int .i64 c)))), ((5 : Nat), AV.s (SV.one (LV.v (Value.int .u32 t))))], boxes := [] }, [decide ((0 : Int) < t) = false]) := by kernel_rfl
theorem run45a (x : Int) : fnEx Tryz.prog (lk E14) L45 (G1 []) 60 Tryz.f45 [.abs [x]] = some (AV.s (SV.one (LV.v (Value.int .i64 (0 : Int)))), [decide ((↑(List.length (enc (Int.natAbs x))) : Int) = (0 : Int)) = true]) := by kernel_rfl
theorem run45b (x : Int) : fnEx Tryz.prog (lk E14) L45 (G1 [10]) 60 Tryz.f45 [.abs [x]] = (let q2 := (↑(List.length (enc (Int.natAbs x))) : Int); let q0 := q2 - (1 : Int); let q1 := List.getD (enc (Int.natAbs x)) (Int.toNat (IntKind.wrap .i64 q0)) (0 : Int); let q3 := (32 : Int) * IntKind.wrap .i64 q0; some (AV.s (SV.one (LV.v (Value.int .i64 (IntKind.wrap .i64 q3 + (↑(o_bl (Int.toNat q1)) : Int))))), [decide (q2 = (0 : Int)) = false, (0 : Int) ≤ IntKind.wrap .i64 q0 ∧ IntKind.wrap .i64 q0 < q2, (0 : Int) ≤ IntKind.wrap .i64 q3 ∧ IntKind.wrap .i64 q3 < (4611686018427387904 : Int), isW q1])) := by kernel_rfl
theorem loop21a (ty ty2 : TypeId) (s : Bool) (xs : List Int) (t : Bool) (ys : List Int) (i : Int) : codeV Tryz.prog (lk E14) L0 (G1 []) Tryz.f21.ntmps 60 (loopC Tryz.f21 0) [4] [] (I21 ty ty2 s xs t ys i) = (let q0 := (↑(List.length xs) : Int); some (Ex.ret, { tmps := [((4 : Nat), AV.s (SV.one (LV.v (Value.bool false))))], boxes := [] }, [decide (i < q0) = true, (0 : Int) ≤ i ∧ i < q0, (0 : Int) ≤ i ∧ i < (↑(List.length ys) : Int), (cond.match_1 (fun _x => Bool) (decide (List.getD xs (Int.toNat i) (0 : Int) = List.getD ys (Int.toNat i) (0 : Int))) (fun _ => false) fun _ => true) = true])) := by kernel_rfl
theorem loop21b (ty ty2 : TypeId) (s : Bool) (xs : List Int) (t : Bool) (ys : List Int) (i : Int) : codeV Tryz.prog (lk E14) L0 (G1 [37]) Tryz.f21.ntmps 60 (loopC Tryz.f21 0) [2, 3, 5] [2, 3] (I21 ty ty2 s xs t ys i) = (let q0 := (↑(List.length xs) : Int); some (Ex.normal, { tmps := [((2 : Nat), AV.s (SV.one (LV.ptr (2 : Nat) (0 : Nat)))), ((3 : Nat), AV.s (SV.one (LV.ptr (3 : Nat) (0 : Nat)))), ((5 : Nat), AV.s (SV.one (LV.v (Value.int .i64 (IntKind.wrap .i64 (i + (1 : Int)))))))], boxes := [((2 : Nat), { ty := ty, bc := BC.cells [LV.v (Value.bool s), LV.row EK.u32 xs], mut_ := true }), ((3 : Nat), { ty := ty2, bc := BC.cells [LV.v (Value.bool t), LV.row EK.u32 ys], mut_ := true })] }, [decide (i < q0) = true, (0 : Int) ≤ i ∧ i < q0, (0 : Int) ≤ i ∧ i < (↑(List.length ys) : Int), (cond.match_1 (fun _x => Bool) (decide (List.getD xs (Int.toNat i) (0 : Int) = List.getD ys (Int.toNat i) (0 : Int))) (fun _ => false) fun _ => true) = false])) := by kernel_rfl
theorem loop21c (ty ty2 : TypeId) (s : Bool) (xs : List Int) (t : Bool) (ys : List Int) (i : Int) : codeV Tryz.prog (lk E14) L0 (G1 [24]) Tryz.f21.ntmps 60 (loopC Tryz.f21 0) [] [] (I21 ty ty2 s xs t ys i) = some (Ex.exit (0 : Nat), { tmps := [], boxes := [] }, [decide (i < (↑(List.length xs) : Int)) = false]) := by kernel_rfl
theorem run21a (x y : Int) : fnEx Tryz.prog (lk E14) (L21 true) (G1 []) 60 Tryz.f21 [.abs [x], .abs [y]] = (let q0 := decide (decide (x < (0 : Int)) = decide (y < (0 : Int))); some (AV.s (SV.one (LV.v (Value.bool false))), [(cond.match_1 (fun _x => Bool) q0 (fun _ => false) fun _ => true) = true, (cond.match_1 (fun _x => Bool) q0 (fun _ => false) fun _ => true) = true, (cond.match_1 (fun _x => Bool) q0 (fun _ => false) fun _ => true) = true, (cond.match_1 (fun _x => Bool) q0 (fun _ => false) fun _ => true) = true, (cond.match_1 (fun _x => Bool) q0 (fun _ => false) fun _ => true) = true, (cond.match_1 (fun _x => Bool) q0 (fun _ => false) fun _ => true) = true, (cond.match_1 (fun _x => Bool) q0 (fun _ => false) fun _ => true) = true, (cond.match_1 (fun _x => Bool) q0 (fun _ => false) fun _ => true) = true, true = true])) := by kernel_rfl
theorem run21b (x y : Int) : fnEx Tryz.prog (lk E14) (L21 true) (G1 [10, 11]) 60 Tryz.f21 [.abs [x], .abs [y]] = (let q0 := decide (decide (x < (0 : Int)) = decide (y < (0 : Int))); some (AV.s (SV.one (LV.v (Value.bool false))), [(cond.match_1 (fun _x => Bool) q0 (fun _ => false) fun _ => true) = false, (cond.match_1 (fun _x => Bool) q0 (fun _ => false) fun _ => true) = false, (cond.match_1 (fun _x => Bool) q0 (fun _ => false) fun _ => true) = false, (cond.match_1 (fun _x => Bool) q0 (fun _ => false) fun _ => true) = false, (cond.match_1 (fun _x => Bool) q0 (fun _ => false) fun _ => true) = false, (cond.match_1 (fun _x => Bool) q0 (fun _ => false) fun _ => true) = false, (cond.match_1 (fun _x => Bool) q0 (fun _ => false) fun _ => true) = false, (cond.match_1 (fun _x => Bool) q0 (fun _ => false) fun _ => true) = false, (cond.match_1 (fun _x => Bool) (decide ((↑(List.length (enc (Int.natAbs x))) : Int) = (↑(List.length (enc (Int.natAbs y))) : Int))) (fun _ => false) fun _ => true) = true])) := by kernel_rfl
theorem run21c (x y : Int) : fnEx Tryz.prog (lk E14) (L21 true) (G1 [10, 11, 19]) 60 Tryz.f21 [.abs [x], .abs [y]] = (let q0 := decide (decide (x < (0 : Int)) = decide (y < (0 : Int))); some (AV.s (SV.one (LV.v (Value.bool true))), [(cond.match_1 (fun _x => Bool) q0 (fun _ => false) fun _ => true) = false, (cond.match_1 (fun _x => Bool) q0 (fun _ => false) fun _ => true) = false, (cond.match_1 (fun _x => Bool) q0 (fun _ => false) fun _ => true) = false, (cond.match_1 (fun _x => Bool) q0 (fun _ => false) fun _ => true) = false, (cond.match_1 (fun _x => Bool) q0 (fun _ => false) fun _ => true) = false, (cond.match_1 (fun _x => Bool) q0 (fun _ => false) fun _ => true) = false, (cond.match_1 (fun _x => Bool) q0 (fun _ => false) fun _ => true) = false, (cond.match_1 (fun _x => Bool) q0 (fun _ => false) fun _ => true) = false, (cond.match_1 (fun _x => Bool) (decide ((↑(List.length (enc (Int.natAbs x))) : Int) = (↑(List.length (enc (Int.natAbs y))) : Int))) (fun _ => false) fun _ => true) = false, (0 : Int) = (0 : Int) ∧ List.length (enc (Int.natAbs x)) = List.length (enc (Int.natAbs y)) ∧ Ln (enc (Int.natAbs x)) ∧ enc (Int.natAbs x) = enc (Int.natAbs y)])) := by kernel_rfl
theorem run21d (x y : Int) : fnEx Tryz.prog (lk E14) (L21 false) (G1 [10, 11, 19]) 60 Tryz.f21 [.abs [x], .abs [y]] = (let q0 := decide (decide (x < (0 : Int)) = decide (y < (0 : Int))); some (AV.s (SV.one (LV.v (Value.bool false))), [(cond.match_1 (fun _x => Bool) q0 (fun _ => false) fun _ => true) = false, (cond.match_1 (fun _x => Bool) q0 (fun _ => false) fun _ => true) = false, (cond.match_1 (fun _x => Bool) q0 (fun _ => false) fun _ => true) = false, (cond.match_1 (fun _x => Bool) q0 (fun _ => false) fun _ => true) = false, (cond.match_1 (fun _x => Bool) q0 (fun _ => false) fun _ => true) = false, (cond.match_1 (fun _x => Bool) q0 (fun _ => false) fun _ => true) = false, (cond.match_1 (fun _x => Bool) q0 (fun _ => false) fun _ => true) = false, (cond.match_1 (fun _x => Bool) q0 (fun _ => false) fun _ => true) = false, (cond.match_1 (fun _x => Bool) (decide ((↑(List.length (enc (Int.natAbs x))) : Int) = (↑(List.length (enc (Int.natAbs y))) : Int))) (fun _ => false) fun _ => true) = false, (0 : Int) = (0 : Int) ∧ List.length (enc (Int.natAbs x)) = List.length (enc (Int.natAbs y)) ∧ Ln (enc (Int.natAbs x)) ∧ ¬enc (Int.natAbs x) = enc (Int.natAbs y)])) := by kernel_rfl
theorem loop61a (x n i : Nat) : codeV Tryz.prog (lk E14) L0 (G1 []) Tryz.f61.ntmps 60 (loopC Tryz.f61 0) [0, 1, 5, 10, 11] [] (I61 x n i) = (let q0 := enc (x ^ (2 : Nat) ^ min i (o_bl n - (1 : Nat))); let q1 := IntKind.bits IntKind.i64; let q2 := List.length q0 < (137438953472 : Nat); let q3 := enc (x ^ (n % (2 : Nat) ^ i)); let q4 := (2 : Int) ^ min (Int.toNat (↑i : Int)) q1; some (Ex.normal, { tmps := [((0 : Nat), AV.s (SV.one (LV.row EK.u32 (enc (nv q0 * nv q0))))), ((1 : Nat), AV.s (SV.one (LV.v (Value.int .i64 (↑n : Int))))), ((5 : Nat), AV.s (SV.one (LV.row EK.u32 (enc (nv q3 * nv q0))))), ((10 : Nat), AV.s (SV.one (LV.v (Value.int .i64 (↑(o_bl n) : Int))))), ((11 : Nat), AV.s (SV.one (LV.v (Value.int .i64 (IntKind.wrap .i64 ((↑i : Int) + (1 : Int)))))))], boxes := [] }, [decide ((↑i : Int) < (↑(o_bl n) : Int)) = true, (0 : Int) ≤ (↑i : Int), decide (IntKind.wrap .i64 (↑(BitVec.toNat (BitVec.ofInt q1 (Int.fdiv (↑n : Int) q4) &&& BitVec.ofInt q1 (1 : Int))) : Int) = (1 : Int)) = true, Words q3, Words q0, List.length q3 < (137438953472 : Nat), q2, (0 : Int) ≤ (↑i : Int), decide ((1 : Int) < Int.fdiv (↑n : Int) q4) = true, Words q0, Words q0, q2, q2])) := by kernel_rfl
theorem loop61b (x n i : Nat) : codeV Tryz.prog (lk E14) L0 (G1 [18]) Tryz.f61.ntmps 60 (loopC Tryz.f61 0) [0, 1, 5, 10, 11] [] (I61 x n i) = (let q0 := enc (x ^ (2 : Nat) ^ min i (o_bl n - (1 : Nat))); let q1 := IntKind.bits IntKind.i64; let q2 := (2 : Int) ^ min (Int.toNat (↑i : Int)) q1; let q3 := List.length q0 < (137438953472 : Nat); some (Ex.normal, { tmps := [((0 : Nat), AV.s (SV.one (LV.row EK.u32 (enc (nv q0 * nv q0))))), ((1 : Nat), AV.s (SV.one (LV.v (Value.int .i64 (↑n : Int))))), ((5 : Nat), AV.s (SV.one (LV.row EK.u32 (enc (x ^ (n % (2 : Nat) ^ i)))))), ((10 : Nat), AV.s (SV.one (LV.v (Value.int .i64 (↑(o_bl n) : Int))))), ((11 : Nat), AV.s (SV.one (LV.v (Value.int .i64 (IntKind.wrap .i64 ((↑i : Int) + (1 : Int)))))))], boxes := [] }, [decide ((↑i : Int) < (↑(o_bl n) : Int)) = true, (0 : Int) ≤ (↑i : Int), decide (IntKind.wrap .i64 (↑(BitVec.toNat (BitVec.ofInt q1 (Int.fdiv (↑n : Int) q2) &&& BitVec.ofInt q1 (1 : Int))) : Int) = (1 : Int)) = false, (0 : Int) ≤ (↑i : Int), decide ((1 : Int) < Int.fdiv (↑n : Int) q2) = true, Words q0, Words q0, q3, q3])) := by kernel_rfl
theorem loop61c (x n i : Nat) : codeV Tryz.prog (lk E14) L0 (G1 [25]) Tryz.f61.ntmps 60 (loopC Tryz.f61 0) [0, 1, 5, 10, 11] [] (I61 x n i) = (let q0 := enc (x ^ (2 : Nat) ^ min i (o_bl n - (1 : Nat))); let q1 := IntKind.bits IntKind.i64; let q2 := enc (x ^ (n % (2 : Nat) ^ i)); let q3 := (2 : Int) ^ min (Int.toNat (↑i : Int)) q1; some (Ex.normal, { tmps := [((0 : Nat), AV.s (SV.one (LV.row EK.u32 q0))), ((1 : Nat), AV.s (SV.one (LV.v (Value.int .i64 (↑n : Int))))), ((5 : Nat), AV.s (SV.one (LV.row EK.u32 (enc (nv q2 * nv q0))))), ((10 : Nat), AV.s (SV.one (LV.v (Value.int .i64 (↑(o_bl n) : Int))))), ((11 : Nat), AV.s (SV.one (LV.v (Value.int .i64 (IntKind.wrap .i64 ((↑i : Int) + (1 : Int)))))))], boxes := [] }, [decide ((↑i : Int) < (↑(o_bl n) : Int)) = true, (0 : Int) ≤ (↑i : Int), decide (IntKind.wrap .i64 (↑(BitVec.toNat (BitVec.ofInt q1 (Int.fdiv (↑n : Int) q3) &&& BitVec.ofInt q1 (1 : Int))) : Int) = (1 : Int)) = true, Words q2, Words q0, List.length q2 < (137438953472 : Nat), List.length q0 < (137438953472 : Nat), (0 : Int) ≤ (↑i : Int), decide ((1 : Int) < Int.fdiv (↑n : Int) q3) = false])) := by kernel_rfl
theorem loop61d (x n i : Nat) : codeV Tryz.prog (lk E14) L0 (G1 [12]) Tryz.f61.ntmps 60 (loopC Tryz.f61 0) [5] [] (I61 x n i) = some (Ex.exit (0 : Nat), { tmps := [((5 : Nat), AV.s (SV.one (LV.row EK.u32 (enc (x ^ (n % (2 : Nat) ^ i))))))], boxes := [] }, [decide ((↑i : Int) < (↑(o_bl n) : Int)) = false]) := by kernel_rfl
theorem run61 (xs : List Int) (n : Int) : fnEx Tryz.prog (lk E14) L61 (G1 []) 60 Tryz.f61 [.one (.row .u32 xs), num n] = some (AV.s (SV.one (LV.row EK.u32 (enc (nv xs ^ Int.toNat n)))), [(0 : Int) ≤ (1 : Int) ∧ (1 : Int) < (18446744073709551616 : Int), (0 : Int) ≤ IntKind.wrap .u64 n ∧ IntKind.wrap .u64 n ≤ (18446744073709551615 : Int), Canon xs, enc (Int.toNat (1 : Int)) = enc (1 : Nat), (0 : Int) ≤ n ∧ n ≤ (100000000 : Int), (↑(o_bl (Int.toNat (IntKind.wrap .u64 n))) : Int) = (↑(o_bl (Int.toNat n)) : Int), (0 : Int) = (0 : Int), List.length xs * (Int.toNat n + (1 : Nat)) ≤ (100000000 : Nat)]) := by kernel_rfl
theorem loop38a (ty : TypeId) (a b : Nat) : codeV Tryz.prog (lk E14) L0 (G1 []) Tryz.f38.ntmps 60 (loopC Tryz.f38 0) [4, 5, 6] [4] (I38 ty a b) = some (Ex.normal, { tmps := [((4 : Nat), AV.s (SV.one (LV.ptr (4 : Nat) (0 : Nat)))), ((5 : Nat), AV.s (SV.one (LV.row EK.u32 (enc b)))), ((6 : Nat), AV.s (SV.one (LV.row EK.u32 (enc (nv (enc a) % nv (enc b))))))], boxes := [((4 : Nat), { ty := ty, bc := BC.cells [LV.v (Value.bool false), LV.v (Value.slice none (0 : Nat) (0 : Nat))], mut_ := true })] }, [decide ((0 : Int) < (↑(List.length (enc b)) : Int)) = true, Canon (enc a), Canon (enc b), (0 : Nat) < List.length (enc b), List.length (enc a) < (137438953471 : Nat), List.length (enc b) < (137438953471 : Nat)]) := by kernel_rfl
theorem loop38b (ty : TypeId) (a b : Nat) : codeV Tryz.prog (lk E14) L0 (G1 [15]) Tryz.f38.ntmps 60 (loopC Tryz.f38 0) [4, 5, 6] [4] (I38 ty a b) = some (Ex.exit (0 : Nat), { tmps := [((4 : Nat), AV.s (SV.one (LV.ptr (4 : Nat) (0 : Nat)))), ((5 : Nat), AV.s (SV.one (LV.row EK.u32 (enc a)))), ((6 : Nat), AV.s (SV.one (LV.row EK.u32 (enc b))))], boxes := [((4 : Nat), { ty := ty, bc := BC.cells [LV.v (Value.bool false), LV.v (Value.slice none (0 : Nat) (0 : Nat))], mut_ := true })] }, [decide ((0 : Int) < (↑(List.length (enc b)) : Int)) = false]) := by kernel_rfl
theorem run38 (x y : Int) : fnEx Tryz.prog (lk E14) L38 (G1 []) 60 Tryz.f38 [.abs [x], .abs [y]] = (let q0 := enc (o_gcd (nv (enc (Int.natAbs x))) (nv (enc (Int.natAbs y)))); some (AV.s (SV.agg [LV.v (Value.bool (decide (o_toI false q0 < (0 : Int)))), LV.row EK.u32 (enc (Int.natAbs (o_toI false q0)))]), [Canon (enc (Int.natAbs x)), Canon (enc (Int.natAbs y)), List.length (enc (Int.natAbs x)) ≤ (100000000 : Nat), List.length (enc (Int.natAbs y)) ≤ (100000000 : Nat), Words q0, Ln q0])) := by kernel_rfl
theorem loop116a (a b : Nat) : codeV Tryz.prog (lk E14) L0 (G1 []) Tryz.f116.ntmps 60 (loopC Tryz.f116 0) [0, 1] [] (I116 a b) = some (Ex.normal, { tmps := [((0 : Nat), AV.s (SV.one (LV.v (Value.int .u64 (↑b : Int))))), ((1 : Nat), AV.s (SV.one (LV.v (Value.int .u64 (Int.tmod (↑a : Int) (↑b : Int))))))], boxes := [] }, [decide ((0 : Int) < (↑b : Int)) = true, ¬(↑b : Int) = (0 : Int)]) := by kernel_rfl
theorem loop116b (a b : Nat) : codeV Tryz.prog (lk E14) L0 (G1 [7]) Tryz.f116.ntmps 60 (loopC Tryz.f116 0) [0, 1] [] (I116 a b) = some (Ex.exit (0 : Nat), { tmps := [((0 : Nat), AV.s (SV.one (LV.v (Value.int .u64 (↑a : Int))))), ((1 : Nat), AV.s (SV.one (LV.v (Value.int .u64 (↑b : Int)))))], boxes := [] }, [decide ((0 : Int) < (↑b : Int)) = false]) := by kernel_rfl
theorem run116 (x y : Int) : fnEx Tryz.prog (lk E14) L116 (G1 []) 60 Tryz.f116 [.one (.v (.int .u64 x)), .one (.v (.int .u64 y))] = (let q0 := (18446744073709551616 : Int); some (AV.s (SV.one (LV.v (Value.int .u64 (↑(o_gcd (Int.toNat x) (Int.toNat y)) : Int)))), [(0 : Int) ≤ x ∧ x < q0, (0 : Int) ≤ y ∧ y < q0])) := by kernel_rfl
theorem loop79a (a b : Nat) : codeV Tryz.prog (lk E14g) L0 (G1 []) Tryz.f79.ntmps 60 (loopC Tryz.f79 0) [4] [] (I79 a b) = (let q0 := decide ((↑(List.length (enc a)) : Int) ≤ (2 : Int)) = true; let q1 := (↑(o_gcd (Int.toNat (↑(nv (enc a)) : Int)) (Int.toNat (↑(nv (enc b)) : Int))) : Int); let q2 := (18446744073709551616 : Int); let q3 := (↑(List.length (enc b)) : Int); some (Ex.ret, { tmps := [((4 : Nat), AV.s (SV.one (LV.row EK.u32 (enc (Int.toNat q1)))))], boxes := [] }, [decide ((0 : Int) < q3) = true, q0, q0, q0, q0, decide (q3 ≤ (2 : Int)) = true, Words (enc a), List.length (enc a) ≤ (2 : Nat), Words (enc b), List.length (enc b) ≤ (2 : Nat), (0 : Int) ≤ (↑(nv (enc a)) : Int) ∧ (↑(nv (enc a)) : Int) < q2, (0 : Int) ≤ (↑(nv (enc b)) : Int) ∧ (↑(nv (enc b)) : Int) < q2, (0 : Int) ≤ q1 ∧ q1 < q2])) := by kernel_rfl
theorem loop79b (a b : Nat) : codeV Tryz.prog (lk E14g) L0 (G1 [13, 17]) Tryz.f79.ntmps 60 (loopC Tryz.f79 0) [0, 1] [] (I79 a b) = (let q0 := decide ((↑(List.length (enc a)) : Int) ≤ (2 : Int)) = false; some (Ex.normal, { tmps := [((0 : Nat), AV.s (SV.one (LV.row EK.u32 (enc b)))), ((1 : Nat), AV.s (SV.one (LV.row EK.u32 (enc (nv (enc a) % nv (enc b))))))], boxes := [] }, [decide ((0 : Int) < (↑(List.length (enc b)) : Int)) = true, q0, q0, q0, q0, false = false, Canon (enc a), Canon (enc b), (0 : Nat) < List.length (enc b), List.length (enc a) < (137438953471 : Nat), List.length (enc b) < (137438953471 : Nat)])) := by kernel_rfl
theorem loop79c (a b : Nat) : codeV Tryz.prog (lk E14g) L0 (G1 [17]) Tryz.f79.ntmps 60 (loopC Tryz.f79 0) [0, 1] [] (I79 a b) = (let q0 := decide ((↑(List.length (enc a)) : Int) ≤ (2 : Int)) = true; let q1 := (↑(List.length (enc b)) : Int); some (Ex.normal, { tmps := [((0 : Nat), AV.s (SV.one (LV.row EK.u32 (enc b)))), ((1 : Nat), AV.s (SV.one (LV.row EK.u32 (enc (nv (enc a) % nv (enc b))))))], boxes := [] }, [decide ((0 : Int) < q1) = true, q0, q0, q0, q0, decide (q1 ≤ (2 : Int)) = false, Canon (enc a), Canon (enc b), (0 : Nat) < List.length (enc b), List.length (enc a) < (137438953471 : Nat), List.length (enc b) < (137438953471 : Nat)])) := by kernel_rfl
theorem loop79d (a b : Nat) : codeV Tryz.prog (lk E14g) L0 (G1 [9]) Tryz.f79.ntmps 60 (loopC Tryz.f79 0) [0] [] (I79 a b) = some (Ex.exit (0 : Nat), { tmps := [((0 : Nat), AV.s (SV.one (LV.row EK.u32 (enc a))))], boxes := [] }, [decide ((0 : Int) < (↑(List.length (enc b)) : Int)) = false]) := by kernel_rfl
theorem run79a (xs ys : List Int) : fnEx Tryz.prog (lk E14g) (L79 true) (G1 []) 60 Tryz.f79 [.one (.row .u32 xs), .one (.row .u32 ys)] = some (AV.s (SV.one (LV.row EK.u32 (enc (o_gcd (nv xs) (nv ys))))), [Canon xs, Canon ys, List.length xs ≤ (100000000 : Nat), List.length ys ≤ (100000000 : Nat), o_way (nv xs) (nv ys) = true]) := by kernel_rfl
theorem run79b (xs ys : List Int) : fnEx Tryz.prog (lk E14g) (L79 false) (G1 []) 60 Tryz.f79 [.one (.row .u32 xs), .one (.row .u32 ys)] = some (AV.s (SV.one (LV.row EK.u32 (enc (o_gcd (nv xs) (nv ys))))), [Canon xs, Canon ys, List.length xs ≤ (100000000 : Nat), List.length ys ≤ (100000000 : Nat), o_way (nv xs) (nv ys) = false]) := by kernel_rfl
theorem run84a (m x n : Int) : fnEx Tryz.prog (lk (E14p m)) L0 (G1 []) 60 Tryz.f84 [.abs [x], num n] = some (AV.s (SV.agg [LV.v (Value.bool (decide ((1 : Int) < (0 : Int)))), LV.row EK.u32 (enc (Int.natAbs (1 : Int)))]), [decide (n = (0 : Int)) = true, (-9223372036854775808 : Int) ≤ (1 : Int) ∧ (1 : Int) < (9223372036854775808 : Int)]) := by kernel_rfl
theorem run84b (m x n : Int) : fnEx Tryz.prog (lk (E14p m)) L0 (G1 [8]) 60 Tryz.f84 [.abs [x], num n] = (let q1 := IntKind.wrap .i64 (Int.tdiv n (2 : Int)); let q2 := decide (x < (0 : Int)); let q4 := decide (o_toI q2 (enc (Int.natAbs x)) ^ Int.toNat q1 < (0 : Int)); let q5 := enc (Int.natAbs (o_toI q2 (enc (Int.natAbs x)) ^ Int.toNat q1)); let q0 := o_toI q4 q5; let q3 := o_ok q4 q5; let q6 := o_toI q2 (enc (Int.natAbs x)); let q7 := o_ok q2 (enc (Int.natAbs x)); some (AV.s (SV.agg [LV.v (Value.bool (decide (o_toI (decide ((fun x1 x2 => x1 * x2) q0 q0 < (0 : Int))) (enc (Int.natAbs ((fun x1 x2 => x1 * x2) q0 q0))) * o_toI q2 (enc (Int.natAbs x)) < (0 : Int)))), LV.row EK.u32 (enc (Int.natAbs ((fun x1 x2 => x1 * x2) (o_toI (decide ((fun x1 x2 => x1 * x2) q0 q0 < (0 : Int))) (enc (Int.natAbs ((fun x1 x2 => x1 * x2) q0 q0)))) q6)))]), [decide (n = (0 : Int)) = false, ¬(2 : Int) = (0 : Int), q7, (0 : Int) ≤ IntKind.wrap .i64 (Int.tdiv n (2 : Int)) ∧ IntKind.wrap .i64 (Int.tdiv n (2 : Int)) < m, IntKind.wrap .i64 (Int.tdiv n (2 : Int)) ≤ (100000000 : Int), List.length (enc (Int.natAbs q6)) * (Int.toNat q1 + (1 : Nat)) ≤ (100000000 : Nat), q3, q3, o_sz big q0, o_sz big q0, ¬(2 : Int) = (0 : Int), decide (Int.tmod n (2 : Int) = (1 : Int)) = true, o_ok (decide ((fun x1 x2 => x1 * x2) q0 q0 < (0 : Int))) (enc (Int.natAbs ((fun x1 x2 => x1 * x2) q0 q0))), q7, o_sz big (o_toI (decide ((fun x1 x2 => x1 * x2) q0 q0 < (0 : Int))) (enc (Int.natAbs ((fun x1 x2 => x1 * x2) q0 q0)))), o_sz big q6])) := by kernel_rfl
theorem run84c (m x n : Int) : fnEx Tryz.prog (lk (E14p m)) L0 (G1 [8, 19]) 60 Tryz.f84 [.abs [x], num n] = (let q2 := IntKind.wrap .i64 (Int.tdiv n (2 : Int)); let q3 := decide (x < (0 : Int)); let q0 := decide (o_toI q3 (enc (Int.natAbs x)) ^ Int.toNat q2 < (0 : Int)); let q1 := enc (Int.natAbs (o_toI q3 (enc (Int.natAbs x)) ^ Int.toNat q2)); some (AV.s (SV.agg [LV.v (Value.bool (decide (o_toI q0 q1 * o_toI q0 q1 < (0 : Int)))), LV.row EK.u32 (enc (Int.natAbs ((fun x1 x2 => x1 * x2) (o_toI q0 q1) (o_toI q0 q1))))]), [decide (n = (0 : Int)) = false, ¬(2 : Int) = (0 : Int), o_ok q3 (enc (Int.natAbs x)), (0 : Int) ≤ IntKind.wrap .i64 (Int.tdiv n (2 : Int)) ∧ IntKind.wrap .i64 (Int.tdiv n (2 : Int)) < m, IntKind.wrap .i64 (Int.tdiv n (2 : Int)) ≤ (100000000 : Int), List.length (enc (Int.natAbs (o_toI q3 (enc (Int.natAbs x))))) * (Int.toNat q2 + (1 : Nat)) ≤ (100000000 : Nat), o_ok q0 q1, o_ok q0 q1, o_sz big (o_toI q0 q1), o_sz big (o_toI q0 q1), ¬(2 : Int) = (0 : Int), decide (Int.tmod n (2 : Int) = (1 : Int)) = false])) := by kernel_rfl
theorem run80a (x : Int) : fnEx Tryz.prog (lk E14) L0 (G1 []) 60 Tryz.f80 [.abs [x]] = some (AV.tup [SV.one (LV.v (Value.int .i64 (0 : Int))), SV.one (LV.v (Value.bool false))], [decide ((2 : Int) < (↑(List.length (enc (Int.natAbs x))) : Int)) = true]) := by kernel_rfl
theorem run80b (x : Int) : fnEx Tryz.prog (lk E14) L0 (G1 [8]) 60 Tryz.f80 [.abs [x]] = (let q0 := (Bool.not (decide (x < (0 : Int)))) = true; let q1 := (↑(nv (enc (Int.natAbs x))) : Int); some (AV.tup [SV.one (LV.v (Value.int .i64 (IntKind.wrap .i64 q1))), SV.one (LV.v (Value.bool true))], [decide ((2 : Int) < (↑(List.length (enc (Int.natAbs x))) : Int)) = false, Words (enc (Int.natAbs x)), List.length (enc (Int.natAbs x)) ≤ (2 : Nat), q0, q0, q0, decide (q1 < (9223372036854775808 : Int)) = true])) := by kernel_rfl
theorem run80c (x : Int) : fnEx Tryz.prog (lk E14) L0 (G1 [8, 18, 23, 26]) 60 Tryz.f80 [.abs [x]] = (let q0 := (Bool.not (decide (x < (0 : Int)))) = true; let q1 := decide (x < (0 : Int)) = false; some (AV.tup [SV.one (LV.v (Value.int .i64 (0 : Int))), SV.one (LV.v (Value.bool false))], [decide ((2 : Int) < (↑(List.length (enc (Int.natAbs x))) : Int)) = false, Words (enc (Int.natAbs x)), List.length (enc (Int.natAbs x)) ≤ (2 : Nat), q0, q0, q0, decide ((↑(nv (enc (Int.natAbs x))) : Int) < (9223372036854775808 : Int)) = false, q1, q1, q1, false = false])) := by kernel_rfl
theorem run80d (x : Int) : fnEx Tryz.prog (lk E14) L0 (G1 [8, 15, 18]) 60 Tryz.f80 [.abs [x]] = (let q0 := (Bool.not (decide (x < (0 : Int)))) = false; let q1 := decide (x < (0 : Int)) = true; let q2 := (↑(nv (enc (Int.natAbs x))) : Int); some (AV.tup [SV.one (LV.v (Value.int .i64 (IntKind.wrap .i64 (IntKind.wrap .i64 ((0 : Int) - IntKind.wrap .i64 (IntKind.wrap .u64 (q2 - (1 : Int)))) - (1 : Int))))), SV.one (LV.v (Value.bool true))], [decide ((2 : Int) < (↑(List.length (enc (Int.natAbs x))) : Int)) = false, Words (enc (Int.natAbs x)), List.length (enc (Int.natAbs x)) ≤ (2 : Nat), q0, q0, q0, false = false, q1, q1, q1, decide (q2 ≤ (9223372036854775808 : Int)) = true])) := by kernel_rfl
theorem run80e (x : Int) : fnEx Tryz.prog (lk E14) L0 (G1 [8, 15, 18, 26]) 60 Tryz.f80 [.abs [x]] = (let q0 := (Bool.not (decide (x < (0 : Int)))) = false; let q1 := decide (x < (0 : Int)) = true; some (AV.tup [SV.one (LV.v (Value.int .i64 (0 : Int))), SV.one (LV.v (Value.bool false))], [decide ((2 : Int) < (↑(List.length (enc (Int.natAbs x))) : Int)) = false, Words (enc (Int.natAbs x)), List.length (enc (Int.natAbs x)) ≤ (2 : Nat), q0, q0, q0, false = false, q1, q1, q1, decide ((↑(nv (enc (Int.natAbs x))) : Int) ≤ (9223372036854775808 : Int)) = false])) := by kernel_rfl
end Go.Proofs.YtkfdnpbpebmhaaaGreatDoor.Spec
end
namespace Go.Proofs.YtkfdnpbpebmhaaaGreatDoor.Spec
open Go Go.RowKit Sx Num

theorem bl_half {t : Nat} (h : t < 2 ^ 64) (h0 : 0 < t) : o_bl t = o_bl (t / 2) + 1 := by
  have a := bl_spec h
  have hh : t / 2 < 2 ^ 64 := Nat.lt_of_le_of_lt (Nat.div_le_self _ _) h
  have b := bl_spec hh
  have hp : 0 < o_bl t := by have := a.2.2.2; omega
  apply Nat.le_antisymm
  · apply bl_le h
    have := b.1
    rw [Nat.pow_succ]
    generalize 2 ^ o_bl (t / 2) = z at *
    omega
  · have : o_bl (t / 2) ≤ o_bl t - 1 := by
      apply bl_le hh
      have h1 := a.1
      rw [show o_bl t = (o_bl t - 1) + 1 by omega, Nat.pow_succ] at h1
      generalize 2 ^ (o_bl t - 1) = z at *
      omega
    omega
def V45 (x : Int × Int) : Prop := 0 ≤ x.1 ∧ 0 ≤ x.2 ∧ x.2 < 4294967296 ∧ x.1 + (o_bl x.2.toNat : Int) < 4611686018427388000
theorem sub45 {st : St} {e : Ex} {s : St} {obs : List Prop} (h : F45 st = some (e, s, obs)) (hob : AllP obs) : ∃ x : Int × Int, V45 x ∧ SubS st (I45 x.1 x.2) ∧ e = .exit 0 ∧ s = I45 (x.1 + (o_bl x.2.toNat : Int)) 0 := by
  unfold F45 at h
  split at h
  · rename_i c t hz h1 h2
    simp only [Option.some.injEq, Prod.mk.injEq] at h
    obtain ⟨rfl, rfl, rfl⟩ := h
    obtain ⟨⟨h3, h4⟩, ⟨h5, h6⟩, _⟩ := hob
    have hb : o_bl t.toNat ≤ 32 := bl_le (by omega) (by omega)
    refine ⟨(c, t), ⟨h3, h5, h6, by show c + (o_bl t.toNat : Int) < _; omega⟩, ⟨?_, ?_, ?_⟩, rfl, rfl⟩
    · intro p hp
      simp only [I45, List.mem_cons, List.not_mem_nil, or_false] at hp
      rcases hp with rfl | rfl <;> exact ⟨by assumption, rfl⟩
    · intro p hp; cases hp
    · rw [hz]; intro h; cases h
  · cases h
theorem lo45 : ∀ d ∈ loopsF Tryz.f45, LoopOk Tryz.prog Tryz.f45.ntmps L45 d := by
  rw [show loopsF Tryz.f45 = [loopC Tryz.f45 0] by kernel_rfl]
  intro d hd
  rw [List.mem_singleton] at hd
  subst hd
  refine loop_ok (k := 6) (f := F45) (α := Int × Int) (by kernel_rfl) (by kernel_rfl) (fun x => I45 x.1 x.2) (fun x => I45 (x.1 + (o_bl x.2.toNat : Int)) 0) V45 (fun x => x.2.toNat) (.exit 0) (by simp) (fun st e s obs h hob => sub45 h hob) ?_
  rintro ⟨c, t⟩ ⟨h0, h1, h2, h3⟩
  simp only at h0 h1 h2 h3 ⊢
  have hno : ∀ d ∈ loopsOf (loopC Tryz.f45 0), LoopOk Tryz.prog Tryz.f45.ntmps L0 d := by rw [show loopsOf (loopC Tryz.f45 0) = [] by kernel_rfl]; intro d hd; cases hd
  by_cases ht : 0 < t
  · obtain ⟨k, rfl⟩ := Int.eq_ofNat_of_zero_le h1
    have w1 : IntKind.wrap IntKind.u32 (Int.tdiv (k : Int) 2) = ((k / 2 : Nat) : Int) := by
      rw [Int.tdiv_eq_ediv_of_nonneg h1, w32]; omega
    have hb := bl_half (t := k) (by omega) (by omega)
    rw [tnc] at h3
    have w2 : IntKind.wrap IntKind.i64 (c + 1) = c + 1 := wi64 _ (by omega) (by omega)
    refine (codeV_sound hmix E14ok.hS hno (loop45a c k) ?_).mono ?_
    · simp [AllP]; omega
    · rintro e s ⟨rfl, hs⟩
      refine .inl ⟨rfl, (c + 1, ((k / 2 : Nat) : Int)), ⟨by show 0 ≤ c + 1; omega, by show (0 : Int) ≤ ((k / 2 : Nat) : Int); omega, by show ((k / 2 : Nat) : Int) < _; omega, by show c + 1 + (o_bl (Int.toNat ((k / 2 : Nat) : Int)) : Int) < _; rw [tnc]; omega⟩, by simp only [tnc]; omega, ?_, ?_⟩
      · rw [w1, w2] at hs; exact hs
      · simp only [tnc]; rw [hb]; congr 1; omega
  · refine (codeV_sound hmix E14ok.hS hno (loop45b c t) ?_).mono ?_
    · simp [AllP, ht]
    · rintro e s ⟨rfl, hs⟩
      have : t = 0 := by omega
      subst this
      refine .inr ⟨rfl, ?_⟩
      rw [show c + (o_bl (Int.toNat 0) : Int) = c by rw [show o_bl (Int.toNat 0) = 0 from rfl]; omega]
      exact hs
theorem con45 : Con Tryz.prog 45 (spZn fun x => (o_bits x.natAbs : Int)) := by
  refine con_run (L := L45) (fn := Tryz.f45) hmix E14ok.hS lo45 (by kernel_rfl) (fun _ => by kernel_rfl) ?_
  intro avs r ps hsp hps
  unfold spZn at hsp
  split at hsp
  · rename_i x
    simp only [Option.some.injEq, Prod.mk.injEq] at hsp
    obtain ⟨rfl, rfl⟩ := hsp
    have lx := sz_big hps.1
    refine ⟨rfl, ?_⟩
    by_cases h : x = 0
    · subst h
      refine ⟨_, _, _, _, run45a 0, rfl, by simp [AllP, enc_zero]⟩
    · have hp : 0 < (enc x.natAbs).length := (enc_len_pos _).2 (by omega)
      have w1 : IntKind.wrap IntKind.i64 (((enc x.natAbs).length : Int) - 1) = (((enc x.natAbs).length - 1 : Nat) : Int) := by rw [wi64 _ (by omega) (by omega)]; omega
      have g1 : (enc x.natAbs).getD ((enc x.natAbs).length - 1) 0 = ((dg x.natAbs ((enc x.natAbs).length - 1) : Nat) : Int) := by
        have := nv_getD (words_enc x.natAbs) ((enc x.natAbs).length - 1)
        rwa [nv_enc] at this
      have hd := dg_lt x.natAbs ((enc x.natAbs).length - 1)
      refine ⟨_, _, _, _, run45b x, numE ?_, ?_⟩
      · rw [w1, tnc, g1, tnc]
        unfold o_bits
        rw [wi64 (32 * _) (by omega) (by omega)]
        omega
      · simp only [AllP, w1, tnc, g1]
        unfold B at hd
        unfold isW
        rw [wi64 (32 * _) (by omega) (by omega)]
        and_intros <;> first | exact trivial | omega | exact decide_eq_false (by omega)
  · cases hsp

/-- Equality. -/
def spSame : Sp
  | [.abs [x], .abs [y]] => some (.s (.one (.v (.bool (decide (x = y))))), [o_sz big x, o_sz big y])
  | _ => none
abbrev A21 : Type := TypeId × TypeId × Bool × List Int × Bool × List Int × Int
def V21 (d : Bool) (x : A21) : Prop := 0 ≤ x.2.2.2.2.2.2 ∧ x.2.2.2.2.2.2 ≤ x.2.2.2.1.length ∧ x.2.2.2.1.length = x.2.2.2.2.2.1.length ∧ Ln x.2.2.2.1 ∧ (∀ j : Nat, (j : Int) < x.2.2.2.2.2.2 → x.2.2.2.1.getD j 0 = x.2.2.2.2.2.1.getD j 0) ∧ (d = true ↔ x.2.2.2.1 = x.2.2.2.2.2.1)
def J21 (x : A21) : St := I21 x.1 x.2.1 x.2.2.1 x.2.2.2.1 x.2.2.2.2.1 x.2.2.2.2.2.1 x.2.2.2.2.2.2
def fin21 (d : Bool) (_ : A21) : St := bif d then ⟨[], []⟩ else ⟨[(4, .s (boo false))], []⟩
theorem sub21 {d : Bool} {st : St} {e : Ex} {s : St} {obs : List Prop} (h : F21 d st = some (e, s, obs)) (hob : AllP obs) : ∃ x : A21, V21 d x ∧ SubS st (J21 x) ∧ e = (bif d then .exit 0 else .ret) ∧ s = fin21 d x := by
  unfold F21 at h
  split at h
  · rename_i i ty b xs ty2 b2 ys hz h1 h2 h3 h4 h5
    have hsub : SubS st (J21 (ty, ty2, b, xs, b2, ys, i)) := by
      refine ⟨?_, ?_, ?_⟩
      · intro p hp
        simp only [J21, I21, List.mem_cons, List.not_mem_nil, or_false] at hp
        rcases hp with rfl | rfl | rfl <;> exact ⟨by assumption, rfl⟩
      · intro p hp
        simp only [J21, I21, boxZ, List.mem_cons, List.not_mem_nil, or_false] at hp
        rcases hp with rfl | rfl <;> exact ⟨by assumption, rfl⟩
      · rw [hz]; intro h; cases h
    cases d with
    | true =>
      simp only [cond_true, Option.some.injEq, Prod.mk.injEq] at h
      obtain ⟨rfl, rfl, rfl⟩ := h
      obtain ⟨⟨rfl, hl, hln, he⟩, _⟩ := hob
      exact ⟨(ty, ty2, b, xs, b2, ys, 0), ⟨Int.le_refl _, by show (0 : Int) ≤ xs.length; omega, hl, hln, fun j hj => absurd hj (by show ¬ (j : Int) < 0; omega), ⟨fun _ => he, fun _ => rfl⟩⟩, hsub, rfl, rfl⟩
    | false =>
      simp only [cond_false, Option.some.injEq, Prod.mk.injEq] at h
      obtain ⟨rfl, rfl, rfl⟩ := h
      obtain ⟨⟨rfl, hl, hln, he⟩, _⟩ := hob
      exact ⟨(ty, ty2, b, xs, b2, ys, 0), ⟨Int.le_refl _, by show (0 : Int) ≤ xs.length; omega, hl, hln, fun j hj => absurd hj (by show ¬ (j : Int) < 0; omega), ⟨fun h => Bool.noConfusion h, fun h => absurd h he⟩⟩, hsub, rfl, rfl⟩
  · cases h
theorem getD_ext {xs ys : List Int} (hl : xs.length = ys.length) (h : ∀ j : Nat, j < xs.length → xs.getD j 0 = ys.getD j 0) : xs = ys := by
  apply List.ext_getElem hl
  intro j h1 h2
  have := h j h1
  rw [List.getD_eq_getElem?_getD, List.getD_eq_getElem?_getD, List.getElem?_eq_getElem h1, List.getElem?_eq_getElem h2] at this
  exact this
theorem lo21 (d : Bool) : ∀ c ∈ loopsF Tryz.f21, LoopOk Tryz.prog Tryz.f21.ntmps (L21 d) c := by
  rw [show loopsF Tryz.f21 = [loopC Tryz.f21 0] by kernel_rfl]
  intro c hc
  rw [List.mem_singleton] at hc
  subst hc
  refine loop_ok (k := 4) (f := F21 d) (α := A21) (by kernel_rfl) rfl J21 (fin21 d) (V21 d) (fun x => (x.2.2.2.1.length - x.2.2.2.2.2.2).toNat) (bif d then .exit 0 else .ret) (by cases d <;> simp) (fun st e s obs h hob => sub21 h hob) ?_
  rintro ⟨ty, ty2, b, xs, b2, ys, i⟩ ⟨h0, h1, hl, hln, he, hd⟩
  simp only at h0 h1 hl hln he hd ⊢
  have hno : ∀ d ∈ loopsOf (loopC Tryz.f21 0), LoopOk Tryz.prog Tryz.f21.ntmps L0 d := by rw [show loopsOf (loopC Tryz.f21 0) = [] by kernel_rfl]; intro d hd; cases hd
  unfold Ln at hln
  by_cases hi : i < xs.length
  · obtain ⟨k, rfl⟩ := Int.eq_ofNat_of_zero_le h0
    have w3 : IntKind.wrap IntKind.i64 ((k : Int) + 1) = (k : Int) + 1 := wi64 _ (by omega) (by omega)
    by_cases hq : xs.getD k 0 = ys.getD k 0
    · refine (codeV_sound hmix E14ok.hS hno (loop21b ty ty2 b xs b2 ys k) ?_).mono ?_
      · simp only [AllP, tnc, decide_eq_true hq, decide_eq_true hi]
        and_intros <;> first | exact trivial | omega | rfl
      · rintro e s ⟨rfl, hs⟩
        refine .inl ⟨rfl, (ty, ty2, b, xs, b2, ys, (k : Int) + 1), ⟨by show (0 : Int) ≤ (k : Int) + 1; omega, by show (k : Int) + 1 ≤ (xs.length : Int); omega, hl, hln, fun j hj => ?_, hd⟩, by simp only; omega, by rw [w3] at hs; exact hs, rfl⟩
        simp only at hj ⊢
        by_cases hjk : j = k
        · subst hjk; exact hq
        · exact he j (by omega)
    · have hdf : d = false := by
        cases d with
        | false => rfl
        | true => exact absurd (by rw [hd.1 rfl]) hq
      subst hdf
      refine (codeV_sound hmix E14ok.hS hno (loop21a ty ty2 b xs b2 ys k) ?_).mono ?_
      · simp only [AllP, tnc, decide_eq_false hq, decide_eq_true hi]
        and_intros <;> first | exact trivial | omega | rfl
      · rintro e s ⟨rfl, hs⟩
        exact .inr ⟨rfl, hs⟩
  · have hdt : d = true := hd.2 (getD_ext hl fun j hj => he j (by omega))
    subst hdt
    refine (codeV_sound hmix E14ok.hS hno (loop21c ty ty2 b xs b2 ys i) ?_).mono ?_
    · simp only [AllP, decide_eq_false hi]
      and_intros <;> first | exact trivial | rfl
    · rintro e s ⟨rfl, hs⟩
      exact .inr ⟨rfl, hs⟩
theorem enc_inj {a b : Nat} (h : enc a = enc b) : a = b := by rw [← nv_enc a, h, nv_enc]
theorem con21 : Con Tryz.prog 21 spSame := by
  refine con_runL (fn := Tryz.f21) hmix E14ok.hS (by kernel_rfl) (fun _ => by kernel_rfl) ?_
  intro avs r ps hsp hps
  unfold spSame at hsp
  split at hsp
  · rename_i x y
    simp only [Option.some.injEq, Prod.mk.injEq] at hsp
    obtain ⟨rfl, rfl⟩ := hsp
    obtain ⟨hx, hy, _⟩ := hps
    have lx := sz_big hx
    have ly := sz_big hy
    refine ⟨rfl, ?_⟩
    by_cases h : x < 0 ↔ y < 0
    · by_cases hl : (enc x.natAbs).length = (enc y.natAbs).length
      · have hli : ((enc x.natAbs).length : Int) = ((enc y.natAbs).length : Int) := by omega
        by_cases hq : x = y
        · refine ⟨L21 true, lo21 true, _, _, _, _, run21c x y, by rw [decide_eq_true hq], ?_⟩
          simp only [AllP, decb, decide_eq_true h, decide_eq_true hli]
          unfold Ln
          and_intros <;> first | exact trivial | rfl | omega | rw [hq]
        · refine ⟨L21 false, lo21 false, _, _, _, _, run21d x y, by rw [decide_eq_false hq], ?_⟩
          have hne : ¬ enc x.natAbs = enc y.natAbs := fun e => by have := enc_inj e; omega
          simp only [AllP, decb, decide_eq_true h, decide_eq_true hli]
          unfold Ln
          and_intros <;> first | exact trivial | rfl | exact hne | omega
      · have hli : ¬ ((enc x.natAbs).length : Int) = ((enc y.natAbs).length : Int) := by omega
        refine ⟨L21 true, lo21 true, _, _, _, _, run21b x y, by rw [decide_eq_false (fun e => hl (by rw [e]))], ?_⟩
        · simp only [AllP, decb, decide_eq_true h, decide_eq_false hli]
          and_intros <;> first | exact trivial | rfl
    · refine ⟨L21 true, lo21 true, _, _, _, _, run21a x y, by rw [decide_eq_false (fun e => h (by rw [e]))], ?_⟩
      · simp only [AllP, decb, decide_eq_false h]
        and_intros <;> first | exact trivial | rfl
  · cases hsp

/-- The greatest common divisor, as the loop comes to it. -/
theorem gcd_step (a b : Nat) : o_gcd b (a % b) = o_gcd a b := by
  unfold o_gcd
  rw [Nat.gcd_comm a b, Nat.gcd_rec b a, Nat.gcd_comm]
theorem gcd_len {a b k : Nat} (ha : (enc a).length ≤ k) (hb : (enc b).length ≤ k) : (enc (o_gcd a b)).length ≤ k := by
  unfold o_gcd
  by_cases h : a = 0
  · rw [h, Nat.gcd_zero_left]; exact hb
  · exact enc_le_of ha (Nat.le_of_dvd (by omega) (Nat.gcd_dvd_left a b))
def V38 (x : TypeId × Nat × Nat) : Prop := (enc x.2.1).length ≤ 100000000 ∧ (enc x.2.2).length ≤ 100000000
theorem sub38 {st : St} {e : Ex} {s : St} {obs : List Prop} (h : F38 st = some (e, s, obs)) (hob : AllP obs) : ∃ x : TypeId × Nat × Nat, V38 x ∧ SubS st (I38 x.1 x.2.1 x.2.2) ∧ e = .exit 0 ∧ s = I38 x.1 (o_gcd x.2.1 x.2.2) 0 := by
  unfold F38 at h
  split at h
  · rename_i xs ys ty hz h1 h2 h3 h4
    simp only [Option.some.injEq, Prod.mk.injEq] at h
    obtain ⟨rfl, rfl, rfl⟩ := h
    obtain ⟨hc1, hc2, hl1, hl2, _⟩ := hob
    refine ⟨(ty, nv xs, nv ys), ⟨by show (enc (nv xs)).length ≤ _; rw [enc_nv hc1]; exact hl1, by show (enc (nv ys)).length ≤ _; rw [enc_nv hc2]; exact hl2⟩, ⟨?_, ?_, ?_⟩, rfl, rfl⟩
    · intro p hp
      simp only [I38, enc_nv hc1, enc_nv hc2, List.mem_cons, List.not_mem_nil, or_false] at hp
      rcases hp with rfl | rfl | rfl <;> exact ⟨by assumption, rfl⟩
    · intro p hp
      simp only [I38, box0, List.mem_cons, List.not_mem_nil, or_false] at hp
      rcases hp with rfl; exact ⟨by assumption, rfl⟩
    · rw [hz]; intro h; cases h
  · cases h
theorem lo38 : ∀ d ∈ loopsF Tryz.f38, LoopOk Tryz.prog Tryz.f38.ntmps L38 d := by
  rw [show loopsF Tryz.f38 = [loopC Tryz.f38 0] by kernel_rfl]
  intro d hd
  rw [List.mem_singleton] at hd
  subst hd
  refine loop_ok (k := 2) (f := F38) (α := TypeId × Nat × Nat) (by kernel_rfl) (by kernel_rfl) (fun x => I38 x.1 x.2.1 x.2.2) (fun x => I38 x.1 (o_gcd x.2.1 x.2.2) 0) V38 (fun x => x.2.2) (.exit 0) (by simp) (fun st e s obs h hob => sub38 h hob) ?_
  rintro ⟨ty, a, b⟩ ⟨h0, h1⟩
  simp only at h0 h1 ⊢
  have hno : ∀ d ∈ loopsOf (loopC Tryz.f38 0), LoopOk Tryz.prog Tryz.f38.ntmps L0 d := by rw [show loopsOf (loopC Tryz.f38 0) = [] by kernel_rfl]; intro d hd; cases hd
  have hp := enc_len_pos b
  by_cases hb : 0 < b
  · refine (codeV_sound hmix E14ok.hS hno (loop38a ty a b) ?_).mono ?_
    · simp only [AllP, canon_e]
      and_intros <;> first | exact trivial | omega | exact decide_eq_true (by omega)
    · rintro e s ⟨rfl, hs⟩
      refine .inl ⟨rfl, (ty, b, a % b), ⟨h1, by show (enc (a % b)).length ≤ _; exact enc_le_of h0 (Nat.mod_le _ _)⟩, Nat.mod_lt _ hb, ?_, ?_⟩
      · rw [nv_enc, nv_enc] at hs; exact hs
      · simp only [gcd_step]
  · refine (codeV_sound hmix E14ok.hS hno (loop38b ty a b) ?_).mono ?_
    · simp only [AllP]
      and_intros <;> first | exact trivial | exact decide_eq_false (by omega)
    · rintro e s ⟨rfl, hs⟩
      have : b = 0 := by omega
      subst this
      refine .inr ⟨rfl, ?_⟩
      rw [show o_gcd a 0 = a from Nat.gcd_zero_right a]
      exact hs
def gcdZ (x y : Int) : Int := (o_gcd x.natAbs y.natAbs : Nat)
theorem con38 : Con Tryz.prog 38 (spZ2 gcdZ) := by
  refine con_runZ (fn := Tryz.f38) hmix E14ok.hS (by kernel_rfl) (fun _ => by kernel_rfl) ?_
  intro avs r ps hsp hps
  unfold spZ2 at hsp
  split at hsp
  · rename_i x y
    simp only [Option.some.injEq, Prod.mk.injEq] at hsp
    obtain ⟨rfl, rfl⟩ := hsp
    obtain ⟨hx, hy, _⟩ := hps
    have lx := sz_big hx
    have ly := sz_big hy
    have lg := gcd_len lx ly
    refine ⟨rfl, L38, lo38, _, _, _, _, run38 x y, unZ (by rw [toI_n, nv_enc, nv_enc]; rfl), ?_⟩
    simp only [AllP, nv_enc, words_e, canon_e]
    unfold Ln
    and_intros <;> first | exact trivial | omega
  · cases hsp

def V116 (x : Nat × Nat) : Prop := x.1 < 18446744073709551616 ∧ x.2 < 18446744073709551616
theorem sub116 {st : St} {e : Ex} {s : St} {obs : List Prop} (h : F116 st = some (e, s, obs)) (hob : AllP obs) : ∃ x : Nat × Nat, V116 x ∧ SubS st (I116 x.1 x.2) ∧ e = .exit 0 ∧ s = I116 (o_gcd x.1 x.2) 0 := by
  unfold F116 at h
  split at h
  · rename_i a b hz h1 h2
    simp only [Option.some.injEq, Prod.mk.injEq] at h
    obtain ⟨rfl, rfl, rfl⟩ := h
    obtain ⟨⟨ha, ha'⟩, ⟨hb, hb'⟩, _⟩ := hob
    obtain ⟨a, rfl⟩ := Int.eq_ofNat_of_zero_le ha
    obtain ⟨b, rfl⟩ := Int.eq_ofNat_of_zero_le hb
    refine ⟨(a, b), ⟨by show a < _; omega, by show b < _; omega⟩, ⟨?_, ?_, ?_⟩, rfl, rfl⟩
    · intro p hp
      simp only [I116, List.mem_cons, List.not_mem_nil, or_false] at hp
      rcases hp with rfl | rfl <;> exact ⟨by assumption, rfl⟩
    · intro p hp; cases hp
    · rw [hz]; intro h; cases h
  · cases h
theorem lo116 : ∀ d ∈ loopsF Tryz.f116, LoopOk Tryz.prog Tryz.f116.ntmps L116 d := by
  rw [show loopsF Tryz.f116 = [loopC Tryz.f116 0] by kernel_rfl]
  intro d hd
  rw [List.mem_singleton] at hd
  subst hd
  refine loop_ok (k := 1) (f := F116) (α := Nat × Nat) (by kernel_rfl) (by kernel_rfl) (fun x => I116 x.1 x.2) (fun x => I116 (o_gcd x.1 x.2) 0) V116 (fun x => x.2) (.exit 0) (by simp) (fun st e s obs h hob => sub116 h hob) ?_
  rintro ⟨a, b⟩ ⟨h0, h1⟩
  simp only at h0 h1 ⊢
  have hno : ∀ d ∈ loopsOf (loopC Tryz.f116 0), LoopOk Tryz.prog Tryz.f116.ntmps L0 d := by rw [show loopsOf (loopC Tryz.f116 0) = [] by kernel_rfl]; intro d hd; cases hd
  by_cases hb : 0 < b
  · refine (codeV_sound hmix E14ok.hS hno (loop116a a b) ?_).mono ?_
    · simp only [AllP]
      and_intros <;> first | exact trivial | omega | exact decide_eq_true (by omega)
    · rintro e s ⟨rfl, hs⟩
      have hm := Nat.mod_lt a hb
      refine .inl ⟨rfl, (b, a % b), ⟨h1, by show a % b < _; generalize a % b = r at *; omega⟩, hm, ?_, ?_⟩
      · rw [show Int.tmod (a : Int) (b : Int) = ((a % b : Nat) : Int) from rfl] at hs; exact hs
      · simp only [gcd_step]
  · refine (codeV_sound hmix E14ok.hS hno (loop116b a b) ?_).mono ?_
    · simp only [AllP]
      and_intros <;> first | exact trivial | exact decide_eq_false (by omega)
    · rintro e s ⟨rfl, hs⟩
      have : b = 0 := by omega
      subst this
      refine .inr ⟨rfl, ?_⟩
      rw [show o_gcd a 0 = a from Nat.gcd_zero_right a]
      exact hs
theorem con116 : Con Tryz.prog 116 spGcd2 := by
  refine con_run (L := L116) (fn := Tryz.f116) hmix E14ok.hS lo116 (by kernel_rfl) (fun _ => by kernel_rfl) ?_
  intro avs r ps hsp hps
  unfold spGcd2 at hsp
  split at hsp
  · rename_i a b
    simp only [Option.some.injEq, Prod.mk.injEq] at hsp
    obtain ⟨rfl, rfl⟩ := hsp
    exact ⟨rfl, _, _, _, _, run116 a b, rfl, hps⟩
  · cases hsp
theorem E14gok : EnvOk Tryz.prog E14g := .cons con116 E14ok
theorem way_zero (a : Nat) : o_way a 0 = false := by unfold o_way; rw [way, dif_pos rfl]
theorem way_two {a b : Nat} (h : 0 < b) (k : (enc a).length ≤ 2 ∧ (enc b).length ≤ 2) : o_way a b = true := by unfold o_way; rw [way, dif_neg (by omega), if_pos k]
theorem way_step {a b : Nat} (h : 0 < b) (k : ¬ ((enc a).length ≤ 2 ∧ (enc b).length ≤ 2)) : o_way b (a % b) = o_way a b := by unfold o_way; rw [way.eq_def a b, dif_neg (by omega), if_neg k]
def V79 (d : Bool) (x : Nat × Nat) : Prop := (enc x.1).length ≤ 100000000 ∧ (enc x.2).length ≤ 100000000 ∧ o_way x.1 x.2 = d
def fin79 (d : Bool) (x : Nat × Nat) : St := bif d then ⟨[(4, .s (roW (enc (o_gcd x.1 x.2))))], []⟩ else ⟨[(0, .s (roW (enc (o_gcd x.1 x.2))))], []⟩
theorem sub79 {d : Bool} {st : St} {e : Ex} {s : St} {obs : List Prop} (h : F79 d st = some (e, s, obs)) (hob : AllP obs) : ∃ x : Nat × Nat, V79 d x ∧ SubS st (I79 x.1 x.2) ∧ e = (bif d then .ret else .exit 0) ∧ s = fin79 d x := by
  unfold F79 at h
  split at h
  · rename_i xs ys hz h1 h2
    have hsub : Canon xs → Canon ys → SubS st (I79 (nv xs) (nv ys)) := fun hc1 hc2 => by
      refine ⟨?_, ?_, ?_⟩
      · intro p hp
        simp only [I79, enc_nv hc1, enc_nv hc2, List.mem_cons, List.not_mem_nil, or_false] at hp
        rcases hp with rfl | rfl <;> exact ⟨by assumption, rfl⟩
      · intro p hp; cases hp
      · rw [hz]; intro h; cases h
    cases d with
    | true =>
      simp only [cond_true, Option.some.injEq, Prod.mk.injEq] at h
      obtain ⟨rfl, rfl, rfl⟩ := h
      obtain ⟨hc1, hc2, hl1, hl2, hw, _⟩ := hob
      exact ⟨(nv xs, nv ys), ⟨by show (enc (nv xs)).length ≤ _; rw [enc_nv hc1]; exact hl1, by show (enc (nv ys)).length ≤ _; rw [enc_nv hc2]; exact hl2, hw⟩, hsub hc1 hc2, rfl, rfl⟩
    | false =>
      simp only [cond_false, Option.some.injEq, Prod.mk.injEq] at h
      obtain ⟨rfl, rfl, rfl⟩ := h
      obtain ⟨hc1, hc2, hl1, hl2, hw, _⟩ := hob
      exact ⟨(nv xs, nv ys), ⟨by show (enc (nv xs)).length ≤ _; rw [enc_nv hc1]; exact hl1, by show (enc (nv ys)).length ≤ _; rw [enc_nv hc2]; exact hl2, hw⟩, hsub hc1 hc2, rfl, rfl⟩
  · cases h
theorem lo79 (d : Bool) : ∀ c ∈ loopsF Tryz.f79, LoopOk Tryz.prog Tryz.f79.ntmps (L79 d) c := by
  rw [show loopsF Tryz.f79 = [loopC Tryz.f79 0] by kernel_rfl]
  intro c hc
  rw [List.mem_singleton] at hc
  subst hc
  refine loop_ok (k := 1) (f := F79 d) (α := Nat × Nat) (by kernel_rfl) rfl (fun x => I79 x.1 x.2) (fin79 d) (V79 d) (fun x => x.2) (bif d then .ret else .exit 0) (by cases d <;> simp) (fun st e s obs h hob => sub79 h hob) ?_
  rintro ⟨a, b⟩ ⟨h0, h1, hd⟩
  simp only at h0 h1 hd ⊢
  have hno : ∀ d ∈ loopsOf (loopC Tryz.f79 0), LoopOk Tryz.prog Tryz.f79.ntmps L0 d := by rw [show loopsOf (loopC Tryz.f79 0) = [] by kernel_rfl]; intro d hd; cases hd
  have hp := enc_len_pos b
  by_cases hb : 0 < b
  · by_cases h2 : (enc a).length ≤ 2 ∧ (enc b).length ≤ 2
    · have hdt : d = true := by rw [← hd]; exact way_two hb h2
      subst hdt
      have la : a < 18446744073709551616 := (enc_len _ 2).1 h2.1
      have lb : b < 18446744073709551616 := (enc_len _ 2).1 h2.2
      have lg : o_gcd a b < 18446744073709551616 := (enc_len _ 2).1 (gcd_len h2.1 h2.2)
      refine (codeV_sound hmix E14gok.hS hno (loop79a a b) ?_).mono ?_
      · simp only [AllP, words_e, nv_enc, tnc]
        and_intros <;> first | exact trivial | omega | exact decide_eq_true (by omega)
      · rintro e s ⟨rfl, hs⟩
        refine .inr ⟨rfl, ?_⟩
        simp only [nv_enc, tnc] at hs
        exact hs
    · have nxt : ∀ e s, (e = Ex.normal ∧ SubS s ⟨[(0, .s (roW (enc b))), (1, .s (roW (enc (nv (enc a) % nv (enc b)))))], []⟩) → (e = .normal ∧ ∃ y : Nat × Nat, V79 d y ∧ y.2 < b ∧ SubS s (I79 y.1 y.2) ∧ fin79 d y = fin79 d (a, b)) ∨ (e = (bif d then Ex.ret else .exit 0) ∧ SubS s (fin79 d (a, b))) := by
        rintro e s ⟨rfl, hs⟩
        refine .inl ⟨rfl, (b, a % b), ⟨h1, by show (enc (a % b)).length ≤ _; exact enc_le_of h0 (Nat.mod_le _ _), by show o_way b (a % b) = d; rw [way_step hb h2]; exact hd⟩, Nat.mod_lt _ hb, ?_, ?_⟩
        · rw [nv_enc, nv_enc] at hs; exact hs
        · simp only [fin79, gcd_step]
      by_cases h3 : (enc a).length ≤ 2
      · refine (codeV_sound hmix E14gok.hS hno (loop79c a b) ?_).mono nxt
        simp only [AllP, canon_e]
        and_intros <;> first | exact trivial | omega | exact decide_eq_true (by omega) | exact decide_eq_false (by omega)
      · refine (codeV_sound hmix E14gok.hS hno (loop79b a b) ?_).mono nxt
        simp only [AllP, canon_e]
        and_intros <;> first | exact trivial | omega | exact decide_eq_true (by omega) | exact decide_eq_false (by omega) | rfl
  · have : b = 0 := by omega
    subst this
    have hdf : d = false := by rw [← hd]; exact way_zero a
    subst hdf
    refine (codeV_sound hmix E14gok.hS hno (loop79d a 0) ?_).mono ?_
    · simp only [AllP]
      and_intros <;> first | exact trivial | exact decide_eq_false (by omega)
    · rintro e s ⟨rfl, hs⟩
      refine .inr ⟨rfl, ?_⟩
      show SubS s ⟨[(0, .s (roW (enc (o_gcd a 0))))], []⟩
      rw [show o_gcd a 0 = a from Nat.gcd_zero_right a]
      exact hs
def spCommon : Sp
  | [.one (.row .u32 xs), .one (.row .u32 ys)] => some (.s (roW (enc (o_gcd (nv xs) (nv ys)))), [Canon xs, Canon ys, xs.length ≤ 100000000, ys.length ≤ 100000000])
  | _ => none
theorem con79 : Con Tryz.prog 79 spCommon := by
  refine con_runL (fn := Tryz.f79) hmix E14gok.hS (by kernel_rfl) (fun _ => by kernel_rfl) ?_
  intro avs r ps hsp hps
  unfold spCommon at hsp
  split at hsp
  · rename_i xs ys
    simp only [Option.some.injEq, Prod.mk.injEq] at hsp
    obtain ⟨rfl, rfl⟩ := hsp
    obtain ⟨h1, h2, h3, h4, _⟩ := hps
    refine ⟨rfl, ?_⟩
    cases hw : o_way (nv xs) (nv ys) with
    | true => exact ⟨L79 true, lo79 true, _, _, _, _, run79a xs ys, rfl, h1, h2, h3, h4, hw, trivial⟩
    | false => exact ⟨L79 false, lo79 false, _, _, _, _, run79b xs ys, rfl, h1, h2, h3, h4, hw, trivial⟩
  · cases hsp

end Go.Proofs.YtkfdnpbpebmhaaaGreatDoor.Spec
