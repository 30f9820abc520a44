/- Dividing rows of words: windows of a row, the estimate of a digit. Plain numbers; Contracts: shifting words; Contracts of functions that write into their first argument, out of runs; answers and arguments that are nil; Taking a multiple away in place: the invariants; Runs: taking a multiple away in place; the estimate; Contracts: taking a multiple away in place; the estimate; Contracts: taking a multiple away in place, the estimate of the reference; Contracts: the estimate of the reference, taking away and giving back in place; Contracts off the library: numbers of bits; Dividing rows of words, digit by digit: plain numbers; Run: shifting, into a new slice; Long division: the invariants; Runs: long division. -/
import Derived.Test.YtkfdnpbpebmhaaaGreatDoorProg
import Derived.Test.YtkfdnpbpebmhaaaGreatDoorZ0
import Derived.Test.YtkfdnpbpebmhaaaGreatDoorZ1
import Derived.Test.YtkfdnpbpebmhaaaGreatDoorZ2
namespace Go.Proofs.YtkfdnpbpebmhaaaGreatDoor.Num
open Go.Proofs.YtkfdnpbpebmhaaaGreatDoor.Spec

/-- zs, where W stands from off on. -/
def o_win (zs : List Int) (off : Nat) (W : List Int) : List Int := zs.take off ++ W ++ zs.drop (off + W.length)
/-- len numbers from off on. -/
def o_part (zs : List Int) (off len : Nat) : List Int := (zs.drop off).take len
theorem part_length {zs : List Int} {off len : Nat} (h : off + len ≤ zs.length) : (o_part zs off len).length = len := by simp [o_part]; omega
theorem part_get {zs : List Int} {off len j : Nat} (hj : j < len) : (o_part zs off len).getD j 0 = zs.getD (off + j) 0 := by
  simp [o_part, List.getD, hj, List.getElem?_drop]
theorem win_length {zs W : List Int} {off : Nat} (h : off + W.length ≤ zs.length) : (o_win zs off W).length = zs.length := by
  simp [o_win]; omega
theorem win_get {zs W : List Int} {off j : Nat} (h : off + W.length ≤ zs.length) (hj : j < W.length) : (o_win zs off W).getD (off + j) 0 = W.getD j 0 := by
  unfold o_win
  have h1 : (zs.take off).length = off := by simp; omega
  rw [List.append_assoc, List.getD, List.getElem?_append_right (by omega), h1, Nat.add_sub_cancel_left, List.getElem?_append_left hj]
  rfl
theorem win_set {zs W : List Int} {off j : Nat} (h : off + W.length ≤ zs.length) (hj : j < W.length) (v : Int) : (o_win zs off W).set (off + j) v = o_win zs off (W.set j v) := by
  unfold o_win
  have h1 : (zs.take off).length = off := by simp; omega
  rw [List.append_assoc, List.set_append_right _ _ (by omega), h1, Nat.add_sub_cancel_left, List.set_append_left _ _ hj, List.length_set, List.append_assoc]
theorem win_self {zs : List Int} {off len : Nat} (h : off + len ≤ zs.length) : o_win zs off (o_part zs off len) = zs := by
  have h2 : zs.drop (off + len) = (zs.drop off).drop len := by rw [List.drop_drop]
  unfold o_win
  rw [part_length h, List.append_assoc, h2]
  unfold o_part
  rw [List.take_append_drop, List.take_append_drop]
theorem win_part {zs W : List Int} {off : Nat} (h : off + W.length ≤ zs.length) : o_part (o_win zs off W) off W.length = W := by
  unfold o_win o_part
  have h1 : (zs.take off).length = off := by simp; omega
  have h4 : (zs.take off).drop off = [] := List.drop_eq_nil_of_le (by omega)
  rw [List.append_assoc, List.drop_append_of_le_length (by omega), h4]
  simp
theorem win_win {zs W W' : List Int} {off : Nat} (h : off + W.length ≤ zs.length) (he : W.length = W'.length) : o_win (o_win zs off W) off W' = o_win zs off W' := by
  have h1 : (zs.take off).length = off := by simp; omega
  have e1 : (o_win zs off W).take off = zs.take off := by
    unfold o_win
    rw [List.append_assoc, List.take_append_of_le_length (by omega), List.take_of_length_le (by omega)]
  have e2 : (o_win zs off W).drop (off + W.length) = zs.drop (off + W.length) := by
    unfold o_win
    have h3 : (zs.take off ++ W).length = off + W.length := by rw [List.length_append, h1]
    rw [List.drop_append_of_le_length (by omega), List.drop_eq_nil_of_le (by omega), List.nil_append]
  show (o_win zs off W).take off ++ W' ++ (o_win zs off W).drop (off + W'.length) = _
  rw [e1, ← he, e2, he]
  rfl
theorem part_words {zs : List Int} {off len : Nat} (h : Words zs) : Words (o_part zs off len) := fun x hx => h x (List.mem_of_mem_drop (List.mem_of_mem_take hx))
theorem dgs_nv {W : List Int} (h : Words W) {n : Nat} (hn : W.length = n) : dgs n (nv W) = W := by
  apply List.ext_getElem
  · rw [dgs_length, hn]
  · intro i h1 h2
    have := nv_getD h i
    simp only [List.getD, List.getElem?_eq_getElem h2, Option.getD_some] at this
    rw [this]; simp [dgs]
theorem mix_start {W : List Int} (h : Words W) (a : Nat) : o_mix W.length a (nv W) 0 = W := by
  unfold o_mix
  rw [List.drop_zero, dgs_nv h rfl]; simp [dgs]

/-- What is carried into word i of a product by one word. -/
def o_cm (d v i : Nat) : Nat := d * (v % B ^ i) / B ^ i
theorem cm_zero (d v : Nat) : o_cm d v 0 = 0 := by simp [o_cm, Nat.mod_one]
theorem cm_le (d v i : Nat) : o_cm d v i ≤ d := by
  unfold o_cm
  have h1 := Nat.mod_lt v (pow_pos' i)
  have : d * (v % B ^ i) ≤ d * B ^ i := Nat.mul_le_mul_left _ (Nat.le_of_lt h1)
  exact Nat.le_trans (Nat.div_le_div_right this) (by rw [Nat.mul_div_cancel _ (pow_pos' i)]; exact Nat.le_refl _)
theorem cm_top {d v i : Nat} (h : v < B ^ i) (hd : d < B) : o_cm d v (i + 1) = 0 := by
  unfold o_cm
  have h2 : v < B ^ (i + 1) := Nat.lt_of_lt_of_le h (Nat.pow_le_pow_right (by decide) (by omega))
  rw [Nat.mod_eq_of_lt h2]
  apply Nat.div_eq_of_lt
  rw [Nat.pow_succ, Nat.mul_comm]
  exact Nat.mul_lt_mul_of_lt_of_le h (Nat.le_of_lt hd) (by decide)
theorem cm_step (d v i : Nat) : (d * dg v i + o_cm d v i) / B = o_cm d v (i + 1) ∧ (d * dg v i + o_cm d v i) % B = dg (d * v) i := by
  have hp := pow_pos' i
  have e1 : d * (v % B ^ (i + 1)) = d * (v % B ^ i) + B ^ i * (d * dg v i) := by
    rw [mod_succ, Nat.mul_add, Nat.mul_left_comm]
  have e2 : d * (v % B ^ (i + 1)) / B ^ i = d * dg v i + o_cm d v i := by
    rw [e1, Nat.add_mul_div_left _ _ hp, Nat.add_comm]; rfl
  constructor
  · rw [← e2, Nat.div_div_eq_div_mul, ← Nat.pow_succ]; rfl
  · rw [← e2]
    unfold dg
    have e3 : d * v = d * (v % B ^ (i + 1)) + B ^ i * (B * (d * (v / B ^ (i + 1)))) := by
      conv => lhs; rw [← Nat.mod_add_div v (B ^ (i + 1))]
      rw [Nat.mul_add]
      congr 1
      rw [Nat.pow_succ]
      rw [Nat.mul_left_comm, Nat.mul_assoc, Nat.mul_left_comm B]
    rw [e3, Nat.add_mul_div_left _ _ hp, Nat.add_mul_mod_self_left]

theorem bw_add (u dv N i : Nat) (hi : i ≤ N) : o_bw (u + B ^ N) dv i = o_bw u dv i := by
  unfold o_bw
  obtain ⟨k, rfl⟩ : ∃ k, N = i + k := ⟨N - i, by omega⟩
  rw [Nat.pow_add, Nat.add_mul_mod_self_left]
theorem sub_dig (u dv N i : Nat) (hi : i < N) (hdv : dv ≤ u + B ^ N) : ((dg (u + B ^ N - dv) i : Nat) : Int) = ((dg u i : Int) - dg dv i - o_bw u dv i) % 4294967296 := by
  have h1 := dg_sub (u + B ^ N) dv i hdv
  have h2 : dg (u + B ^ N) i = dg u i := by
    have := dg_add_mul u 1 N i hi
    rwa [Nat.mul_one] at this
  rw [h2, bw_add u dv N i (by omega)] at h1
  exact h1
theorem dgs_top (a N : Nat) : dgs N (a + B ^ N) = dgs N a := by
  have := dgs_add_mul a 1 N
  rwa [Nat.mul_one] at this
theorem bw_end {u dv N : Nat} (hu : u < B ^ N) (hdv : dv < B ^ N) : o_bw u dv N = if u < dv then 1 else 0 := by
  unfold o_bw
  rw [Nat.mod_eq_of_lt hu, Nat.mod_eq_of_lt hdv]
theorem cy_end {s v N : Nat} (hs : s < B ^ N) (hv : v < B ^ N) : o_cy s v N = if B ^ N ≤ s + v then 1 else 0 := by
  unfold o_cy
  rw [Nat.mod_eq_of_lt hs, Nat.mod_eq_of_lt hv]
  split
  · rename_i h
    have h1 : (s + v) / B ^ N < 2 := by rw [Nat.div_lt_iff_lt_mul (pow_pos' N)]; omega
    have h2 : 1 ≤ (s + v) / B ^ N := by rw [Nat.le_div_iff_mul_le (pow_pos' N)]; omega
    omega
  · exact Nat.div_eq_of_lt (by omega)
theorem mul_lt_pow {d v n : Nat} (hd : d < B) (hv : v < B ^ n) : d * v < B ^ (n + 1) := by
  rw [Nat.pow_succ, Nat.mul_comm]
  rcases Nat.eq_zero_or_pos v with h | h
  · subst h; rw [Nat.zero_mul]; exact Nat.mul_pos (pow_pos' n) (by decide)
  · exact Nat.mul_lt_mul_of_lt_of_le hv (Nat.le_of_lt hd) (by decide)

/-! ### the estimate of a digit -/
/-- The program's loop: the estimate goes down while its second word is too great. -/
def o_red (v1 v2 u3 : Nat) : Nat → Nat → Nat
  | 0, _ => 0
  | q + 1, r => if r < B ∧ r * B + u3 < (q + 1) * v2 then o_red v1 v2 u3 q (r + v1) else q + 1
/-- The reference's loop. -/
def o_gue (v1 v2 u3 : Nat) : Nat → Nat → Nat
  | 0, _ => 0
  | q + 1, r => if B ≤ q + 1 ∨ r * B + u3 < (q + 1) * v2 then (if B ≤ r + v1 then q else o_gue v1 v2 u3 q (r + v1)) else q + 1

structure Est (u v m t v1 v2 u3 : Nat) : Prop where
  ht : t = u / B ^ (m + 1)
  h3 : t * B + u3 = u / B ^ m
  hv : v1 * B + v2 = v / B ^ m
  v1pos : 0 < v1
  v2lt : v2 < B
  u3lt : u3 < B
  lt : u < v * B
theorem Est.vpos {u v m t v1 v2 u3 : Nat} (h : Est u v m t v1 v2 u3) : 0 < v := by
  rcases Nat.eq_zero_or_pos v with e | e
  · have := h.lt; rw [e] at this; omega
  · exact e
theorem Est.v1eq {u v m t v1 v2 u3 : Nat} (h : Est u v m t v1 v2 u3) : v1 = v / B ^ (m + 1) := by
  rw [Nat.pow_succ, ← Nat.div_div_eq_div_mul, ← h.hv]
  have := h.v2lt
  rw [Nat.mul_comm, Nat.mul_add_div (by decide), Nat.div_eq_of_lt this, Nat.add_zero]
theorem Est.start {u v m t v1 v2 u3 : Nat} (h : Est u v m t v1 v2 u3) : u / v ≤ t / v1 := by
  rw [Nat.le_div_iff_mul_le h.v1pos, h.ht, Nat.le_div_iff_mul_le (pow_pos' _), h.v1eq]
  calc u / v * (v / B ^ (m + 1)) * B ^ (m + 1) = u / v * (v / B ^ (m + 1) * B ^ (m + 1)) := by rw [Nat.mul_assoc]
    _ ≤ u / v * v := Nat.mul_le_mul_left _ (Nat.div_mul_le_self _ _)
    _ ≤ u := Nat.div_mul_le_self _ _
theorem Est.quot_lt {u v m t v1 v2 u3 : Nat} (h : Est u v m t v1 v2 u3) : u / v < B := by
  rw [Nat.div_lt_iff_lt_mul h.vpos, Nat.mul_comm]; exact h.lt
theorem Est.low {u v m t v1 v2 u3 q r : Nat} (h : Est u v m t v1 v2 u3) (hq : q * v1 + r = t) (hlt : r * B + u3 < q * v2) : u / v < q := by
  rcases Nat.lt_or_ge (u / v) q with h1 | h1
  · exact h1
  · exfalso
    have h2 : q * v ≤ u := Nat.le_trans (Nat.mul_le_mul_right _ h1) (Nat.div_mul_le_self _ _)
    have h3 : q * (v / B ^ m) ≤ u / B ^ m := by
      rw [Nat.le_div_iff_mul_le (pow_pos' _), Nat.mul_assoc]
      exact Nat.le_trans (Nat.mul_le_mul_left _ (Nat.div_mul_le_self _ _)) h2
    rw [← h.hv, ← h.h3, ← hq, Nat.mul_add, Nat.add_mul, Nat.mul_assoc] at h3
    omega
theorem Est.high {u v m t v1 v2 u3 q r : Nat} (h : Est u v m t v1 v2 u3) (hq : q * v1 + r = t) (hB : q ≤ B) (hge : q * v2 ≤ r * B + u3) : q ≤ u / v + 1 := by
  have h1 : q * (v / B ^ m) ≤ u / B ^ m := by
    rw [← h.hv, ← h.h3, ← hq, Nat.mul_add, Nat.add_mul, Nat.mul_assoc]
    omega
  have hp := pow_pos' m
  have h2 : q * (v / B ^ m) * B ^ m ≤ u := Nat.le_trans (Nat.mul_le_mul_right _ h1) (Nat.div_mul_le_self _ _)
  have h3 : v < (v / B ^ m + 1) * B ^ m := by
    have := Nat.lt_mul_div_succ v hp
    rw [Nat.mul_comm]; exact this
  have h4 : B * B ^ m ≤ v := by
    have := h.v1pos
    have e := h.v1eq
    have : 1 ≤ v / B ^ (m + 1) := by omega
    rw [Nat.le_div_iff_mul_le (pow_pos' _), Nat.one_mul, Nat.pow_succ, Nat.mul_comm] at this
    exact this
  rcases Nat.eq_zero_or_pos q with e | e
  · subst e; exact Nat.zero_le _
  · obtain ⟨p, rfl⟩ : ∃ p, q = p + 1 := ⟨q - 1, by omega⟩
    have h5 : (p + 1) * v ≤ u + v := by
      have a1 : (p + 1) * v ≤ (p + 1) * ((v / B ^ m + 1) * B ^ m) := Nat.mul_le_mul_left _ (Nat.le_of_lt h3)
      have a2 : (p + 1) * ((v / B ^ m + 1) * B ^ m) = (p + 1) * (v / B ^ m) * B ^ m + (p + 1) * B ^ m := by
        rw [← Nat.mul_assoc, Nat.mul_add, Nat.mul_one, Nat.add_mul]
      have a3 : (p + 1) * B ^ m ≤ B * B ^ m := Nat.mul_le_mul_right _ hB
      omega
    rw [Nat.add_mul, Nat.one_mul] at h5
    have h6 : p ≤ u / v := by rw [Nat.le_div_iff_mul_le h.vpos]; omega
    omega
theorem red_spec {u v m t v1 v2 u3 : Nat} (h : Est u v m t v1 v2 u3) : ∀ (q r : Nat), q * v1 + r = t → u / v ≤ q → u / v ≤ o_red v1 v2 u3 q r ∧ o_red v1 v2 u3 q r ≤ q
  | 0, r, hq, hl => by simp only [o_red]; omega
  | q + 1, r, hq, hl => by
    simp only [o_red]
    split
    · rename_i hc
      have h1 := h.low hq hc.2
      obtain ⟨h2, h3⟩ := red_spec h q (r + v1) (by rw [← hq, Nat.add_mul]; omega) (by omega)
      omega
    · omega
theorem gue_spec {u v m t v1 v2 u3 : Nat} (h : Est u v m t v1 v2 u3) : ∀ (q r : Nat), q * v1 + r = t → r < B → u / v ≤ q → u / v ≤ o_gue v1 v2 u3 q r ∧ o_gue v1 v2 u3 q r ≤ u / v + 1 ∧ o_gue v1 v2 u3 q r < B
  | 0, r, hq, hr, hl => by simp only [o_gue]; exact ⟨hl, Nat.zero_le _, by decide⟩
  | q + 1, r, hq, hr, hl => by
    have hQ := h.quot_lt
    simp only [o_gue]
    split
    · rename_i hc
      have h1 : u / v < q + 1 := by
        rcases hc with hc | hc
        · omega
        · exact h.low hq hc
      have hq' : q * v1 + (r + v1) = t := by rw [← hq, Nat.add_mul]; omega
      split
      · rename_i hb
        -- q is small: t is less than (v1 + 1) * B
        have htop : t < (v1 + 1) * B := by
          rw [h.ht, Nat.div_lt_iff_lt_mul (pow_pos' _), h.v1eq]
          have := Nat.lt_mul_div_succ v (pow_pos' (m + 1))
          have h4 := h.lt
          calc u < v * B := h4
            _ ≤ B ^ (m + 1) * (v / B ^ (m + 1) + 1) * B := Nat.mul_le_mul_right _ (Nat.le_of_lt this)
            _ = (v / B ^ (m + 1) + 1) * B * B ^ (m + 1) := by rw [Nat.mul_comm (B ^ (m + 1)), Nat.mul_assoc, Nat.mul_comm (B ^ (m + 1)), ← Nat.mul_assoc]
        have hqB : q < B := by
          rcases Nat.lt_or_ge q B with h5 | h5
          · exact h5
          · exfalso
            have : B * v1 ≤ q * v1 := Nat.mul_le_mul_right _ h5
            rw [Nat.add_mul, Nat.one_mul, Nat.mul_comm v1] at htop
            omega
        refine ⟨by omega, h.high hq' (Nat.le_of_lt hqB) ?_, hqB⟩
        have a1 : q * v2 ≤ B * B := Nat.mul_le_mul (Nat.le_of_lt hqB) (Nat.le_of_lt h.v2lt)
        have a2 : B * B ≤ (r + v1) * B := Nat.mul_le_mul_right _ hb
        omega
      · rename_i hb
        exact gue_spec h q (r + v1) hq' (by omega) (by omega)
    · rename_i hc
      have hc1 : q + 1 < B := by omega
      have hc2 : (q + 1) * v2 ≤ r * B + u3 := by omega
      exact ⟨hl, h.high hq (by omega) hc2, hc1⟩

/-- The top words of a number. -/
theorem top_words {u n : Nat} (i : Nat) (h : u < B ^ n) (hn : n = i + 1) : u / B ^ i = dg u i := by
  subst hn
  unfold dg
  rw [Nat.mod_eq_of_lt]
  rw [Nat.div_lt_iff_lt_mul (pow_pos' i), Nat.mul_comm, ← Nat.pow_succ]
  exact h
theorem div_words (u i : Nat) : u / B ^ i = u / B ^ (i + 1) * B + dg u i := by
  unfold dg
  rw [Nat.pow_succ, ← Nat.div_div_eq_div_mul, Nat.mul_comm]
  exact (Nat.div_add_mod _ _).symm
theorem est_mk {u v m : Nat} (hu : u < B ^ (m + 3)) (hv : v < B ^ (m + 2)) (hp : 0 < dg v (m + 1)) (hlt : u < v * B) :
    Est u v m (dg u (m + 2) * B + dg u (m + 1)) (dg v (m + 1)) (dg v m) (dg u m) := by
  have e1 : u / B ^ (m + 1) = dg u (m + 2) * B + dg u (m + 1) := by
    rw [div_words u (m + 1), top_words (m + 2) hu rfl]
  refine ⟨e1.symm, ?_, ?_, hp, dg_lt _ _, dg_lt _ _, hlt⟩
  · rw [← e1, ← div_words]
  · rw [← top_words (m + 1) hv rfl, ← div_words]

end Go.Proofs.YtkfdnpbpebmhaaaGreatDoor.Num
namespace Go.Proofs.YtkfdnpbpebmhaaaGreatDoor.Num
open Go.Proofs.YtkfdnpbpebmhaaaGreatDoor.Spec

theorem two_pow_split {s : Nat} (h : s < 32) : 2 ^ s * 2 ^ (32 - s) = B := by
  rw [← Nat.pow_add, show s + (32 - s) = 32 by omega]
theorem or_low {a b s : Nat} (h : a < 2 ^ s) : a ||| (2 ^ s * b) = 2 ^ s * b + a := by
  rw [Nat.or_comm, ← Nat.two_pow_add_eq_or_of_lt h]
theorem shl_low (X i s : Nat) : X % B ^ i * 2 ^ s / B ^ i < 2 ^ s := by
  rw [Nat.div_lt_iff_lt_mul (pow_pos' i), Nat.mul_comm (2 ^ s)]
  exact Nat.mul_lt_mul_of_lt_of_le (Nat.mod_lt _ (pow_pos' i)) (Nat.le_refl _) (Nat.two_pow_pos s)
theorem shl_dg (X i s : Nat) (h : s < 32) : dg (X % B ^ i * 2 ^ s) i = X % B ^ i * 2 ^ s / B ^ i := by
  unfold dg
  apply Nat.mod_eq_of_lt
  refine Nat.lt_trans (shl_low X i s) ?_
  exact Nat.pow_lt_pow_right (by decide) h
theorem shl_succ (X i s : Nat) : X % B ^ (i + 1) * 2 ^ s = X % B ^ i * 2 ^ s + B ^ i * (dg X i * 2 ^ s) := by
  rw [mod_succ, Nat.add_mul, Nat.mul_assoc]
theorem shl_step (X i s : Nat) (h : s < 32) : (dg (X % B ^ i * 2 ^ s) i ||| (dg X i * 2 ^ s % B)) = dg (X % B ^ (i + 1) * 2 ^ s) i ∧ dg X i * 2 ^ s / B = dg (X % B ^ (i + 1) * 2 ^ s) (i + 1) ∧ X % B ^ (i + 1) * 2 ^ s < B ^ (i + 2) := by
  have hlow := shl_low X i s
  have hsp := two_pow_split h
  have hp : 0 < 2 ^ s := Nat.two_pow_pos s
  have e1 : X % B ^ (i + 1) * 2 ^ s / B ^ i = X % B ^ i * 2 ^ s / B ^ i + dg X i * 2 ^ s := by
    rw [shl_succ, Nat.add_mul_div_left _ _ (pow_pos' i)]
  obtain ⟨a, ha⟩ : ∃ a, a = X % B ^ i * 2 ^ s / B ^ i := ⟨_, rfl⟩
  have e2 : dg X i * 2 ^ s % B = 2 ^ s * (dg X i % 2 ^ (32 - s)) := by
    rw [← hsp, Nat.mul_comm (dg X i), Nat.mul_mod_mul_left]
  have e3 : 2 ^ s * (dg X i % 2 ^ (32 - s)) + a < B := by
    have h1 := Nat.mod_lt (dg X i) (Nat.two_pow_pos (32 - s))
    have h2 : 2 ^ s * (dg X i % 2 ^ (32 - s) + 1) ≤ 2 ^ s * 2 ^ (32 - s) := Nat.mul_le_mul_left _ h1
    rw [Nat.mul_add, Nat.mul_one, hsp] at h2
    rw [← ha] at hlow
    omega
  have hd := Nat.div_add_mod (dg X i * 2 ^ s) B
  refine ⟨?_, ?_, ?_⟩
  · rw [shl_dg X i s h, ← ha, e2, or_low (by rw [ha]; exact hlow)]
    have : dg (X % B ^ (i + 1) * 2 ^ s) i = X % B ^ (i + 1) * 2 ^ s / B ^ i % B := rfl
    rw [this, e1, ← ha]
    rw [e2] at hd
    rw [← hd, show a + (B * (dg X i * 2 ^ s / B) + 2 ^ s * (dg X i % 2 ^ (32 - s))) = 2 ^ s * (dg X i % 2 ^ (32 - s)) + a + B * (dg X i * 2 ^ s / B) by omega, Nat.add_mul_mod_self_left, Nat.mod_eq_of_lt e3]
  · have : dg (X % B ^ (i + 1) * 2 ^ s) (i + 1) = X % B ^ (i + 1) * 2 ^ s / B ^ i / B % B := by rw [Nat.div_div_eq_div_mul, ← Nat.pow_succ]; rfl
    rw [this, e1, ← ha]
    rw [e2] at hd
    have e4 : a + dg X i * 2 ^ s = 2 ^ s * (dg X i % 2 ^ (32 - s)) + a + B * (dg X i * 2 ^ s / B) := by omega
    rw [e4, Nat.add_mul_div_left _ _ (show 0 < B by decide), Nat.div_eq_of_lt e3, Nat.zero_add, Nat.mod_eq_of_lt]
    rw [Nat.div_lt_iff_lt_mul (by decide)]
    refine Nat.mul_lt_mul_of_lt_of_le (dg_lt X i) (Nat.le_of_lt (Nat.pow_lt_pow_right (by decide) h)) (by decide)
  · rw [show i + 2 = i + 1 + 1 from rfl, Nat.pow_succ B (i + 1)]
    refine Nat.mul_lt_mul_of_lt_of_le (Nat.mod_lt _ (pow_pos' _)) (Nat.le_of_lt (Nat.pow_lt_pow_right (by decide) h)) (by decide)
theorem dgs_set2 {N i V V' : Nat} (_hi : i + 1 < N) (hl : ∀ j, j < i → dg V' j = dg V j) (hh : ∀ j, i + 1 < j → dg V' j = dg V j) : ((dgs N V).set i (dg V' i : Int)).set (i + 1) (dg V' (i + 1) : Int) = dgs N V' := by
  apply List.ext_getElem
  · simp [dgs_length]
  · intro j h1 h2
    rw [List.getElem_set, List.getElem_set]
    simp only [dgs, List.getElem_map, List.getElem_range]
    by_cases e1 : i + 1 = j
    · rw [if_pos e1, e1]
    · rw [if_neg e1]
      by_cases e2 : i = j
      · rw [if_pos e2, e2]
      · rw [if_neg e2]
        rcases Nat.lt_or_ge j i with e3 | e3
        · rw [hl j e3]
        · rw [hh j (by omega)]
theorem shl_dgs {N X i s : Nat} (hs : s < 32) (hi : i + 1 < N) : ((dgs N (X % B ^ i * 2 ^ s)).set i (dg (X % B ^ (i + 1) * 2 ^ s) i : Int)).set (i + 1) (dg (X % B ^ (i + 1) * 2 ^ s) (i + 1) : Int) = dgs N (X % B ^ (i + 1) * 2 ^ s) := by
  refine dgs_set2 hi (fun j hj => by rw [shl_succ, dg_add_mul _ _ _ _ hj]) fun j hj => ?_
  have h1 := (shl_step X i s hs).2.2
  rw [dg_big h1 (by omega), dg_big (k := i + 1) ?_ (by omega)]
  rw [Nat.pow_succ]
  refine Nat.mul_lt_mul_of_lt_of_le (Nat.mod_lt _ (pow_pos' _)) (Nat.le_of_lt (Nat.pow_lt_pow_right (by decide) hs)) (by decide)
theorem shr_step (X i s : Nat) (h : s < 32) : (dg X (i + 1) * B + dg X i) / 2 ^ s % B = dg (X / 2 ^ s) i := by
  have e1 : X / 2 ^ s / B ^ i = X / B ^ i / 2 ^ s := by rw [Nat.div_div_eq_div_mul, Nat.div_div_eq_div_mul, Nat.mul_comm]
  have e2 : X / B ^ i = dg X (i + 1) * B + dg X i + 2 ^ s * (B * (2 ^ (32 - s) * (X / B ^ (i + 2)))) := by
    rw [div_words X i, div_words X (i + 1), Nat.add_mul]
    have : X / B ^ (i + 1 + 1) * B * B = 2 ^ s * (B * (2 ^ (32 - s) * (X / B ^ (i + 2)))) := by
      rw [Nat.mul_left_comm (2 ^ s), ← Nat.mul_assoc (2 ^ s), two_pow_split h, ← Nat.mul_assoc, Nat.mul_comm (B * B), Nat.mul_assoc]
    rw [this]
    omega
  rw [show dg (X / 2 ^ s) i = X / 2 ^ s / B ^ i % B from rfl, e1, e2, Nat.add_mul_div_left _ _ (Nat.two_pow_pos s), Nat.add_mul_mod_self_left]

end Go.Proofs.YtkfdnpbpebmhaaaGreatDoor.Num
namespace Go.Proofs.YtkfdnpbpebmhaaaGreatDoor.Spec
open Go Go.RowKit Sx Num

def V93 (x : TypeId × List Int × Nat × Nat) : Prop := Words x.2.1 ∧ x.2.1.length < 137438953472 ∧ x.2.2.1 < 32 ∧ x.2.2.2 ≤ x.2.1.length
theorem sub93 {st : St} {e : Ex} {s : St} {obs : List Prop} (h : F93 st = some (e, s, obs)) (hob : AllP obs) : ∃ x : TypeId × List Int × Nat × Nat, V93 x ∧ SubS st (I93 x.1 x.2.1 x.2.2.1 x.2.2.2) ∧ e = .exit 0 ∧ s = I93 x.1 x.2.1 x.2.2.1 x.2.1.length := by
  unfold F93 at h
  split at h
  · rename_i xs d len cap xs' n i ty zs hz h1 h2 h3 h4 h5 h6 h7
    simp only [Option.some.injEq, Prod.mk.injEq] at h
    obtain ⟨rfl, rfl, rfl⟩ := h
    obtain ⟨⟨hd0, hd⟩, rfl, rfl, rfl, rfl, rfl, rfl, hw, hl, _⟩ := hob
    obtain ⟨d, rfl⟩ := Int.eq_ofNat_of_zero_le hd0
    refine ⟨(ty, xs', d, 0), ⟨hw, hl, by show d < _; omega, Nat.zero_le _⟩, ⟨?_, ?_, ?_⟩, rfl, rfl⟩
    · intro p hp
      simp only [I93, List.mem_cons, List.not_mem_nil, or_false] at hp
      rcases hp with rfl | rfl | rfl | rfl | rfl | rfl <;> exact ⟨by assumption, rfl⟩
    · intro p hp
      simp only [I93, List.mem_cons, List.not_mem_nil, or_false, Nat.pow_zero, Nat.mod_one, Nat.zero_mul, dgs_zero] at hp
      subst hp
      exact ⟨by assumption, rfl⟩
    · rw [hz]; intro h; cases h
  · cases h
theorem bits64 : IntKind.bits IntKind.u64 = 64 := rfl
theorem bits32 : IntKind.bits IntKind.u32 = 32 := rfl
theorem shl_wrap {x s : Nat} (hx : x < B) (hs : s < 32) : IntKind.wrap IntKind.u64 (IntKind.wrap IntKind.u64 (x : Int) * (2 : Int) ^ min (Int.toNat (s : Int)) (IntKind.bits IntKind.u64)) = ((x * 2 ^ s : Nat) : Int) ∧ x * 2 ^ s < 18446744073709551616 := by
  have h2 : x * 2 ^ s < 4294967296 * 4294967296 := Nat.mul_lt_mul_of_lt_of_le hx (Nat.le_of_lt (Nat.pow_lt_pow_right (by decide) hs)) (by decide)
  refine ⟨?_, h2⟩
  rw [bits64, Int.toNat_natCast, show min s 64 = s by omega, w64, w64]
  unfold B at hx
  rw [show (x : Int) % 18446744073709551616 = x by omega]
  have e : (x : Int) * 2 ^ s = ((x * 2 ^ s : Nat) : Int) := by push_cast; rfl
  rw [e]; omega
theorem or_nat {n : Nat} (a b : Nat) (ha : a < 2 ^ n) (hb : b < 2 ^ n) : ((BitVec.ofInt n (a : Int) ||| BitVec.ofInt n (b : Int)).toNat : Int) = ((a ||| b : Nat) : Int) := by
  rw [BitVec.toNat_or, BitVec.ofInt_natCast, BitVec.ofInt_natCast, BitVec.toNat_ofNat, BitVec.toNat_ofNat, Nat.mod_eq_of_lt ha, Nat.mod_eq_of_lt hb]
theorem lo93 : ∀ c ∈ loopsF Tryz.f93, LoopOk Tryz.prog Tryz.f93.ntmps L93 c := by
  rw [show loopsF Tryz.f93 = [loopC Tryz.f93 0] by kernel_rfl]
  intro c hc
  rw [List.mem_singleton] at hc
  subst hc
  refine loop_ok (k := 3) (f := F93) (α := TypeId × List Int × Nat × Nat) (by kernel_rfl) rfl (fun x => I93 x.1 x.2.1 x.2.2.1 x.2.2.2) (fun x => I93 x.1 x.2.1 x.2.2.1 x.2.1.length) V93 (fun x => x.2.1.length - x.2.2.2) (.exit 0) (by simp) (fun st e s obs h hob => sub93 h hob) ?_
  rintro ⟨ty, xs, d, i⟩ ⟨hw, hl, hd, hi⟩
  simp only at hw hl hd hi ⊢
  have hno : ∀ d ∈ loopsOf (loopC Tryz.f93 0), LoopOk Tryz.prog Tryz.f93.ntmps L0 d := by rw [show loopsOf (loopC Tryz.f93 0) = [] by kernel_rfl]; intro d hd; cases hd
  by_cases hlt : i < xs.length
  · have w3 : IntKind.wrap IntKind.i64 ((i : Int) + 1) = ((i + 1 : Nat) : Int) := by rw [wi64 _ (by omega) (by omega)]; omega
    have hg : (dgs (xs.length + 1) (nv xs % B ^ i * 2 ^ d)).getD i 0 = ((dg (nv xs % B ^ i * 2 ^ d) i : Nat) : Int) := dgs_getD _ _ _ (by omega)
    obtain ⟨hT, hTb⟩ := shl_wrap (dg_lt (nv xs) i) hd
    obtain ⟨m1, m2, _⟩ := shl_step (nv xs) i d hd
    have hlow : IntKind.wrap IntKind.u32 ((dg (nv xs) i * 2 ^ d : Nat) : Int) = ((dg (nv xs) i * 2 ^ d % B : Nat) : Int) := by rw [w32]; unfold B; omega
    have hor := or_nat (n := 32) (dg (nv xs % B ^ i * 2 ^ d) i) (dg (nv xs) i * 2 ^ d % B) (dg_lt _ _) (Nat.mod_lt _ (by decide))
    have hor2 : IntKind.wrap IntKind.u32 ((dg (nv xs % B ^ (i + 1) * 2 ^ d) i : Nat) : Int) = ((dg (nv xs % B ^ (i + 1) * 2 ^ d) i : Nat) : Int) := by
      have := dg_lt (nv xs % B ^ (i + 1) * 2 ^ d) i
      rw [w32]; unfold B at this; omega
    have hhi : IntKind.wrap IntKind.u32 (Int.fdiv ((dg (nv xs) i * 2 ^ d : Nat) : Int) ((2 : Int) ^ min (Int.toNat 32) (IntKind.bits IntKind.u64))) = ((dg (nv xs % B ^ (i + 1) * 2 ^ d) (i + 1) : Nat) : Int) := by
      rw [show ((2 : Int) ^ min (Int.toNat 32) (IntKind.bits IntKind.u64)) = 4294967296 from by decide, Int.fdiv_eq_ediv_of_nonneg _ (by decide), ← m2, w32]
      unfold B; omega
    refine (codeV_sound hmix E6ok.hS hno (loop93a ty xs d i) ?_).mono ?_
    · simp only [AllP, w3, Int.toNat_natCast, Nat.zero_add, dgs_length, List.length_set]
      simp; omega
    · rintro e s ⟨rfl, hs⟩
      refine .inl ⟨rfl, (ty, xs, d, i + 1), ⟨hw, hl, hd, by show i + 1 ≤ xs.length; omega⟩, by simp only; omega, ?_, rfl⟩
      have hd' : (Int.toNat (i : Int)) = i := Int.toNat_natCast i
      rw [w3] at hs
      rw [hd', show Int.toNat ((i + 1 : Nat) : Int) = i + 1 from Int.toNat_natCast _] at hs
      simp only [Nat.zero_add, nv_getD hw, hT, hlow, hg, hhi] at hs
      rw [show IntKind.bits IntKind.u32 = 32 from rfl, hor, m1, hor2, shl_dgs hd (by omega)] at hs
      exact hs
  · have : i = xs.length := by omega
    subst this
    refine (codeV_sound hmix E6ok.hS hno (loop93b ty xs d _) ?_).mono ?_
    · simp [AllP]
    · rintro e s ⟨rfl, hs⟩
      exact .inr ⟨rfl, hs⟩
/-- Shifted to the left, with one word more. -/
def spShl : Sp
  | [.one (.row .u32 xs), .one (.v (.int .i64 s))] => some (.s (roW (dgs (xs.length + 1) (nv xs * 2 ^ s.toNat))), [0 ≤ s ∧ s < 32, Words xs, xs.length < 137438953472])
  | _ => none
theorem con93 : Con Tryz.prog 93 spShl := by
  refine con_run (L := L93) (fn := Tryz.f93) hmix E6ok.hS lo93 (by kernel_rfl) (fun _ => by kernel_rfl) ?_
  intro avs r ps hsp hps
  unfold spShl at hsp
  split at hsp
  · rename_i xs s
    simp only [Option.some.injEq, Prod.mk.injEq] at hsp
    obtain ⟨rfl, rfl⟩ := hsp
    obtain ⟨hs, hw, hl, _⟩ := hps
    have w1 : IntKind.wrap IntKind.i64 ((xs.length : Int) + 1) = ((xs.length + 1 : Nat) : Int) := by rw [wi64 _ (by omega) (by omega)]; omega
    have ht : ∀ v, List.take (xs.length + 1) (dgs (xs.length + 1) v) = dgs (xs.length + 1) v := fun v => List.take_of_length_le (by rw [dgs_length]; exact Nat.le_refl _)
    refine ⟨rfl, _, _, _, _, run93 xs s, ?_, ?_⟩
    · simp only [List.drop_zero, ht, Nat.mod_eq_of_lt (nv_lt hw)]
      rfl
    · simp only [AllP, w1, dgs_length, Int.toNat_natCast]
      simp [hw, hs, hl]
      omega
  · cases hsp

theorem sub95 {st : St} {e : Ex} {s : St} {obs : List Prop} (h : F95 st = some (e, s, obs)) (hob : AllP obs) : ∃ x : TypeId × List Int × Nat × Nat, V93 x ∧ SubS st (I95 x.1 x.2.1 x.2.2.1 x.2.2.2) ∧ e = .exit 0 ∧ s = I95 x.1 x.2.1 x.2.2.1 x.2.1.length := by
  unfold F95 at h
  split at h
  · rename_i xs d len cap n i ty zs hz h1 h2 h3 h4 h5 h7
    simp only [Option.some.injEq, Prod.mk.injEq] at h
    obtain ⟨rfl, rfl, rfl⟩ := h
    obtain ⟨⟨hd0, hd⟩, rfl, rfl, rfl, rfl, rfl, hw, hl, _⟩ := hob
    obtain ⟨d, rfl⟩ := Int.eq_ofNat_of_zero_le hd0
    refine ⟨(ty, xs, d, 0), ⟨hw, hl, by show d < _; omega, Nat.zero_le _⟩, ⟨?_, ?_, ?_⟩, rfl, rfl⟩
    · intro p hp
      simp only [I95, List.mem_cons, List.not_mem_nil, or_false] at hp
      rcases hp with rfl | rfl | rfl | rfl | rfl <;> exact ⟨by assumption, rfl⟩
    · intro p hp
      simp only [I95, List.mem_cons, List.not_mem_nil, or_false, Z_zero] at hp
      subst hp
      exact ⟨by assumption, rfl⟩
    · rw [hz]; intro h; cases h
  · cases h
theorem or64 (a b : Nat) (ha : a < 4294967296) (hb : b < 4294967296) : IntKind.wrap IntKind.u64 ((BitVec.ofInt (IntKind.bits IntKind.u64) (IntKind.wrap IntKind.u64 (IntKind.wrap IntKind.u64 (a : Int) * (2 : Int) ^ min (Int.toNat 32) (IntKind.bits IntKind.u64))) ||| BitVec.ofInt (IntKind.bits IntKind.u64) (IntKind.wrap IntKind.u64 (b : Int))).toNat : Int) = ((a * 4294967296 + b : Nat) : Int) := by
  have hor := bv_or_add (a * 4294967296) b (by omega) (by omega) hb
  have h1 : IntKind.wrap IntKind.u64 (IntKind.wrap IntKind.u64 (a : Int) * (2 : Int) ^ min (Int.toNat 32) (IntKind.bits IntKind.u64)) = ((a * 4294967296 : Nat) : Int) := by
    rw [show ((2 : Int) ^ min (Int.toNat 32) (IntKind.bits IntKind.u64)) = 4294967296 from by decide, w64, w64]
    omega
  have h2 : IntKind.wrap IntKind.u64 (b : Int) = b := by rw [w64]; omega
  rw [h1, h2, show IntKind.bits IntKind.u64 = 64 from rfl, hor, w64]
  omega
theorem fdiv_shr (x s : Nat) (hs : s < 32) : Int.fdiv (x : Int) ((2 : Int) ^ min (Int.toNat (s : Int)) (IntKind.bits IntKind.u64)) = ((x / 2 ^ s : Nat) : Int) := by
  rw [show IntKind.bits IntKind.u64 = 64 from rfl, Int.toNat_natCast, show min s 64 = s by omega, Int.fdiv_eq_ediv_of_nonneg _ (Int.pow_nonneg (by decide))]
  push_cast
  rfl
theorem shr_wrap {a b s : Nat} (ha : a < B) (hb : b < B) (hs : s < 32) : IntKind.wrap IntKind.u32 (Int.fdiv (IntKind.wrap IntKind.u64 ((BitVec.ofInt (IntKind.bits IntKind.u64) (IntKind.wrap IntKind.u64 (IntKind.wrap IntKind.u64 (a : Int) * (2 : Int) ^ min (Int.toNat 32) (IntKind.bits IntKind.u64))) ||| BitVec.ofInt (IntKind.bits IntKind.u64) (IntKind.wrap IntKind.u64 (b : Int))).toNat : Int)) ((2 : Int) ^ min (Int.toNat (s : Int)) (IntKind.bits IntKind.u64))) = (((a * B + b) / 2 ^ s % B : Nat) : Int) := by
  rw [or64 a b ha hb, fdiv_shr _ _ hs, w32]
  exact (Int.natCast_emod _ _).symm
theorem lo95 : ∀ c ∈ loopsF Tryz.f95, LoopOk Tryz.prog Tryz.f95.ntmps L95 c := by
  rw [show loopsF Tryz.f95 = [loopC Tryz.f95 0] by kernel_rfl]
  intro c hc
  rw [List.mem_singleton] at hc
  subst hc
  refine loop_ok (k := 3) (f := F95) (α := TypeId × List Int × Nat × Nat) (by kernel_rfl) rfl (fun x => I95 x.1 x.2.1 x.2.2.1 x.2.2.2) (fun x => I95 x.1 x.2.1 x.2.2.1 x.2.1.length) V93 (fun x => x.2.1.length - x.2.2.2) (.exit 0) (by simp) (fun st e s obs h hob => sub95 h hob) ?_
  rintro ⟨ty, xs, d, i⟩ ⟨hw, hl, hd, hi⟩
  simp only at hw hl hd hi ⊢
  have hno : ∀ d ∈ loopsOf (loopC Tryz.f95 0), LoopOk Tryz.prog Tryz.f95.ntmps L0 d := by rw [show loopsOf (loopC Tryz.f95 0) = [] by kernel_rfl]; intro d hd; cases hd
  by_cases hlt : i < xs.length
  · have w3 : IntKind.wrap IntKind.i64 ((i : Int) + 1) = ((i + 1 : Nat) : Int) := by rw [wi64 _ (by omega) (by omega)]; omega
    have hZ : (o_Z xs.length (nv xs / 2 ^ d) i).length = xs.length := Z_length (by omega)
    have hT := shr_wrap (dg_lt (nv xs) (i + 1)) (dg_lt (nv xs) i) hd
    rw [shr_step _ _ _ hd] at hT
    refine (codeV_sound hmix E6ok.hS hno (loop95a ty xs d i) ?_).mono ?_
    · simp only [AllP, w3, Int.toNat_natCast, Nat.zero_add, hZ]
      simp; omega
    · rintro e s ⟨rfl, hs⟩
      refine .inl ⟨rfl, (ty, xs, d, i + 1), ⟨hw, hl, hd, by show i + 1 ≤ xs.length; omega⟩, by simp only; omega, ?_, rfl⟩
      have hd' : (Int.toNat (i : Int)) = i := Int.toNat_natCast i
      rw [w3] at hs
      rw [hd', show Int.toNat ((i + 1 : Nat) : Int) = i + 1 from Int.toNat_natCast _] at hs
      simp only [Nat.zero_add, nv_getD hw, hT, Z_set hlt] at hs
      exact hs
  · have : i = xs.length := by omega
    subst this
    refine (codeV_sound hmix E6ok.hS hno (loop95b ty xs d _) ?_).mono ?_
    · simp [AllP]
    · rintro e s ⟨rfl, hs⟩
      exact .inr ⟨rfl, hs⟩
def spShr : Sp
  | [.one (.row .u32 xs), .one (.v (.int .i64 s))] => some (.s (roW (enc (nv xs / 2 ^ s.toNat))), [0 ≤ s ∧ s < 32, Words xs, xs.length < 137438953472])
  | _ => none
theorem con95 : Con Tryz.prog 95 spShr := by
  refine con_run (L := L95) (fn := Tryz.f95) hmix E6ok.hS lo95 (by kernel_rfl) (fun _ => by kernel_rfl) ?_
  intro avs r ps hsp hps
  unfold spShr at hsp
  split at hsp
  · rename_i xs s
    simp only [Option.some.injEq, Prod.mk.injEq] at hsp
    obtain ⟨rfl, rfl⟩ := hsp
    obtain ⟨hs, hw, hl, _⟩ := hps
    have ht : ∀ v, List.take xs.length (dgs xs.length v) = dgs xs.length v := fun v => List.take_of_length_le (by rw [dgs_length]; exact Nat.le_refl _)
    have hlt : nv xs / 2 ^ s.toNat < B ^ xs.length := Nat.lt_of_le_of_lt (Nat.div_le_self _ _) (nv_lt hw)
    refine ⟨rfl, _, _, _, _, run95 xs s, ?_, ?_⟩
    · simp only [List.drop_zero, Z_full, ht, nv_dgs, Nat.mod_eq_of_lt hlt]
      rfl
    · simp only [AllP, List.drop_zero, Z_full, ht, dgs_length, Int.toNat_natCast]
      simp [hw, hs, hl, words_dgs]
      omega
  · cases hsp

def E7 : List (Nat × Ctr) := (93, .fn spShl) :: (95, .fn spShr) :: E6
theorem E7ok : EnvOk Tryz.prog E7 := .cons con93 (.cons con95 E6ok)

end Go.Proofs.YtkfdnpbpebmhaaaGreatDoor.Spec
namespace Go.Proofs.YtkfdnpbpebmhaaaGreatDoor.Spec
open Go Go.RowKit Sx Num

def fnMEx (P : Program) (S : FuncId → Option Ctr) (L : Loops) (G : Nat → Bool) (fuel : Nat) (fn : Func) (ty : TypeId) (k : EK) (xs : List Int) (off len cap : Nat) (avs : List SV) : Option (AV × List Int × List Prop) :=
  match fn.body with
  | some c => match codeEx P S L G fn.ntmps fuel c (initM ty k xs off len cap avs) with
    | some (.exit _, _, _) => none
    | some (_, st, obs) => match finEx P fn st, lk st.boxes 0 with
      | some (r, qs), some ⟨ty', .ints k' xs', true⟩ => bif eEq k' k then some (r, xs', (ty' = ty) :: (obs ++ qs)) else none
      | _, _ => none
    | none => none
  | none => none

theorem conM_runL {P : Program} {S : FuncId → Option Ctr} {f : FuncId} {fn : Func} {sm : SpM} (hm : P.follows .mixedOrders = true) (hS : ∀ f c, S f = some c → Cn P f c) (hf : P.funcs[f]? = some fn) (hent : ∀ args : Array Value, pureRun P (callFunc f args) = some (.enter f args))
    (h : ∀ k xs off len cap avs r xs' ps, sm k xs off len cap avs = some (r, xs', ps) → AllP ps → (Nat.ble (avs.length + 1) fn.ntmps && (avs.all (fun x => x.okB noB) && plainA r)) = true ∧ xs'.length = xs.length ∧
      ∀ ty, ∃ L, (∀ d ∈ loopsF fn, LoopOk P fn.ntmps L d) ∧ ∃ G fuel r' xs'' obs, fnMEx P S L G fuel fn ty k xs off len cap avs = some (r', xs'', obs) ∧ r' = r ∧ xs'' = xs' ∧ AllP obs) : ConM P f sm := by
  cases hc : fn.body with
  | none =>
    refine ⟨hent, fun k xs off len cap avs r xs' ps hsp hps => ?_, fun k xs off len cap avs r xs' ps hsp hps => (h _ _ _ _ _ _ _ _ _ hsp (allP_iff.2 hps)).2.1⟩
    obtain ⟨_, _, h3⟩ := h _ _ _ _ _ _ _ _ _ hsp (allP_iff.2 hps)
    obtain ⟨L, _, G, fuel, r', xs'', obs, he, _⟩ := h3 0
    simp [fnMEx, hc] at he
  | some c =>
    refine conM_of_WX hf hc hent (fun k xs off len cap avs r xs' ps hsp hps ty => ?_) fun k xs off len cap avs r xs' ps hsp hps => (h _ _ _ _ _ _ _ _ _ hsp (allP_iff.2 hps)).2.1
    obtain ⟨h1, _, h3⟩ := h _ _ _ _ _ _ _ _ _ hsp (allP_iff.2 hps)
    obtain ⟨L, hL, G, fuel, r', xs'', obs, he, rfl, rfl, hob⟩ := h3 ty
    simp only [Bool.and_eq_true] at h1
    refine ⟨Nat.le_of_ble_eq_true h1.1, h1.2.1, h1.2.2, ?_⟩
    have hok : ∀ d ∈ loopsOf c, LoopOk P fn.ntmps L d := fun d hd => hL d (by unfold loopsF; rw [hc]; exact hd)
    unfold fnMEx at he
    rw [hc] at he
    simp only at he
    split at he
    · cases he
    · rename_i e st obs' hne hce
      split at he
      · rename_i rq qs ty' k' xq hfin hbx
        rw [Bool.cond_eq_ite] at he
        split at he
        · rename_i hk
          simp only [Option.some.injEq, Prod.mk.injEq] at he
          obtain ⟨rfl, rfl, rfl⟩ := he
          obtain ⟨rfl, hob'⟩ := hob
          have hob' := allP_iff.1 hob'
          have hk := eEq_iff.1 hk
          subst hk
          refine (codeEx_sound hm hS hok hce fun p hp => hob' p (List.mem_append.2 (.inl hp))).mono ?_
          rintro e' s ⟨rfl, rfl⟩
          refine ⟨?_, ⟨qs, hfin, fun p hp => hob' p (List.mem_append.2 (.inr hp))⟩, hbx⟩
          cases e' with
          | normal => exact .inr rfl
          | ret => exact .inl rfl
          | exit id => exact (hne id rfl).elim
        · cases he
      · cases he
    · cases he

/-- The run of a function that answers with a new slice. -/
def fnFEx (P : Program) (S : FuncId → Option Ctr) (L : Loops) (G : Nat → Bool) (fuel : Nat) (fn : Func) (avs : List SV) : Option (TypeId × EK × List Int × List Prop) :=
  match fn.body with
  | some c => match codeEx P S L G fn.ntmps fuel c (initSt avs) with
    | some (.exit _, _, _) => none
    | some (_, st, obs) => match fn.results.toList with
      | [.tmp t] => match lk st.tmps t with
        | some (.s (.one (.sl id off len cap))) => match lk st.boxes id with
          | some ⟨ty, .ints k xs, _⟩ => some (ty, k, xs, obs ++ [off = 0 ∧ len = xs.length ∧ cap = xs.length])
          | _ => none
        | _ => none
      | _ => none
    | none => none
  | none => none
theorem conF_runL {P : Program} {S : FuncId → Option Ctr} {f : FuncId} {fn : Func} {sf : SpF} (hm : P.follows .mixedOrders = true) (hS : ∀ f c, S f = some c → Cn P f c) (hf : P.funcs[f]? = some fn) (hent : ∀ args : Array Value, pureRun P (callFunc f args) = some (.enter f args))
    (h : ∀ avs ty k xs ps, sf avs = some (ty, k, xs, ps) → AllP ps → (Nat.ble avs.length fn.ntmps && avs.all fun x => x.okB noB) = true ∧ ∃ L, (∀ d ∈ loopsF fn, LoopOk P fn.ntmps L d) ∧ ∃ G fuel ty' k' xs' obs, fnFEx P S L G fuel fn avs = some (ty', k', xs', obs) ∧ ty' = ty ∧ k' = k ∧ xs' = xs ∧ AllP obs) : ConF P f sf := by
  refine ⟨hent, fun avs ty k xs ps hsp hps M β w vs hM hg => ?_⟩
  obtain ⟨h1, L, hL, G, fuel, ty', k', xs', obs, he, rfl, rfl, rfl, hob⟩ := h avs ty k xs ps hsp (allP_iff.2 hps)
  simp only [Bool.and_eq_true] at h1
  have hnt := Nat.le_of_ble_eq_true h1.1
  have hok := h1.2
  unfold fnFEx at he
  split at he
  · rename_i c hc
    split at he
    · cases he
    · rename_i e st obs' hne hce
      split at he
      · rename_i t hres
        split at he
        · rename_i id off len cap hlk
          split at he
          · rename_i ty k xs mu hbx
            simp only [Option.some.injEq, Prod.mk.injEq] at he
            obtain ⟨rfl, rfl, rfl, rfl⟩ := he
            have hob' := allP_iff.1 hob
            obtain ⟨rfl, rfl, rfl⟩ := hob' _ (List.mem_append.2 (.inr (List.mem_singleton.2 rfl)))
            refine calls_of_wp hf hc ?_
            have hlen : vs.size = avs.length := by simpa using hg.length
            have hM0 : ∀ b, Mof M β [] b ↔ M b := fun b => ⟨fun h => h.elim (fun h => h) (fun ⟨i, x, hi, _⟩ => by simp [lk] at hi), .inl⟩
            have hmv : Moves M (Mof M β []) w w := ⟨Nat.le_refl _, fun b _ hb => ⟨rfl, fun h => hb ((hM0 b).1 h)⟩, fun _ cur _ h => ⟨cur, h, rfl⟩⟩
            have hΓ : Gm M w.heap.size (fun _ => False) fn.ntmps β (initSt avs) { tmps := vs ++ Array.replicate (fn.ntmps - vs.size) undef, defers := [] } w := by
              refine ⟨rfl, by simp; omega, fun t x hx => ?_, fun i b hi => by simp [initSt, lk] at hi, fun i j hi => by simp [initSt, liv, lk] at hi, fun i hi => by simp [initSt, liv, lk] at hi, hM, fun _ _ h => h, fun _ h => h.elim, Nat.le_refl _⟩
              obtain ⟨y, rfl, _, hy⟩ := lk_from avs 0 t x hx
              rw [Nat.sub_zero] at hy
              have hty : t < avs.length := (List.getElem?_eq_some_iff.1 hy).1
              obtain ⟨u, hu, hgu⟩ := hg.get t y hy
              have hoky : y.okB noB = true := List.all_eq_true.1 hok y (List.mem_of_getElem? hy)
              refine ⟨by omega, okB_mono_S (fun i hi => by cases hi) hoky, ?_⟩
              have hget : (vs ++ Array.replicate (fn.ntmps - vs.size) undef).getD t undef = u := by
                have : vs[t]? = some u := by simpa using hu
                simp only [Array.getD_eq_getD_getElem?, Array.getElem?_append_left (show t < vs.size by omega), this, Option.getD_some]
              show gA (Mof M β []) β w (.s y) _
              rw [hget]
              exact gS.moves hgu hmv hoky (fun _ _ => rfl)
            refine codeEx_sound hm hS (fun d hd => hL d (by unfold loopsF; rw [hc]; exact hd)) hce (fun p hp => hob' p (List.mem_append.2 (.inl hp))) M w.heap.size _ β _ w _ hΓ ?_
            rintro e' s β' a' w' ⟨rfl, rfl⟩ hb hΓ'
            have hres' : fn.results = #[.tmp t] := by
              obtain ⟨l, hl⟩ : ∃ l, fn.results = l.toArray := ⟨fn.results.toList, by simp⟩
              rw [hl] at hres ⊢; simpa using hres
            have hu : a'.tmps.getD t undef = .slice (some ⟨β' id, 0, none⟩) xs.length xs.length := (hΓ'.tmps t _ hlk).2.2
            obtain ⟨_, arr, harr, hl⟩ := hΓ'.boxes id _ hbx
            have hrun : (results fn a'.tmps).run P w' = .ok (.slice (some ⟨β' id, 0, none⟩) xs.length xs.length) w' := by
              unfold results
              simp [hres']
              rw [← Array.getD_eq_getD_getElem?]
              exact hu
            have hge : w.heap.size ≤ β' id := by
              rcases hΓ'.ge id (liv_iff.2 ⟨_, hbx⟩) with h | h
              · exact h
              · exact h.elim
            have hfin : ∃ (g : Nat) (arr : Array Value), (Ending.returned (.slice (some ⟨β' id, 0, none⟩) xs.length xs.length)) = .returned (.slice (some ⟨g, 0, none⟩) xs.length xs.length) ∧ w.heap.size ≤ g ∧ w'.heap[g]? = some (.cells arr ty (0, 0)) ∧ arr.toList = xs.map (mkV k) ∧ Below w.heap.size w w' := ⟨_, arr, rfl, hge, harr, hl, hb.below fun _ h => h⟩
            cases e' with
            | normal => exact ⟨hΓ'.def_, _, hrun, hfin⟩
            | ret => exact ⟨hΓ'.def_, _, hrun, hfin⟩
            | exit id => exact (hne id rfl).elim
          · cases he
        · cases he
      · cases he
    · cases he
  · cases he

/-- nil as a row of no word. -/
def fixL : LV → LV
  | .v (.slice none 0 0) => .row .u32 []
  | l => l
def fixS : SV → SV
  | .one l => .one (fixL l)
  | .agg ls => .agg (ls.map fixL)
  | .abs zs => .abs zs
def fixA : AV → AV
  | .s x => .s (fixS x)
  | .tup xs => .tup (xs.map fixS)
theorem fixL_g {M : Nat → Prop} {β : Nat → Nat} {w : World} {l : LV} {u : Value} (h : gL M β w l u) : gL M β w (fixL l) u := by
  unfold fixL
  split
  · have h : u = .slice none 0 0 := h
    subst h
    exact ⟨none, 0, rfl, Nat.le_refl _, by simp, fun _ _ h => by simp at h⟩
  · exact h
theorem fixLs_g {M : Nat → Prop} {β : Nat → Nat} {w : World} : ∀ {ls : List LV} {us : List Value}, gLs M β w ls us → gLs M β w (ls.map fixL) us
  | [], [], _ => trivial
  | _l :: _ls, _u :: _us, h => ⟨fixL_g h.1, fixLs_g h.2⟩
  | [], _ :: _, h => h.elim
  | _ :: _, [], h => h.elim
theorem fixS_g {M : Nat → Prop} {β : Nat → Nat} {w : World} {x : SV} {u : Value} (h : gS M β w x u) : gS M β w (fixS x) u := by
  cases x with
  | one l => exact fixL_g h
  | agg ls => obtain ⟨arr, e, h⟩ := h; exact ⟨arr, e, fixLs_g h⟩
  | abs zs => exact h
theorem fixSs_g {M : Nat → Prop} {β : Nat → Nat} {w : World} : ∀ {xs : List SV} {us : List Value}, gSs M β w xs us → gSs M β w (xs.map fixS) us
  | [], [], _ => trivial
  | _l :: _ls, _u :: _us, h => ⟨fixS_g h.1, fixSs_g h.2⟩
  | [], _ :: _, h => h.elim
  | _ :: _, [], h => h.elim
theorem fixA_g {M : Nat → Prop} {β : Nat → Nat} {w : World} {x : AV} {u : Value} (h : gA M β w x u) : gA M β w (fixA x) u := by
  cases x with
  | s x => exact fixS_g h
  | tup xs => obtain ⟨arr, e, h⟩ := h; exact ⟨arr, e, fixSs_g h⟩
theorem fixL_ok {n : Nat → Bool} {l : LV} (h : l.okB n = true) : (fixL l).okB n = true := by
  unfold fixL; split
  · rfl
  · exact h
theorem fixS_ok {n : Nat → Bool} {x : SV} (h : x.okB n = true) : (fixS x).okB n = true := by
  cases x with
  | one l => exact fixL_ok h
  | agg ls =>
    simp only [fixS, SV.okB, okLs, List.all_map] at h ⊢
    rw [List.all_eq_true] at h ⊢
    exact fun l hl => fixL_ok (h l hl)
  | abs zs => rfl
theorem fixA_ok {n : Nat → Bool} {x : AV} (h : x.okB n = true) : (fixA x).okB n = true := by
  cases x with
  | s x => exact fixS_ok h
  | tup xs =>
    simp only [fixA, AV.okB, List.all_map] at h ⊢
    rw [List.all_eq_true] at h ⊢
    exact fun l hl => fixS_ok (h l hl)
/-- Arguments that are nil go as rows of no word. -/
def nilOk (sp : Sp) : Sp := fun avs => sp (avs.map fixS)
theorem con_nil {P : Program} {f : FuncId} {sp : Sp} (h : Con P f sp) : Con P f (nilOk sp) :=
  ⟨h.enters, fun avs r ps hs hp M β w vs hM hg => h.calls (avs.map fixS) r ps hs hp M β w vs hM (fixSs_g hg)⟩
/-- Answers that are nil, too. -/
def nilAns (sp : Sp) : Sp := fun avs => (sp avs).map fun (r, ps) => (fixA r, ps)
theorem con_ans {P : Program} {f : FuncId} {sp : Sp} (h : Con P f sp) : Con P f (nilAns sp) :=
  ⟨h.enters, fun avs r ps hs hp M β w vs hM hg => by
    unfold nilAns at hs
    obtain ⟨⟨r0, qs⟩, h1, h2⟩ := Option.map_eq_some_iff.1 hs
    simp only [Prod.mk.injEq] at h2
    obtain ⟨rfl, rfl⟩ := h2
    exact (h.calls avs r0 qs h1 hp M β w vs hM hg).mono fun e w' ⟨u, he, hok, hgu, hb⟩ => ⟨u, he, fixA_ok hok, fixA_g hgu, hb⟩⟩
/-- One of two contracts, by the arguments. -/
theorem con_cases {P : Program} {f : FuncId} {sp1 sp2 sp : Sp} (h1 : Con P f sp1) (h2 : Con P f sp2) (h : ∀ avs r ps, sp avs = some (r, ps) → AllP ps → (∃ qs, sp1 avs = some (r, qs) ∧ AllP qs) ∨ (∃ qs, sp2 avs = some (r, qs) ∧ AllP qs)) : Con P f sp :=
  ⟨h1.enters, fun avs r ps hs hp M β w vs hM hg => by
    rcases h avs r ps hs (allP_iff.2 hp) with ⟨qs, e1, e2⟩ | ⟨qs, e1, e2⟩
    · exact h1.calls avs r qs e1 (allP_iff.1 e2) M β w vs hM hg
    · exact h2.calls avs r qs e1 (allP_iff.1 e2) M β w vs hM hg⟩

end Go.Proofs.YtkfdnpbpebmhaaaGreatDoor.Spec
namespace Go.Proofs.YtkfdnpbpebmhaaaGreatDoor.Num
open Go.Proofs.YtkfdnpbpebmhaaaGreatDoor.Spec
/-- The number in a window. -/
def o_u (zs : List Int) (off n : Nat) : Nat := nv (o_part zs off n)
/-- The estimate's three words. -/
def o_red2 (U V n q r : Nat) : Nat := o_red (dg V (n - 1)) (dg V (n - 2)) (dg U (n - 2)) q r
def o_gue2 (U V n q r : Nat) : Nat := o_gue (dg V (n - 1)) (dg V (n - 2)) (dg U (n - 2)) q r
end Go.Proofs.YtkfdnpbpebmhaaaGreatDoor.Num
namespace Go.Proofs.YtkfdnpbpebmhaaaGreatDoor.Spec
open Go Go.RowKit Sx Num

def I94a (ty : TypeId) (zs : List Int) (off cap : Nat) (ys : List Int) (q r : Nat) : St :=
  ⟨[(0, .s (slW 0 off (ys.length + 1) cap)), (1, .s (roW ys)), (5, .s (num ys.length)), (6, .s (u64 q)), (9, .s (u64 r))], [(0, box32 ty zs)]⟩
def J94a (ty : TypeId) (zs : List Int) (off cap : Nat) (ys : List Int) (q r : Nat) : St :=
  ⟨[(0, .s (slW 0 off (ys.length + 1) cap)), (1, .s (roW ys)), (5, .s (num ys.length)), (6, .s (u64 ((o_red2 (o_u zs off (ys.length + 1)) (nv ys) ys.length q r : Nat))))], [(0, box32 ty zs)]⟩
def F94a (st : St) : Option (Ex × St × List Prop) :=
  match lk st.tmps 0, lk st.tmps 1, lk st.tmps 5, lk st.tmps 6, lk st.tmps 9, lk st.boxes 0 with
  | some (.s (.one (.sl 0 off len cap))), some (.s (.one (.row .u32 ys))), some (.s (.one (.v (.int .i64 n)))), some (.s (.one (.v (.int .u64 q)))), some (.s (.one (.v (.int .u64 r)))), some ⟨ty, .ints .u32 zs, true⟩ =>
    some (.exit 0, J94a ty zs off cap ys q.toNat r.toNat, [len = ys.length + 1, n = ys.length, 0 ≤ q ∧ q < 4294967296, 0 ≤ r ∧ r < 4294967296, off + (ys.length + 1) ≤ zs.length, Words zs, Words ys, 2 ≤ ys.length, ys.length < 137438953472])
  | _, _, _, _, _, _ => none
def I94b (ty : TypeId) (zs : List Int) (off cap : Nat) (ys : List Int) (q i : Nat) : St :=
  ⟨[(0, .s (slW 0 off (ys.length + 1) cap)), (1, .s (roW ys)), (6, .s (u64 q)), (10, .s (u64 ((o_cm q (nv ys) i : Nat)))), (11, .s (u32 ((o_bw (o_u zs off (ys.length + 1)) (q * nv ys) i : Nat)))), (82, .s (num ((ys.length + 1 : Nat) : Int))), (83, .s (num i))],
   [(0, box32 ty (o_win zs off (o_mix (ys.length + 1) (o_u zs off (ys.length + 1) + B ^ (ys.length + 1) - q * nv ys) (o_u zs off (ys.length + 1)) i)))]⟩
def F94b (st : St) : Option (Ex × St × List Prop) :=
  match lk st.tmps 0, lk st.tmps 1, lk st.tmps 6, lk st.tmps 10, lk st.tmps 11, lk st.tmps 82, lk st.tmps 83, lk st.boxes 0 with
  | some (.s (.one (.sl 0 off len cap))), some (.s (.one (.row .u32 ys))), some (.s (.one (.v (.int .u64 q)))), some (.s (.one (.v (.int .u64 c)))), some (.s (.one (.v (.int .u32 b)))), some (.s (.one (.v (.int .i64 n)))), some (.s (.one (.v (.int .i64 i)))), some ⟨ty, .ints .u32 zs, true⟩ =>
    some (.exit 2, I94b ty zs off cap ys q.toNat (ys.length + 1), [len = ys.length + 1, 0 ≤ q ∧ q < 4294967296, c = 0, b = 0, n = ys.length + 1, i = 0, off + (ys.length + 1) ≤ zs.length, Words zs, Words ys, ys.length < 137438953472])
  | _, _, _, _, _, _, _, _ => none
def I94d (ty : TypeId) (zs : List Int) (off cap : Nat) (ys : List Int) (q c : Int) (i : Nat) : St :=
  ⟨[(0, .s (slW 0 off (ys.length + 1) cap)), (1, .s (roW ys)), (6, .s (u64 q)), (11, .s (u32 c)), (13, .s (u32 ((o_cy (o_u zs off (ys.length + 1)) (nv ys) i : Nat)))), (116, .s (num ((ys.length + 1 : Nat) : Int))), (117, .s (num i))],
   [(0, box32 ty (o_win zs off (o_mix (ys.length + 1) (o_u zs off (ys.length + 1) + nv ys) (o_u zs off (ys.length + 1)) i)))]⟩
def F94d (st : St) : Option (Ex × St × List Prop) :=
  match lk st.tmps 0, lk st.tmps 1, lk st.tmps 6, lk st.tmps 11, lk st.tmps 13, lk st.tmps 116, lk st.tmps 117, lk st.boxes 0 with
  | some (.s (.one (.sl 0 off len cap))), some (.s (.one (.row .u32 ys))), some (.s (.one (.v (.int .u64 q)))), some (.s (.one (.v (.int .u32 c)))), some (.s (.one (.v (.int .u32 b)))), some (.s (.one (.v (.int .i64 n)))), some (.s (.one (.v (.int .i64 i)))), some ⟨ty, .ints .u32 zs, true⟩ =>
    some (.exit 6, I94d ty zs off cap ys q c (ys.length + 1), [len = ys.length + 1, b = 0, n = ((ys.length + 1 : Nat) : Int), i = 0, off + (ys.length + 1) ≤ zs.length, Words zs, Words ys, ys.length < 137438953472])
  | _, _, _, _, _, _, _, _ => none
def L94d : Loops := fun k => bif Nat.beq k 23 then some F94d else none
def I94c (ty : TypeId) (zs : List Int) (off cap : Nat) (ys : List Int) (q : Nat) : St :=
  ⟨[(0, .s (slW 0 off (ys.length + 1) cap)), (1, .s (roW ys)), (6, .s (u64 q)), (11, .s (u32 ((if o_u zs off (ys.length + 1) < q * nv ys then (1 : Nat) else 0 : Nat))))],
   [(0, box32 ty (o_win zs off (dgs (ys.length + 1) (o_u zs off (ys.length + 1) + B ^ (ys.length + 1) - q * nv ys))))]⟩
def J94c (ty : TypeId) (zs : List Int) (off : Nat) (ys : List Int) : St :=
  ⟨[(6, .s (u64 ((o_u zs off (ys.length + 1) / nv ys : Nat))))], [(0, box32 ty (o_win zs off (dgs (ys.length + 1) (o_u zs off (ys.length + 1) % nv ys))))]⟩
def F94c (zs : List Int) (st : St) : Option (Ex × St × List Prop) :=
  match lk st.tmps 0, lk st.tmps 1, lk st.tmps 6, lk st.tmps 11, lk st.boxes 0 with
  | some (.s (.one (.sl 0 off len _cap))), some (.s (.one (.row .u32 ys))), some (.s (.one (.v (.int .u64 q)))), some (.s (.one (.v (.int .u32 b)))), some ⟨ty, .ints .u32 zs', true⟩ =>
    some (.exit 4, J94c ty zs off ys, [len = ys.length + 1, 0 ≤ q ∧ q < 4294967296, ((o_u zs off (ys.length + 1) / nv ys : Nat) : Int) ≤ q, b = ((if o_u zs off (ys.length + 1) < q.toNat * nv ys then (1 : Nat) else 0 : Nat) : Int), zs' = o_win zs off (dgs (ys.length + 1) (o_u zs off (ys.length + 1) + B ^ (ys.length + 1) - q.toNat * nv ys)),
      off + (ys.length + 1) ≤ zs.length, Words zs, Words ys, 0 < nv ys, ys.length < 137438953472])
  | _, _, _, _, _ => none
def L94 (zs : List Int) : Loops := fun k => bif Nat.beq k 7 then some F94a else bif Nat.beq k 13 then some F94b else bif Nat.beq k 19 then some (F94c zs) else bif Nat.beq k 23 then some F94d else none

def I113 (us ys : List Int) (q r : Nat) : St := ⟨[(0, .s (roW us)), (1, .s (roW ys)), (5, .s (num ys.length)), (7, .s (u64 q)), (8, .s (u64 r))], []⟩
def F113 (st : St) : Option (Ex × St × List Prop) :=
  match liv st.boxes 0, lk st.tmps 0, lk st.tmps 1, lk st.tmps 5, lk st.tmps 7, lk st.tmps 8 with
  | false, some (.s (.one (.row .u32 us))), some (.s (.one (.row .u32 ys))), some (.s (.one (.v (.int .i64 n)))), some (.s (.one (.v (.int .u64 q)))), some (.s (.one (.v (.int .u64 r)))) =>
    some (.exit 0, ⟨[(7, .s (u64 ((o_gue2 (nv us) (nv ys) ys.length q.toNat r.toNat : Nat))))], []⟩, [n = ys.length, 0 ≤ q ∧ q < 18446744073709551616, 0 ≤ r ∧ r < 4294967296, us.length = ys.length + 1, 2 ≤ ys.length, Words us, Words ys, ys.length < 137438953472])
  | _, _, _, _, _, _ => none
def L113 : Loops := fun k => bif Nat.beq k 5 then some F113 else none
def I114 (ty : TypeId) (zs : List Int) (off cap : Nat) (ys : List Int) (q i : Nat) : St :=
  ⟨[(0, .s (slW 0 off (ys.length + 1) cap)), (1, .s (roW ys)), (2, .s (u64 q)), (7, .s (u64 ((o_cm q (nv ys) i : Nat)))), (8, .s (u64 ((o_bw (o_u zs off (ys.length + 1)) (q * nv ys) i : Nat)))), (9, .s (num i))],
   [(0, box32 ty (o_win zs off (o_mix (ys.length + 1) (o_u zs off (ys.length + 1) + B ^ (ys.length + 1) - q * nv ys) (o_u zs off (ys.length + 1)) i)))]⟩
def F114 (st : St) : Option (Ex × St × List Prop) :=
  match lk st.tmps 0, lk st.tmps 1, lk st.tmps 2, lk st.tmps 7, lk st.tmps 8, lk st.tmps 9, lk st.boxes 0 with
  | some (.s (.one (.sl 0 off len cap))), some (.s (.one (.row .u32 ys))), some (.s (.one (.v (.int .u64 q)))), some (.s (.one (.v (.int .u64 c)))), some (.s (.one (.v (.int .u64 b)))), some (.s (.one (.v (.int .i64 i)))), some ⟨ty, .ints .u32 zs, true⟩ =>
    some (.exit 0, I114 ty zs off cap ys q.toNat (ys.length + 1), [len = ys.length + 1, 0 ≤ q ∧ q < 4294967296, c = 0, b = 0, i = 0, off + (ys.length + 1) ≤ zs.length, Words zs, Words ys, ys.length < 137438953472])
  | _, _, _, _, _, _, _ => none
def L114 : Loops := fun k => bif Nat.beq k 4 then some F114 else none
def I115 (ty : TypeId) (zs : List Int) (off cap : Nat) (ys : List Int) (i : Nat) : St :=
  ⟨[(0, .s (slW 0 off (ys.length + 1) cap)), (1, .s (roW ys)), (4, .s (u64 ((o_cy (o_u zs off (ys.length + 1)) (nv ys) i : Nat)))), (5, .s (num i))],
   [(0, box32 ty (o_win zs off (o_mix (ys.length + 1) (o_u zs off (ys.length + 1) + nv ys) (o_u zs off (ys.length + 1)) i)))]⟩
def F115 (st : St) : Option (Ex × St × List Prop) :=
  match lk st.tmps 0, lk st.tmps 1, lk st.tmps 4, lk st.tmps 5, lk st.boxes 0 with
  | some (.s (.one (.sl 0 off len cap))), some (.s (.one (.row .u32 ys))), some (.s (.one (.v (.int .u64 c)))), some (.s (.one (.v (.int .i64 i)))), some ⟨ty, .ints .u32 zs, true⟩ =>
    some (.exit 0, I115 ty zs off cap ys (ys.length + 1), [len = ys.length + 1, c = 0, i = 0, off + (ys.length + 1) ≤ zs.length, Words zs, Words ys, ys.length < 137438953472])
  | _, _, _, _, _ => none
def L115 : Loops := fun k => bif Nat.beq k 2 then some F115 else none

end Go.Proofs.YtkfdnpbpebmhaaaGreatDoor.Spec
section
set_option maxRecDepth 100000
namespace Go.Proofs.YtkfdnpbpebmhaaaGreatDoor.Spec
open Go Go.RowKit Sx Num

theorem loop94aa (ty : TypeId) (zs : List Int) (off cap : Nat) (ys : List Int) (q r : Nat) : codeV Tryz.prog (lk E7) L0 (G1 []) Tryz.f94.ntmps 60 (loopC Tryz.f94 0) [0, 1, 5, 6, 9] [0] (I94a ty zs off cap ys q r) = (let q0 := decide ((↑r : Int) ≤ (4294967295 : Int)) = true; let q1 := (↑(List.length ys) : Int); let q2 := IntKind.wrap .i64 (q1 - (2 : Int)); let q3 := IntKind.bits IntKind.u64; let q4 := List.length ys + (1 : Nat); some (Ex.normal, { tmps := [((0 : Nat), AV.s (SV.one (LV.sl (0 : Nat) off q4 cap))), ((1 : Nat), AV.s (SV.one (LV.row EK.u32 ys))), ((5 : Nat), AV.s (SV.one (LV.v (Value.int .i64 q1)))), ((6 : Nat), AV.s (SV.one (LV.v (Value.int .u64 (IntKind.wrap .u64 ((↑q : Int) - (1 : Int))))))), ((9 : Nat), AV.s (SV.one (LV.v (Value.int .u64 (IntKind.wrap .u64 ((↑r : Int) + IntKind.wrap .u64 (List.getD ys (Int.toNat (IntKind.wrap .i64 (q1 - (1 : Int)))) (0 : Int))))))))], boxes := [((0 : Nat), { ty := ty, bc := BC.ints EK.u32 zs, mut_ := true })] }, [q0, q0, q0, q0, q0, (0 : Int) ≤ IntKind.wrap .i64 (q1 - (2 : Int)) ∧ IntKind.wrap .i64 (q1 - (2 : Int)) < q1, q0, q0, q0, q0, q0, (0 : Int) ≤ (32 : Int), q0, q0, q0, q0, (0 : Int) ≤ IntKind.wrap .i64 (q1 - (2 : Int)) ∧ IntKind.wrap .i64 (q1 - (2 : Int)) < (↑q4 : Int), q0, off + Int.toNat q2 < List.length zs, q0, q0, q0, q0, decide (IntKind.wrap .u64 (↑(BitVec.toNat (BitVec.ofInt q3 (IntKind.wrap .u64 ((↑r : Int) * (2 : Int) ^ min (Int.toNat (32 : Int)) q3)) ||| BitVec.ofInt q3 (IntKind.wrap .u64 (List.getD zs (off + Int.toNat q2) (0 : Int))))) : Int) < IntKind.wrap .u64 ((↑q : Int) * IntKind.wrap .u64 (List.getD ys (Int.toNat q2) (0 : Int)))) = true, (0 : Int) ≤ IntKind.wrap .i64 (q1 - (1 : Int)) ∧ IntKind.wrap .i64 (q1 - (1 : Int)) < q1])) := by kernel_rfl
theorem loop94ab (ty : TypeId) (zs : List Int) (off cap : Nat) (ys : List Int) (q r : Nat) : codeV Tryz.prog (lk E7) L0 (G1 [70]) Tryz.f94.ntmps 60 (loopC Tryz.f94 0) [0, 1, 5, 6] [0] (I94a ty zs off cap ys q r) = (let q0 := decide ((↑r : Int) ≤ (4294967295 : Int)) = true; let q3 := IntKind.bits IntKind.u64; let q4 := (↑(List.length ys) : Int); let q1 := q4 - (2 : Int); let q2 := IntKind.wrap .i64 q1; let q5 := List.length ys + (1 : Nat); some (Ex.exit (0 : Nat), { tmps := [((0 : Nat), AV.s (SV.one (LV.sl (0 : Nat) off q5 cap))), ((1 : Nat), AV.s (SV.one (LV.row EK.u32 ys))), ((5 : Nat), AV.s (SV.one (LV.v (Value.int .i64 q4)))), ((6 : Nat), AV.s (SV.one (LV.v (Value.int .u64 (↑q : Int)))))], boxes := [((0 : Nat), { ty := ty, bc := BC.ints EK.u32 zs, mut_ := true })] }, [q0, q0, q0, q0, q0, (0 : Int) ≤ IntKind.wrap .i64 q1 ∧ IntKind.wrap .i64 q1 < q4, q0, q0, q0, q0, q0, (0 : Int) ≤ (32 : Int), q0, q0, q0, q0, (0 : Int) ≤ IntKind.wrap .i64 q1 ∧ IntKind.wrap .i64 q1 < (↑q5 : Int), q0, off + Int.toNat q2 < List.length zs, q0, q0, q0, q0, decide (IntKind.wrap .u64 (↑(BitVec.toNat (BitVec.ofInt q3 (IntKind.wrap .u64 ((↑r : Int) * (2 : Int) ^ min (Int.toNat (32 : Int)) q3)) ||| BitVec.ofInt q3 (IntKind.wrap .u64 (List.getD zs (off + Int.toNat q2) (0 : Int))))) : Int) < IntKind.wrap .u64 ((↑q : Int) * IntKind.wrap .u64 (List.getD ys (Int.toNat q2) (0 : Int)))) = false])) := by kernel_rfl
theorem loop94ac (ty : TypeId) (zs : List Int) (off cap : Nat) (ys : List Int) (q r : Nat) : codeV Tryz.prog (lk E7) L0 (G1 [50, 51, 70]) Tryz.f94.ntmps 60 (loopC Tryz.f94 0) [0, 1, 5, 6] [0] (I94a ty zs off cap ys q r) = (let q0 := decide ((↑r : Int) ≤ (4294967295 : Int)) = false; some (Ex.exit (0 : Nat), { tmps := [((0 : Nat), AV.s (SV.one (LV.sl (0 : Nat) off (List.length ys + (1 : Nat)) cap))), ((1 : Nat), AV.s (SV.one (LV.row EK.u32 ys))), ((5 : Nat), AV.s (SV.one (LV.v (Value.int .i64 (↑(List.length ys) : Int))))), ((6 : Nat), AV.s (SV.one (LV.v (Value.int .u64 (↑q : Int)))))], boxes := [((0 : Nat), { ty := ty, bc := BC.ints EK.u32 zs, mut_ := true })] }, [q0, q0, q0, q0, q0, q0, q0, q0, q0, q0, q0, q0, q0, q0, q0, q0, q0, q0, q0, false = false])) := by kernel_rfl
theorem loop94ba (ty : TypeId) (zs : List Int) (off cap : Nat) (ys : List Int) (q i : Nat) : codeV Tryz.prog (lk E7) L0 (G1 []) Tryz.f94.ntmps 60 (loopC Tryz.f94 1) [0, 1, 6, 10, 11, 82, 83] [0] (I94b ty zs off cap ys q i) = (let q1 := IntKind.wrap .u64 ((↑(o_cm q (nv ys) i) : Int) + IntKind.wrap .u64 ((↑q : Int) * IntKind.wrap .u64 (List.getD ys (Int.toNat (↑i : Int)) (0 : Int)))); let q2 := List.length ys + (1 : Nat); let q0 := o_win zs off (o_mix q2 (o_u zs off q2 + B ^ q2 - q * nv ys) (o_u zs off q2) i); let q3 := (↑(o_bw (o_u zs off q2) (q * nv ys) i) : Int); let q4 := off + Int.toNat (↑i : Int); let q5 := (0 : Int) ≤ (↑i : Int) ∧ (↑i : Int) < (↑q2 : Int); let q6 := off + Int.toNat (↑i : Int) < List.length q0; some (Ex.normal, { tmps := [((0 : Nat), AV.s (SV.one (LV.sl (0 : Nat) off q2 cap))), ((1 : Nat), AV.s (SV.one (LV.row EK.u32 ys))), ((6 : Nat), AV.s (SV.one (LV.v (Value.int .u64 (↑q : Int))))), ((10 : Nat), AV.s (SV.one (LV.v (Value.int .u64 (Int.fdiv q1 ((2 : Int) ^ min (Int.toNat (32 : Int)) (IntKind.bits IntKind.u64))))))), ((11 : Nat), AV.s (SV.one (LV.v (Value.int .u32 (if List.getD q0 q4 (0 : Int) < IntKind.wrap .u32 q1 + q3 then (1 : Int) else (0 : Int)))))), ((82 : Nat), AV.s (SV.one (LV.v (Value.int .i64 (↑q2 : Int))))), ((83 : Nat), AV.s (SV.one (LV.v (Value.int .i64 (IntKind.wrap .i64 ((↑i : Int) + (1 : Int)))))))], boxes := [((0 : Nat), { ty := ty, bc := BC.ints EK.u32 (List.set q0 q4 ((List.getD q0 q4 (0 : Int) - IntKind.wrap .u32 q1 - q3) % (4294967296 : Int))), mut_ := true })] }, [decide ((↑i : Int) < (↑q2 : Int)) = true, (0 : Int) ≤ (↑i : Int), q5, q6, (0 : Int) ≤ List.getD q0 q4 (0 : Int) ∧ List.getD q0 q4 (0 : Int) < (4294967296 : Int), (0 : Int) ≤ IntKind.wrap .u32 q1 ∧ IntKind.wrap .u32 q1 < (4294967296 : Int), (0 : Int) ≤ q3 ∧ q3 ≤ (1 : Int), q5, q6, (0 : Int) ≤ (32 : Int)])) := by kernel_rfl
theorem loop94bb (ty : TypeId) (zs : List Int) (off cap : Nat) (ys : List Int) (q i : Nat) : codeV Tryz.prog (lk E7) L0 (G1 [84]) Tryz.f94.ntmps 60 (loopC Tryz.f94 1) [0, 1, 6, 10, 11, 82, 83] [0] (I94b ty zs off cap ys q i) = (let q0 := List.length ys + (1 : Nat); some (Ex.exit (2 : Nat), { tmps := [((0 : Nat), AV.s (SV.one (LV.sl (0 : Nat) off q0 cap))), ((1 : Nat), AV.s (SV.one (LV.row EK.u32 ys))), ((6 : Nat), AV.s (SV.one (LV.v (Value.int .u64 (↑q : Int))))), ((10 : Nat), AV.s (SV.one (LV.v (Value.int .u64 (↑(o_cm q (nv ys) i) : Int))))), ((11 : Nat), AV.s (SV.one (LV.v (Value.int .u32 (↑(o_bw (o_u zs off q0) (q * nv ys) i) : Int))))), ((82 : Nat), AV.s (SV.one (LV.v (Value.int .i64 (↑q0 : Int))))), ((83 : Nat), AV.s (SV.one (LV.v (Value.int .i64 (↑i : Int)))))], boxes := [((0 : Nat), { ty := ty, bc := BC.ints EK.u32 (o_win zs off (o_mix q0 (o_u zs off q0 + B ^ q0 - q * nv ys) (o_u zs off q0) i)), mut_ := true })] }, [decide ((↑i : Int) < (↑q0 : Int)) = false])) := by kernel_rfl
theorem loop94ca (ty : TypeId) (zs : List Int) (off cap : Nat) (ys : List Int) (q : Nat) : codeV Tryz.prog (lk E7) L94d (G1 []) Tryz.f94.ntmps 60 (loopC Tryz.f94 2) [0, 1, 6, 11] [0] (I94c ty zs off cap ys q) = (let q0 := List.length ys + (1 : Nat); let q1 := o_win zs off (dgs q0 (o_u zs off q0 + B ^ q0 - q * nv ys)); let q2 := (↑(if o_u zs off q0 < q * nv ys then (1 : Nat) else (0 : Nat)) : Int); some (Ex.normal, { tmps := [((0 : Nat), AV.s (SV.one (LV.sl (0 : Nat) off q0 cap))), ((1 : Nat), AV.s (SV.one (LV.row EK.u32 ys))), ((6 : Nat), AV.s (SV.one (LV.v (Value.int .u64 (IntKind.wrap .u64 ((↑q : Int) - (1 : Int))))))), ((11 : Nat), AV.s (SV.one (LV.v (Value.int .u32 (IntKind.wrap .u32 (q2 - (↑(o_cy (o_u q1 off q0) (nv ys) q0) : Int)))))))], boxes := [((0 : Nat), { ty := ty, bc := BC.ints EK.u32 (o_win q1 off (o_mix q0 (o_u q1 off q0 + nv ys) (o_u q1 off q0) q0)), mut_ := true })] }, [decide ((0 : Int) < q2) = true, List.length ys + (1 : Nat) = List.length ys + (1 : Nat), (0 : Int) = (0 : Int), (↑q0 : Int) = (↑q0 : Int), (0 : Int) = (0 : Int), off + q0 ≤ List.length q1, Words q1, Words ys, List.length ys < (137438953472 : Nat)])) := by kernel_rfl
theorem loop94cb (ty : TypeId) (zs : List Int) (off cap : Nat) (ys : List Int) (q : Nat) : codeV Tryz.prog (lk E7) L94d (G1 [112]) Tryz.f94.ntmps 60 (loopC Tryz.f94 2) [6] [0] (I94c ty zs off cap ys q) = (let q0 := List.length ys + (1 : Nat); some (Ex.exit (4 : Nat), { tmps := [((6 : Nat), AV.s (SV.one (LV.v (Value.int .u64 (↑q : Int)))))], boxes := [((0 : Nat), { ty := ty, bc := BC.ints EK.u32 (o_win zs off (dgs q0 (o_u zs off q0 + B ^ q0 - q * nv ys))), mut_ := true })] }, [decide ((0 : Int) < (↑(if o_u zs off q0 < q * nv ys then (1 : Nat) else (0 : Nat)) : Int)) = false])) := by kernel_rfl
theorem loop94da (ty : TypeId) (zs : List Int) (off cap : Nat) (ys : List Int) (q c : Int) (i : Nat) : codeV Tryz.prog (lk E7) L0 (G1 []) Tryz.f94.ntmps 60 (loopC Tryz.f94 3) [0, 1, 6, 11, 13, 116, 117] [0] (I94d ty zs off cap ys q c i) = (let q1 := List.length ys + (1 : Nat); let q0 := o_win zs off (o_mix q1 (o_u zs off q1 + nv ys) (o_u zs off q1) i); let q3 := off + Int.toNat (↑i : Int); let q4 := (↑(o_cy (o_u zs off q1) (nv ys) i) : Int); let q2 := List.getD q0 q3 (0 : Int) + List.getD ys (Int.toNat (↑i : Int)) (0 : Int) + q4; let q5 := (0 : Int) ≤ (↑i : Int) ∧ (↑i : Int) < (↑q1 : Int); let q6 := off + Int.toNat (↑i : Int) < List.length q0; some (Ex.normal, { tmps := [((0 : Nat), AV.s (SV.one (LV.sl (0 : Nat) off q1 cap))), ((1 : Nat), AV.s (SV.one (LV.row EK.u32 ys))), ((6 : Nat), AV.s (SV.one (LV.v (Value.int .u64 q)))), ((11 : Nat), AV.s (SV.one (LV.v (Value.int .u32 c)))), ((13 : Nat), AV.s (SV.one (LV.v (Value.int .u32 (q2 / (4294967296 : Int)))))), ((116 : Nat), AV.s (SV.one (LV.v (Value.int .i64 (↑q1 : Int))))), ((117 : Nat), AV.s (SV.one (LV.v (Value.int .i64 (IntKind.wrap .i64 ((↑i : Int) + (1 : Int)))))))], boxes := [((0 : Nat), { ty := ty, bc := BC.ints EK.u32 (List.set q0 q3 (q2 % (4294967296 : Int))), mut_ := true })] }, [decide ((↑i : Int) < (↑q1 : Int)) = true, q5, q6, (0 : Int) ≤ (↑i : Int), (0 : Int) ≤ List.getD q0 q3 (0 : Int) ∧ List.getD q0 q3 (0 : Int) < (4294967296 : Int), (0 : Int) ≤ List.getD ys (Int.toNat (↑i : Int)) (0 : Int) ∧ List.getD ys (Int.toNat (↑i : Int)) (0 : Int) < (4294967296 : Int), (0 : Int) ≤ q4 ∧ q4 ≤ (1 : Int), q5, q6])) := by kernel_rfl
theorem loop94db (ty : TypeId) (zs : List Int) (off cap : Nat) (ys : List Int) (q c : Int) (i : Nat) : codeV Tryz.prog (lk E7) L0 (G1 [118]) Tryz.f94.ntmps 60 (loopC Tryz.f94 3) [0, 1, 6, 11, 13, 116, 117] [0] (I94d ty zs off cap ys q c i) = (let q0 := List.length ys + (1 : Nat); some (Ex.exit (6 : Nat), { tmps := [((0 : Nat), AV.s (SV.one (LV.sl (0 : Nat) off q0 cap))), ((1 : Nat), AV.s (SV.one (LV.row EK.u32 ys))), ((6 : Nat), AV.s (SV.one (LV.v (Value.int .u64 q)))), ((11 : Nat), AV.s (SV.one (LV.v (Value.int .u32 c)))), ((13 : Nat), AV.s (SV.one (LV.v (Value.int .u32 (↑(o_cy (o_u zs off q0) (nv ys) i) : Int))))), ((116 : Nat), AV.s (SV.one (LV.v (Value.int .i64 (↑q0 : Int))))), ((117 : Nat), AV.s (SV.one (LV.v (Value.int .i64 (↑i : Int)))))], boxes := [((0 : Nat), { ty := ty, bc := BC.ints EK.u32 (o_win zs off (o_mix q0 (o_u zs off q0 + nv ys) (o_u zs off q0) i)), mut_ := true })] }, [decide ((↑i : Int) < (↑q0 : Int)) = false])) := by kernel_rfl
theorem run94a (ty : TypeId) (zs : List Int) (off cap : Nat) (ys : List Int) : fnMEx Tryz.prog (lk E7) (L94 zs) (G1 []) 60 Tryz.f94 ty .u32 zs off (ys.length + 1) cap [roW ys] = (let q3 := List.length ys + (1 : Nat); let q4 := (↑(List.length ys) : Int); let q1 := IntKind.wrap .i64 (q4 - (1 : Int)); let q2 := List.getD zs (off + Int.toNat q4) (0 : Int) * (4294967296 : Int) + List.getD zs (off + Int.toNat q1) (0 : Int); let q5 := List.length ys + (1 : Nat) = List.length ys + (1 : Nat); let q6 := (0 : Int) ≤ IntKind.wrap .i64 (q4 - (1 : Int)) ∧ IntKind.wrap .i64 (q4 - (1 : Int)) < q4; let q7 := q2 / List.getD ys (Int.toNat q1) (0 : Int); let q8 := q2 % List.getD ys (Int.toNat q1) (0 : Int); let q0 := (↑(o_red2 (o_u zs off q3) (nv ys) (List.length ys) (Int.toNat (IntKind.wrap .u64 q7)) (Int.toNat (IntKind.wrap .u64 q8))) : Int); let q9 := List.length ys < (137438953472 : Nat); let q10 := off + q3 ≤ List.length zs; let q11 := off + Int.toNat q4 < List.length zs; let q12 := (0 : Int) ≤ q4 ∧ q4 < (↑q3 : Int); let q13 := (↑(o_u zs off q3 / nv ys) : Int); some (AV.s (SV.one (LV.v (Value.int .u32 (IntKind.wrap .u32 q13)))), o_win zs off (dgs q3 (o_u zs off q3 % nv ys)), [ty = ty, q12, q11, q6, decide (List.getD zs (off + Int.toNat q4) (0 : Int) < List.getD ys (Int.toNat q1) (0 : Int)) = true, q12, q11, (0 : Int) ≤ IntKind.wrap .i64 (q4 - (1 : Int)) ∧ IntKind.wrap .i64 (q4 - (1 : Int)) < (↑q3 : Int), off + Int.toNat q1 < List.length zs, q6, (0 : Int) ≤ List.getD zs (off + Int.toNat q4) (0 : Int) ∧ List.getD zs (off + Int.toNat q4) (0 : Int) < (4294967296 : Int), (0 : Int) ≤ List.getD zs (off + Int.toNat q1) (0 : Int) ∧ List.getD zs (off + Int.toNat q1) (0 : Int) < (4294967296 : Int), (0 : Int) ≤ List.getD ys (Int.toNat q1) (0 : Int) ∧ List.getD ys (Int.toNat q1) (0 : Int) < (4294967296 : Int), List.getD zs (off + Int.toNat q4) (0 : Int) < List.getD ys (Int.toNat q1) (0 : Int), q5, q4 = q4, (0 : Int) ≤ IntKind.wrap .u64 q7 ∧ IntKind.wrap .u64 q7 < (4294967296 : Int), (0 : Int) ≤ IntKind.wrap .u64 q8 ∧ IntKind.wrap .u64 q8 < (4294967296 : Int), q10, Words zs, Words ys, (2 : Nat) ≤ List.length ys, q9, q5, (0 : Int) ≤ q0 ∧ q0 < (4294967296 : Int), (0 : Int) = (0 : Int), (0 : Int) = (0 : Int), (↑q3 : Int) = q4 + (1 : Int), (0 : Int) = (0 : Int), q10, Words zs, Words ys, q9, q5, (0 : Int) ≤ (↑(Int.toNat q0) : Int) ∧ (↑(Int.toNat q0) : Int) < (4294967296 : Int), q13 ≤ (↑(Int.toNat q0) : Int), (↑(o_bw (o_u zs off q3) (Int.toNat q0 * nv ys) q3) : Int) = (↑(if o_u zs off q3 < Int.toNat (↑(Int.toNat q0) : Int) * nv ys then (1 : Nat) else (0 : Nat)) : Int), o_win zs off (o_mix q3 (o_u zs off q3 + B ^ q3 - Int.toNat q0 * nv ys) (o_u zs off q3) q3) = o_win zs off (dgs q3 (o_u zs off q3 + B ^ q3 - Int.toNat (↑(Int.toNat q0) : Int) * nv ys)), q10, Words zs, Words ys, (0 : Nat) < nv ys, q9])) := by kernel_rfl
theorem run94b (ty : TypeId) (zs : List Int) (off cap : Nat) (ys : List Int) : fnMEx Tryz.prog (lk E7) (L94 zs) (G1 [26]) 60 Tryz.f94 ty .u32 zs off (ys.length + 1) cap [roW ys] = (let q0 := List.length ys + (1 : Nat); let q1 := (↑(List.length ys) : Int); let q2 := (↑(Int.toNat (4294967295 : Int)) : Int); let q3 := List.length ys + (1 : Nat) = List.length ys + (1 : Nat); let q4 := List.length ys < (137438953472 : Nat); let q5 := (↑(o_u zs off q0 / nv ys) : Int); let q6 := off + q0 ≤ List.length zs; some (AV.s (SV.one (LV.v (Value.int .u32 (IntKind.wrap .u32 q5)))), o_win zs off (dgs q0 (o_u zs off q0 % nv ys)), [ty = ty, (0 : Int) ≤ q1 ∧ q1 < (↑q0 : Int), off + Int.toNat q1 < List.length zs, (0 : Int) ≤ IntKind.wrap .i64 (q1 - (1 : Int)) ∧ IntKind.wrap .i64 (q1 - (1 : Int)) < q1, decide (List.getD zs (off + Int.toNat q1) (0 : Int) < List.getD ys (Int.toNat (IntKind.wrap .i64 (q1 - (1 : Int)))) (0 : Int)) = false, q3, (0 : Int) ≤ (4294967295 : Int) ∧ (4294967295 : Int) < (4294967296 : Int), (0 : Int) = (0 : Int), (0 : Int) = (0 : Int), (↑q0 : Int) = q1 + (1 : Int), (0 : Int) = (0 : Int), q6, Words zs, Words ys, q4, q3, (0 : Int) ≤ q2 ∧ q2 < (4294967296 : Int), q5 ≤ q2, (↑(o_bw (o_u zs off q0) (Int.toNat (4294967295 : Int) * nv ys) q0) : Int) = (↑(if o_u zs off q0 < Int.toNat q2 * nv ys then (1 : Nat) else (0 : Nat)) : Int), o_win zs off (o_mix q0 (o_u zs off q0 + B ^ q0 - Int.toNat (4294967295 : Int) * nv ys) (o_u zs off q0) q0) = o_win zs off (dgs q0 (o_u zs off q0 + B ^ q0 - Int.toNat q2 * nv ys)), q6, Words zs, Words ys, (0 : Nat) < nv ys, q4])) := by kernel_rfl
theorem loop113a (us ys : List Int) (q r : Nat) : codeV Tryz.prog (lk E7) L0 (G1 [41, 42, 73]) Tryz.f113.ntmps 60 (loopC Tryz.f113 0) [0, 1, 5, 7, 8] [] (I113 us ys q r) = (let q0 := decide ((4294967296 : Int) ≤ (↑q : Int)) = false; let q1 := (↑(List.length ys) : Int); let q2 := (↑r : Int) + IntKind.wrap .u64 (List.getD ys (Int.toNat (IntKind.wrap .i64 (q1 - (1 : Int)))) (0 : Int)); let q3 := Int.toNat (IntKind.wrap .i64 (q1 - (2 : Int))); some (Ex.normal, { tmps := [((0 : Nat), AV.s (SV.one (LV.row EK.u32 us))), ((1 : Nat), AV.s (SV.one (LV.row EK.u32 ys))), ((5 : Nat), AV.s (SV.one (LV.v (Value.int .i64 q1)))), ((7 : Nat), AV.s (SV.one (LV.v (Value.int .u64 (IntKind.wrap .u64 ((↑q : Int) - (1 : Int))))))), ((8 : Nat), AV.s (SV.one (LV.v (Value.int .u64 (IntKind.wrap .u64 q2)))))], boxes := [] }, [q0, q0, q0, q0, q0, (0 : Int) ≤ IntKind.wrap .i64 (q1 - (2 : Int)) ∧ IntKind.wrap .i64 (q1 - (2 : Int)) < q1, q0, q0, q0, q0, q0, q0, q0, q0, q0, (0 : Int) ≤ IntKind.wrap .i64 (q1 - (2 : Int)) ∧ IntKind.wrap .i64 (q1 - (2 : Int)) < (↑(List.length us) : Int), q0, q0, q0, q0, q0, decide (IntKind.wrap .u64 (IntKind.wrap .u64 ((↑r : Int) * (4294967296 : Int)) + IntKind.wrap .u64 (List.getD us q3 (0 : Int))) < IntKind.wrap .u64 ((↑q : Int) * IntKind.wrap .u64 (List.getD ys q3 (0 : Int)))) = true, (0 : Int) ≤ IntKind.wrap .i64 (q1 - (1 : Int)) ∧ IntKind.wrap .i64 (q1 - (1 : Int)) < q1, decide ((4294967296 : Int) ≤ IntKind.wrap .u64 q2) = false])) := by kernel_rfl
theorem loop113b (us ys : List Int) (q r : Nat) : codeV Tryz.prog (lk E7) L0 (G1 [41, 42]) Tryz.f113.ntmps 60 (loopC Tryz.f113 0) [7] [] (I113 us ys q r) = (let q0 := decide ((4294967296 : Int) ≤ (↑q : Int)) = false; let q1 := (↑(List.length ys) : Int); let q2 := Int.toNat (IntKind.wrap .i64 (q1 - (2 : Int))); some (Ex.exit (0 : Nat), { tmps := [((7 : Nat), AV.s (SV.one (LV.v (Value.int .u64 (IntKind.wrap .u64 ((↑q : Int) - (1 : Int)))))))], boxes := [] }, [q0, q0, q0, q0, q0, (0 : Int) ≤ IntKind.wrap .i64 (q1 - (2 : Int)) ∧ IntKind.wrap .i64 (q1 - (2 : Int)) < q1, q0, q0, q0, q0, q0, q0, q0, q0, q0, (0 : Int) ≤ IntKind.wrap .i64 (q1 - (2 : Int)) ∧ IntKind.wrap .i64 (q1 - (2 : Int)) < (↑(List.length us) : Int), q0, q0, q0, q0, q0, decide (IntKind.wrap .u64 (IntKind.wrap .u64 ((↑r : Int) * (4294967296 : Int)) + IntKind.wrap .u64 (List.getD us q2 (0 : Int))) < IntKind.wrap .u64 ((↑q : Int) * IntKind.wrap .u64 (List.getD ys q2 (0 : Int)))) = true, (0 : Int) ≤ IntKind.wrap .i64 (q1 - (1 : Int)) ∧ IntKind.wrap .i64 (q1 - (1 : Int)) < q1, decide ((4294967296 : Int) ≤ IntKind.wrap .u64 ((↑r : Int) + IntKind.wrap .u64 (List.getD ys (Int.toNat (IntKind.wrap .i64 (q1 - (1 : Int)))) (0 : Int)))) = true])) := by kernel_rfl
theorem loop113c (us ys : List Int) (q r : Nat) : codeV Tryz.prog (lk E7) L0 (G1 [73]) Tryz.f113.ntmps 60 (loopC Tryz.f113 0) [0, 1, 5, 7, 8] [] (I113 us ys q r) = (let q0 := decide ((4294967296 : Int) ≤ (↑q : Int)) = true; let q2 := (↑(List.length ys) : Int); let q1 := (↑r : Int) + IntKind.wrap .u64 (List.getD ys (Int.toNat (IntKind.wrap .i64 (q2 - (1 : Int)))) (0 : Int)); some (Ex.normal, { tmps := [((0 : Nat), AV.s (SV.one (LV.row EK.u32 us))), ((1 : Nat), AV.s (SV.one (LV.row EK.u32 ys))), ((5 : Nat), AV.s (SV.one (LV.v (Value.int .i64 q2)))), ((7 : Nat), AV.s (SV.one (LV.v (Value.int .u64 (IntKind.wrap .u64 ((↑q : Int) - (1 : Int))))))), ((8 : Nat), AV.s (SV.one (LV.v (Value.int .u64 (IntKind.wrap .u64 q1)))))], boxes := [] }, [q0, q0, q0, q0, q0, q0, q0, q0, q0, q0, q0, q0, q0, q0, q0, q0, q0, q0, q0, true = true, (0 : Int) ≤ IntKind.wrap .i64 (q2 - (1 : Int)) ∧ IntKind.wrap .i64 (q2 - (1 : Int)) < q2, decide ((4294967296 : Int) ≤ IntKind.wrap .u64 q1) = false])) := by kernel_rfl
theorem loop113d (us ys : List Int) (q r : Nat) : codeV Tryz.prog (lk E7) L0 (G1 []) Tryz.f113.ntmps 60 (loopC Tryz.f113 0) [7] [] (I113 us ys q r) = (let q0 := decide ((4294967296 : Int) ≤ (↑q : Int)) = true; let q2 := (↑(List.length ys) : Int); let q1 := q2 - (1 : Int); some (Ex.exit (0 : Nat), { tmps := [((7 : Nat), AV.s (SV.one (LV.v (Value.int .u64 (IntKind.wrap .u64 ((↑q : Int) - (1 : Int)))))))], boxes := [] }, [q0, q0, q0, q0, q0, q0, q0, q0, q0, q0, q0, q0, q0, q0, q0, q0, q0, q0, q0, true = true, (0 : Int) ≤ IntKind.wrap .i64 q1 ∧ IntKind.wrap .i64 q1 < q2, decide ((4294967296 : Int) ≤ IntKind.wrap .u64 ((↑r : Int) + IntKind.wrap .u64 (List.getD ys (Int.toNat (IntKind.wrap .i64 q1)) (0 : Int)))) = true])) := by kernel_rfl
theorem loop113e (us ys : List Int) (q r : Nat) : codeV Tryz.prog (lk E7) L0 (G1 [41, 42, 61]) Tryz.f113.ntmps 60 (loopC Tryz.f113 0) [7] [] (I113 us ys q r) = (let q0 := decide ((4294967296 : Int) ≤ (↑q : Int)) = false; let q3 := (↑(List.length ys) : Int); let q1 := q3 - (2 : Int); let q2 := Int.toNat (IntKind.wrap .i64 q1); some (Ex.exit (0 : Nat), { tmps := [((7 : Nat), AV.s (SV.one (LV.v (Value.int .u64 (↑q : Int)))))], boxes := [] }, [q0, q0, q0, q0, q0, (0 : Int) ≤ IntKind.wrap .i64 q1 ∧ IntKind.wrap .i64 q1 < q3, q0, q0, q0, q0, q0, q0, q0, q0, q0, (0 : Int) ≤ IntKind.wrap .i64 q1 ∧ IntKind.wrap .i64 q1 < (↑(List.length us) : Int), q0, q0, q0, q0, q0, decide (IntKind.wrap .u64 (IntKind.wrap .u64 ((↑r : Int) * (4294967296 : Int)) + IntKind.wrap .u64 (List.getD us q2 (0 : Int))) < IntKind.wrap .u64 ((↑q : Int) * IntKind.wrap .u64 (List.getD ys q2 (0 : Int)))) = false])) := by kernel_rfl
theorem run113 (us ys : List Int) : fnEx Tryz.prog (lk E7) L113 (G1 []) 60 Tryz.f113 [roW us, roW ys] = (let q2 := (↑(List.length ys) : Int); let q4 := (0 : Int) ≤ IntKind.wrap .i64 (q2 - (1 : Int)) ∧ IntKind.wrap .i64 (q2 - (1 : Int)) < q2; let q5 := Int.toNat (IntKind.wrap .i64 (q2 - (1 : Int))); let q0 := IntKind.wrap .u64 (IntKind.wrap .u64 (IntKind.wrap .u64 (List.getD us (Int.toNat q2) (0 : Int)) * (4294967296 : Int)) + IntKind.wrap .u64 (List.getD us q5 (0 : Int))); let q1 := List.getD ys q5 (0 : Int); let q3 := IntKind.wrap .u64 q1; let q6 := ¬IntKind.wrap .u64 q1 = (0 : Int); let q7 := (↑(List.length us) : Int); some (AV.s (SV.one (LV.v (Value.int .u64 (↑(o_gue2 (nv us) (nv ys) (List.length ys) (Int.toNat (IntKind.wrap .u64 (Int.tdiv q0 q3))) (Int.toNat (Int.tmod q0 q3))) : Int)))), [(0 : Int) ≤ q2 ∧ q2 < q7, (0 : Int) ≤ IntKind.wrap .i64 (q2 - (1 : Int)) ∧ IntKind.wrap .i64 (q2 - (1 : Int)) < q7, q4, q6, q4, q6, q2 = q2, (0 : Int) ≤ IntKind.wrap .u64 (Int.tdiv q0 q3) ∧ IntKind.wrap .u64 (Int.tdiv q0 q3) < (18446744073709551616 : Int), (0 : Int) ≤ Int.tmod q0 q3 ∧ Int.tmod q0 q3 < (4294967296 : Int), List.length us = List.length ys + (1 : Nat), (2 : Nat) ≤ List.length ys, Words us, Words ys, List.length ys < (137438953472 : Nat)])) := by kernel_rfl
theorem loop114a (ty : TypeId) (zs : List Int) (off cap : Nat) (ys : List Int) (q i : Nat) : codeV Tryz.prog (lk E7) L0 (G1 []) Tryz.f114.ntmps 60 (loopC Tryz.f114 0) [0, 1, 2, 7, 8, 9] [0] (I114 ty zs off cap ys q i) = (let q2 := List.length ys + (1 : Nat); let q0 := o_win zs off (o_mix q2 (o_u zs off q2 + B ^ q2 - q * nv ys) (o_u zs off q2) i); let q3 := IntKind.wrap .u64 (IntKind.wrap .u64 ((↑q : Int) * List.getD ys (Int.toNat (↑i : Int)) (0 : Int)) + (↑(o_cm q (nv ys) i) : Int)); let q4 := ¬(4294967296 : Int) = (0 : Int); let q5 := (0 : Int) ≤ (↑i : Int) ∧ (↑i : Int) < (↑q2 : Int); let q6 := off + Int.toNat (↑i : Int) < List.length q0; let q7 := off + Int.toNat (↑i : Int); let q1 := IntKind.wrap .u64 (IntKind.wrap .u64 (IntKind.wrap .u64 ((4294967296 : Int) + IntKind.wrap .u64 (List.getD q0 q7 (0 : Int))) - Int.tmod q3 (4294967296 : Int)) - (↑(o_bw (o_u zs off q2) (q * nv ys) i) : Int)); some (Ex.normal, { tmps := [((0 : Nat), AV.s (SV.one (LV.sl (0 : Nat) off q2 cap))), ((1 : Nat), AV.s (SV.one (LV.row EK.u32 ys))), ((2 : Nat), AV.s (SV.one (LV.v (Value.int .u64 (↑q : Int))))), ((7 : Nat), AV.s (SV.one (LV.v (Value.int .u64 (IntKind.wrap .u64 (Int.tdiv q3 (4294967296 : Int))))))), ((8 : Nat), AV.s (SV.one (LV.v (Value.int .u64 (IntKind.wrap .u64 ((1 : Int) - IntKind.wrap .u64 (Int.tdiv q1 (4294967296 : Int)))))))), ((9 : Nat), AV.s (SV.one (LV.v (Value.int .i64 (IntKind.wrap .i64 ((↑i : Int) + (1 : Int)))))))], boxes := [((0 : Nat), { ty := ty, bc := BC.ints EK.u32 (List.set q0 q7 (IntKind.wrap .u32 (Int.tmod q1 (4294967296 : Int)))), mut_ := true })] }, [decide ((↑i : Int) < (↑q2 : Int)) = true, (0 : Int) ≤ (↑i : Int), Words ys, q4, q5, q6, q4, q4, q5, q6, q4])) := by kernel_rfl
theorem loop114b (ty : TypeId) (zs : List Int) (off cap : Nat) (ys : List Int) (q i : Nat) : codeV Tryz.prog (lk E7) L0 (G1 [15]) Tryz.f114.ntmps 60 (loopC Tryz.f114 0) [0, 1, 2, 7, 8, 9] [0] (I114 ty zs off cap ys q i) = (let q0 := List.length ys + (1 : Nat); some (Ex.exit (0 : Nat), { tmps := [((0 : Nat), AV.s (SV.one (LV.sl (0 : Nat) off q0 cap))), ((1 : Nat), AV.s (SV.one (LV.row EK.u32 ys))), ((2 : Nat), AV.s (SV.one (LV.v (Value.int .u64 (↑q : Int))))), ((7 : Nat), AV.s (SV.one (LV.v (Value.int .u64 (↑(o_cm q (nv ys) i) : Int))))), ((8 : Nat), AV.s (SV.one (LV.v (Value.int .u64 (↑(o_bw (o_u zs off q0) (q * nv ys) i) : Int))))), ((9 : Nat), AV.s (SV.one (LV.v (Value.int .i64 (↑i : Int)))))], boxes := [((0 : Nat), { ty := ty, bc := BC.ints EK.u32 (o_win zs off (o_mix q0 (o_u zs off q0 + B ^ q0 - q * nv ys) (o_u zs off q0) i)), mut_ := true })] }, [decide ((↑i : Int) < (↑q0 : Int)) = false])) := by kernel_rfl
theorem run114 (ty : TypeId) (zs : List Int) (off cap : Nat) (ys : List Int) (q : Int) : fnMEx Tryz.prog (lk E7) L114 (G1 []) 60 Tryz.f114 ty .u32 zs off (ys.length + 1) cap [roW ys, u64 q] = (let q0 := List.length ys + (1 : Nat); some (AV.s (SV.one (LV.v (Value.bool (decide ((↑(o_bw (o_u zs off q0) (Int.toNat q * nv ys) q0) : Int) = (1 : Int)))))), o_win zs off (o_mix q0 (o_u zs off q0 + B ^ q0 - Int.toNat q * nv ys) (o_u zs off q0) q0), [ty = ty, List.length ys + (1 : Nat) = List.length ys + (1 : Nat), (0 : Int) ≤ q ∧ q < (4294967296 : Int), (0 : Int) = (0 : Int), (0 : Int) = (0 : Int), (0 : Int) = (0 : Int), off + q0 ≤ List.length zs, Words zs, Words ys, List.length ys < (137438953472 : Nat)])) := by kernel_rfl
theorem loop115a (ty : TypeId) (zs : List Int) (off cap : Nat) (ys : List Int) (i : Nat) : codeV Tryz.prog (lk E7) L0 (G1 []) Tryz.f115.ntmps 60 (loopC Tryz.f115 0) [0, 1, 4, 5] [0] (I115 ty zs off cap ys i) = (let q2 := List.length ys + (1 : Nat); let q0 := o_win zs off (o_mix q2 (o_u zs off q2 + nv ys) (o_u zs off q2) i); let q3 := (0 : Int) ≤ (↑i : Int) ∧ (↑i : Int) < (↑q2 : Int); let q4 := off + Int.toNat (↑i : Int) < List.length q0; let q5 := ¬(4294967296 : Int) = (0 : Int); let q6 := off + Int.toNat (↑i : Int); let q1 := IntKind.wrap .u64 (IntKind.wrap .u64 (IntKind.wrap .u64 (List.getD q0 q6 (0 : Int)) + List.getD ys (Int.toNat (↑i : Int)) (0 : Int)) + (↑(o_cy (o_u zs off q2) (nv ys) i) : Int)); some (Ex.normal, { tmps := [((0 : Nat), AV.s (SV.one (LV.sl (0 : Nat) off q2 cap))), ((1 : Nat), AV.s (SV.one (LV.row EK.u32 ys))), ((4 : Nat), AV.s (SV.one (LV.v (Value.int .u64 (IntKind.wrap .u64 (Int.tdiv q1 (4294967296 : Int))))))), ((5 : Nat), AV.s (SV.one (LV.v (Value.int .i64 (IntKind.wrap .i64 ((↑i : Int) + (1 : Int)))))))], boxes := [((0 : Nat), { ty := ty, bc := BC.ints EK.u32 (List.set q0 q6 (IntKind.wrap .u32 (Int.tmod q1 (4294967296 : Int)))), mut_ := true })] }, [decide ((↑i : Int) < (↑q2 : Int)) = true, q3, q4, (0 : Int) ≤ (↑i : Int), Words ys, q5, q3, q4, q5])) := by kernel_rfl
theorem loop115b (ty : TypeId) (zs : List Int) (off cap : Nat) (ys : List Int) (i : Nat) : codeV Tryz.prog (lk E7) L0 (G1 [10]) Tryz.f115.ntmps 60 (loopC Tryz.f115 0) [0, 1, 4, 5] [0] (I115 ty zs off cap ys i) = (let q0 := List.length ys + (1 : Nat); some (Ex.exit (0 : Nat), { tmps := [((0 : Nat), AV.s (SV.one (LV.sl (0 : Nat) off q0 cap))), ((1 : Nat), AV.s (SV.one (LV.row EK.u32 ys))), ((4 : Nat), AV.s (SV.one (LV.v (Value.int .u64 (↑(o_cy (o_u zs off q0) (nv ys) i) : Int))))), ((5 : Nat), AV.s (SV.one (LV.v (Value.int .i64 (↑i : Int)))))], boxes := [((0 : Nat), { ty := ty, bc := BC.ints EK.u32 (o_win zs off (o_mix q0 (o_u zs off q0 + nv ys) (o_u zs off q0) i)), mut_ := true })] }, [decide ((↑i : Int) < (↑q0 : Int)) = false])) := by kernel_rfl
theorem run115 (ty : TypeId) (zs : List Int) (off cap : Nat) (ys : List Int) : fnMEx Tryz.prog (lk E7) L115 (G1 []) 60 Tryz.f115 ty .u32 zs off (ys.length + 1) cap [roW ys] = (let q0 := List.length ys + (1 : Nat); some (AV.tup [], o_win zs off (o_mix q0 (o_u zs off q0 + nv ys) (o_u zs off q0) q0), [ty = ty, List.length ys + (1 : Nat) = List.length ys + (1 : Nat), (0 : Int) = (0 : Int), (0 : Int) = (0 : Int), off + q0 ≤ List.length zs, Words zs, Words ys, List.length ys < (137438953472 : Nat)])) := by kernel_rfl
end Go.Proofs.YtkfdnpbpebmhaaaGreatDoor.Spec
end
namespace Go.Proofs.YtkfdnpbpebmhaaaGreatDoor.Num
open Go.Proofs.YtkfdnpbpebmhaaaGreatDoor.Spec

theorem mix_full (N a b : Nat) : o_mix N a b N = dgs N a := by
  unfold o_mix
  rw [List.drop_eq_nil_of_le (by rw [dgs_length]; exact Nat.le_refl _), List.append_nil]
section
variable {zs : List Int} {off N : Nat}
theorem wmix_len {a b i : Nat} (h : off + N ≤ zs.length) (hi : i ≤ N) : (o_win zs off (o_mix N a b i)).length = zs.length := win_length (by rw [mix_length hi]; exact h)
theorem wmix_get {a b i : Nat} (h : off + N ≤ zs.length) (hi : i < N) : (o_win zs off (o_mix N a b i)).getD (off + i) 0 = ((dg b i : Nat) : Int) := by
  rw [win_get (by rw [mix_length (by omega)]; exact h) (by rw [mix_length (by omega)]; exact hi), mix_get hi]
theorem wmix_set {a b i : Nat} (h : off + N ≤ zs.length) (hi : i < N) : (o_win zs off (o_mix N a b i)).set (off + i) ((dg a i : Nat) : Int) = o_win zs off (o_mix N a b (i + 1)) := by
  rw [win_set (by rw [mix_length (by omega)]; exact h) (by rw [mix_length (by omega)]; exact hi), mix_set hi a rfl rfl]
theorem wmix_zero {a : Nat} (h : off + N ≤ zs.length) (hw : Words zs) : o_win zs off (o_mix N a (o_u zs off N) 0) = zs := by
  have h1 := part_length h
  have h2 := mix_start (part_words (off := off) (len := N) hw) a
  rw [h1] at h2
  rw [show o_u zs off N = nv (o_part zs off N) from rfl, h2, win_self h]
theorem u_win (h : off + N ≤ zs.length) (X : Nat) : o_u (o_win zs off (dgs N X)) off N = X % B ^ N := by
  have := win_part (zs := zs) (W := dgs N X) (off := off) (by rw [dgs_length]; exact h)
  rw [dgs_length] at this
  rw [o_u, this, nv_dgs]
theorem win_words {W : List Int} (hw : Words zs) (hW : Words W) : Words (o_win zs off W) := ((hw.take off).append hW).append fun x hx => hw x (List.mem_of_mem_drop hx)
theorem wdgs_len {X : Nat} (h : off + N ≤ zs.length) : (o_win zs off (dgs N X)).length = zs.length := win_length (by rw [dgs_length]; exact h)
theorem u_lt (h : off + N ≤ zs.length) (hw : Words zs) : o_u zs off N < B ^ N := by
  have := nv_lt (part_words (off := off) (len := N) hw)
  rwa [part_length h] at this
theorem u_get {j : Nat} (hw : Words zs) (hj : j < N) : zs.getD (off + j) 0 = ((dg (o_u zs off N) j : Nat) : Int) := by
  rw [← part_get hj, nv_getD (part_words hw)]; rfl
end

theorem cm_bound {q v i : Nat} (hq : q < B) : o_cm q v i + q * dg v i < B * B := by
  have h1 := cm_le q v i
  have h2 : q * dg v i ≤ q * (B - 1) := Nat.mul_le_mul_left _ (by have := dg_lt v i; omega)
  have h3 : q * (B - 1) + q = q * B := by
    obtain ⟨k, hk⟩ : ∃ k, B = k + 1 := ⟨B - 1, rfl⟩
    rw [hk, Nat.add_sub_cancel, Nat.mul_add, Nat.mul_one]
  have h4 : q * B < B * B := Nat.mul_lt_mul_of_pos_right hq (by decide)
  omega
theorem cm_wrap {q v i : Nat} (hq : q < B) : IntKind.wrap IntKind.u64 (((o_cm q v i : Nat) : Int) + IntKind.wrap IntKind.u64 ((q : Int) * IntKind.wrap IntKind.u64 ((dg v i : Nat) : Int))) = ((o_cm q v i + q * dg v i : Nat) : Int) := by
  have h1 := cm_bound (v := v) (i := i) hq
  have h2 := dg_lt v i
  simp only [w64]
  generalize dg v i = x at *
  generalize o_cm q v i = c at *
  have e : (q : Int) * x = ((q * x : Nat) : Int) := by push_cast; rfl
  unfold B at *
  rw [show (x : Int) % 18446744073709551616 = x by omega, e]
  generalize q * x = y at *
  omega
theorem cm_wrap2 {q v i : Nat} (hq : q < B) : IntKind.wrap IntKind.u64 (IntKind.wrap IntKind.u64 ((q : Int) * ((dg v i : Nat) : Int)) + ((o_cm q v i : Nat) : Int)) = ((o_cm q v i + q * dg v i : Nat) : Int) := by
  have h1 := cm_bound (v := v) (i := i) hq
  simp only [w64]
  generalize dg v i = x at *
  generalize o_cm q v i = c at *
  have e : (q : Int) * x = ((q * x : Nat) : Int) := by push_cast; rfl
  unfold B at *
  rw [e]
  generalize q * x = y at *
  omega
theorem cm_hi (q v i : Nat) : ((o_cm q v i + q * dg v i : Nat) : Int) / 4294967296 = ((o_cm q v (i + 1) : Nat) : Int) := by
  rw [← (cm_step q v i).1, Nat.add_comm]; unfold B; omega
theorem cm_lo (q v i : Nat) : ((o_cm q v i + q * dg v i : Nat) : Int) % 4294967296 = ((dg (q * v) i : Nat) : Int) := by
  rw [← (cm_step q v i).2, Nat.add_comm]; unfold B; omega

end Go.Proofs.YtkfdnpbpebmhaaaGreatDoor.Num
namespace Go.Proofs.YtkfdnpbpebmhaaaGreatDoor.Spec
open Go Go.RowKit Sx Num

theorem fdiv32 (x : Int) : Int.fdiv x ((2 : Int) ^ min (Int.toNat 32) (IntKind.bits IntKind.u64)) = x / 4294967296 := by
  rw [show ((2 : Int) ^ min (Int.toNat 32) (IntKind.bits IntKind.u64)) = 4294967296 from by decide, Int.fdiv_eq_ediv_of_nonneg _ (by decide)]
abbrev W6 : Type := TypeId × List Int × Nat × Nat × List Int × Nat × Nat

/-! the estimate's loop -/
def V94a (x : W6) : Prop := x.2.2.1 + (x.2.2.2.2.1.length + 1) ≤ x.2.1.length ∧ Words x.2.1 ∧ Words x.2.2.2.2.1 ∧ 2 ≤ x.2.2.2.2.1.length ∧ x.2.2.2.2.1.length < 137438953472 ∧ x.2.2.2.2.2.1 < B ∧ x.2.2.2.2.2.2 < B + B
theorem sub94a {st : St} {e : Ex} {s : St} {obs : List Prop} (h : F94a st = some (e, s, obs)) (hob : AllP obs) : ∃ x : W6, V94a x ∧ SubS st (I94a x.1 x.2.1 x.2.2.1 x.2.2.2.1 x.2.2.2.2.1 x.2.2.2.2.2.1 x.2.2.2.2.2.2) ∧ e = .exit 0 ∧ s = J94a x.1 x.2.1 x.2.2.1 x.2.2.2.1 x.2.2.2.2.1 x.2.2.2.2.2.1 x.2.2.2.2.2.2 := by
  unfold F94a at h
  split at h
  · rename_i off len cap ys n q r ty zs h1 h2 h3 h4 h5 h6
    simp only [Option.some.injEq, Prod.mk.injEq] at h
    obtain ⟨rfl, rfl, rfl⟩ := h
    obtain ⟨rfl, rfl, ⟨hq0, hq⟩, ⟨hr0, hr⟩, hoff, hw, hw', h2l, hl, _⟩ := hob
    obtain ⟨q, rfl⟩ := Int.eq_ofNat_of_zero_le hq0
    obtain ⟨r, rfl⟩ := Int.eq_ofNat_of_zero_le hr0
    refine ⟨(ty, zs, off, cap, ys, q, r), ⟨hoff, hw, hw', h2l, hl, by show q < B; unfold B; omega, by show r < B + B; unfold B; omega⟩, ⟨?_, ?_, fun _ => rfl⟩, rfl, rfl⟩
    · intro p hp
      simp only [I94a, List.mem_cons, List.not_mem_nil, or_false] at hp
      rcases hp with rfl | rfl | rfl | rfl | rfl <;> exact ⟨by assumption, rfl⟩
    · intro p hp
      simp only [I94a, List.mem_cons, List.not_mem_nil, or_false] at hp
      subst hp
      exact ⟨by assumption, rfl⟩
  · cases h
theorem lo94a (L : Loops) (hL : L 7 = some F94a) : LoopOk Tryz.prog Tryz.f94.ntmps L (loopC Tryz.f94 0) := by
  refine loop_ok (k := 7) (f := F94a) (α := W6) (by kernel_rfl) hL (fun x => I94a x.1 x.2.1 x.2.2.1 x.2.2.2.1 x.2.2.2.2.1 x.2.2.2.2.2.1 x.2.2.2.2.2.2) (fun x => J94a x.1 x.2.1 x.2.2.1 x.2.2.2.1 x.2.2.2.2.1 x.2.2.2.2.2.1 x.2.2.2.2.2.2) V94a (fun x => x.2.2.2.2.2.1) (.exit 0) (by simp) (fun st e s obs h hob => sub94a h hob) ?_
  rintro ⟨ty, zs, off, cap, ys, q, r⟩ ⟨hoff, hw, hw', h2, hl, hq, hr⟩
  simp only at hoff hw hw' h2 hl hq hr ⊢
  have hno : ∀ d ∈ loopsOf (loopC Tryz.f94 0), LoopOk Tryz.prog Tryz.f94.ntmps L0 d := by rw [show loopsOf (loopC Tryz.f94 0) = [] by kernel_rfl]; intro d hd; cases hd
  have w1 : IntKind.wrap IntKind.i64 ((ys.length : Int) - 1) = ((ys.length - 1 : Nat) : Int) := by rw [wi64 _ (by omega) (by omega)]; omega
  have w2 : IntKind.wrap IntKind.i64 ((ys.length : Int) - 2) = ((ys.length - 2 : Nat) : Int) := by rw [wi64 _ (by omega) (by omega)]; omega
  have g1 : ys.getD (ys.length - 1) 0 = ((dg (nv ys) (ys.length - 1) : Nat) : Int) := nv_getD hw' _
  have g2 : ys.getD (ys.length - 2) 0 = ((dg (nv ys) (ys.length - 2) : Nat) : Int) := nv_getD hw' _
  have g3 : zs.getD (off + (ys.length - 2)) 0 = ((dg (o_u zs off (ys.length + 1)) (ys.length - 2) : Nat) : Int) := u_get hw (by omega)
  have b1 := dg_lt (nv ys) (ys.length - 1)
  have b2 := dg_lt (nv ys) (ys.length - 2)
  have b3 := dg_lt (o_u zs off (ys.length + 1)) (ys.length - 2)
  have hm : IntKind.wrap IntKind.u64 ((q : Int) * IntKind.wrap IntKind.u64 ((dg (nv ys) (ys.length - 2) : Nat) : Int)) = ((q * dg (nv ys) (ys.length - 2) : Nat) : Int) := by
    have hb : q * dg (nv ys) (ys.length - 2) < B * B := Nat.mul_lt_mul_of_lt_of_le hq (Nat.le_of_lt b2) (by decide)
    simp only [w64]
    generalize dg (nv ys) (ys.length - 2) = x at *
    have e : (q : Int) * x = ((q * x : Nat) : Int) := by push_cast; rfl
    unfold B at *
    rw [show (x : Int) % 18446744073709551616 = x by omega, e]
    generalize q * x = y at *
    omega
  by_cases hrB : r < B
  · have hT := or64 r (dg (o_u zs off (ys.length + 1)) (ys.length - 2)) (by unfold B at hrB; omega) (by unfold B at b3; omega)
    have w32r : IntKind.wrap IntKind.u64 (r : Int) = (r : Int) := by rw [w64]; unfold B at hrB; omega
    have hT' : IntKind.wrap IntKind.u64 ((BitVec.ofInt (IntKind.bits IntKind.u64) (IntKind.wrap IntKind.u64 ((r : Int) * (2 : Int) ^ min (Int.toNat 32) (IntKind.bits IntKind.u64))) ||| BitVec.ofInt (IntKind.bits IntKind.u64) (IntKind.wrap IntKind.u64 ((dg (o_u zs off (ys.length + 1)) (ys.length - 2) : Nat) : Int))).toNat : Int) = ((r * 4294967296 + dg (o_u zs off (ys.length + 1)) (ys.length - 2) : Nat) : Int) := by rw [← hT, w32r]
    have hrI : (r : Int) ≤ 4294967295 := by unfold B at hrB; omega
    by_cases hlt : r * B + dg (o_u zs off (ys.length + 1)) (ys.length - 2) < q * dg (nv ys) (ys.length - 2)
    · have hqp : 0 < q := by
        rcases Nat.eq_zero_or_pos q with e | e
        · subst e; omega
        · exact e
      obtain ⟨p, rfl⟩ : ∃ p, q = p + 1 := ⟨q - 1, by omega⟩
      have hI : ((r * 4294967296 + dg (o_u zs off (ys.length + 1)) (ys.length - 2) : Nat) : Int) < (((p + 1) * dg (nv ys) (ys.length - 2) : Nat) : Int) := by exact_mod_cast hlt
      have wq : IntKind.wrap IntKind.u64 (((p + 1 : Nat) : Int) - 1) = (p : Int) := by rw [w64]; unfold B at hq; omega
      have wr : IntKind.wrap IntKind.u64 ((r : Int) + IntKind.wrap IntKind.u64 ((dg (nv ys) (ys.length - 1) : Nat) : Int)) = ((r + dg (nv ys) (ys.length - 1) : Nat) : Int) := by
        simp only [w64]; unfold B at *; omega
      refine (codeV_sound hmix E7ok.hS hno (loop94aa ty zs off cap ys (p + 1) r) ?_).mono ?_
      · simp only [AllP, w1, w2, Int.toNat_natCast, g2, g3, hm, hT', decide_eq_true hrI, decide_eq_true hI]
        simp
        omega
      · rintro e s ⟨rfl, hs⟩
        simp only [w1, Int.toNat_natCast, g1, wr, wq] at hs
        refine .inl ⟨rfl, (ty, zs, off, cap, ys, p, r + dg (nv ys) (ys.length - 1)), ⟨hoff, hw, hw', h2, hl, by show p < B; omega, by show r + dg (nv ys) (ys.length - 1) < B + B; omega⟩, by simp only; omega, hs, ?_⟩
        have e1 : o_red2 (o_u zs off (ys.length + 1)) (nv ys) ys.length (p + 1) r = o_red2 (o_u zs off (ys.length + 1)) (nv ys) ys.length p (r + dg (nv ys) (ys.length - 1)) := by
          conv => lhs; rw [o_red2, o_red, if_pos ⟨hrB, hlt⟩]
          rfl
        simp only [J94a, e1]
    · have hI : ¬ ((r * 4294967296 + dg (o_u zs off (ys.length + 1)) (ys.length - 2) : Nat) : Int) < ((q * dg (nv ys) (ys.length - 2) : Nat) : Int) := by
        intro h; apply hlt; exact_mod_cast h
      refine (codeV_sound hmix E7ok.hS hno (loop94ab ty zs off cap ys q r) ?_).mono ?_
      · simp only [AllP, w2, Int.toNat_natCast, g2, g3, hm, hT', decide_eq_true hrI, decide_eq_false hI]
        simp
        omega
      · rintro e s ⟨rfl, hs⟩
        refine .inr ⟨rfl, ?_⟩
        have e1 : o_red2 (o_u zs off (ys.length + 1)) (nv ys) ys.length q r = q := by
          cases q with
          | zero => rfl
          | succ q => rw [o_red2, o_red, if_neg (fun h => hlt h.2)]
        simp only [J94a, e1]
        exact hs
  · have hI : ¬ (r : Int) ≤ 4294967295 := by unfold B at hrB; omega
    refine (codeV_sound hmix E7ok.hS hno (loop94ac ty zs off cap ys q r) ?_).mono ?_
    · simp only [AllP, decide_eq_false hI]
      simp
    · rintro e s ⟨rfl, hs⟩
      refine .inr ⟨rfl, ?_⟩
      have e1 : o_red2 (o_u zs off (ys.length + 1)) (nv ys) ys.length q r = q := by
        cases q with
        | zero => rfl
        | succ q => rw [o_red2, o_red, if_neg (fun h => hrB h.1)]
      simp only [J94a, e1]
      exact hs

/-! the loop that subtracts -/
def V94b (x : W6) : Prop := x.2.2.1 + (x.2.2.2.2.1.length + 1) ≤ x.2.1.length ∧ Words x.2.1 ∧ Words x.2.2.2.2.1 ∧ x.2.2.2.2.1.length < 137438953472 ∧ x.2.2.2.2.2.1 < B ∧ x.2.2.2.2.2.2 ≤ x.2.2.2.2.1.length + 1
theorem sub94b {st : St} {e : Ex} {s : St} {obs : List Prop} (h : F94b st = some (e, s, obs)) (hob : AllP obs) : ∃ x : W6, V94b x ∧ SubS st (I94b x.1 x.2.1 x.2.2.1 x.2.2.2.1 x.2.2.2.2.1 x.2.2.2.2.2.1 x.2.2.2.2.2.2) ∧ e = .exit 2 ∧ s = I94b x.1 x.2.1 x.2.2.1 x.2.2.2.1 x.2.2.2.2.1 x.2.2.2.2.2.1 (x.2.2.2.2.1.length + 1) := by
  unfold F94b at h
  split at h
  · rename_i off len cap ys q c b n i ty zs h1 h2 h3 h4 h5 h6 h7 h8
    simp only [Option.some.injEq, Prod.mk.injEq] at h
    obtain ⟨rfl, rfl, rfl⟩ := h
    obtain ⟨rfl, ⟨hq0, hq⟩, rfl, rfl, rfl, rfl, hoff, hw, hw', hl, _⟩ := hob
    obtain ⟨q, rfl⟩ := Int.eq_ofNat_of_zero_le hq0
    refine ⟨(ty, zs, off, cap, ys, q, 0), ⟨hoff, hw, hw', hl, by show q < B; unfold B; omega, Nat.zero_le _⟩, ⟨?_, ?_, fun _ => rfl⟩, rfl, rfl⟩
    · intro p hp
      simp only [I94b, List.mem_cons, List.not_mem_nil, or_false, cm_zero, bw_zero] at hp
      rcases hp with rfl | rfl | rfl | rfl | rfl | rfl | rfl <;> exact ⟨by assumption, rfl⟩
    · intro p hp
      simp only [I94b, List.mem_cons, List.not_mem_nil, or_false, wmix_zero hoff hw] at hp
      subst hp
      exact ⟨by assumption, rfl⟩
  · cases h
theorem lo94b (L : Loops) (hL : L 13 = some F94b) : LoopOk Tryz.prog Tryz.f94.ntmps L (loopC Tryz.f94 1) := by
  refine loop_ok (k := 13) (f := F94b) (α := W6) (by kernel_rfl) hL (fun x => I94b x.1 x.2.1 x.2.2.1 x.2.2.2.1 x.2.2.2.2.1 x.2.2.2.2.2.1 x.2.2.2.2.2.2) (fun x => I94b x.1 x.2.1 x.2.2.1 x.2.2.2.1 x.2.2.2.2.1 x.2.2.2.2.2.1 (x.2.2.2.2.1.length + 1)) V94b (fun x => x.2.2.2.2.1.length + 1 - x.2.2.2.2.2.2) (.exit 2) (by simp) (fun st e s obs h hob => sub94b h hob) ?_
  rintro ⟨ty, zs, off, cap, ys, q, i⟩ ⟨hoff, hw, hw', hl, hq, hi⟩
  simp only at hoff hw hw' hl hq hi ⊢
  have hno : ∀ d ∈ loopsOf (loopC Tryz.f94 1), LoopOk Tryz.prog Tryz.f94.ntmps L0 d := by rw [show loopsOf (loopC Tryz.f94 1) = [] by kernel_rfl]; intro d hd; cases hd
  by_cases hlt : i < ys.length + 1
  · have w3 : IntKind.wrap IntKind.i64 ((i : Int) + 1) = ((i + 1 : Nat) : Int) := by rw [wi64 _ (by omega) (by omega)]; omega
    obtain ⟨U, hU⟩ : ∃ U, U = o_u zs off (ys.length + 1) := ⟨_, rfl⟩
    obtain ⟨V, hV⟩ : ∃ V, V = nv ys := ⟨_, rfl⟩
    have hqV : q * V < B ^ (ys.length + 1) := mul_lt_pow hq (by rw [hV]; exact nv_lt hw')
    have hwl : (o_win zs off (o_mix (ys.length + 1) (U + B ^ (ys.length + 1) - q * V) U i)).length = zs.length := wmix_len hoff hi
    have hget : (o_win zs off (o_mix (ys.length + 1) (U + B ^ (ys.length + 1) - q * V) U i)).getD (off + i) 0 = ((dg U i : Nat) : Int) := wmix_get hoff hlt
    have hgy : ys.getD i 0 = ((dg V i : Nat) : Int) := by rw [hV]; exact nv_getD hw' i
    have hT := cm_wrap (v := V) (i := i) hq
    have hlo : IntKind.wrap IntKind.u32 ((o_cm q V i + q * dg V i : Nat) : Int) = ((dg (q * V) i : Nat) : Int) := by rw [w32, cm_lo]
    have hhi : Int.fdiv ((o_cm q V i + q * dg V i : Nat) : Int) ((2 : Int) ^ min (Int.toNat 32) (IntKind.bits IntKind.u64)) = ((o_cm q V (i + 1) : Nat) : Int) := by rw [fdiv32, cm_hi]
    have hdig := sub_dig U (q * V) (ys.length + 1) i hlt (by omega)
    have hbw : (if ((dg U i : Nat) : Int) < ((dg (q * V) i : Nat) : Int) + ((o_bw U (q * V) i : Nat) : Int) then (1 : Int) else 0) = ((o_bw U (q * V) (i + 1) : Nat) : Int) := by
      rw [bw_succ]
      by_cases h : dg U i < dg (q * V) i + o_bw U (q * V) i
      · rw [if_pos h, if_pos (by omega)]; rfl
      · rw [if_neg h, if_neg (by omega)]; rfl
    have b1 := dg_lt U i
    have b2 := dg_lt (q * V) i
    have b3 := bw_le U (q * V) i
    refine (codeV_sound hmix E7ok.hS hno (loop94ba ty zs off cap ys q i) ?_).mono ?_
    · simp only [AllP, Int.toNat_natCast]
      rw [← hU, ← hV]
      simp only [hget, hgy, hT, hlo, hwl]
      unfold B at b1 b2
      simp
      omega
    · rintro e s ⟨rfl, hs⟩
      refine .inl ⟨rfl, (ty, zs, off, cap, ys, q, i + 1), ⟨hoff, hw, hw', hl, hq, by show i + 1 ≤ ys.length + 1; omega⟩, by simp only; omega, ?_, rfl⟩
      simp only [Int.toNat_natCast, w3] at hs
      rw [← hU, ← hV] at hs
      simp only [hget, hgy, hT, hlo, hhi, hbw] at hs
      rw [← hdig, wmix_set hoff hlt] at hs
      simp only [I94b]
      rw [← hU, ← hV]
      exact hs
  · have : i = ys.length + 1 := by omega
    subst this
    refine (codeV_sound hmix E7ok.hS hno (loop94bb ty zs off cap ys q _) ?_).mono ?_
    · simp [AllP]
    · rintro e s ⟨rfl, hs⟩
      exact .inr ⟨rfl, hs⟩

/-! the loop that adds back -/
abbrev W5 : Type := TypeId × List Int × Nat × Nat × List Int × Int × Int × Nat
def V94d (x : W5) : Prop := x.2.2.1 + (x.2.2.2.2.1.length + 1) ≤ x.2.1.length ∧ Words x.2.1 ∧ Words x.2.2.2.2.1 ∧ x.2.2.2.2.1.length < 137438953472 ∧ x.2.2.2.2.2.2.2 ≤ x.2.2.2.2.1.length + 1
theorem sub94d {st : St} {e : Ex} {s : St} {obs : List Prop} (h : F94d st = some (e, s, obs)) (hob : AllP obs) : ∃ x : W5, V94d x ∧ SubS st (I94d x.1 x.2.1 x.2.2.1 x.2.2.2.1 x.2.2.2.2.1 x.2.2.2.2.2.1 x.2.2.2.2.2.2.1 x.2.2.2.2.2.2.2) ∧ e = .exit 6 ∧ s = I94d x.1 x.2.1 x.2.2.1 x.2.2.2.1 x.2.2.2.2.1 x.2.2.2.2.2.1 x.2.2.2.2.2.2.1 (x.2.2.2.2.1.length + 1) := by
  unfold F94d at h
  split at h
  · rename_i off len cap ys q c b n i ty zs h1 h2 h3 h4 h5 h6 h7 h8
    simp only [Option.some.injEq, Prod.mk.injEq] at h
    obtain ⟨rfl, rfl, rfl⟩ := h
    obtain ⟨rfl, rfl, rfl, rfl, hoff, hw, hw', hl, _⟩ := hob
    refine ⟨(ty, zs, off, cap, ys, q, c, 0), ⟨hoff, hw, hw', hl, Nat.zero_le _⟩, ⟨?_, ?_, fun _ => rfl⟩, rfl, rfl⟩
    · intro p hp
      simp only [I94d, List.mem_cons, List.not_mem_nil, or_false, cy_zero] at hp
      rcases hp with rfl | rfl | rfl | rfl | rfl | rfl | rfl <;> exact ⟨by assumption, rfl⟩
    · intro p hp
      simp only [I94d, List.mem_cons, List.not_mem_nil, or_false, wmix_zero hoff hw] at hp
      subst hp
      exact ⟨by assumption, rfl⟩
  · cases h
theorem lo94d (L : Loops) (hL : L 23 = some F94d) : LoopOk Tryz.prog Tryz.f94.ntmps L (loopC Tryz.f94 3) := by
  refine loop_ok (k := 23) (f := F94d) (α := W5) (by kernel_rfl) hL (fun x => I94d x.1 x.2.1 x.2.2.1 x.2.2.2.1 x.2.2.2.2.1 x.2.2.2.2.2.1 x.2.2.2.2.2.2.1 x.2.2.2.2.2.2.2) (fun x => I94d x.1 x.2.1 x.2.2.1 x.2.2.2.1 x.2.2.2.2.1 x.2.2.2.2.2.1 x.2.2.2.2.2.2.1 (x.2.2.2.2.1.length + 1)) V94d (fun x => x.2.2.2.2.1.length + 1 - x.2.2.2.2.2.2.2) (.exit 6) (by simp) (fun st e s obs h hob => sub94d h hob) ?_
  rintro ⟨ty, zs, off, cap, ys, q, c, i⟩ ⟨hoff, hw, hw', hl, hi⟩
  simp only at hoff hw hw' hl hi ⊢
  have hno : ∀ d ∈ loopsOf (loopC Tryz.f94 3), LoopOk Tryz.prog Tryz.f94.ntmps L0 d := by rw [show loopsOf (loopC Tryz.f94 3) = [] by kernel_rfl]; intro d hd; cases hd
  by_cases hlt : i < ys.length + 1
  · have w3 : IntKind.wrap IntKind.i64 ((i : Int) + 1) = ((i + 1 : Nat) : Int) := by rw [wi64 _ (by omega) (by omega)]; omega
    obtain ⟨U, hU⟩ : ∃ U, U = o_u zs off (ys.length + 1) := ⟨_, rfl⟩
    obtain ⟨V, hV⟩ : ∃ V, V = nv ys := ⟨_, rfl⟩
    have hwl : (o_win zs off (o_mix (ys.length + 1) (U + V) U i)).length = zs.length := wmix_len hoff hi
    have hget : (o_win zs off (o_mix (ys.length + 1) (U + V) U i)).getD (off + i) 0 = ((dg U i : Nat) : Int) := wmix_get hoff hlt
    have hgy : ys.getD i 0 = ((dg V i : Nat) : Int) := by rw [hV]; exact nv_getD hw' i
    have hdig : (((dg U i : Nat) : Int) + ((dg V i : Nat) : Int) + ((o_cy U V i : Nat) : Int)) % 4294967296 = ((dg (U + V) i : Nat) : Int) := by rw [dg_add]; unfold B; omega
    have hcy : (((dg U i : Nat) : Int) + ((dg V i : Nat) : Int) + ((o_cy U V i : Nat) : Int)) / 4294967296 = ((o_cy U V (i + 1) : Nat) : Int) := by rw [cy_succ]; unfold B; omega
    have b1 := dg_lt U i
    have b2 := dg_lt V i
    have b3 := cy_le U V i
    refine (codeV_sound hmix E7ok.hS hno (loop94da ty zs off cap ys q c i) ?_).mono ?_
    · simp only [AllP, Int.toNat_natCast]
      rw [← hU, ← hV]
      simp only [hget, hgy, hwl]
      unfold B at b1 b2
      simp
      omega
    · rintro e s ⟨rfl, hs⟩
      refine .inl ⟨rfl, (ty, zs, off, cap, ys, q, c, i + 1), ⟨hoff, hw, hw', hl, by show i + 1 ≤ ys.length + 1; omega⟩, by simp only; omega, ?_, rfl⟩
      simp only [Int.toNat_natCast, w3] at hs
      rw [← hU, ← hV] at hs
      simp only [hget, hgy, hdig, hcy] at hs
      rw [wmix_set hoff hlt] at hs
      simp only [I94d]
      rw [← hU, ← hV]
      exact hs
  · have : i = ys.length + 1 := by omega
    subst this
    refine (codeV_sound hmix E7ok.hS hno (loop94db ty zs off cap ys q c _) ?_).mono ?_
    · simp [AllP]
    · rintro e s ⟨rfl, hs⟩
      exact .inr ⟨rfl, hs⟩

/-! the loop around it -/
abbrev W4 : Type := TypeId × Nat × Nat × List Int × Nat
def V94c (zs : List Int) (x : W4) : Prop := x.2.1 + (x.2.2.2.1.length + 1) ≤ zs.length ∧ Words zs ∧ Words x.2.2.2.1 ∧ x.2.2.2.1.length < 137438953472 ∧ 0 < nv x.2.2.2.1 ∧ x.2.2.2.2 < B ∧ o_u zs x.2.1 (x.2.2.2.1.length + 1) / nv x.2.2.2.1 ≤ x.2.2.2.2
theorem sub94c {zs : List Int} {st : St} {e : Ex} {s : St} {obs : List Prop} (h : F94c zs st = some (e, s, obs)) (hob : AllP obs) : ∃ x : W4, V94c zs x ∧ SubS st (I94c x.1 zs x.2.1 x.2.2.1 x.2.2.2.1 x.2.2.2.2) ∧ e = .exit 4 ∧ s = J94c x.1 zs x.2.1 x.2.2.2.1 := by
  unfold F94c at h
  split at h
  · rename_i off len cap ys q b ty zs' h1 h2 h3 h4 h5
    simp only [Option.some.injEq, Prod.mk.injEq] at h
    obtain ⟨rfl, rfl, rfl⟩ := h
    obtain ⟨rfl, ⟨hq0, hq⟩, hle, rfl, rfl, hoff, hw, hw', hp, hl, _⟩ := hob
    obtain ⟨q, rfl⟩ := Int.eq_ofNat_of_zero_le hq0
    simp only [Int.toNat_natCast] at h4 h5
    refine ⟨(ty, off, cap, ys, q), ⟨hoff, hw, hw', hl, hp, by show q < B; unfold B; omega, by exact_mod_cast hle⟩, ⟨?_, ?_, fun _ => rfl⟩, rfl, rfl⟩
    · intro p hp
      simp only [I94c, List.mem_cons, List.not_mem_nil, or_false] at hp
      rcases hp with rfl | rfl | rfl | rfl <;> exact ⟨by assumption, rfl⟩
    · intro p hp
      simp only [I94c, List.mem_cons, List.not_mem_nil, or_false] at hp
      subst hp
      exact ⟨by assumption, rfl⟩
  · cases h
theorem back_step {u v q N : Nat} (_hu : u < B ^ N) (hlt : u < q * v) (hqv : q * v < B ^ N) (hv : v < B ^ N) (hq : 0 < q) :
    (u + B ^ N - q * v) % B ^ N = u + B ^ N - q * v ∧ u + B ^ N - q * v + v = u + B ^ N - (q - 1) * v ∧ ((1 : Int) - ((o_cy (u + B ^ N - q * v) v N : Nat) : Int)) = (((if u < (q - 1) * v then 1 else 0 : Nat)) : Int) := by
  obtain ⟨p, rfl⟩ : ∃ p, q = p + 1 := ⟨q - 1, by omega⟩
  have e : (p + 1) * v = p * v + v := by rw [Nat.add_mul, Nat.one_mul]
  rw [e] at hlt hqv ⊢
  rw [Nat.add_sub_cancel]
  have h1 : u + B ^ N - (p * v + v) < B ^ N := by omega
  refine ⟨Nat.mod_eq_of_lt h1, by omega, ?_⟩
  rw [cy_end h1 hv]
  by_cases h : u < p * v
  · rw [if_pos h, if_neg (by omega)]; rfl
  · rw [if_neg h, if_pos (by omega)]; rfl
theorem quot_exact {u v q : Nat} (hv : 0 < v) (hle : u / v ≤ q) (hge : q * v ≤ u) : q = u / v ∧ u - q * v = u % v := by
  have h1 : q ≤ u / v := by rw [Nat.le_div_iff_mul_le hv]; exact hge
  have h2 : q = u / v := Nat.le_antisymm h1 hle
  refine ⟨h2, ?_⟩
  rw [h2]
  have := Nat.div_add_mod u v
  rw [Nat.mul_comm] at this
  omega
theorem lo94c (zs : List Int) (L : Loops) (hL : L 19 = some (F94c zs)) : LoopOk Tryz.prog Tryz.f94.ntmps L (loopC Tryz.f94 2) := by
  refine loop_ok (k := 19) (f := F94c zs) (α := W4) (by kernel_rfl) hL (fun x => I94c x.1 zs x.2.1 x.2.2.1 x.2.2.2.1 x.2.2.2.2) (fun x => J94c x.1 zs x.2.1 x.2.2.2.1) (V94c zs) (fun x => x.2.2.2.2) (.exit 4) (by simp) (fun st e s obs h hob => sub94c h hob) ?_
  rintro ⟨ty, off, cap, ys, q⟩ ⟨hoff, hw, hw', hl, hp, hq, hle⟩
  simp only at hoff hw hw' hl hp hq hle ⊢
  have hno : ∀ d ∈ loopsOf (loopC Tryz.f94 2), LoopOk Tryz.prog Tryz.f94.ntmps L94d d := by
    rw [show loopsOf (loopC Tryz.f94 2) = [loopC Tryz.f94 3] by kernel_rfl]
    intro d hd
    rw [List.mem_singleton] at hd
    subst hd
    exact lo94d L94d rfl
  obtain ⟨U, hU⟩ : ∃ U, U = o_u zs off (ys.length + 1) := ⟨_, rfl⟩
  obtain ⟨V, hV⟩ : ∃ V, V = nv ys := ⟨_, rfl⟩
  have hUl : U < B ^ (ys.length + 1) := by rw [hU]; exact u_lt hoff hw
  have hVl : V < B ^ ys.length := by rw [hV]; exact nv_lt hw'
  have hVl' : V < B ^ (ys.length + 1) := Nat.lt_of_lt_of_le hVl (Nat.pow_le_pow_right (by decide) (by omega))
  have hqV : q * V < B ^ (ys.length + 1) := mul_lt_pow hq hVl
  by_cases hlt : U < q * V
  · have hqp : 0 < q := by
      rcases Nat.eq_zero_or_pos q with e | e
      · subst e; rw [Nat.zero_mul] at hlt; omega
      · exact e
    obtain ⟨p, rfl⟩ : ∃ p, q = p + 1 := ⟨q - 1, by omega⟩
    obtain ⟨s1, s2, s3⟩ := back_step hUl hlt hqV hVl' hqp
    rw [Nat.add_sub_cancel] at s2 s3
    have hu1 : o_u (o_win zs off (dgs (ys.length + 1) (U + B ^ (ys.length + 1) - (p + 1) * V))) off (ys.length + 1) = U + B ^ (ys.length + 1) - (p + 1) * V := by rw [u_win hoff, s1]
    have wq : IntKind.wrap IntKind.u64 (((p + 1 : Nat) : Int) - 1) = (p : Int) := by rw [w64]; unfold B at hq; omega
    have hbw : IntKind.wrap IntKind.u32 (((1 : Nat) : Int) - ((o_cy (U + B ^ (ys.length + 1) - (p + 1) * V) V (ys.length + 1) : Nat) : Int)) = (((if U < p * V then 1 else 0 : Nat)) : Int) := by
      rw [show (((1 : Nat) : Int)) = 1 from rfl, s3, w32]
      split <;> rfl
    have hww : o_win (o_win zs off (dgs (ys.length + 1) (U + B ^ (ys.length + 1) - (p + 1) * V))) off (dgs (ys.length + 1) (U + B ^ (ys.length + 1) - p * V)) = o_win zs off (dgs (ys.length + 1) (U + B ^ (ys.length + 1) - p * V)) := win_win (by rw [dgs_length]; exact hoff) (by rw [dgs_length, dgs_length])
    refine (codeV_sound hmix E7ok.hS hno (loop94ca ty zs off cap ys (p + 1)) ?_).mono ?_
    · rw [← hU, ← hV]
      simp only [if_pos hlt]
      simp [AllP, wdgs_len hoff, hoff, hw', hl]
      exact win_words hw (words_dgs _ _)
    · rintro e s ⟨rfl, hs⟩
      refine .inl ⟨rfl, (ty, off, cap, ys, p), ⟨hoff, hw, hw', hl, hp, by show p < B; omega, ?_⟩, by simp only; omega, ?_, rfl⟩
      · show o_u zs off (ys.length + 1) / nv ys ≤ p
        rw [← hU, ← hV]
        have : U / V < p + 1 := by rw [Nat.div_lt_iff_lt_mul (by rw [hV]; exact hp)]; exact hlt
        omega
      · rw [← hU, ← hV] at hs
        simp only [if_pos hlt, wq] at hs
        rw [hu1, mix_full, s2, hww, hbw] at hs
        simp only [I94c]
        rw [← hU, ← hV]
        exact hs
  · refine (codeV_sound hmix E7ok.hS hno (loop94cb ty zs off cap ys q) ?_).mono ?_
    · rw [← hU, ← hV, if_neg hlt]
      simp [AllP]
    · rintro e s ⟨rfl, hs⟩
      refine .inr ⟨rfl, ?_⟩
      rw [← hU, ← hV] at hs hle
      obtain ⟨q1, q2⟩ := quot_exact (by rw [hV]; exact hp) hle (Nat.le_of_not_lt hlt)
      have e1 : dgs (ys.length + 1) (U + B ^ (ys.length + 1) - q * V) = dgs (ys.length + 1) (U % V) := by
        rw [show U + B ^ (ys.length + 1) - q * V = U % V + B ^ (ys.length + 1) by omega, dgs_top]
      rw [e1] at hs
      simp only [J94c]
      rw [← hU, ← hV, ← q1]
      exact hs

end Go.Proofs.YtkfdnpbpebmhaaaGreatDoor.Spec
namespace Go.Proofs.YtkfdnpbpebmhaaaGreatDoor.Spec
open Go Go.RowKit Sx Num

/-- The greatest multiple is taken away in place; the answer is how often. -/
def spReduce : SpM := fun k zs off len _ avs => match k, avs with
  | .u32, [.one (.row .u32 ys)] => some (.s (u32 ((o_u zs off (ys.length + 1) / nv ys : Nat))), o_win zs off (dgs (ys.length + 1) (o_u zs off (ys.length + 1) % nv ys)),
      [len = ys.length + 1, off + (ys.length + 1) ≤ zs.length, Words zs, Words ys, 2 ≤ ys.length, 0 < dg (nv ys) (ys.length - 1), o_u zs off (ys.length + 1) < nv ys * B, ys.length < 137438953472])
  | _, _ => none
theorem lo94 (zs : List Int) : ∀ c ∈ loopsF Tryz.f94, LoopOk Tryz.prog Tryz.f94.ntmps (L94 zs) c := by
  rw [show loopsF Tryz.f94 = [loopC Tryz.f94 0, loopC Tryz.f94 1, loopC Tryz.f94 2, loopC Tryz.f94 3] by kernel_rfl]
  intro c hc
  simp only [List.mem_cons, List.not_mem_nil, or_false] at hc
  rcases hc with rfl | rfl | rfl | rfl
  · exact lo94a _ rfl
  · exact lo94b _ rfl
  · exact lo94c zs _ rfl
  · exact lo94d _ rfl
theorem est_rows {zs ys : List Int} {off : Nat} (hoff : off + (ys.length + 1) ≤ zs.length) (hw : Words zs) (hw' : Words ys) (h2 : 2 ≤ ys.length) (hp : 0 < dg (nv ys) (ys.length - 1)) (hlt : o_u zs off (ys.length + 1) < nv ys * B) :
    Est (o_u zs off (ys.length + 1)) (nv ys) (ys.length - 2) (dg (o_u zs off (ys.length + 1)) ys.length * B + dg (o_u zs off (ys.length + 1)) (ys.length - 1)) (dg (nv ys) (ys.length - 1)) (dg (nv ys) (ys.length - 2)) (dg (o_u zs off (ys.length + 1)) (ys.length - 2)) := by
  obtain ⟨m, hm⟩ : ∃ m, ys.length = m + 2 := ⟨ys.length - 2, by omega⟩
  have h := est_mk (m := m) (u := o_u zs off (ys.length + 1)) (v := nv ys) (by have := u_lt hoff hw; rw [hm] at this ⊢; exact this) (by have := nv_lt hw'; rwa [hm] at this) (by rw [hm] at hp; exact hp) hlt
  rw [hm] at h ⊢
  exact h
theorem u64_lt (x : Nat) (h : x < B) : IntKind.wrap IntKind.u64 (x : Int) = x := by
  rw [w64]
  exact Int.emod_eq_of_lt (Int.natCast_nonneg _) (by unfold B at h; omega)
theorem two_cast (a b : Nat) : (a : Int) * 4294967296 + (b : Int) = ((a * B + b : Nat) : Int) := by
  rw [Int.natCast_add, Int.natCast_mul]; rfl
theorem two_div (a b c : Nat) (ha : a < c) (hb : b < B) : (a * B + b) / c < B := by
  rw [Nat.div_lt_iff_lt_mul (by omega)]
  have : (a + 1) * B ≤ c * B := Nat.mul_le_mul_right _ ha
  rw [Nat.add_mul, Nat.one_mul] at this
  rw [Nat.mul_comm B]
  omega
theorem div_nat (a b c : Nat) (hc : c < B) (ha : a < c) (hb : b < B) : IntKind.wrap IntKind.u64 (((a : Int) * 4294967296 + (b : Int)) / (c : Int)) = (((a * B + b) / c : Nat) : Int) ∧ (a * B + b) / c < B ∧ IntKind.wrap IntKind.u64 (((a : Int) * 4294967296 + (b : Int)) % (c : Int)) = (((a * B + b) % c : Nat) : Int) ∧ (a * B + b) % c < B := by
  have h1 := two_div a b c ha hb
  have h2 : (a * B + b) % c < B := Nat.lt_trans (Nat.mod_lt _ (by omega)) hc
  refine ⟨?_, h1, ?_, h2⟩
  · rw [two_cast, ← Int.natCast_ediv]; exact u64_lt _ h1
  · rw [two_cast, ← Int.natCast_emod]; exact u64_lt _ h2
/-- (no definitional step) -/
theorem tnc (n : Nat) : Int.toNat (n : Int) = n := by omega
theorem con94 : ConM Tryz.prog 94 spReduce := by
  refine conM_runL (fn := Tryz.f94) hmix E7ok.hS (by kernel_rfl) (fun _ => by kernel_rfl) ?_
  intro k zs off len cap avs r xs' ps hsp hps
  unfold spReduce at hsp
  split at hsp
  · rename_i ys
    simp only [Option.some.injEq, Prod.mk.injEq] at hsp
    obtain ⟨rfl, rfl, rfl⟩ := hsp
    obtain ⟨rfl, hoff, hw, hw', h2, hp, hlt, hl, _⟩ := hps
    refine ⟨rfl, wdgs_len hoff, fun ty => ⟨L94 zs, lo94 zs, ?_⟩⟩
    have hE := est_rows hoff hw hw' h2 hp hlt
    have hV : 0 < nv ys := hE.vpos
    have hQB := hE.quot_lt
    have hVl : nv ys < B ^ ys.length := nv_lt hw'
    have hUl : o_u zs off (ys.length + 1) < B ^ (ys.length + 1) := u_lt hoff hw
    have w1 : IntKind.wrap IntKind.i64 ((ys.length : Int) - 1) = ((ys.length - 1 : Nat) : Int) := by rw [wi64 _ (by omega) (by omega)]; omega
    have g1 : ys.getD (ys.length - 1) 0 = ((dg (nv ys) (ys.length - 1) : Nat) : Int) := nv_getD hw' _
    have g2 : zs.getD (off + ys.length) 0 = ((dg (o_u zs off (ys.length + 1)) ys.length : Nat) : Int) := u_get hw (by omega)
    have g3 : zs.getD (off + (ys.length - 1)) 0 = ((dg (o_u zs off (ys.length + 1)) (ys.length - 1) : Nat) : Int) := u_get hw (by omega)
    have b1 := dg_lt (nv ys) (ys.length - 1)
    have b2 := dg_lt (o_u zs off (ys.length + 1)) ys.length
    have b3 := dg_lt (o_u zs off (ys.length + 1)) (ys.length - 1)
    have wr : IntKind.wrap IntKind.u32 ((o_u zs off (ys.length + 1) / nv ys : Nat) : Int) = ((o_u zs off (ys.length + 1) / nv ys : Nat) : Int) := by
      rw [w32]
      generalize o_u zs off (ys.length + 1) / nv ys = Q at *
      unfold B at hQB; omega
    by_cases hc : dg (o_u zs off (ys.length + 1)) ys.length < dg (nv ys) (ys.length - 1)
    · obtain ⟨d1, d2, d3, d4⟩ := div_nat _ (dg (o_u zs off (ys.length + 1)) (ys.length - 1)) _ b1 hc b3
      obtain ⟨r1, r2⟩ := red_spec hE _ _ (by rw [Nat.mul_comm]; exact Nat.div_add_mod _ _) hE.start
      have hcI : ((dg (o_u zs off (ys.length + 1)) ys.length : Nat) : Int) < ((dg (nv ys) (ys.length - 1) : Nat) : Int) := by exact_mod_cast hc
      obtain ⟨Q, hQ⟩ : ∃ Q, Q = o_red2 (o_u zs off (ys.length + 1)) (nv ys) ys.length ((dg (o_u zs off (ys.length + 1)) ys.length * B + dg (o_u zs off (ys.length + 1)) (ys.length - 1)) / dg (nv ys) (ys.length - 1)) ((dg (o_u zs off (ys.length + 1)) ys.length * B + dg (o_u zs off (ys.length + 1)) (ys.length - 1)) % dg (nv ys) (ys.length - 1)) := ⟨_, rfl⟩
      have hQ1 : o_u zs off (ys.length + 1) / nv ys ≤ Q := by rw [hQ]; exact r1
      have hQ2 : Q < B := by rw [hQ]; exact Nat.lt_of_le_of_lt r2 d2
      have hbw := bw_end hUl (mul_lt_pow hQ2 hVl)
      refine ⟨_, _, _, _, _, run94a ty zs off cap ys, ?_, rfl, ?_⟩
      · rw [wr]; rfl
      · simp only [AllP, w1, tnc, g1, g2, g3, d1, d3, ← hQ, hbw, mix_full]
        generalize (dg (o_u zs off (ys.length + 1)) ys.length * B + dg (o_u zs off (ys.length + 1)) (ys.length - 1)) / dg (nv ys) (ys.length - 1) = q0 at *
        generalize (dg (o_u zs off (ys.length + 1)) ys.length * B + dg (o_u zs off (ys.length + 1)) (ys.length - 1)) % dg (nv ys) (ys.length - 1) = r0 at *
        generalize o_u zs off (ys.length + 1) / nv ys = Q' at *
        unfold B at d2 d4 b1 b2 b3 hQ2
        refine ⟨trivial, ⟨by omega, by omega⟩, by omega, ⟨by omega, by omega⟩, decide_eq_true hcI, ⟨by omega, by omega⟩, by omega, ⟨by omega, by omega⟩, by omega, ⟨by omega, by omega⟩, ⟨by omega, by omega⟩, ⟨by omega, by omega⟩, ⟨by omega, by omega⟩, hcI, trivial, trivial, ⟨by omega, by omega⟩, ⟨by omega, by omega⟩, hoff, hw, hw', h2, hl, trivial, ⟨by omega, by omega⟩, trivial, trivial, by omega, trivial, hoff, hw, hw', hl, trivial, ⟨by omega, by omega⟩, by omega, trivial, trivial, hoff, hw, hw', hV, hl, trivial⟩
    · have hcI : ¬ ((dg (o_u zs off (ys.length + 1)) ys.length : Nat) : Int) < ((dg (nv ys) (ys.length - 1) : Nat) : Int) := by
        intro h; apply hc; exact_mod_cast h
      have hbw := bw_end hUl (mul_lt_pow (d := 4294967295) (by decide) hVl)
      have h4 : Int.toNat 4294967295 = 4294967295 := rfl
      refine ⟨_, _, _, _, _, run94b ty zs off cap ys, ?_, rfl, ?_⟩
      · rw [wr]; rfl
      · simp only [AllP, w1, tnc, g1, g2, h4, hbw, mix_full]
        generalize o_u zs off (ys.length + 1) / nv ys = Q' at *
        unfold B at hQB
        refine ⟨trivial, ⟨by omega, by omega⟩, by omega, ⟨by omega, by omega⟩, decide_eq_false hcI, trivial, ⟨by omega, by omega⟩, trivial, trivial, by omega, trivial, hoff, hw, hw', hl, trivial, ⟨by omega, by omega⟩, by omega, trivial, trivial, hoff, hw, hw', hV, hl, trivial⟩
  · cases hsp

/-! the reference's estimate -/
def V113 (x : List Int × List Int × Nat × Nat) : Prop := x.1.length = x.2.1.length + 1 ∧ 2 ≤ x.2.1.length ∧ Words x.1 ∧ Words x.2.1 ∧ x.2.1.length < 137438953472 ∧ x.2.2.1 < 18446744073709551616 ∧ x.2.2.2 < B
theorem sub113 {st : St} {e : Ex} {s : St} {obs : List Prop} (h : F113 st = some (e, s, obs)) (hob : AllP obs) : ∃ x : List Int × List Int × Nat × Nat, V113 x ∧ SubS st (I113 x.1 x.2.1 x.2.2.1 x.2.2.2) ∧ e = .exit 0 ∧ s = ⟨[(7, .s (u64 ((o_gue2 (nv x.1) (nv x.2.1) x.2.1.length x.2.2.1 x.2.2.2 : Nat))))], []⟩ := by
  unfold F113 at h
  split at h
  · rename_i us ys n q r hz h1 h2 h3 h4 h5
    simp only [Option.some.injEq, Prod.mk.injEq] at h
    obtain ⟨rfl, rfl, rfl⟩ := h
    obtain ⟨rfl, ⟨hq0, hq⟩, ⟨hr0, hr⟩, hlen, h2l, hw, hw', hl, _⟩ := hob
    obtain ⟨q, rfl⟩ := Int.eq_ofNat_of_zero_le hq0
    obtain ⟨r, rfl⟩ := Int.eq_ofNat_of_zero_le hr0
    refine ⟨(us, ys, q, r), ⟨hlen, h2l, hw, hw', hl, by show q < _; omega, by show r < B; unfold B; omega⟩, ⟨?_, ?_, ?_⟩, rfl, rfl⟩
    · intro p hp
      simp only [I113, List.mem_cons, List.not_mem_nil, or_false] at hp
      rcases hp with rfl | rfl | rfl | rfl | rfl <;> exact ⟨by assumption, rfl⟩
    · intro p hp; cases hp
    · rw [hz]; intro h; cases h
  · cases h
theorem lo113 : ∀ c ∈ loopsF Tryz.f113, LoopOk Tryz.prog Tryz.f113.ntmps L113 c := by
  rw [show loopsF Tryz.f113 = [loopC Tryz.f113 0] by kernel_rfl]
  intro c hc
  rw [List.mem_singleton] at hc
  subst hc
  refine loop_ok (k := 5) (f := F113) (α := List Int × List Int × Nat × Nat) (by kernel_rfl) rfl (fun x => I113 x.1 x.2.1 x.2.2.1 x.2.2.2) (fun x => ⟨[(7, .s (u64 ((o_gue2 (nv x.1) (nv x.2.1) x.2.1.length x.2.2.1 x.2.2.2 : Nat))))], []⟩) V113 (fun x => x.2.2.1) (.exit 0) (by simp) (fun st e s obs h hob => sub113 h hob) ?_
  rintro ⟨us, ys, q, r⟩ ⟨hlen, h2, hw, hw', hl, hq, hr⟩
  simp only at hlen hw hw' h2 hl hq hr ⊢
  have hno : ∀ d ∈ loopsOf (loopC Tryz.f113 0), LoopOk Tryz.prog Tryz.f113.ntmps L0 d := by rw [show loopsOf (loopC Tryz.f113 0) = [] by kernel_rfl]; intro d hd; cases hd
  have w1 : IntKind.wrap IntKind.i64 ((ys.length : Int) - 1) = ((ys.length - 1 : Nat) : Int) := by rw [wi64 _ (by omega) (by omega)]; omega
  have w2 : IntKind.wrap IntKind.i64 ((ys.length : Int) - 2) = ((ys.length - 2 : Nat) : Int) := by rw [wi64 _ (by omega) (by omega)]; omega
  have g1 : ys.getD (ys.length - 1) 0 = ((dg (nv ys) (ys.length - 1) : Nat) : Int) := nv_getD hw' _
  have g2 : ys.getD (ys.length - 2) 0 = ((dg (nv ys) (ys.length - 2) : Nat) : Int) := nv_getD hw' _
  have g3 : us.getD (ys.length - 2) 0 = ((dg (nv us) (ys.length - 2) : Nat) : Int) := nv_getD hw _
  obtain ⟨v1, hv1⟩ : ∃ v, v = dg (nv ys) (ys.length - 1) := ⟨_, rfl⟩
  obtain ⟨v2, hv2⟩ : ∃ v, v = dg (nv ys) (ys.length - 2) := ⟨_, rfl⟩
  obtain ⟨u3, hu3⟩ : ∃ v, v = dg (nv us) (ys.length - 2) := ⟨_, rfl⟩
  have b1 : v1 < B := by rw [hv1]; exact dg_lt _ _
  have b2 : v2 < B := by rw [hv2]; exact dg_lt _ _
  have b3 : u3 < B := by rw [hu3]; exact dg_lt _ _
  have hgue : ∀ q r, o_gue2 (nv us) (nv ys) ys.length q r = o_gue v1 v2 u3 q r := fun q r => by rw [o_gue2, ← hv1, ← hv2, ← hu3]
  rw [← hv1] at g1
  rw [← hv2] at g2
  rw [← hu3] at g3
  have wr : IntKind.wrap IntKind.u64 ((r : Int) + IntKind.wrap IntKind.u64 (v1 : Int)) = ((r + v1 : Nat) : Int) := by simp only [w64]; unfold B at *; omega
  have wu : IntKind.wrap IntKind.u64 (IntKind.wrap IntKind.u64 ((r : Int) * 4294967296) + IntKind.wrap IntKind.u64 (u3 : Int)) = ((r * B + u3 : Nat) : Int) := by simp only [w64]; unfold B at *; omega
  simp only [hgue]
  by_cases hqB : B ≤ q
  · obtain ⟨p, rfl⟩ : ∃ p, q = p + 1 := ⟨q - 1, by unfold B at hqB; omega⟩
    have wq : IntKind.wrap IntKind.u64 (((p + 1 : Nat) : Int) - 1) = (p : Int) := by rw [w64]; omega
    have hqI : (4294967296 : Int) ≤ ((p + 1 : Nat) : Int) := by unfold B at hqB; omega
    by_cases hrB : B ≤ r + v1
    · have hrI : (4294967296 : Int) ≤ ((r + v1 : Nat) : Int) := by unfold B at hrB; omega
      refine (codeV_sound hmix E7ok.hS hno (loop113d us ys (p + 1) r) ?_).mono ?_
      · simp only [AllP, w1, Int.toNat_natCast, g1, wr, decide_eq_true hqI, decide_eq_true hrI]
        simp; omega
      · rintro e s ⟨rfl, hs⟩
        rw [wq] at hs
        rw [o_gue, if_pos (.inl hqB), if_pos hrB]
        exact .inr ⟨rfl, hs⟩
    · have hrI : ¬ (4294967296 : Int) ≤ ((r + v1 : Nat) : Int) := by unfold B at hrB; omega
      refine (codeV_sound hmix E7ok.hS hno (loop113c us ys (p + 1) r) ?_).mono ?_
      · simp only [AllP, w1, Int.toNat_natCast, g1, wr, decide_eq_true hqI, decide_eq_false hrI]
        simp; omega
      · rintro e s ⟨rfl, hs⟩
        simp only [wq, w1, Int.toNat_natCast, g1, wr] at hs
        refine .inl ⟨rfl, (us, ys, p, r + v1), ⟨hlen, h2, hw, hw', hl, by show p < _; omega, by show r + v1 < B; omega⟩, by simp only; omega, hs, ?_⟩
        conv => rhs; rw [o_gue, if_pos (.inl hqB), if_neg hrB]
        simp only [hgue]
  · have hqI : ¬ (4294967296 : Int) ≤ (q : Int) := by unfold B at hqB; omega
    have hm : IntKind.wrap IntKind.u64 ((q : Int) * IntKind.wrap IntKind.u64 (v2 : Int)) = ((q * v2 : Nat) : Int) := by
      have hb : q * v2 < B * B := Nat.mul_lt_mul_of_lt_of_le (by omega) (Nat.le_of_lt b2) (by decide)
      simp only [w64]
      have e : (q : Int) * v2 = ((q * v2 : Nat) : Int) := by push_cast; rfl
      unfold B at *
      rw [show (v2 : Int) % 18446744073709551616 = v2 by omega, e]
      generalize q * v2 = y at *
      omega
    by_cases hlt : r * B + u3 < q * v2
    · have hqp : 0 < q := by
        rcases Nat.eq_zero_or_pos q with e | e
        · subst e; omega
        · exact e
      obtain ⟨p, rfl⟩ : ∃ p, q = p + 1 := ⟨q - 1, by omega⟩
      have hI : ((r * B + u3 : Nat) : Int) < (((p + 1) * v2 : Nat) : Int) := by exact_mod_cast hlt
      have wq : IntKind.wrap IntKind.u64 (((p + 1 : Nat) : Int) - 1) = (p : Int) := by rw [w64]; omega
      by_cases hrB : B ≤ r + v1
      · have hrI : (4294967296 : Int) ≤ ((r + v1 : Nat) : Int) := by unfold B at hrB; omega
        refine (codeV_sound hmix E7ok.hS hno (loop113b us ys (p + 1) r) ?_).mono ?_
        · simp only [AllP, w1, w2, Int.toNat_natCast, g1, g2, g3, wr, wu, hm, decide_eq_false hqI, decide_eq_true hI, decide_eq_true hrI]
          simp; omega
        · rintro e s ⟨rfl, hs⟩
          rw [wq] at hs
          rw [o_gue, if_pos (.inr hlt), if_pos hrB]
          exact .inr ⟨rfl, hs⟩
      · have hrI : ¬ (4294967296 : Int) ≤ ((r + v1 : Nat) : Int) := by unfold B at hrB; omega
        refine (codeV_sound hmix E7ok.hS hno (loop113a us ys (p + 1) r) ?_).mono ?_
        · simp only [AllP, w1, w2, Int.toNat_natCast, g1, g2, g3, wr, wu, hm, decide_eq_false hqI, decide_eq_true hI, decide_eq_false hrI]
          simp; omega
        · rintro e s ⟨rfl, hs⟩
          simp only [wq, w1, Int.toNat_natCast, g1, wr] at hs
          refine .inl ⟨rfl, (us, ys, p, r + v1), ⟨hlen, h2, hw, hw', hl, by show p < _; omega, by show r + v1 < B; omega⟩, by simp only; omega, hs, ?_⟩
          conv => rhs; rw [o_gue, if_pos (.inr hlt), if_neg hrB]
          simp only [hgue]
    · have hI : ¬ ((r * B + u3 : Nat) : Int) < ((q * v2 : Nat) : Int) := by intro h; apply hlt; exact_mod_cast h
      refine (codeV_sound hmix E7ok.hS hno (loop113e us ys q r) ?_).mono ?_
      · simp only [AllP, w2, Int.toNat_natCast, g2, g3, wu, hm, decide_eq_false hqI, decide_eq_false hI]
        simp; omega
      · rintro e s ⟨rfl, hs⟩
        refine .inr ⟨rfl, ?_⟩
        have e1 : o_gue v1 v2 u3 q r = q := by
          cases q with
          | zero => rfl
          | succ q => rw [o_gue, if_neg (by omega)]
        rw [e1]; exact hs

end Go.Proofs.YtkfdnpbpebmhaaaGreatDoor.Spec
namespace Go.Proofs.YtkfdnpbpebmhaaaGreatDoor.Num
open Go.Proofs.YtkfdnpbpebmhaaaGreatDoor.Spec
/-- The reference's estimate of a digit. -/
def o_guess (U V n : Nat) : Nat := o_gue2 U V n ((dg U n * B + dg U (n - 1)) / dg V (n - 1)) ((dg U n * B + dg U (n - 1)) % dg V (n - 1))
end Go.Proofs.YtkfdnpbpebmhaaaGreatDoor.Num
namespace Go.Proofs.YtkfdnpbpebmhaaaGreatDoor.Spec
open Go Go.RowKit Sx Num

def spGuess : Sp
  | [.one (.row .u32 us), .one (.row .u32 ys)] => some (.s (u64 ((o_guess (nv us) (nv ys) ys.length : Nat))), [us.length = ys.length + 1, 2 ≤ ys.length, Words us, Words ys, 0 < dg (nv ys) (ys.length - 1), ys.length < 137438953472])
  | _ => none
theorem two_wrap (a b : Nat) (ha : a < B) (hb : b < B) : IntKind.wrap IntKind.u64 (IntKind.wrap IntKind.u64 (IntKind.wrap IntKind.u64 (a : Int) * 4294967296) + IntKind.wrap IntKind.u64 (b : Int)) = ((a * B + b : Nat) : Int) ∧ a * B + b < 18446744073709551616 := by
  simp only [w64]; unfold B at *; omega
theorem con113 : Con Tryz.prog 113 spGuess := by
  refine con_run (L := L113) (fn := Tryz.f113) hmix E7ok.hS lo113 (by kernel_rfl) (fun _ => by kernel_rfl) ?_
  intro avs r ps hsp hps
  unfold spGuess at hsp
  split at hsp
  · rename_i us ys
    simp only [Option.some.injEq, Prod.mk.injEq] at hsp
    obtain ⟨rfl, rfl⟩ := hsp
    obtain ⟨hlen, h2, hw, hw', hp, hl, _⟩ := hps
    have w1 : IntKind.wrap IntKind.i64 ((ys.length : Int) - 1) = ((ys.length - 1 : Nat) : Int) := by rw [wi64 _ (by omega) (by omega)]; omega
    have g1 : ys.getD (ys.length - 1) 0 = ((dg (nv ys) (ys.length - 1) : Nat) : Int) := nv_getD hw' _
    have g2 : us.getD ys.length 0 = ((dg (nv us) ys.length : Nat) : Int) := nv_getD hw _
    have g3 : us.getD (ys.length - 1) 0 = ((dg (nv us) (ys.length - 1) : Nat) : Int) := nv_getD hw _
    have b1 := dg_lt (nv ys) (ys.length - 1)
    have b2 := dg_lt (nv us) ys.length
    have b3 := dg_lt (nv us) (ys.length - 1)
    obtain ⟨hT, hTb⟩ := two_wrap _ _ b2 b3
    have hv := u64_lt _ b1
    obtain ⟨t, ht⟩ : ∃ t, t = dg (nv us) ys.length * B + dg (nv us) (ys.length - 1) := ⟨_, rfl⟩
    obtain ⟨v, hv1⟩ : ∃ v, v = dg (nv ys) (ys.length - 1) := ⟨_, rfl⟩
    rw [← ht] at hT hTb
    rw [← hv1] at hp b1 hv g1
    have hq : IntKind.wrap IntKind.u64 (Int.tdiv (t : Int) (v : Int)) = ((t / v : Nat) : Int) := by
      rw [Int.tdiv_eq_ediv_of_nonneg (Int.natCast_nonneg _), ← Int.natCast_ediv, w64]
      have := Nat.div_le_self t v
      generalize t / v = q at *
      omega
    have hr : Int.tmod (t : Int) (v : Int) = ((t % v : Nat) : Int) := by
      rw [Int.tmod_eq_emod_of_nonneg (Int.natCast_nonneg _), ← Int.natCast_emod]
    have q1 : t / v < 18446744073709551616 := Nat.lt_of_le_of_lt (Nat.div_le_self t v) hTb
    have q2 : t % v < B := Nat.lt_trans (Nat.mod_lt _ hp) b1
    refine ⟨rfl, _, _, _, _, run113 us ys, ?_, ?_⟩
    · simp only [w1, tnc, g1, g2, g3, hT, hv, hq, hr]
      rw [o_guess, ← ht, ← hv1]
      rfl
    · simp only [AllP, w1, tnc, g1, g2, g3, hT, hv, hq, hr]
      generalize t / v = q at *
      generalize t % v = r at *
      unfold B at *
      refine ⟨⟨by omega, by omega⟩, ⟨by omega, by omega⟩, ⟨by omega, by omega⟩, by omega, ⟨by omega, by omega⟩, by omega, trivial, ⟨by omega, by omega⟩, ⟨by omega, by omega⟩, hlen, h2, hw, hw', hl, trivial⟩
  · cases hsp

/-! taking away in place -/
theorem sub114 {st : St} {e : Ex} {s : St} {obs : List Prop} (h : F114 st = some (e, s, obs)) (hob : AllP obs) : ∃ x : W6, V94b x ∧ SubS st (I114 x.1 x.2.1 x.2.2.1 x.2.2.2.1 x.2.2.2.2.1 x.2.2.2.2.2.1 x.2.2.2.2.2.2) ∧ e = .exit 0 ∧ s = I114 x.1 x.2.1 x.2.2.1 x.2.2.2.1 x.2.2.2.2.1 x.2.2.2.2.2.1 (x.2.2.2.2.1.length + 1) := by
  unfold F114 at h
  split at h
  · rename_i off len cap ys q c b i ty zs h1 h2 h3 h4 h5 h6 h7
    simp only [Option.some.injEq, Prod.mk.injEq] at h
    obtain ⟨rfl, rfl, rfl⟩ := h
    obtain ⟨rfl, ⟨hq0, hq⟩, rfl, rfl, rfl, hoff, hw, hw', hl, _⟩ := hob
    obtain ⟨q, rfl⟩ := Int.eq_ofNat_of_zero_le hq0
    refine ⟨(ty, zs, off, cap, ys, q, 0), ⟨hoff, hw, hw', hl, by show q < B; unfold B; omega, Nat.zero_le _⟩, ⟨?_, ?_, fun _ => rfl⟩, rfl, rfl⟩
    · intro p hp
      simp only [I114, List.mem_cons, List.not_mem_nil, or_false, cm_zero, bw_zero] at hp
      rcases hp with rfl | rfl | rfl | rfl | rfl | rfl <;> exact ⟨by assumption, rfl⟩
    · intro p hp
      simp only [I114, List.mem_cons, List.not_mem_nil, or_false, wmix_zero hoff hw] at hp
      subst hp
      exact ⟨by assumption, rfl⟩
  · cases h
theorem less_wrap (a x b : Nat) (ha : a < B) (hx : x < B) (hb : b ≤ 1) :
    IntKind.wrap IntKind.u64 (IntKind.wrap IntKind.u64 (IntKind.wrap IntKind.u64 (4294967296 + IntKind.wrap IntKind.u64 (a : Int)) - (x : Int)) - (b : Int)) = 4294967296 + (a : Int) - x - b := by
  simp only [w64]; unfold B at *; omega
theorem lo114 : ∀ c ∈ loopsF Tryz.f114, LoopOk Tryz.prog Tryz.f114.ntmps L114 c := by
  rw [show loopsF Tryz.f114 = [loopC Tryz.f114 0] by kernel_rfl]
  intro c hc
  rw [List.mem_singleton] at hc
  subst hc
  refine loop_ok (k := 4) (f := F114) (α := W6) (by kernel_rfl) rfl (fun x => I114 x.1 x.2.1 x.2.2.1 x.2.2.2.1 x.2.2.2.2.1 x.2.2.2.2.2.1 x.2.2.2.2.2.2) (fun x => I114 x.1 x.2.1 x.2.2.1 x.2.2.2.1 x.2.2.2.2.1 x.2.2.2.2.2.1 (x.2.2.2.2.1.length + 1)) V94b (fun x => x.2.2.2.2.1.length + 1 - x.2.2.2.2.2.2) (.exit 0) (by simp) (fun st e s obs h hob => sub114 h hob) ?_
  rintro ⟨ty, zs, off, cap, ys, q, i⟩ ⟨hoff, hw, hw', hl, hq, hi⟩
  simp only at hoff hw hw' hl hq hi ⊢
  have hno : ∀ d ∈ loopsOf (loopC Tryz.f114 0), LoopOk Tryz.prog Tryz.f114.ntmps L0 d := by rw [show loopsOf (loopC Tryz.f114 0) = [] by kernel_rfl]; intro d hd; cases hd
  by_cases hlt : i < ys.length + 1
  · have w3 : IntKind.wrap IntKind.i64 ((i : Int) + 1) = ((i + 1 : Nat) : Int) := by rw [wi64 _ (by omega) (by omega)]; omega
    obtain ⟨U, hU⟩ : ∃ U, U = o_u zs off (ys.length + 1) := ⟨_, rfl⟩
    obtain ⟨V, hV⟩ : ∃ V, V = nv ys := ⟨_, rfl⟩
    have hqV : q * V < B ^ (ys.length + 1) := mul_lt_pow hq (by rw [hV]; exact nv_lt hw')
    have hwl : (o_win zs off (o_mix (ys.length + 1) (U + B ^ (ys.length + 1) - q * V) U i)).length = zs.length := wmix_len hoff hi
    have hget : (o_win zs off (o_mix (ys.length + 1) (U + B ^ (ys.length + 1) - q * V) U i)).getD (off + i) 0 = ((dg U i : Nat) : Int) := wmix_get hoff hlt
    have hgy : ys.getD i 0 = ((dg V i : Nat) : Int) := by rw [hV]; exact nv_getD hw' i
    have hT := cm_wrap2 (v := V) (i := i) hq
    have hnn : (0 : Int) ≤ ((o_cm q V i + q * dg V i : Nat) : Int) := Int.natCast_nonneg _
    have hlo : Int.tmod ((o_cm q V i + q * dg V i : Nat) : Int) 4294967296 = ((dg (q * V) i : Nat) : Int) := by rw [Int.tmod_eq_emod_of_nonneg hnn, cm_lo]
    have hcmb := cm_le q V (i + 1)
    have hhi : IntKind.wrap IntKind.u64 (Int.tdiv ((o_cm q V i + q * dg V i : Nat) : Int) 4294967296) = ((o_cm q V (i + 1) : Nat) : Int) := by
      rw [Int.tdiv_eq_ediv_of_nonneg hnn, cm_hi]; exact u64_lt _ (by omega)
    have hdig := sub_dig U (q * V) (ys.length + 1) i hlt (by omega)
    have b1 := dg_lt U i
    have b2 := dg_lt (q * V) i
    have b3 := bw_le U (q * V) i
    have hlw := less_wrap _ _ _ b1 b2 b3
    have hrem : IntKind.wrap IntKind.u32 (Int.tmod (4294967296 + ((dg U i : Nat) : Int) - ((dg (q * V) i : Nat) : Int) - ((o_bw U (q * V) i : Nat) : Int)) 4294967296) = ((dg (U + B ^ (ys.length + 1) - q * V) i : Nat) : Int) := by
      rw [hdig, Int.tmod_eq_emod_of_nonneg (by unfold B at b1 b2; omega), w32]
      generalize dg U i = x at *
      generalize dg (q * V) i = y at *
      generalize o_bw U (q * V) i = z at *
      omega
    have hbw : IntKind.wrap IntKind.u64 (1 - IntKind.wrap IntKind.u64 (Int.tdiv (4294967296 + ((dg U i : Nat) : Int) - ((dg (q * V) i : Nat) : Int) - ((o_bw U (q * V) i : Nat) : Int)) 4294967296)) = ((o_bw U (q * V) (i + 1) : Nat) : Int) := by
      rw [bw_succ, Int.tdiv_eq_ediv_of_nonneg (by unfold B at b1 b2; omega), w64, w64]
      generalize dg U i = x at *
      generalize dg (q * V) i = y at *
      generalize o_bw U (q * V) i = z at *
      clear hT hlo hhi hdig hlw hrem hget hgy hwl
      unfold B at b1 b2
      split <;> omega
    refine (codeV_sound hmix E7ok.hS hno (loop114a ty zs off cap ys q i) ?_).mono ?_
    · simp only [AllP, tnc]
      rw [← hU, ← hV]
      simp only [hwl]
      refine ⟨by simp; omega, by omega, hw', by omega, ⟨by omega, by omega⟩, by omega, by omega, by omega, ⟨by omega, by omega⟩, by omega, by omega, trivial⟩
    · rintro e s ⟨rfl, hs⟩
      refine .inl ⟨rfl, (ty, zs, off, cap, ys, q, i + 1), ⟨hoff, hw, hw', hl, hq, by show i + 1 ≤ ys.length + 1; omega⟩, by simp only; omega, ?_, rfl⟩
      simp only [tnc, w3] at hs
      rw [← hU, ← hV] at hs
      simp only [hget, hgy, hT, hlo, hhi, hlw, hrem, hbw] at hs
      rw [wmix_set hoff hlt] at hs
      simp only [I114]
      rw [← hU, ← hV]
      exact hs
  · have : i = ys.length + 1 := by omega
    subst this
    refine (codeV_sound hmix E7ok.hS hno (loop114b ty zs off cap ys q _) ?_).mono ?_
    · simp [AllP]
    · rintro e s ⟨rfl, hs⟩
      exact .inr ⟨rfl, hs⟩
def spLess : SpM := fun k zs off len _ avs => match k, avs with
  | .u32, [.one (.row .u32 ys), .one (.v (.int .u64 q))] => some (.s (boo (decide (o_u zs off (ys.length + 1) < q.toNat * nv ys))), o_win zs off (dgs (ys.length + 1) (o_u zs off (ys.length + 1) + B ^ (ys.length + 1) - q.toNat * nv ys)),
      [len = ys.length + 1, off + (ys.length + 1) ≤ zs.length, Words zs, Words ys, 0 ≤ q ∧ q < 4294967296, ys.length < 137438953472])
  | _, _ => none
theorem con114 : ConM Tryz.prog 114 spLess := by
  refine conM_runL (fn := Tryz.f114) hmix E7ok.hS (by kernel_rfl) (fun _ => by kernel_rfl) ?_
  intro k zs off len cap avs r xs' ps hsp hps
  unfold spLess at hsp
  split at hsp
  · rename_i ys q
    simp only [Option.some.injEq, Prod.mk.injEq] at hsp
    obtain ⟨rfl, rfl, rfl⟩ := hsp
    obtain ⟨rfl, hoff, hw, hw', ⟨hq0, hq⟩, hl, _⟩ := hps
    obtain ⟨q, rfl⟩ := Int.eq_ofNat_of_zero_le hq0
    refine ⟨rfl, wdgs_len hoff, fun ty => ⟨L114, lo114, ?_⟩⟩
    have hqB : q < B := by unfold B; omega
    have hbw := bw_end (u_lt hoff hw) (mul_lt_pow hqB (nv_lt hw'))
    refine ⟨_, _, _, _, _, run114 ty zs off cap ys q, ?_, ?_, ?_⟩
    · rw [tnc, hbw]
      by_cases h : o_u zs off (ys.length + 1) < q * nv ys
      · rw [if_pos h, decide_eq_true h]; rfl
      · rw [if_neg h, decide_eq_false h]; rfl
    · rw [tnc, mix_full]
    · exact ⟨rfl, rfl, ⟨hq0, hq⟩, rfl, rfl, rfl, hoff, hw, hw', hl, trivial⟩
  · cases hsp

/-! giving back -/
theorem sub115 {st : St} {e : Ex} {s : St} {obs : List Prop} (h : F115 st = some (e, s, obs)) (hob : AllP obs) : ∃ x : W4 × List Int, (V94d (x.1.1, x.2, x.1.2.1, x.1.2.2.1, x.1.2.2.2.1, 0, 0, x.1.2.2.2.2)) ∧ SubS st (I115 x.1.1 x.2 x.1.2.1 x.1.2.2.1 x.1.2.2.2.1 x.1.2.2.2.2) ∧ e = .exit 0 ∧ s = I115 x.1.1 x.2 x.1.2.1 x.1.2.2.1 x.1.2.2.2.1 (x.1.2.2.2.1.length + 1) := by
  unfold F115 at h
  split at h
  · rename_i off len cap ys c i ty zs h1 h2 h3 h4 h5
    simp only [Option.some.injEq, Prod.mk.injEq] at h
    obtain ⟨rfl, rfl, rfl⟩ := h
    obtain ⟨rfl, rfl, rfl, hoff, hw, hw', hl, _⟩ := hob
    refine ⟨((ty, off, cap, ys, 0), zs), ⟨hoff, hw, hw', hl, Nat.zero_le _⟩, ⟨?_, ?_, fun _ => rfl⟩, rfl, rfl⟩
    · intro p hp
      simp only [I115, List.mem_cons, List.not_mem_nil, or_false, cy_zero] at hp
      rcases hp with rfl | rfl | rfl | rfl <;> exact ⟨by assumption, rfl⟩
    · intro p hp
      simp only [I115, List.mem_cons, List.not_mem_nil, or_false, wmix_zero hoff hw] at hp
      subst hp
      exact ⟨by assumption, rfl⟩
  · cases h
theorem lo115 : ∀ c ∈ loopsF Tryz.f115, LoopOk Tryz.prog Tryz.f115.ntmps L115 c := by
  rw [show loopsF Tryz.f115 = [loopC Tryz.f115 0] by kernel_rfl]
  intro c hc
  rw [List.mem_singleton] at hc
  subst hc
  refine loop_ok (k := 2) (f := F115) (α := W4 × List Int) (by kernel_rfl) rfl (fun x => I115 x.1.1 x.2 x.1.2.1 x.1.2.2.1 x.1.2.2.2.1 x.1.2.2.2.2) (fun x => I115 x.1.1 x.2 x.1.2.1 x.1.2.2.1 x.1.2.2.2.1 (x.1.2.2.2.1.length + 1)) (fun x => V94d (x.1.1, x.2, x.1.2.1, x.1.2.2.1, x.1.2.2.2.1, 0, 0, x.1.2.2.2.2)) (fun x => x.1.2.2.2.1.length + 1 - x.1.2.2.2.2) (.exit 0) (by simp) (fun st e s obs h hob => sub115 h hob) ?_
  rintro ⟨⟨ty, off, cap, ys, i⟩, zs⟩ ⟨hoff, hw, hw', hl, hi⟩
  simp only at hoff hw hw' hl hi ⊢
  have hno : ∀ d ∈ loopsOf (loopC Tryz.f115 0), LoopOk Tryz.prog Tryz.f115.ntmps L0 d := by rw [show loopsOf (loopC Tryz.f115 0) = [] by kernel_rfl]; intro d hd; cases hd
  by_cases hlt : i < ys.length + 1
  · have w3 : IntKind.wrap IntKind.i64 ((i : Int) + 1) = ((i + 1 : Nat) : Int) := by rw [wi64 _ (by omega) (by omega)]; omega
    obtain ⟨U, hU⟩ : ∃ U, U = o_u zs off (ys.length + 1) := ⟨_, rfl⟩
    obtain ⟨V, hV⟩ : ∃ V, V = nv ys := ⟨_, rfl⟩
    have hwl : (o_win zs off (o_mix (ys.length + 1) (U + V) U i)).length = zs.length := wmix_len hoff hi
    have hget : (o_win zs off (o_mix (ys.length + 1) (U + V) U i)).getD (off + i) 0 = ((dg U i : Nat) : Int) := wmix_get hoff hlt
    have hgy : ys.getD i 0 = ((dg V i : Nat) : Int) := by rw [hV]; exact nv_getD hw' i
    have b1 := dg_lt U i
    have b2 := dg_lt V i
    have b3 := cy_le U V i
    have hT : IntKind.wrap IntKind.u64 (IntKind.wrap IntKind.u64 (IntKind.wrap IntKind.u64 ((dg U i : Nat) : Int) + ((dg V i : Nat) : Int)) + ((o_cy U V i : Nat) : Int)) = ((dg U i + dg V i + o_cy U V i : Nat) : Int) := by
      simp only [w64]; unfold B at b1 b2; omega
    have hnn : (0 : Int) ≤ ((dg U i + dg V i + o_cy U V i : Nat) : Int) := Int.natCast_nonneg _
    have hdig : IntKind.wrap IntKind.u32 (Int.tmod ((dg U i + dg V i + o_cy U V i : Nat) : Int) 4294967296) = ((dg (U + V) i : Nat) : Int) := by
      rw [Int.tmod_eq_emod_of_nonneg hnn, dg_add, w32]; unfold B; omega
    have hcy : IntKind.wrap IntKind.u64 (Int.tdiv ((dg U i + dg V i + o_cy U V i : Nat) : Int) 4294967296) = ((o_cy U V (i + 1) : Nat) : Int) := by
      rw [Int.tdiv_eq_ediv_of_nonneg hnn, cy_succ, w64]; unfold B at *; omega
    refine (codeV_sound hmix E7ok.hS hno (loop115a ty zs off cap ys i) ?_).mono ?_
    · simp only [AllP, tnc]
      rw [← hU, ← hV]
      simp only [hwl]
      refine ⟨by simp; omega, ⟨by omega, by omega⟩, by omega, by omega, hw', by omega, ⟨by omega, by omega⟩, by omega, by omega, trivial⟩
    · rintro e s ⟨rfl, hs⟩
      refine .inl ⟨rfl, ((ty, off, cap, ys, i + 1), zs), ⟨hoff, hw, hw', hl, by show i + 1 ≤ ys.length + 1; omega⟩, by simp only; omega, ?_, rfl⟩
      simp only [tnc, w3] at hs
      rw [← hU, ← hV] at hs
      simp only [hget, hgy, hT, hdig, hcy] at hs
      rw [wmix_set hoff hlt] at hs
      simp only [I115]
      rw [← hU, ← hV]
      exact hs
  · have : i = ys.length + 1 := by omega
    subst this
    refine (codeV_sound hmix E7ok.hS hno (loop115b ty zs off cap ys _) ?_).mono ?_
    · simp [AllP]
    · rintro e s ⟨rfl, hs⟩
      exact .inr ⟨rfl, hs⟩
def spRest : SpM := fun k zs off len _ avs => match k, avs with
  | .u32, [.one (.row .u32 ys)] => some (.tup [], o_win zs off (dgs (ys.length + 1) (o_u zs off (ys.length + 1) + nv ys)),
      [len = ys.length + 1, off + (ys.length + 1) ≤ zs.length, Words zs, Words ys, ys.length < 137438953472])
  | _, _ => none
theorem con115 : ConM Tryz.prog 115 spRest := by
  refine conM_runL (fn := Tryz.f115) hmix E7ok.hS (by kernel_rfl) (fun _ => by kernel_rfl) ?_
  intro k zs off len cap avs r xs' ps hsp hps
  unfold spRest at hsp
  split at hsp
  · rename_i ys
    simp only [Option.some.injEq, Prod.mk.injEq] at hsp
    obtain ⟨rfl, rfl, rfl⟩ := hsp
    obtain ⟨rfl, hoff, hw, hw', hl, _⟩ := hps
    refine ⟨rfl, wdgs_len hoff, fun ty => ⟨L115, lo115, ?_⟩⟩
    refine ⟨_, _, _, _, _, run115 ty zs off cap ys, rfl, ?_, ?_⟩
    · rw [mix_full]
    · exact ⟨rfl, rfl, rfl, rfl, hoff, hw, hw', hl, trivial⟩
  · cases hsp

def E8 : List (Nat × Ctr) := (94, .mu spReduce) :: (113, .fn spGuess) :: (114, .mu spLess) :: (115, .mu spRest) :: E7
theorem E8ok : EnvOk Tryz.prog E8 := .cons con94 (.cons con113 (.cons con114 (.cons con115 E7ok)))

end Go.Proofs.YtkfdnpbpebmhaaaGreatDoor.Spec
namespace Go.Proofs.YtkfdnpbpebmhaaaGreatDoor.Spec
open Go Go.RowKit Sx Num

theorem gSs_vals {M : Nat → Prop} {β : Nat → Nat} {w : World} : ∀ {xs : List Value} {us : List Value}, gSs M β w (xs.map fun x => SV.one (.v x)) us → us = xs
  | [], [], _ => rfl
  | x :: xs, u :: us, h => by
    have h1 : u = x := h.1
    rw [h1, gSs_vals h.2]
  | [], _ :: _, h => h.elim
  | _ :: _, [], h => h.elim
/-- A contract of the library over plain values. -/
theorem con_calls {P : Program} {f : FuncId} {sp : Sp} (hent : ∀ args : Array Value, pureRun P (callFunc f args) = some (.enter f args))
    (h : ∀ avs r ps, sp avs = some (r, ps) → AllP ps → ∃ (xs : List Value) (u : Value), avs = (xs.map fun x => SV.one (.v x)) ∧ r.okB noB = true ∧ (∀ M β w', gA M β w' r u) ∧ ∀ w, Calls P f xs.toArray w fun e w' => e = .returned u ∧ Below w.heap.size w w') : Con P f sp := by
  refine ⟨hent, fun avs r ps hs hp M β w vs hM hg => ?_⟩
  obtain ⟨xs, u, rfl, hok, hgu, hc⟩ := h avs r ps hs (allP_iff.2 hp)
  have hvs : vs = xs.toArray := by apply Array.toList_inj.1; rw [gSs_vals hg]
  subst hvs
  exact (hc w).mono fun e w' ⟨he, hb⟩ => ⟨u, he, hok, hgu _ _ _, hb⟩
theorem below_rfl {w : World} {u v : Ending} {w' : World} (h : u = v ∧ w' = w) : u = v ∧ Below w.heap.size w w' := ⟨h.1, h.2 ▸ Below.refl _ _⟩

/-- How many bits a number has. -/
def o_bl (n : Nat) : Nat := Lib.bitLen n
def spLZ : Sp
  | [.one (.v (.int .u32 x))] => some (.s (num (32 - (o_bl x.toNat : Int))), [0 ≤ x ∧ x ≤ 4294967295])
  | _ => none
def spLen (k : IntKind) (m : Int) : Sp
  | [.one (.v (.int k' x))] => bif kEq k' k then some (.s (num (o_bl x.toNat)), [0 ≤ x ∧ x ≤ m]) else none
  | _ => none
theorem con92 : Con Tryz.prog 92 spLZ := by
  refine con_calls (fun _ => by kernel_rfl) fun avs r ps hs hp => ?_
  unfold spLZ at hs
  split at hs
  · rename_i x
    simp only [Option.some.injEq, Prod.mk.injEq] at hs
    obtain ⟨rfl, rfl⟩ := hs
    exact ⟨[.int .u32 x], _, rfl, rfl, fun _ _ _ => rfl, fun w => (Tryz.bits_LeadingZeros32 x w hp.1.1 hp.1.2).mono fun _ _ h => below_rfl h⟩
  · cases hs
theorem con73 : Con Tryz.prog 73 (spLen .u32 4294967295) := by
  refine con_calls (fun _ => by kernel_rfl) fun avs r ps hs hp => ?_
  unfold spLen at hs
  split at hs
  · rename_i k x
    rw [Bool.cond_eq_ite] at hs
    split at hs
    · rename_i hk
      have hk := kEq_iff.1 hk
      subst hk
      simp only [Option.some.injEq, Prod.mk.injEq] at hs
      obtain ⟨rfl, rfl⟩ := hs
      exact ⟨[.int .u32 x], _, rfl, rfl, fun _ _ _ => rfl, fun w => (Tryz.bits_Len32 x w hp.1.1 hp.1.2).mono fun _ _ h => below_rfl h⟩
    · cases hs
  · cases hs
theorem con96 : Con Tryz.prog 96 (spLen .u64 18446744073709551615) := by
  refine con_calls (fun _ => by kernel_rfl) fun avs r ps hs hp => ?_
  unfold spLen at hs
  split at hs
  · rename_i k x
    rw [Bool.cond_eq_ite] at hs
    split at hs
    · rename_i hk
      have hk := kEq_iff.1 hk
      subst hk
      simp only [Option.some.injEq, Prod.mk.injEq] at hs
      obtain ⟨rfl, rfl⟩ := hs
      exact ⟨[.int .u64 x], _, rfl, rfl, fun _ _ _ => rfl, fun w => (Tryz.bits_Len x w hp.1.1 hp.1.2).mono fun _ _ h => below_rfl h⟩
    · cases hs
  · cases hs
def E9 : List (Nat × Ctr) := (92, .fn spLZ) :: (73, .fn (spLen .u32 4294967295)) :: (96, .fn (spLen .u64 18446744073709551615)) :: E8
theorem E9ok : EnvOk Tryz.prog E9 := .cons con92 (.cons con73 (.cons con96 E8ok))

end Go.Proofs.YtkfdnpbpebmhaaaGreatDoor.Spec
namespace Go.Proofs.YtkfdnpbpebmhaaaGreatDoor.Num
open Go.Proofs.YtkfdnpbpebmhaaaGreatDoor.Spec

theorem bitLenAux_spec : ∀ (f x : Nat), x < 2 ^ f → x < 2 ^ Lib.bitLenAux f x ∧ (x ≠ 0 → 2 ^ (Lib.bitLenAux f x - 1) ≤ x) ∧ Lib.bitLenAux f x ≤ f ∧ (Lib.bitLenAux f x = 0 ↔ x = 0)
  | 0, x, h => by
    have : x = 0 := by simpa using h
    subst this
    simp [Lib.bitLenAux]
  | f + 1, x, h => by
    simp only [Lib.bitLenAux]
    by_cases h0 : x = 0
    · subst h0; simp
    · rw [if_neg h0]
      obtain ⟨h1, h2, h3, h4⟩ := bitLenAux_spec f (x / 2) (by rw [Nat.pow_succ] at h; omega)
      refine ⟨by rw [Nat.add_comm, Nat.pow_succ]; omega, fun _ => ?_, by omega, by omega⟩
      rw [Nat.add_comm, Nat.add_sub_cancel]
      by_cases h5 : x / 2 = 0
      · rw [h4.2 h5]; omega
      · have := h2 h5
        obtain ⟨b, hb⟩ : ∃ b, Lib.bitLenAux f (x / 2) = b + 1 := ⟨Lib.bitLenAux f (x / 2) - 1, by have := fun e => h5 (h4.1 e); omega⟩
        rw [hb] at this ⊢
        rw [Nat.add_sub_cancel] at this
        rw [Nat.pow_succ]
        omega
theorem bl_spec {x : Nat} (h : x < 2 ^ 64) : x < 2 ^ o_bl x ∧ (x ≠ 0 → 2 ^ (o_bl x - 1) ≤ x) ∧ o_bl x ≤ 64 ∧ (o_bl x = 0 ↔ x = 0) := bitLenAux_spec 64 x h
theorem bl_le {x k : Nat} (h : x < 2 ^ 64) (hk : x < 2 ^ k) : o_bl x ≤ k := by
  obtain ⟨_, h2, _, h4⟩ := bl_spec h
  by_cases h0 : x = 0
  · rw [h4.2 h0]; exact Nat.zero_le _
  · have h5 := h2 h0
    rcases Nat.lt_or_ge k (o_bl x) with h6 | h6
    · exfalso
      have : 2 ^ k ≤ 2 ^ (o_bl x - 1) := Nat.pow_le_pow_right (by decide) (by omega)
      omega
    · exact h6

theorem part_dgs {N k n a : Nat} (h : k + n ≤ N) : o_part (dgs N a) k n = dgs n (a / B ^ k) := by
  apply List.ext_getElem
  · rw [part_length (by rw [dgs_length]; exact h), dgs_length]
  · intro j h1 h2
    rw [dgs_length] at h2
    simp only [o_part, dgs, List.getElem_take, List.getElem_drop, List.getElem_map, List.getElem_range]
    congr 1
    unfold dg
    rw [Nat.pow_add, ← Nat.div_div_eq_div_mul]
theorem u_dgs {N k n a : Nat} (h : k + n ≤ N) : o_u (dgs N a) k n = a / B ^ k % B ^ n := by
  rw [o_u, part_dgs h, nv_dgs]
theorem dg_low (w lo k j : Nat) (h : j < k) : dg (lo + B ^ k * w) j = dg lo j := dg_add_mul lo w k j h
theorem dg_high (w lo k j : Nat) (hlo : lo < B ^ k) : dg (lo + B ^ k * w) (k + j) = dg w j := by
  unfold dg
  rw [Nat.pow_add, ← Nat.div_div_eq_div_mul, Nat.add_mul_div_left _ _ (pow_pos' k), Nat.div_eq_of_lt hlo, Nat.zero_add]
theorem win_dgs {N k n a w : Nat} (h : k + n ≤ N) (hw : w < B ^ n) (ha : a < B ^ (k + n)) : o_win (dgs N a) k (dgs n w) = dgs N (a % B ^ k + B ^ k * w) := by
  have hlo := Nat.mod_lt a (pow_pos' k)
  apply List.ext_getElem
  · rw [win_length (by rw [dgs_length, dgs_length]; exact h), dgs_length, dgs_length]
  · intro j h1 h2
    rw [dgs_length] at h2
    have hr : (dgs N (a % B ^ k + B ^ k * w))[j]'(by rw [dgs_length]; exact h2) = ((dg (a % B ^ k + B ^ k * w) j : Nat) : Int) := by simp [dgs]
    rw [hr]
    have e1 : (List.take k (dgs N a)).length = k := by rw [List.length_take, dgs_length]; omega
    simp only [o_win, List.append_assoc]
    rcases Nat.lt_or_ge j k with hj | hj
    · rw [List.getElem_append_left (by omega), dg_low _ _ _ _ hj, List.getElem_take]
      simp only [dgs, List.getElem_map, List.getElem_range]
      congr 1
      have := Nat.mod_add_div a (B ^ k)
      conv => lhs; rw [← this, dg_add_mul _ _ _ _ hj]
    · obtain ⟨i, rfl⟩ : ∃ i, j = k + i := ⟨j - k, by omega⟩
      rw [List.getElem_append_right (by omega), dg_high _ _ _ _ hlo]
      simp only [e1, Nat.add_sub_cancel_left]
      rcases Nat.lt_or_ge i n with hi | hi
      · rw [List.getElem_append_left (by rw [dgs_length]; exact hi)]
        simp [dgs]
      · rw [List.getElem_append_right (by rw [dgs_length]; exact hi), dg_big hw hi]
        simp only [dgs, List.getElem_drop, List.getElem_map, List.getElem_range, List.length_map, List.length_range]
        rw [show k + n + (i - n) = k + i by omega, dg_big ha (by omega)]

/-- The rest before digit k - 1: what is left of X after the digits from k on. -/
theorem rest_step (X V k : Nat) (hV : 0 < V) :
    X % (V * B ^ (k + 1)) / B ^ k < V * B ∧ X % (V * B ^ (k + 1)) / B ^ k / V = dg (X / V) k ∧ X % (V * B ^ (k + 1)) % B ^ k + B ^ k * (X % (V * B ^ (k + 1)) / B ^ k % V) = X % (V * B ^ k) := by
  have hp := pow_pos' k
  have e0 : V * B ^ (k + 1) = V * B ^ k * B := by rw [Nat.pow_succ, Nat.mul_assoc]
  refine ⟨?_, ?_, ?_⟩
  · rw [Nat.div_lt_iff_lt_mul hp, Nat.mul_assoc, Nat.mul_comm B, ← Nat.pow_succ]
    exact Nat.mod_lt _ (Nat.mul_pos hV (pow_pos' _))
  · rw [Nat.div_div_eq_div_mul, Nat.mul_comm (B ^ k) V, e0, Nat.mod_mul_right_div_self]
    unfold dg
    rw [Nat.div_div_eq_div_mul]
  · rw [← Nat.mod_mul, Nat.mul_comm (B ^ k) V]
    exact Nat.mod_mod_of_dvd _ ⟨B, e0⟩

/-- What is known of the scaled numbers: c is the scale. -/
structure Scaled (X Y c m n : Nat) : Prop where
  hX : X < B ^ m
  hY : B ^ n ≤ Y * B
  hn : 0 < n
  hnm : n ≤ m
  hc : 0 < c
  hV : Y * c < B ^ n
theorem Scaled.ypos {X Y c m n : Nat} (h : Scaled X Y c m n) : 0 < Y := by
  rcases Nat.eq_zero_or_pos Y with e | e
  · have := h.hY; rw [e, Nat.zero_mul] at this; have := pow_pos' n; omega
  · exact e
theorem Scaled.vpos {X Y c m n : Nat} (h : Scaled X Y c m n) : 0 < Y * c := Nat.mul_pos h.ypos h.hc
theorem Scaled.low {X Y c m n : Nat} (h : Scaled X Y c m n) : B ^ (n - 1) ≤ Y * c := by
  obtain ⟨k, hk⟩ : ∃ k, n = k + 1 := ⟨n - 1, by have := h.hn; omega⟩
  have h1 := h.hY
  rw [hk, Nat.pow_succ] at h1
  rw [hk, Nat.add_sub_cancel]
  have h2 : B ^ k ≤ Y := Nat.le_of_mul_le_mul_right h1 (by decide)
  exact Nat.le_trans h2 (Nat.le_mul_of_pos_right _ h.hc)
theorem Scaled.big {X Y c m n : Nat} (h : Scaled X Y c m n) : X * c < Y * c * B ^ (m + 1 - n) := by
  have h1 := h.hY
  have e : B ^ (m + 1) = B ^ n * B ^ (m + 1 - n) := by rw [← Nat.pow_add]; congr 1; have := h.hnm; omega
  have h2 : B ^ (m + 1) ≤ Y * B * B ^ (m + 1 - n) := by rw [e]; exact Nat.mul_le_mul_right _ h1
  have h3 : B ^ m ≤ Y * B ^ (m + 1 - n) := by
    rw [Nat.pow_succ] at h2
    have : B ^ m * B ≤ Y * B ^ (m + 1 - n) * B := by rw [Nat.mul_right_comm]; exact h2
    exact Nat.le_of_mul_le_mul_right this (by decide)
  rw [Nat.mul_right_comm]
  exact Nat.mul_lt_mul_of_pos_right (Nat.lt_of_lt_of_le h.hX h3) h.hc
theorem Scaled.quot {X Y c m n : Nat} (h : Scaled X Y c m n) : X * c / (Y * c) = X / Y := Nat.mul_div_mul_right _ _ h.hc
theorem Scaled.rem {X Y c m n : Nat} (_h : Scaled X Y c m n) : X * c % (Y * c) = X % Y * c := Nat.mul_mod_mul_right _ _ _
theorem Scaled.vlen {X Y c m n : Nat} (h : Scaled X Y c m n) : (enc (Y * c)).length = n := by
  have h1 := (enc_len (Y * c) n).2 h.hV
  have h2 := mt (enc_len (Y * c) (n - 1)).1 (Nat.not_lt.2 h.low)
  omega
theorem Scaled.top {X Y c m n : Nat} (h : Scaled X Y c m n) : 0 < dg (Y * c) (n - 1) := by
  have h1 := top_words (n - 1) h.hV (by have := h.hn; omega)
  rw [← h1]
  exact Nat.div_pos h.low (pow_pos' _)
theorem Scaled.xlt {X Y c m n : Nat} (h : Scaled X Y c m n) : X * c < B ^ (m + 1) := by
  have h1 := h.big
  have e : B ^ (m + 1) = B ^ n * B ^ (m + 1 - n) := by rw [← Nat.pow_add]; congr 1; have := h.hnm; omega
  rw [e]
  exact Nat.lt_of_lt_of_le h1 (Nat.mul_le_mul_right _ (Nat.le_of_lt h.hV))
theorem Scaled.rlt {X Y c m n : Nat} (h : Scaled X Y c m n) (k : Nat) : X * c % (Y * c * B ^ k) < B ^ (k + n) := by
  have h1 := Nat.mod_lt (X * c) (Nat.mul_pos h.vpos (pow_pos' k))
  refine Nat.lt_of_lt_of_le h1 ?_
  rw [Nat.pow_add, Nat.mul_comm]
  exact Nat.mul_le_mul_left _ (Nat.le_of_lt h.hV)

theorem canon_top {ys : List Int} (h : Canon ys) (h0 : 0 < ys.length) : B ^ ys.length ≤ nv ys * B ∧ 0 < dg (nv ys) (ys.length - 1) ∧ 0 < nv ys := by
  obtain ⟨k, hk⟩ : ∃ k, ys.length = k + 1 := ⟨ys.length - 1, by omega⟩
  have h1 : ¬ (enc (nv ys)).length ≤ k := by rw [enc_nv h]; omega
  rw [enc_len] at h1
  have h2 : B ^ k ≤ nv ys := Nat.not_lt.1 h1
  have h3 := nv_lt h.1
  rw [hk] at h3 ⊢
  refine ⟨by rw [Nat.pow_succ]; exact Nat.mul_le_mul_right _ h2, ?_, Nat.lt_of_lt_of_le (pow_pos' k) h2⟩
  rw [Nat.add_sub_cancel, ← top_words k h3 rfl]
  exact Nat.div_pos h2 (pow_pos' _)
theorem scaled_shift {xs ys : List Int} (hx : Words xs) (hy : Canon ys) (h0 : 0 < ys.length) (hl : ys.length ≤ xs.length) (s : Nat) (hs : s = 32 - o_bl (dg (nv ys) (ys.length - 1))) : s < 32 ∧ Scaled (nv xs) (nv ys) (2 ^ s) xs.length ys.length := by
  obtain ⟨h1, h2, h3⟩ := canon_top hy h0
  have hd := dg_lt (nv ys) (ys.length - 1)
  have hd64 : dg (nv ys) (ys.length - 1) < 2 ^ 64 := Nat.lt_trans hd (by decide)
  obtain ⟨b1, b2, b3, b4⟩ := bl_spec hd64
  have b5 := bl_le hd64 (k := 32) hd
  have b6 : o_bl (dg (nv ys) (ys.length - 1)) ≠ 0 := fun e => by have := b4.1 e; omega
  refine ⟨by omega, nv_lt hx, h1, h0, hl, Nat.two_pow_pos _, ?_⟩
  have e : 2 ^ o_bl (dg (nv ys) (ys.length - 1)) * 2 ^ s = B := by rw [hs, ← Nat.pow_add, show o_bl (dg (nv ys) (ys.length - 1)) + (32 - o_bl (dg (nv ys) (ys.length - 1))) = 32 by omega]
  obtain ⟨k, hk⟩ : ∃ k, ys.length = k + 1 := ⟨ys.length - 1, by omega⟩
  have h4 := nv_lt hy.1
  rw [hk] at h4 b1 e ⊢
  rw [Nat.add_sub_cancel] at b1 e
  have h5 := top_words k h4 rfl
  rw [← h5] at b1 e
  have h6 : nv ys < B ^ k * (nv ys / B ^ k + 1) := Nat.lt_mul_div_succ _ (pow_pos' k)
  calc nv ys * 2 ^ s < B ^ k * (nv ys / B ^ k + 1) * 2 ^ s := Nat.mul_lt_mul_of_pos_right h6 (Nat.two_pow_pos s)
    _ ≤ B ^ k * 2 ^ o_bl (nv ys / B ^ k) * 2 ^ s := Nat.mul_le_mul_right _ (Nat.mul_le_mul_left _ b1)
    _ = B ^ (k + 1) := by rw [Nat.mul_assoc, e, Nat.pow_succ]
theorem scaled_word {xs ys : List Int} (hx : Words xs) (hy : Canon ys) (h0 : 0 < ys.length) (hl : ys.length ≤ xs.length) (d : Nat) (hd : d = B / (dg (nv ys) (ys.length - 1) + 1)) : d < B ∧ Scaled (nv xs) (nv ys) d xs.length ys.length := by
  obtain ⟨h1, h2, h3⟩ := canon_top hy h0
  have ht := dg_lt (nv ys) (ys.length - 1)
  obtain ⟨t, htt⟩ : ∃ t, t = dg (nv ys) (ys.length - 1) := ⟨_, rfl⟩
  rw [← htt] at ht h2 hd
  have hdm : d * (t + 1) ≤ B := by rw [hd]; exact Nat.div_mul_le_self _ _
  have hdp : 0 < d := by rw [hd]; exact Nat.div_pos (by omega) (by omega)
  have hd2 : d * 2 ≤ B := Nat.le_trans (Nat.mul_le_mul_left _ (by omega)) hdm
  refine ⟨by unfold B at *; omega, nv_lt hx, h1, h0, hl, hdp, ?_⟩
  obtain ⟨k, hk⟩ : ∃ k, ys.length = k + 1 := ⟨ys.length - 1, by omega⟩
  have h4 := nv_lt hy.1
  rw [hk] at h4 htt ⊢
  rw [Nat.add_sub_cancel] at htt
  have h5 := top_words k h4 rfl
  rw [← h5] at htt
  have h6 : nv ys < B ^ k * (nv ys / B ^ k + 1) := Nat.lt_mul_div_succ _ (pow_pos' k)
  rw [← htt] at h6
  calc nv ys * d < B ^ k * (t + 1) * d := Nat.mul_lt_mul_of_pos_right h6 hdp
    _ = B ^ k * (d * (t + 1)) := by rw [Nat.mul_assoc, Nat.mul_comm (t + 1)]
    _ ≤ B ^ k * B := Nat.mul_le_mul_left _ hdm
    _ = B ^ (k + 1) := by rw [Nat.pow_succ]

end Go.Proofs.YtkfdnpbpebmhaaaGreatDoor.Num
section
set_option maxRecDepth 100000
namespace Go.Proofs.YtkfdnpbpebmhaaaGreatDoor.Spec
open Go Go.RowKit Sx Num

theorem runF93 (xs : List Int) (s : Int) : fnFEx Tryz.prog (lk E6) L93 (G1 []) 60 Tryz.f93 [roW xs, num s] = (let q1 := nv xs % B ^ List.length xs * (2 : Nat) ^ Int.toNat s; let q2 := List.length xs + (1 : Nat); let q4 := (↑(List.length xs) : Int); let q0 := q4 + (1 : Int); let q5 := IntKind.wrap .i64 q0; let q3 := Int.toNat q5 = List.length xs + (1 : Nat); some ((27 : Nat), EK.u32, dgs q2 q1, [(0 : Int) ≤ IntKind.wrap .i64 q0 ∧ IntKind.wrap .i64 q0 ≤ IntKind.wrap .i64 q0 ∧ IntKind.wrap .i64 q0 ≤ (1099511627776 : Int), (0 : Int) ≤ s ∧ s < (32 : Int), q3, q3, xs = xs, q4 = q4, (0 : Int) = (0 : Int), List.replicate (Int.toNat q5) (0 : Int) = List.replicate q2 (0 : Int), Words xs, List.length xs < (137438953472 : Nat), (0 : Nat) = (0 : Nat) ∧ List.length xs + (1 : Nat) = List.length (dgs q2 q1) ∧ List.length xs + (1 : Nat) = List.length (dgs q2 q1)])) := by kernel_rfl
end Go.Proofs.YtkfdnpbpebmhaaaGreatDoor.Spec
end
namespace Go.Proofs.YtkfdnpbpebmhaaaGreatDoor.Spec
open Go Go.RowKit Sx Num

/-- Shifted to the left: a new slice. -/
def spShlF : SpF
  | [.one (.row .u32 xs), .one (.v (.int .i64 s))] => some (27, .u32, dgs (xs.length + 1) (nv xs * 2 ^ s.toNat), [0 ≤ s ∧ s < 32, Words xs, xs.length < 137438953472])
  | _ => none
theorem conF93 : ConF Tryz.prog 93 spShlF := by
  refine conF_runL (fn := Tryz.f93) hmix E6ok.hS (by kernel_rfl) (fun _ => by kernel_rfl) ?_
  intro avs ty k xs' ps hsp hps
  unfold spShlF at hsp
  split at hsp
  · rename_i xs s
    simp only [Option.some.injEq, Prod.mk.injEq] at hsp
    obtain ⟨rfl, rfl, rfl, rfl⟩ := hsp
    obtain ⟨hs, hw, hl, _⟩ := hps
    have w1 : IntKind.wrap IntKind.i64 ((xs.length : Int) + 1) = ((xs.length + 1 : Nat) : Int) := by rw [wi64 _ (by omega) (by omega)]; omega
    refine ⟨rfl, L93, lo93, _, _, _, _, _, _, runF93 xs s, rfl, rfl, by rw [Nat.mod_eq_of_lt (nv_lt hw)], ?_⟩
    simp only [AllP, w1, dgs_length, tnc]
    simp [hw, hs, hl]
    omega
  · cases hsp
def E10 : List (Nat × Ctr) := (93, .nf spShlF) :: E9
theorem E10ok : EnvOk Tryz.prog E10 := .cons conF93 E9ok

def I59 (ty ty2 : TypeId) (xs ys : List Int) (s i : Nat) : St :=
  ⟨[(8, .s (num s)), (9, .s (slW 43 0 (xs.length + 1) (xs.length + 1))), (10, .s (roW (enc (nv ys * 2 ^ s)))), (11, .s (slW 53 0 (xs.length + 1 - ys.length) (xs.length + 1 - ys.length))), (55, .s (num ((xs.length + 1 - ys.length : Nat) : Int))), (56, .s (num i))],
   [(43, box32 ty (dgs (xs.length + 1) (nv xs * 2 ^ s % (nv ys * 2 ^ s * B ^ (xs.length + 1 - ys.length - i))))), (53, box32 ty2 (o_U (xs.length + 1 - ys.length) (nv xs / nv ys) (xs.length + 1 - ys.length - i)))]⟩
def F59 (xs ys : List Int) (st : St) : Option (Ex × St × List Prop) :=
  match liv st.boxes 0, lk st.tmps 8, lk st.tmps 9, lk st.tmps 10, lk st.tmps 11, lk st.tmps 55, lk st.tmps 56, lk st.boxes 43, lk st.boxes 53 with
  | false, some (.s (.one (.v (.int .i64 s)))), some (.s (.one (.sl 43 0 len cap))), some (.s (.one (.row .u32 vs))), some (.s (.one (.sl 53 0 len2 cap2))), some (.s (.one (.v (.int .i64 n)))), some (.s (.one (.v (.int .i64 i)))), some ⟨ty, .ints .u32 zs, true⟩, some ⟨ty2, .ints .u32 qs, true⟩ =>
    some (.exit 0, I59 ty ty2 xs ys s.toNat (xs.length + 1 - ys.length), [0 ≤ s ∧ s < 32, len = xs.length + 1, cap = xs.length + 1, vs = enc (nv ys * 2 ^ s.toNat), len2 = xs.length + 1 - ys.length, cap2 = xs.length + 1 - ys.length, n = ((xs.length + 1 - ys.length : Nat) : Int), i = 0, zs = dgs (xs.length + 1) (nv xs * 2 ^ s.toNat), qs = List.replicate (xs.length + 1 - ys.length) 0,
      Scaled (nv xs) (nv ys) (2 ^ s.toNat) xs.length ys.length, 2 ≤ ys.length, xs.length < 137438953471])
  | _, _, _, _, _, _, _, _, _ => none
def L59 (xs ys : List Int) : Loops := fun k => bif Nat.beq k 10 then some (F59 xs ys) else none
def I74 (ty ty2 : TypeId) (xs ys : List Int) (d k : Nat) : St :=
  ⟨[(8, .s (num ys.length)), (9, .s (u64 d)), (10, .s (roW (enc (nv ys * d)))), (11, .s (slW 55 0 (xs.length + 1) (xs.length + 1))), (12, .s (slW 67 0 (xs.length + 1 - ys.length) (xs.length + 1 - ys.length))), (13, .s (num ((k : Int) - 1)))],
   [(55, box32 ty (dgs (xs.length + 1) (nv xs * d % (nv ys * d * B ^ k)))), (67, box32 ty2 (o_U (xs.length + 1 - ys.length) (nv xs / nv ys) k))]⟩
def F74 (xs ys : List Int) (st : St) : Option (Ex × St × List Prop) :=
  match liv st.boxes 0, lk st.tmps 8, lk st.tmps 9, lk st.tmps 10, lk st.tmps 11, lk st.tmps 12, lk st.tmps 13, lk st.boxes 55, lk st.boxes 67 with
  | false, some (.s (.one (.v (.int .i64 n)))), some (.s (.one (.v (.int .u64 d)))), some (.s (.one (.row .u32 vs))), some (.s (.one (.sl 55 0 len cap))), some (.s (.one (.sl 67 0 len2 cap2))), some (.s (.one (.v (.int .i64 j)))), some ⟨ty, .ints .u32 zs, true⟩, some ⟨ty2, .ints .u32 qs, true⟩ =>
    some (.exit 0, I74 ty ty2 xs ys d.toNat 0, [0 ≤ d, n = ys.length, len = xs.length + 1, cap = xs.length + 1, vs = enc (nv ys * d.toNat), len2 = xs.length + 1 - ys.length, cap2 = xs.length + 1 - ys.length, j = ((xs.length + 1 - ys.length : Nat) : Int) - 1, zs = dgs (xs.length + 1) (nv xs * d.toNat), qs = List.replicate (xs.length + 1 - ys.length) 0,
      Scaled (nv xs) (nv ys) d.toNat xs.length ys.length, 2 ≤ ys.length, xs.length < 137438953471])
  | _, _, _, _, _, _, _, _, _ => none
def L74 (xs ys : List Int) : Loops := fun k => bif Nat.beq k 13 then some (F74 xs ys) else none

end Go.Proofs.YtkfdnpbpebmhaaaGreatDoor.Spec
section
set_option maxRecDepth 100000
namespace Go.Proofs.YtkfdnpbpebmhaaaGreatDoor.Spec
open Go Go.RowKit Sx Num

theorem loop59a (ty ty2 : TypeId) (xs ys : List Int) (s i : Nat) : codeV Tryz.prog (lk E10) L0 (G1 []) Tryz.f59.ntmps 60 (loopC Tryz.f59 0) [8, 9, 10, 11, 55, 56] [43, 53] (I59 ty ty2 xs ys s i) = (let q2 := enc (nv ys * (2 : Nat) ^ s); let q3 := List.length xs + (1 : Nat) - List.length ys; let q0 := IntKind.wrap .i64 ((↑q3 : Int) - (1 : Int)) - (↑i : Int); let q5 := IntKind.wrap .i64 (IntKind.wrap .i64 q0 + (↑(List.length q2) : Int)) + (1 : Int); let q6 := List.length q2 + (1 : Nat); let q7 := List.length xs + (1 : Nat); let q8 := List.length xs + (1 : Nat) - List.length ys - i; let q1 := dgs q7 (nv xs * (2 : Nat) ^ s % (nv ys * (2 : Nat) ^ s * B ^ q8)); let q9 := IntKind.wrap .i64 q0; let q4 := (0 : Nat) + Int.toNat q9; let q10 := o_U q3 (nv xs / nv ys) q8; some (Ex.normal, { tmps := [((8 : Nat), AV.s (SV.one (LV.v (Value.int .i64 (↑s : Int))))), ((9 : Nat), AV.s (SV.one (LV.sl (43 : Nat) (0 : Nat) q7 q7))), ((10 : Nat), AV.s (SV.one (LV.row EK.u32 q2))), ((11 : Nat), AV.s (SV.one (LV.sl (53 : Nat) (0 : Nat) q3 q3))), ((55 : Nat), AV.s (SV.one (LV.v (Value.int .i64 (↑q3 : Int))))), ((56 : Nat), AV.s (SV.one (LV.v (Value.int .i64 (IntKind.wrap .i64 ((↑i : Int) + (1 : Int)))))))], boxes := [((43 : Nat), { ty := ty, bc := BC.ints EK.u32 (o_win q1 q4 (dgs q6 (o_u q1 q4 q6 % nv q2))), mut_ := true }), ((53 : Nat), { ty := ty2, bc := BC.ints EK.u32 (List.set q10 q4 (↑(o_u q1 q4 q6 / nv q2) : Int)), mut_ := true })] }, [decide ((↑i : Int) < (↑q3 : Int)) = true, (0 : Int) ≤ IntKind.wrap .i64 q0 ∧ IntKind.wrap .i64 q0 ≤ IntKind.wrap .i64 q5 ∧ IntKind.wrap .i64 q5 ≤ (↑q7 : Int) ∧ IntKind.wrap .i64 q0 < (↑q7 : Int), Int.toNat (IntKind.wrap .i64 q5) - Int.toNat q9 = List.length q2 + (1 : Nat), (0 : Nat) + Int.toNat q9 + q6 ≤ List.length q1, Words q1, Words q2, (2 : Nat) ≤ List.length q2, (0 : Nat) < dg (nv q2) (List.length q2 - (1 : Nat)), o_u q1 q4 q6 < nv q2 * B, List.length q2 < (137438953472 : Nat), (0 : Int) ≤ IntKind.wrap .i64 q0 ∧ IntKind.wrap .i64 q0 < (↑q3 : Int), (0 : Nat) + Int.toNat q9 < List.length q10])) := by kernel_rfl
theorem loop59b (ty ty2 : TypeId) (xs ys : List Int) (s i : Nat) : codeV Tryz.prog (lk E10) L0 (G1 [57]) Tryz.f59.ntmps 60 (loopC Tryz.f59 0) [8, 9, 10, 11, 55, 56] [43, 53] (I59 ty ty2 xs ys s i) = (let q0 := List.length xs + (1 : Nat) - List.length ys; let q1 := List.length xs + (1 : Nat); let q2 := List.length xs + (1 : Nat) - List.length ys - i; some (Ex.exit (0 : Nat), { tmps := [((8 : Nat), AV.s (SV.one (LV.v (Value.int .i64 (↑s : Int))))), ((9 : Nat), AV.s (SV.one (LV.sl (43 : Nat) (0 : Nat) q1 q1))), ((10 : Nat), AV.s (SV.one (LV.row EK.u32 (enc (nv ys * (2 : Nat) ^ s))))), ((11 : Nat), AV.s (SV.one (LV.sl (53 : Nat) (0 : Nat) q0 q0))), ((55 : Nat), AV.s (SV.one (LV.v (Value.int .i64 (↑q0 : Int))))), ((56 : Nat), AV.s (SV.one (LV.v (Value.int .i64 (↑i : Int)))))], boxes := [((43 : Nat), { ty := ty, bc := BC.ints EK.u32 (dgs q1 (nv xs * (2 : Nat) ^ s % (nv ys * (2 : Nat) ^ s * B ^ q2))), mut_ := true }), ((53 : Nat), { ty := ty2, bc := BC.ints EK.u32 (o_U q0 (nv xs / nv ys) q2), mut_ := true })] }, [decide ((↑i : Int) < (↑q0 : Int)) = false])) := by kernel_rfl
theorem run59c (xs ys : List Int) : fnEx Tryz.prog (lk E10) (L59 xs ys) (G1 [17, 21]) 60 Tryz.f59 [roW xs, roW ys] = (let q5 := List.length xs + (1 : Nat) - List.length ys; let q6 := List.length xs + (1 : Nat) - List.length ys - q5; let q7 := List.length xs + (1 : Nat); let q13 := (↑(List.length ys) : Int); let q9 := Int.toNat (IntKind.wrap .i64 (q13 - (1 : Int))); let q4 := (↑(o_bl (Int.toNat (List.getD ys q9 (0 : Int)))) : Int); let q0 := (32 : Int) - q4; let q10 := nv xs * (2 : Nat) ^ Int.toNat q0; let q12 := (0 : Int) ≤ (32 : Int) - q4 ∧ (32 : Int) - q4 < (32 : Int); let q14 := dgs q7 (nv xs * (2 : Nat) ^ Int.toNat q0 % (nv ys * (2 : Nat) ^ Int.toNat q0 * B ^ q6)); let q2 := List.take q7 (List.drop (0 : Nat) q14); let q17 := List.length (dgs q7 q10) = List.length xs + (1 : Nat); let q18 := (9223372036854775807 : Nat); let q19 := nv ys * (2 : Nat) ^ Int.toNat q0; let q3 := dgs (List.length ys + (1 : Nat)) q19; let q8 := List.take (List.length q3) (List.drop (0 : Nat) q3); let q1 := (↑(List.length (dgs q7 q10)) : Int) - (↑(List.length (enc (nv q8))) : Int); let q16 := IntKind.wrap .i64 q1; let q15 := Int.toNat q16 = List.length xs + (1 : Nat) - List.length ys; let q20 := o_U q5 (nv xs / nv ys) q6; let q11 := List.take q5 (List.drop (0 : Nat) q20); some (AV.tup [SV.one (LV.row EK.u32 (enc (nv q11))), SV.one (LV.row EK.u32 (enc (nv (enc (nv q2)) / (2 : Nat) ^ Int.toNat (↑(Int.toNat q0) : Int))))], [Canon xs, Canon ys, Ln xs, Ln ys, decide (o_cmp (nv xs) (nv ys) < (0 : Int)) = false, decide (q13 = (1 : Int)) = false, (0 : Int) ≤ IntKind.wrap .i64 (q13 - (1 : Int)) ∧ IntKind.wrap .i64 (q13 - (1 : Int)) < q13, (0 : Int) ≤ List.getD ys q9 (0 : Int) ∧ List.getD ys q9 (0 : Int) ≤ (4294967295 : Int), q12, Words xs, List.length xs < (137438953472 : Nat), q12, Words ys, List.length ys < (137438953472 : Nat), (0 : Nat) + List.length q3 ≤ List.length q3 ∧ List.length q3 ≤ List.length q3 ∧ List.length q3 ≤ q18, Words q8, Ln q8, (0 : Int) ≤ IntKind.wrap .i64 q1 ∧ IntKind.wrap .i64 q1 ≤ IntKind.wrap .i64 q1 ∧ IntKind.wrap .i64 q1 ≤ (1099511627776 : Int), q12, q17, q17, enc (nv q8) = enc q19, q15, q15, (↑(Int.toNat q16) : Int) = (↑q5 : Int), (0 : Int) = (0 : Int), dgs q7 q10 = dgs q7 q10, List.replicate (Int.toNat q16) (0 : Int) = List.replicate q5 (0 : Int), Scaled (nv xs) (nv ys) ((2 : Nat) ^ Int.toNat q0) (List.length xs) (List.length ys), (2 : Nat) ≤ List.length ys, List.length xs < (137438953471 : Nat), (0 : Nat) + q5 ≤ List.length q20 ∧ List.length xs + (1 : Nat) - List.length ys ≤ List.length xs + (1 : Nat) - List.length ys ∧ List.length xs + (1 : Nat) - List.length ys ≤ q18, Words q11, Ln q11, (0 : Nat) + q7 ≤ List.length q14 ∧ List.length xs + (1 : Nat) ≤ List.length xs + (1 : Nat) ∧ List.length xs + (1 : Nat) ≤ q18, Words q2, Ln q2, (0 : Int) ≤ (↑(Int.toNat q0) : Int) ∧ (↑(Int.toNat q0) : Int) < (32 : Int), Words (enc (nv q2)), List.length (enc (nv q2)) < (137438953472 : Nat)])) := by kernel_rfl
theorem loop74a (ty ty2 : TypeId) (xs ys : List Int) (d k : Nat) : codeV Tryz.prog (lk E10) L0 (G1 []) Tryz.f74.ntmps 60 (loopC Tryz.f74 0) [8, 9, 10, 11, 12, 13] [55, 67] (I74 ty ty2 xs ys d k) = (let q4 := (↑k : Int) - (1 : Int); let q6 := List.length (enc (nv ys * d)) + (1 : Nat); let q7 := List.length xs + (1 : Nat) - List.length ys; let q8 := (0 : Nat) + Int.toNat q4; let q10 := List.length xs + (1 : Nat); let q3 := dgs q10 (nv xs * d % (nv ys * d * B ^ k)); let q11 := List.length (enc (nv ys * d)) < (137438953472 : Nat); let q14 := o_U q7 (nv xs / nv ys) k; let q15 := (↑(List.length ys) : Int); let q2 := IntKind.wrap .i64 ((↑k : Int) - (1 : Int) + q15) + (1 : Int); let q9 := IntKind.wrap .i64 q2; let q12 := Int.toNat q9 - Int.toNat q4 = List.length (enc (nv ys * d)) + (1 : Nat); let q13 := Int.toNat q9 - Int.toNat q4; let q0 := List.take q13 (List.drop q8 q3); let q5 := (↑(o_guess (nv q0) (nv (enc (nv ys * d))) (List.length (enc (nv ys * d)))) : Int); let q1 := o_win q3 q8 (dgs q6 (o_u q3 q8 q6 + B ^ q6 - Int.toNat q5 * nv (enc (nv ys * d)))); some (Ex.normal, { tmps := [((8 : Nat), AV.s (SV.one (LV.v (Value.int .i64 q15)))), ((9 : Nat), AV.s (SV.one (LV.v (Value.int .u64 (↑d : Int))))), ((10 : Nat), AV.s (SV.one (LV.row EK.u32 (enc (nv ys * d))))), ((11 : Nat), AV.s (SV.one (LV.sl (55 : Nat) (0 : Nat) q10 q10))), ((12 : Nat), AV.s (SV.one (LV.sl (67 : Nat) (0 : Nat) q7 q7))), ((13 : Nat), AV.s (SV.one (LV.v (Value.int .i64 (IntKind.wrap .i64 ((↑k : Int) - (1 : Int) - (1 : Int)))))))], boxes := [((55 : Nat), { ty := ty, bc := BC.ints EK.u32 (o_win q1 q8 (dgs q6 (o_u q1 q8 q6 + nv (enc (nv ys * d))))), mut_ := true }), ((67 : Nat), { ty := ty2, bc := BC.ints EK.u32 (List.set q14 q8 (IntKind.wrap .u32 (IntKind.wrap .u64 (q5 - (1 : Int))))), mut_ := true })] }, [decide ((0 : Int) ≤ (↑k : Int) - (1 : Int)) = true, (0 : Int) ≤ (↑k : Int) - (1 : Int) ∧ (↑k : Int) - (1 : Int) ≤ IntKind.wrap .i64 q2 ∧ IntKind.wrap .i64 q2 ≤ (↑q10 : Int) ∧ (↑k : Int) - (1 : Int) < (↑q10 : Int), (0 : Nat) + Int.toNat q4 + q13 ≤ List.length q3 ∧ Int.toNat q9 - Int.toNat q4 ≤ List.length xs + (1 : Nat) - Int.toNat q4 ∧ Int.toNat q9 - Int.toNat q4 ≤ (9223372036854775807 : Nat), List.length q0 = List.length (enc (nv ys * d)) + (1 : Nat), (2 : Nat) ≤ List.length (enc (nv ys * d)), Words q0, Words (enc (nv ys * d)), (0 : Nat) < dg (nv (enc (nv ys * d))) (List.length (enc (nv ys * d)) - (1 : Nat)), q11, q12, (0 : Nat) + Int.toNat q4 + q6 ≤ List.length q3, Words q3, Words (enc (nv ys * d)), (0 : Int) ≤ q5 ∧ q5 < (4294967296 : Int), q11, decide (o_u q3 q8 q6 < Int.toNat q5 * nv (enc (nv ys * d))) = true, q12, (0 : Nat) + Int.toNat q4 + q6 ≤ List.length q1, Words q1, Words (enc (nv ys * d)), q11, (0 : Int) ≤ (↑k : Int) - (1 : Int) ∧ (↑k : Int) - (1 : Int) < (↑q7 : Int), (0 : Nat) + Int.toNat q4 < List.length q14])) := by kernel_rfl
theorem loop74b (ty ty2 : TypeId) (xs ys : List Int) (d k : Nat) : codeV Tryz.prog (lk E10) L0 (G1 [89]) Tryz.f74.ntmps 60 (loopC Tryz.f74 0) [8, 9, 10, 11, 12, 13] [55, 67] (I74 ty ty2 xs ys d k) = (let q4 := (↑k : Int) - (1 : Int); let q5 := List.length xs + (1 : Nat) - List.length ys; let q6 := List.length (enc (nv ys * d)) + (1 : Nat); let q8 := List.length xs + (1 : Nat); let q2 := dgs q8 (nv xs * d % (nv ys * d * B ^ k)); let q9 := (0 : Nat) + Int.toNat q4; let q10 := List.length (enc (nv ys * d)) < (137438953472 : Nat); let q12 := o_U q5 (nv xs / nv ys) k; let q13 := (↑(List.length ys) : Int); let q1 := IntKind.wrap .i64 ((↑k : Int) - (1 : Int) + q13) + (1 : Int); let q7 := IntKind.wrap .i64 q1; let q11 := Int.toNat q7 - Int.toNat q4; let q0 := List.take q11 (List.drop q9 q2); let q3 := (↑(o_guess (nv q0) (nv (enc (nv ys * d))) (List.length (enc (nv ys * d)))) : Int); some (Ex.normal, { tmps := [((8 : Nat), AV.s (SV.one (LV.v (Value.int .i64 q13)))), ((9 : Nat), AV.s (SV.one (LV.v (Value.int .u64 (↑d : Int))))), ((10 : Nat), AV.s (SV.one (LV.row EK.u32 (enc (nv ys * d))))), ((11 : Nat), AV.s (SV.one (LV.sl (55 : Nat) (0 : Nat) q8 q8))), ((12 : Nat), AV.s (SV.one (LV.sl (67 : Nat) (0 : Nat) q5 q5))), ((13 : Nat), AV.s (SV.one (LV.v (Value.int .i64 (IntKind.wrap .i64 ((↑k : Int) - (1 : Int) - (1 : Int)))))))], boxes := [((55 : Nat), { ty := ty, bc := BC.ints EK.u32 (o_win q2 q9 (dgs q6 (o_u q2 q9 q6 + B ^ q6 - Int.toNat q3 * nv (enc (nv ys * d))))), mut_ := true }), ((67 : Nat), { ty := ty2, bc := BC.ints EK.u32 (List.set q12 q9 (IntKind.wrap .u32 q3)), mut_ := true })] }, [decide ((0 : Int) ≤ (↑k : Int) - (1 : Int)) = true, (0 : Int) ≤ (↑k : Int) - (1 : Int) ∧ (↑k : Int) - (1 : Int) ≤ IntKind.wrap .i64 q1 ∧ IntKind.wrap .i64 q1 ≤ (↑q8 : Int) ∧ (↑k : Int) - (1 : Int) < (↑q8 : Int), (0 : Nat) + Int.toNat q4 + q11 ≤ List.length q2 ∧ Int.toNat q7 - Int.toNat q4 ≤ List.length xs + (1 : Nat) - Int.toNat q4 ∧ Int.toNat q7 - Int.toNat q4 ≤ (9223372036854775807 : Nat), List.length q0 = List.length (enc (nv ys * d)) + (1 : Nat), (2 : Nat) ≤ List.length (enc (nv ys * d)), Words q0, Words (enc (nv ys * d)), (0 : Nat) < dg (nv (enc (nv ys * d))) (List.length (enc (nv ys * d)) - (1 : Nat)), q10, Int.toNat q7 - Int.toNat q4 = List.length (enc (nv ys * d)) + (1 : Nat), (0 : Nat) + Int.toNat q4 + q6 ≤ List.length q2, Words q2, Words (enc (nv ys * d)), (0 : Int) ≤ q3 ∧ q3 < (4294967296 : Int), q10, decide (o_u q2 q9 q6 < Int.toNat q3 * nv (enc (nv ys * d))) = false, (0 : Int) ≤ (↑k : Int) - (1 : Int) ∧ (↑k : Int) - (1 : Int) < (↑q5 : Int), (0 : Nat) + Int.toNat q4 < List.length q12])) := by kernel_rfl
theorem loop74c (ty ty2 : TypeId) (xs ys : List Int) (d k : Nat) : codeV Tryz.prog (lk E10) L0 (G1 [73]) Tryz.f74.ntmps 60 (loopC Tryz.f74 0) [8, 9, 10, 11, 12, 13] [55, 67] (I74 ty ty2 xs ys d k) = (let q0 := List.length xs + (1 : Nat) - List.length ys; let q1 := List.length xs + (1 : Nat); some (Ex.exit (0 : Nat), { tmps := [((8 : Nat), AV.s (SV.one (LV.v (Value.int .i64 (↑(List.length ys) : Int))))), ((9 : Nat), AV.s (SV.one (LV.v (Value.int .u64 (↑d : Int))))), ((10 : Nat), AV.s (SV.one (LV.row EK.u32 (enc (nv ys * d))))), ((11 : Nat), AV.s (SV.one (LV.sl (55 : Nat) (0 : Nat) q1 q1))), ((12 : Nat), AV.s (SV.one (LV.sl (67 : Nat) (0 : Nat) q0 q0))), ((13 : Nat), AV.s (SV.one (LV.v (Value.int .i64 ((↑k : Int) - (1 : Int))))))], boxes := [((55 : Nat), { ty := ty, bc := BC.ints EK.u32 (dgs q1 (nv xs * d % (nv ys * d * B ^ k))), mut_ := true }), ((67 : Nat), { ty := ty2, bc := BC.ints EK.u32 (o_U q0 (nv xs / nv ys) k), mut_ := true })] }, [decide ((0 : Int) ≤ (↑k : Int) - (1 : Int)) = false])) := by kernel_rfl
theorem run74c (xs ys : List Int) : fnEx Tryz.prog (lk E10) (L74 xs ys) (G1 [21, 25]) 60 Tryz.f74 [roW xs, roW ys] = (let q5 := List.length xs + (1 : Nat) - List.length ys; let q6 := (↑(List.length ys) : Int); let q9 := IntKind.wrap .u64 (List.getD ys (Int.toNat (IntKind.wrap .i64 (q6 - (1 : Int)))) (0 : Int)) + (1 : Int); let q0 := Int.tdiv (4294967296 : Int) (IntKind.wrap .u64 q9); let q4 := IntKind.wrap .u64 q0; let q10 := List.length xs + (1 : Nat); let q11 := (0 : Int) ≤ IntKind.wrap .u64 q0 ∧ IntKind.wrap .u64 q0 < (18446744073709551616 : Int); let q14 := dgs q10 (nv xs * Int.toNat q4 % (nv ys * Int.toNat q4 * B ^ (0 : Nat))); let q1 := List.take q10 (List.drop (0 : Nat) q14); let q15 := List.length (enc (Int.toNat q4)) < (137438953472 : Nat); let q16 := (↑(List.length xs) : Int); let q2 := IntKind.wrap .i64 (q16 - q6) + (1 : Int); let q7 := q16 + (1 : Int); let q3 := IntKind.wrap .i64 q7; let q13 := List.replicate (Int.toNat q3) (0 : Int); let q17 := Int.toNat q3 = List.length xs + (1 : Nat); let q18 := enc (nv xs * nv (enc (Int.toNat q4))); let q19 := o_U q5 (nv xs / nv ys) (0 : Nat); let q8 := List.take q5 (List.drop (0 : Nat) q19); let q20 := IntKind.wrap .i64 q2; let q12 := Int.toNat q20 = List.length xs + (1 : Nat) - List.length ys; let q21 := (9223372036854775807 : Nat); let q22 := Words (enc (Int.toNat q4)); some (AV.tup [SV.one (LV.row EK.u32 (enc (nv q8))), SV.one (LV.row EK.u32 (enc (nv (enc (nv q1)) / Int.toNat (↑(Int.toNat q4) : Int))))], [Canon xs, Canon ys, Ln xs, Ln ys, decide (o_cmp (nv xs) (nv ys) < (0 : Int)) = false, decide (q6 = (1 : Int)) = false, (0 : Int) ≤ IntKind.wrap .i64 (q6 - (1 : Int)) ∧ IntKind.wrap .i64 (q6 - (1 : Int)) < q6, ¬IntKind.wrap .u64 q9 = (0 : Int), q11, Words ys, q22, List.length ys < (137438953472 : Nat), q15, (0 : Int) ≤ IntKind.wrap .i64 q7 ∧ IntKind.wrap .i64 q7 ≤ IntKind.wrap .i64 q7 ∧ IntKind.wrap .i64 q7 ≤ (1099511627776 : Int), q11, Words xs, q22, List.length xs < (137438953472 : Nat), q15, (0 : Nat) + Int.toNat q3 ≤ List.length q13, (0 : Int) ≤ IntKind.wrap .i64 q2 ∧ IntKind.wrap .i64 q2 ≤ IntKind.wrap .i64 q2 ∧ IntKind.wrap .i64 q2 ≤ (1099511627776 : Int), (0 : Int) ≤ IntKind.wrap .u64 q0, q6 = q6, q17, q17, enc (nv ys * nv (enc (Int.toNat q4))) = enc (nv ys * Int.toNat q4), q12, q12, IntKind.wrap .i64 (q16 - q6) = (↑q5 : Int) - (1 : Int), List.take (0 : Nat) q13 ++ (List.take (Int.toNat q3) q18 ++ List.drop ((0 : Nat) + min (List.length q18) (Int.toNat q3)) q13) = dgs q10 (nv xs * Int.toNat q4), List.replicate (Int.toNat q20) (0 : Int) = List.replicate q5 (0 : Int), Scaled (nv xs) (nv ys) (Int.toNat q4) (List.length xs) (List.length ys), (2 : Nat) ≤ List.length ys, List.length xs < (137438953471 : Nat), (0 : Nat) + q10 ≤ List.length q14 ∧ List.length xs + (1 : Nat) ≤ List.length xs + (1 : Nat) ∧ List.length xs + (1 : Nat) ≤ q21, Words q1, Ln q1, (0 : Int) < (↑(Int.toNat q4) : Int) ∧ (↑(Int.toNat q4) : Int) < (4294967296 : Int), Words (enc (nv q1)), Ln (enc (nv q1)), (0 : Nat) + q5 ≤ List.length q19 ∧ List.length xs + (1 : Nat) - List.length ys ≤ List.length xs + (1 : Nat) - List.length ys ∧ List.length xs + (1 : Nat) - List.length ys ≤ q21, Words q8, Ln q8])) := by kernel_rfl
theorem run59a' (xs ys : List Int) : fnEx Tryz.prog (lk E10) (L59 xs ys) (G1 []) 60 Tryz.f59 [roW xs, roW ys] = some (AV.tup [SV.one (LV.v (Value.slice none (0 : Nat) (0 : Nat))), SV.one (LV.row EK.u32 xs)], [Canon xs, Canon ys, Ln xs, Ln ys, decide (o_cmp (nv xs) (nv ys) < (0 : Int)) = true]) := by kernel_rfl
theorem run59b' (xs ys : List Int) : fnEx Tryz.prog (lk E10) (L59 xs ys) (G1 [17]) 60 Tryz.f59 [roW xs, roW ys] = (let q1 := List.getD ys (Int.toNat (0 : Int)) (0 : Int); let q0 := List.take (1 : Nat) (List.drop (0 : Nat) [(↑(nv xs % Int.toNat q1) : Int)]); let q2 := (↑(List.length ys) : Int); some (AV.tup [SV.one (LV.row EK.u32 (enc (nv xs / Int.toNat q1))), SV.one (LV.row EK.u32 (enc (nv q0)))], [Canon xs, Canon ys, Ln xs, Ln ys, decide (o_cmp (nv xs) (nv ys) < (0 : Int)) = false, decide (q2 = (1 : Int)) = true, (0 : Int) ≤ (0 : Int) ∧ (0 : Int) < q2, (0 : Int) < List.getD ys (Int.toNat (0 : Int)) (0 : Int) ∧ List.getD ys (Int.toNat (0 : Int)) (0 : Int) < (4294967296 : Int), Words xs, Ln xs, (0 : Nat) + (1 : Nat) ≤ (0 : Nat) + (1 : Nat) ∧ (1 : Nat) ≤ (1 : Nat) ∧ (1 : Nat) ≤ (9223372036854775807 : Nat), Words q0, Ln q0])) := by kernel_rfl
theorem run74a' (xs ys : List Int) : fnEx Tryz.prog (lk E10) (L74 xs ys) (G1 []) 60 Tryz.f74 [roW xs, roW ys] = some (AV.tup [SV.one (LV.v (Value.slice none (0 : Nat) (0 : Nat))), SV.one (LV.row EK.u32 xs)], [Canon xs, Canon ys, Ln xs, Ln ys, decide (o_cmp (nv xs) (nv ys) < (0 : Int)) = true]) := by kernel_rfl
theorem run74b' (xs ys : List Int) : fnEx Tryz.prog (lk E10) (L74 xs ys) (G1 [21]) 60 Tryz.f74 [roW xs, roW ys] = (let q0 := List.getD ys (Int.toNat (0 : Int)) (0 : Int); let q2 := IntKind.wrap .u64 q0; let q1 := (↑(nv xs % Int.toNat q2) : Int); let q3 := (↑(List.length ys) : Int); some (AV.tup [SV.one (LV.row EK.u32 (enc (nv xs / Int.toNat q2))), SV.one (LV.row EK.u32 (enc (Int.toNat q1)))], [Canon xs, Canon ys, Ln xs, Ln ys, decide (o_cmp (nv xs) (nv ys) < (0 : Int)) = false, decide (q3 = (1 : Int)) = true, (0 : Int) ≤ (0 : Int) ∧ (0 : Int) < q3, (0 : Int) < IntKind.wrap .u64 q0 ∧ IntKind.wrap .u64 q0 < (4294967296 : Int), Words xs, Ln xs, (0 : Int) ≤ q1 ∧ q1 < (18446744073709551616 : Int)])) := by kernel_rfl
end Go.Proofs.YtkfdnpbpebmhaaaGreatDoor.Spec
end
