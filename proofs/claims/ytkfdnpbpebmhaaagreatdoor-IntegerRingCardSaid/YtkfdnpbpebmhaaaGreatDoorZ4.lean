/- Contracts: taking a multiple away in place, the estimate of the reference; Contracts: the estimate of the reference, taking away and giving back in place; Contracts off the library: numbers of bits; Dividing rows of words, digit by digit: plain numbers; Run: shifting, into a new slice; Long division: the invariants; Runs: long division; Contracts: long division; Contracts: long division of the reference; Integers as numbers: contracts that speak of them; Runs: integers. -/
import Derived.Test.YtkfdnpbpebmhaaaGreatDoorProg
import Derived.Test.YtkfdnpbpebmhaaaGreatDoorZ0
import Derived.Test.YtkfdnpbpebmhaaaGreatDoorZ1
import Derived.Test.YtkfdnpbpebmhaaaGreatDoorZ2
import Derived.Test.YtkfdnpbpebmhaaaGreatDoorZ3
namespace Go.Proofs.YtkfdnpbpebmhaaaGreatDoor.Spec
open Go Go.RowKit Sx Num

/-- The greatest multiple is taken away in place; the answer is how often. -/
def spReduce : SpM := fun k zs off len _ avs => match k, avs with
  | .u32, [.one (.row .u32 ys)] => some (.s (u32 ((o_u zs off (ys.length + 1) / nv ys : Nat))), o_win zs off (dgs (ys.length + 1) (o_u zs off (ys.length + 1) % nv ys)),
      [len = ys.length + 1, off + (ys.length + 1) ≤ zs.length, Words zs, Words ys, 2 ≤ ys.length, 0 < dg (nv ys) (ys.length - 1), o_u zs off (ys.length + 1) < nv ys * B, ys.length < 137438953472])
  | _, _ => none
theorem lo94 (zs : List Int) : ∀ c ∈ loopsF Tryz.f94, LoopOk Tryz.prog Tryz.f94.ntmps (L94 zs) c := by
  rw [show loopsF Tryz.f94 = [loopC Tryz.f94 0, loopC Tryz.f94 1, loopC Tryz.f94 2, loopC Tryz.f94 3] by kernel_rfl]
  intro c hc
  simp only [List.mem_cons, List.not_mem_nil, or_false] at hc
  rcases hc with rfl | rfl | rfl | rfl
  · exact lo94a _ rfl
  · exact lo94b _ rfl
  · exact lo94c zs _ rfl
  · exact lo94d _ rfl
theorem est_rows {zs ys : List Int} {off : Nat} (hoff : off + (ys.length + 1) ≤ zs.length) (hw : Words zs) (hw' : Words ys) (h2 : 2 ≤ ys.length) (hp : 0 < dg (nv ys) (ys.length - 1)) (hlt : o_u zs off (ys.length + 1) < nv ys * B) :
    Est (o_u zs off (ys.length + 1)) (nv ys) (ys.length - 2) (dg (o_u zs off (ys.length + 1)) ys.length * B + dg (o_u zs off (ys.length + 1)) (ys.length - 1)) (dg (nv ys) (ys.length - 1)) (dg (nv ys) (ys.length - 2)) (dg (o_u zs off (ys.length + 1)) (ys.length - 2)) := by
  obtain ⟨m, hm⟩ : ∃ m, ys.length = m + 2 := ⟨ys.length - 2, by omega⟩
  have h := est_mk (m := m) (u := o_u zs off (ys.length + 1)) (v := nv ys) (by have := u_lt hoff hw; rw [hm] at this ⊢; exact this) (by have := nv_lt hw'; rwa [hm] at this) (by rw [hm] at hp; exact hp) hlt
  rw [hm] at h ⊢
  exact h
theorem u64_lt (x : Nat) (h : x < B) : IntKind.wrap IntKind.u64 (x : Int) = x := by
  rw [w64]
  exact Int.emod_eq_of_lt (Int.natCast_nonneg _) (by unfold B at h; omega)
theorem two_cast (a b : Nat) : (a : Int) * 4294967296 + (b : Int) = ((a * B + b : Nat) : Int) := by
  rw [Int.natCast_add, Int.natCast_mul]; rfl
theorem two_div (a b c : Nat) (ha : a < c) (hb : b < B) : (a * B + b) / c < B := by
  rw [Nat.div_lt_iff_lt_mul (by omega)]
  have : (a + 1) * B ≤ c * B := Nat.mul_le_mul_right _ ha
  rw [Nat.add_mul, Nat.one_mul] at this
  rw [Nat.mul_comm B]
  omega
theorem div_nat (a b c : Nat) (hc : c < B) (ha : a < c) (hb : b < B) : IntKind.wrap IntKind.u64 (((a : Int) * 4294967296 + (b : Int)) / (c : Int)) = (((a * B + b) / c : Nat) : Int) ∧ (a * B + b) / c < B ∧ IntKind.wrap IntKind.u64 (((a : Int) * 4294967296 + (b : Int)) % (c : Int)) = (((a * B + b) % c : Nat) : Int) ∧ (a * B + b) % c < B := by
  have h1 := two_div a b c ha hb
  have h2 : (a * B + b) % c < B := Nat.lt_trans (Nat.mod_lt _ (by omega)) hc
  refine ⟨?_, h1, ?_, h2⟩
  · rw [two_cast, ← Int.natCast_ediv]; exact u64_lt _ h1
  · rw [two_cast, ← Int.natCast_emod]; exact u64_lt _ h2
/-- (no definitional step) -/
theorem tnc (n : Nat) : Int.toNat (n : Int) = n := by omega
theorem con94 : ConM Tryz.prog 94 spReduce := by
  refine conM_runL (fn := Tryz.f94) hmix E7ok.hS (by kernel_rfl) (fun _ => by kernel_rfl) ?_
  intro k zs off len cap avs r xs' ps hsp hps
  unfold spReduce at hsp
  split at hsp
  · rename_i ys
    simp only [Option.some.injEq, Prod.mk.injEq] at hsp
    obtain ⟨rfl, rfl, rfl⟩ := hsp
    obtain ⟨rfl, hoff, hw, hw', h2, hp, hlt, hl, _⟩ := hps
    refine ⟨rfl, wdgs_len hoff, fun ty => ⟨L94 zs, lo94 zs, ?_⟩⟩
    have hE := est_rows hoff hw hw' h2 hp hlt
    have hV : 0 < nv ys := hE.vpos
    have hQB := hE.quot_lt
    have hVl : nv ys < B ^ ys.length := nv_lt hw'
    have hUl : o_u zs off (ys.length + 1) < B ^ (ys.length + 1) := u_lt hoff hw
    have w1 : IntKind.wrap IntKind.i64 ((ys.length : Int) - 1) = ((ys.length - 1 : Nat) : Int) := by rw [wi64 _ (by omega) (by omega)]; omega
    have g1 : ys.getD (ys.length - 1) 0 = ((dg (nv ys) (ys.length - 1) : Nat) : Int) := nv_getD hw' _
    have g2 : zs.getD (off + ys.length) 0 = ((dg (o_u zs off (ys.length + 1)) ys.length : Nat) : Int) := u_get hw (by omega)
    have g3 : zs.getD (off + (ys.length - 1)) 0 = ((dg (o_u zs off (ys.length + 1)) (ys.length - 1) : Nat) : Int) := u_get hw (by omega)
    have b1 := dg_lt (nv ys) (ys.length - 1)
    have b2 := dg_lt (o_u zs off (ys.length + 1)) ys.length
    have b3 := dg_lt (o_u zs off (ys.length + 1)) (ys.length - 1)
    have wr : IntKind.wrap IntKind.u32 ((o_u zs off (ys.length + 1) / nv ys : Nat) : Int) = ((o_u zs off (ys.length + 1) / nv ys : Nat) : Int) := by
      rw [w32]
      generalize o_u zs off (ys.length + 1) / nv ys = Q at *
      unfold B at hQB; omega
    by_cases hc : dg (o_u zs off (ys.length + 1)) ys.length < dg (nv ys) (ys.length - 1)
    · obtain ⟨d1, d2, d3, d4⟩ := div_nat _ (dg (o_u zs off (ys.length + 1)) (ys.length - 1)) _ b1 hc b3
      obtain ⟨r1, r2⟩ := red_spec hE _ _ (by rw [Nat.mul_comm]; exact Nat.div_add_mod _ _) hE.start
      have hcI : ((dg (o_u zs off (ys.length + 1)) ys.length : Nat) : Int) < ((dg (nv ys) (ys.length - 1) : Nat) : Int) := by exact_mod_cast hc
      obtain ⟨Q, hQ⟩ : ∃ Q, Q = o_red2 (o_u zs off (ys.length + 1)) (nv ys) ys.length ((dg (o_u zs off (ys.length + 1)) ys.length * B + dg (o_u zs off (ys.length + 1)) (ys.length - 1)) / dg (nv ys) (ys.length - 1)) ((dg (o_u zs off (ys.length + 1)) ys.length * B + dg (o_u zs off (ys.length + 1)) (ys.length - 1)) % dg (nv ys) (ys.length - 1)) := ⟨_, rfl⟩
      have hQ1 : o_u zs off (ys.length + 1) / nv ys ≤ Q := by rw [hQ]; exact r1
      have hQ2 : Q < B := by rw [hQ]; exact Nat.lt_of_le_of_lt r2 d2
      have hbw := bw_end hUl (mul_lt_pow hQ2 hVl)
      refine ⟨_, _, _, _, _, run94a ty zs off cap ys, ?_, rfl, ?_⟩
      · rw [wr]; rfl
      · simp only [AllP, w1, tnc, g1, g2, g3, d1, d3, ← hQ, hbw, mix_full]
        generalize (dg (o_u zs off (ys.length + 1)) ys.length * B + dg (o_u zs off (ys.length + 1)) (ys.length - 1)) / dg (nv ys) (ys.length - 1) = q0 at *
        generalize (dg (o_u zs off (ys.length + 1)) ys.length * B + dg (o_u zs off (ys.length + 1)) (ys.length - 1)) % dg (nv ys) (ys.length - 1) = r0 at *
        generalize o_u zs off (ys.length + 1) / nv ys = Q' at *
        unfold B at d2 d4 b1 b2 b3 hQ2
        refine ⟨trivial, ⟨by omega, by omega⟩, by omega, ⟨by omega, by omega⟩, decide_eq_true hcI, ⟨by omega, by omega⟩, by omega, ⟨by omega, by omega⟩, by omega, ⟨by omega, by omega⟩, ⟨by omega, by omega⟩, ⟨by omega, by omega⟩, ⟨by omega, by omega⟩, hcI, trivial, trivial, ⟨by omega, by omega⟩, ⟨by omega, by omega⟩, hoff, hw, hw', h2, hl, trivial, ⟨by omega, by omega⟩, trivial, trivial, by omega, trivial, hoff, hw, hw', hl, trivial, ⟨by omega, by omega⟩, by omega, trivial, trivial, hoff, hw, hw', hV, hl, trivial⟩
    · have hcI : ¬ ((dg (o_u zs off (ys.length + 1)) ys.length : Nat) : Int) < ((dg (nv ys) (ys.length - 1) : Nat) : Int) := by
        intro h; apply hc; exact_mod_cast h
      have hbw := bw_end hUl (mul_lt_pow (d := 4294967295) (by decide) hVl)
      have h4 : Int.toNat 4294967295 = 4294967295 := rfl
      refine ⟨_, _, _, _, _, run94b ty zs off cap ys, ?_, rfl, ?_⟩
      · rw [wr]; rfl
      · simp only [AllP, w1, tnc, g1, g2, h4, hbw, mix_full]
        generalize o_u zs off (ys.length + 1) / nv ys = Q' at *
        unfold B at hQB
        refine ⟨trivial, ⟨by omega, by omega⟩, by omega, ⟨by omega, by omega⟩, decide_eq_false hcI, trivial, ⟨by omega, by omega⟩, trivial, trivial, by omega, trivial, hoff, hw, hw', hl, trivial, ⟨by omega, by omega⟩, by omega, trivial, trivial, hoff, hw, hw', hV, hl, trivial⟩
  · cases hsp

/-! the reference's estimate -/
def V113 (x : List Int × List Int × Nat × Nat) : Prop := x.1.length = x.2.1.length + 1 ∧ 2 ≤ x.2.1.length ∧ Words x.1 ∧ Words x.2.1 ∧ x.2.1.length < 137438953472 ∧ x.2.2.1 < 18446744073709551616 ∧ x.2.2.2 < B
theorem sub113 {st : St} {e : Ex} {s : St} {obs : List Prop} (h : F113 st = some (e, s, obs)) (hob : AllP obs) : ∃ x : List Int × List Int × Nat × Nat, V113 x ∧ SubS st (I113 x.1 x.2.1 x.2.2.1 x.2.2.2) ∧ e = .exit 0 ∧ s = ⟨[(7, .s (u64 ((o_gue2 (nv x.1) (nv x.2.1) x.2.1.length x.2.2.1 x.2.2.2 : Nat))))], []⟩ := by
  unfold F113 at h
  split at h
  · rename_i us ys n q r hz h1 h2 h3 h4 h5
    simp only [Option.some.injEq, Prod.mk.injEq] at h
    obtain ⟨rfl, rfl, rfl⟩ := h
    obtain ⟨rfl, ⟨hq0, hq⟩, ⟨hr0, hr⟩, hlen, h2l, hw, hw', hl, _⟩ := hob
    obtain ⟨q, rfl⟩ := Int.eq_ofNat_of_zero_le hq0
    obtain ⟨r, rfl⟩ := Int.eq_ofNat_of_zero_le hr0
    refine ⟨(us, ys, q, r), ⟨hlen, h2l, hw, hw', hl, by show q < _; omega, by show r < B; unfold B; omega⟩, ⟨?_, ?_, ?_⟩, rfl, rfl⟩
    · intro p hp
      simp only [I113, List.mem_cons, List.not_mem_nil, or_false] at hp
      rcases hp with rfl | rfl | rfl | rfl | rfl <;> exact ⟨by assumption, rfl⟩
    · intro p hp; cases hp
    · rw [hz]; intro h; cases h
  · cases h
theorem lo113 : ∀ c ∈ loopsF Tryz.f113, LoopOk Tryz.prog Tryz.f113.ntmps L113 c := by
  rw [show loopsF Tryz.f113 = [loopC Tryz.f113 0] by kernel_rfl]
  intro c hc
  rw [List.mem_singleton] at hc
  subst hc
  refine loop_ok (k := 5) (f := F113) (α := List Int × List Int × Nat × Nat) (by kernel_rfl) rfl (fun x => I113 x.1 x.2.1 x.2.2.1 x.2.2.2) (fun x => ⟨[(7, .s (u64 ((o_gue2 (nv x.1) (nv x.2.1) x.2.1.length x.2.2.1 x.2.2.2 : Nat))))], []⟩) V113 (fun x => x.2.2.1) (.exit 0) (by simp) (fun st e s obs h hob => sub113 h hob) ?_
  rintro ⟨us, ys, q, r⟩ ⟨hlen, h2, hw, hw', hl, hq, hr⟩
  simp only at hlen hw hw' h2 hl hq hr ⊢
  have hno : ∀ d ∈ loopsOf (loopC Tryz.f113 0), LoopOk Tryz.prog Tryz.f113.ntmps L0 d := by rw [show loopsOf (loopC Tryz.f113 0) = [] by kernel_rfl]; intro d hd; cases hd
  have w1 : IntKind.wrap IntKind.i64 ((ys.length : Int) - 1) = ((ys.length - 1 : Nat) : Int) := by rw [wi64 _ (by omega) (by omega)]; omega
  have w2 : IntKind.wrap IntKind.i64 ((ys.length : Int) - 2) = ((ys.length - 2 : Nat) : Int) := by rw [wi64 _ (by omega) (by omega)]; omega
  have g1 : ys.getD (ys.length - 1) 0 = ((dg (nv ys) (ys.length - 1) : Nat) : Int) := nv_getD hw' _
  have g2 : ys.getD (ys.length - 2) 0 = ((dg (nv ys) (ys.length - 2) : Nat) : Int) := nv_getD hw' _
  have g3 : us.getD (ys.length - 2) 0 = ((dg (nv us) (ys.length - 2) : Nat) : Int) := nv_getD hw _
  obtain ⟨v1, hv1⟩ : ∃ v, v = dg (nv ys) (ys.length - 1) := ⟨_, rfl⟩
  obtain ⟨v2, hv2⟩ : ∃ v, v = dg (nv ys) (ys.length - 2) := ⟨_, rfl⟩
  obtain ⟨u3, hu3⟩ : ∃ v, v = dg (nv us) (ys.length - 2) := ⟨_, rfl⟩
  have b1 : v1 < B := by rw [hv1]; exact dg_lt _ _
  have b2 : v2 < B := by rw [hv2]; exact dg_lt _ _
  have b3 : u3 < B := by rw [hu3]; exact dg_lt _ _
  have hgue : ∀ q r, o_gue2 (nv us) (nv ys) ys.length q r = o_gue v1 v2 u3 q r := fun q r => by rw [o_gue2, ← hv1, ← hv2, ← hu3]
  rw [← hv1] at g1
  rw [← hv2] at g2
  rw [← hu3] at g3
  have wr : IntKind.wrap IntKind.u64 ((r : Int) + IntKind.wrap IntKind.u64 (v1 : Int)) = ((r + v1 : Nat) : Int) := by simp only [w64]; unfold B at *; omega
  have wu : IntKind.wrap IntKind.u64 (IntKind.wrap IntKind.u64 ((r : Int) * 4294967296) + IntKind.wrap IntKind.u64 (u3 : Int)) = ((r * B + u3 : Nat) : Int) := by simp only [w64]; unfold B at *; omega
  simp only [hgue]
  by_cases hqB : B ≤ q
  · obtain ⟨p, rfl⟩ : ∃ p, q = p + 1 := ⟨q - 1, by unfold B at hqB; omega⟩
    have wq : IntKind.wrap IntKind.u64 (((p + 1 : Nat) : Int) - 1) = (p : Int) := by rw [w64]; omega
    have hqI : (4294967296 : Int) ≤ ((p + 1 : Nat) : Int) := by unfold B at hqB; omega
    by_cases hrB : B ≤ r + v1
    · have hrI : (4294967296 : Int) ≤ ((r + v1 : Nat) : Int) := by unfold B at hrB; omega
      refine (codeV_sound hmix E7ok.hS hno (loop113d us ys (p + 1) r) ?_).mono ?_
      · simp only [AllP, w1, Int.toNat_natCast, g1, wr, decide_eq_true hqI, decide_eq_true hrI]
        simp; omega
      · rintro e s ⟨rfl, hs⟩
        rw [wq] at hs
        rw [o_gue, if_pos (.inl hqB), if_pos hrB]
        exact .inr ⟨rfl, hs⟩
    · have hrI : ¬ (4294967296 : Int) ≤ ((r + v1 : Nat) : Int) := by unfold B at hrB; omega
      refine (codeV_sound hmix E7ok.hS hno (loop113c us ys (p + 1) r) ?_).mono ?_
      · simp only [AllP, w1, Int.toNat_natCast, g1, wr, decide_eq_true hqI, decide_eq_false hrI]
        simp; omega
      · rintro e s ⟨rfl, hs⟩
        simp only [wq, w1, Int.toNat_natCast, g1, wr] at hs
        refine .inl ⟨rfl, (us, ys, p, r + v1), ⟨hlen, h2, hw, hw', hl, by show p < _; omega, by show r + v1 < B; omega⟩, by simp only; omega, hs, ?_⟩
        conv => rhs; rw [o_gue, if_pos (.inl hqB), if_neg hrB]
        simp only [hgue]
  · have hqI : ¬ (4294967296 : Int) ≤ (q : Int) := by unfold B at hqB; omega
    have hm : IntKind.wrap IntKind.u64 ((q : Int) * IntKind.wrap IntKind.u64 (v2 : Int)) = ((q * v2 : Nat) : Int) := by
      have hb : q * v2 < B * B := Nat.mul_lt_mul_of_lt_of_le (by omega) (Nat.le_of_lt b2) (by decide)
      simp only [w64]
      have e : (q : Int) * v2 = ((q * v2 : Nat) : Int) := by push_cast; rfl
      unfold B at *
      rw [show (v2 : Int) % 18446744073709551616 = v2 by omega, e]
      generalize q * v2 = y at *
      omega
    by_cases hlt : r * B + u3 < q * v2
    · have hqp : 0 < q := by
        rcases Nat.eq_zero_or_pos q with e | e
        · subst e; omega
        · exact e
      obtain ⟨p, rfl⟩ : ∃ p, q = p + 1 := ⟨q - 1, by omega⟩
      have hI : ((r * B + u3 : Nat) : Int) < (((p + 1) * v2 : Nat) : Int) := by exact_mod_cast hlt
      have wq : IntKind.wrap IntKind.u64 (((p + 1 : Nat) : Int) - 1) = (p : Int) := by rw [w64]; omega
      by_cases hrB : B ≤ r + v1
      · have hrI : (4294967296 : Int) ≤ ((r + v1 : Nat) : Int) := by unfold B at hrB; omega
        refine (codeV_sound hmix E7ok.hS hno (loop113b us ys (p + 1) r) ?_).mono ?_
        · simp only [AllP, w1, w2, Int.toNat_natCast, g1, g2, g3, wr, wu, hm, decide_eq_false hqI, decide_eq_true hI, decide_eq_true hrI]
          simp; omega
        · rintro e s ⟨rfl, hs⟩
          rw [wq] at hs
          rw [o_gue, if_pos (.inr hlt), if_pos hrB]
          exact .inr ⟨rfl, hs⟩
      · have hrI : ¬ (4294967296 : Int) ≤ ((r + v1 : Nat) : Int) := by unfold B at hrB; omega
        refine (codeV_sound hmix E7ok.hS hno (loop113a us ys (p + 1) r) ?_).mono ?_
        · simp only [AllP, w1, w2, Int.toNat_natCast, g1, g2, g3, wr, wu, hm, decide_eq_false hqI, decide_eq_true hI, decide_eq_false hrI]
          simp; omega
        · rintro e s ⟨rfl, hs⟩
          simp only [wq, w1, Int.toNat_natCast, g1, wr] at hs
          refine .inl ⟨rfl, (us, ys, p, r + v1), ⟨hlen, h2, hw, hw', hl, by show p < _; omega, by show r + v1 < B; omega⟩, by simp only; omega, hs, ?_⟩
          conv => rhs; rw [o_gue, if_pos (.inr hlt), if_neg hrB]
          simp only [hgue]
    · have hI : ¬ ((r * B + u3 : Nat) : Int) < ((q * v2 : Nat) : Int) := by intro h; apply hlt; exact_mod_cast h
      refine (codeV_sound hmix E7ok.hS hno (loop113e us ys q r) ?_).mono ?_
      · simp only [AllP, w2, Int.toNat_natCast, g2, g3, wu, hm, decide_eq_false hqI, decide_eq_false hI]
        simp; omega
      · rintro e s ⟨rfl, hs⟩
        refine .inr ⟨rfl, ?_⟩
        have e1 : o_gue v1 v2 u3 q r = q := by
          cases q with
          | zero => rfl
          | succ q => rw [o_gue, if_neg (by omega)]
        rw [e1]; exact hs

end Go.Proofs.YtkfdnpbpebmhaaaGreatDoor.Spec
namespace Go.Proofs.YtkfdnpbpebmhaaaGreatDoor.Num
open Go.Proofs.YtkfdnpbpebmhaaaGreatDoor.Spec
/-- The reference's estimate of a digit. -/
def o_guess (U V n : Nat) : Nat := o_gue2 U V n ((dg U n * B + dg U (n - 1)) / dg V (n - 1)) ((dg U n * B + dg U (n - 1)) % dg V (n - 1))
end Go.Proofs.YtkfdnpbpebmhaaaGreatDoor.Num
namespace Go.Proofs.YtkfdnpbpebmhaaaGreatDoor.Spec
open Go Go.RowKit Sx Num

def spGuess : Sp
  | [.one (.row .u32 us), .one (.row .u32 ys)] => some (.s (u64 ((o_guess (nv us) (nv ys) ys.length : Nat))), [us.length = ys.length + 1, 2 ≤ ys.length, Words us, Words ys, 0 < dg (nv ys) (ys.length - 1), ys.length < 137438953472])
  | _ => none
theorem two_wrap (a b : Nat) (ha : a < B) (hb : b < B) : IntKind.wrap IntKind.u64 (IntKind.wrap IntKind.u64 (IntKind.wrap IntKind.u64 (a : Int) * 4294967296) + IntKind.wrap IntKind.u64 (b : Int)) = ((a * B + b : Nat) : Int) ∧ a * B + b < 18446744073709551616 := by
  simp only [w64]; unfold B at *; omega
theorem con113 : Con Tryz.prog 113 spGuess := by
  refine con_run (L := L113) (fn := Tryz.f113) hmix E7ok.hS lo113 (by kernel_rfl) (fun _ => by kernel_rfl) ?_
  intro avs r ps hsp hps
  unfold spGuess at hsp
  split at hsp
  · rename_i us ys
    simp only [Option.some.injEq, Prod.mk.injEq] at hsp
    obtain ⟨rfl, rfl⟩ := hsp
    obtain ⟨hlen, h2, hw, hw', hp, hl, _⟩ := hps
    have w1 : IntKind.wrap IntKind.i64 ((ys.length : Int) - 1) = ((ys.length - 1 : Nat) : Int) := by rw [wi64 _ (by omega) (by omega)]; omega
    have g1 : ys.getD (ys.length - 1) 0 = ((dg (nv ys) (ys.length - 1) : Nat) : Int) := nv_getD hw' _
    have g2 : us.getD ys.length 0 = ((dg (nv us) ys.length : Nat) : Int) := nv_getD hw _
    have g3 : us.getD (ys.length - 1) 0 = ((dg (nv us) (ys.length - 1) : Nat) : Int) := nv_getD hw _
    have b1 := dg_lt (nv ys) (ys.length - 1)
    have b2 := dg_lt (nv us) ys.length
    have b3 := dg_lt (nv us) (ys.length - 1)
    obtain ⟨hT, hTb⟩ := two_wrap _ _ b2 b3
    have hv := u64_lt _ b1
    obtain ⟨t, ht⟩ : ∃ t, t = dg (nv us) ys.length * B + dg (nv us) (ys.length - 1) := ⟨_, rfl⟩
    obtain ⟨v, hv1⟩ : ∃ v, v = dg (nv ys) (ys.length - 1) := ⟨_, rfl⟩
    rw [← ht] at hT hTb
    rw [← hv1] at hp b1 hv g1
    have hq : IntKind.wrap IntKind.u64 (Int.tdiv (t : Int) (v : Int)) = ((t / v : Nat) : Int) := by
      rw [Int.tdiv_eq_ediv_of_nonneg (Int.natCast_nonneg _), ← Int.natCast_ediv, w64]
      have := Nat.div_le_self t v
      generalize t / v = q at *
      omega
    have hr : Int.tmod (t : Int) (v : Int) = ((t % v : Nat) : Int) := by
      rw [Int.tmod_eq_emod_of_nonneg (Int.natCast_nonneg _), ← Int.natCast_emod]
    have q1 : t / v < 18446744073709551616 := Nat.lt_of_le_of_lt (Nat.div_le_self t v) hTb
    have q2 : t % v < B := Nat.lt_trans (Nat.mod_lt _ hp) b1
    refine ⟨rfl, _, _, _, _, run113 us ys, ?_, ?_⟩
    · simp only [w1, tnc, g1, g2, g3, hT, hv, hq, hr]
      rw [o_guess, ← ht, ← hv1]
      rfl
    · simp only [AllP, w1, tnc, g1, g2, g3, hT, hv, hq, hr]
      generalize t / v = q at *
      generalize t % v = r at *
      unfold B at *
      refine ⟨⟨by omega, by omega⟩, ⟨by omega, by omega⟩, ⟨by omega, by omega⟩, by omega, ⟨by omega, by omega⟩, by omega, trivial, ⟨by omega, by omega⟩, ⟨by omega, by omega⟩, hlen, h2, hw, hw', hl, trivial⟩
  · cases hsp

/-! taking away in place -/
theorem sub114 {st : St} {e : Ex} {s : St} {obs : List Prop} (h : F114 st = some (e, s, obs)) (hob : AllP obs) : ∃ x : W6, V94b x ∧ SubS st (I114 x.1 x.2.1 x.2.2.1 x.2.2.2.1 x.2.2.2.2.1 x.2.2.2.2.2.1 x.2.2.2.2.2.2) ∧ e = .exit 0 ∧ s = I114 x.1 x.2.1 x.2.2.1 x.2.2.2.1 x.2.2.2.2.1 x.2.2.2.2.2.1 (x.2.2.2.2.1.length + 1) := by
  unfold F114 at h
  split at h
  · rename_i off len cap ys q c b i ty zs h1 h2 h3 h4 h5 h6 h7
    simp only [Option.some.injEq, Prod.mk.injEq] at h
    obtain ⟨rfl, rfl, rfl⟩ := h
    obtain ⟨rfl, ⟨hq0, hq⟩, rfl, rfl, rfl, hoff, hw, hw', hl, _⟩ := hob
    obtain ⟨q, rfl⟩ := Int.eq_ofNat_of_zero_le hq0
    refine ⟨(ty, zs, off, cap, ys, q, 0), ⟨hoff, hw, hw', hl, by show q < B; unfold B; omega, Nat.zero_le _⟩, ⟨?_, ?_, fun _ => rfl⟩, rfl, rfl⟩
    · intro p hp
      simp only [I114, List.mem_cons, List.not_mem_nil, or_false, cm_zero, bw_zero] at hp
      rcases hp with rfl | rfl | rfl | rfl | rfl | rfl <;> exact ⟨by assumption, rfl⟩
    · intro p hp
      simp only [I114, List.mem_cons, List.not_mem_nil, or_false, wmix_zero hoff hw] at hp
      subst hp
      exact ⟨by assumption, rfl⟩
  · cases h
theorem less_wrap (a x b : Nat) (ha : a < B) (hx : x < B) (hb : b ≤ 1) :
    IntKind.wrap IntKind.u64 (IntKind.wrap IntKind.u64 (IntKind.wrap IntKind.u64 (4294967296 + IntKind.wrap IntKind.u64 (a : Int)) - (x : Int)) - (b : Int)) = 4294967296 + (a : Int) - x - b := by
  simp only [w64]; unfold B at *; omega
theorem lo114 : ∀ c ∈ loopsF Tryz.f114, LoopOk Tryz.prog Tryz.f114.ntmps L114 c := by
  rw [show loopsF Tryz.f114 = [loopC Tryz.f114 0] by kernel_rfl]
  intro c hc
  rw [List.mem_singleton] at hc
  subst hc
  refine loop_ok (k := 4) (f := F114) (α := W6) (by kernel_rfl) rfl (fun x => I114 x.1 x.2.1 x.2.2.1 x.2.2.2.1 x.2.2.2.2.1 x.2.2.2.2.2.1 x.2.2.2.2.2.2) (fun x => I114 x.1 x.2.1 x.2.2.1 x.2.2.2.1 x.2.2.2.2.1 x.2.2.2.2.2.1 (x.2.2.2.2.1.length + 1)) V94b (fun x => x.2.2.2.2.1.length + 1 - x.2.2.2.2.2.2) (.exit 0) (by simp) (fun st e s obs h hob => sub114 h hob) ?_
  rintro ⟨ty, zs, off, cap, ys, q, i⟩ ⟨hoff, hw, hw', hl, hq, hi⟩
  simp only at hoff hw hw' hl hq hi ⊢
  have hno : ∀ d ∈ loopsOf (loopC Tryz.f114 0), LoopOk Tryz.prog Tryz.f114.ntmps L0 d := by rw [show loopsOf (loopC Tryz.f114 0) = [] by kernel_rfl]; intro d hd; cases hd
  by_cases hlt : i < ys.length + 1
  · have w3 : IntKind.wrap IntKind.i64 ((i : Int) + 1) = ((i + 1 : Nat) : Int) := by rw [wi64 _ (by omega) (by omega)]; omega
    obtain ⟨U, hU⟩ : ∃ U, U = o_u zs off (ys.length + 1) := ⟨_, rfl⟩
    obtain ⟨V, hV⟩ : ∃ V, V = nv ys := ⟨_, rfl⟩
    have hqV : q * V < B ^ (ys.length + 1) := mul_lt_pow hq (by rw [hV]; exact nv_lt hw')
    have hwl : (o_win zs off (o_mix (ys.length + 1) (U + B ^ (ys.length + 1) - q * V) U i)).length = zs.length := wmix_len hoff hi
    have hget : (o_win zs off (o_mix (ys.length + 1) (U + B ^ (ys.length + 1) - q * V) U i)).getD (off + i) 0 = ((dg U i : Nat) : Int) := wmix_get hoff hlt
    have hgy : ys.getD i 0 = ((dg V i : Nat) : Int) := by rw [hV]; exact nv_getD hw' i
    have hT := cm_wrap2 (v := V) (i := i) hq
    have hnn : (0 : Int) ≤ ((o_cm q V i + q * dg V i : Nat) : Int) := Int.natCast_nonneg _
    have hlo : Int.tmod ((o_cm q V i + q * dg V i : Nat) : Int) 4294967296 = ((dg (q * V) i : Nat) : Int) := by rw [Int.tmod_eq_emod_of_nonneg hnn, cm_lo]
    have hcmb := cm_le q V (i + 1)
    have hhi : IntKind.wrap IntKind.u64 (Int.tdiv ((o_cm q V i + q * dg V i : Nat) : Int) 4294967296) = ((o_cm q V (i + 1) : Nat) : Int) := by
      rw [Int.tdiv_eq_ediv_of_nonneg hnn, cm_hi]; exact u64_lt _ (by omega)
    have hdig := sub_dig U (q * V) (ys.length + 1) i hlt (by omega)
    have b1 := dg_lt U i
    have b2 := dg_lt (q * V) i
    have b3 := bw_le U (q * V) i
    have hlw := less_wrap _ _ _ b1 b2 b3
    have hrem : IntKind.wrap IntKind.u32 (Int.tmod (4294967296 + ((dg U i : Nat) : Int) - ((dg (q * V) i : Nat) : Int) - ((o_bw U (q * V) i : Nat) : Int)) 4294967296) = ((dg (U + B ^ (ys.length + 1) - q * V) i : Nat) : Int) := by
      rw [hdig, Int.tmod_eq_emod_of_nonneg (by unfold B at b1 b2; omega), w32]
      generalize dg U i = x at *
      generalize dg (q * V) i = y at *
      generalize o_bw U (q * V) i = z at *
      omega
    have hbw : IntKind.wrap IntKind.u64 (1 - IntKind.wrap IntKind.u64 (Int.tdiv (4294967296 + ((dg U i : Nat) : Int) - ((dg (q * V) i : Nat) : Int) - ((o_bw U (q * V) i : Nat) : Int)) 4294967296)) = ((o_bw U (q * V) (i + 1) : Nat) : Int) := by
      rw [bw_succ, Int.tdiv_eq_ediv_of_nonneg (by unfold B at b1 b2; omega), w64, w64]
      generalize dg U i = x at *
      generalize dg (q * V) i = y at *
      generalize o_bw U (q * V) i = z at *
      clear hT hlo hhi hdig hlw hrem hget hgy hwl
      unfold B at b1 b2
      split <;> omega
    refine (codeV_sound hmix E7ok.hS hno (loop114a ty zs off cap ys q i) ?_).mono ?_
    · simp only [AllP, tnc]
      rw [← hU, ← hV]
      simp only [hwl]
      refine ⟨by simp; omega, by omega, hw', by omega, ⟨by omega, by omega⟩, by omega, by omega, by omega, ⟨by omega, by omega⟩, by omega, by omega, trivial⟩
    · rintro e s ⟨rfl, hs⟩
      refine .inl ⟨rfl, (ty, zs, off, cap, ys, q, i + 1), ⟨hoff, hw, hw', hl, hq, by show i + 1 ≤ ys.length + 1; omega⟩, by simp only; omega, ?_, rfl⟩
      simp only [tnc, w3] at hs
      rw [← hU, ← hV] at hs
      simp only [hget, hgy, hT, hlo, hhi, hlw, hrem, hbw] at hs
      rw [wmix_set hoff hlt] at hs
      simp only [I114]
      rw [← hU, ← hV]
      exact hs
  · have : i = ys.length + 1 := by omega
    subst this
    refine (codeV_sound hmix E7ok.hS hno (loop114b ty zs off cap ys q _) ?_).mono ?_
    · simp [AllP]
    · rintro e s ⟨rfl, hs⟩
      exact .inr ⟨rfl, hs⟩
def spLess : SpM := fun k zs off len _ avs => match k, avs with
  | .u32, [.one (.row .u32 ys), .one (.v (.int .u64 q))] => some (.s (boo (decide (o_u zs off (ys.length + 1) < q.toNat * nv ys))), o_win zs off (dgs (ys.length + 1) (o_u zs off (ys.length + 1) + B ^ (ys.length + 1) - q.toNat * nv ys)),
      [len = ys.length + 1, off + (ys.length + 1) ≤ zs.length, Words zs, Words ys, 0 ≤ q ∧ q < 4294967296, ys.length < 137438953472])
  | _, _ => none
theorem con114 : ConM Tryz.prog 114 spLess := by
  refine conM_runL (fn := Tryz.f114) hmix E7ok.hS (by kernel_rfl) (fun _ => by kernel_rfl) ?_
  intro k zs off len cap avs r xs' ps hsp hps
  unfold spLess at hsp
  split at hsp
  · rename_i ys q
    simp only [Option.some.injEq, Prod.mk.injEq] at hsp
    obtain ⟨rfl, rfl, rfl⟩ := hsp
    obtain ⟨rfl, hoff, hw, hw', ⟨hq0, hq⟩, hl, _⟩ := hps
    obtain ⟨q, rfl⟩ := Int.eq_ofNat_of_zero_le hq0
    refine ⟨rfl, wdgs_len hoff, fun ty => ⟨L114, lo114, ?_⟩⟩
    have hqB : q < B := by unfold B; omega
    have hbw := bw_end (u_lt hoff hw) (mul_lt_pow hqB (nv_lt hw'))
    refine ⟨_, _, _, _, _, run114 ty zs off cap ys q, ?_, ?_, ?_⟩
    · rw [tnc, hbw]
      by_cases h : o_u zs off (ys.length + 1) < q * nv ys
      · rw [if_pos h, decide_eq_true h]; rfl
      · rw [if_neg h, decide_eq_false h]; rfl
    · rw [tnc, mix_full]
    · exact ⟨rfl, rfl, ⟨hq0, hq⟩, rfl, rfl, rfl, hoff, hw, hw', hl, trivial⟩
  · cases hsp

/-! giving back -/
theorem sub115 {st : St} {e : Ex} {s : St} {obs : List Prop} (h : F115 st = some (e, s, obs)) (hob : AllP obs) : ∃ x : W4 × List Int, (V94d (x.1.1, x.2, x.1.2.1, x.1.2.2.1, x.1.2.2.2.1, 0, 0, x.1.2.2.2.2)) ∧ SubS st (I115 x.1.1 x.2 x.1.2.1 x.1.2.2.1 x.1.2.2.2.1 x.1.2.2.2.2) ∧ e = .exit 0 ∧ s = I115 x.1.1 x.2 x.1.2.1 x.1.2.2.1 x.1.2.2.2.1 (x.1.2.2.2.1.length + 1) := by
  unfold F115 at h
  split at h
  · rename_i off len cap ys c i ty zs h1 h2 h3 h4 h5
    simp only [Option.some.injEq, Prod.mk.injEq] at h
    obtain ⟨rfl, rfl, rfl⟩ := h
    obtain ⟨rfl, rfl, rfl, hoff, hw, hw', hl, _⟩ := hob
    refine ⟨((ty, off, cap, ys, 0), zs), ⟨hoff, hw, hw', hl, Nat.zero_le _⟩, ⟨?_, ?_, fun _ => rfl⟩, rfl, rfl⟩
    · intro p hp
      simp only [I115, List.mem_cons, List.not_mem_nil, or_false, cy_zero] at hp
      rcases hp with rfl | rfl | rfl | rfl <;> exact ⟨by assumption, rfl⟩
    · intro p hp
      simp only [I115, List.mem_cons, List.not_mem_nil, or_false, wmix_zero hoff hw] at hp
      subst hp
      exact ⟨by assumption, rfl⟩
  · cases h
theorem lo115 : ∀ c ∈ loopsF Tryz.f115, LoopOk Tryz.prog Tryz.f115.ntmps L115 c := by
  rw [show loopsF Tryz.f115 = [loopC Tryz.f115 0] by kernel_rfl]
  intro c hc
  rw [List.mem_singleton] at hc
  subst hc
  refine loop_ok (k := 2) (f := F115) (α := W4 × List Int) (by kernel_rfl) rfl (fun x => I115 x.1.1 x.2 x.1.2.1 x.1.2.2.1 x.1.2.2.2.1 x.1.2.2.2.2) (fun x => I115 x.1.1 x.2 x.1.2.1 x.1.2.2.1 x.1.2.2.2.1 (x.1.2.2.2.1.length + 1)) (fun x => V94d (x.1.1, x.2, x.1.2.1, x.1.2.2.1, x.1.2.2.2.1, 0, 0, x.1.2.2.2.2)) (fun x => x.1.2.2.2.1.length + 1 - x.1.2.2.2.2) (.exit 0) (by simp) (fun st e s obs h hob => sub115 h hob) ?_
  rintro ⟨⟨ty, off, cap, ys, i⟩, zs⟩ ⟨hoff, hw, hw', hl, hi⟩
  simp only at hoff hw hw' hl hi ⊢
  have hno : ∀ d ∈ loopsOf (loopC Tryz.f115 0), LoopOk Tryz.prog Tryz.f115.ntmps L0 d := by rw [show loopsOf (loopC Tryz.f115 0) = [] by kernel_rfl]; intro d hd; cases hd
  by_cases hlt : i < ys.length + 1
  · have w3 : IntKind.wrap IntKind.i64 ((i : Int) + 1) = ((i + 1 : Nat) : Int) := by rw [wi64 _ (by omega) (by omega)]; omega
    obtain ⟨U, hU⟩ : ∃ U, U = o_u zs off (ys.length + 1) := ⟨_, rfl⟩
    obtain ⟨V, hV⟩ : ∃ V, V = nv ys := ⟨_, rfl⟩
    have hwl : (o_win zs off (o_mix (ys.length + 1) (U + V) U i)).length = zs.length := wmix_len hoff hi
    have hget : (o_win zs off (o_mix (ys.length + 1) (U + V) U i)).getD (off + i) 0 = ((dg U i : Nat) : Int) := wmix_get hoff hlt
    have hgy : ys.getD i 0 = ((dg V i : Nat) : Int) := by rw [hV]; exact nv_getD hw' i
    have b1 := dg_lt U i
    have b2 := dg_lt V i
    have b3 := cy_le U V i
    have hT : IntKind.wrap IntKind.u64 (IntKind.wrap IntKind.u64 (IntKind.wrap IntKind.u64 ((dg U i : Nat) : Int) + ((dg V i : Nat) : Int)) + ((o_cy U V i : Nat) : Int)) = ((dg U i + dg V i + o_cy U V i : Nat) : Int) := by
      simp only [w64]; unfold B at b1 b2; omega
    have hnn : (0 : Int) ≤ ((dg U i + dg V i + o_cy U V i : Nat) : Int) := Int.natCast_nonneg _
    have hdig : IntKind.wrap IntKind.u32 (Int.tmod ((dg U i + dg V i + o_cy U V i : Nat) : Int) 4294967296) = ((dg (U + V) i : Nat) : Int) := by
      rw [Int.tmod_eq_emod_of_nonneg hnn, dg_add, w32]; unfold B; omega
    have hcy : IntKind.wrap IntKind.u64 (Int.tdiv ((dg U i + dg V i + o_cy U V i : Nat) : Int) 4294967296) = ((o_cy U V (i + 1) : Nat) : Int) := by
      rw [Int.tdiv_eq_ediv_of_nonneg hnn, cy_succ, w64]; unfold B at *; omega
    refine (codeV_sound hmix E7ok.hS hno (loop115a ty zs off cap ys i) ?_).mono ?_
    · simp only [AllP, tnc]
      rw [← hU, ← hV]
      simp only [hwl]
      refine ⟨by simp; omega, ⟨by omega, by omega⟩, by omega, by omega, hw', by omega, ⟨by omega, by omega⟩, by omega, by omega, trivial⟩
    · rintro e s ⟨rfl, hs⟩
      refine .inl ⟨rfl, ((ty, off, cap, ys, i + 1), zs), ⟨hoff, hw, hw', hl, by show i + 1 ≤ ys.length + 1; omega⟩, by simp only; omega, ?_, rfl⟩
      simp only [tnc, w3] at hs
      rw [← hU, ← hV] at hs
      simp only [hget, hgy, hT, hdig, hcy] at hs
      rw [wmix_set hoff hlt] at hs
      simp only [I115]
      rw [← hU, ← hV]
      exact hs
  · have : i = ys.length + 1 := by omega
    subst this
    refine (codeV_sound hmix E7ok.hS hno (loop115b ty zs off cap ys _) ?_).mono ?_
    · simp [AllP]
    · rintro e s ⟨rfl, hs⟩
      exact .inr ⟨rfl, hs⟩
def spRest : SpM := fun k zs off len _ avs => match k, avs with
  | .u32, [.one (.row .u32 ys)] => some (.tup [], o_win zs off (dgs (ys.length + 1) (o_u zs off (ys.length + 1) + nv ys)),
      [len = ys.length + 1, off + (ys.length + 1) ≤ zs.length, Words zs, Words ys, ys.length < 137438953472])
  | _, _ => none
theorem con115 : ConM Tryz.prog 115 spRest := by
  refine conM_runL (fn := Tryz.f115) hmix E7ok.hS (by kernel_rfl) (fun _ => by kernel_rfl) ?_
  intro k zs off len cap avs r xs' ps hsp hps
  unfold spRest at hsp
  split at hsp
  · rename_i ys
    simp only [Option.some.injEq, Prod.mk.injEq] at hsp
    obtain ⟨rfl, rfl, rfl⟩ := hsp
    obtain ⟨rfl, hoff, hw, hw', hl, _⟩ := hps
    refine ⟨rfl, wdgs_len hoff, fun ty => ⟨L115, lo115, ?_⟩⟩
    refine ⟨_, _, _, _, _, run115 ty zs off cap ys, rfl, ?_, ?_⟩
    · rw [mix_full]
    · exact ⟨rfl, rfl, rfl, rfl, hoff, hw, hw', hl, trivial⟩
  · cases hsp

def E8 : List (Nat × Ctr) := (94, .mu spReduce) :: (113, .fn spGuess) :: (114, .mu spLess) :: (115, .mu spRest) :: E7
theorem E8ok : EnvOk Tryz.prog E8 := .cons con94 (.cons con113 (.cons con114 (.cons con115 E7ok)))

end Go.Proofs.YtkfdnpbpebmhaaaGreatDoor.Spec
namespace Go.Proofs.YtkfdnpbpebmhaaaGreatDoor.Spec
open Go Go.RowKit Sx Num

theorem gSs_vals {M : Nat → Prop} {β : Nat → Nat} {w : World} : ∀ {xs : List Value} {us : List Value}, gSs M β w (xs.map fun x => SV.one (.v x)) us → us = xs
  | [], [], _ => rfl
  | x :: xs, u :: us, h => by
    have h1 : u = x := h.1
    rw [h1, gSs_vals h.2]
  | [], _ :: _, h => h.elim
  | _ :: _, [], h => h.elim
/-- A contract of the library over plain values. -/
theorem con_calls {P : Program} {f : FuncId} {sp : Sp} (hent : ∀ args : Array Value, pureRun P (callFunc f args) = some (.enter f args))
    (h : ∀ avs r ps, sp avs = some (r, ps) → AllP ps → ∃ (xs : List Value) (u : Value), avs = (xs.map fun x => SV.one (.v x)) ∧ r.okB noB = true ∧ (∀ M β w', gA M β w' r u) ∧ ∀ w, Calls P f xs.toArray w fun e w' => e = .returned u ∧ Below w.heap.size w w') : Con P f sp := by
  refine ⟨hent, fun avs r ps hs hp M β w vs hM hg => ?_⟩
  obtain ⟨xs, u, rfl, hok, hgu, hc⟩ := h avs r ps hs (allP_iff.2 hp)
  have hvs : vs = xs.toArray := by apply Array.toList_inj.1; rw [gSs_vals hg]
  subst hvs
  exact (hc w).mono fun e w' ⟨he, hb⟩ => ⟨u, he, hok, hgu _ _ _, hb⟩
theorem below_rfl {w : World} {u v : Ending} {w' : World} (h : u = v ∧ w' = w) : u = v ∧ Below w.heap.size w w' := ⟨h.1, h.2 ▸ Below.refl _ _⟩

/-- How many bits a number has. -/
def o_bl (n : Nat) : Nat := Lib.bitLen n
def spLZ : Sp
  | [.one (.v (.int .u32 x))] => some (.s (num (32 - (o_bl x.toNat : Int))), [0 ≤ x ∧ x ≤ 4294967295])
  | _ => none
def spLen (k : IntKind) (m : Int) : Sp
  | [.one (.v (.int k' x))] => bif kEq k' k then some (.s (num (o_bl x.toNat)), [0 ≤ x ∧ x ≤ m]) else none
  | _ => none
theorem con92 : Con Tryz.prog 92 spLZ := by
  refine con_calls (fun _ => by kernel_rfl) fun avs r ps hs hp => ?_
  unfold spLZ at hs
  split at hs
  · rename_i x
    simp only [Option.some.injEq, Prod.mk.injEq] at hs
    obtain ⟨rfl, rfl⟩ := hs
    exact ⟨[.int .u32 x], _, rfl, rfl, fun _ _ _ => rfl, fun w => (Tryz.bits_LeadingZeros32 x w hp.1.1 hp.1.2).mono fun _ _ h => below_rfl h⟩
  · cases hs
theorem con73 : Con Tryz.prog 73 (spLen .u32 4294967295) := by
  refine con_calls (fun _ => by kernel_rfl) fun avs r ps hs hp => ?_
  unfold spLen at hs
  split at hs
  · rename_i k x
    rw [Bool.cond_eq_ite] at hs
    split at hs
    · rename_i hk
      have hk := kEq_iff.1 hk
      subst hk
      simp only [Option.some.injEq, Prod.mk.injEq] at hs
      obtain ⟨rfl, rfl⟩ := hs
      exact ⟨[.int .u32 x], _, rfl, rfl, fun _ _ _ => rfl, fun w => (Tryz.bits_Len32 x w hp.1.1 hp.1.2).mono fun _ _ h => below_rfl h⟩
    · cases hs
  · cases hs
theorem con96 : Con Tryz.prog 96 (spLen .u64 18446744073709551615) := by
  refine con_calls (fun _ => by kernel_rfl) fun avs r ps hs hp => ?_
  unfold spLen at hs
  split at hs
  · rename_i k x
    rw [Bool.cond_eq_ite] at hs
    split at hs
    · rename_i hk
      have hk := kEq_iff.1 hk
      subst hk
      simp only [Option.some.injEq, Prod.mk.injEq] at hs
      obtain ⟨rfl, rfl⟩ := hs
      exact ⟨[.int .u64 x], _, rfl, rfl, fun _ _ _ => rfl, fun w => (Tryz.bits_Len x w hp.1.1 hp.1.2).mono fun _ _ h => below_rfl h⟩
    · cases hs
  · cases hs
def E9 : List (Nat × Ctr) := (92, .fn spLZ) :: (73, .fn (spLen .u32 4294967295)) :: (96, .fn (spLen .u64 18446744073709551615)) :: E8
theorem E9ok : EnvOk Tryz.prog E9 := .cons con92 (.cons con73 (.cons con96 E8ok))

end Go.Proofs.YtkfdnpbpebmhaaaGreatDoor.Spec
namespace Go.Proofs.YtkfdnpbpebmhaaaGreatDoor.Num
open Go.Proofs.YtkfdnpbpebmhaaaGreatDoor.Spec

theorem bitLenAux_spec : ∀ (f x : Nat), x < 2 ^ f → x < 2 ^ Lib.bitLenAux f x ∧ (x ≠ 0 → 2 ^ (Lib.bitLenAux f x - 1) ≤ x) ∧ Lib.bitLenAux f x ≤ f ∧ (Lib.bitLenAux f x = 0 ↔ x = 0)
  | 0, x, h => by
    have : x = 0 := by simpa using h
    subst this
    simp [Lib.bitLenAux]
  | f + 1, x, h => by
    simp only [Lib.bitLenAux]
    by_cases h0 : x = 0
    · subst h0; simp
    · rw [if_neg h0]
      obtain ⟨h1, h2, h3, h4⟩ := bitLenAux_spec f (x / 2) (by rw [Nat.pow_succ] at h; omega)
      refine ⟨by rw [Nat.add_comm, Nat.pow_succ]; omega, fun _ => ?_, by omega, by omega⟩
      rw [Nat.add_comm, Nat.add_sub_cancel]
      by_cases h5 : x / 2 = 0
      · rw [h4.2 h5]; omega
      · have := h2 h5
        obtain ⟨b, hb⟩ : ∃ b, Lib.bitLenAux f (x / 2) = b + 1 := ⟨Lib.bitLenAux f (x / 2) - 1, by have := fun e => h5 (h4.1 e); omega⟩
        rw [hb] at this ⊢
        rw [Nat.add_sub_cancel] at this
        rw [Nat.pow_succ]
        omega
theorem bl_spec {x : Nat} (h : x < 2 ^ 64) : x < 2 ^ o_bl x ∧ (x ≠ 0 → 2 ^ (o_bl x - 1) ≤ x) ∧ o_bl x ≤ 64 ∧ (o_bl x = 0 ↔ x = 0) := bitLenAux_spec 64 x h
theorem bl_le {x k : Nat} (h : x < 2 ^ 64) (hk : x < 2 ^ k) : o_bl x ≤ k := by
  obtain ⟨_, h2, _, h4⟩ := bl_spec h
  by_cases h0 : x = 0
  · rw [h4.2 h0]; exact Nat.zero_le _
  · have h5 := h2 h0
    rcases Nat.lt_or_ge k (o_bl x) with h6 | h6
    · exfalso
      have : 2 ^ k ≤ 2 ^ (o_bl x - 1) := Nat.pow_le_pow_right (by decide) (by omega)
      omega
    · exact h6

theorem part_dgs {N k n a : Nat} (h : k + n ≤ N) : o_part (dgs N a) k n = dgs n (a / B ^ k) := by
  apply List.ext_getElem
  · rw [part_length (by rw [dgs_length]; exact h), dgs_length]
  · intro j h1 h2
    rw [dgs_length] at h2
    simp only [o_part, dgs, List.getElem_take, List.getElem_drop, List.getElem_map, List.getElem_range]
    congr 1
    unfold dg
    rw [Nat.pow_add, ← Nat.div_div_eq_div_mul]
theorem u_dgs {N k n a : Nat} (h : k + n ≤ N) : o_u (dgs N a) k n = a / B ^ k % B ^ n := by
  rw [o_u, part_dgs h, nv_dgs]
theorem dg_low (w lo k j : Nat) (h : j < k) : dg (lo + B ^ k * w) j = dg lo j := dg_add_mul lo w k j h
theorem dg_high (w lo k j : Nat) (hlo : lo < B ^ k) : dg (lo + B ^ k * w) (k + j) = dg w j := by
  unfold dg
  rw [Nat.pow_add, ← Nat.div_div_eq_div_mul, Nat.add_mul_div_left _ _ (pow_pos' k), Nat.div_eq_of_lt hlo, Nat.zero_add]
theorem win_dgs {N k n a w : Nat} (h : k + n ≤ N) (hw : w < B ^ n) (ha : a < B ^ (k + n)) : o_win (dgs N a) k (dgs n w) = dgs N (a % B ^ k + B ^ k * w) := by
  have hlo := Nat.mod_lt a (pow_pos' k)
  apply List.ext_getElem
  · rw [win_length (by rw [dgs_length, dgs_length]; exact h), dgs_length, dgs_length]
  · intro j h1 h2
    rw [dgs_length] at h2
    have hr : (dgs N (a % B ^ k + B ^ k * w))[j]'(by rw [dgs_length]; exact h2) = ((dg (a % B ^ k + B ^ k * w) j : Nat) : Int) := by simp [dgs]
    rw [hr]
    have e1 : (List.take k (dgs N a)).length = k := by rw [List.length_take, dgs_length]; omega
    simp only [o_win, List.append_assoc]
    rcases Nat.lt_or_ge j k with hj | hj
    · rw [List.getElem_append_left (by omega), dg_low _ _ _ _ hj, List.getElem_take]
      simp only [dgs, List.getElem_map, List.getElem_range]
      congr 1
      have := Nat.mod_add_div a (B ^ k)
      conv => lhs; rw [← this, dg_add_mul _ _ _ _ hj]
    · obtain ⟨i, rfl⟩ : ∃ i, j = k + i := ⟨j - k, by omega⟩
      rw [List.getElem_append_right (by omega), dg_high _ _ _ _ hlo]
      simp only [e1, Nat.add_sub_cancel_left]
      rcases Nat.lt_or_ge i n with hi | hi
      · rw [List.getElem_append_left (by rw [dgs_length]; exact hi)]
        simp [dgs]
      · rw [List.getElem_append_right (by rw [dgs_length]; exact hi), dg_big hw hi]
        simp only [dgs, List.getElem_drop, List.getElem_map, List.getElem_range, List.length_map, List.length_range]
        rw [show k + n + (i - n) = k + i by omega, dg_big ha (by omega)]

/-- The rest before digit k - 1: what is left of X after the digits from k on. -/
theorem rest_step (X V k : Nat) (hV : 0 < V) :
    X % (V * B ^ (k + 1)) / B ^ k < V * B ∧ X % (V * B ^ (k + 1)) / B ^ k / V = dg (X / V) k ∧ X % (V * B ^ (k + 1)) % B ^ k + B ^ k * (X % (V * B ^ (k + 1)) / B ^ k % V) = X % (V * B ^ k) := by
  have hp := pow_pos' k
  have e0 : V * B ^ (k + 1) = V * B ^ k * B := by rw [Nat.pow_succ, Nat.mul_assoc]
  refine ⟨?_, ?_, ?_⟩
  · rw [Nat.div_lt_iff_lt_mul hp, Nat.mul_assoc, Nat.mul_comm B, ← Nat.pow_succ]
    exact Nat.mod_lt _ (Nat.mul_pos hV (pow_pos' _))
  · rw [Nat.div_div_eq_div_mul, Nat.mul_comm (B ^ k) V, e0, Nat.mod_mul_right_div_self]
    unfold dg
    rw [Nat.div_div_eq_div_mul]
  · rw [← Nat.mod_mul, Nat.mul_comm (B ^ k) V]
    exact Nat.mod_mod_of_dvd _ ⟨B, e0⟩

/-- What is known of the scaled numbers: c is the scale. -/
structure Scaled (X Y c m n : Nat) : Prop where
  hX : X < B ^ m
  hY : B ^ n ≤ Y * B
  hn : 0 < n
  hnm : n ≤ m
  hc : 0 < c
  hV : Y * c < B ^ n
theorem Scaled.ypos {X Y c m n : Nat} (h : Scaled X Y c m n) : 0 < Y := by
  rcases Nat.eq_zero_or_pos Y with e | e
  · have := h.hY; rw [e, Nat.zero_mul] at this; have := pow_pos' n; omega
  · exact e
theorem Scaled.vpos {X Y c m n : Nat} (h : Scaled X Y c m n) : 0 < Y * c := Nat.mul_pos h.ypos h.hc
theorem Scaled.low {X Y c m n : Nat} (h : Scaled X Y c m n) : B ^ (n - 1) ≤ Y * c := by
  obtain ⟨k, hk⟩ : ∃ k, n = k + 1 := ⟨n - 1, by have := h.hn; omega⟩
  have h1 := h.hY
  rw [hk, Nat.pow_succ] at h1
  rw [hk, Nat.add_sub_cancel]
  have h2 : B ^ k ≤ Y := Nat.le_of_mul_le_mul_right h1 (by decide)
  exact Nat.le_trans h2 (Nat.le_mul_of_pos_right _ h.hc)
theorem Scaled.big {X Y c m n : Nat} (h : Scaled X Y c m n) : X * c < Y * c * B ^ (m + 1 - n) := by
  have h1 := h.hY
  have e : B ^ (m + 1) = B ^ n * B ^ (m + 1 - n) := by rw [← Nat.pow_add]; congr 1; have := h.hnm; omega
  have h2 : B ^ (m + 1) ≤ Y * B * B ^ (m + 1 - n) := by rw [e]; exact Nat.mul_le_mul_right _ h1
  have h3 : B ^ m ≤ Y * B ^ (m + 1 - n) := by
    rw [Nat.pow_succ] at h2
    have : B ^ m * B ≤ Y * B ^ (m + 1 - n) * B := by rw [Nat.mul_right_comm]; exact h2
    exact Nat.le_of_mul_le_mul_right this (by decide)
  rw [Nat.mul_right_comm]
  exact Nat.mul_lt_mul_of_pos_right (Nat.lt_of_lt_of_le h.hX h3) h.hc
theorem Scaled.quot {X Y c m n : Nat} (h : Scaled X Y c m n) : X * c / (Y * c) = X / Y := Nat.mul_div_mul_right _ _ h.hc
theorem Scaled.rem {X Y c m n : Nat} (_h : Scaled X Y c m n) : X * c % (Y * c) = X % Y * c := Nat.mul_mod_mul_right _ _ _
theorem Scaled.vlen {X Y c m n : Nat} (h : Scaled X Y c m n) : (enc (Y * c)).length = n := by
  have h1 := (enc_len (Y * c) n).2 h.hV
  have h2 := mt (enc_len (Y * c) (n - 1)).1 (Nat.not_lt.2 h.low)
  omega
theorem Scaled.top {X Y c m n : Nat} (h : Scaled X Y c m n) : 0 < dg (Y * c) (n - 1) := by
  have h1 := top_words (n - 1) h.hV (by have := h.hn; omega)
  rw [← h1]
  exact Nat.div_pos h.low (pow_pos' _)
theorem Scaled.xlt {X Y c m n : Nat} (h : Scaled X Y c m n) : X * c < B ^ (m + 1) := by
  have h1 := h.big
  have e : B ^ (m + 1) = B ^ n * B ^ (m + 1 - n) := by rw [← Nat.pow_add]; congr 1; have := h.hnm; omega
  rw [e]
  exact Nat.lt_of_lt_of_le h1 (Nat.mul_le_mul_right _ (Nat.le_of_lt h.hV))
theorem Scaled.rlt {X Y c m n : Nat} (h : Scaled X Y c m n) (k : Nat) : X * c % (Y * c * B ^ k) < B ^ (k + n) := by
  have h1 := Nat.mod_lt (X * c) (Nat.mul_pos h.vpos (pow_pos' k))
  refine Nat.lt_of_lt_of_le h1 ?_
  rw [Nat.pow_add, Nat.mul_comm]
  exact Nat.mul_le_mul_left _ (Nat.le_of_lt h.hV)

theorem canon_top {ys : List Int} (h : Canon ys) (h0 : 0 < ys.length) : B ^ ys.length ≤ nv ys * B ∧ 0 < dg (nv ys) (ys.length - 1) ∧ 0 < nv ys := by
  obtain ⟨k, hk⟩ : ∃ k, ys.length = k + 1 := ⟨ys.length - 1, by omega⟩
  have h1 : ¬ (enc (nv ys)).length ≤ k := by rw [enc_nv h]; omega
  rw [enc_len] at h1
  have h2 : B ^ k ≤ nv ys := Nat.not_lt.1 h1
  have h3 := nv_lt h.1
  rw [hk] at h3 ⊢
  refine ⟨by rw [Nat.pow_succ]; exact Nat.mul_le_mul_right _ h2, ?_, Nat.lt_of_lt_of_le (pow_pos' k) h2⟩
  rw [Nat.add_sub_cancel, ← top_words k h3 rfl]
  exact Nat.div_pos h2 (pow_pos' _)
theorem scaled_shift {xs ys : List Int} (hx : Words xs) (hy : Canon ys) (h0 : 0 < ys.length) (hl : ys.length ≤ xs.length) (s : Nat) (hs : s = 32 - o_bl (dg (nv ys) (ys.length - 1))) : s < 32 ∧ Scaled (nv xs) (nv ys) (2 ^ s) xs.length ys.length := by
  obtain ⟨h1, h2, h3⟩ := canon_top hy h0
  have hd := dg_lt (nv ys) (ys.length - 1)
  have hd64 : dg (nv ys) (ys.length - 1) < 2 ^ 64 := Nat.lt_trans hd (by decide)
  obtain ⟨b1, b2, b3, b4⟩ := bl_spec hd64
  have b5 := bl_le hd64 (k := 32) hd
  have b6 : o_bl (dg (nv ys) (ys.length - 1)) ≠ 0 := fun e => by have := b4.1 e; omega
  refine ⟨by omega, nv_lt hx, h1, h0, hl, Nat.two_pow_pos _, ?_⟩
  have e : 2 ^ o_bl (dg (nv ys) (ys.length - 1)) * 2 ^ s = B := by rw [hs, ← Nat.pow_add, show o_bl (dg (nv ys) (ys.length - 1)) + (32 - o_bl (dg (nv ys) (ys.length - 1))) = 32 by omega]
  obtain ⟨k, hk⟩ : ∃ k, ys.length = k + 1 := ⟨ys.length - 1, by omega⟩
  have h4 := nv_lt hy.1
  rw [hk] at h4 b1 e ⊢
  rw [Nat.add_sub_cancel] at b1 e
  have h5 := top_words k h4 rfl
  rw [← h5] at b1 e
  have h6 : nv ys < B ^ k * (nv ys / B ^ k + 1) := Nat.lt_mul_div_succ _ (pow_pos' k)
  calc nv ys * 2 ^ s < B ^ k * (nv ys / B ^ k + 1) * 2 ^ s := Nat.mul_lt_mul_of_pos_right h6 (Nat.two_pow_pos s)
    _ ≤ B ^ k * 2 ^ o_bl (nv ys / B ^ k) * 2 ^ s := Nat.mul_le_mul_right _ (Nat.mul_le_mul_left _ b1)
    _ = B ^ (k + 1) := by rw [Nat.mul_assoc, e, Nat.pow_succ]
theorem scaled_word {xs ys : List Int} (hx : Words xs) (hy : Canon ys) (h0 : 0 < ys.length) (hl : ys.length ≤ xs.length) (d : Nat) (hd : d = B / (dg (nv ys) (ys.length - 1) + 1)) : d < B ∧ Scaled (nv xs) (nv ys) d xs.length ys.length := by
  obtain ⟨h1, h2, h3⟩ := canon_top hy h0
  have ht := dg_lt (nv ys) (ys.length - 1)
  obtain ⟨t, htt⟩ : ∃ t, t = dg (nv ys) (ys.length - 1) := ⟨_, rfl⟩
  rw [← htt] at ht h2 hd
  have hdm : d * (t + 1) ≤ B := by rw [hd]; exact Nat.div_mul_le_self _ _
  have hdp : 0 < d := by rw [hd]; exact Nat.div_pos (by omega) (by omega)
  have hd2 : d * 2 ≤ B := Nat.le_trans (Nat.mul_le_mul_left _ (by omega)) hdm
  refine ⟨by unfold B at *; omega, nv_lt hx, h1, h0, hl, hdp, ?_⟩
  obtain ⟨k, hk⟩ : ∃ k, ys.length = k + 1 := ⟨ys.length - 1, by omega⟩
  have h4 := nv_lt hy.1
  rw [hk] at h4 htt ⊢
  rw [Nat.add_sub_cancel] at htt
  have h5 := top_words k h4 rfl
  rw [← h5] at htt
  have h6 : nv ys < B ^ k * (nv ys / B ^ k + 1) := Nat.lt_mul_div_succ _ (pow_pos' k)
  rw [← htt] at h6
  calc nv ys * d < B ^ k * (t + 1) * d := Nat.mul_lt_mul_of_pos_right h6 hdp
    _ = B ^ k * (d * (t + 1)) := by rw [Nat.mul_assoc, Nat.mul_comm (t + 1)]
    _ ≤ B ^ k * B := Nat.mul_le_mul_left _ hdm
    _ = B ^ (k + 1) := by rw [Nat.pow_succ]

end Go.Proofs.YtkfdnpbpebmhaaaGreatDoor.Num
section
set_option maxRecDepth 100000
namespace Go.Proofs.YtkfdnpbpebmhaaaGreatDoor.Spec
open Go Go.RowKit Sx Num

theorem runF93 (xs : List Int) (s : Int) : fnFEx Tryz.prog (lk E6) L93 (G1 []) 60 Tryz.f93 [roW xs, num s] = some ((27 : Nat), EK.u32, dgs (List.length xs + (1 : Nat)) (nv xs % B ^ List.length xs * (2 : Nat) ^ Int.toNat s), [(0 : Int) ≤ IntKind.wrap IntKind.i64 ((↑(List.length xs) : Int) + (1 : Int)) ∧ IntKind.wrap IntKind.i64 ((↑(List.length xs) : Int) + (1 : Int)) ≤ IntKind.wrap IntKind.i64 ((↑(List.length xs) : Int) + (1 : Int)) ∧ IntKind.wrap IntKind.i64 ((↑(List.length xs) : Int) + (1 : Int)) ≤ (1099511627776 : Int), (0 : Int) ≤ s ∧ s < (32 : Int), Int.toNat (IntKind.wrap IntKind.i64 ((↑(List.length xs) : Int) + (1 : Int))) = List.length xs + (1 : Nat), Int.toNat (IntKind.wrap IntKind.i64 ((↑(List.length xs) : Int) + (1 : Int))) = List.length xs + (1 : Nat), xs = xs, (↑(List.length xs) : Int) = (↑(List.length xs) : Int), (0 : Int) = (0 : Int), List.replicate (Int.toNat (IntKind.wrap IntKind.i64 ((↑(List.length xs) : Int) + (1 : Int)))) (0 : Int) = List.replicate (List.length xs + (1 : Nat)) (0 : Int), Words xs, List.length xs < (137438953472 : Nat), (0 : Nat) = (0 : Nat) ∧ List.length xs + (1 : Nat) = List.length (dgs (List.length xs + (1 : Nat)) (nv xs % B ^ List.length xs * (2 : Nat) ^ Int.toNat s)) ∧ List.length xs + (1 : Nat) = List.length (dgs (List.length xs + (1 : Nat)) (nv xs % B ^ List.length xs * (2 : Nat) ^ Int.toNat s))]) := by kernel_rfl 
end Go.Proofs.YtkfdnpbpebmhaaaGreatDoor.Spec
end
namespace Go.Proofs.YtkfdnpbpebmhaaaGreatDoor.Spec
open Go Go.RowKit Sx Num

/-- Shifted to the left: a new slice. -/
def spShlF : SpF
  | [.one (.row .u32 xs), .one (.v (.int .i64 s))] => some (27, .u32, dgs (xs.length + 1) (nv xs * 2 ^ s.toNat), [0 ≤ s ∧ s < 32, Words xs, xs.length < 137438953472])
  | _ => none
theorem conF93 : ConF Tryz.prog 93 spShlF := by
  refine conF_runL (fn := Tryz.f93) hmix E6ok.hS (by kernel_rfl) (fun _ => by kernel_rfl) ?_
  intro avs ty k xs' ps hsp hps
  unfold spShlF at hsp
  split at hsp
  · rename_i xs s
    simp only [Option.some.injEq, Prod.mk.injEq] at hsp
    obtain ⟨rfl, rfl, rfl, rfl⟩ := hsp
    obtain ⟨hs, hw, hl, _⟩ := hps
    have w1 : IntKind.wrap IntKind.i64 ((xs.length : Int) + 1) = ((xs.length + 1 : Nat) : Int) := by rw [wi64 _ (by omega) (by omega)]; omega
    refine ⟨rfl, L93, lo93, _, _, _, _, _, _, runF93 xs s, rfl, rfl, by rw [Nat.mod_eq_of_lt (nv_lt hw)], ?_⟩
    simp only [AllP, w1, dgs_length, tnc]
    simp [hw, hs, hl]
    omega
  · cases hsp
def E10 : List (Nat × Ctr) := (93, .nf spShlF) :: E9
theorem E10ok : EnvOk Tryz.prog E10 := .cons conF93 E9ok

def I59 (ty ty2 : TypeId) (xs ys : List Int) (s i : Nat) : St :=
  ⟨[(8, .s (num s)), (9, .s (slW 43 0 (xs.length + 1) (xs.length + 1))), (10, .s (roW (enc (nv ys * 2 ^ s)))), (11, .s (slW 53 0 (xs.length + 1 - ys.length) (xs.length + 1 - ys.length))), (55, .s (num ((xs.length + 1 - ys.length : Nat) : Int))), (56, .s (num i))],
   [(43, box32 ty (dgs (xs.length + 1) (nv xs * 2 ^ s % (nv ys * 2 ^ s * B ^ (xs.length + 1 - ys.length - i))))), (53, box32 ty2 (o_U (xs.length + 1 - ys.length) (nv xs / nv ys) (xs.length + 1 - ys.length - i)))]⟩
def F59 (xs ys : List Int) (st : St) : Option (Ex × St × List Prop) :=
  match liv st.boxes 0, lk st.tmps 8, lk st.tmps 9, lk st.tmps 10, lk st.tmps 11, lk st.tmps 55, lk st.tmps 56, lk st.boxes 43, lk st.boxes 53 with
  | false, some (.s (.one (.v (.int .i64 s)))), some (.s (.one (.sl 43 0 len cap))), some (.s (.one (.row .u32 vs))), some (.s (.one (.sl 53 0 len2 cap2))), some (.s (.one (.v (.int .i64 n)))), some (.s (.one (.v (.int .i64 i)))), some ⟨ty, .ints .u32 zs, true⟩, some ⟨ty2, .ints .u32 qs, true⟩ =>
    some (.exit 0, I59 ty ty2 xs ys s.toNat (xs.length + 1 - ys.length), [0 ≤ s ∧ s < 32, len = xs.length + 1, cap = xs.length + 1, vs = enc (nv ys * 2 ^ s.toNat), len2 = xs.length + 1 - ys.length, cap2 = xs.length + 1 - ys.length, n = ((xs.length + 1 - ys.length : Nat) : Int), i = 0, zs = dgs (xs.length + 1) (nv xs * 2 ^ s.toNat), qs = List.replicate (xs.length + 1 - ys.length) 0,
      Scaled (nv xs) (nv ys) (2 ^ s.toNat) xs.length ys.length, 2 ≤ ys.length, xs.length < 137438953471])
  | _, _, _, _, _, _, _, _, _ => none
def L59 (xs ys : List Int) : Loops := fun k => bif Nat.beq k 10 then some (F59 xs ys) else none
def I74 (ty ty2 : TypeId) (xs ys : List Int) (d k : Nat) : St :=
  ⟨[(8, .s (num ys.length)), (9, .s (u64 d)), (10, .s (roW (enc (nv ys * d)))), (11, .s (slW 55 0 (xs.length + 1) (xs.length + 1))), (12, .s (slW 67 0 (xs.length + 1 - ys.length) (xs.length + 1 - ys.length))), (13, .s (num ((k : Int) - 1)))],
   [(55, box32 ty (dgs (xs.length + 1) (nv xs * d % (nv ys * d * B ^ k)))), (67, box32 ty2 (o_U (xs.length + 1 - ys.length) (nv xs / nv ys) k))]⟩
def F74 (xs ys : List Int) (st : St) : Option (Ex × St × List Prop) :=
  match liv st.boxes 0, lk st.tmps 8, lk st.tmps 9, lk st.tmps 10, lk st.tmps 11, lk st.tmps 12, lk st.tmps 13, lk st.boxes 55, lk st.boxes 67 with
  | false, some (.s (.one (.v (.int .i64 n)))), some (.s (.one (.v (.int .u64 d)))), some (.s (.one (.row .u32 vs))), some (.s (.one (.sl 55 0 len cap))), some (.s (.one (.sl 67 0 len2 cap2))), some (.s (.one (.v (.int .i64 j)))), some ⟨ty, .ints .u32 zs, true⟩, some ⟨ty2, .ints .u32 qs, true⟩ =>
    some (.exit 0, I74 ty ty2 xs ys d.toNat 0, [0 ≤ d, n = ys.length, len = xs.length + 1, cap = xs.length + 1, vs = enc (nv ys * d.toNat), len2 = xs.length + 1 - ys.length, cap2 = xs.length + 1 - ys.length, j = ((xs.length + 1 - ys.length : Nat) : Int) - 1, zs = dgs (xs.length + 1) (nv xs * d.toNat), qs = List.replicate (xs.length + 1 - ys.length) 0,
      Scaled (nv xs) (nv ys) d.toNat xs.length ys.length, 2 ≤ ys.length, xs.length < 137438953471])
  | _, _, _, _, _, _, _, _, _ => none
def L74 (xs ys : List Int) : Loops := fun k => bif Nat.beq k 13 then some (F74 xs ys) else none

end Go.Proofs.YtkfdnpbpebmhaaaGreatDoor.Spec
section
set_option maxRecDepth 100000
namespace Go.Proofs.YtkfdnpbpebmhaaaGreatDoor.Spec
open Go Go.RowKit Sx Num

theorem loop59a (ty ty2 : TypeId) (xs ys : List Int) (s i : Nat) : codeV Tryz.prog (lk E10) L0 (G1 []) Tryz.f59.ntmps 60 (loopC Tryz.f59 0) [8, 9, 10, 11, 55, 56] [43, 53] (I59 ty ty2 xs ys s i) = some (Ex.normal, { tmps := [((8 : Nat), AV.s (SV.one (LV.v (Value.int IntKind.i64 (↑s : Int))))), ((9 : Nat), AV.s (SV.one (LV.sl (43 : Nat) (0 : Nat) (List.length xs + (1 : Nat)) (List.length xs + (1 : Nat))))), ((10 : Nat), AV.s (SV.one (LV.row EK.u32 (enc (nv ys * (2 : Nat) ^ s))))), ((11 : Nat), AV.s (SV.one (LV.sl (53 : Nat) (0 : Nat) (List.length xs + (1 : Nat) - List.length ys) (List.length xs + (1 : Nat) - List.length ys)))), ((55 : Nat), AV.s (SV.one (LV.v (Value.int IntKind.i64 (↑(List.length xs + (1 : Nat) - List.length ys) : Int))))), ((56 : Nat), AV.s (SV.one (LV.v (Value.int IntKind.i64 (IntKind.wrap IntKind.i64 ((↑i : Int) + (1 : Int)))))))], boxes := [((43 : Nat), { ty := ty, bc := BC.ints EK.u32 (o_win (dgs (List.length xs + (1 : Nat)) (nv xs * (2 : Nat) ^ s % (nv ys * (2 : Nat) ^ s * B ^ (List.length xs + (1 : Nat) - List.length ys - i)))) ((0 : Nat) + Int.toNat (IntKind.wrap IntKind.i64 (IntKind.wrap IntKind.i64 ((↑(List.length xs + (1 : Nat) - List.length ys) : Int) - (1 : Int)) - (↑i : Int)))) (dgs (List.length (enc (nv ys * (2 : Nat) ^ s)) + (1 : Nat)) (o_u (dgs (List.length xs + (1 : Nat)) (nv xs * (2 : Nat) ^ s % (nv ys * (2 : Nat) ^ s * B ^ (List.length xs + (1 : Nat) - List.length ys - i)))) ((0 : Nat) + Int.toNat (IntKind.wrap IntKind.i64 (IntKind.wrap IntKind.i64 ((↑(List.length xs + (1 : Nat) - List.length ys) : Int) - (1 : Int)) - (↑i : Int)))) (List.length (enc (nv ys * (2 : Nat) ^ s)) + (1 : Nat)) % nv (enc (nv ys * (2 : Nat) ^ s))))), mut_ := true }), ((53 : Nat), { ty := ty2, bc := BC.ints EK.u32 (List.set (o_U (List.length xs + (1 : Nat) - List.length ys) (nv xs / nv ys) (List.length xs + (1 : Nat) - List.length ys - i)) ((0 : Nat) + Int.toNat (IntKind.wrap IntKind.i64 (IntKind.wrap IntKind.i64 ((↑(List.length xs + (1 : Nat) - List.length ys) : Int) - (1 : Int)) - (↑i : Int)))) (↑(o_u (dgs (List.length xs + (1 : Nat)) (nv xs * (2 : Nat) ^ s % (nv ys * (2 : Nat) ^ s * B ^ (List.length xs + (1 : Nat) - List.length ys - i)))) ((0 : Nat) + Int.toNat (IntKind.wrap IntKind.i64 (IntKind.wrap IntKind.i64 ((↑(List.length xs + (1 : Nat) - List.length ys) : Int) - (1 : Int)) - (↑i : Int)))) (List.length (enc (nv ys * (2 : Nat) ^ s)) + (1 : Nat)) / nv (enc (nv ys * (2 : Nat) ^ s))) : Int)), mut_ := true })] }, [decide ((↑i : Int) < (↑(List.length xs + (1 : Nat) - List.length ys) : Int)) = true, (0 : Int) ≤ IntKind.wrap IntKind.i64 (IntKind.wrap IntKind.i64 ((↑(List.length xs + (1 : Nat) - List.length ys) : Int) - (1 : Int)) - (↑i : Int)) ∧ IntKind.wrap IntKind.i64 (IntKind.wrap IntKind.i64 ((↑(List.length xs + (1 : Nat) - List.length ys) : Int) - (1 : Int)) - (↑i : Int)) ≤ IntKind.wrap IntKind.i64 (IntKind.wrap IntKind.i64 (IntKind.wrap IntKind.i64 (IntKind.wrap IntKind.i64 ((↑(List.length xs + (1 : Nat) - List.length ys) : Int) - (1 : Int)) - (↑i : Int)) + (↑(List.length (enc (nv ys * (2 : Nat) ^ s))) : Int)) + (1 : Int)) ∧ IntKind.wrap IntKind.i64 (IntKind.wrap IntKind.i64 (IntKind.wrap IntKind.i64 (IntKind.wrap IntKind.i64 ((↑(List.length xs + (1 : Nat) - List.length ys) : Int) - (1 : Int)) - (↑i : Int)) + (↑(List.length (enc (nv ys * (2 : Nat) ^ s))) : Int)) + (1 : Int)) ≤ (↑(List.length xs + (1 : Nat)) : Int) ∧ IntKind.wrap IntKind.i64 (IntKind.wrap IntKind.i64 ((↑(List.length xs + (1 : Nat) - List.length ys) : Int) - (1 : Int)) - (↑i : Int)) < (↑(List.length xs + (1 : Nat)) : Int), Int.toNat (IntKind.wrap IntKind.i64 (IntKind.wrap IntKind.i64 (IntKind.wrap IntKind.i64 (IntKind.wrap IntKind.i64 ((↑(List.length xs + (1 : Nat) - List.length ys) : Int) - (1 : Int)) - (↑i : Int)) + (↑(List.length (enc (nv ys * (2 : Nat) ^ s))) : Int)) + (1 : Int))) - Int.toNat (IntKind.wrap IntKind.i64 (IntKind.wrap IntKind.i64 ((↑(List.length xs + (1 : Nat) - List.length ys) : Int) - (1 : Int)) - (↑i : Int))) = List.length (enc (nv ys * (2 : Nat) ^ s)) + (1 : Nat), (0 : Nat) + Int.toNat (IntKind.wrap IntKind.i64 (IntKind.wrap IntKind.i64 ((↑(List.length xs + (1 : Nat) - List.length ys) : Int) - (1 : Int)) - (↑i : Int))) + (List.length (enc (nv ys * (2 : Nat) ^ s)) + (1 : Nat)) ≤ List.length (dgs (List.length xs + (1 : Nat)) (nv xs * (2 : Nat) ^ s % (nv ys * (2 : Nat) ^ s * B ^ (List.length xs + (1 : Nat) - List.length ys - i)))), Words (dgs (List.length xs + (1 : Nat)) (nv xs * (2 : Nat) ^ s % (nv ys * (2 : Nat) ^ s * B ^ (List.length xs + (1 : Nat) - List.length ys - i)))), Words (enc (nv ys * (2 : Nat) ^ s)), (2 : Nat) ≤ List.length (enc (nv ys * (2 : Nat) ^ s)), (0 : Nat) < dg (nv (enc (nv ys * (2 : Nat) ^ s))) (List.length (enc (nv ys * (2 : Nat) ^ s)) - (1 : Nat)), o_u (dgs (List.length xs + (1 : Nat)) (nv xs * (2 : Nat) ^ s % (nv ys * (2 : Nat) ^ s * B ^ (List.length xs + (1 : Nat) - List.length ys - i)))) ((0 : Nat) + Int.toNat (IntKind.wrap IntKind.i64 (IntKind.wrap IntKind.i64 ((↑(List.length xs + (1 : Nat) - List.length ys) : Int) - (1 : Int)) - (↑i : Int)))) (List.length (enc (nv ys * (2 : Nat) ^ s)) + (1 : Nat)) < nv (enc (nv ys * (2 : Nat) ^ s)) * B, List.length (enc (nv ys * (2 : Nat) ^ s)) < (137438953472 : Nat), (0 : Int) ≤ IntKind.wrap IntKind.i64 (IntKind.wrap IntKind.i64 ((↑(List.length xs + (1 : Nat) - List.length ys) : Int) - (1 : Int)) - (↑i : Int)) ∧ IntKind.wrap IntKind.i64 (IntKind.wrap IntKind.i64 ((↑(List.length xs + (1 : Nat) - List.length ys) : Int) - (1 : Int)) - (↑i : Int)) < (↑(List.length xs + (1 : Nat) - List.length ys) : Int), (0 : Nat) + Int.toNat (IntKind.wrap IntKind.i64 (IntKind.wrap IntKind.i64 ((↑(List.length xs + (1 : Nat) - List.length ys) : Int) - (1 : Int)) - (↑i : Int))) < List.length (o_U (List.length xs + (1 : Nat) - List.length ys) (nv xs / nv ys) (List.length xs + (1 : Nat) - List.length ys - i))]) := by kernel_rfl
theorem loop59b (ty ty2 : TypeId) (xs ys : List Int) (s i : Nat) : codeV Tryz.prog (lk E10) L0 (G1 [57]) Tryz.f59.ntmps 60 (loopC Tryz.f59 0) [8, 9, 10, 11, 55, 56] [43, 53] (I59 ty ty2 xs ys s i) = some (Ex.exit (0 : Nat), { tmps := [((8 : Nat), AV.s (SV.one (LV.v (Value.int IntKind.i64 (↑s : Int))))), ((9 : Nat), AV.s (SV.one (LV.sl (43 : Nat) (0 : Nat) (List.length xs + (1 : Nat)) (List.length xs + (1 : Nat))))), ((10 : Nat), AV.s (SV.one (LV.row EK.u32 (enc (nv ys * (2 : Nat) ^ s))))), ((11 : Nat), AV.s (SV.one (LV.sl (53 : Nat) (0 : Nat) (List.length xs + (1 : Nat) - List.length ys) (List.length xs + (1 : Nat) - List.length ys)))), ((55 : Nat), AV.s (SV.one (LV.v (Value.int IntKind.i64 (↑(List.length xs + (1 : Nat) - List.length ys) : Int))))), ((56 : Nat), AV.s (SV.one (LV.v (Value.int IntKind.i64 (↑i : Int)))))], boxes := [((43 : Nat), { ty := ty, bc := BC.ints EK.u32 (dgs (List.length xs + (1 : Nat)) (nv xs * (2 : Nat) ^ s % (nv ys * (2 : Nat) ^ s * B ^ (List.length xs + (1 : Nat) - List.length ys - i)))), mut_ := true }), ((53 : Nat), { ty := ty2, bc := BC.ints EK.u32 (o_U (List.length xs + (1 : Nat) - List.length ys) (nv xs / nv ys) (List.length xs + (1 : Nat) - List.length ys - i)), mut_ := true })] }, [decide ((↑i : Int) < (↑(List.length xs + (1 : Nat) - List.length ys) : Int)) = false]) := by kernel_rfl
theorem run59c (xs ys : List Int) : fnEx Tryz.prog (lk E10) (L59 xs ys) (G1 [17, 21]) 60 Tryz.f59 [roW xs, roW ys] = some (AV.tup [SV.one (LV.row EK.u32 (enc (nv (List.take (List.length xs + (1 : Nat) - List.length ys) (List.drop (0 : Nat) (o_U (List.length xs + (1 : Nat) - List.length ys) (nv xs / nv ys) (List.length xs + (1 : Nat) - List.length ys - (List.length xs + (1 : Nat) - List.length ys)))))))), SV.one (LV.row EK.u32 (enc (nv (enc (nv (List.take (List.length xs + (1 : Nat)) (List.drop (0 : Nat) (dgs (List.length xs + (1 : Nat)) (nv xs * (2 : Nat) ^ Int.toNat ((32 : Int) - (↑(o_bl (Int.toNat (List.getD ys (Int.toNat (IntKind.wrap IntKind.i64 ((↑(List.length ys) : Int) - (1 : Int)))) (0 : Int)))) : Int)) % (nv ys * (2 : Nat) ^ Int.toNat ((32 : Int) - (↑(o_bl (Int.toNat (List.getD ys (Int.toNat (IntKind.wrap IntKind.i64 ((↑(List.length ys) : Int) - (1 : Int)))) (0 : Int)))) : Int)) * B ^ (List.length xs + (1 : Nat) - List.length ys - (List.length xs + (1 : Nat) - List.length ys))))))))) / (2 : Nat) ^ Int.toNat (↑(Int.toNat ((32 : Int) - (↑(o_bl (Int.toNat (List.getD ys (Int.toNat (IntKind.wrap IntKind.i64 ((↑(List.length ys) : Int) - (1 : Int)))) (0 : Int)))) : Int))) : Int))))], [Canon xs, Canon ys, Ln xs, Ln ys, decide (o_cmp (nv xs) (nv ys) < (0 : Int)) = false, decide ((↑(List.length ys) : Int) = (1 : Int)) = false, (0 : Int) ≤ IntKind.wrap IntKind.i64 ((↑(List.length ys) : Int) - (1 : Int)) ∧ IntKind.wrap IntKind.i64 ((↑(List.length ys) : Int) - (1 : Int)) < (↑(List.length ys) : Int), (0 : Int) ≤ List.getD ys (Int.toNat (IntKind.wrap IntKind.i64 ((↑(List.length ys) : Int) - (1 : Int)))) (0 : Int) ∧ List.getD ys (Int.toNat (IntKind.wrap IntKind.i64 ((↑(List.length ys) : Int) - (1 : Int)))) (0 : Int) ≤ (4294967295 : Int), (0 : Int) ≤ (32 : Int) - (↑(o_bl (Int.toNat (List.getD ys (Int.toNat (IntKind.wrap IntKind.i64 ((↑(List.length ys) : Int) - (1 : Int)))) (0 : Int)))) : Int) ∧ (32 : Int) - (↑(o_bl (Int.toNat (List.getD ys (Int.toNat (IntKind.wrap IntKind.i64 ((↑(List.length ys) : Int) - (1 : Int)))) (0 : Int)))) : Int) < (32 : Int), Words xs, List.length xs < (137438953472 : Nat), (0 : Int) ≤ (32 : Int) - (↑(o_bl (Int.toNat (List.getD ys (Int.toNat (IntKind.wrap IntKind.i64 ((↑(List.length ys) : Int) - (1 : Int)))) (0 : Int)))) : Int) ∧ (32 : Int) - (↑(o_bl (Int.toNat (List.getD ys (Int.toNat (IntKind.wrap IntKind.i64 ((↑(List.length ys) : Int) - (1 : Int)))) (0 : Int)))) : Int) < (32 : Int), Words ys, List.length ys < (137438953472 : Nat), (0 : Nat) + List.length (dgs (List.length ys + (1 : Nat)) (nv ys * (2 : Nat) ^ Int.toNat ((32 : Int) - (↑(o_bl (Int.toNat (List.getD ys (Int.toNat (IntKind.wrap IntKind.i64 ((↑(List.length ys) : Int) - (1 : Int)))) (0 : Int)))) : Int)))) ≤ List.length (dgs (List.length ys + (1 : Nat)) (nv ys * (2 : Nat) ^ Int.toNat ((32 : Int) - (↑(o_bl (Int.toNat (List.getD ys (Int.toNat (IntKind.wrap IntKind.i64 ((↑(List.length ys) : Int) - (1 : Int)))) (0 : Int)))) : Int)))) ∧ List.length (dgs (List.length ys + (1 : Nat)) (nv ys * (2 : Nat) ^ Int.toNat ((32 : Int) - (↑(o_bl (Int.toNat (List.getD ys (Int.toNat (IntKind.wrap IntKind.i64 ((↑(List.length ys) : Int) - (1 : Int)))) (0 : Int)))) : Int)))) ≤ List.length (dgs (List.length ys + (1 : Nat)) (nv ys * (2 : Nat) ^ Int.toNat ((32 : Int) - (↑(o_bl (Int.toNat (List.getD ys (Int.toNat (IntKind.wrap IntKind.i64 ((↑(List.length ys) : Int) - (1 : Int)))) (0 : Int)))) : Int)))) ∧ List.length (dgs (List.length ys + (1 : Nat)) (nv ys * (2 : Nat) ^ Int.toNat ((32 : Int) - (↑(o_bl (Int.toNat (List.getD ys (Int.toNat (IntKind.wrap IntKind.i64 ((↑(List.length ys) : Int) - (1 : Int)))) (0 : Int)))) : Int)))) ≤ (9223372036854775807 : Nat), Words (List.take (List.length (dgs (List.length ys + (1 : Nat)) (nv ys * (2 : Nat) ^ Int.toNat ((32 : Int) - (↑(o_bl (Int.toNat (List.getD ys (Int.toNat (IntKind.wrap IntKind.i64 ((↑(List.length ys) : Int) - (1 : Int)))) (0 : Int)))) : Int))))) (List.drop (0 : Nat) (dgs (List.length ys + (1 : Nat)) (nv ys * (2 : Nat) ^ Int.toNat ((32 : Int) - (↑(o_bl (Int.toNat (List.getD ys (Int.toNat (IntKind.wrap IntKind.i64 ((↑(List.length ys) : Int) - (1 : Int)))) (0 : Int)))) : Int)))))), Ln (List.take (List.length (dgs (List.length ys + (1 : Nat)) (nv ys * (2 : Nat) ^ Int.toNat ((32 : Int) - (↑(o_bl (Int.toNat (List.getD ys (Int.toNat (IntKind.wrap IntKind.i64 ((↑(List.length ys) : Int) - (1 : Int)))) (0 : Int)))) : Int))))) (List.drop (0 : Nat) (dgs (List.length ys + (1 : Nat)) (nv ys * (2 : Nat) ^ Int.toNat ((32 : Int) - (↑(o_bl (Int.toNat (List.getD ys (Int.toNat (IntKind.wrap IntKind.i64 ((↑(List.length ys) : Int) - (1 : Int)))) (0 : Int)))) : Int)))))), (0 : Int) ≤ IntKind.wrap IntKind.i64 ((↑(List.length (dgs (List.length xs + (1 : Nat)) (nv xs * (2 : Nat) ^ Int.toNat ((32 : Int) - (↑(o_bl (Int.toNat (List.getD ys (Int.toNat (IntKind.wrap IntKind.i64 ((↑(List.length ys) : Int) - (1 : Int)))) (0 : Int)))) : Int))))) : Int) - (↑(List.length (enc (nv (List.take (List.length (dgs (List.length ys + (1 : Nat)) (nv ys * (2 : Nat) ^ Int.toNat ((32 : Int) - (↑(o_bl (Int.toNat (List.getD ys (Int.toNat (IntKind.wrap IntKind.i64 ((↑(List.length ys) : Int) - (1 : Int)))) (0 : Int)))) : Int))))) (List.drop (0 : Nat) (dgs (List.length ys + (1 : Nat)) (nv ys * (2 : Nat) ^ Int.toNat ((32 : Int) - (↑(o_bl (Int.toNat (List.getD ys (Int.toNat (IntKind.wrap IntKind.i64 ((↑(List.length ys) : Int) - (1 : Int)))) (0 : Int)))) : Int))))))))) : Int)) ∧ IntKind.wrap IntKind.i64 ((↑(List.length (dgs (List.length xs + (1 : Nat)) (nv xs * (2 : Nat) ^ Int.toNat ((32 : Int) - (↑(o_bl (Int.toNat (List.getD ys (Int.toNat (IntKind.wrap IntKind.i64 ((↑(List.length ys) : Int) - (1 : Int)))) (0 : Int)))) : Int))))) : Int) - (↑(List.length (enc (nv (List.take (List.length (dgs (List.length ys + (1 : Nat)) (nv ys * (2 : Nat) ^ Int.toNat ((32 : Int) - (↑(o_bl (Int.toNat (List.getD ys (Int.toNat (IntKind.wrap IntKind.i64 ((↑(List.length ys) : Int) - (1 : Int)))) (0 : Int)))) : Int))))) (List.drop (0 : Nat) (dgs (List.length ys + (1 : Nat)) (nv ys * (2 : Nat) ^ Int.toNat ((32 : Int) - (↑(o_bl (Int.toNat (List.getD ys (Int.toNat (IntKind.wrap IntKind.i64 ((↑(List.length ys) : Int) - (1 : Int)))) (0 : Int)))) : Int))))))))) : Int)) ≤ IntKind.wrap IntKind.i64 ((↑(List.length (dgs (List.length xs + (1 : Nat)) (nv xs * (2 : Nat) ^ Int.toNat ((32 : Int) - (↑(o_bl (Int.toNat (List.getD ys (Int.toNat (IntKind.wrap IntKind.i64 ((↑(List.length ys) : Int) - (1 : Int)))) (0 : Int)))) : Int))))) : Int) - (↑(List.length (enc (nv (List.take (List.length (dgs (List.length ys + (1 : Nat)) (nv ys * (2 : Nat) ^ Int.toNat ((32 : Int) - (↑(o_bl (Int.toNat (List.getD ys (Int.toNat (IntKind.wrap IntKind.i64 ((↑(List.length ys) : Int) - (1 : Int)))) (0 : Int)))) : Int))))) (List.drop (0 : Nat) (dgs (List.length ys + (1 : Nat)) (nv ys * (2 : Nat) ^ Int.toNat ((32 : Int) - (↑(o_bl (Int.toNat (List.getD ys (Int.toNat (IntKind.wrap IntKind.i64 ((↑(List.length ys) : Int) - (1 : Int)))) (0 : Int)))) : Int))))))))) : Int)) ∧ IntKind.wrap IntKind.i64 ((↑(List.length (dgs (List.length xs + (1 : Nat)) (nv xs * (2 : Nat) ^ Int.toNat ((32 : Int) - (↑(o_bl (Int.toNat (List.getD ys (Int.toNat (IntKind.wrap IntKind.i64 ((↑(List.length ys) : Int) - (1 : Int)))) (0 : Int)))) : Int))))) : Int) - (↑(List.length (enc (nv (List.take (List.length (dgs (List.length ys + (1 : Nat)) (nv ys * (2 : Nat) ^ Int.toNat ((32 : Int) - (↑(o_bl (Int.toNat (List.getD ys (Int.toNat (IntKind.wrap IntKind.i64 ((↑(List.length ys) : Int) - (1 : Int)))) (0 : Int)))) : Int))))) (List.drop (0 : Nat) (dgs (List.length ys + (1 : Nat)) (nv ys * (2 : Nat) ^ Int.toNat ((32 : Int) - (↑(o_bl (Int.toNat (List.getD ys (Int.toNat (IntKind.wrap IntKind.i64 ((↑(List.length ys) : Int) - (1 : Int)))) (0 : Int)))) : Int))))))))) : Int)) ≤ (1099511627776 : Int), (0 : Int) ≤ (32 : Int) - (↑(o_bl (Int.toNat (List.getD ys (Int.toNat (IntKind.wrap IntKind.i64 ((↑(List.length ys) : Int) - (1 : Int)))) (0 : Int)))) : Int) ∧ (32 : Int) - (↑(o_bl (Int.toNat (List.getD ys (Int.toNat (IntKind.wrap IntKind.i64 ((↑(List.length ys) : Int) - (1 : Int)))) (0 : Int)))) : Int) < (32 : Int), List.length (dgs (List.length xs + (1 : Nat)) (nv xs * (2 : Nat) ^ Int.toNat ((32 : Int) - (↑(o_bl (Int.toNat (List.getD ys (Int.toNat (IntKind.wrap IntKind.i64 ((↑(List.length ys) : Int) - (1 : Int)))) (0 : Int)))) : Int)))) = List.length xs + (1 : Nat), List.length (dgs (List.length xs + (1 : Nat)) (nv xs * (2 : Nat) ^ Int.toNat ((32 : Int) - (↑(o_bl (Int.toNat (List.getD ys (Int.toNat (IntKind.wrap IntKind.i64 ((↑(List.length ys) : Int) - (1 : Int)))) (0 : Int)))) : Int)))) = List.length xs + (1 : Nat), enc (nv (List.take (List.length (dgs (List.length ys + (1 : Nat)) (nv ys * (2 : Nat) ^ Int.toNat ((32 : Int) - (↑(o_bl (Int.toNat (List.getD ys (Int.toNat (IntKind.wrap IntKind.i64 ((↑(List.length ys) : Int) - (1 : Int)))) (0 : Int)))) : Int))))) (List.drop (0 : Nat) (dgs (List.length ys + (1 : Nat)) (nv ys * (2 : Nat) ^ Int.toNat ((32 : Int) - (↑(o_bl (Int.toNat (List.getD ys (Int.toNat (IntKind.wrap IntKind.i64 ((↑(List.length ys) : Int) - (1 : Int)))) (0 : Int)))) : Int))))))) = enc (nv ys * (2 : Nat) ^ Int.toNat ((32 : Int) - (↑(o_bl (Int.toNat (List.getD ys (Int.toNat (IntKind.wrap IntKind.i64 ((↑(List.length ys) : Int) - (1 : Int)))) (0 : Int)))) : Int))), Int.toNat (IntKind.wrap IntKind.i64 ((↑(List.length (dgs (List.length xs + (1 : Nat)) (nv xs * (2 : Nat) ^ Int.toNat ((32 : Int) - (↑(o_bl (Int.toNat (List.getD ys (Int.toNat (IntKind.wrap IntKind.i64 ((↑(List.length ys) : Int) - (1 : Int)))) (0 : Int)))) : Int))))) : Int) - (↑(List.length (enc (nv (List.take (List.length (dgs (List.length ys + (1 : Nat)) (nv ys * (2 : Nat) ^ Int.toNat ((32 : Int) - (↑(o_bl (Int.toNat (List.getD ys (Int.toNat (IntKind.wrap IntKind.i64 ((↑(List.length ys) : Int) - (1 : Int)))) (0 : Int)))) : Int))))) (List.drop (0 : Nat) (dgs (List.length ys + (1 : Nat)) (nv ys * (2 : Nat) ^ Int.toNat ((32 : Int) - (↑(o_bl (Int.toNat (List.getD ys (Int.toNat (IntKind.wrap IntKind.i64 ((↑(List.length ys) : Int) - (1 : Int)))) (0 : Int)))) : Int))))))))) : Int))) = List.length xs + (1 : Nat) - List.length ys, Int.toNat (IntKind.wrap IntKind.i64 ((↑(List.length (dgs (List.length xs + (1 : Nat)) (nv xs * (2 : Nat) ^ Int.toNat ((32 : Int) - (↑(o_bl (Int.toNat (List.getD ys (Int.toNat (IntKind.wrap IntKind.i64 ((↑(List.length ys) : Int) - (1 : Int)))) (0 : Int)))) : Int))))) : Int) - (↑(List.length (enc (nv (List.take (List.length (dgs (List.length ys + (1 : Nat)) (nv ys * (2 : Nat) ^ Int.toNat ((32 : Int) - (↑(o_bl (Int.toNat (List.getD ys (Int.toNat (IntKind.wrap IntKind.i64 ((↑(List.length ys) : Int) - (1 : Int)))) (0 : Int)))) : Int))))) (List.drop (0 : Nat) (dgs (List.length ys + (1 : Nat)) (nv ys * (2 : Nat) ^ Int.toNat ((32 : Int) - (↑(o_bl (Int.toNat (List.getD ys (Int.toNat (IntKind.wrap IntKind.i64 ((↑(List.length ys) : Int) - (1 : Int)))) (0 : Int)))) : Int))))))))) : Int))) = List.length xs + (1 : Nat) - List.length ys, (↑(Int.toNat (IntKind.wrap IntKind.i64 ((↑(List.length (dgs (List.length xs + (1 : Nat)) (nv xs * (2 : Nat) ^ Int.toNat ((32 : Int) - (↑(o_bl (Int.toNat (List.getD ys (Int.toNat (IntKind.wrap IntKind.i64 ((↑(List.length ys) : Int) - (1 : Int)))) (0 : Int)))) : Int))))) : Int) - (↑(List.length (enc (nv (List.take (List.length (dgs (List.length ys + (1 : Nat)) (nv ys * (2 : Nat) ^ Int.toNat ((32 : Int) - (↑(o_bl (Int.toNat (List.getD ys (Int.toNat (IntKind.wrap IntKind.i64 ((↑(List.length ys) : Int) - (1 : Int)))) (0 : Int)))) : Int))))) (List.drop (0 : Nat) (dgs (List.length ys + (1 : Nat)) (nv ys * (2 : Nat) ^ Int.toNat ((32 : Int) - (↑(o_bl (Int.toNat (List.getD ys (Int.toNat (IntKind.wrap IntKind.i64 ((↑(List.length ys) : Int) - (1 : Int)))) (0 : Int)))) : Int))))))))) : Int)))) : Int) = (↑(List.length xs + (1 : Nat) - List.length ys) : Int), (0 : Int) = (0 : Int), dgs (List.length xs + (1 : Nat)) (nv xs * (2 : Nat) ^ Int.toNat ((32 : Int) - (↑(o_bl (Int.toNat (List.getD ys (Int.toNat (IntKind.wrap IntKind.i64 ((↑(List.length ys) : Int) - (1 : Int)))) (0 : Int)))) : Int))) = dgs (List.length xs + (1 : Nat)) (nv xs * (2 : Nat) ^ Int.toNat ((32 : Int) - (↑(o_bl (Int.toNat (List.getD ys (Int.toNat (IntKind.wrap IntKind.i64 ((↑(List.length ys) : Int) - (1 : Int)))) (0 : Int)))) : Int))), List.replicate (Int.toNat (IntKind.wrap IntKind.i64 ((↑(List.length (dgs (List.length xs + (1 : Nat)) (nv xs * (2 : Nat) ^ Int.toNat ((32 : Int) - (↑(o_bl (Int.toNat (List.getD ys (Int.toNat (IntKind.wrap IntKind.i64 ((↑(List.length ys) : Int) - (1 : Int)))) (0 : Int)))) : Int))))) : Int) - (↑(List.length (enc (nv (List.take (List.length (dgs (List.length ys + (1 : Nat)) (nv ys * (2 : Nat) ^ Int.toNat ((32 : Int) - (↑(o_bl (Int.toNat (List.getD ys (Int.toNat (IntKind.wrap IntKind.i64 ((↑(List.length ys) : Int) - (1 : Int)))) (0 : Int)))) : Int))))) (List.drop (0 : Nat) (dgs (List.length ys + (1 : Nat)) (nv ys * (2 : Nat) ^ Int.toNat ((32 : Int) - (↑(o_bl (Int.toNat (List.getD ys (Int.toNat (IntKind.wrap IntKind.i64 ((↑(List.length ys) : Int) - (1 : Int)))) (0 : Int)))) : Int))))))))) : Int)))) (0 : Int) = List.replicate (List.length xs + (1 : Nat) - List.length ys) (0 : Int), Scaled (nv xs) (nv ys) ((2 : Nat) ^ Int.toNat ((32 : Int) - (↑(o_bl (Int.toNat (List.getD ys (Int.toNat (IntKind.wrap IntKind.i64 ((↑(List.length ys) : Int) - (1 : Int)))) (0 : Int)))) : Int))) (List.length xs) (List.length ys), (2 : Nat) ≤ List.length ys, List.length xs < (137438953471 : Nat), (0 : Nat) + (List.length xs + (1 : Nat) - List.length ys) ≤ List.length (o_U (List.length xs + (1 : Nat) - List.length ys) (nv xs / nv ys) (List.length xs + (1 : Nat) - List.length ys - (List.length xs + (1 : Nat) - List.length ys))) ∧ List.length xs + (1 : Nat) - List.length ys ≤ List.length xs + (1 : Nat) - List.length ys ∧ List.length xs + (1 : Nat) - List.length ys ≤ (9223372036854775807 : Nat), Words (List.take (List.length xs + (1 : Nat) - List.length ys) (List.drop (0 : Nat) (o_U (List.length xs + (1 : Nat) - List.length ys) (nv xs / nv ys) (List.length xs + (1 : Nat) - List.length ys - (List.length xs + (1 : Nat) - List.length ys))))), Ln (List.take (List.length xs + (1 : Nat) - List.length ys) (List.drop (0 : Nat) (o_U (List.length xs + (1 : Nat) - List.length ys) (nv xs / nv ys) (List.length xs + (1 : Nat) - List.length ys - (List.length xs + (1 : Nat) - List.length ys))))), (0 : Nat) + (List.length xs + (1 : Nat)) ≤ List.length (dgs (List.length xs + (1 : Nat)) (nv xs * (2 : Nat) ^ Int.toNat ((32 : Int) - (↑(o_bl (Int.toNat (List.getD ys (Int.toNat (IntKind.wrap IntKind.i64 ((↑(List.length ys) : Int) - (1 : Int)))) (0 : Int)))) : Int)) % (nv ys * (2 : Nat) ^ Int.toNat ((32 : Int) - (↑(o_bl (Int.toNat (List.getD ys (Int.toNat (IntKind.wrap IntKind.i64 ((↑(List.length ys) : Int) - (1 : Int)))) (0 : Int)))) : Int)) * B ^ (List.length xs + (1 : Nat) - List.length ys - (List.length xs + (1 : Nat) - List.length ys))))) ∧ List.length xs + (1 : Nat) ≤ List.length xs + (1 : Nat) ∧ List.length xs + (1 : Nat) ≤ (9223372036854775807 : Nat), Words (List.take (List.length xs + (1 : Nat)) (List.drop (0 : Nat) (dgs (List.length xs + (1 : Nat)) (nv xs * (2 : Nat) ^ Int.toNat ((32 : Int) - (↑(o_bl (Int.toNat (List.getD ys (Int.toNat (IntKind.wrap IntKind.i64 ((↑(List.length ys) : Int) - (1 : Int)))) (0 : Int)))) : Int)) % (nv ys * (2 : Nat) ^ Int.toNat ((32 : Int) - (↑(o_bl (Int.toNat (List.getD ys (Int.toNat (IntKind.wrap IntKind.i64 ((↑(List.length ys) : Int) - (1 : Int)))) (0 : Int)))) : Int)) * B ^ (List.length xs + (1 : Nat) - List.length ys - (List.length xs + (1 : Nat) - List.length ys))))))), Ln (List.take (List.length xs + (1 : Nat)) (List.drop (0 : Nat) (dgs (List.length xs + (1 : Nat)) (nv xs * (2 : Nat) ^ Int.toNat ((32 : Int) - (↑(o_bl (Int.toNat (List.getD ys (Int.toNat (IntKind.wrap IntKind.i64 ((↑(List.length ys) : Int) - (1 : Int)))) (0 : Int)))) : Int)) % (nv ys * (2 : Nat) ^ Int.toNat ((32 : Int) - (↑(o_bl (Int.toNat (List.getD ys (Int.toNat (IntKind.wrap IntKind.i64 ((↑(List.length ys) : Int) - (1 : Int)))) (0 : Int)))) : Int)) * B ^ (List.length xs + (1 : Nat) - List.length ys - (List.length xs + (1 : Nat) - List.length ys))))))), (0 : Int) ≤ (↑(Int.toNat ((32 : Int) - (↑(o_bl (Int.toNat (List.getD ys (Int.toNat (IntKind.wrap IntKind.i64 ((↑(List.length ys) : Int) - (1 : Int)))) (0 : Int)))) : Int))) : Int) ∧ (↑(Int.toNat ((32 : Int) - (↑(o_bl (Int.toNat (List.getD ys (Int.toNat (IntKind.wrap IntKind.i64 ((↑(List.length ys) : Int) - (1 : Int)))) (0 : Int)))) : Int))) : Int) < (32 : Int), Words (enc (nv (List.take (List.length xs + (1 : Nat)) (List.drop (0 : Nat) (dgs (List.length xs + (1 : Nat)) (nv xs * (2 : Nat) ^ Int.toNat ((32 : Int) - (↑(o_bl (Int.toNat (List.getD ys (Int.toNat (IntKind.wrap IntKind.i64 ((↑(List.length ys) : Int) - (1 : Int)))) (0 : Int)))) : Int)) % (nv ys * (2 : Nat) ^ Int.toNat ((32 : Int) - (↑(o_bl (Int.toNat (List.getD ys (Int.toNat (IntKind.wrap IntKind.i64 ((↑(List.length ys) : Int) - (1 : Int)))) (0 : Int)))) : Int)) * B ^ (List.length xs + (1 : Nat) - List.length ys - (List.length xs + (1 : Nat) - List.length ys))))))))), List.length (enc (nv (List.take (List.length xs + (1 : Nat)) (List.drop (0 : Nat) (dgs (List.length xs + (1 : Nat)) (nv xs * (2 : Nat) ^ Int.toNat ((32 : Int) - (↑(o_bl (Int.toNat (List.getD ys (Int.toNat (IntKind.wrap IntKind.i64 ((↑(List.length ys) : Int) - (1 : Int)))) (0 : Int)))) : Int)) % (nv ys * (2 : Nat) ^ Int.toNat ((32 : Int) - (↑(o_bl (Int.toNat (List.getD ys (Int.toNat (IntKind.wrap IntKind.i64 ((↑(List.length ys) : Int) - (1 : Int)))) (0 : Int)))) : Int)) * B ^ (List.length xs + (1 : Nat) - List.length ys - (List.length xs + (1 : Nat) - List.length ys))))))))) < (137438953472 : Nat)]) := by kernel_rfl
theorem loop74a (ty ty2 : TypeId) (xs ys : List Int) (d k : Nat) : codeV Tryz.prog (lk E10) L0 (G1 []) Tryz.f74.ntmps 60 (loopC Tryz.f74 0) [8, 9, 10, 11, 12, 13] [55, 67] (I74 ty ty2 xs ys d k) = some (Ex.normal, { tmps := [((8 : Nat), AV.s (SV.one (LV.v (Value.int IntKind.i64 (↑(List.length ys) : Int))))), ((9 : Nat), AV.s (SV.one (LV.v (Value.int IntKind.u64 (↑d : Int))))), ((10 : Nat), AV.s (SV.one (LV.row EK.u32 (enc (nv ys * d))))), ((11 : Nat), AV.s (SV.one (LV.sl (55 : Nat) (0 : Nat) (List.length xs + (1 : Nat)) (List.length xs + (1 : Nat))))), ((12 : Nat), AV.s (SV.one (LV.sl (67 : Nat) (0 : Nat) (List.length xs + (1 : Nat) - List.length ys) (List.length xs + (1 : Nat) - List.length ys)))), ((13 : Nat), AV.s (SV.one (LV.v (Value.int IntKind.i64 (IntKind.wrap IntKind.i64 ((↑k : Int) - (1 : Int) - (1 : Int)))))))], boxes := [((55 : Nat), { ty := ty, bc := BC.ints EK.u32 (o_win (o_win (dgs (List.length xs + (1 : Nat)) (nv xs * d % (nv ys * d * B ^ k))) ((0 : Nat) + Int.toNat ((↑k : Int) - (1 : Int))) (dgs (List.length (enc (nv ys * d)) + (1 : Nat)) (o_u (dgs (List.length xs + (1 : Nat)) (nv xs * d % (nv ys * d * B ^ k))) ((0 : Nat) + Int.toNat ((↑k : Int) - (1 : Int))) (List.length (enc (nv ys * d)) + (1 : Nat)) + B ^ (List.length (enc (nv ys * d)) + (1 : Nat)) - Int.toNat (↑(o_guess (nv (List.take (Int.toNat (IntKind.wrap IntKind.i64 (IntKind.wrap IntKind.i64 ((↑k : Int) - (1 : Int) + (↑(List.length ys) : Int)) + (1 : Int))) - Int.toNat ((↑k : Int) - (1 : Int))) (List.drop ((0 : Nat) + Int.toNat ((↑k : Int) - (1 : Int))) (dgs (List.length xs + (1 : Nat)) (nv xs * d % (nv ys * d * B ^ k)))))) (nv (enc (nv ys * d))) (List.length (enc (nv ys * d)))) : Int) * nv (enc (nv ys * d))))) ((0 : Nat) + Int.toNat ((↑k : Int) - (1 : Int))) (dgs (List.length (enc (nv ys * d)) + (1 : Nat)) (o_u (o_win (dgs (List.length xs + (1 : Nat)) (nv xs * d % (nv ys * d * B ^ k))) ((0 : Nat) + Int.toNat ((↑k : Int) - (1 : Int))) (dgs (List.length (enc (nv ys * d)) + (1 : Nat)) (o_u (dgs (List.length xs + (1 : Nat)) (nv xs * d % (nv ys * d * B ^ k))) ((0 : Nat) + Int.toNat ((↑k : Int) - (1 : Int))) (List.length (enc (nv ys * d)) + (1 : Nat)) + B ^ (List.length (enc (nv ys * d)) + (1 : Nat)) - Int.toNat (↑(o_guess (nv (List.take (Int.toNat (IntKind.wrap IntKind.i64 (IntKind.wrap IntKind.i64 ((↑k : Int) - (1 : Int) + (↑(List.length ys) : Int)) + (1 : Int))) - Int.toNat ((↑k : Int) - (1 : Int))) (List.drop ((0 : Nat) + Int.toNat ((↑k : Int) - (1 : Int))) (dgs (List.length xs + (1 : Nat)) (nv xs * d % (nv ys * d * B ^ k)))))) (nv (enc (nv ys * d))) (List.length (enc (nv ys * d)))) : Int) * nv (enc (nv ys * d))))) ((0 : Nat) + Int.toNat ((↑k : Int) - (1 : Int))) (List.length (enc (nv ys * d)) + (1 : Nat)) + nv (enc (nv ys * d))))), mut_ := true }), ((67 : Nat), { ty := ty2, bc := BC.ints EK.u32 (List.set (o_U (List.length xs + (1 : Nat) - List.length ys) (nv xs / nv ys) k) ((0 : Nat) + Int.toNat ((↑k : Int) - (1 : Int))) (IntKind.wrap IntKind.u32 (IntKind.wrap IntKind.u64 ((↑(o_guess (nv (List.take (Int.toNat (IntKind.wrap IntKind.i64 (IntKind.wrap IntKind.i64 ((↑k : Int) - (1 : Int) + (↑(List.length ys) : Int)) + (1 : Int))) - Int.toNat ((↑k : Int) - (1 : Int))) (List.drop ((0 : Nat) + Int.toNat ((↑k : Int) - (1 : Int))) (dgs (List.length xs + (1 : Nat)) (nv xs * d % (nv ys * d * B ^ k)))))) (nv (enc (nv ys * d))) (List.length (enc (nv ys * d)))) : Int) - (1 : Int))))), mut_ := true })] }, [decide ((0 : Int) ≤ (↑k : Int) - (1 : Int)) = true, (0 : Int) ≤ (↑k : Int) - (1 : Int) ∧ (↑k : Int) - (1 : Int) ≤ IntKind.wrap IntKind.i64 (IntKind.wrap IntKind.i64 ((↑k : Int) - (1 : Int) + (↑(List.length ys) : Int)) + (1 : Int)) ∧ IntKind.wrap IntKind.i64 (IntKind.wrap IntKind.i64 ((↑k : Int) - (1 : Int) + (↑(List.length ys) : Int)) + (1 : Int)) ≤ (↑(List.length xs + (1 : Nat)) : Int) ∧ (↑k : Int) - (1 : Int) < (↑(List.length xs + (1 : Nat)) : Int), (0 : Nat) + Int.toNat ((↑k : Int) - (1 : Int)) + (Int.toNat (IntKind.wrap IntKind.i64 (IntKind.wrap IntKind.i64 ((↑k : Int) - (1 : Int) + (↑(List.length ys) : Int)) + (1 : Int))) - Int.toNat ((↑k : Int) - (1 : Int))) ≤ List.length (dgs (List.length xs + (1 : Nat)) (nv xs * d % (nv ys * d * B ^ k))) ∧ Int.toNat (IntKind.wrap IntKind.i64 (IntKind.wrap IntKind.i64 ((↑k : Int) - (1 : Int) + (↑(List.length ys) : Int)) + (1 : Int))) - Int.toNat ((↑k : Int) - (1 : Int)) ≤ List.length xs + (1 : Nat) - Int.toNat ((↑k : Int) - (1 : Int)) ∧ Int.toNat (IntKind.wrap IntKind.i64 (IntKind.wrap IntKind.i64 ((↑k : Int) - (1 : Int) + (↑(List.length ys) : Int)) + (1 : Int))) - Int.toNat ((↑k : Int) - (1 : Int)) ≤ (9223372036854775807 : Nat), List.length (List.take (Int.toNat (IntKind.wrap IntKind.i64 (IntKind.wrap IntKind.i64 ((↑k : Int) - (1 : Int) + (↑(List.length ys) : Int)) + (1 : Int))) - Int.toNat ((↑k : Int) - (1 : Int))) (List.drop ((0 : Nat) + Int.toNat ((↑k : Int) - (1 : Int))) (dgs (List.length xs + (1 : Nat)) (nv xs * d % (nv ys * d * B ^ k))))) = List.length (enc (nv ys * d)) + (1 : Nat), (2 : Nat) ≤ List.length (enc (nv ys * d)), Words (List.take (Int.toNat (IntKind.wrap IntKind.i64 (IntKind.wrap IntKind.i64 ((↑k : Int) - (1 : Int) + (↑(List.length ys) : Int)) + (1 : Int))) - Int.toNat ((↑k : Int) - (1 : Int))) (List.drop ((0 : Nat) + Int.toNat ((↑k : Int) - (1 : Int))) (dgs (List.length xs + (1 : Nat)) (nv xs * d % (nv ys * d * B ^ k))))), Words (enc (nv ys * d)), (0 : Nat) < dg (nv (enc (nv ys * d))) (List.length (enc (nv ys * d)) - (1 : Nat)), List.length (enc (nv ys * d)) < (137438953472 : Nat), Int.toNat (IntKind.wrap IntKind.i64 (IntKind.wrap IntKind.i64 ((↑k : Int) - (1 : Int) + (↑(List.length ys) : Int)) + (1 : Int))) - Int.toNat ((↑k : Int) - (1 : Int)) = List.length (enc (nv ys * d)) + (1 : Nat), (0 : Nat) + Int.toNat ((↑k : Int) - (1 : Int)) + (List.length (enc (nv ys * d)) + (1 : Nat)) ≤ List.length (dgs (List.length xs + (1 : Nat)) (nv xs * d % (nv ys * d * B ^ k))), Words (dgs (List.length xs + (1 : Nat)) (nv xs * d % (nv ys * d * B ^ k))), Words (enc (nv ys * d)), (0 : Int) ≤ (↑(o_guess (nv (List.take (Int.toNat (IntKind.wrap IntKind.i64 (IntKind.wrap IntKind.i64 ((↑k : Int) - (1 : Int) + (↑(List.length ys) : Int)) + (1 : Int))) - Int.toNat ((↑k : Int) - (1 : Int))) (List.drop ((0 : Nat) + Int.toNat ((↑k : Int) - (1 : Int))) (dgs (List.length xs + (1 : Nat)) (nv xs * d % (nv ys * d * B ^ k)))))) (nv (enc (nv ys * d))) (List.length (enc (nv ys * d)))) : Int) ∧ (↑(o_guess (nv (List.take (Int.toNat (IntKind.wrap IntKind.i64 (IntKind.wrap IntKind.i64 ((↑k : Int) - (1 : Int) + (↑(List.length ys) : Int)) + (1 : Int))) - Int.toNat ((↑k : Int) - (1 : Int))) (List.drop ((0 : Nat) + Int.toNat ((↑k : Int) - (1 : Int))) (dgs (List.length xs + (1 : Nat)) (nv xs * d % (nv ys * d * B ^ k)))))) (nv (enc (nv ys * d))) (List.length (enc (nv ys * d)))) : Int) < (4294967296 : Int), List.length (enc (nv ys * d)) < (137438953472 : Nat), decide (o_u (dgs (List.length xs + (1 : Nat)) (nv xs * d % (nv ys * d * B ^ k))) ((0 : Nat) + Int.toNat ((↑k : Int) - (1 : Int))) (List.length (enc (nv ys * d)) + (1 : Nat)) < Int.toNat (↑(o_guess (nv (List.take (Int.toNat (IntKind.wrap IntKind.i64 (IntKind.wrap IntKind.i64 ((↑k : Int) - (1 : Int) + (↑(List.length ys) : Int)) + (1 : Int))) - Int.toNat ((↑k : Int) - (1 : Int))) (List.drop ((0 : Nat) + Int.toNat ((↑k : Int) - (1 : Int))) (dgs (List.length xs + (1 : Nat)) (nv xs * d % (nv ys * d * B ^ k)))))) (nv (enc (nv ys * d))) (List.length (enc (nv ys * d)))) : Int) * nv (enc (nv ys * d))) = true, Int.toNat (IntKind.wrap IntKind.i64 (IntKind.wrap IntKind.i64 ((↑k : Int) - (1 : Int) + (↑(List.length ys) : Int)) + (1 : Int))) - Int.toNat ((↑k : Int) - (1 : Int)) = List.length (enc (nv ys * d)) + (1 : Nat), (0 : Nat) + Int.toNat ((↑k : Int) - (1 : Int)) + (List.length (enc (nv ys * d)) + (1 : Nat)) ≤ List.length (o_win (dgs (List.length xs + (1 : Nat)) (nv xs * d % (nv ys * d * B ^ k))) ((0 : Nat) + Int.toNat ((↑k : Int) - (1 : Int))) (dgs (List.length (enc (nv ys * d)) + (1 : Nat)) (o_u (dgs (List.length xs + (1 : Nat)) (nv xs * d % (nv ys * d * B ^ k))) ((0 : Nat) + Int.toNat ((↑k : Int) - (1 : Int))) (List.length (enc (nv ys * d)) + (1 : Nat)) + B ^ (List.length (enc (nv ys * d)) + (1 : Nat)) - Int.toNat (↑(o_guess (nv (List.take (Int.toNat (IntKind.wrap IntKind.i64 (IntKind.wrap IntKind.i64 ((↑k : Int) - (1 : Int) + (↑(List.length ys) : Int)) + (1 : Int))) - Int.toNat ((↑k : Int) - (1 : Int))) (List.drop ((0 : Nat) + Int.toNat ((↑k : Int) - (1 : Int))) (dgs (List.length xs + (1 : Nat)) (nv xs * d % (nv ys * d * B ^ k)))))) (nv (enc (nv ys * d))) (List.length (enc (nv ys * d)))) : Int) * nv (enc (nv ys * d))))), Words (o_win (dgs (List.length xs + (1 : Nat)) (nv xs * d % (nv ys * d * B ^ k))) ((0 : Nat) + Int.toNat ((↑k : Int) - (1 : Int))) (dgs (List.length (enc (nv ys * d)) + (1 : Nat)) (o_u (dgs (List.length xs + (1 : Nat)) (nv xs * d % (nv ys * d * B ^ k))) ((0 : Nat) + Int.toNat ((↑k : Int) - (1 : Int))) (List.length (enc (nv ys * d)) + (1 : Nat)) + B ^ (List.length (enc (nv ys * d)) + (1 : Nat)) - Int.toNat (↑(o_guess (nv (List.take (Int.toNat (IntKind.wrap IntKind.i64 (IntKind.wrap IntKind.i64 ((↑k : Int) - (1 : Int) + (↑(List.length ys) : Int)) + (1 : Int))) - Int.toNat ((↑k : Int) - (1 : Int))) (List.drop ((0 : Nat) + Int.toNat ((↑k : Int) - (1 : Int))) (dgs (List.length xs + (1 : Nat)) (nv xs * d % (nv ys * d * B ^ k)))))) (nv (enc (nv ys * d))) (List.length (enc (nv ys * d)))) : Int) * nv (enc (nv ys * d))))), Words (enc (nv ys * d)), List.length (enc (nv ys * d)) < (137438953472 : Nat), (0 : Int) ≤ (↑k : Int) - (1 : Int) ∧ (↑k : Int) - (1 : Int) < (↑(List.length xs + (1 : Nat) - List.length ys) : Int), (0 : Nat) + Int.toNat ((↑k : Int) - (1 : Int)) < List.length (o_U (List.length xs + (1 : Nat) - List.length ys) (nv xs / nv ys) k)]) := by kernel_rfl
theorem loop74b (ty ty2 : TypeId) (xs ys : List Int) (d k : Nat) : codeV Tryz.prog (lk E10) L0 (G1 [89]) Tryz.f74.ntmps 60 (loopC Tryz.f74 0) [8, 9, 10, 11, 12, 13] [55, 67] (I74 ty ty2 xs ys d k) = some (Ex.normal, { tmps := [((8 : Nat), AV.s (SV.one (LV.v (Value.int IntKind.i64 (↑(List.length ys) : Int))))), ((9 : Nat), AV.s (SV.one (LV.v (Value.int IntKind.u64 (↑d : Int))))), ((10 : Nat), AV.s (SV.one (LV.row EK.u32 (enc (nv ys * d))))), ((11 : Nat), AV.s (SV.one (LV.sl (55 : Nat) (0 : Nat) (List.length xs + (1 : Nat)) (List.length xs + (1 : Nat))))), ((12 : Nat), AV.s (SV.one (LV.sl (67 : Nat) (0 : Nat) (List.length xs + (1 : Nat) - List.length ys) (List.length xs + (1 : Nat) - List.length ys)))), ((13 : Nat), AV.s (SV.one (LV.v (Value.int IntKind.i64 (IntKind.wrap IntKind.i64 ((↑k : Int) - (1 : Int) - (1 : Int)))))))], boxes := [((55 : Nat), { ty := ty, bc := BC.ints EK.u32 (o_win (dgs (List.length xs + (1 : Nat)) (nv xs * d % (nv ys * d * B ^ k))) ((0 : Nat) + Int.toNat ((↑k : Int) - (1 : Int))) (dgs (List.length (enc (nv ys * d)) + (1 : Nat)) (o_u (dgs (List.length xs + (1 : Nat)) (nv xs * d % (nv ys * d * B ^ k))) ((0 : Nat) + Int.toNat ((↑k : Int) - (1 : Int))) (List.length (enc (nv ys * d)) + (1 : Nat)) + B ^ (List.length (enc (nv ys * d)) + (1 : Nat)) - Int.toNat (↑(o_guess (nv (List.take (Int.toNat (IntKind.wrap IntKind.i64 (IntKind.wrap IntKind.i64 ((↑k : Int) - (1 : Int) + (↑(List.length ys) : Int)) + (1 : Int))) - Int.toNat ((↑k : Int) - (1 : Int))) (List.drop ((0 : Nat) + Int.toNat ((↑k : Int) - (1 : Int))) (dgs (List.length xs + (1 : Nat)) (nv xs * d % (nv ys * d * B ^ k)))))) (nv (enc (nv ys * d))) (List.length (enc (nv ys * d)))) : Int) * nv (enc (nv ys * d))))), mut_ := true }), ((67 : Nat), { ty := ty2, bc := BC.ints EK.u32 (List.set (o_U (List.length xs + (1 : Nat) - List.length ys) (nv xs / nv ys) k) ((0 : Nat) + Int.toNat ((↑k : Int) - (1 : Int))) (IntKind.wrap IntKind.u32 (↑(o_guess (nv (List.take (Int.toNat (IntKind.wrap IntKind.i64 (IntKind.wrap IntKind.i64 ((↑k : Int) - (1 : Int) + (↑(List.length ys) : Int)) + (1 : Int))) - Int.toNat ((↑k : Int) - (1 : Int))) (List.drop ((0 : Nat) + Int.toNat ((↑k : Int) - (1 : Int))) (dgs (List.length xs + (1 : Nat)) (nv xs * d % (nv ys * d * B ^ k)))))) (nv (enc (nv ys * d))) (List.length (enc (nv ys * d)))) : Int))), mut_ := true })] }, [decide ((0 : Int) ≤ (↑k : Int) - (1 : Int)) = true, (0 : Int) ≤ (↑k : Int) - (1 : Int) ∧ (↑k : Int) - (1 : Int) ≤ IntKind.wrap IntKind.i64 (IntKind.wrap IntKind.i64 ((↑k : Int) - (1 : Int) + (↑(List.length ys) : Int)) + (1 : Int)) ∧ IntKind.wrap IntKind.i64 (IntKind.wrap IntKind.i64 ((↑k : Int) - (1 : Int) + (↑(List.length ys) : Int)) + (1 : Int)) ≤ (↑(List.length xs + (1 : Nat)) : Int) ∧ (↑k : Int) - (1 : Int) < (↑(List.length xs + (1 : Nat)) : Int), (0 : Nat) + Int.toNat ((↑k : Int) - (1 : Int)) + (Int.toNat (IntKind.wrap IntKind.i64 (IntKind.wrap IntKind.i64 ((↑k : Int) - (1 : Int) + (↑(List.length ys) : Int)) + (1 : Int))) - Int.toNat ((↑k : Int) - (1 : Int))) ≤ List.length (dgs (List.length xs + (1 : Nat)) (nv xs * d % (nv ys * d * B ^ k))) ∧ Int.toNat (IntKind.wrap IntKind.i64 (IntKind.wrap IntKind.i64 ((↑k : Int) - (1 : Int) + (↑(List.length ys) : Int)) + (1 : Int))) - Int.toNat ((↑k : Int) - (1 : Int)) ≤ List.length xs + (1 : Nat) - Int.toNat ((↑k : Int) - (1 : Int)) ∧ Int.toNat (IntKind.wrap IntKind.i64 (IntKind.wrap IntKind.i64 ((↑k : Int) - (1 : Int) + (↑(List.length ys) : Int)) + (1 : Int))) - Int.toNat ((↑k : Int) - (1 : Int)) ≤ (9223372036854775807 : Nat), List.length (List.take (Int.toNat (IntKind.wrap IntKind.i64 (IntKind.wrap IntKind.i64 ((↑k : Int) - (1 : Int) + (↑(List.length ys) : Int)) + (1 : Int))) - Int.toNat ((↑k : Int) - (1 : Int))) (List.drop ((0 : Nat) + Int.toNat ((↑k : Int) - (1 : Int))) (dgs (List.length xs + (1 : Nat)) (nv xs * d % (nv ys * d * B ^ k))))) = List.length (enc (nv ys * d)) + (1 : Nat), (2 : Nat) ≤ List.length (enc (nv ys * d)), Words (List.take (Int.toNat (IntKind.wrap IntKind.i64 (IntKind.wrap IntKind.i64 ((↑k : Int) - (1 : Int) + (↑(List.length ys) : Int)) + (1 : Int))) - Int.toNat ((↑k : Int) - (1 : Int))) (List.drop ((0 : Nat) + Int.toNat ((↑k : Int) - (1 : Int))) (dgs (List.length xs + (1 : Nat)) (nv xs * d % (nv ys * d * B ^ k))))), Words (enc (nv ys * d)), (0 : Nat) < dg (nv (enc (nv ys * d))) (List.length (enc (nv ys * d)) - (1 : Nat)), List.length (enc (nv ys * d)) < (137438953472 : Nat), Int.toNat (IntKind.wrap IntKind.i64 (IntKind.wrap IntKind.i64 ((↑k : Int) - (1 : Int) + (↑(List.length ys) : Int)) + (1 : Int))) - Int.toNat ((↑k : Int) - (1 : Int)) = List.length (enc (nv ys * d)) + (1 : Nat), (0 : Nat) + Int.toNat ((↑k : Int) - (1 : Int)) + (List.length (enc (nv ys * d)) + (1 : Nat)) ≤ List.length (dgs (List.length xs + (1 : Nat)) (nv xs * d % (nv ys * d * B ^ k))), Words (dgs (List.length xs + (1 : Nat)) (nv xs * d % (nv ys * d * B ^ k))), Words (enc (nv ys * d)), (0 : Int) ≤ (↑(o_guess (nv (List.take (Int.toNat (IntKind.wrap IntKind.i64 (IntKind.wrap IntKind.i64 ((↑k : Int) - (1 : Int) + (↑(List.length ys) : Int)) + (1 : Int))) - Int.toNat ((↑k : Int) - (1 : Int))) (List.drop ((0 : Nat) + Int.toNat ((↑k : Int) - (1 : Int))) (dgs (List.length xs + (1 : Nat)) (nv xs * d % (nv ys * d * B ^ k)))))) (nv (enc (nv ys * d))) (List.length (enc (nv ys * d)))) : Int) ∧ (↑(o_guess (nv (List.take (Int.toNat (IntKind.wrap IntKind.i64 (IntKind.wrap IntKind.i64 ((↑k : Int) - (1 : Int) + (↑(List.length ys) : Int)) + (1 : Int))) - Int.toNat ((↑k : Int) - (1 : Int))) (List.drop ((0 : Nat) + Int.toNat ((↑k : Int) - (1 : Int))) (dgs (List.length xs + (1 : Nat)) (nv xs * d % (nv ys * d * B ^ k)))))) (nv (enc (nv ys * d))) (List.length (enc (nv ys * d)))) : Int) < (4294967296 : Int), List.length (enc (nv ys * d)) < (137438953472 : Nat), decide (o_u (dgs (List.length xs + (1 : Nat)) (nv xs * d % (nv ys * d * B ^ k))) ((0 : Nat) + Int.toNat ((↑k : Int) - (1 : Int))) (List.length (enc (nv ys * d)) + (1 : Nat)) < Int.toNat (↑(o_guess (nv (List.take (Int.toNat (IntKind.wrap IntKind.i64 (IntKind.wrap IntKind.i64 ((↑k : Int) - (1 : Int) + (↑(List.length ys) : Int)) + (1 : Int))) - Int.toNat ((↑k : Int) - (1 : Int))) (List.drop ((0 : Nat) + Int.toNat ((↑k : Int) - (1 : Int))) (dgs (List.length xs + (1 : Nat)) (nv xs * d % (nv ys * d * B ^ k)))))) (nv (enc (nv ys * d))) (List.length (enc (nv ys * d)))) : Int) * nv (enc (nv ys * d))) = false, (0 : Int) ≤ (↑k : Int) - (1 : Int) ∧ (↑k : Int) - (1 : Int) < (↑(List.length xs + (1 : Nat) - List.length ys) : Int), (0 : Nat) + Int.toNat ((↑k : Int) - (1 : Int)) < List.length (o_U (List.length xs + (1 : Nat) - List.length ys) (nv xs / nv ys) k)]) := by kernel_rfl
theorem loop74c (ty ty2 : TypeId) (xs ys : List Int) (d k : Nat) : codeV Tryz.prog (lk E10) L0 (G1 [73]) Tryz.f74.ntmps 60 (loopC Tryz.f74 0) [8, 9, 10, 11, 12, 13] [55, 67] (I74 ty ty2 xs ys d k) = some (Ex.exit (0 : Nat), { tmps := [((8 : Nat), AV.s (SV.one (LV.v (Value.int IntKind.i64 (↑(List.length ys) : Int))))), ((9 : Nat), AV.s (SV.one (LV.v (Value.int IntKind.u64 (↑d : Int))))), ((10 : Nat), AV.s (SV.one (LV.row EK.u32 (enc (nv ys * d))))), ((11 : Nat), AV.s (SV.one (LV.sl (55 : Nat) (0 : Nat) (List.length xs + (1 : Nat)) (List.length xs + (1 : Nat))))), ((12 : Nat), AV.s (SV.one (LV.sl (67 : Nat) (0 : Nat) (List.length xs + (1 : Nat) - List.length ys) (List.length xs + (1 : Nat) - List.length ys)))), ((13 : Nat), AV.s (SV.one (LV.v (Value.int IntKind.i64 ((↑k : Int) - (1 : Int))))))], boxes := [((55 : Nat), { ty := ty, bc := BC.ints EK.u32 (dgs (List.length xs + (1 : Nat)) (nv xs * d % (nv ys * d * B ^ k))), mut_ := true }), ((67 : Nat), { ty := ty2, bc := BC.ints EK.u32 (o_U (List.length xs + (1 : Nat) - List.length ys) (nv xs / nv ys) k), mut_ := true })] }, [decide ((0 : Int) ≤ (↑k : Int) - (1 : Int)) = false]) := by kernel_rfl
theorem run74c (xs ys : List Int) : fnEx Tryz.prog (lk E10) (L74 xs ys) (G1 [21, 25]) 60 Tryz.f74 [roW xs, roW ys] = some (AV.tup [SV.one (LV.row EK.u32 (enc (nv (List.take (List.length xs + (1 : Nat) - List.length ys) (List.drop (0 : Nat) (o_U (List.length xs + (1 : Nat) - List.length ys) (nv xs / nv ys) (0 : Nat))))))), SV.one (LV.row EK.u32 (enc (nv (enc (nv (List.take (List.length xs + (1 : Nat)) (List.drop (0 : Nat) (dgs (List.length xs + (1 : Nat)) (nv xs * Int.toNat (IntKind.wrap IntKind.u64 (Int.tdiv (4294967296 : Int) (IntKind.wrap IntKind.u64 (IntKind.wrap IntKind.u64 (List.getD ys (Int.toNat (IntKind.wrap IntKind.i64 ((↑(List.length ys) : Int) - (1 : Int)))) (0 : Int)) + (1 : Int))))) % (nv ys * Int.toNat (IntKind.wrap IntKind.u64 (Int.tdiv (4294967296 : Int) (IntKind.wrap IntKind.u64 (IntKind.wrap IntKind.u64 (List.getD ys (Int.toNat (IntKind.wrap IntKind.i64 ((↑(List.length ys) : Int) - (1 : Int)))) (0 : Int)) + (1 : Int))))) * B ^ (0 : Nat)))))))) / Int.toNat (↑(Int.toNat (IntKind.wrap IntKind.u64 (Int.tdiv (4294967296 : Int) (IntKind.wrap IntKind.u64 (IntKind.wrap IntKind.u64 (List.getD ys (Int.toNat (IntKind.wrap IntKind.i64 ((↑(List.length ys) : Int) - (1 : Int)))) (0 : Int)) + (1 : Int)))))) : Int))))], [Canon xs, Canon ys, Ln xs, Ln ys, decide (o_cmp (nv xs) (nv ys) < (0 : Int)) = false, decide ((↑(List.length ys) : Int) = (1 : Int)) = false, (0 : Int) ≤ IntKind.wrap IntKind.i64 ((↑(List.length ys) : Int) - (1 : Int)) ∧ IntKind.wrap IntKind.i64 ((↑(List.length ys) : Int) - (1 : Int)) < (↑(List.length ys) : Int), ¬IntKind.wrap IntKind.u64 (IntKind.wrap IntKind.u64 (List.getD ys (Int.toNat (IntKind.wrap IntKind.i64 ((↑(List.length ys) : Int) - (1 : Int)))) (0 : Int)) + (1 : Int)) = (0 : Int), (0 : Int) ≤ IntKind.wrap IntKind.u64 (Int.tdiv (4294967296 : Int) (IntKind.wrap IntKind.u64 (IntKind.wrap IntKind.u64 (List.getD ys (Int.toNat (IntKind.wrap IntKind.i64 ((↑(List.length ys) : Int) - (1 : Int)))) (0 : Int)) + (1 : Int)))) ∧ IntKind.wrap IntKind.u64 (Int.tdiv (4294967296 : Int) (IntKind.wrap IntKind.u64 (IntKind.wrap IntKind.u64 (List.getD ys (Int.toNat (IntKind.wrap IntKind.i64 ((↑(List.length ys) : Int) - (1 : Int)))) (0 : Int)) + (1 : Int)))) < (18446744073709551616 : Int), Words ys, Words (enc (Int.toNat (IntKind.wrap IntKind.u64 (Int.tdiv (4294967296 : Int) (IntKind.wrap IntKind.u64 (IntKind.wrap IntKind.u64 (List.getD ys (Int.toNat (IntKind.wrap IntKind.i64 ((↑(List.length ys) : Int) - (1 : Int)))) (0 : Int)) + (1 : Int))))))), List.length ys < (137438953472 : Nat), List.length (enc (Int.toNat (IntKind.wrap IntKind.u64 (Int.tdiv (4294967296 : Int) (IntKind.wrap IntKind.u64 (IntKind.wrap IntKind.u64 (List.getD ys (Int.toNat (IntKind.wrap IntKind.i64 ((↑(List.length ys) : Int) - (1 : Int)))) (0 : Int)) + (1 : Int))))))) < (137438953472 : Nat), (0 : Int) ≤ IntKind.wrap IntKind.i64 ((↑(List.length xs) : Int) + (1 : Int)) ∧ IntKind.wrap IntKind.i64 ((↑(List.length xs) : Int) + (1 : Int)) ≤ IntKind.wrap IntKind.i64 ((↑(List.length xs) : Int) + (1 : Int)) ∧ IntKind.wrap IntKind.i64 ((↑(List.length xs) : Int) + (1 : Int)) ≤ (1099511627776 : Int), (0 : Int) ≤ IntKind.wrap IntKind.u64 (Int.tdiv (4294967296 : Int) (IntKind.wrap IntKind.u64 (IntKind.wrap IntKind.u64 (List.getD ys (Int.toNat (IntKind.wrap IntKind.i64 ((↑(List.length ys) : Int) - (1 : Int)))) (0 : Int)) + (1 : Int)))) ∧ IntKind.wrap IntKind.u64 (Int.tdiv (4294967296 : Int) (IntKind.wrap IntKind.u64 (IntKind.wrap IntKind.u64 (List.getD ys (Int.toNat (IntKind.wrap IntKind.i64 ((↑(List.length ys) : Int) - (1 : Int)))) (0 : Int)) + (1 : Int)))) < (18446744073709551616 : Int), Words xs, Words (enc (Int.toNat (IntKind.wrap IntKind.u64 (Int.tdiv (4294967296 : Int) (IntKind.wrap IntKind.u64 (IntKind.wrap IntKind.u64 (List.getD ys (Int.toNat (IntKind.wrap IntKind.i64 ((↑(List.length ys) : Int) - (1 : Int)))) (0 : Int)) + (1 : Int))))))), List.length xs < (137438953472 : Nat), List.length (enc (Int.toNat (IntKind.wrap IntKind.u64 (Int.tdiv (4294967296 : Int) (IntKind.wrap IntKind.u64 (IntKind.wrap IntKind.u64 (List.getD ys (Int.toNat (IntKind.wrap IntKind.i64 ((↑(List.length ys) : Int) - (1 : Int)))) (0 : Int)) + (1 : Int))))))) < (137438953472 : Nat), (0 : Nat) + Int.toNat (IntKind.wrap IntKind.i64 ((↑(List.length xs) : Int) + (1 : Int))) ≤ List.length (List.replicate (Int.toNat (IntKind.wrap IntKind.i64 ((↑(List.length xs) : Int) + (1 : Int)))) (0 : Int)), (0 : Int) ≤ IntKind.wrap IntKind.i64 (IntKind.wrap IntKind.i64 ((↑(List.length xs) : Int) - (↑(List.length ys) : Int)) + (1 : Int)) ∧ IntKind.wrap IntKind.i64 (IntKind.wrap IntKind.i64 ((↑(List.length xs) : Int) - (↑(List.length ys) : Int)) + (1 : Int)) ≤ IntKind.wrap IntKind.i64 (IntKind.wrap IntKind.i64 ((↑(List.length xs) : Int) - (↑(List.length ys) : Int)) + (1 : Int)) ∧ IntKind.wrap IntKind.i64 (IntKind.wrap IntKind.i64 ((↑(List.length xs) : Int) - (↑(List.length ys) : Int)) + (1 : Int)) ≤ (1099511627776 : Int), (0 : Int) ≤ IntKind.wrap IntKind.u64 (Int.tdiv (4294967296 : Int) (IntKind.wrap IntKind.u64 (IntKind.wrap IntKind.u64 (List.getD ys (Int.toNat (IntKind.wrap IntKind.i64 ((↑(List.length ys) : Int) - (1 : Int)))) (0 : Int)) + (1 : Int)))), (↑(List.length ys) : Int) = (↑(List.length ys) : Int), Int.toNat (IntKind.wrap IntKind.i64 ((↑(List.length xs) : Int) + (1 : Int))) = List.length xs + (1 : Nat), Int.toNat (IntKind.wrap IntKind.i64 ((↑(List.length xs) : Int) + (1 : Int))) = List.length xs + (1 : Nat), enc (nv ys * nv (enc (Int.toNat (IntKind.wrap IntKind.u64 (Int.tdiv (4294967296 : Int) (IntKind.wrap IntKind.u64 (IntKind.wrap IntKind.u64 (List.getD ys (Int.toNat (IntKind.wrap IntKind.i64 ((↑(List.length ys) : Int) - (1 : Int)))) (0 : Int)) + (1 : Int)))))))) = enc (nv ys * Int.toNat (IntKind.wrap IntKind.u64 (Int.tdiv (4294967296 : Int) (IntKind.wrap IntKind.u64 (IntKind.wrap IntKind.u64 (List.getD ys (Int.toNat (IntKind.wrap IntKind.i64 ((↑(List.length ys) : Int) - (1 : Int)))) (0 : Int)) + (1 : Int)))))), Int.toNat (IntKind.wrap IntKind.i64 (IntKind.wrap IntKind.i64 ((↑(List.length xs) : Int) - (↑(List.length ys) : Int)) + (1 : Int))) = List.length xs + (1 : Nat) - List.length ys, Int.toNat (IntKind.wrap IntKind.i64 (IntKind.wrap IntKind.i64 ((↑(List.length xs) : Int) - (↑(List.length ys) : Int)) + (1 : Int))) = List.length xs + (1 : Nat) - List.length ys, IntKind.wrap IntKind.i64 ((↑(List.length xs) : Int) - (↑(List.length ys) : Int)) = (↑(List.length xs + (1 : Nat) - List.length ys) : Int) - (1 : Int), List.take (0 : Nat) (List.replicate (Int.toNat (IntKind.wrap IntKind.i64 ((↑(List.length xs) : Int) + (1 : Int)))) (0 : Int)) ++ (List.take (Int.toNat (IntKind.wrap IntKind.i64 ((↑(List.length xs) : Int) + (1 : Int)))) (enc (nv xs * nv (enc (Int.toNat (IntKind.wrap IntKind.u64 (Int.tdiv (4294967296 : Int) (IntKind.wrap IntKind.u64 (IntKind.wrap IntKind.u64 (List.getD ys (Int.toNat (IntKind.wrap IntKind.i64 ((↑(List.length ys) : Int) - (1 : Int)))) (0 : Int)) + (1 : Int))))))))) ++ List.drop ((0 : Nat) + min (List.length (enc (nv xs * nv (enc (Int.toNat (IntKind.wrap IntKind.u64 (Int.tdiv (4294967296 : Int) (IntKind.wrap IntKind.u64 (IntKind.wrap IntKind.u64 (List.getD ys (Int.toNat (IntKind.wrap IntKind.i64 ((↑(List.length ys) : Int) - (1 : Int)))) (0 : Int)) + (1 : Int)))))))))) (Int.toNat (IntKind.wrap IntKind.i64 ((↑(List.length xs) : Int) + (1 : Int))))) (List.replicate (Int.toNat (IntKind.wrap IntKind.i64 ((↑(List.length xs) : Int) + (1 : Int)))) (0 : Int))) = dgs (List.length xs + (1 : Nat)) (nv xs * Int.toNat (IntKind.wrap IntKind.u64 (Int.tdiv (4294967296 : Int) (IntKind.wrap IntKind.u64 (IntKind.wrap IntKind.u64 (List.getD ys (Int.toNat (IntKind.wrap IntKind.i64 ((↑(List.length ys) : Int) - (1 : Int)))) (0 : Int)) + (1 : Int)))))), List.replicate (Int.toNat (IntKind.wrap IntKind.i64 (IntKind.wrap IntKind.i64 ((↑(List.length xs) : Int) - (↑(List.length ys) : Int)) + (1 : Int)))) (0 : Int) = List.replicate (List.length xs + (1 : Nat) - List.length ys) (0 : Int), Scaled (nv xs) (nv ys) (Int.toNat (IntKind.wrap IntKind.u64 (Int.tdiv (4294967296 : Int) (IntKind.wrap IntKind.u64 (IntKind.wrap IntKind.u64 (List.getD ys (Int.toNat (IntKind.wrap IntKind.i64 ((↑(List.length ys) : Int) - (1 : Int)))) (0 : Int)) + (1 : Int)))))) (List.length xs) (List.length ys), (2 : Nat) ≤ List.length ys, List.length xs < (137438953471 : Nat), (0 : Nat) + (List.length xs + (1 : Nat)) ≤ List.length (dgs (List.length xs + (1 : Nat)) (nv xs * Int.toNat (IntKind.wrap IntKind.u64 (Int.tdiv (4294967296 : Int) (IntKind.wrap IntKind.u64 (IntKind.wrap IntKind.u64 (List.getD ys (Int.toNat (IntKind.wrap IntKind.i64 ((↑(List.length ys) : Int) - (1 : Int)))) (0 : Int)) + (1 : Int))))) % (nv ys * Int.toNat (IntKind.wrap IntKind.u64 (Int.tdiv (4294967296 : Int) (IntKind.wrap IntKind.u64 (IntKind.wrap IntKind.u64 (List.getD ys (Int.toNat (IntKind.wrap IntKind.i64 ((↑(List.length ys) : Int) - (1 : Int)))) (0 : Int)) + (1 : Int))))) * B ^ (0 : Nat)))) ∧ List.length xs + (1 : Nat) ≤ List.length xs + (1 : Nat) ∧ List.length xs + (1 : Nat) ≤ (9223372036854775807 : Nat), Words (List.take (List.length xs + (1 : Nat)) (List.drop (0 : Nat) (dgs (List.length xs + (1 : Nat)) (nv xs * Int.toNat (IntKind.wrap IntKind.u64 (Int.tdiv (4294967296 : Int) (IntKind.wrap IntKind.u64 (IntKind.wrap IntKind.u64 (List.getD ys (Int.toNat (IntKind.wrap IntKind.i64 ((↑(List.length ys) : Int) - (1 : Int)))) (0 : Int)) + (1 : Int))))) % (nv ys * Int.toNat (IntKind.wrap IntKind.u64 (Int.tdiv (4294967296 : Int) (IntKind.wrap IntKind.u64 (IntKind.wrap IntKind.u64 (List.getD ys (Int.toNat (IntKind.wrap IntKind.i64 ((↑(List.length ys) : Int) - (1 : Int)))) (0 : Int)) + (1 : Int))))) * B ^ (0 : Nat)))))), Ln (List.take (List.length xs + (1 : Nat)) (List.drop (0 : Nat) (dgs (List.length xs + (1 : Nat)) (nv xs * Int.toNat (IntKind.wrap IntKind.u64 (Int.tdiv (4294967296 : Int) (IntKind.wrap IntKind.u64 (IntKind.wrap IntKind.u64 (List.getD ys (Int.toNat (IntKind.wrap IntKind.i64 ((↑(List.length ys) : Int) - (1 : Int)))) (0 : Int)) + (1 : Int))))) % (nv ys * Int.toNat (IntKind.wrap IntKind.u64 (Int.tdiv (4294967296 : Int) (IntKind.wrap IntKind.u64 (IntKind.wrap IntKind.u64 (List.getD ys (Int.toNat (IntKind.wrap IntKind.i64 ((↑(List.length ys) : Int) - (1 : Int)))) (0 : Int)) + (1 : Int))))) * B ^ (0 : Nat)))))), (0 : Int) < (↑(Int.toNat (IntKind.wrap IntKind.u64 (Int.tdiv (4294967296 : Int) (IntKind.wrap IntKind.u64 (IntKind.wrap IntKind.u64 (List.getD ys (Int.toNat (IntKind.wrap IntKind.i64 ((↑(List.length ys) : Int) - (1 : Int)))) (0 : Int)) + (1 : Int)))))) : Int) ∧ (↑(Int.toNat (IntKind.wrap IntKind.u64 (Int.tdiv (4294967296 : Int) (IntKind.wrap IntKind.u64 (IntKind.wrap IntKind.u64 (List.getD ys (Int.toNat (IntKind.wrap IntKind.i64 ((↑(List.length ys) : Int) - (1 : Int)))) (0 : Int)) + (1 : Int)))))) : Int) < (4294967296 : Int), Words (enc (nv (List.take (List.length xs + (1 : Nat)) (List.drop (0 : Nat) (dgs (List.length xs + (1 : Nat)) (nv xs * Int.toNat (IntKind.wrap IntKind.u64 (Int.tdiv (4294967296 : Int) (IntKind.wrap IntKind.u64 (IntKind.wrap IntKind.u64 (List.getD ys (Int.toNat (IntKind.wrap IntKind.i64 ((↑(List.length ys) : Int) - (1 : Int)))) (0 : Int)) + (1 : Int))))) % (nv ys * Int.toNat (IntKind.wrap IntKind.u64 (Int.tdiv (4294967296 : Int) (IntKind.wrap IntKind.u64 (IntKind.wrap IntKind.u64 (List.getD ys (Int.toNat (IntKind.wrap IntKind.i64 ((↑(List.length ys) : Int) - (1 : Int)))) (0 : Int)) + (1 : Int))))) * B ^ (0 : Nat)))))))), Ln (enc (nv (List.take (List.length xs + (1 : Nat)) (List.drop (0 : Nat) (dgs (List.length xs + (1 : Nat)) (nv xs * Int.toNat (IntKind.wrap IntKind.u64 (Int.tdiv (4294967296 : Int) (IntKind.wrap IntKind.u64 (IntKind.wrap IntKind.u64 (List.getD ys (Int.toNat (IntKind.wrap IntKind.i64 ((↑(List.length ys) : Int) - (1 : Int)))) (0 : Int)) + (1 : Int))))) % (nv ys * Int.toNat (IntKind.wrap IntKind.u64 (Int.tdiv (4294967296 : Int) (IntKind.wrap IntKind.u64 (IntKind.wrap IntKind.u64 (List.getD ys (Int.toNat (IntKind.wrap IntKind.i64 ((↑(List.length ys) : Int) - (1 : Int)))) (0 : Int)) + (1 : Int))))) * B ^ (0 : Nat)))))))), (0 : Nat) + (List.length xs + (1 : Nat) - List.length ys) ≤ List.length (o_U (List.length xs + (1 : Nat) - List.length ys) (nv xs / nv ys) (0 : Nat)) ∧ List.length xs + (1 : Nat) - List.length ys ≤ List.length xs + (1 : Nat) - List.length ys ∧ List.length xs + (1 : Nat) - List.length ys ≤ (9223372036854775807 : Nat), Words (List.take (List.length xs + (1 : Nat) - List.length ys) (List.drop (0 : Nat) (o_U (List.length xs + (1 : Nat) - List.length ys) (nv xs / nv ys) (0 : Nat)))), Ln (List.take (List.length xs + (1 : Nat) - List.length ys) (List.drop (0 : Nat) (o_U (List.length xs + (1 : Nat) - List.length ys) (nv xs / nv ys) (0 : Nat))))]) := by kernel_rfl
theorem run59a' (xs ys : List Int) : fnEx Tryz.prog (lk E10) (L59 xs ys) (G1 []) 60 Tryz.f59 [roW xs, roW ys] = some (AV.tup [SV.one (LV.v (Value.slice none (0 : Nat) (0 : Nat))), SV.one (LV.row EK.u32 xs)], [Canon xs, Canon ys, Ln xs, Ln ys, decide (o_cmp (nv xs) (nv ys) < (0 : Int)) = true]) := by kernel_rfl
theorem run59b' (xs ys : List Int) : fnEx Tryz.prog (lk E10) (L59 xs ys) (G1 [17]) 60 Tryz.f59 [roW xs, roW ys] = some (AV.tup [SV.one (LV.row EK.u32 (enc (nv xs / Int.toNat (List.getD ys (Int.toNat (0 : Int)) (0 : Int))))), SV.one (LV.row EK.u32 (enc (nv (List.take (1 : Nat) (List.drop (0 : Nat) [(↑(nv xs % Int.toNat (List.getD ys (Int.toNat (0 : Int)) (0 : Int))) : Int)])))))], [Canon xs, Canon ys, Ln xs, Ln ys, decide (o_cmp (nv xs) (nv ys) < (0 : Int)) = false, decide ((↑(List.length ys) : Int) = (1 : Int)) = true, (0 : Int) ≤ (0 : Int) ∧ (0 : Int) < (↑(List.length ys) : Int), (0 : Int) < List.getD ys (Int.toNat (0 : Int)) (0 : Int) ∧ List.getD ys (Int.toNat (0 : Int)) (0 : Int) < (4294967296 : Int), Words xs, Ln xs, (0 : Nat) + (1 : Nat) ≤ (0 : Nat) + (1 : Nat) ∧ (1 : Nat) ≤ (1 : Nat) ∧ (1 : Nat) ≤ (9223372036854775807 : Nat), Words (List.take (1 : Nat) (List.drop (0 : Nat) [(↑(nv xs % Int.toNat (List.getD ys (Int.toNat (0 : Int)) (0 : Int))) : Int)])), Ln (List.take (1 : Nat) (List.drop (0 : Nat) [(↑(nv xs % Int.toNat (List.getD ys (Int.toNat (0 : Int)) (0 : Int))) : Int)]))]) := by kernel_rfl
theorem run74a' (xs ys : List Int) : fnEx Tryz.prog (lk E10) (L74 xs ys) (G1 []) 60 Tryz.f74 [roW xs, roW ys] = some (AV.tup [SV.one (LV.v (Value.slice none (0 : Nat) (0 : Nat))), SV.one (LV.row EK.u32 xs)], [Canon xs, Canon ys, Ln xs, Ln ys, decide (o_cmp (nv xs) (nv ys) < (0 : Int)) = true]) := by kernel_rfl
theorem run74b' (xs ys : List Int) : fnEx Tryz.prog (lk E10) (L74 xs ys) (G1 [21]) 60 Tryz.f74 [roW xs, roW ys] = some (AV.tup [SV.one (LV.row EK.u32 (enc (nv xs / Int.toNat (IntKind.wrap IntKind.u64 (List.getD ys (Int.toNat (0 : Int)) (0 : Int)))))), SV.one (LV.row EK.u32 (enc (Int.toNat (↑(nv xs % Int.toNat (IntKind.wrap IntKind.u64 (List.getD ys (Int.toNat (0 : Int)) (0 : Int)))) : Int))))], [Canon xs, Canon ys, Ln xs, Ln ys, decide (o_cmp (nv xs) (nv ys) < (0 : Int)) = false, decide ((↑(List.length ys) : Int) = (1 : Int)) = true, (0 : Int) ≤ (0 : Int) ∧ (0 : Int) < (↑(List.length ys) : Int), (0 : Int) < IntKind.wrap IntKind.u64 (List.getD ys (Int.toNat (0 : Int)) (0 : Int)) ∧ IntKind.wrap IntKind.u64 (List.getD ys (Int.toNat (0 : Int)) (0 : Int)) < (4294967296 : Int), Words xs, Ln xs, (0 : Int) ≤ (↑(nv xs % Int.toNat (IntKind.wrap IntKind.u64 (List.getD ys (Int.toNat (0 : Int)) (0 : Int)))) : Int) ∧ (↑(nv xs % Int.toNat (IntKind.wrap IntKind.u64 (List.getD ys (Int.toNat (0 : Int)) (0 : Int)))) : Int) < (18446744073709551616 : Int)]) := by kernel_rfl 
end Go.Proofs.YtkfdnpbpebmhaaaGreatDoor.Spec
end
namespace Go.Proofs.YtkfdnpbpebmhaaaGreatDoor.Num
open Go.Proofs.YtkfdnpbpebmhaaaGreatDoor.Spec
theorem guess_spec {W V n : Nat} (h2 : 2 ≤ n) (hW : W < B ^ (n + 1)) (hV : V < B ^ n) (hp : 0 < dg V (n - 1)) (hlt : W < V * B) : W / V ≤ o_guess W V n ∧ o_guess W V n ≤ W / V + 1 ∧ o_guess W V n < B := by
  obtain ⟨m, rfl⟩ : ∃ m, n = m + 2 := ⟨n - 2, by omega⟩
  have hE := est_mk (m := m) hW hV hp hlt
  refine gue_spec hE _ _ ?_ ?_ hE.start
  · rw [Nat.mul_comm]; exact Nat.div_add_mod _ _
  · exact Nat.lt_trans (Nat.mod_lt _ hp) (dg_lt _ _)
theorem guess_over {W V g : Nat} (hle : W / V ≤ g) (hge : g ≤ W / V + 1) (hlt : W < g * V) : g = W / V + 1 := by
  rcases Nat.lt_or_ge (W / V) g with h | h
  · omega
  · exfalso
    have : g * V ≤ W / V * V := Nat.mul_le_mul_right _ h
    have := Nat.div_mul_le_self W V
    omega
theorem guess_exact {W V g : Nat} (hV : 0 < V) (hle : W / V ≤ g) (hlt : ¬ W < g * V) : g = W / V := (quot_exact hV hle (Nat.not_lt.1 hlt)).1
theorem less_dgs {W V N : Nat} : dgs N (W + B ^ N - W / V * V) = dgs N (W % V) := by
  have h := Nat.div_add_mod W V
  rw [Nat.mul_comm] at h
  have h2 := Nat.div_mul_le_self W V
  rw [show W + B ^ N - W / V * V = W % V + B ^ N by omega, dgs_top]
theorem enc_pad {A N : Nat} (h : A < B ^ N) : List.take 0 (List.replicate N (0 : Int)) ++ (List.take N (enc A) ++ List.drop (0 + min (enc A).length N) (List.replicate N 0)) = dgs N A := by
  have hl := (enc_len A N).2 h
  have hz : Words (List.replicate (N - (enc A).length) (0 : Int)) := fun x hx => by rw [List.mem_replicate] at hx; rw [hx.2]; omega
  have e : List.take 0 (List.replicate N (0 : Int)) ++ (List.take N (enc A) ++ List.drop (0 + min (enc A).length N) (List.replicate N 0)) = enc A ++ List.replicate (N - (enc A).length) 0 := by
    rw [List.take_zero, List.nil_append, List.take_of_length_le hl, List.drop_replicate]
    congr 2; omega
  rw [e]
  have hn : nv (enc A ++ List.replicate (N - (enc A).length) 0) = A := by
    rw [nv_append (words_enc A) hz, nv_enc]
    have : ∀ q, nv (List.replicate q (0 : Int)) = 0 := by
      intro q
      rw [← dgs_zero, nv_dgs, Nat.zero_mod]
    rw [this, Nat.mul_zero, Nat.add_zero]
  conv => rhs; rw [← hn]
  exact (dgs_nv ((words_enc A).append hz) (by rw [List.length_append, List.length_replicate]; omega)).symm
end Go.Proofs.YtkfdnpbpebmhaaaGreatDoor.Num
namespace Go.Proofs.YtkfdnpbpebmhaaaGreatDoor.Spec
open Go Go.RowKit Sx Num

abbrev T6 : Type := TypeId × TypeId × List Int × List Int × Nat × Nat
def V59 (X : List Int) (Y : List Int) (x : TypeId × TypeId × Nat × Nat) : Prop := Scaled (nv X) (nv Y) (2 ^ x.2.2.1) X.length Y.length ∧ 2 ≤ Y.length ∧ X.length < 137438953471 ∧ x.2.2.1 < 32 ∧ x.2.2.2 ≤ X.length + 1 - Y.length
theorem sub59 {xs ys : List Int} {st : St} {e : Ex} {s : St} {obs : List Prop} (h : F59 xs ys st = some (e, s, obs)) (hob : AllP obs) : ∃ x : TypeId × TypeId × Nat × Nat, V59 xs ys x ∧ SubS st (I59 x.1 x.2.1 xs ys x.2.2.1 x.2.2.2) ∧ e = .exit 0 ∧ s = I59 x.1 x.2.1 xs ys x.2.2.1 (xs.length + 1 - ys.length) := by
  unfold F59 at h
  split at h
  · rename_i s0 len cap vs len2 cap2 n i ty zs ty2 qs hz h1 h2 h3 h4 h5 h6 h7 h8
    simp only [Option.some.injEq, Prod.mk.injEq] at h
    obtain ⟨rfl, rfl, rfl⟩ := h
    obtain ⟨⟨hs0, hs⟩, rfl, rfl, rfl, rfl, rfl, rfl, rfl, rfl, rfl, hsc, h2', hl, _⟩ := hob
    obtain ⟨s, rfl⟩ := Int.eq_ofNat_of_zero_le hs0
    simp only [Int.toNat_natCast] at h3 h7 hsc
    refine ⟨(ty, ty2, s, 0), ⟨hsc, h2', hl, by show s < 32; omega, Nat.zero_le _⟩, ⟨?_, ?_, ?_⟩, rfl, rfl⟩
    · intro p hp
      simp only [I59, List.mem_cons, List.not_mem_nil, or_false] at hp
      rcases hp with rfl | rfl | rfl | rfl | rfl | rfl <;> exact ⟨by assumption, rfl⟩
    · intro p hp
      simp only [I59, List.mem_cons, List.not_mem_nil, or_false, Nat.sub_zero, U_full, Nat.mod_eq_of_lt hsc.big] at hp
      rcases hp with rfl | rfl <;> exact ⟨by assumption, rfl⟩
    · rw [hz]; intro h; cases h
  · cases h
theorem lo59 (xs ys : List Int) : ∀ c ∈ loopsF Tryz.f59, LoopOk Tryz.prog Tryz.f59.ntmps (L59 xs ys) c := by
  rw [show loopsF Tryz.f59 = [loopC Tryz.f59 0] by kernel_rfl]
  intro c hc
  rw [List.mem_singleton] at hc
  subst hc
  refine loop_ok (k := 10) (f := F59 xs ys) (α := TypeId × TypeId × Nat × Nat) (by kernel_rfl) rfl (fun x => I59 x.1 x.2.1 xs ys x.2.2.1 x.2.2.2) (fun x => I59 x.1 x.2.1 xs ys x.2.2.1 (xs.length + 1 - ys.length)) (V59 xs ys) (fun x => xs.length + 1 - ys.length - x.2.2.2) (.exit 0) (by simp) (fun st e s obs h hob => sub59 h hob) ?_
  rintro ⟨ty, ty2, s, i⟩ ⟨hsc, h2, hl, hs, hi⟩
  simp only at hsc h2 hl hs hi ⊢
  have hno : ∀ d ∈ loopsOf (loopC Tryz.f59 0), LoopOk Tryz.prog Tryz.f59.ntmps L0 d := by rw [show loopsOf (loopC Tryz.f59 0) = [] by kernel_rfl]; intro d hd; cases hd
  have hnm := hsc.hnm
  by_cases hlt : i < xs.length + 1 - ys.length
  · obtain ⟨k, hk⟩ : ∃ k, k = xs.length + 1 - ys.length - (i + 1) := ⟨_, rfl⟩
    have hk1 : xs.length + 1 - ys.length - i = k + 1 := by omega
    have hkn : k + (ys.length + 1) ≤ xs.length + 1 := by omega
    have w1 : IntKind.wrap IntKind.i64 (IntKind.wrap IntKind.i64 (((xs.length + 1 - ys.length : Nat) : Int) - 1) - (i : Int)) = (k : Int) := by
      rw [wi64 (((xs.length + 1 - ys.length : Nat) : Int) - 1) (by omega) (by omega), wi64 _ (by omega) (by omega)]; omega
    have w2 : IntKind.wrap IntKind.i64 (IntKind.wrap IntKind.i64 ((k : Int) + ((ys.length : Nat) : Int)) + 1) = ((k + ys.length + 1 : Nat) : Int) := by
      rw [wi64 ((k : Int) + ((ys.length : Nat) : Int)) (by omega) (by omega), wi64 _ (by omega) (by omega)]; omega
    have w3 : IntKind.wrap IntKind.i64 ((i : Int) + 1) = ((i + 1 : Nat) : Int) := by rw [wi64 _ (by omega) (by omega)]; omega
    have hLV := hsc.vlen
    have hVp := hsc.vpos
    have hq := hsc.quot
    have htop := hsc.top
    have hrl := hsc.rlt (k + 1)
    obtain ⟨V, hV⟩ : ∃ V, V = nv ys * 2 ^ s := ⟨_, rfl⟩
    obtain ⟨X, hX⟩ : ∃ X, X = nv xs * 2 ^ s := ⟨_, rfl⟩
    rw [← hV] at hLV hVp hq htop hrl
    rw [← hX] at hq hrl
    obtain ⟨r1, r2, r3⟩ := rest_step X V k hVp
    rw [hq] at r2
    obtain ⟨R, hR⟩ : ∃ R, R = X % (V * B ^ (k + 1)) := ⟨_, rfl⟩
    rw [← hR] at r1 r2 r3 hrl
    have hR2 : R < B ^ (k + (ys.length + 1)) := by rw [show k + (ys.length + 1) = k + 1 + ys.length by omega]; exact hrl
    have hWl : R / B ^ k < B ^ (ys.length + 1) := by
      rw [Nat.div_lt_iff_lt_mul (pow_pos' k), ← Nat.pow_add, Nat.add_comm]; exact hR2
    have hW : o_u (dgs (xs.length + 1) R) k (ys.length + 1) = R / B ^ k := by rw [u_dgs hkn, Nat.mod_eq_of_lt hWl]
    have hmodl : R / B ^ k % V < B ^ (ys.length + 1) := Nat.lt_of_le_of_lt (Nat.mod_le _ _) hWl
    have hwin := win_dgs hkn hmodl hR2
    have hUl : (o_U (xs.length + 1 - ys.length) (nv xs / nv ys) (k + 1)).length = xs.length + 1 - ys.length := U_length (by omega)
    have hset := U_set (n := xs.length + 1 - ys.length) (s := nv xs / nv ys) (k := k) (by omega)
    have htop' : 0 < dg V (ys.length - 1) := htop
    refine (codeV_sound hmix E10ok.hS hno (loop59a ty ty2 xs ys s i) ?_).mono ?_
    · rw [← hV, ← hX]
      simp only [AllP, w1, hk1, hLV, nv_enc, tnc, Nat.zero_add, w2, ← hR, hW, dgs_length, hUl]
      unfold B at r1
      and_intros <;> first | exact trivial | omega | assumption | exact words_dgs _ _ | exact words_enc _ | exact decide_eq_true (by omega)
    · rintro e st' ⟨rfl, hst⟩
      refine .inl ⟨rfl, (ty, ty2, s, i + 1), ⟨hsc, h2, hl, hs, by show i + 1 ≤ _; omega⟩, by simp only; omega, ?_, rfl⟩
      rw [← hV, ← hX] at hst
      simp only [w1, w3, hk1, hLV, nv_enc, tnc, Nat.zero_add, ← hR, hW, hwin, r2, r3, hset] at hst
      simp only [I59]
      rw [← hV, ← hX, ← hk]
      exact hst
  · have : i = xs.length + 1 - ys.length := by omega
    subst this
    refine (codeV_sound hmix E10ok.hS hno (loop59b ty ty2 xs ys s _) ?_).mono ?_
    · simp [AllP]
    · rintro e s ⟨rfl, hs⟩
      exact .inr ⟨rfl, hs⟩

/-- Quotient and rest, as the code answers. -/
def spDivR : Sp
  | [.one (.row .u32 xs), .one (.row .u32 ys)] => some (if nv xs < nv ys then .tup [.one (.v (.slice none 0 0)), roW xs] else .tup [roW (enc (nv xs / nv ys)), roW (enc (nv xs % nv ys))], [Canon xs, Canon ys, 0 < ys.length, xs.length < 137438953471, ys.length < 137438953471])
  | _ => none
def spDivN : Sp
  | [.one (.row .u32 xs), .one (.row .u32 ys)] => some (.tup [roW (enc (nv xs / nv ys)), roW (enc (nv xs % nv ys))], [Canon xs, Canon ys, 0 < ys.length, xs.length < 137438953471, ys.length < 137438953471])
  | _ => none
theorem divN {f : FuncId} (h : Con Tryz.prog f spDivR) : Con Tryz.prog f spDivN := by
  refine conWeaken (con_ans h) fun avs r ps hs hp => ?_
  unfold spDivN at hs
  split at hs
  · rename_i xs ys
    simp only [Option.some.injEq, Prod.mk.injEq] at hs
    obtain ⟨rfl, rfl⟩ := hs
    refine ⟨_, ?_, hp⟩
    simp only [nilAns, spDivR, Option.map_some, Option.some.injEq, Prod.mk.injEq, and_true]
    by_cases hlt : nv xs < nv ys
    · rw [if_pos hlt, Nat.div_eq_of_lt hlt, Nat.mod_eq_of_lt hlt, enc_nv hp.1]
      rfl
    · rw [if_neg hlt]; rfl
  · cases hs
theorem cmp_lt (a b : Nat) : decide (o_cmp a b < 0) = decide (a < b) := by
  unfold o_cmp
  by_cases h : a < b
  · simp [h]
  · rw [if_neg h]
    split <;> simp [h]
theorem one_word {ys : List Int} (h : Words ys) (h1 : ys.length = 1) : nv ys = (ys.getD 0 0).toNat := by
  match ys, h1 with
  | [y], _ => rw [nv_cons h, nv_nil]; simp
theorem con59r : Con Tryz.prog 59 spDivR := by
  refine con_runL (fn := Tryz.f59) hmix E10ok.hS (by kernel_rfl) (fun _ => by kernel_rfl) ?_
  intro avs r ps hsp hps
  unfold spDivR at hsp
  split at hsp
  · rename_i xs ys
    simp only [Option.some.injEq, Prod.mk.injEq] at hsp
    obtain ⟨rfl, rfl⟩ := hsp
    obtain ⟨hx, hy, h0, hl, hl', _⟩ := hps
    have hLx : Ln xs := by unfold Ln; omega
    have hLy : Ln ys := by unfold Ln; omega
    refine ⟨rfl, L59 xs ys, lo59 xs ys, ?_⟩
    have hno : ∀ {L}, L = L0 → ∀ d ∈ loopsF Tryz.f59, True := fun _ _ _ => trivial
    by_cases hlt : nv xs < nv ys
    · have hg : ∃ G fuel r' obs, fnEx Tryz.prog (lk E10) (L59 xs ys) G fuel Tryz.f59 [roW xs, roW ys] = some (r', obs) ∧ r' = .tup [.one (.v (.slice none 0 0)), roW xs] ∧ AllP obs := by
        refine ⟨_, _, _, _, run59a' xs ys, rfl, ?_⟩
        simp only [AllP, cmp_lt]
        and_intros <;> first | exact trivial | assumption | exact decide_eq_true hlt | exact hx.1 | exact hx.2 | exact hy.1 | exact hy.2
      rw [if_pos hlt]; exact hg
    · rw [if_neg hlt]
      have hle : ys.length ≤ xs.length := by
        rcases Nat.lt_or_ge xs.length ys.length with h | h
        · exact absurd (canon_lt hx.1 hy h) hlt
        · exact h
      by_cases h1 : ys.length = 1
      · have hY := one_word hy.1 h1
        have hYp : 0 < nv ys := (canon_top hy h0).2.2
        refine ⟨_, _, _, _, run59b' xs ys, ?_, ?_⟩
        · rw [show Int.toNat 0 = 0 from rfl, ← hY]
          have hw1 : Words [((nv xs % nv ys : Nat) : Int)] := by
            intro x hx'
            rw [List.mem_singleton] at hx'
            subst hx'
            have := Nat.mod_lt (nv xs) hYp
            have h5 := nv_lt hy.1
            rw [h1, Nat.pow_one] at h5
            unfold B at h5; omega
          have : nv (List.take 1 (List.drop 0 [((nv xs % nv ys : Nat) : Int)])) = nv xs % nv ys := by
            rw [List.drop_zero, show List.take 1 [((nv xs % nv ys : Nat) : Int)] = [((nv xs % nv ys : Nat) : Int)] from rfl, nv_cons hw1, nv_nil, tnc, Nat.mul_zero, Nat.add_zero]
          rw [this]; rfl
        · rw [show Int.toNat 0 = 0 from rfl]
          rw [← hY]
          have hYB : nv ys < 4294967296 := by have h5 := nv_lt hy.1; rw [h1, Nat.pow_one] at h5; exact h5
          have hr := Nat.mod_lt (nv xs) hYp
          have hw1 : Words (List.take 1 (List.drop 0 [((nv xs % nv ys : Nat) : Int)])) := by
            intro x hx'
            simp only [List.drop_zero, List.take_succ_cons, List.take_zero, List.mem_singleton] at hx'
            subst hx'
            omega
          have hg : ys.getD 0 0 = ((nv ys : Nat) : Int) := by rw [hY]; omega
          have hln : Ln (List.take 1 (List.drop 0 [((nv xs % nv ys : Nat) : Int)])) := by simp [Ln]
          simp only [AllP, cmp_lt, h1, hg]
          have hx1 := hx.1
          have hx2 := hx.2
          have hy1 := hy.1
          have hy2 := hy.2
          and_intros <;> first | exact trivial | omega | assumption | exact decide_eq_false hlt | rfl
      · obtain ⟨sh1, hsc⟩ := scaled_shift hx.1 hy h0 hle _ rfl
        obtain ⟨t, ht⟩ : ∃ t, t = dg (nv ys) (ys.length - 1) := ⟨_, rfl⟩
        rw [← ht] at sh1 hsc
        obtain ⟨s, hs⟩ : ∃ s, s = 32 - o_bl t := ⟨_, rfl⟩
        rw [← hs] at sh1 hsc
        have htb : t < B := by rw [ht]; exact dg_lt _ _
        have hbl : o_bl t ≤ 32 := bl_le (Nat.lt_trans htb (by decide)) htb
        have w1 : IntKind.wrap IntKind.i64 ((ys.length : Int) - 1) = ((ys.length - 1 : Nat) : Int) := by rw [wi64 _ (by omega) (by omega)]; omega
        have g1 : ys.getD (ys.length - 1) 0 = (t : Int) := by rw [ht]; exact nv_getD hy.1 _
        have hsI : (32 : Int) - ((o_bl t : Nat) : Int) = ((s : Nat) : Int) := by omega
        have hVn : nv (dgs (ys.length + 1) (nv ys * 2 ^ s)) = nv ys * 2 ^ s := by
          rw [nv_dgs, Nat.mod_eq_of_lt]
          exact Nat.lt_of_lt_of_le hsc.hV (Nat.pow_le_pow_right (by decide) (by omega))
        have hLV := hsc.vlen
        have htk : ∀ n v, List.take n (dgs n v) = dgs n v := fun n v => List.take_of_length_le (by rw [dgs_length]; exact Nat.le_refl _)
        have hw4 : IntKind.wrap IntKind.i64 (((xs.length + 1 : Nat) : Int) - ((ys.length : Nat) : Int)) = ((xs.length + 1 - ys.length : Nat) : Int) := by rw [wi64 _ (by omega) (by omega)]; omega
        have hQ : nv xs / nv ys < B ^ (xs.length + 1 - ys.length) := by
          rw [← hsc.quot, Nat.div_lt_iff_lt_mul hsc.vpos, Nat.mul_comm (B ^ _)]; exact hsc.big
        have hRl : nv xs * 2 ^ s % (nv ys * 2 ^ s) < B ^ (xs.length + 1) := Nat.lt_of_le_of_lt (Nat.mod_le _ _) hsc.xlt
        have hR : nv xs * 2 ^ s % (nv ys * 2 ^ s) / 2 ^ s = nv xs % nv ys := by rw [hsc.rem, Nat.mul_div_cancel _ (Nat.two_pow_pos s)]
        have hRe := (enc_len (nv xs * 2 ^ s % (nv ys * 2 ^ s)) (xs.length + 1)).2 hRl
        refine ⟨_, _, _, _, run59c xs ys, ?_, ?_⟩
        · simp only [w1, tnc, g1, hsI, Nat.sub_self, Nat.pow_zero, Nat.mul_one, List.drop_zero, U_zero, htk, nv_dgs, Nat.mod_eq_of_lt hQ, Nat.mod_eq_of_lt hRl, nv_enc, hR]
          rfl
        · simp only [AllP, w1, tnc, g1, hsI, cmp_lt, Nat.sub_self, Nat.pow_zero, Nat.mul_one, List.drop_zero, U_zero, htk, dgs_length, hVn, hLV, hw4, nv_dgs, Nat.mod_eq_of_lt hRl]
          have hx1 := hx.1
          have hy1 := hy.1
          have hx2 := hx.2
          have hy2 := hy.2
          unfold B at htb
          and_intros <;> first | exact trivial | omega | assumption | exact words_dgs _ _ | exact words_enc _ | exact decide_eq_false hlt | exact decide_eq_false (by omega) | (unfold Ln; rw [dgs_length]; omega) | rfl
  · cases hsp

end Go.Proofs.YtkfdnpbpebmhaaaGreatDoor.Spec
namespace Go.Proofs.YtkfdnpbpebmhaaaGreatDoor.Spec
open Go Go.RowKit Sx Num

def V74 (X : List Int) (Y : List Int) (x : TypeId × TypeId × Nat × Nat) : Prop := Scaled (nv X) (nv Y) x.2.2.1 X.length Y.length ∧ 2 ≤ Y.length ∧ X.length < 137438953471 ∧ x.2.2.2 ≤ X.length + 1 - Y.length
theorem sub74 {xs ys : List Int} {st : St} {e : Ex} {s : St} {obs : List Prop} (h : F74 xs ys st = some (e, s, obs)) (hob : AllP obs) : ∃ x : TypeId × TypeId × Nat × Nat, V74 xs ys x ∧ SubS st (I74 x.1 x.2.1 xs ys x.2.2.1 x.2.2.2) ∧ e = .exit 0 ∧ s = I74 x.1 x.2.1 xs ys x.2.2.1 0 := by
  unfold F74 at h
  split at h
  · rename_i n d vs len cap len2 cap2 j ty zs ty2 qs hz h1 h2 h3 h4 h5 h6 h7 h8
    simp only [Option.some.injEq, Prod.mk.injEq] at h
    obtain ⟨rfl, rfl, rfl⟩ := h
    obtain ⟨hd0, rfl, rfl, rfl, rfl, rfl, rfl, rfl, rfl, rfl, hsc, h2', hl, _⟩ := hob
    obtain ⟨d, rfl⟩ := Int.eq_ofNat_of_zero_le hd0
    simp only [Int.toNat_natCast] at h3 h7 hsc
    refine ⟨(ty, ty2, d, xs.length + 1 - ys.length), ⟨hsc, h2', hl, Nat.le_refl _⟩, ⟨?_, ?_, ?_⟩, rfl, rfl⟩
    · intro p hp
      simp only [I74, List.mem_cons, List.not_mem_nil, or_false] at hp
      rcases hp with rfl | rfl | rfl | rfl | rfl | rfl <;> exact ⟨by assumption, rfl⟩
    · intro p hp
      simp only [I74, List.mem_cons, List.not_mem_nil, or_false, U_full, Nat.mod_eq_of_lt hsc.big] at hp
      rcases hp with rfl | rfl <;> exact ⟨by assumption, rfl⟩
    · rw [hz]; intro h; cases h
  · cases h
theorem u32_lt (x : Nat) (h : x < B) : IntKind.wrap IntKind.u32 (x : Int) = x := by
  rw [w32]
  exact Int.emod_eq_of_lt (Int.natCast_nonneg _) (by unfold B at h; omega)
theorem lo74 (xs ys : List Int) : ∀ c ∈ loopsF Tryz.f74, LoopOk Tryz.prog Tryz.f74.ntmps (L74 xs ys) c := by
  rw [show loopsF Tryz.f74 = [loopC Tryz.f74 0] by kernel_rfl]
  intro c hc
  rw [List.mem_singleton] at hc
  subst hc
  refine loop_ok (k := 13) (f := F74 xs ys) (α := TypeId × TypeId × Nat × Nat) (by kernel_rfl) rfl (fun x => I74 x.1 x.2.1 xs ys x.2.2.1 x.2.2.2) (fun x => I74 x.1 x.2.1 xs ys x.2.2.1 0) (V74 xs ys) (fun x => x.2.2.2) (.exit 0) (by simp) (fun st e s obs h hob => sub74 h hob) ?_
  rintro ⟨ty, ty2, s, k1⟩ ⟨hsc, h2, hl, hi⟩
  simp only at hsc h2 hl hi ⊢
  have hno : ∀ d ∈ loopsOf (loopC Tryz.f74 0), LoopOk Tryz.prog Tryz.f74.ntmps L0 d := by rw [show loopsOf (loopC Tryz.f74 0) = [] by kernel_rfl]; intro d hd; cases hd
  have hnm := hsc.hnm
  by_cases hlt : 0 < k1
  · obtain ⟨k, rfl⟩ : ∃ k, k1 = k + 1 := ⟨k1 - 1, by omega⟩
    have hkn : k + (ys.length + 1) ≤ xs.length + 1 := by omega
    have w1 : ((k + 1 : Nat) : Int) - 1 = (k : Int) := by omega
    have w2 : IntKind.wrap IntKind.i64 (IntKind.wrap IntKind.i64 ((k : Int) + ((ys.length : Nat) : Int)) + 1) = ((k + ys.length + 1 : Nat) : Int) := by
      rw [wi64 ((k : Int) + ((ys.length : Nat) : Int)) (by omega) (by omega), wi64 _ (by omega) (by omega)]; omega
    have w3 : IntKind.wrap IntKind.i64 ((k : Int) - 1) = (k : Int) - 1 := by rw [wi64 _ (by omega) (by omega)]
    have hdiff : k + ys.length + 1 - k = ys.length + 1 := by omega
    have hLV := hsc.vlen
    have hVp := hsc.vpos
    have hq := hsc.quot
    have htop := hsc.top
    have hVl := hsc.hV
    have hrl := hsc.rlt (k + 1)
    obtain ⟨V, hV⟩ : ∃ V, V = nv ys * s := ⟨_, rfl⟩
    obtain ⟨X, hX⟩ : ∃ X, X = nv xs * s := ⟨_, rfl⟩
    rw [← hV] at hLV hVp hq htop hrl hVl
    rw [← hX] at hq hrl
    obtain ⟨r1, r2, r3⟩ := rest_step X V k hVp
    rw [hq] at r2
    obtain ⟨R, hR⟩ : ∃ R, R = X % (V * B ^ (k + 1)) := ⟨_, rfl⟩
    rw [← hR] at r1 r2 r3 hrl
    have hR2 : R < B ^ (k + (ys.length + 1)) := by rw [show k + (ys.length + 1) = k + 1 + ys.length by omega]; exact hrl
    have hWl : R / B ^ k < B ^ (ys.length + 1) := by
      rw [Nat.div_lt_iff_lt_mul (pow_pos' k), ← Nat.pow_add, Nat.add_comm]; exact hR2
    have hW : o_u (dgs (xs.length + 1) R) k (ys.length + 1) = R / B ^ k := by rw [u_dgs hkn, Nat.mod_eq_of_lt hWl]
    have hW0 : nv (List.take (ys.length + 1) (List.drop k (dgs (xs.length + 1) R))) = R / B ^ k := hW
    have hWw : Words (List.take (ys.length + 1) (List.drop k (dgs (xs.length + 1) R))) := part_words (words_dgs _ _)
    have hWn : (List.take (ys.length + 1) (List.drop k (dgs (xs.length + 1) R))).length = ys.length + 1 := part_length (by rw [dgs_length]; exact hkn)
    have hmodl : R / B ^ k % V < B ^ (ys.length + 1) := Nat.lt_of_le_of_lt (Nat.mod_le _ _) hWl
    have hwin := win_dgs hkn hmodl hR2
    have hUl : (o_U (xs.length + 1 - ys.length) (nv xs / nv ys) (k + 1)).length = xs.length + 1 - ys.length := U_length (by omega)
    have hset := U_set (n := xs.length + 1 - ys.length) (s := nv xs / nv ys) (k := k) (by omega)
    obtain ⟨g1, g2, g3⟩ := guess_spec h2 hWl hVl htop r1
    obtain ⟨W, hWdef⟩ : ∃ W, W = R / B ^ k := ⟨_, rfl⟩
    rw [← hWdef] at r1 r2 r3 hW hW0 hmodl hwin g1 g2 g3 hWl
    obtain ⟨g, hg⟩ : ∃ g, g = o_guess W V ys.length := ⟨_, rfl⟩
    rw [← hg] at g1 g2 g3
    by_cases hov : W < g * V
    · have hgq := guess_over g1 g2 hov
      obtain ⟨Q, hQ⟩ : ∃ Q, Q = W / V := ⟨_, rfl⟩
      have hQB : Q < B := by rw [← hQ] at hgq; omega
      have hgI : IntKind.wrap IntKind.u32 (IntKind.wrap IntKind.u64 ((g : Int) - 1)) = ((W / V : Nat) : Int) := by
        rw [hgq, ← hQ, show (((Q + 1 : Nat) : Int) - 1) = (Q : Int) by omega, u64_lt _ hQB, u32_lt _ hQB]
      have hqV : g * V < B ^ (ys.length + 1) := mul_lt_pow g3 hVl
      have hs1 : (W + B ^ (ys.length + 1) - g * V) % B ^ (ys.length + 1) = W + B ^ (ys.length + 1) - g * V := Nat.mod_eq_of_lt (by omega)
      have hu1 : o_u (o_win (dgs (xs.length + 1) R) k (dgs (ys.length + 1) (W + B ^ (ys.length + 1) - g * V))) k (ys.length + 1) = W + B ^ (ys.length + 1) - g * V := by
        rw [u_win (by rw [dgs_length]; exact hkn), hs1]
      have hs2 : W + B ^ (ys.length + 1) - g * V + V = W + B ^ (ys.length + 1) - W / V * V := by
        rw [hgq, Nat.add_mul, Nat.one_mul]
        rw [hgq, Nat.add_mul, Nat.one_mul] at hqV
        omega
      have hfull : dgs (ys.length + 1) (W + B ^ (ys.length + 1) - g * V + V) = dgs (ys.length + 1) (W % V) := by rw [hs2, less_dgs]
      have hww : o_win (o_win (dgs (xs.length + 1) R) k (dgs (ys.length + 1) (W + B ^ (ys.length + 1) - g * V))) k (dgs (ys.length + 1) (W % V)) = o_win (dgs (xs.length + 1) R) k (dgs (ys.length + 1) (W % V)) := win_win (by rw [dgs_length, dgs_length]; exact hkn) (by rw [dgs_length, dgs_length])
      have hwl : (o_win (dgs (xs.length + 1) R) k (dgs (ys.length + 1) (W + B ^ (ys.length + 1) - g * V))).length = xs.length + 1 := by rw [wdgs_len (by rw [dgs_length]; exact hkn), dgs_length]
      have hwW : Words (o_win (dgs (xs.length + 1) R) k (dgs (ys.length + 1) (W + B ^ (ys.length + 1) - g * V))) := win_words (words_dgs _ _) (words_dgs _ _)
      have htop' : 0 < dg V (ys.length - 1) := htop
      refine (codeV_sound hmix E10ok.hS hno (loop74a ty ty2 xs ys s (k + 1)) ?_).mono ?_
      · rw [← hV, ← hX]
        simp only [AllP, w1, hLV, nv_enc, tnc, Nat.zero_add, w2, hdiff, ← hR, hW, hW0, ← hg, dgs_length, hUl, hWn, hwl]
        unfold B at g3
        and_intros <;> first | exact trivial | omega | assumption | exact words_dgs _ _ | exact words_enc _ | exact decide_eq_true (by omega) | exact decide_eq_true hov
      · rintro e st' ⟨rfl, hst⟩
        refine .inl ⟨rfl, (ty, ty2, s, k), ⟨hsc, h2, hl, by show k ≤ _; omega⟩, by simp only; omega, ?_, rfl⟩
        rw [← hV, ← hX] at hst
        simp only [w1, w2, w3, hLV, nv_enc, tnc, Nat.zero_add, hdiff, ← hR, hW, hW0, ← hg, hu1, hfull, hww, hwin, hgI, r2, r3, hset] at hst
        simp only [I74]
        rw [← hV, ← hX]
        exact hst
    · have hgq := guess_exact hVp g1 hov
      have hgI : IntKind.wrap IntKind.u32 ((g : Nat) : Int) = ((W / V : Nat) : Int) := by rw [u32_lt _ g3, hgq]
      have hs2 : W + B ^ (ys.length + 1) - g * V = W + B ^ (ys.length + 1) - W / V * V := by rw [← hgq]
      have htop' : 0 < dg V (ys.length - 1) := htop
      refine (codeV_sound hmix E10ok.hS hno (loop74b ty ty2 xs ys s (k + 1)) ?_).mono ?_
      · rw [← hV, ← hX]
        simp only [AllP, w1, hLV, nv_enc, tnc, Nat.zero_add, w2, hdiff, ← hR, hW, hW0, ← hg, dgs_length, hUl, hWn]
        unfold B at g3
        and_intros <;> first | exact trivial | omega | assumption | exact words_dgs _ _ | exact words_enc _ | exact decide_eq_true (by omega) | exact decide_eq_false hov
      · rintro e st' ⟨rfl, hst⟩
        refine .inl ⟨rfl, (ty, ty2, s, k), ⟨hsc, h2, hl, by show k ≤ _; omega⟩, by simp only; omega, ?_, rfl⟩
        rw [← hV, ← hX] at hst
        simp only [w1, w2, w3, hLV, nv_enc, tnc, Nat.zero_add, hdiff, ← hR, hW, hW0, ← hg, hgI] at hst
        rw [hs2, less_dgs, hwin, r2, r3, hset] at hst
        simp only [I74]
        rw [← hV, ← hX]
        exact hst
  · have : k1 = 0 := by omega
    subst this
    refine (codeV_sound hmix E10ok.hS hno (loop74c ty ty2 xs ys s _) ?_).mono ?_
    · simp [AllP]
    · rintro e s ⟨rfl, hs⟩
      exact .inr ⟨rfl, hs⟩

theorem con74r : Con Tryz.prog 74 spDivR := by
  refine con_runL (fn := Tryz.f74) hmix E10ok.hS (by kernel_rfl) (fun _ => by kernel_rfl) ?_
  intro avs r ps hsp hps
  unfold spDivR at hsp
  split at hsp
  · rename_i xs ys
    simp only [Option.some.injEq, Prod.mk.injEq] at hsp
    obtain ⟨rfl, rfl⟩ := hsp
    obtain ⟨hx, hy, h0, hl, hl', _⟩ := hps
    have hLx : Ln xs := by unfold Ln; omega
    have hLy : Ln ys := by unfold Ln; omega
    have hx1 := hx.1
    have hx2 := hx.2
    have hy1 := hy.1
    have hy2 := hy.2
    refine ⟨rfl, L74 xs ys, lo74 xs ys, ?_⟩
    by_cases hlt : nv xs < nv ys
    · rw [if_pos hlt]
      refine ⟨_, _, _, _, run74a' xs ys, rfl, ?_⟩
      simp only [AllP, cmp_lt]
      and_intros <;> first | exact trivial | assumption | exact decide_eq_true hlt
    · rw [if_neg hlt]
      have hle : ys.length ≤ xs.length := by
        rcases Nat.lt_or_ge xs.length ys.length with h | h
        · exact absurd (canon_lt hx.1 hy h) hlt
        · exact h
      by_cases h1 : ys.length = 1
      · have hY := one_word hy.1 h1
        have hYp : 0 < nv ys := (canon_top hy h0).2.2
        have hYB : nv ys < 4294967296 := by have h5 := nv_lt hy.1; rw [h1, Nat.pow_one] at h5; exact h5
        have hr := Nat.mod_lt (nv xs) hYp
        have hg : ys.getD 0 0 = ((nv ys : Nat) : Int) := by have := Words.getD hy.1 0; rw [hY]; omega
        have hwy : IntKind.wrap IntKind.u64 ((nv ys : Nat) : Int) = ((nv ys : Nat) : Int) := u64_lt _ hYB
        refine ⟨_, _, _, _, run74b' xs ys, ?_, ?_⟩
        · simp only [show Int.toNat 0 = 0 from rfl, hg, hwy, tnc]
          rfl
        · simp only [AllP, cmp_lt, show Int.toNat 0 = 0 from rfl, h1, hg, hwy, tnc]
          and_intros <;> first | exact trivial | omega | assumption | exact decide_eq_false hlt | rfl
      · obtain ⟨sh1, hsc⟩ := scaled_word hx.1 hy h0 hle _ rfl
        obtain ⟨t, ht⟩ : ∃ t, t = dg (nv ys) (ys.length - 1) := ⟨_, rfl⟩
        rw [← ht] at sh1 hsc
        obtain ⟨d, hd⟩ : ∃ d, d = B / (t + 1) := ⟨_, rfl⟩
        rw [← hd] at sh1 hsc
        have htb : t < B := by rw [ht]; exact dg_lt _ _
        have w1 : IntKind.wrap IntKind.i64 ((ys.length : Int) - 1) = ((ys.length - 1 : Nat) : Int) := by rw [wi64 _ (by omega) (by omega)]; omega
        have w2 : IntKind.wrap IntKind.i64 ((xs.length : Int) + 1) = ((xs.length + 1 : Nat) : Int) := by rw [wi64 _ (by omega) (by omega)]; omega
        have w3 : IntKind.wrap IntKind.i64 ((xs.length : Int) - (ys.length : Int)) = ((xs.length + 1 - ys.length : Nat) : Int) - 1 := by rw [wi64 _ (by omega) (by omega)]; omega
        have w4 : IntKind.wrap IntKind.i64 ((((xs.length + 1 - ys.length : Nat) : Int) - 1) + 1) = ((xs.length + 1 - ys.length : Nat) : Int) := by rw [wi64 _ (by omega) (by omega)]; omega
        have g1 : ys.getD (ys.length - 1) 0 = (t : Int) := by rw [ht]; exact nv_getD hy.1 _
        have hwt : IntKind.wrap IntKind.u64 (IntKind.wrap IntKind.u64 (t : Int) + 1) = ((t + 1 : Nat) : Int) := by
          rw [u64_lt _ htb, w64]; unfold B at htb; omega
        have hdI : IntKind.wrap IntKind.u64 (Int.tdiv 4294967296 ((t + 1 : Nat) : Int)) = ((d : Nat) : Int) := by
          rw [show (4294967296 : Int) = ((B : Nat) : Int) from rfl, Int.tdiv_eq_ediv_of_nonneg (Int.natCast_nonneg _), ← Int.natCast_ediv, ← hd]
          exact u64_lt _ sh1
        have hdp := hsc.hc
        have htk : ∀ n v, List.take n (dgs n v) = dgs n v := fun n v => List.take_of_length_le (by rw [dgs_length]; exact Nat.le_refl _)
        have hQ : nv xs / nv ys < B ^ (xs.length + 1 - ys.length) := by
          rw [← hsc.quot, Nat.div_lt_iff_lt_mul hsc.vpos, Nat.mul_comm (B ^ _)]; exact hsc.big
        have hRl : nv xs * d % (nv ys * d) < B ^ (xs.length + 1) := Nat.lt_of_le_of_lt (Nat.mod_le _ _) hsc.xlt
        have hR : nv xs * d % (nv ys * d) / d = nv xs % nv ys := by rw [hsc.rem, Nat.mul_div_cancel _ hdp]
        have hRe := (enc_len (nv xs * d % (nv ys * d)) (xs.length + 1)).2 hRl
        have hde : (enc d).length ≤ 1 := (enc_len d 1).2 (by rw [Nat.pow_one]; exact sh1)
        have hpad := enc_pad hsc.xlt
        refine ⟨_, _, _, _, run74c xs ys, ?_, ?_⟩
        · simp only [w1, tnc, g1, hwt, hdI, Nat.pow_zero, Nat.mul_one, List.drop_zero, U_zero, htk, nv_dgs, Nat.mod_eq_of_lt hQ, Nat.mod_eq_of_lt hRl, nv_enc, hR]
          rfl
        · simp only [AllP, w1, w2, w3, w4, tnc, g1, hwt, hdI, cmp_lt, Nat.pow_zero, Nat.mul_one, List.drop_zero, U_zero, htk, dgs_length, nv_enc, nv_dgs, Nat.mod_eq_of_lt hRl, List.length_replicate]
          unfold B at htb sh1
          and_intros <;> first | exact trivial | omega | assumption | exact words_dgs _ _ | exact words_enc _ | exact decide_eq_false hlt | exact decide_eq_false (by omega) | (unfold Ln; rw [dgs_length]; omega) | (unfold Ln; omega) | rfl
  · cases hsp
def E11 : List (Nat × Ctr) := (59, .fn spDivN) :: (74, .fn spDivN) :: E10
theorem E11ok : EnvOk Tryz.prog E11 := .cons (divN con59r) (.cons (divN con74r) E10ok)

end Go.Proofs.YtkfdnpbpebmhaaaGreatDoor.Spec
namespace Go.Proofs.YtkfdnpbpebmhaaaGreatDoor.Spec
open Go Go.RowKit Sx Num

def unA : SV → SV
  | .abs zs => .agg (absL zs)
  | x => x
def unAA : AV → AV
  | .s x => .s (unA x)
  | .tup xs => .tup (xs.map unA)
theorem gS_unA {M : Nat → Prop} {β : Nat → Nat} {w : World} (x : SV) (u : Value) : gS M β w (unA x) u ↔ gS M β w x u := by
  cases x <;> exact Iff.rfl
theorem gSs_unA {M : Nat → Prop} {β : Nat → Nat} {w : World} : ∀ (xs : List SV) (us : List Value), gSs M β w (xs.map unA) us ↔ gSs M β w xs us
  | [], [] => Iff.rfl
  | x :: xs, u :: us => by
    simp only [List.map_cons, gSs, gS_unA, gSs_unA xs us]
  | [], _ :: _ => Iff.rfl
  | _ :: _, [] => Iff.rfl
theorem gA_unAA {M : Nat → Prop} {β : Nat → Nat} {w : World} (x : AV) (u : Value) : gA M β w (unAA x) u ↔ gA M β w x u := by
  cases x with
  | s x => exact gS_unA x u
  | tup xs => simp only [unAA, gA, gSs_unA]
/-- A contract that speaks of numbers, out of one that speaks of words. -/
theorem con_abs {P : Program} {f : FuncId} {sp sp' : Sp} (h : Con P f sp) (hw : ∀ avs r ps, sp' avs = some (r, ps) → AllP ps → r.okB noB = true ∧ ∃ r0 qs, sp (avs.map unA) = some (r0, qs) ∧ r0 = unAA r ∧ AllP qs) : Con P f sp' :=
  ⟨h.enters, fun avs r ps hs hp M β w vs hM hg => by
    obtain ⟨hok, r0, qs, h1, rfl, h3⟩ := hw avs r ps hs (allP_iff.2 hp)
    exact (h.calls _ _ qs h1 (allP_iff.1 h3) M β w vs hM ((gSs_unA _ _).2 hg)).mono fun e w' ⟨u, he, _, hgu, hb⟩ => ⟨u, he, hok, (gA_unAA _ _).1 hgu, hb⟩⟩

def o_toI (s : Bool) (xs : List Int) : Int := if s = true then -(nv xs : Int) else nv xs
def o_ok (s : Bool) (xs : List Int) : Prop := Canon xs ∧ (s = true → xs ≠ [])
def o_sz (n : Nat) (z : Int) : Prop := z.natAbs < B ^ n
theorem ok_enc (z : Int) : o_ok (decide (z < 0)) (enc z.natAbs) := by
  refine ⟨canon_enc _, fun h e => ?_⟩
  have hz : z < 0 := of_decide_eq_true h
  have : (enc z.natAbs).length = 0 := by rw [e]; rfl
  have := (enc_len_pos z.natAbs).2 (by omega)
  omega
theorem toI_enc (z : Int) : o_toI (decide (z < 0)) (enc z.natAbs) = z := by
  unfold o_toI
  rw [nv_enc]
  by_cases h : z < 0
  · rw [if_pos (by simp [h])]; omega
  · rw [if_neg (by simp [h])]; omega
theorem toI_abs {s : Bool} {xs : List Int} (h : o_ok s xs) : decide (o_toI s xs < 0) = s ∧ enc (o_toI s xs).natAbs = xs := by
  obtain ⟨hc, hs⟩ := h
  unfold o_toI
  cases s with
  | false => exact ⟨by simp, by simp [enc_nv hc]⟩
  | true =>
    have hp : 0 < nv xs := by
      rcases Nat.eq_zero_or_pos (nv xs) with e | e
      · have := enc_nv hc; rw [e, enc_zero] at this; exact absurd this.symm (hs rfl)
      · exact e
    exact ⟨by simp; omega, by simp [enc_nv hc]⟩
/-- A number, read back from its sign and words. -/
def o_rt (z : Int) : Int := o_toI (decide (z < 0)) (enc z.natAbs)
theorem rt_eq (z : Int) : o_rt z = z := toI_enc z
def o_okz (z : Int) : Prop := o_ok (decide (z < 0)) (enc z.natAbs)
theorem okz_t (z : Int) : o_okz z ↔ True := ⟨fun _ => trivial, fun _ => ok_enc z⟩
theorem sz_mono {m n : Nat} {z : Int} (h : o_sz m z) (hmn : m ≤ n) : o_sz n z := Nat.lt_of_lt_of_le h (Nat.pow_le_pow_right (by decide) hmn)
theorem sz_len {n : Nat} {z : Int} (h : o_sz n z) : (enc z.natAbs).length ≤ n := (enc_len _ _).2 h
theorem sz_neg {n : Nat} {z : Int} (h : o_sz n z) : o_sz n (-z) := by unfold o_sz at *; rwa [Int.natAbs_neg]
theorem sz_add {m n : Nat} {x y : Int} (h : o_sz m x) (k : o_sz n y) : o_sz (max m n + 1) (x + y) := by
  unfold o_sz at *
  have h1 : x.natAbs < B ^ max m n := Nat.lt_of_lt_of_le h (Nat.pow_le_pow_right (by decide) (Nat.le_max_left _ _))
  have h2 : y.natAbs < B ^ max m n := Nat.lt_of_lt_of_le k (Nat.pow_le_pow_right (by decide) (Nat.le_max_right _ _))
  have h3 := Int.natAbs_add_le x y
  rw [Nat.pow_succ]
  have : B ^ max m n * 2 ≤ B ^ max m n * B := Nat.mul_le_mul_left _ (by decide)
  omega
theorem sz_sub {m n : Nat} {x y : Int} (h : o_sz m x) (k : o_sz n y) : o_sz (max m n + 1) (x - y) := by
  rw [Int.sub_eq_add_neg]; exact sz_add h (sz_neg k)
theorem sz_mul {m n : Nat} {x y : Int} (h : o_sz m x) (k : o_sz n y) : o_sz (m + n) (x * y) := by
  unfold o_sz at *
  rw [Int.natAbs_mul, Nat.pow_add]
  exact Nat.mul_lt_mul_of_lt_of_le h (Nat.le_of_lt k) (pow_pos' n)
theorem sz_zero (n : Nat) : o_sz n 0 := by unfold o_sz; exact pow_pos' n

/-- Arguments that are structs of signs and words go as numbers. -/
def zfix : SV → SV × List Prop
  | .agg [.v (.bool s), .row .u32 xs] => (.abs [o_toI s xs], [o_ok s xs])
  | .agg [.v (.bool s), .v (.slice none 0 0)] => (.abs [0], [s = false])
  | .agg [.v (.bool s), .row .u32 xs, .v (.bool t), .row .u32 ys] => (.abs [o_toI s xs, o_toI t ys], [o_ok s xs, o_ok t ys])
  | x => (x, [])
def zfixs : List SV → List SV × List Prop
  | [] => ([], [])
  | x :: xs => ((zfix x).1 :: (zfixs xs).1, (zfix x).2 ++ (zfixs xs).2)
theorem zfix_g {M : Nat → Prop} {β : Nat → Nat} {w : World} {x : SV} {u : Value} (h : gS M β w x u) (hp : ∀ p, p ∈ (zfix x).2 → p) : gS M β w (zfix x).1 u := by
  unfold zfix at hp ⊢
  split
  · rename_i s xs
    have hk : o_ok s xs := hp _ (List.mem_singleton.2 rfl)
    obtain ⟨h1, h2⟩ := toI_abs hk
    obtain ⟨arr, e, hg⟩ := h
    refine ⟨arr, e, ?_⟩
    simp only [absL, h1, h2]
    exact hg
  · rename_i s
    have hk : s = false := hp _ (List.mem_singleton.2 rfl)
    subst hk
    obtain ⟨arr, rfl, hg⟩ := h
    refine ⟨arr, rfl, ?_⟩
    match hq : arr.toList, hg with
    | [a, b], hg =>
      have hb : b = .slice none 0 0 := hg.2.1
      subst hb
      exact ⟨hg.1, ⟨none, 0, rfl, Nat.le_refl _, by simp [enc_zero], fun _ _ h => by simp [enc_zero] at h⟩, trivial⟩
    | [], hg => exact hg.elim
    | [_], hg => exact hg.2.elim
    | _ :: _ :: _ :: _, hg => exact hg.2.2.elim
  · rename_i s xs t ys
    have hk : o_ok s xs := hp _ (List.mem_cons_self ..)
    have hk' : o_ok t ys := hp _ (List.mem_cons_of_mem _ (List.mem_singleton.2 rfl))
    obtain ⟨h1, h2⟩ := toI_abs hk
    obtain ⟨h3, h4⟩ := toI_abs hk'
    obtain ⟨arr, e, hg⟩ := h
    refine ⟨arr, e, ?_⟩
    simp only [absL, h1, h2, h3, h4]
    exact hg
  · exact h
theorem zfixs_g {M : Nat → Prop} {β : Nat → Nat} {w : World} : ∀ {xs : List SV} {us : List Value}, gSs M β w xs us → (∀ p, p ∈ (zfixs xs).2 → p) → gSs M β w (zfixs xs).1 us
  | [], [], _, _ => trivial
  | _x :: _xs, _u :: _us, h, hp => ⟨zfix_g h.1 fun p hm => hp p (List.mem_append.2 (.inl hm)), zfixs_g h.2 fun p hm => hp p (List.mem_append.2 (.inr hm))⟩
  | [], _ :: _, h, _ => h.elim
  | _ :: _, [], h, _ => h.elim
def zArgs (sp : Sp) : Sp := fun avs => (sp (zfixs avs).1).map fun (r, qs) => (r, (zfixs avs).2 ++ qs)
theorem con_z {P : Program} {f : FuncId} {sp : Sp} (h : Con P f sp) : Con P f (zArgs sp) :=
  ⟨h.enters, fun avs r ps hs hp M β w vs hM hg => by
    unfold zArgs at hs
    obtain ⟨⟨r0, qs⟩, h1, h2⟩ := Option.map_eq_some_iff.1 hs
    simp only [Prod.mk.injEq] at h2
    obtain ⟨rfl, rfl⟩ := h2
    exact h.calls _ r0 qs h1 (fun p hm => hp p (List.mem_append.2 (.inr hm))) M β w vs hM (zfixs_g hg fun p hm => hp p (List.mem_append.2 (.inl hm)))⟩
theorem allP_append {l r : List Prop} : AllP (l ++ r) ↔ AllP l ∧ AllP r := by
  rw [allP_iff, allP_iff, allP_iff]
  exact ⟨fun h => ⟨fun p hp => h p (List.mem_append.2 (.inl hp)), fun p hp => h p (List.mem_append.2 (.inr hp))⟩, fun h p hp => (List.mem_append.1 hp).elim (h.1 p) (h.2 p)⟩
/-- What an integer's sign and words come to. -/
theorem mkN_abs (s : Bool) (n : Nat) (z : Int) (h : z = if s = true then -(n : Int) else n) : mkN s n = .agg (absL [z]) := by
  unfold mkN absL
  cases s with
  | false =>
    have : z = (n : Int) := by simpa using h
    subst this
    simp [absL]
  | true =>
    have : z = -(n : Int) := by simpa using h
    subst this
    have e1 : decide (0 < n) = decide (-(n : Int) < 0) := by rw [decide_eq_decide]; omega
    simp [absL]
theorem con_runZ {P : Program} {S : FuncId → Option Ctr} {f : FuncId} {fn : Func} {sp : Sp} (hm : P.follows .mixedOrders = true) (hS : ∀ f c, S f = some c → Cn P f c) (hf : P.funcs[f]? = some fn) (hent : ∀ args : Array Value, pureRun P (callFunc f args) = some (.enter f args))
    (h : ∀ avs r ps, sp avs = some (r, ps) → AllP ps → (Nat.ble avs.length fn.ntmps && ((avs.all fun x => x.okB noB) && r.okB noB)) = true ∧ ∃ L, (∀ d ∈ loopsF fn, LoopOk P fn.ntmps L d) ∧ ∃ G fuel r' obs, fnEx P S L G fuel fn avs = some (r', obs) ∧ r' = unAA r ∧ AllP obs) : Con P f sp := by
  have h0 : Con P f (fun avs => (sp avs).map fun (r, ps) => (unAA r, ps)) := by
    refine con_runL (fn := fn) hm hS hf hent fun avs r ps hs hp => ?_
    obtain ⟨⟨r0, qs⟩, h1, h2⟩ := Option.map_eq_some_iff.1 hs
    simp only [Prod.mk.injEq] at h2
    obtain ⟨rfl, rfl⟩ := h2
    obtain ⟨e1, e2⟩ := h avs r0 qs h1 hp
    simp only [Bool.and_eq_true] at e1 ⊢
    exact ⟨⟨e1.1, e1.2.1⟩, e2⟩
  refine ⟨hent, fun avs r ps hs hp M β w vs hM hg => ?_⟩
  obtain ⟨e1, _⟩ := h avs r ps hs (allP_iff.2 hp)
  simp only [Bool.and_eq_true] at e1
  exact (h0.calls avs (unAA r) ps (by show (sp avs).map _ = _; rw [hs]; rfl) hp M β w vs hM hg).mono fun e w' ⟨u, he, _, hgu, hb⟩ => ⟨u, he, e1.2.2, (gA_unAA _ _).1 hgu, hb⟩
/-- The same of functions without loops. -/
theorem con_flatZ {P : Program} {l : List (Nat × Ctr)} {f : FuncId} {fn : Func} {sp : Sp} (hm : P.follows .mixedOrders = true) (hE : EnvOk P l) (hl : loopsF fn = []) (hf : P.funcs[f]? = some fn) (hent : ∀ args : Array Value, pureRun P (callFunc f args) = some (.enter f args))
    (h : ∀ avs r ps, sp avs = some (r, ps) → AllP ps → (Nat.ble avs.length fn.ntmps && ((avs.all fun x => x.okB noB) && r.okB noB)) = true ∧ ∃ G fuel r' obs, fnEx P (lk l) L0 G fuel fn avs = some (r', obs) ∧ r' = unAA r ∧ AllP obs) : Con P f sp :=
  con_runZ hm hE.hS hf hent fun avs r ps hs hp => by
    obtain ⟨h1, h2⟩ := h avs r ps hs hp
    exact ⟨h1, L0, (fun d hd => by rw [hl] at hd; cases hd), h2⟩
/-- Answers that are structs of signs and words go as numbers, where they are closed. -/
def zcl : SV → SV
  | .agg [.v (.bool false), .row .u32 []] => .abs [0]
  | x => x
def zclA : AV → AV
  | .s x => .s (zcl x)
  | .tup xs => .tup (xs.map zcl)
theorem zcl_g {M : Nat → Prop} {β : Nat → Nat} {w : World} {x : SV} {u : Value} (h : gS M β w x u) : gS M β w (zcl x) u := by
  unfold zcl
  split
  · exact h
  · exact h
theorem zcls_g {M : Nat → Prop} {β : Nat → Nat} {w : World} : ∀ {xs : List SV} {us : List Value}, gSs M β w xs us → gSs M β w (xs.map zcl) us
  | [], [], _ => trivial
  | _x :: _xs, _u :: _us, h => ⟨zcl_g h.1, zcls_g h.2⟩
  | [], _ :: _, h => h.elim
  | _ :: _, [], h => h.elim
theorem zcl_ok {n : Nat → Bool} {x : SV} (h : x.okB n = true) : (zcl x).okB n = true := by
  unfold zcl
  split
  · rfl
  · exact h
theorem con_absA {P : Program} {f : FuncId} {sp : Sp} (h : Con P f sp) : Con P f (fun avs => (sp avs).map fun (r, ps) => (zclA r, ps)) :=
  ⟨h.enters, fun avs r ps hs hp M β w vs hM hg => by
    obtain ⟨⟨r0, qs⟩, h1, h2⟩ := Option.map_eq_some_iff.1 hs
    simp only [Prod.mk.injEq] at h2
    obtain ⟨rfl, rfl⟩ := h2
    refine (h.calls avs r0 qs h1 hp M β w vs hM hg).mono fun e w' ⟨u, he, hok, hgu, hb⟩ => ⟨u, he, ?_, ?_, hb⟩
    · cases r0 with
      | s x => exact zcl_ok hok
      | tup xs =>
        simp only [zclA, AV.okB, List.all_map] at hok ⊢
        rw [List.all_eq_true] at hok ⊢
        exact fun x hx => zcl_ok (hok x hx)
    · cases r0 with
      | s x => exact zcl_g hgu
      | tup xs => obtain ⟨arr, e, hg⟩ := hgu; exact ⟨arr, e, zcls_g hg⟩⟩
/-- How long integers may be. -/
def big : Nat := 100000000

def spSignedZ : Sp
  | [.one (.row .u32 xs), .one (.v (.bool s))] => some (.s (.abs [o_toI s xs]), [Words xs, Ln xs])
  | _ => none
def spMadeZ : Sp
  | [.one (.v (.bool s)), .one (.row .u32 xs)] => some (.s (.abs [o_toI s xs]), [Words xs, Ln xs])
  | _ => none
theorem con55z : Con Tryz.prog 55 spSignedZ := by
  refine con_abs con55 fun avs r ps hs hp => ?_
  unfold spSignedZ at hs
  split at hs
  · rename_i xs s
    simp only [Option.some.injEq, Prod.mk.injEq] at hs
    obtain ⟨rfl, rfl⟩ := hs
    exact ⟨rfl, _, _, rfl, by rw [mkN_abs s (nv xs) (o_toI s xs) rfl]; rfl, hp⟩
  · cases hs
theorem con51z : Con Tryz.prog 51 spMadeZ := by
  refine con_abs con51 fun avs r ps hs hp => ?_
  unfold spMadeZ at hs
  split at hs
  · rename_i s xs
    simp only [Option.some.injEq, Prod.mk.injEq] at hs
    obtain ⟨rfl, rfl⟩ := hs
    exact ⟨rfl, _, _, rfl, by rw [mkN_abs s (nv xs) (o_toI s xs) rfl]; rfl, hp⟩
  · cases hs
def E12 : List (Nat × Ctr) := (55, .fn spSignedZ) :: (51, .fn (nilOk spMadeZ)) :: E11
theorem E12ok : EnvOk Tryz.prog E12 := .cons con55z (.cons (con_nil con51z) E11ok)
/-- The answer of a function of one or two integers. -/
def rZ (z : Int) : AV := .s (.abs [z])
theorem unZ {Z z : Int} (h : Z = z) : AV.s (.agg [.v (.bool (decide (Z < 0))), .row .u32 (enc Z.natAbs)]) = unAA (rZ z) := by subst h; rfl

end Go.Proofs.YtkfdnpbpebmhaaaGreatDoor.Spec
section
set_option maxRecDepth 100000
namespace Go.Proofs.YtkfdnpbpebmhaaaGreatDoor.Spec
open Go Go.RowKit Sx Num

theorem run17a (x y : Int) : fnEx Tryz.prog (lk E12) L0 (G1 []) 60 Tryz.f17 [.abs [x], .abs [y]] = some (AV.s (SV.agg [LV.v (Value.bool (decide (o_toI (decide (x < (0 : Int))) (enc (nv (enc (Int.natAbs x)) + nv (enc (Int.natAbs y)))) < (0 : Int)))), LV.row EK.u32 (enc (Int.natAbs (o_toI (decide (x < (0 : Int))) (enc (nv (enc (Int.natAbs x)) + nv (enc (Int.natAbs y)))))))]), [decide (decide (x < (0 : Int)) = decide (y < (0 : Int))) = true, Words (enc (Int.natAbs x)), Words (enc (Int.natAbs y)), List.length (enc (Int.natAbs x)) < (137438953472 : Nat), List.length (enc (Int.natAbs y)) < (137438953472 : Nat), Words (enc (nv (enc (Int.natAbs x)) + nv (enc (Int.natAbs y)))), Ln (enc (nv (enc (Int.natAbs x)) + nv (enc (Int.natAbs y))))]) := by kernel_rfl
theorem run17b (x y : Int) : fnEx Tryz.prog (lk E12) L0 (G1 [11, 16]) 60 Tryz.f17 [.abs [x], .abs [y]] = some (AV.s (SV.agg [LV.v (Value.bool (decide (o_toI (decide (y < (0 : Int))) (enc (nv (enc (Int.natAbs y)) - nv (enc (Int.natAbs x)))) < (0 : Int)))), LV.row EK.u32 (enc (Int.natAbs (o_toI (decide (y < (0 : Int))) (enc (nv (enc (Int.natAbs y)) - nv (enc (Int.natAbs x)))))))]), [decide (decide (x < (0 : Int)) = decide (y < (0 : Int))) = false, Canon (enc (Int.natAbs x)), Canon (enc (Int.natAbs y)), Ln (enc (Int.natAbs x)), Ln (enc (Int.natAbs y)), decide (o_cmp (nv (enc (Int.natAbs x))) (nv (enc (Int.natAbs y))) < (0 : Int)) = true, Words (enc (Int.natAbs y)), Words (enc (Int.natAbs x)), Ln (enc (Int.natAbs y)), nv (enc (Int.natAbs x)) ≤ nv (enc (Int.natAbs y)), Words (enc (nv (enc (Int.natAbs y)) - nv (enc (Int.natAbs x)))), Ln (enc (nv (enc (Int.natAbs y)) - nv (enc (Int.natAbs x))))]) := by kernel_rfl
theorem run17c (x y : Int) : fnEx Tryz.prog (lk E12) L0 (G1 [11, 16, 23, 27]) 60 Tryz.f17 [.abs [x], .abs [y]] = some (AV.s (SV.agg [LV.v (Value.bool (decide (o_toI (decide (x < (0 : Int))) (enc (nv (enc (Int.natAbs x)) - nv (enc (Int.natAbs y)))) < (0 : Int)))), LV.row EK.u32 (enc (Int.natAbs (o_toI (decide (x < (0 : Int))) (enc (nv (enc (Int.natAbs x)) - nv (enc (Int.natAbs y)))))))]), [decide (decide (x < (0 : Int)) = decide (y < (0 : Int))) = false, Canon (enc (Int.natAbs x)), Canon (enc (Int.natAbs y)), Ln (enc (Int.natAbs x)), Ln (enc (Int.natAbs y)), decide (o_cmp (nv (enc (Int.natAbs x))) (nv (enc (Int.natAbs y))) < (0 : Int)) = false, Words (enc (Int.natAbs x)), Words (enc (Int.natAbs y)), Ln (enc (Int.natAbs x)), nv (enc (Int.natAbs y)) ≤ nv (enc (Int.natAbs x)), Words (enc (nv (enc (Int.natAbs x)) - nv (enc (Int.natAbs y)))), Ln (enc (nv (enc (Int.natAbs x)) - nv (enc (Int.natAbs y))))]) := by kernel_rfl
theorem run42a (x y : Int) : fnEx Tryz.prog (lk E12) L0 (G1 []) 60 Tryz.f42 [.abs [x], .abs [y]] = some (AV.s (SV.agg [LV.v (Value.bool (decide (o_toI (decide (x < (0 : Int))) (enc (nv (enc (Int.natAbs x)) + nv (enc (Int.natAbs y)))) < (0 : Int)))), LV.row EK.u32 (enc (Int.natAbs (o_toI (decide (x < (0 : Int))) (enc (nv (enc (Int.natAbs x)) + nv (enc (Int.natAbs y)))))))]), [decide (decide (x < (0 : Int)) = decide (y < (0 : Int))) = true, Words (enc (Int.natAbs x)), Words (enc (Int.natAbs y)), List.length (enc (Int.natAbs x)) < (137438953472 : Nat), List.length (enc (Int.natAbs y)) < (137438953472 : Nat), Words (enc (nv (enc (Int.natAbs x)) + nv (enc (Int.natAbs y)))), Ln (enc (nv (enc (Int.natAbs x)) + nv (enc (Int.natAbs y))))]) := by kernel_rfl
theorem run42b (x y : Int) : fnEx Tryz.prog (lk E12) L0 (G1 [9]) 60 Tryz.f42 [.abs [x], .abs [y]] = some (AV.s (SV.agg [LV.v (Value.bool (decide (o_toI (decide (y < (0 : Int))) (enc (nv (enc (Int.natAbs y)) - nv (enc (Int.natAbs x)))) < (0 : Int)))), LV.row EK.u32 (enc (Int.natAbs (o_toI (decide (y < (0 : Int))) (enc (nv (enc (Int.natAbs y)) - nv (enc (Int.natAbs x)))))))]), [decide (decide (x < (0 : Int)) = decide (y < (0 : Int))) = false, Canon (enc (Int.natAbs x)), Canon (enc (Int.natAbs y)), Ln (enc (Int.natAbs x)), Ln (enc (Int.natAbs y)), decide (o_cmp (nv (enc (Int.natAbs x))) (nv (enc (Int.natAbs y))) < (0 : Int)) = true, Words (enc (Int.natAbs y)), Words (enc (Int.natAbs x)), Ln (enc (Int.natAbs y)), nv (enc (Int.natAbs x)) ≤ nv (enc (Int.natAbs y)), Words (enc (nv (enc (Int.natAbs y)) - nv (enc (Int.natAbs x)))), Ln (enc (nv (enc (Int.natAbs y)) - nv (enc (Int.natAbs x))))]) := by kernel_rfl
theorem run42c (x y : Int) : fnEx Tryz.prog (lk E12) L0 (G1 [9, 23]) 60 Tryz.f42 [.abs [x], .abs [y]] = some (AV.s (SV.agg [LV.v (Value.bool (decide (o_toI (decide (x < (0 : Int))) (enc (nv (enc (Int.natAbs x)) - nv (enc (Int.natAbs y)))) < (0 : Int)))), LV.row EK.u32 (enc (Int.natAbs (o_toI (decide (x < (0 : Int))) (enc (nv (enc (Int.natAbs x)) - nv (enc (Int.natAbs y)))))))]), [decide (decide (x < (0 : Int)) = decide (y < (0 : Int))) = false, Canon (enc (Int.natAbs x)), Canon (enc (Int.natAbs y)), Ln (enc (Int.natAbs x)), Ln (enc (Int.natAbs y)), decide (o_cmp (nv (enc (Int.natAbs x))) (nv (enc (Int.natAbs y))) < (0 : Int)) = false, Words (enc (Int.natAbs x)), Words (enc (Int.natAbs y)), Ln (enc (Int.natAbs x)), nv (enc (Int.natAbs y)) ≤ nv (enc (Int.natAbs x)), Words (enc (nv (enc (Int.natAbs x)) - nv (enc (Int.natAbs y)))), Ln (enc (nv (enc (Int.natAbs x)) - nv (enc (Int.natAbs y))))]) := by kernel_rfl
theorem run18 (x y : Int) : fnEx Tryz.prog (lk E12) L0 (G1 []) 60 Tryz.f18 [.abs [x], .abs [y]] = some (AV.s (SV.agg [LV.v (Value.bool (decide (o_toI (!decide (x < (0 : Int)) == decide (y < (0 : Int))) (enc (nv (enc (Int.natAbs x)) * nv (enc (Int.natAbs y)))) < (0 : Int)))), LV.row EK.u32 (enc (Int.natAbs (o_toI (!decide (x < (0 : Int)) == decide (y < (0 : Int))) (enc (nv (enc (Int.natAbs x)) * nv (enc (Int.natAbs y)))))))]), [Words (enc (Int.natAbs x)), Words (enc (Int.natAbs y)), List.length (enc (Int.natAbs x)) < (137438953472 : Nat), List.length (enc (Int.natAbs y)) < (137438953472 : Nat), Words (enc (nv (enc (Int.natAbs x)) * nv (enc (Int.natAbs y)))), Ln (enc (nv (enc (Int.natAbs x)) * nv (enc (Int.natAbs y))))]) := by kernel_rfl
theorem run44 (x y : Int) : fnEx Tryz.prog (lk E12) L0 (G1 []) 60 Tryz.f44 [.abs [x], .abs [y]] = some (AV.s (SV.agg [LV.v (Value.bool (decide (o_toI (!decide (x < (0 : Int)) == decide (y < (0 : Int))) (enc (nv (enc (Int.natAbs x)) * nv (enc (Int.natAbs y)))) < (0 : Int)))), LV.row EK.u32 (enc (Int.natAbs (o_toI (!decide (x < (0 : Int)) == decide (y < (0 : Int))) (enc (nv (enc (Int.natAbs x)) * nv (enc (Int.natAbs y)))))))]), [Words (enc (Int.natAbs x)), Words (enc (Int.natAbs y)), List.length (enc (Int.natAbs x)) < (137438953472 : Nat), List.length (enc (Int.natAbs y)) < (137438953472 : Nat), Words (enc (nv (enc (Int.natAbs x)) * nv (enc (Int.natAbs y)))), Ln (enc (nv (enc (Int.natAbs x)) * nv (enc (Int.natAbs y))))]) := by kernel_rfl
theorem run22 (x : Int) : fnEx Tryz.prog (lk E12) L0 (G1 []) 60 Tryz.f22 [.abs [x]] = some (AV.s (SV.agg [LV.v (Value.bool (decide (o_toI (!decide (x < (0 : Int))) (enc (Int.natAbs x)) < (0 : Int)))), LV.row EK.u32 (enc (Int.natAbs (o_toI (!decide (x < (0 : Int))) (enc (Int.natAbs x)))))]), [Words (enc (Int.natAbs x)), Ln (enc (Int.natAbs x))]) := by kernel_rfl
theorem run81 (x : Int) : fnEx Tryz.prog (lk E12) L0 (G1 []) 60 Tryz.f81 [.abs [x]] = some (AV.s (SV.agg [LV.v (Value.bool (decide (o_toI (!decide (x < (0 : Int))) (enc (Int.natAbs x)) < (0 : Int)))), LV.row EK.u32 (enc (Int.natAbs (o_toI (!decide (x < (0 : Int))) (enc (Int.natAbs x)))))]), [Words (enc (Int.natAbs x)), Ln (enc (Int.natAbs x))]) := by kernel_rfl
theorem run78 (x : Int) : fnEx Tryz.prog (lk E12) L0 (G1 []) 60 Tryz.f78 [.abs [x]] = some (AV.s (SV.agg [LV.v (Value.bool (decide (o_toI false (enc (Int.natAbs x)) < (0 : Int)))), LV.row EK.u32 (enc (Int.natAbs (o_toI false (enc (Int.natAbs x)))))]), [Words (enc (Int.natAbs x)), Ln (enc (Int.natAbs x))]) := by kernel_rfl
theorem run24a (x : Int) : fnEx Tryz.prog (lk E12) L0 (G1 []) 60 Tryz.f24 [.abs [x]] = some (AV.s (SV.one (LV.v (Value.int IntKind.i64 (-1 : Int)))), [decide (x < (0 : Int)) = true]) := by kernel_rfl
theorem run24b (x : Int) : fnEx Tryz.prog (lk E12) L0 (G1 [4]) 60 Tryz.f24 [.abs [x]] = some (AV.s (SV.one (LV.v (Value.int IntKind.i64 (if (1 : Int) < (↑(List.length (enc (Int.natAbs x))) : Int) then (1 : Int) else (↑(List.length (enc (Int.natAbs x))) : Int))))), [decide (x < (0 : Int)) = false]) := by kernel_rfl
theorem run49a (x : Int) : fnEx Tryz.prog (lk E12) L0 (G1 []) 60 Tryz.f49 [.abs [x]] = some (AV.s (SV.one (LV.v (Value.int IntKind.i64 (-1 : Int)))), [decide (x < (0 : Int)) = true]) := by kernel_rfl
theorem run49b (x : Int) : fnEx Tryz.prog (lk E12) L0 (G1 [4]) 60 Tryz.f49 [.abs [x]] = some (AV.s (SV.one (LV.v (Value.int IntKind.i64 (if (1 : Int) < (↑(List.length (enc (Int.natAbs x))) : Int) then (1 : Int) else (↑(List.length (enc (Int.natAbs x))) : Int))))), [decide (x < (0 : Int)) = false]) := by kernel_rfl
theorem run31a (n : Int) : fnEx Tryz.prog (lk E12) L0 (G1 []) 60 Tryz.f31 [num n] = some (AV.s (SV.agg [LV.v (Value.bool (decide (o_toI true (enc (Int.toNat (IntKind.wrap IntKind.u64 ((0 : Int) - IntKind.wrap IntKind.u64 n)))) < (0 : Int)))), LV.row EK.u32 (enc (Int.natAbs (o_toI true (enc (Int.toNat (IntKind.wrap IntKind.u64 ((0 : Int) - IntKind.wrap IntKind.u64 n)))))))]), [decide (n < (0 : Int)) = true, (0 : Int) ≤ IntKind.wrap IntKind.u64 ((0 : Int) - IntKind.wrap IntKind.u64 n) ∧ IntKind.wrap IntKind.u64 ((0 : Int) - IntKind.wrap IntKind.u64 n) < (18446744073709551616 : Int), Words (enc (Int.toNat (IntKind.wrap IntKind.u64 ((0 : Int) - IntKind.wrap IntKind.u64 n)))), Ln (enc (Int.toNat (IntKind.wrap IntKind.u64 ((0 : Int) - IntKind.wrap IntKind.u64 n))))]) := by kernel_rfl
theorem run31b (n : Int) : fnEx Tryz.prog (lk E12) L0 (G1 [4]) 60 Tryz.f31 [num n] = some (AV.s (SV.agg [LV.v (Value.bool (decide (o_toI false (enc (Int.toNat (IntKind.wrap IntKind.u64 n))) < (0 : Int)))), LV.row EK.u32 (enc (Int.natAbs (o_toI false (enc (Int.toNat (IntKind.wrap IntKind.u64 n))))))]), [decide (n < (0 : Int)) = false, (0 : Int) ≤ IntKind.wrap IntKind.u64 n ∧ IntKind.wrap IntKind.u64 n < (18446744073709551616 : Int), Words (enc (Int.toNat (IntKind.wrap IntKind.u64 n))), Ln (enc (Int.toNat (IntKind.wrap IntKind.u64 n)))]) := by kernel_rfl
theorem run58a (n : Int) : fnEx Tryz.prog (lk E12) L0 (G1 []) 60 Tryz.f58 [num n] = some (AV.s (SV.agg [LV.v (Value.bool (decide (o_toI true (enc (Int.toNat (IntKind.wrap IntKind.u64 (IntKind.wrap IntKind.u64 (IntKind.wrap IntKind.i64 ((0 : Int) - IntKind.wrap IntKind.i64 (n + (1 : Int)))) + (1 : Int))))) < (0 : Int)))), LV.row EK.u32 (enc (Int.natAbs (o_toI true (enc (Int.toNat (IntKind.wrap IntKind.u64 (IntKind.wrap IntKind.u64 (IntKind.wrap IntKind.i64 ((0 : Int) - IntKind.wrap IntKind.i64 (n + (1 : Int)))) + (1 : Int))))))))]), [decide (n < (0 : Int)) = true, (0 : Int) ≤ IntKind.wrap IntKind.u64 (IntKind.wrap IntKind.u64 (IntKind.wrap IntKind.i64 ((0 : Int) - IntKind.wrap IntKind.i64 (n + (1 : Int)))) + (1 : Int)) ∧ IntKind.wrap IntKind.u64 (IntKind.wrap IntKind.u64 (IntKind.wrap IntKind.i64 ((0 : Int) - IntKind.wrap IntKind.i64 (n + (1 : Int)))) + (1 : Int)) < (18446744073709551616 : Int), Words (enc (Int.toNat (IntKind.wrap IntKind.u64 (IntKind.wrap IntKind.u64 (IntKind.wrap IntKind.i64 ((0 : Int) - IntKind.wrap IntKind.i64 (n + (1 : Int)))) + (1 : Int))))), Ln (enc (Int.toNat (IntKind.wrap IntKind.u64 (IntKind.wrap IntKind.u64 (IntKind.wrap IntKind.i64 ((0 : Int) - IntKind.wrap IntKind.i64 (n + (1 : Int)))) + (1 : Int)))))]) := by kernel_rfl
theorem run58b (n : Int) : fnEx Tryz.prog (lk E12) L0 (G1 [4]) 60 Tryz.f58 [num n] = some (AV.s (SV.agg [LV.v (Value.bool (decide (o_toI false (enc (Int.toNat (IntKind.wrap IntKind.u64 n))) < (0 : Int)))), LV.row EK.u32 (enc (Int.natAbs (o_toI false (enc (Int.toNat (IntKind.wrap IntKind.u64 n))))))]), [decide (n < (0 : Int)) = false, (0 : Int) ≤ IntKind.wrap IntKind.u64 n ∧ IntKind.wrap IntKind.u64 n < (18446744073709551616 : Int), Words (enc (Int.toNat (IntKind.wrap IntKind.u64 n))), Ln (enc (Int.toNat (IntKind.wrap IntKind.u64 n)))]) := by kernel_rfl
theorem run33a (x : Int) : fnEx Tryz.prog (lk E12) L0 (G1 []) 60 Tryz.f33 [.abs [x]] = some (AV.s (SV.one (LV.v (Value.int IntKind.i64 (0 : Int)))), [decide ((↑(List.length (enc (Int.natAbs x))) : Int) = (0 : Int)) = true]) := by kernel_rfl
theorem run33b (x : Int) : fnEx Tryz.prog (lk E12) L0 (G1 [8]) 60 Tryz.f33 [.abs [x]] = some (AV.s (SV.one (LV.v (Value.int IntKind.i64 (IntKind.wrap IntKind.i64 (IntKind.wrap IntKind.i64 ((32 : Int) * IntKind.wrap IntKind.i64 ((↑(List.length (enc (Int.natAbs x))) : Int) - (1 : Int))) + (↑(o_bl (Int.toNat (List.getD (enc (Int.natAbs x)) (Int.toNat (IntKind.wrap IntKind.i64 ((↑(List.length (enc (Int.natAbs x))) : Int) - (1 : Int)))) (0 : Int)))) : Int)))))), [decide ((↑(List.length (enc (Int.natAbs x))) : Int) = (0 : Int)) = false, (0 : Int) ≤ IntKind.wrap IntKind.i64 ((↑(List.length (enc (Int.natAbs x))) : Int) - (1 : Int)) ∧ IntKind.wrap IntKind.i64 ((↑(List.length (enc (Int.natAbs x))) : Int) - (1 : Int)) < (↑(List.length (enc (Int.natAbs x))) : Int), (0 : Int) ≤ List.getD (enc (Int.natAbs x)) (Int.toNat (IntKind.wrap IntKind.i64 ((↑(List.length (enc (Int.natAbs x))) : Int) - (1 : Int)))) (0 : Int) ∧ List.getD (enc (Int.natAbs x)) (Int.toNat (IntKind.wrap IntKind.i64 ((↑(List.length (enc (Int.natAbs x))) : Int) - (1 : Int)))) (0 : Int) ≤ (4294967295 : Int)]) := by kernel_rfl
theorem run25a (x y : Int) : fnEx Tryz.prog (lk E12) L0 (G1 []) 60 Tryz.f25 [.abs [x], .abs [y]] = some (AV.tup [SV.agg [LV.v (Value.bool false), LV.v (Value.slice none (0 : Nat) (0 : Nat))], SV.agg [LV.v (Value.bool false), LV.v (Value.slice none (0 : Nat) (0 : Nat))], SV.one (LV.v (Value.int IntKind.i64 (10 : Int)))], [decide ((↑(List.length (enc (Int.natAbs y))) : Int) = (0 : Int)) = true]) := by kernel_rfl
theorem run25b (x y : Int) : fnEx Tryz.prog (lk E12) L0 (G1 [14]) 60 Tryz.f25 [.abs [x], .abs [y]] = some (AV.tup [SV.agg [LV.v (Value.bool (decide (o_toI (!decide (x < (0 : Int)) == decide (y < (0 : Int))) (enc (nv (enc (nv (enc (Int.natAbs x)) / nv (enc (Int.natAbs y)))) + nv (enc (Int.toNat (1 : Int))))) < (0 : Int)))), LV.row EK.u32 (enc (Int.natAbs (o_toI (!decide (x < (0 : Int)) == decide (y < (0 : Int))) (enc (nv (enc (nv (enc (Int.natAbs x)) / nv (enc (Int.natAbs y)))) + nv (enc (Int.toNat (1 : Int))))))))], SV.agg [LV.v (Value.bool (decide (o_toI false (enc (nv (enc (Int.natAbs y)) - nv (enc (nv (enc (Int.natAbs x)) % nv (enc (Int.natAbs y)))))) < (0 : Int)))), LV.row EK.u32 (enc (Int.natAbs (o_toI false (enc (nv (enc (Int.natAbs y)) - nv (enc (nv (enc (Int.natAbs x)) % nv (enc (Int.natAbs y)))))))))], SV.one (LV.v (Value.int IntKind.i64 (0 : Int)))], [decide ((↑(List.length (enc (Int.natAbs y))) : Int) = (0 : Int)) = false, Canon (enc (Int.natAbs x)), Canon (enc (Int.natAbs y)), (0 : Nat) < List.length (enc (Int.natAbs y)), List.length (enc (Int.natAbs x)) < (137438953471 : Nat), List.length (enc (Int.natAbs y)) < (137438953471 : Nat), decide (x < (0 : Int)) = true, decide (x < (0 : Int)) = true, decide (x < (0 : Int)) = true, decide (x < (0 : Int)) = true, decide ((0 : Int) < (↑(List.length (enc (nv (enc (Int.natAbs x)) % nv (enc (Int.natAbs y))))) : Int)) = true, (0 : Int) ≤ (1 : Int) ∧ (1 : Int) < (18446744073709551616 : Int), Words (enc (nv (enc (Int.natAbs x)) / nv (enc (Int.natAbs y)))), Words (enc (Int.toNat (1 : Int))), List.length (enc (nv (enc (Int.natAbs x)) / nv (enc (Int.natAbs y)))) < (137438953472 : Nat), List.length (enc (Int.toNat (1 : Int))) < (137438953472 : Nat), Words (enc (Int.natAbs y)), Words (enc (nv (enc (Int.natAbs x)) % nv (enc (Int.natAbs y)))), Ln (enc (Int.natAbs y)), nv (enc (nv (enc (Int.natAbs x)) % nv (enc (Int.natAbs y)))) ≤ nv (enc (Int.natAbs y)), Words (enc (nv (enc (nv (enc (Int.natAbs x)) / nv (enc (Int.natAbs y)))) + nv (enc (Int.toNat (1 : Int))))), Ln (enc (nv (enc (nv (enc (Int.natAbs x)) / nv (enc (Int.natAbs y)))) + nv (enc (Int.toNat (1 : Int))))), Words (enc (nv (enc (Int.natAbs y)) - nv (enc (nv (enc (Int.natAbs x)) % nv (enc (Int.natAbs y)))))), Ln (enc (nv (enc (Int.natAbs y)) - nv (enc (nv (enc (Int.natAbs x)) % nv (enc (Int.natAbs y))))))]) := by kernel_rfl
theorem run25c (x y : Int) : fnEx Tryz.prog (lk E12) L0 (G1 [14, 29, 30]) 60 Tryz.f25 [.abs [x], .abs [y]] = some (AV.tup [SV.agg [LV.v (Value.bool (decide (o_toI (!decide (x < (0 : Int)) == decide (y < (0 : Int))) (enc (nv (enc (Int.natAbs x)) / nv (enc (Int.natAbs y)))) < (0 : Int)))), LV.row EK.u32 (enc (Int.natAbs (o_toI (!decide (x < (0 : Int)) == decide (y < (0 : Int))) (enc (nv (enc (Int.natAbs x)) / nv (enc (Int.natAbs y)))))))], SV.agg [LV.v (Value.bool (decide (o_toI false (enc (nv (enc (Int.natAbs x)) % nv (enc (Int.natAbs y)))) < (0 : Int)))), LV.row EK.u32 (enc (Int.natAbs (o_toI false (enc (nv (enc (Int.natAbs x)) % nv (enc (Int.natAbs y)))))))], SV.one (LV.v (Value.int IntKind.i64 (0 : Int)))], [decide ((↑(List.length (enc (Int.natAbs y))) : Int) = (0 : Int)) = false, Canon (enc (Int.natAbs x)), Canon (enc (Int.natAbs y)), (0 : Nat) < List.length (enc (Int.natAbs y)), List.length (enc (Int.natAbs x)) < (137438953471 : Nat), List.length (enc (Int.natAbs y)) < (137438953471 : Nat), decide (x < (0 : Int)) = true, decide (x < (0 : Int)) = true, decide (x < (0 : Int)) = true, decide (x < (0 : Int)) = true, decide ((0 : Int) < (↑(List.length (enc (nv (enc (Int.natAbs x)) % nv (enc (Int.natAbs y))))) : Int)) = false, Words (enc (nv (enc (Int.natAbs x)) / nv (enc (Int.natAbs y)))), Ln (enc (nv (enc (Int.natAbs x)) / nv (enc (Int.natAbs y)))), Words (enc (nv (enc (Int.natAbs x)) % nv (enc (Int.natAbs y)))), Ln (enc (nv (enc (Int.natAbs x)) % nv (enc (Int.natAbs y))))]) := by kernel_rfl
theorem run25d (x y : Int) : fnEx Tryz.prog (lk E12) L0 (G1 [14, 25, 26, 30]) 60 Tryz.f25 [.abs [x], .abs [y]] = some (AV.tup [SV.agg [LV.v (Value.bool (decide (o_toI (!decide (x < (0 : Int)) == decide (y < (0 : Int))) (enc (nv (enc (Int.natAbs x)) / nv (enc (Int.natAbs y)))) < (0 : Int)))), LV.row EK.u32 (enc (Int.natAbs (o_toI (!decide (x < (0 : Int)) == decide (y < (0 : Int))) (enc (nv (enc (Int.natAbs x)) / nv (enc (Int.natAbs y)))))))], SV.agg [LV.v (Value.bool (decide (o_toI false (enc (nv (enc (Int.natAbs x)) % nv (enc (Int.natAbs y)))) < (0 : Int)))), LV.row EK.u32 (enc (Int.natAbs (o_toI false (enc (nv (enc (Int.natAbs x)) % nv (enc (Int.natAbs y)))))))], SV.one (LV.v (Value.int IntKind.i64 (0 : Int)))], [decide ((↑(List.length (enc (Int.natAbs y))) : Int) = (0 : Int)) = false, Canon (enc (Int.natAbs x)), Canon (enc (Int.natAbs y)), (0 : Nat) < List.length (enc (Int.natAbs y)), List.length (enc (Int.natAbs x)) < (137438953471 : Nat), List.length (enc (Int.natAbs y)) < (137438953471 : Nat), decide (x < (0 : Int)) = false, decide (x < (0 : Int)) = false, decide (x < (0 : Int)) = false, decide (x < (0 : Int)) = false, false = false, Words (enc (nv (enc (Int.natAbs x)) / nv (enc (Int.natAbs y)))), Ln (enc (nv (enc (Int.natAbs x)) / nv (enc (Int.natAbs y)))), Words (enc (nv (enc (Int.natAbs x)) % nv (enc (Int.natAbs y)))), Ln (enc (nv (enc (Int.natAbs x)) % nv (enc (Int.natAbs y))))]) := by kernel_rfl
theorem run34a (x y : Int) : fnEx Tryz.prog (lk E12) L0 (G1 []) 60 Tryz.f34 [.abs [x], .abs [y]] = some (AV.tup [SV.agg [LV.v (Value.bool false), LV.v (Value.slice none (0 : Nat) (0 : Nat))], SV.agg [LV.v (Value.bool false), LV.v (Value.slice none (0 : Nat) (0 : Nat))], SV.one (LV.v (Value.int IntKind.i64 (10 : Int)))], [decide ((↑(List.length (enc (Int.natAbs y))) : Int) = (0 : Int)) = true]) := by kernel_rfl
theorem run34b (x y : Int) : fnEx Tryz.prog (lk E12) L0 (G1 [12]) 60 Tryz.f34 [.abs [x], .abs [y]] = some (AV.tup [SV.agg [LV.v (Value.bool (decide (o_toI (!decide (x < (0 : Int)) == decide (y < (0 : Int))) (enc (nv (enc (nv (enc (Int.natAbs x)) / nv (enc (Int.natAbs y)))) + nv (List.take (1 : Nat) (List.drop (0 : Nat) [(1 : Int)])))) < (0 : Int)))), LV.row EK.u32 (enc (Int.natAbs (o_toI (!decide (x < (0 : Int)) == decide (y < (0 : Int))) (enc (nv (enc (nv (enc (Int.natAbs x)) / nv (enc (Int.natAbs y)))) + nv (List.take (1 : Nat) (List.drop (0 : Nat) [(1 : Int)])))))))], SV.agg [LV.v (Value.bool (decide (o_toI false (enc (nv (enc (Int.natAbs y)) - nv (enc (nv (enc (Int.natAbs x)) % nv (enc (Int.natAbs y)))))) < (0 : Int)))), LV.row EK.u32 (enc (Int.natAbs (o_toI false (enc (nv (enc (Int.natAbs y)) - nv (enc (nv (enc (Int.natAbs x)) % nv (enc (Int.natAbs y)))))))))], SV.one (LV.v (Value.int IntKind.i64 (0 : Int)))], [decide ((↑(List.length (enc (Int.natAbs y))) : Int) = (0 : Int)) = false, Canon (enc (Int.natAbs x)), Canon (enc (Int.natAbs y)), (0 : Nat) < List.length (enc (Int.natAbs y)), List.length (enc (Int.natAbs x)) < (137438953471 : Nat), List.length (enc (Int.natAbs y)) < (137438953471 : Nat), decide (x < (0 : Int)) = true, decide (x < (0 : Int)) = true, decide (x < (0 : Int)) = true, decide (x < (0 : Int)) = true, decide ((0 : Int) < (↑(List.length (enc (nv (enc (Int.natAbs x)) % nv (enc (Int.natAbs y))))) : Int)) = true, (0 : Nat) + (1 : Nat) ≤ (0 : Nat) + (1 : Nat) ∧ (1 : Nat) ≤ (1 : Nat) ∧ (1 : Nat) ≤ (9223372036854775807 : Nat), Words (enc (nv (enc (Int.natAbs x)) / nv (enc (Int.natAbs y)))), Words (List.take (1 : Nat) (List.drop (0 : Nat) [(1 : Int)])), List.length (enc (nv (enc (Int.natAbs x)) / nv (enc (Int.natAbs y)))) < (137438953472 : Nat), List.length (List.take (1 : Nat) (List.drop (0 : Nat) [(1 : Int)])) < (137438953472 : Nat), Words (enc (Int.natAbs y)), Words (enc (nv (enc (Int.natAbs x)) % nv (enc (Int.natAbs y)))), Ln (enc (Int.natAbs y)), nv (enc (nv (enc (Int.natAbs x)) % nv (enc (Int.natAbs y)))) ≤ nv (enc (Int.natAbs y)), Words (enc (nv (enc (nv (enc (Int.natAbs x)) / nv (enc (Int.natAbs y)))) + nv (List.take (1 : Nat) (List.drop (0 : Nat) [(1 : Int)])))), Ln (enc (nv (enc (nv (enc (Int.natAbs x)) / nv (enc (Int.natAbs y)))) + nv (List.take (1 : Nat) (List.drop (0 : Nat) [(1 : Int)])))), Words (enc (nv (enc (Int.natAbs y)) - nv (enc (nv (enc (Int.natAbs x)) % nv (enc (Int.natAbs y)))))), Ln (enc (nv (enc (Int.natAbs y)) - nv (enc (nv (enc (Int.natAbs x)) % nv (enc (Int.natAbs y))))))]) := by kernel_rfl
theorem run34c (x y : Int) : fnEx Tryz.prog (lk E12) L0 (G1 [12, 28, 29]) 60 Tryz.f34 [.abs [x], .abs [y]] = some (AV.tup [SV.agg [LV.v (Value.bool (decide (o_toI (!decide (x < (0 : Int)) == decide (y < (0 : Int))) (enc (nv (enc (Int.natAbs x)) / nv (enc (Int.natAbs y)))) < (0 : Int)))), LV.row EK.u32 (enc (Int.natAbs (o_toI (!decide (x < (0 : Int)) == decide (y < (0 : Int))) (enc (nv (enc (Int.natAbs x)) / nv (enc (Int.natAbs y)))))))], SV.agg [LV.v (Value.bool (decide (o_toI false (enc (nv (enc (Int.natAbs x)) % nv (enc (Int.natAbs y)))) < (0 : Int)))), LV.row EK.u32 (enc (Int.natAbs (o_toI false (enc (nv (enc (Int.natAbs x)) % nv (enc (Int.natAbs y)))))))], SV.one (LV.v (Value.int IntKind.i64 (0 : Int)))], [decide ((↑(List.length (enc (Int.natAbs y))) : Int) = (0 : Int)) = false, Canon (enc (Int.natAbs x)), Canon (enc (Int.natAbs y)), (0 : Nat) < List.length (enc (Int.natAbs y)), List.length (enc (Int.natAbs x)) < (137438953471 : Nat), List.length (enc (Int.natAbs y)) < (137438953471 : Nat), decide (x < (0 : Int)) = true, decide (x < (0 : Int)) = true, decide (x < (0 : Int)) = true, decide (x < (0 : Int)) = true, decide ((0 : Int) < (↑(List.length (enc (nv (enc (Int.natAbs x)) % nv (enc (Int.natAbs y))))) : Int)) = false, Words (enc (nv (enc (Int.natAbs x)) / nv (enc (Int.natAbs y)))), Ln (enc (nv (enc (Int.natAbs x)) / nv (enc (Int.natAbs y)))), Words (enc (nv (enc (Int.natAbs x)) % nv (enc (Int.natAbs y)))), Ln (enc (nv (enc (Int.natAbs x)) % nv (enc (Int.natAbs y))))]) := by kernel_rfl
theorem run34d (x y : Int) : fnEx Tryz.prog (lk E12) L0 (G1 [12, 24, 25, 29]) 60 Tryz.f34 [.abs [x], .abs [y]] = some (AV.tup [SV.agg [LV.v (Value.bool (decide (o_toI (!decide (x < (0 : Int)) == decide (y < (0 : Int))) (enc (nv (enc (Int.natAbs x)) / nv (enc (Int.natAbs y)))) < (0 : Int)))), LV.row EK.u32 (enc (Int.natAbs (o_toI (!decide (x < (0 : Int)) == decide (y < (0 : Int))) (enc (nv (enc (Int.natAbs x)) / nv (enc (Int.natAbs y)))))))], SV.agg [LV.v (Value.bool (decide (o_toI false (enc (nv (enc (Int.natAbs x)) % nv (enc (Int.natAbs y)))) < (0 : Int)))), LV.row EK.u32 (enc (Int.natAbs (o_toI false (enc (nv (enc (Int.natAbs x)) % nv (enc (Int.natAbs y)))))))], SV.one (LV.v (Value.int IntKind.i64 (0 : Int)))], [decide ((↑(List.length (enc (Int.natAbs y))) : Int) = (0 : Int)) = false, Canon (enc (Int.natAbs x)), Canon (enc (Int.natAbs y)), (0 : Nat) < List.length (enc (Int.natAbs y)), List.length (enc (Int.natAbs x)) < (137438953471 : Nat), List.length (enc (Int.natAbs y)) < (137438953471 : Nat), decide (x < (0 : Int)) = false, decide (x < (0 : Int)) = false, decide (x < (0 : Int)) = false, decide (x < (0 : Int)) = false, false = false, Words (enc (nv (enc (Int.natAbs x)) / nv (enc (Int.natAbs y)))), Ln (enc (nv (enc (Int.natAbs x)) / nv (enc (Int.natAbs y)))), Words (enc (nv (enc (Int.natAbs x)) % nv (enc (Int.natAbs y)))), Ln (enc (nv (enc (Int.natAbs x)) % nv (enc (Int.natAbs y))))]) := by kernel_rfl 
end Go.Proofs.YtkfdnpbpebmhaaaGreatDoor.Spec
end
