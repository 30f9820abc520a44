/- Runs: dividing by one word; Contracts: dividing by one word; Shifting words: the invariants; Runs: shifting words; Dividing rows of words: windows of a row, the estimate of a digit. Plain numbers; Contracts: shifting words; Contracts of functions that write into their first argument, out of runs; answers and arguments that are nil; Taking a multiple away in place: the invariants; Runs: taking a multiple away in place; the estimate; Contracts: taking a multiple away in place; the estimate. -/
import Derived.Test.YtkfdnpbpebmhaaaGreatDoorProg
import Derived.Test.YtkfdnpbpebmhaaaGreatDoorZ0
import Derived.Test.YtkfdnpbpebmhaaaGreatDoorZ1
import Derived.Test.YtkfdnpbpebmhaaaGreatDoorZ2
section
set_option maxRecDepth 100000
namespace Go.Proofs.YtkfdnpbpebmhaaaGreatDoor.Spec
open Go Go.RowKit Sx Num

theorem loop62a (ty : TypeId) (xs : List Int) (d i : Nat) : codeV Tryz.prog (lk E5) L0 (G1 []) Tryz.f62.ntmps 60 (loopC Tryz.f62 0) [0, 1, 6, 7, 14, 15] [12] (I62 ty xs d i) = some (Ex.normal, { tmps := [((0 : Nat), AV.s (SV.one (LV.row EK.u32 xs))), ((1 : Nat), AV.s (SV.one (LV.v (Value.int IntKind.u32 (↑d : Int))))), ((6 : Nat), AV.s (SV.one (LV.sl (12 : Nat) (0 : Nat) (List.length xs) (List.length xs)))), ((7 : Nat), AV.s (SV.one (LV.v (Value.int IntKind.u32 (((↑(nv xs / (4294967296 : Nat) ^ (List.length xs - i) % d) : Int) * (4294967296 : Int) + List.getD xs (Int.toNat (IntKind.wrap IntKind.i64 (IntKind.wrap IntKind.i64 ((↑(List.length xs) : Int) - (1 : Int)) - (↑i : Int)))) (0 : Int)) % (↑d : Int)))))), ((14 : Nat), AV.s (SV.one (LV.v (Value.int IntKind.i64 (↑(List.length xs) : Int))))), ((15 : Nat), AV.s (SV.one (LV.v (Value.int IntKind.i64 (IntKind.wrap IntKind.i64 ((↑i : Int) + (1 : Int)))))))], boxes := [((12 : Nat), { ty := ty, bc := BC.ints EK.u32 (List.set (o_U (List.length xs) (nv xs / d) (List.length xs - i)) ((0 : Nat) + Int.toNat (IntKind.wrap IntKind.i64 (IntKind.wrap IntKind.i64 ((↑(List.length xs) : Int) - (1 : Int)) - (↑i : Int)))) (((↑(nv xs / (4294967296 : Nat) ^ (List.length xs - i) % d) : Int) * (4294967296 : Int) + List.getD xs (Int.toNat (IntKind.wrap IntKind.i64 (IntKind.wrap IntKind.i64 ((↑(List.length xs) : Int) - (1 : Int)) - (↑i : Int)))) (0 : Int)) / (↑d : Int))), mut_ := true })] }, [decide ((↑i : Int) < (↑(List.length xs) : Int)) = true, (0 : Int) ≤ IntKind.wrap IntKind.i64 (IntKind.wrap IntKind.i64 ((↑(List.length xs) : Int) - (1 : Int)) - (↑i : Int)) ∧ IntKind.wrap IntKind.i64 (IntKind.wrap IntKind.i64 ((↑(List.length xs) : Int) - (1 : Int)) - (↑i : Int)) < (↑(List.length xs) : Int), (0 : Int) ≤ (↑(nv xs / (4294967296 : Nat) ^ (List.length xs - i) % d) : Int) ∧ (↑(nv xs / (4294967296 : Nat) ^ (List.length xs - i) % d) : Int) < (4294967296 : Int), (0 : Int) ≤ List.getD xs (Int.toNat (IntKind.wrap IntKind.i64 (IntKind.wrap IntKind.i64 ((↑(List.length xs) : Int) - (1 : Int)) - (↑i : Int)))) (0 : Int) ∧ List.getD xs (Int.toNat (IntKind.wrap IntKind.i64 (IntKind.wrap IntKind.i64 ((↑(List.length xs) : Int) - (1 : Int)) - (↑i : Int)))) (0 : Int) < (4294967296 : Int), (0 : Int) ≤ (↑d : Int) ∧ (↑d : Int) < (4294967296 : Int), (↑(nv xs / (4294967296 : Nat) ^ (List.length xs - i) % d) : Int) < (↑d : Int), (0 : Int) ≤ IntKind.wrap IntKind.i64 (IntKind.wrap IntKind.i64 ((↑(List.length xs) : Int) - (1 : Int)) - (↑i : Int)) ∧ IntKind.wrap IntKind.i64 (IntKind.wrap IntKind.i64 ((↑(List.length xs) : Int) - (1 : Int)) - (↑i : Int)) < (↑(List.length xs) : Int), (0 : Nat) + Int.toNat (IntKind.wrap IntKind.i64 (IntKind.wrap IntKind.i64 ((↑(List.length xs) : Int) - (1 : Int)) - (↑i : Int))) < List.length (o_U (List.length xs) (nv xs / d) (List.length xs - i))]) := by kernel_rfl
theorem loop62b (ty : TypeId) (xs : List Int) (d i : Nat) : codeV Tryz.prog (lk E5) L0 (G1 [16]) Tryz.f62.ntmps 60 (loopC Tryz.f62 0) [0, 1, 6, 7, 14, 15] [12] (I62 ty xs d i) = some (Ex.exit (0 : Nat), { tmps := [((0 : Nat), AV.s (SV.one (LV.row EK.u32 xs))), ((1 : Nat), AV.s (SV.one (LV.v (Value.int IntKind.u32 (↑d : Int))))), ((6 : Nat), AV.s (SV.one (LV.sl (12 : Nat) (0 : Nat) (List.length xs) (List.length xs)))), ((7 : Nat), AV.s (SV.one (LV.v (Value.int IntKind.u32 (↑(nv xs / (4294967296 : Nat) ^ (List.length xs - i) % d) : Int))))), ((14 : Nat), AV.s (SV.one (LV.v (Value.int IntKind.i64 (↑(List.length xs) : Int))))), ((15 : Nat), AV.s (SV.one (LV.v (Value.int IntKind.i64 (↑i : Int)))))], boxes := [((12 : Nat), { ty := ty, bc := BC.ints EK.u32 (o_U (List.length xs) (nv xs / d) (List.length xs - i)), mut_ := true })] }, [decide ((↑i : Int) < (↑(List.length xs) : Int)) = false]) := by kernel_rfl
theorem run62 (xs : List Int) (d : Int) : fnEx Tryz.prog (lk E5) L62 (G1 []) 60 Tryz.f62 [roW xs, u32 d] = some (AV.tup [SV.one (LV.row EK.u32 (enc (nv (List.take (List.length xs) (List.drop (0 : Nat) (o_U (List.length xs) (nv xs / Int.toNat d) (List.length xs - List.length xs))))))), SV.one (LV.v (Value.int IntKind.u32 (↑(nv xs / (4294967296 : Nat) ^ (List.length xs - List.length xs) % Int.toNat d) : Int)))], [(0 : Int) ≤ (↑(List.length xs) : Int) ∧ (↑(List.length xs) : Int) ≤ (↑(List.length xs) : Int) ∧ (↑(List.length xs) : Int) ≤ (1099511627776 : Int), (0 : Int) < d ∧ d < (4294967296 : Int), Int.toNat (↑(List.length xs) : Int) = List.length xs, Int.toNat (↑(List.length xs) : Int) = List.length xs, (0 : Int) = (0 : Int), (↑(List.length xs) : Int) = (↑(List.length xs) : Int), (0 : Int) = (0 : Int), List.replicate (Int.toNat (↑(List.length xs) : Int)) (0 : Int) = List.replicate (List.length xs) (0 : Int), Words xs, List.length xs ≤ (274877906944 : Nat), (0 : Nat) + List.length xs ≤ List.length (o_U (List.length xs) (nv xs / Int.toNat d) (List.length xs - List.length xs)) ∧ List.length xs ≤ List.length xs ∧ List.length xs ≤ (9223372036854775807 : Nat), Words (List.take (List.length xs) (List.drop (0 : Nat) (o_U (List.length xs) (nv xs / Int.toNat d) (List.length xs - List.length xs)))), List.length (List.take (List.length xs) (List.drop (0 : Nat) (o_U (List.length xs) (nv xs / Int.toNat d) (List.length xs - List.length xs)))) ≤ (274877906944 : Nat)]) := by kernel_rfl
theorem loop112a (ty : TypeId) (xs : List Int) (d j : Nat) : codeV Tryz.prog (lk E5) L0 (G1 []) Tryz.f112.ntmps 60 (loopC Tryz.f112 0) [0, 1, 6, 7, 8] [12] (I112 ty xs d j) = some (Ex.normal, { tmps := [((0 : Nat), AV.s (SV.one (LV.row EK.u32 xs))), ((1 : Nat), AV.s (SV.one (LV.v (Value.int IntKind.u64 (↑d : Int))))), ((6 : Nat), AV.s (SV.one (LV.sl (12 : Nat) (0 : Nat) (List.length xs) (List.length xs)))), ((7 : Nat), AV.s (SV.one (LV.v (Value.int IntKind.u64 (Int.tmod (IntKind.wrap IntKind.u64 (IntKind.wrap IntKind.u64 ((↑(nv xs / B ^ j % d) : Int) * (4294967296 : Int)) + IntKind.wrap IntKind.u64 (List.getD xs (Int.toNat ((↑j : Int) - (1 : Int))) (0 : Int)))) (↑d : Int)))))), ((8 : Nat), AV.s (SV.one (LV.v (Value.int IntKind.i64 (IntKind.wrap IntKind.i64 ((↑j : Int) - (1 : Int) - (1 : Int)))))))], boxes := [((12 : Nat), { ty := ty, bc := BC.ints EK.u32 (List.set (o_U (List.length xs) (nv xs / d) j) ((0 : Nat) + Int.toNat ((↑j : Int) - (1 : Int))) (IntKind.wrap IntKind.u32 (IntKind.wrap IntKind.u64 (Int.tdiv (IntKind.wrap IntKind.u64 (IntKind.wrap IntKind.u64 ((↑(nv xs / B ^ j % d) : Int) * (4294967296 : Int)) + IntKind.wrap IntKind.u64 (List.getD xs (Int.toNat ((↑j : Int) - (1 : Int))) (0 : Int)))) (↑d : Int))))), mut_ := true })] }, [decide ((0 : Int) ≤ (↑j : Int) - (1 : Int)) = true, (0 : Int) ≤ (↑j : Int) - (1 : Int) ∧ (↑j : Int) - (1 : Int) < (↑(List.length xs) : Int), ¬(↑d : Int) = (0 : Int), (0 : Int) ≤ (↑j : Int) - (1 : Int) ∧ (↑j : Int) - (1 : Int) < (↑(List.length xs) : Int), (0 : Nat) + Int.toNat ((↑j : Int) - (1 : Int)) < List.length (o_U (List.length xs) (nv xs / d) j), ¬(↑d : Int) = (0 : Int)]) := by kernel_rfl
theorem loop112b (ty : TypeId) (xs : List Int) (d j : Nat) : codeV Tryz.prog (lk E5) L0 (G1 [17]) Tryz.f112.ntmps 60 (loopC Tryz.f112 0) [0, 1, 6, 7, 8] [12] (I112 ty xs d j) = some (Ex.exit (0 : Nat), { tmps := [((0 : Nat), AV.s (SV.one (LV.row EK.u32 xs))), ((1 : Nat), AV.s (SV.one (LV.v (Value.int IntKind.u64 (↑d : Int))))), ((6 : Nat), AV.s (SV.one (LV.sl (12 : Nat) (0 : Nat) (List.length xs) (List.length xs)))), ((7 : Nat), AV.s (SV.one (LV.v (Value.int IntKind.u64 (↑(nv xs / (4294967296 : Nat) ^ j % d) : Int))))), ((8 : Nat), AV.s (SV.one (LV.v (Value.int IntKind.i64 ((↑j : Int) - (1 : Int))))))], boxes := [((12 : Nat), { ty := ty, bc := BC.ints EK.u32 (o_U (List.length xs) (nv xs / d) j), mut_ := true })] }, [decide ((0 : Int) ≤ (↑j : Int) - (1 : Int)) = false]) := by kernel_rfl
theorem run112 (xs : List Int) (d : Int) : fnEx Tryz.prog (lk E5) L112 (G1 []) 60 Tryz.f112 [roW xs, u64 d] = some (AV.tup [SV.one (LV.row EK.u32 (enc (nv (List.take (List.length xs) (List.drop (0 : Nat) (o_U (List.length xs) (nv xs / Int.toNat d) (0 : Nat))))))), SV.one (LV.v (Value.int IntKind.u64 (↑(nv xs / (4294967296 : Nat) ^ (0 : Nat) % Int.toNat d) : Int)))], [(0 : Int) ≤ (↑(List.length xs) : Int) ∧ (↑(List.length xs) : Int) ≤ (↑(List.length xs) : Int) ∧ (↑(List.length xs) : Int) ≤ (1099511627776 : Int), (0 : Int) < d ∧ d < (4294967296 : Int), Int.toNat (↑(List.length xs) : Int) = List.length xs, Int.toNat (↑(List.length xs) : Int) = List.length xs, (0 : Int) = (0 : Int), IntKind.wrap IntKind.i64 ((↑(List.length xs) : Int) - (1 : Int)) = (↑(List.length xs) : Int) - (1 : Int), List.replicate (Int.toNat (↑(List.length xs) : Int)) (0 : Int) = List.replicate (List.length xs) (0 : Int), Words xs, List.length xs ≤ (274877906944 : Nat), (0 : Nat) + List.length xs ≤ List.length (o_U (List.length xs) (nv xs / Int.toNat d) (0 : Nat)) ∧ List.length xs ≤ List.length xs ∧ List.length xs ≤ (9223372036854775807 : Nat), Words (List.take (List.length xs) (List.drop (0 : Nat) (o_U (List.length xs) (nv xs / Int.toNat d) (0 : Nat)))), List.length (List.take (List.length xs) (List.drop (0 : Nat) (o_U (List.length xs) (nv xs / Int.toNat d) (0 : Nat)))) ≤ (274877906944 : Nat)]) := by kernel_rfl 
end Go.Proofs.YtkfdnpbpebmhaaaGreatDoor.Spec
end
namespace Go.Proofs.YtkfdnpbpebmhaaaGreatDoor.Spec
open Go Go.RowKit Sx Num

def V62 (x : TypeId × List Int × Nat × Nat) : Prop := Words x.2.1 ∧ Ln x.2.1 ∧ 0 < x.2.2.1 ∧ x.2.2.1 < 4294967296 ∧ x.2.2.2 ≤ x.2.1.length
theorem top_zero {xs : List Int} (h : Words xs) (d : Nat) : nv xs / B ^ xs.length % d = 0 := by
  rw [Nat.div_eq_of_lt (nv_lt h), Nat.zero_mod]
theorem sub62 {st : St} {e : Ex} {s : St} {obs : List Prop} (h : F62 st = some (e, s, obs)) (hob : AllP obs) : ∃ x : TypeId × List Int × Nat × Nat, V62 x ∧ SubS st (I62 x.1 x.2.1 x.2.2.1 x.2.2.2) ∧ e = .exit 0 ∧ s = I62 x.1 x.2.1 x.2.2.1 x.2.1.length := by
  unfold F62 at h
  split at h
  · rename_i xs d len cap c n i ty zs hz h1 h2 h3 h4 h5 h6 h7
    simp only [Option.some.injEq, Prod.mk.injEq] at h
    obtain ⟨rfl, rfl, rfl⟩ := h
    obtain ⟨⟨hd0, hd⟩, rfl, rfl, rfl, rfl, rfl, rfl, hw, hl, _⟩ := hob
    obtain ⟨d, rfl⟩ := Int.eq_ofNat_of_zero_le (Int.le_of_lt hd0)
    refine ⟨(ty, xs, d, 0), ⟨hw, hl, by show 0 < d; omega, by show d < _; omega, Nat.zero_le _⟩, ⟨?_, ?_, ?_⟩, rfl, rfl⟩
    · intro p hp
      simp only [I62, List.mem_cons, List.not_mem_nil, or_false, Nat.sub_zero, top_zero hw] at hp
      rcases hp with rfl | rfl | rfl | rfl | rfl | rfl <;> exact ⟨by assumption, rfl⟩
    · intro p hp
      simp only [I62, List.mem_cons, List.not_mem_nil, or_false, Nat.sub_zero, U_full] at hp
      subst hp
      exact ⟨by assumption, rfl⟩
    · rw [hz]; intro h; cases h
  · cases h
theorem lo62 : ∀ c ∈ loopsF Tryz.f62, LoopOk Tryz.prog Tryz.f62.ntmps L62 c := by
  rw [show loopsF Tryz.f62 = [loopC Tryz.f62 0] by kernel_rfl]
  intro c hc
  rw [List.mem_singleton] at hc
  subst hc
  refine loop_ok (k := 4) (f := F62) (α := TypeId × List Int × Nat × Nat) (by kernel_rfl) rfl (fun x => I62 x.1 x.2.1 x.2.2.1 x.2.2.2) (fun x => I62 x.1 x.2.1 x.2.2.1 x.2.1.length) V62 (fun x => x.2.1.length - x.2.2.2) (.exit 0) (by simp) (fun st e s obs h hob => sub62 h hob) ?_
  rintro ⟨ty, xs, d, i⟩ ⟨hw, hl, hd0, hd, hi⟩
  simp only at hw hl hd0 hd hi ⊢
  have hno : ∀ d ∈ loopsOf (loopC Tryz.f62 0), LoopOk Tryz.prog Tryz.f62.ntmps L0 d := by rw [show loopsOf (loopC Tryz.f62 0) = [] by kernel_rfl]; intro d hd; cases hd
  unfold Ln at hl
  by_cases hlt : i < xs.length
  · obtain ⟨k, hk⟩ : ∃ k, k = xs.length - (i + 1) := ⟨_, rfl⟩
    have hk1 : xs.length - i = k + 1 := by omega
    have w1 : IntKind.wrap IntKind.i64 (IntKind.wrap IntKind.i64 ((xs.length : Int) - 1) - (i : Int)) = (k : Int) := by
      rw [wi64 ((xs.length : Int) - 1) (by omega) (by omega), wi64 _ (by omega) (by omega)]; omega
    have w3 : IntKind.wrap IntKind.i64 ((i : Int) + 1) = ((i + 1 : Nat) : Int) := by rw [wi64 _ (by omega) (by omega)]; omega
    obtain ⟨s1, s2, s3⟩ := short_step (nv xs) d k hd0
    have hU : (o_U xs.length (nv xs / d) (k + 1)).length = xs.length := U_length (by omega)
    have hm := Nat.mod_lt (nv xs / B ^ (k + 1)) hd0
    have hg := dg_lt (nv xs) k
    have e1 : ((nv xs / 4294967296 ^ (k + 1) % d : Nat) : Int) * 4294967296 + ((dg (nv xs) k : Nat) : Int) = ((nv xs / B ^ (k + 1) % d * B + dg (nv xs) k : Nat) : Int) := by
      unfold B; omega
    refine (codeV_sound hmix E5ok.hS hno (loop62a ty xs d i) ?_).mono ?_
    · simp only [AllP, w1, hk1, hU, Int.toNat_natCast, nv_getD hw, Nat.zero_add]
      obtain ⟨a, ha⟩ : ∃ a, a = nv xs / 4294967296 ^ (k + 1) % d := ⟨_, rfl⟩
      rw [← ha]
      have hm : a < d := by rw [ha]; exact hm
      unfold B at hg
      simp
      omega
    · rintro e s ⟨rfl, hs⟩
      refine .inl ⟨rfl, (ty, xs, d, i + 1), ⟨hw, hl, hd0, hd, by show i + 1 ≤ xs.length; omega⟩, by simp only; omega, ?_, rfl⟩
      simp only [w1, w3, hk1, Int.toNat_natCast, Nat.zero_add, nv_getD hw, e1] at hs
      rw [← Int.natCast_ediv, ← Int.natCast_emod, s1, s2, U_set (by omega)] at hs
      rw [hk] at hs
      exact hs
  · have : i = xs.length := by omega
    subst this
    refine (codeV_sound hmix E5ok.hS hno (loop62b ty xs d _) ?_).mono ?_
    · simp [AllP]
    · rintro e s ⟨rfl, hs⟩
      exact .inr ⟨rfl, hs⟩

def spShort (k : IntKind) : Sp
  | [.one (.row .u32 xs), .one (.v (.int k' d))] => bif kEq k k' then some (.tup [roW (enc (nv xs / d.toNat)), .one (.v (.int k ((nv xs % d.toNat : Nat) : Int)))], [0 < d ∧ d < 4294967296, Words xs, Ln xs]) else none
  | _ => none
theorem short_top {xs : List Int} (h : Words xs) (d : Nat) : List.take xs.length (dgs xs.length (nv xs / d)) = dgs xs.length (nv xs / d) ∧ nv (dgs xs.length (nv xs / d)) = nv xs / d := by
  refine ⟨List.take_of_length_le (by rw [dgs_length]; exact Nat.le_refl _), ?_⟩
  rw [nv_dgs, Nat.mod_eq_of_lt]
  exact Nat.lt_of_le_of_lt (Nat.div_le_self _ _) (nv_lt h)
theorem con62 : Con Tryz.prog 62 (spShort .u32) := by
  refine con_run (L := L62) (fn := Tryz.f62) hmix E5ok.hS lo62 (by kernel_rfl) (fun _ => by kernel_rfl) ?_
  intro avs r ps hsp hps
  unfold spShort at hsp
  split at hsp
  · rename_i xs k' d
    rw [Bool.cond_eq_ite] at hsp
    split at hsp
    · rename_i hk
      have hk := kEq_iff.1 hk
      subst hk
      simp only [Option.some.injEq, Prod.mk.injEq] at hsp
      obtain ⟨rfl, rfl⟩ := hsp
      obtain ⟨hd, hw, hl, _⟩ := hps
      obtain ⟨t1, t2⟩ := short_top hw d.toNat
      refine ⟨rfl, _, _, _, _, run62 xs d, ?_, ?_⟩
      · simp only [Nat.sub_self, Nat.pow_zero, Nat.div_one, U_zero, List.drop_zero, t1, t2]
        rfl
      · unfold Ln at hl
        simp only [AllP, Nat.sub_self, U_zero, List.drop_zero, t1, dgs_length, Int.toNat_natCast]
        simp [hw, words_dgs, hd, hl]
        omega
    · cases hsp
  · cases hsp

theorem sub112 {st : St} {e : Ex} {s : St} {obs : List Prop} (h : F112 st = some (e, s, obs)) (hob : AllP obs) : ∃ x : TypeId × List Int × Nat × Nat, V62 x ∧ SubS st (I112 x.1 x.2.1 x.2.2.1 x.2.2.2) ∧ e = .exit 0 ∧ s = I112 x.1 x.2.1 x.2.2.1 0 := by
  unfold F112 at h
  split at h
  · rename_i xs d len cap c i ty zs hz h1 h2 h3 h4 h5 h7
    simp only [Option.some.injEq, Prod.mk.injEq] at h
    obtain ⟨rfl, rfl, rfl⟩ := h
    obtain ⟨⟨hd0, hd⟩, rfl, rfl, rfl, rfl, rfl, hw, hl, _⟩ := hob
    obtain ⟨d, rfl⟩ := Int.eq_ofNat_of_zero_le (Int.le_of_lt hd0)
    refine ⟨(ty, xs, d, xs.length), ⟨hw, hl, by show 0 < d; omega, by show d < _; omega, Nat.le_refl _⟩, ⟨?_, ?_, ?_⟩, rfl, rfl⟩
    · intro p hp
      simp only [I112, List.mem_cons, List.not_mem_nil, or_false, top_zero hw] at hp
      rcases hp with rfl | rfl | rfl | rfl | rfl <;> exact ⟨by assumption, rfl⟩
    · intro p hp
      simp only [I112, List.mem_cons, List.not_mem_nil, or_false, U_full] at hp
      subst hp
      exact ⟨by assumption, rfl⟩
    · rw [hz]; intro h; cases h
  · cases h
theorem lo112 : ∀ c ∈ loopsF Tryz.f112, LoopOk Tryz.prog Tryz.f112.ntmps L112 c := by
  rw [show loopsF Tryz.f112 = [loopC Tryz.f112 0] by kernel_rfl]
  intro c hc
  rw [List.mem_singleton] at hc
  subst hc
  refine loop_ok (k := 4) (f := F112) (α := TypeId × List Int × Nat × Nat) (by kernel_rfl) rfl (fun x => I112 x.1 x.2.1 x.2.2.1 x.2.2.2) (fun x => I112 x.1 x.2.1 x.2.2.1 0) V62 (fun x => x.2.2.2) (.exit 0) (by simp) (fun st e s obs h hob => sub112 h hob) ?_
  rintro ⟨ty, xs, d, j⟩ ⟨hw, hl, hd0, hd, hi⟩
  simp only at hw hl hd0 hd hi ⊢
  have hno : ∀ d ∈ loopsOf (loopC Tryz.f112 0), LoopOk Tryz.prog Tryz.f112.ntmps L0 d := by rw [show loopsOf (loopC Tryz.f112 0) = [] by kernel_rfl]; intro d hd; cases hd
  unfold Ln at hl
  by_cases hlt : 0 < j
  · obtain ⟨k, rfl⟩ : ∃ k, j = k + 1 := ⟨j - 1, by omega⟩
    have w1 : ((k + 1 : Nat) : Int) - 1 = (k : Int) := by omega
    have w3 : IntKind.wrap IntKind.i64 ((k : Int) - 1) = (k : Int) - 1 := by rw [wi64 _ (by omega) (by omega)]
    obtain ⟨s1, s2, s3⟩ := short_step (nv xs) d k hd0
    have hU : (o_U xs.length (nv xs / d) (k + 1)).length = xs.length := U_length (by omega)
    have hm := Nat.mod_lt (nv xs / B ^ (k + 1)) hd0
    have hg := dg_lt (nv xs) k
    have e1 : IntKind.wrap IntKind.u64 (IntKind.wrap IntKind.u64 (((nv xs / B ^ (k + 1) % d : Nat) : Int) * 4294967296) + IntKind.wrap IntKind.u64 ((dg (nv xs) k : Nat) : Int)) = ((nv xs / B ^ (k + 1) % d * B + dg (nv xs) k : Nat) : Int) := by
      simp only [w64]
      generalize nv xs / B ^ (k + 1) % d = a at *
      unfold B at *; omega
    refine (codeV_sound hmix E5ok.hS hno (loop112a ty xs d (k + 1)) ?_).mono ?_
    · simp only [AllP, w1, hU, Int.toNat_natCast, Nat.zero_add]
      simp
      omega
    · rintro e s ⟨rfl, hs⟩
      refine .inl ⟨rfl, (ty, xs, d, k), ⟨hw, hl, hd0, hd, by show k ≤ xs.length; omega⟩, by simp only; omega, ?_, rfl⟩
      simp only [w1, w3, Int.toNat_natCast, Nat.zero_add, nv_getD hw, e1] at hs
      rw [Int.tdiv_eq_ediv_of_nonneg (Int.natCast_nonneg _), Int.tmod_eq_emod_of_nonneg (Int.natCast_nonneg _), ← Int.natCast_ediv, ← Int.natCast_emod, s1, s2] at hs
      have hd1 : IntKind.wrap IntKind.u32 (IntKind.wrap IntKind.u64 ((dg (nv xs / d) k : Nat) : Int)) = ((dg (nv xs / d) k : Nat) : Int) := by
        have := dg_lt (nv xs / d) k
        rw [w32, w64]
        unfold B at this
        omega
      rw [hd1, U_set (by omega)] at hs
      exact hs
  · have : j = 0 := by omega
    subst this
    refine (codeV_sound hmix E5ok.hS hno (loop112b ty xs d _) ?_).mono ?_
    · simp [AllP]
    · rintro e s ⟨rfl, hs⟩
      exact .inr ⟨rfl, hs⟩
theorem con112 : Con Tryz.prog 112 (spShort .u64) := by
  refine con_run (L := L112) (fn := Tryz.f112) hmix E5ok.hS lo112 (by kernel_rfl) (fun _ => by kernel_rfl) ?_
  intro avs r ps hsp hps
  unfold spShort at hsp
  split at hsp
  · rename_i xs k' d
    rw [Bool.cond_eq_ite] at hsp
    split at hsp
    · rename_i hk
      have hk := kEq_iff.1 hk
      subst hk
      simp only [Option.some.injEq, Prod.mk.injEq] at hsp
      obtain ⟨rfl, rfl⟩ := hsp
      obtain ⟨hd, hw, hl, _⟩ := hps
      obtain ⟨t1, t2⟩ := short_top hw d.toNat
      unfold Ln at hl
      have w1 : IntKind.wrap IntKind.i64 ((xs.length : Int) - 1) = (xs.length : Int) - 1 := by rw [wi64 _ (by omega) (by omega)]
      refine ⟨rfl, _, _, _, _, run112 xs d, ?_, ?_⟩
      · simp only [Nat.pow_zero, Nat.div_one, U_zero, List.drop_zero, t1, t2]
        rfl
      · simp only [AllP, w1, U_zero, List.drop_zero, t1, dgs_length, Int.toNat_natCast]
        simp [hw, words_dgs, hd, hl]
        omega
    · cases hsp
  · cases hsp

def E6 : List (Nat × Ctr) := (62, .fn (spShort .u32)) :: (112, .fn (spShort .u64)) :: E5
theorem E6ok : EnvOk Tryz.prog E6 := .cons con62 (.cons con112 E5ok)

end Go.Proofs.YtkfdnpbpebmhaaaGreatDoor.Spec
namespace Go.Proofs.YtkfdnpbpebmhaaaGreatDoor.Spec
open Go Go.RowKit Sx Num

def I93 (ty : TypeId) (xs : List Int) (s i : Nat) : St :=
  ⟨[(0, .s (roW xs)), (1, .s (num s)), (5, .s (slW 12 0 (xs.length + 1) (xs.length + 1))), (13, .s (roW xs)), (14, .s (num xs.length)), (15, .s (num i))],
   [(12, box32 ty (dgs (xs.length + 1) (nv xs % B ^ i * 2 ^ s)))]⟩
def F93 (st : St) : Option (Ex × St × List Prop) :=
  match liv st.boxes 0, lk st.tmps 0, lk st.tmps 1, lk st.tmps 5, lk st.tmps 13, lk st.tmps 14, lk st.tmps 15, lk st.boxes 12 with
  | false, some (.s (.one (.row .u32 xs))), some (.s (.one (.v (.int .i64 s)))), some (.s (.one (.sl 12 0 len cap))), some (.s (.one (.row .u32 xs'))), some (.s (.one (.v (.int .i64 n)))), some (.s (.one (.v (.int .i64 i)))), some ⟨ty, .ints .u32 zs, true⟩ =>
    some (.exit 0, I93 ty xs s.toNat xs.length, [0 ≤ s ∧ s < 32, len = xs.length + 1, cap = xs.length + 1, xs' = xs, n = xs.length, i = 0, zs = List.replicate (xs.length + 1) 0, Words xs, xs.length < 137438953472])
  | _, _, _, _, _, _, _, _ => none
def L93 : Loops := fun k => bif Nat.beq k 3 then some F93 else none
def I95 (ty : TypeId) (xs : List Int) (s i : Nat) : St :=
  ⟨[(0, .s (roW xs)), (1, .s (num s)), (5, .s (slW 9 0 xs.length xs.length)), (11, .s (num xs.length)), (12, .s (num i))],
   [(9, box32 ty (o_Z xs.length (nv xs / 2 ^ s) i))]⟩
def F95 (st : St) : Option (Ex × St × List Prop) :=
  match liv st.boxes 0, lk st.tmps 0, lk st.tmps 1, lk st.tmps 5, lk st.tmps 11, lk st.tmps 12, lk st.boxes 9 with
  | false, some (.s (.one (.row .u32 xs))), some (.s (.one (.v (.int .i64 s)))), some (.s (.one (.sl 9 0 len cap))), some (.s (.one (.v (.int .i64 n)))), some (.s (.one (.v (.int .i64 i)))), some ⟨ty, .ints .u32 zs, true⟩ =>
    some (.exit 0, I95 ty xs s.toNat xs.length, [0 ≤ s ∧ s < 32, len = xs.length, cap = xs.length, n = xs.length, i = 0, zs = List.replicate xs.length 0, Words xs, xs.length < 137438953472])
  | _, _, _, _, _, _, _ => none
def L95 : Loops := fun k => bif Nat.beq k 3 then some F95 else none

end Go.Proofs.YtkfdnpbpebmhaaaGreatDoor.Spec
section
set_option maxRecDepth 100000
namespace Go.Proofs.YtkfdnpbpebmhaaaGreatDoor.Spec
open Go Go.RowKit Sx Num

theorem loop93a (ty : TypeId) (xs : List Int) (s i : Nat) : codeV Tryz.prog (lk E6) L0 (G1 []) Tryz.f93.ntmps 60 (loopC Tryz.f93 0) [0, 1, 5, 13, 14, 15] [12] (I93 ty xs s i) = some (Ex.normal, { tmps := [((0 : Nat), AV.s (SV.one (LV.row EK.u32 xs))), ((1 : Nat), AV.s (SV.one (LV.v (Value.int IntKind.i64 (↑s : Int))))), ((5 : Nat), AV.s (SV.one (LV.sl (12 : Nat) (0 : Nat) (List.length xs + (1 : Nat)) (List.length xs + (1 : Nat))))), ((13 : Nat), AV.s (SV.one (LV.row EK.u32 xs))), ((14 : Nat), AV.s (SV.one (LV.v (Value.int IntKind.i64 (↑(List.length xs) : Int))))), ((15 : Nat), AV.s (SV.one (LV.v (Value.int IntKind.i64 (IntKind.wrap IntKind.i64 ((↑i : Int) + (1 : Int)))))))], boxes := [((12 : Nat), { ty := ty, bc := BC.ints EK.u32 (List.set (List.set (dgs (List.length xs + (1 : Nat)) (nv xs % B ^ i * (2 : Nat) ^ s)) ((0 : Nat) + Int.toNat (↑i : Int)) (IntKind.wrap IntKind.u32 (↑(BitVec.toNat (BitVec.ofInt (IntKind.bits IntKind.u32) (List.getD (dgs (List.length xs + (1 : Nat)) (nv xs % B ^ i * (2 : Nat) ^ s)) ((0 : Nat) + Int.toNat (↑i : Int)) (0 : Int)) ||| BitVec.ofInt (IntKind.bits IntKind.u32) (IntKind.wrap IntKind.u32 (IntKind.wrap IntKind.u64 (IntKind.wrap IntKind.u64 (List.getD xs (Int.toNat (↑i : Int)) (0 : Int)) * (2 : Int) ^ min (Int.toNat (↑s : Int)) (IntKind.bits IntKind.u64)))))) : Int))) ((0 : Nat) + Int.toNat (IntKind.wrap IntKind.i64 ((↑i : Int) + (1 : Int)))) (IntKind.wrap IntKind.u32 (Int.fdiv (IntKind.wrap IntKind.u64 (IntKind.wrap IntKind.u64 (List.getD xs (Int.toNat (↑i : Int)) (0 : Int)) * (2 : Int) ^ min (Int.toNat (↑s : Int)) (IntKind.bits IntKind.u64))) ((2 : Int) ^ min (Int.toNat (32 : Int)) (IntKind.bits IntKind.u64))))), mut_ := true })] }, [decide ((↑i : Int) < (↑(List.length xs) : Int)) = true, (0 : Int) ≤ (↑i : Int) ∧ (↑i : Int) < (↑(List.length xs) : Int), (0 : Int) ≤ (↑s : Int), (0 : Int) ≤ (↑i : Int) ∧ (↑i : Int) < (↑(List.length xs + (1 : Nat)) : Int), (0 : Nat) + Int.toNat (↑i : Int) < List.length (dgs (List.length xs + (1 : Nat)) (nv xs % B ^ i * (2 : Nat) ^ s)), (0 : Int) ≤ (↑i : Int) ∧ (↑i : Int) < (↑(List.length xs + (1 : Nat)) : Int), (0 : Nat) + Int.toNat (↑i : Int) < List.length (dgs (List.length xs + (1 : Nat)) (nv xs % B ^ i * (2 : Nat) ^ s)), (0 : Int) ≤ (32 : Int), (0 : Int) ≤ IntKind.wrap IntKind.i64 ((↑i : Int) + (1 : Int)) ∧ IntKind.wrap IntKind.i64 ((↑i : Int) + (1 : Int)) < (↑(List.length xs + (1 : Nat)) : Int), (0 : Nat) + Int.toNat (IntKind.wrap IntKind.i64 ((↑i : Int) + (1 : Int))) < List.length (List.set (dgs (List.length xs + (1 : Nat)) (nv xs % B ^ i * (2 : Nat) ^ s)) ((0 : Nat) + Int.toNat (↑i : Int)) (IntKind.wrap IntKind.u32 (↑(BitVec.toNat (BitVec.ofInt (IntKind.bits IntKind.u32) (List.getD (dgs (List.length xs + (1 : Nat)) (nv xs % B ^ i * (2 : Nat) ^ s)) ((0 : Nat) + Int.toNat (↑i : Int)) (0 : Int)) ||| BitVec.ofInt (IntKind.bits IntKind.u32) (IntKind.wrap IntKind.u32 (IntKind.wrap IntKind.u64 (IntKind.wrap IntKind.u64 (List.getD xs (Int.toNat (↑i : Int)) (0 : Int)) * (2 : Int) ^ min (Int.toNat (↑s : Int)) (IntKind.bits IntKind.u64)))))) : Int)))]) := by kernel_rfl
theorem loop93b (ty : TypeId) (xs : List Int) (s i : Nat) : codeV Tryz.prog (lk E6) L0 (G1 [16]) Tryz.f93.ntmps 60 (loopC Tryz.f93 0) [0, 1, 5, 13, 14, 15] [12] (I93 ty xs s i) = some (Ex.exit (0 : Nat), { tmps := [((0 : Nat), AV.s (SV.one (LV.row EK.u32 xs))), ((1 : Nat), AV.s (SV.one (LV.v (Value.int IntKind.i64 (↑s : Int))))), ((5 : Nat), AV.s (SV.one (LV.sl (12 : Nat) (0 : Nat) (List.length xs + (1 : Nat)) (List.length xs + (1 : Nat))))), ((13 : Nat), AV.s (SV.one (LV.row EK.u32 xs))), ((14 : Nat), AV.s (SV.one (LV.v (Value.int IntKind.i64 (↑(List.length xs) : Int))))), ((15 : Nat), AV.s (SV.one (LV.v (Value.int IntKind.i64 (↑i : Int)))))], boxes := [((12 : Nat), { ty := ty, bc := BC.ints EK.u32 (dgs (List.length xs + (1 : Nat)) (nv xs % B ^ i * (2 : Nat) ^ s)), mut_ := true })] }, [decide ((↑i : Int) < (↑(List.length xs) : Int)) = false]) := by kernel_rfl
theorem run93 (xs : List Int) (s : Int) : fnEx Tryz.prog (lk E6) L93 (G1 []) 60 Tryz.f93 [roW xs, num s] = some (AV.s (SV.one (LV.row EK.u32 (List.take (List.length xs + (1 : Nat)) (List.drop (0 : Nat) (dgs (List.length xs + (1 : Nat)) (nv xs % B ^ List.length xs * (2 : Nat) ^ Int.toNat s)))))), [(0 : Int) ≤ IntKind.wrap IntKind.i64 ((↑(List.length xs) : Int) + (1 : Int)) ∧ IntKind.wrap IntKind.i64 ((↑(List.length xs) : Int) + (1 : Int)) ≤ IntKind.wrap IntKind.i64 ((↑(List.length xs) : Int) + (1 : Int)) ∧ IntKind.wrap IntKind.i64 ((↑(List.length xs) : Int) + (1 : Int)) ≤ (1099511627776 : Int), (0 : Int) ≤ s ∧ s < (32 : Int), Int.toNat (IntKind.wrap IntKind.i64 ((↑(List.length xs) : Int) + (1 : Int))) = List.length xs + (1 : Nat), Int.toNat (IntKind.wrap IntKind.i64 ((↑(List.length xs) : Int) + (1 : Int))) = List.length xs + (1 : Nat), xs = xs, (↑(List.length xs) : Int) = (↑(List.length xs) : Int), (0 : Int) = (0 : Int), List.replicate (Int.toNat (IntKind.wrap IntKind.i64 ((↑(List.length xs) : Int) + (1 : Int)))) (0 : Int) = List.replicate (List.length xs + (1 : Nat)) (0 : Int), Words xs, List.length xs < (137438953472 : Nat), (0 : Nat) + (List.length xs + (1 : Nat)) ≤ List.length (dgs (List.length xs + (1 : Nat)) (nv xs % B ^ List.length xs * (2 : Nat) ^ Int.toNat s)) ∧ List.length xs + (1 : Nat) ≤ List.length xs + (1 : Nat) ∧ List.length xs + (1 : Nat) ≤ (9223372036854775807 : Nat)]) := by kernel_rfl
theorem loop95a (ty : TypeId) (xs : List Int) (s i : Nat) : codeV Tryz.prog (lk E6) L0 (G1 []) Tryz.f95.ntmps 60 (loopC Tryz.f95 0) [0, 1, 5, 11, 12] [9] (I95 ty xs s i) = some (Ex.normal, { tmps := [((0 : Nat), AV.s (SV.one (LV.row EK.u32 xs))), ((1 : Nat), AV.s (SV.one (LV.v (Value.int IntKind.i64 (↑s : Int))))), ((5 : Nat), AV.s (SV.one (LV.sl (9 : Nat) (0 : Nat) (List.length xs) (List.length xs)))), ((11 : Nat), AV.s (SV.one (LV.v (Value.int IntKind.i64 (↑(List.length xs) : Int))))), ((12 : Nat), AV.s (SV.one (LV.v (Value.int IntKind.i64 (IntKind.wrap IntKind.i64 ((↑i : Int) + (1 : Int)))))))], boxes := [((9 : Nat), { ty := ty, bc := BC.ints EK.u32 (List.set (o_Z (List.length xs) (nv xs / (2 : Nat) ^ s) i) ((0 : Nat) + Int.toNat (↑i : Int)) (IntKind.wrap IntKind.u32 (Int.fdiv (IntKind.wrap IntKind.u64 (↑(BitVec.toNat (BitVec.ofInt (IntKind.bits IntKind.u64) (IntKind.wrap IntKind.u64 (IntKind.wrap IntKind.u64 (List.getD xs (Int.toNat (IntKind.wrap IntKind.i64 ((↑i : Int) + (1 : Int)))) (0 : Int)) * (2 : Int) ^ min (Int.toNat (32 : Int)) (IntKind.bits IntKind.u64))) ||| BitVec.ofInt (IntKind.bits IntKind.u64) (IntKind.wrap IntKind.u64 (List.getD xs (Int.toNat (↑i : Int)) (0 : Int))))) : Int)) ((2 : Int) ^ min (Int.toNat (↑s : Int)) (IntKind.bits IntKind.u64))))), mut_ := true })] }, [decide ((↑i : Int) < (↑(List.length xs) : Int)) = true, (0 : Int) ≤ IntKind.wrap IntKind.i64 ((↑i : Int) + (1 : Int)), (0 : Int) ≤ (32 : Int), (0 : Int) ≤ (↑i : Int) ∧ (↑i : Int) < (↑(List.length xs) : Int), (0 : Int) ≤ (↑s : Int), (0 : Int) ≤ (↑i : Int) ∧ (↑i : Int) < (↑(List.length xs) : Int), (0 : Nat) + Int.toNat (↑i : Int) < List.length (o_Z (List.length xs) (nv xs / (2 : Nat) ^ s) i)]) := by kernel_rfl
theorem loop95b (ty : TypeId) (xs : List Int) (s i : Nat) : codeV Tryz.prog (lk E6) L0 (G1 [13]) Tryz.f95.ntmps 60 (loopC Tryz.f95 0) [0, 1, 5, 11, 12] [9] (I95 ty xs s i) = some (Ex.exit (0 : Nat), { tmps := [((0 : Nat), AV.s (SV.one (LV.row EK.u32 xs))), ((1 : Nat), AV.s (SV.one (LV.v (Value.int IntKind.i64 (↑s : Int))))), ((5 : Nat), AV.s (SV.one (LV.sl (9 : Nat) (0 : Nat) (List.length xs) (List.length xs)))), ((11 : Nat), AV.s (SV.one (LV.v (Value.int IntKind.i64 (↑(List.length xs) : Int))))), ((12 : Nat), AV.s (SV.one (LV.v (Value.int IntKind.i64 (↑i : Int)))))], boxes := [((9 : Nat), { ty := ty, bc := BC.ints EK.u32 (o_Z (List.length xs) (nv xs / (2 : Nat) ^ s) i), mut_ := true })] }, [decide ((↑i : Int) < (↑(List.length xs) : Int)) = false]) := by kernel_rfl
theorem run95 (xs : List Int) (s : Int) : fnEx Tryz.prog (lk E6) L95 (G1 []) 60 Tryz.f95 [roW xs, num s] = some (AV.s (SV.one (LV.row EK.u32 (enc (nv (List.take (List.length xs) (List.drop (0 : Nat) (o_Z (List.length xs) (nv xs / (2 : Nat) ^ Int.toNat s) (List.length xs)))))))), [(0 : Int) ≤ (↑(List.length xs) : Int) ∧ (↑(List.length xs) : Int) ≤ (↑(List.length xs) : Int) ∧ (↑(List.length xs) : Int) ≤ (1099511627776 : Int), (0 : Int) ≤ s ∧ s < (32 : Int), Int.toNat (↑(List.length xs) : Int) = List.length xs, Int.toNat (↑(List.length xs) : Int) = List.length xs, (↑(List.length xs) : Int) = (↑(List.length xs) : Int), (0 : Int) = (0 : Int), List.replicate (Int.toNat (↑(List.length xs) : Int)) (0 : Int) = List.replicate (List.length xs) (0 : Int), Words xs, List.length xs < (137438953472 : Nat), (0 : Nat) + List.length xs ≤ List.length (o_Z (List.length xs) (nv xs / (2 : Nat) ^ Int.toNat s) (List.length xs)) ∧ List.length xs ≤ List.length xs ∧ List.length xs ≤ (9223372036854775807 : Nat), Words (List.take (List.length xs) (List.drop (0 : Nat) (o_Z (List.length xs) (nv xs / (2 : Nat) ^ Int.toNat s) (List.length xs)))), List.length (List.take (List.length xs) (List.drop (0 : Nat) (o_Z (List.length xs) (nv xs / (2 : Nat) ^ Int.toNat s) (List.length xs)))) ≤ (274877906944 : Nat)]) := by kernel_rfl 
end Go.Proofs.YtkfdnpbpebmhaaaGreatDoor.Spec
end
namespace Go.Proofs.YtkfdnpbpebmhaaaGreatDoor.Num
open Go.Proofs.YtkfdnpbpebmhaaaGreatDoor.Spec

/-- zs, where W stands from off on. -/
def o_win (zs : List Int) (off : Nat) (W : List Int) : List Int := zs.take off ++ W ++ zs.drop (off + W.length)
/-- len numbers from off on. -/
def o_part (zs : List Int) (off len : Nat) : List Int := (zs.drop off).take len
theorem part_length {zs : List Int} {off len : Nat} (h : off + len ≤ zs.length) : (o_part zs off len).length = len := by simp [o_part]; omega
theorem part_get {zs : List Int} {off len j : Nat} (hj : j < len) : (o_part zs off len).getD j 0 = zs.getD (off + j) 0 := by
  simp [o_part, List.getD, hj, List.getElem?_drop]
theorem win_length {zs W : List Int} {off : Nat} (h : off + W.length ≤ zs.length) : (o_win zs off W).length = zs.length := by
  simp [o_win]; omega
theorem win_get {zs W : List Int} {off j : Nat} (h : off + W.length ≤ zs.length) (hj : j < W.length) : (o_win zs off W).getD (off + j) 0 = W.getD j 0 := by
  unfold o_win
  have h1 : (zs.take off).length = off := by simp; omega
  rw [List.append_assoc, List.getD, List.getElem?_append_right (by omega), h1, Nat.add_sub_cancel_left, List.getElem?_append_left hj]
  rfl
theorem win_set {zs W : List Int} {off j : Nat} (h : off + W.length ≤ zs.length) (hj : j < W.length) (v : Int) : (o_win zs off W).set (off + j) v = o_win zs off (W.set j v) := by
  unfold o_win
  have h1 : (zs.take off).length = off := by simp; omega
  rw [List.append_assoc, List.set_append_right _ _ (by omega), h1, Nat.add_sub_cancel_left, List.set_append_left _ _ hj, List.length_set, List.append_assoc]
theorem win_self {zs : List Int} {off len : Nat} (h : off + len ≤ zs.length) : o_win zs off (o_part zs off len) = zs := by
  have h2 : zs.drop (off + len) = (zs.drop off).drop len := by rw [List.drop_drop]
  unfold o_win
  rw [part_length h, List.append_assoc, h2]
  unfold o_part
  rw [List.take_append_drop, List.take_append_drop]
theorem win_part {zs W : List Int} {off : Nat} (h : off + W.length ≤ zs.length) : o_part (o_win zs off W) off W.length = W := by
  unfold o_win o_part
  have h1 : (zs.take off).length = off := by simp; omega
  have h4 : (zs.take off).drop off = [] := List.drop_eq_nil_of_le (by omega)
  rw [List.append_assoc, List.drop_append_of_le_length (by omega), h4]
  simp
theorem win_win {zs W W' : List Int} {off : Nat} (h : off + W.length ≤ zs.length) (he : W.length = W'.length) : o_win (o_win zs off W) off W' = o_win zs off W' := by
  have h1 : (zs.take off).length = off := by simp; omega
  have e1 : (o_win zs off W).take off = zs.take off := by
    unfold o_win
    rw [List.append_assoc, List.take_append_of_le_length (by omega), List.take_of_length_le (by omega)]
  have e2 : (o_win zs off W).drop (off + W.length) = zs.drop (off + W.length) := by
    unfold o_win
    have h3 : (zs.take off ++ W).length = off + W.length := by rw [List.length_append, h1]
    rw [List.drop_append_of_le_length (by omega), List.drop_eq_nil_of_le (by omega), List.nil_append]
  show (o_win zs off W).take off ++ W' ++ (o_win zs off W).drop (off + W'.length) = _
  rw [e1, ← he, e2, he]
  rfl
theorem part_words {zs : List Int} {off len : Nat} (h : Words zs) : Words (o_part zs off len) := fun x hx => h x (List.mem_of_mem_drop (List.mem_of_mem_take hx))
theorem dgs_nv {W : List Int} (h : Words W) {n : Nat} (hn : W.length = n) : dgs n (nv W) = W := by
  apply List.ext_getElem
  · rw [dgs_length, hn]
  · intro i h1 h2
    have := nv_getD h i
    simp only [List.getD, List.getElem?_eq_getElem h2, Option.getD_some] at this
    rw [this]; simp [dgs]
theorem mix_start {W : List Int} (h : Words W) (a : Nat) : o_mix W.length a (nv W) 0 = W := by
  unfold o_mix
  rw [List.drop_zero, dgs_nv h rfl]; simp [dgs]

/-- What is carried into word i of a product by one word. -/
def o_cm (d v i : Nat) : Nat := d * (v % B ^ i) / B ^ i
theorem cm_zero (d v : Nat) : o_cm d v 0 = 0 := by simp [o_cm, Nat.mod_one]
theorem cm_le (d v i : Nat) : o_cm d v i ≤ d := by
  unfold o_cm
  have h1 := Nat.mod_lt v (pow_pos' i)
  have : d * (v % B ^ i) ≤ d * B ^ i := Nat.mul_le_mul_left _ (Nat.le_of_lt h1)
  exact Nat.le_trans (Nat.div_le_div_right this) (by rw [Nat.mul_div_cancel _ (pow_pos' i)]; exact Nat.le_refl _)
theorem cm_top {d v i : Nat} (h : v < B ^ i) (hd : d < B) : o_cm d v (i + 1) = 0 := by
  unfold o_cm
  have h2 : v < B ^ (i + 1) := Nat.lt_of_lt_of_le h (Nat.pow_le_pow_right (by decide) (by omega))
  rw [Nat.mod_eq_of_lt h2]
  apply Nat.div_eq_of_lt
  rw [Nat.pow_succ, Nat.mul_comm]
  exact Nat.mul_lt_mul_of_lt_of_le h (Nat.le_of_lt hd) (by decide)
theorem cm_step (d v i : Nat) : (d * dg v i + o_cm d v i) / B = o_cm d v (i + 1) ∧ (d * dg v i + o_cm d v i) % B = dg (d * v) i := by
  have hp := pow_pos' i
  have e1 : d * (v % B ^ (i + 1)) = d * (v % B ^ i) + B ^ i * (d * dg v i) := by
    rw [mod_succ, Nat.mul_add, Nat.mul_left_comm]
  have e2 : d * (v % B ^ (i + 1)) / B ^ i = d * dg v i + o_cm d v i := by
    rw [e1, Nat.add_mul_div_left _ _ hp, Nat.add_comm]; rfl
  constructor
  · rw [← e2, Nat.div_div_eq_div_mul, ← Nat.pow_succ]; rfl
  · rw [← e2]
    unfold dg
    have e3 : d * v = d * (v % B ^ (i + 1)) + B ^ i * (B * (d * (v / B ^ (i + 1)))) := by
      conv => lhs; rw [← Nat.mod_add_div v (B ^ (i + 1))]
      rw [Nat.mul_add]
      congr 1
      rw [Nat.pow_succ]
      rw [Nat.mul_left_comm, Nat.mul_assoc, Nat.mul_left_comm B]
    rw [e3, Nat.add_mul_div_left _ _ hp, Nat.add_mul_mod_self_left]

theorem bw_add (u dv N i : Nat) (hi : i ≤ N) : o_bw (u + B ^ N) dv i = o_bw u dv i := by
  unfold o_bw
  obtain ⟨k, rfl⟩ : ∃ k, N = i + k := ⟨N - i, by omega⟩
  rw [Nat.pow_add, Nat.add_mul_mod_self_left]
theorem sub_dig (u dv N i : Nat) (hi : i < N) (hdv : dv ≤ u + B ^ N) : ((dg (u + B ^ N - dv) i : Nat) : Int) = ((dg u i : Int) - dg dv i - o_bw u dv i) % 4294967296 := by
  have h1 := dg_sub (u + B ^ N) dv i hdv
  have h2 : dg (u + B ^ N) i = dg u i := by
    have := dg_add_mul u 1 N i hi
    rwa [Nat.mul_one] at this
  rw [h2, bw_add u dv N i (by omega)] at h1
  exact h1
theorem dgs_top (a N : Nat) : dgs N (a + B ^ N) = dgs N a := by
  have := dgs_add_mul a 1 N
  rwa [Nat.mul_one] at this
theorem bw_end {u dv N : Nat} (hu : u < B ^ N) (hdv : dv < B ^ N) : o_bw u dv N = if u < dv then 1 else 0 := by
  unfold o_bw
  rw [Nat.mod_eq_of_lt hu, Nat.mod_eq_of_lt hdv]
theorem cy_end {s v N : Nat} (hs : s < B ^ N) (hv : v < B ^ N) : o_cy s v N = if B ^ N ≤ s + v then 1 else 0 := by
  unfold o_cy
  rw [Nat.mod_eq_of_lt hs, Nat.mod_eq_of_lt hv]
  split
  · rename_i h
    have h1 : (s + v) / B ^ N < 2 := by rw [Nat.div_lt_iff_lt_mul (pow_pos' N)]; omega
    have h2 : 1 ≤ (s + v) / B ^ N := by rw [Nat.le_div_iff_mul_le (pow_pos' N)]; omega
    omega
  · exact Nat.div_eq_of_lt (by omega)
theorem mul_lt_pow {d v n : Nat} (hd : d < B) (hv : v < B ^ n) : d * v < B ^ (n + 1) := by
  rw [Nat.pow_succ, Nat.mul_comm]
  rcases Nat.eq_zero_or_pos v with h | h
  · subst h; rw [Nat.zero_mul]; exact Nat.mul_pos (pow_pos' n) (by decide)
  · exact Nat.mul_lt_mul_of_lt_of_le hv (Nat.le_of_lt hd) (by decide)

/-! ### the estimate of a digit -/
/-- The program's loop: the estimate goes down while its second word is too great. -/
def o_red (v1 v2 u3 : Nat) : Nat → Nat → Nat
  | 0, _ => 0
  | q + 1, r => if r < B ∧ r * B + u3 < (q + 1) * v2 then o_red v1 v2 u3 q (r + v1) else q + 1
/-- The reference's loop. -/
def o_gue (v1 v2 u3 : Nat) : Nat → Nat → Nat
  | 0, _ => 0
  | q + 1, r => if B ≤ q + 1 ∨ r * B + u3 < (q + 1) * v2 then (if B ≤ r + v1 then q else o_gue v1 v2 u3 q (r + v1)) else q + 1

structure Est (u v m t v1 v2 u3 : Nat) : Prop where
  ht : t = u / B ^ (m + 1)
  h3 : t * B + u3 = u / B ^ m
  hv : v1 * B + v2 = v / B ^ m
  v1pos : 0 < v1
  v2lt : v2 < B
  u3lt : u3 < B
  lt : u < v * B
theorem Est.vpos {u v m t v1 v2 u3 : Nat} (h : Est u v m t v1 v2 u3) : 0 < v := by
  rcases Nat.eq_zero_or_pos v with e | e
  · have := h.lt; rw [e] at this; omega
  · exact e
theorem Est.v1eq {u v m t v1 v2 u3 : Nat} (h : Est u v m t v1 v2 u3) : v1 = v / B ^ (m + 1) := by
  rw [Nat.pow_succ, ← Nat.div_div_eq_div_mul, ← h.hv]
  have := h.v2lt
  rw [Nat.mul_comm, Nat.mul_add_div (by decide), Nat.div_eq_of_lt this, Nat.add_zero]
theorem Est.start {u v m t v1 v2 u3 : Nat} (h : Est u v m t v1 v2 u3) : u / v ≤ t / v1 := by
  rw [Nat.le_div_iff_mul_le h.v1pos, h.ht, Nat.le_div_iff_mul_le (pow_pos' _), h.v1eq]
  calc u / v * (v / B ^ (m + 1)) * B ^ (m + 1) = u / v * (v / B ^ (m + 1) * B ^ (m + 1)) := by rw [Nat.mul_assoc]
    _ ≤ u / v * v := Nat.mul_le_mul_left _ (Nat.div_mul_le_self _ _)
    _ ≤ u := Nat.div_mul_le_self _ _
theorem Est.quot_lt {u v m t v1 v2 u3 : Nat} (h : Est u v m t v1 v2 u3) : u / v < B := by
  rw [Nat.div_lt_iff_lt_mul h.vpos, Nat.mul_comm]; exact h.lt
theorem Est.low {u v m t v1 v2 u3 q r : Nat} (h : Est u v m t v1 v2 u3) (hq : q * v1 + r = t) (hlt : r * B + u3 < q * v2) : u / v < q := by
  rcases Nat.lt_or_ge (u / v) q with h1 | h1
  · exact h1
  · exfalso
    have h2 : q * v ≤ u := Nat.le_trans (Nat.mul_le_mul_right _ h1) (Nat.div_mul_le_self _ _)
    have h3 : q * (v / B ^ m) ≤ u / B ^ m := by
      rw [Nat.le_div_iff_mul_le (pow_pos' _), Nat.mul_assoc]
      exact Nat.le_trans (Nat.mul_le_mul_left _ (Nat.div_mul_le_self _ _)) h2
    rw [← h.hv, ← h.h3, ← hq, Nat.mul_add, Nat.add_mul, Nat.mul_assoc] at h3
    omega
theorem Est.high {u v m t v1 v2 u3 q r : Nat} (h : Est u v m t v1 v2 u3) (hq : q * v1 + r = t) (hB : q ≤ B) (hge : q * v2 ≤ r * B + u3) : q ≤ u / v + 1 := by
  have h1 : q * (v / B ^ m) ≤ u / B ^ m := by
    rw [← h.hv, ← h.h3, ← hq, Nat.mul_add, Nat.add_mul, Nat.mul_assoc]
    omega
  have hp := pow_pos' m
  have h2 : q * (v / B ^ m) * B ^ m ≤ u := Nat.le_trans (Nat.mul_le_mul_right _ h1) (Nat.div_mul_le_self _ _)
  have h3 : v < (v / B ^ m + 1) * B ^ m := by
    have := Nat.lt_mul_div_succ v hp
    rw [Nat.mul_comm]; exact this
  have h4 : B * B ^ m ≤ v := by
    have := h.v1pos
    have e := h.v1eq
    have : 1 ≤ v / B ^ (m + 1) := by omega
    rw [Nat.le_div_iff_mul_le (pow_pos' _), Nat.one_mul, Nat.pow_succ, Nat.mul_comm] at this
    exact this
  rcases Nat.eq_zero_or_pos q with e | e
  · subst e; exact Nat.zero_le _
  · obtain ⟨p, rfl⟩ : ∃ p, q = p + 1 := ⟨q - 1, by omega⟩
    have h5 : (p + 1) * v ≤ u + v := by
      have a1 : (p + 1) * v ≤ (p + 1) * ((v / B ^ m + 1) * B ^ m) := Nat.mul_le_mul_left _ (Nat.le_of_lt h3)
      have a2 : (p + 1) * ((v / B ^ m + 1) * B ^ m) = (p + 1) * (v / B ^ m) * B ^ m + (p + 1) * B ^ m := by
        rw [← Nat.mul_assoc, Nat.mul_add, Nat.mul_one, Nat.add_mul]
      have a3 : (p + 1) * B ^ m ≤ B * B ^ m := Nat.mul_le_mul_right _ hB
      omega
    rw [Nat.add_mul, Nat.one_mul] at h5
    have h6 : p ≤ u / v := by rw [Nat.le_div_iff_mul_le h.vpos]; omega
    omega
theorem red_spec {u v m t v1 v2 u3 : Nat} (h : Est u v m t v1 v2 u3) : ∀ (q r : Nat), q * v1 + r = t → u / v ≤ q → u / v ≤ o_red v1 v2 u3 q r ∧ o_red v1 v2 u3 q r ≤ q
  | 0, r, hq, hl => by simp only [o_red]; omega
  | q + 1, r, hq, hl => by
    simp only [o_red]
    split
    · rename_i hc
      have h1 := h.low hq hc.2
      obtain ⟨h2, h3⟩ := red_spec h q (r + v1) (by rw [← hq, Nat.add_mul]; omega) (by omega)
      omega
    · omega
theorem gue_spec {u v m t v1 v2 u3 : Nat} (h : Est u v m t v1 v2 u3) : ∀ (q r : Nat), q * v1 + r = t → r < B → u / v ≤ q → u / v ≤ o_gue v1 v2 u3 q r ∧ o_gue v1 v2 u3 q r ≤ u / v + 1 ∧ o_gue v1 v2 u3 q r < B
  | 0, r, hq, hr, hl => by simp only [o_gue]; exact ⟨hl, Nat.zero_le _, by decide⟩
  | q + 1, r, hq, hr, hl => by
    have hQ := h.quot_lt
    simp only [o_gue]
    split
    · rename_i hc
      have h1 : u / v < q + 1 := by
        rcases hc with hc | hc
        · omega
        · exact h.low hq hc
      have hq' : q * v1 + (r + v1) = t := by rw [← hq, Nat.add_mul]; omega
      split
      · rename_i hb
        -- q is small: t is less than (v1 + 1) * B
        have htop : t < (v1 + 1) * B := by
          rw [h.ht, Nat.div_lt_iff_lt_mul (pow_pos' _), h.v1eq]
          have := Nat.lt_mul_div_succ v (pow_pos' (m + 1))
          have h4 := h.lt
          calc u < v * B := h4
            _ ≤ B ^ (m + 1) * (v / B ^ (m + 1) + 1) * B := Nat.mul_le_mul_right _ (Nat.le_of_lt this)
            _ = (v / B ^ (m + 1) + 1) * B * B ^ (m + 1) := by rw [Nat.mul_comm (B ^ (m + 1)), Nat.mul_assoc, Nat.mul_comm (B ^ (m + 1)), ← Nat.mul_assoc]
        have hqB : q < B := by
          rcases Nat.lt_or_ge q B with h5 | h5
          · exact h5
          · exfalso
            have : B * v1 ≤ q * v1 := Nat.mul_le_mul_right _ h5
            rw [Nat.add_mul, Nat.one_mul, Nat.mul_comm v1] at htop
            omega
        refine ⟨by omega, h.high hq' (Nat.le_of_lt hqB) ?_, hqB⟩
        have a1 : q * v2 ≤ B * B := Nat.mul_le_mul (Nat.le_of_lt hqB) (Nat.le_of_lt h.v2lt)
        have a2 : B * B ≤ (r + v1) * B := Nat.mul_le_mul_right _ hb
        omega
      · rename_i hb
        exact gue_spec h q (r + v1) hq' (by omega) (by omega)
    · rename_i hc
      have hc1 : q + 1 < B := by omega
      have hc2 : (q + 1) * v2 ≤ r * B + u3 := by omega
      exact ⟨hl, h.high hq (by omega) hc2, hc1⟩

/-- The top words of a number. -/
theorem top_words {u n : Nat} (i : Nat) (h : u < B ^ n) (hn : n = i + 1) : u / B ^ i = dg u i := by
  subst hn
  unfold dg
  rw [Nat.mod_eq_of_lt]
  rw [Nat.div_lt_iff_lt_mul (pow_pos' i), Nat.mul_comm, ← Nat.pow_succ]
  exact h
theorem div_words (u i : Nat) : u / B ^ i = u / B ^ (i + 1) * B + dg u i := by
  unfold dg
  rw [Nat.pow_succ, ← Nat.div_div_eq_div_mul, Nat.mul_comm]
  exact (Nat.div_add_mod _ _).symm
theorem est_mk {u v m : Nat} (hu : u < B ^ (m + 3)) (hv : v < B ^ (m + 2)) (hp : 0 < dg v (m + 1)) (hlt : u < v * B) :
    Est u v m (dg u (m + 2) * B + dg u (m + 1)) (dg v (m + 1)) (dg v m) (dg u m) := by
  have e1 : u / B ^ (m + 1) = dg u (m + 2) * B + dg u (m + 1) := by
    rw [div_words u (m + 1), top_words (m + 2) hu rfl]
  refine ⟨e1.symm, ?_, ?_, hp, dg_lt _ _, dg_lt _ _, hlt⟩
  · rw [← e1, ← div_words]
  · rw [← top_words (m + 1) hv rfl, ← div_words]

end Go.Proofs.YtkfdnpbpebmhaaaGreatDoor.Num
namespace Go.Proofs.YtkfdnpbpebmhaaaGreatDoor.Num
open Go.Proofs.YtkfdnpbpebmhaaaGreatDoor.Spec

theorem two_pow_split {s : Nat} (h : s < 32) : 2 ^ s * 2 ^ (32 - s) = B := by
  rw [← Nat.pow_add, show s + (32 - s) = 32 by omega]
theorem or_low {a b s : Nat} (h : a < 2 ^ s) : a ||| (2 ^ s * b) = 2 ^ s * b + a := by
  rw [Nat.or_comm, ← Nat.two_pow_add_eq_or_of_lt h]
theorem shl_low (X i s : Nat) : X % B ^ i * 2 ^ s / B ^ i < 2 ^ s := by
  rw [Nat.div_lt_iff_lt_mul (pow_pos' i), Nat.mul_comm (2 ^ s)]
  exact Nat.mul_lt_mul_of_lt_of_le (Nat.mod_lt _ (pow_pos' i)) (Nat.le_refl _) (Nat.two_pow_pos s)
theorem shl_dg (X i s : Nat) (h : s < 32) : dg (X % B ^ i * 2 ^ s) i = X % B ^ i * 2 ^ s / B ^ i := by
  unfold dg
  apply Nat.mod_eq_of_lt
  refine Nat.lt_trans (shl_low X i s) ?_
  exact Nat.pow_lt_pow_right (by decide) h
theorem shl_succ (X i s : Nat) : X % B ^ (i + 1) * 2 ^ s = X % B ^ i * 2 ^ s + B ^ i * (dg X i * 2 ^ s) := by
  rw [mod_succ, Nat.add_mul, Nat.mul_assoc]
theorem shl_step (X i s : Nat) (h : s < 32) : (dg (X % B ^ i * 2 ^ s) i ||| (dg X i * 2 ^ s % B)) = dg (X % B ^ (i + 1) * 2 ^ s) i ∧ dg X i * 2 ^ s / B = dg (X % B ^ (i + 1) * 2 ^ s) (i + 1) ∧ X % B ^ (i + 1) * 2 ^ s < B ^ (i + 2) := by
  have hlow := shl_low X i s
  have hsp := two_pow_split h
  have hp : 0 < 2 ^ s := Nat.two_pow_pos s
  have e1 : X % B ^ (i + 1) * 2 ^ s / B ^ i = X % B ^ i * 2 ^ s / B ^ i + dg X i * 2 ^ s := by
    rw [shl_succ, Nat.add_mul_div_left _ _ (pow_pos' i)]
  obtain ⟨a, ha⟩ : ∃ a, a = X % B ^ i * 2 ^ s / B ^ i := ⟨_, rfl⟩
  have e2 : dg X i * 2 ^ s % B = 2 ^ s * (dg X i % 2 ^ (32 - s)) := by
    rw [← hsp, Nat.mul_comm (dg X i), Nat.mul_mod_mul_left]
  have e3 : 2 ^ s * (dg X i % 2 ^ (32 - s)) + a < B := by
    have h1 := Nat.mod_lt (dg X i) (Nat.two_pow_pos (32 - s))
    have h2 : 2 ^ s * (dg X i % 2 ^ (32 - s) + 1) ≤ 2 ^ s * 2 ^ (32 - s) := Nat.mul_le_mul_left _ h1
    rw [Nat.mul_add, Nat.mul_one, hsp] at h2
    rw [← ha] at hlow
    omega
  have hd := Nat.div_add_mod (dg X i * 2 ^ s) B
  refine ⟨?_, ?_, ?_⟩
  · rw [shl_dg X i s h, ← ha, e2, or_low (by rw [ha]; exact hlow)]
    have : dg (X % B ^ (i + 1) * 2 ^ s) i = X % B ^ (i + 1) * 2 ^ s / B ^ i % B := rfl
    rw [this, e1, ← ha]
    rw [e2] at hd
    rw [← hd, show a + (B * (dg X i * 2 ^ s / B) + 2 ^ s * (dg X i % 2 ^ (32 - s))) = 2 ^ s * (dg X i % 2 ^ (32 - s)) + a + B * (dg X i * 2 ^ s / B) by omega, Nat.add_mul_mod_self_left, Nat.mod_eq_of_lt e3]
  · have : dg (X % B ^ (i + 1) * 2 ^ s) (i + 1) = X % B ^ (i + 1) * 2 ^ s / B ^ i / B % B := by rw [Nat.div_div_eq_div_mul, ← Nat.pow_succ]; rfl
    rw [this, e1, ← ha]
    rw [e2] at hd
    have e4 : a + dg X i * 2 ^ s = 2 ^ s * (dg X i % 2 ^ (32 - s)) + a + B * (dg X i * 2 ^ s / B) := by omega
    rw [e4, Nat.add_mul_div_left _ _ (show 0 < B by decide), Nat.div_eq_of_lt e3, Nat.zero_add, Nat.mod_eq_of_lt]
    rw [Nat.div_lt_iff_lt_mul (by decide)]
    refine Nat.mul_lt_mul_of_lt_of_le (dg_lt X i) (Nat.le_of_lt (Nat.pow_lt_pow_right (by decide) h)) (by decide)
  · rw [show i + 2 = i + 1 + 1 from rfl, Nat.pow_succ B (i + 1)]
    refine Nat.mul_lt_mul_of_lt_of_le (Nat.mod_lt _ (pow_pos' _)) (Nat.le_of_lt (Nat.pow_lt_pow_right (by decide) h)) (by decide)
theorem dgs_set2 {N i V V' : Nat} (_hi : i + 1 < N) (hl : ∀ j, j < i → dg V' j = dg V j) (hh : ∀ j, i + 1 < j → dg V' j = dg V j) : ((dgs N V).set i (dg V' i : Int)).set (i + 1) (dg V' (i + 1) : Int) = dgs N V' := by
  apply List.ext_getElem
  · simp [dgs_length]
  · intro j h1 h2
    rw [List.getElem_set, List.getElem_set]
    simp only [dgs, List.getElem_map, List.getElem_range]
    by_cases e1 : i + 1 = j
    · rw [if_pos e1, e1]
    · rw [if_neg e1]
      by_cases e2 : i = j
      · rw [if_pos e2, e2]
      · rw [if_neg e2]
        rcases Nat.lt_or_ge j i with e3 | e3
        · rw [hl j e3]
        · rw [hh j (by omega)]
theorem shl_dgs {N X i s : Nat} (hs : s < 32) (hi : i + 1 < N) : ((dgs N (X % B ^ i * 2 ^ s)).set i (dg (X % B ^ (i + 1) * 2 ^ s) i : Int)).set (i + 1) (dg (X % B ^ (i + 1) * 2 ^ s) (i + 1) : Int) = dgs N (X % B ^ (i + 1) * 2 ^ s) := by
  refine dgs_set2 hi (fun j hj => by rw [shl_succ, dg_add_mul _ _ _ _ hj]) fun j hj => ?_
  have h1 := (shl_step X i s hs).2.2
  rw [dg_big h1 (by omega), dg_big (k := i + 1) ?_ (by omega)]
  rw [Nat.pow_succ]
  refine Nat.mul_lt_mul_of_lt_of_le (Nat.mod_lt _ (pow_pos' _)) (Nat.le_of_lt (Nat.pow_lt_pow_right (by decide) hs)) (by decide)
theorem shr_step (X i s : Nat) (h : s < 32) : (dg X (i + 1) * B + dg X i) / 2 ^ s % B = dg (X / 2 ^ s) i := by
  have e1 : X / 2 ^ s / B ^ i = X / B ^ i / 2 ^ s := by rw [Nat.div_div_eq_div_mul, Nat.div_div_eq_div_mul, Nat.mul_comm]
  have e2 : X / B ^ i = dg X (i + 1) * B + dg X i + 2 ^ s * (B * (2 ^ (32 - s) * (X / B ^ (i + 2)))) := by
    rw [div_words X i, div_words X (i + 1), Nat.add_mul]
    have : X / B ^ (i + 1 + 1) * B * B = 2 ^ s * (B * (2 ^ (32 - s) * (X / B ^ (i + 2)))) := by
      rw [Nat.mul_left_comm (2 ^ s), ← Nat.mul_assoc (2 ^ s), two_pow_split h, ← Nat.mul_assoc, Nat.mul_comm (B * B), Nat.mul_assoc]
    rw [this]
    omega
  rw [show dg (X / 2 ^ s) i = X / 2 ^ s / B ^ i % B from rfl, e1, e2, Nat.add_mul_div_left _ _ (Nat.two_pow_pos s), Nat.add_mul_mod_self_left]

end Go.Proofs.YtkfdnpbpebmhaaaGreatDoor.Num
namespace Go.Proofs.YtkfdnpbpebmhaaaGreatDoor.Spec
open Go Go.RowKit Sx Num

def V93 (x : TypeId × List Int × Nat × Nat) : Prop := Words x.2.1 ∧ x.2.1.length < 137438953472 ∧ x.2.2.1 < 32 ∧ x.2.2.2 ≤ x.2.1.length
theorem sub93 {st : St} {e : Ex} {s : St} {obs : List Prop} (h : F93 st = some (e, s, obs)) (hob : AllP obs) : ∃ x : TypeId × List Int × Nat × Nat, V93 x ∧ SubS st (I93 x.1 x.2.1 x.2.2.1 x.2.2.2) ∧ e = .exit 0 ∧ s = I93 x.1 x.2.1 x.2.2.1 x.2.1.length := by
  unfold F93 at h
  split at h
  · rename_i xs d len cap xs' n i ty zs hz h1 h2 h3 h4 h5 h6 h7
    simp only [Option.some.injEq, Prod.mk.injEq] at h
    obtain ⟨rfl, rfl, rfl⟩ := h
    obtain ⟨⟨hd0, hd⟩, rfl, rfl, rfl, rfl, rfl, rfl, hw, hl, _⟩ := hob
    obtain ⟨d, rfl⟩ := Int.eq_ofNat_of_zero_le hd0
    refine ⟨(ty, xs', d, 0), ⟨hw, hl, by show d < _; omega, Nat.zero_le _⟩, ⟨?_, ?_, ?_⟩, rfl, rfl⟩
    · intro p hp
      simp only [I93, List.mem_cons, List.not_mem_nil, or_false] at hp
      rcases hp with rfl | rfl | rfl | rfl | rfl | rfl <;> exact ⟨by assumption, rfl⟩
    · intro p hp
      simp only [I93, List.mem_cons, List.not_mem_nil, or_false, Nat.pow_zero, Nat.mod_one, Nat.zero_mul, dgs_zero] at hp
      subst hp
      exact ⟨by assumption, rfl⟩
    · rw [hz]; intro h; cases h
  · cases h
theorem bits64 : IntKind.bits IntKind.u64 = 64 := rfl
theorem bits32 : IntKind.bits IntKind.u32 = 32 := rfl
theorem shl_wrap {x s : Nat} (hx : x < B) (hs : s < 32) : IntKind.wrap IntKind.u64 (IntKind.wrap IntKind.u64 (x : Int) * (2 : Int) ^ min (Int.toNat (s : Int)) (IntKind.bits IntKind.u64)) = ((x * 2 ^ s : Nat) : Int) ∧ x * 2 ^ s < 18446744073709551616 := by
  have h2 : x * 2 ^ s < 4294967296 * 4294967296 := Nat.mul_lt_mul_of_lt_of_le hx (Nat.le_of_lt (Nat.pow_lt_pow_right (by decide) hs)) (by decide)
  refine ⟨?_, h2⟩
  rw [bits64, Int.toNat_natCast, show min s 64 = s by omega, w64, w64]
  unfold B at hx
  rw [show (x : Int) % 18446744073709551616 = x by omega]
  have e : (x : Int) * 2 ^ s = ((x * 2 ^ s : Nat) : Int) := by push_cast; rfl
  rw [e]; omega
theorem or_nat {n : Nat} (a b : Nat) (ha : a < 2 ^ n) (hb : b < 2 ^ n) : ((BitVec.ofInt n (a : Int) ||| BitVec.ofInt n (b : Int)).toNat : Int) = ((a ||| b : Nat) : Int) := by
  rw [BitVec.toNat_or, BitVec.ofInt_natCast, BitVec.ofInt_natCast, BitVec.toNat_ofNat, BitVec.toNat_ofNat, Nat.mod_eq_of_lt ha, Nat.mod_eq_of_lt hb]
theorem lo93 : ∀ c ∈ loopsF Tryz.f93, LoopOk Tryz.prog Tryz.f93.ntmps L93 c := by
  rw [show loopsF Tryz.f93 = [loopC Tryz.f93 0] by kernel_rfl]
  intro c hc
  rw [List.mem_singleton] at hc
  subst hc
  refine loop_ok (k := 3) (f := F93) (α := TypeId × List Int × Nat × Nat) (by kernel_rfl) rfl (fun x => I93 x.1 x.2.1 x.2.2.1 x.2.2.2) (fun x => I93 x.1 x.2.1 x.2.2.1 x.2.1.length) V93 (fun x => x.2.1.length - x.2.2.2) (.exit 0) (by simp) (fun st e s obs h hob => sub93 h hob) ?_
  rintro ⟨ty, xs, d, i⟩ ⟨hw, hl, hd, hi⟩
  simp only at hw hl hd hi ⊢
  have hno : ∀ d ∈ loopsOf (loopC Tryz.f93 0), LoopOk Tryz.prog Tryz.f93.ntmps L0 d := by rw [show loopsOf (loopC Tryz.f93 0) = [] by kernel_rfl]; intro d hd; cases hd
  by_cases hlt : i < xs.length
  · have w3 : IntKind.wrap IntKind.i64 ((i : Int) + 1) = ((i + 1 : Nat) : Int) := by rw [wi64 _ (by omega) (by omega)]; omega
    have hg : (dgs (xs.length + 1) (nv xs % B ^ i * 2 ^ d)).getD i 0 = ((dg (nv xs % B ^ i * 2 ^ d) i : Nat) : Int) := dgs_getD _ _ _ (by omega)
    obtain ⟨hT, hTb⟩ := shl_wrap (dg_lt (nv xs) i) hd
    obtain ⟨m1, m2, _⟩ := shl_step (nv xs) i d hd
    have hlow : IntKind.wrap IntKind.u32 ((dg (nv xs) i * 2 ^ d : Nat) : Int) = ((dg (nv xs) i * 2 ^ d % B : Nat) : Int) := by rw [w32]; unfold B; omega
    have hor := or_nat (n := 32) (dg (nv xs % B ^ i * 2 ^ d) i) (dg (nv xs) i * 2 ^ d % B) (dg_lt _ _) (Nat.mod_lt _ (by decide))
    have hor2 : IntKind.wrap IntKind.u32 ((dg (nv xs % B ^ (i + 1) * 2 ^ d) i : Nat) : Int) = ((dg (nv xs % B ^ (i + 1) * 2 ^ d) i : Nat) : Int) := by
      have := dg_lt (nv xs % B ^ (i + 1) * 2 ^ d) i
      rw [w32]; unfold B at this; omega
    have hhi : IntKind.wrap IntKind.u32 (Int.fdiv ((dg (nv xs) i * 2 ^ d : Nat) : Int) ((2 : Int) ^ min (Int.toNat 32) (IntKind.bits IntKind.u64))) = ((dg (nv xs % B ^ (i + 1) * 2 ^ d) (i + 1) : Nat) : Int) := by
      rw [show ((2 : Int) ^ min (Int.toNat 32) (IntKind.bits IntKind.u64)) = 4294967296 from by decide, Int.fdiv_eq_ediv_of_nonneg _ (by decide), ← m2, w32]
      unfold B; omega
    refine (codeV_sound hmix E6ok.hS hno (loop93a ty xs d i) ?_).mono ?_
    · simp only [AllP, w3, Int.toNat_natCast, Nat.zero_add, dgs_length, List.length_set]
      simp; omega
    · rintro e s ⟨rfl, hs⟩
      refine .inl ⟨rfl, (ty, xs, d, i + 1), ⟨hw, hl, hd, by show i + 1 ≤ xs.length; omega⟩, by simp only; omega, ?_, rfl⟩
      have hd' : (Int.toNat (i : Int)) = i := Int.toNat_natCast i
      rw [w3] at hs
      rw [hd', show Int.toNat ((i + 1 : Nat) : Int) = i + 1 from Int.toNat_natCast _] at hs
      simp only [Nat.zero_add, nv_getD hw, hT, hlow, hg, hhi] at hs
      rw [show IntKind.bits IntKind.u32 = 32 from rfl, hor, m1, hor2, shl_dgs hd (by omega)] at hs
      exact hs
  · have : i = xs.length := by omega
    subst this
    refine (codeV_sound hmix E6ok.hS hno (loop93b ty xs d _) ?_).mono ?_
    · simp [AllP]
    · rintro e s ⟨rfl, hs⟩
      exact .inr ⟨rfl, hs⟩
/-- Shifted to the left, with one word more. -/
def spShl : Sp
  | [.one (.row .u32 xs), .one (.v (.int .i64 s))] => some (.s (roW (dgs (xs.length + 1) (nv xs * 2 ^ s.toNat))), [0 ≤ s ∧ s < 32, Words xs, xs.length < 137438953472])
  | _ => none
theorem con93 : Con Tryz.prog 93 spShl := by
  refine con_run (L := L93) (fn := Tryz.f93) hmix E6ok.hS lo93 (by kernel_rfl) (fun _ => by kernel_rfl) ?_
  intro avs r ps hsp hps
  unfold spShl at hsp
  split at hsp
  · rename_i xs s
    simp only [Option.some.injEq, Prod.mk.injEq] at hsp
    obtain ⟨rfl, rfl⟩ := hsp
    obtain ⟨hs, hw, hl, _⟩ := hps
    have w1 : IntKind.wrap IntKind.i64 ((xs.length : Int) + 1) = ((xs.length + 1 : Nat) : Int) := by rw [wi64 _ (by omega) (by omega)]; omega
    have ht : ∀ v, List.take (xs.length + 1) (dgs (xs.length + 1) v) = dgs (xs.length + 1) v := fun v => List.take_of_length_le (by rw [dgs_length]; exact Nat.le_refl _)
    refine ⟨rfl, _, _, _, _, run93 xs s, ?_, ?_⟩
    · simp only [List.drop_zero, ht, Nat.mod_eq_of_lt (nv_lt hw)]
      rfl
    · simp only [AllP, w1, dgs_length, Int.toNat_natCast]
      simp [hw, hs, hl]
      omega
  · cases hsp

theorem sub95 {st : St} {e : Ex} {s : St} {obs : List Prop} (h : F95 st = some (e, s, obs)) (hob : AllP obs) : ∃ x : TypeId × List Int × Nat × Nat, V93 x ∧ SubS st (I95 x.1 x.2.1 x.2.2.1 x.2.2.2) ∧ e = .exit 0 ∧ s = I95 x.1 x.2.1 x.2.2.1 x.2.1.length := by
  unfold F95 at h
  split at h
  · rename_i xs d len cap n i ty zs hz h1 h2 h3 h4 h5 h7
    simp only [Option.some.injEq, Prod.mk.injEq] at h
    obtain ⟨rfl, rfl, rfl⟩ := h
    obtain ⟨⟨hd0, hd⟩, rfl, rfl, rfl, rfl, rfl, hw, hl, _⟩ := hob
    obtain ⟨d, rfl⟩ := Int.eq_ofNat_of_zero_le hd0
    refine ⟨(ty, xs, d, 0), ⟨hw, hl, by show d < _; omega, Nat.zero_le _⟩, ⟨?_, ?_, ?_⟩, rfl, rfl⟩
    · intro p hp
      simp only [I95, List.mem_cons, List.not_mem_nil, or_false] at hp
      rcases hp with rfl | rfl | rfl | rfl | rfl <;> exact ⟨by assumption, rfl⟩
    · intro p hp
      simp only [I95, List.mem_cons, List.not_mem_nil, or_false, Z_zero] at hp
      subst hp
      exact ⟨by assumption, rfl⟩
    · rw [hz]; intro h; cases h
  · cases h
theorem or64 (a b : Nat) (ha : a < 4294967296) (hb : b < 4294967296) : IntKind.wrap IntKind.u64 ((BitVec.ofInt (IntKind.bits IntKind.u64) (IntKind.wrap IntKind.u64 (IntKind.wrap IntKind.u64 (a : Int) * (2 : Int) ^ min (Int.toNat 32) (IntKind.bits IntKind.u64))) ||| BitVec.ofInt (IntKind.bits IntKind.u64) (IntKind.wrap IntKind.u64 (b : Int))).toNat : Int) = ((a * 4294967296 + b : Nat) : Int) := by
  have hor := bv_or_add (a * 4294967296) b (by omega) (by omega) hb
  have h1 : IntKind.wrap IntKind.u64 (IntKind.wrap IntKind.u64 (a : Int) * (2 : Int) ^ min (Int.toNat 32) (IntKind.bits IntKind.u64)) = ((a * 4294967296 : Nat) : Int) := by
    rw [show ((2 : Int) ^ min (Int.toNat 32) (IntKind.bits IntKind.u64)) = 4294967296 from by decide, w64, w64]
    omega
  have h2 : IntKind.wrap IntKind.u64 (b : Int) = b := by rw [w64]; omega
  rw [h1, h2, show IntKind.bits IntKind.u64 = 64 from rfl, hor, w64]
  omega
theorem fdiv_shr (x s : Nat) (hs : s < 32) : Int.fdiv (x : Int) ((2 : Int) ^ min (Int.toNat (s : Int)) (IntKind.bits IntKind.u64)) = ((x / 2 ^ s : Nat) : Int) := by
  rw [show IntKind.bits IntKind.u64 = 64 from rfl, Int.toNat_natCast, show min s 64 = s by omega, Int.fdiv_eq_ediv_of_nonneg _ (Int.pow_nonneg (by decide))]
  push_cast
  rfl
theorem shr_wrap {a b s : Nat} (ha : a < B) (hb : b < B) (hs : s < 32) : IntKind.wrap IntKind.u32 (Int.fdiv (IntKind.wrap IntKind.u64 ((BitVec.ofInt (IntKind.bits IntKind.u64) (IntKind.wrap IntKind.u64 (IntKind.wrap IntKind.u64 (a : Int) * (2 : Int) ^ min (Int.toNat 32) (IntKind.bits IntKind.u64))) ||| BitVec.ofInt (IntKind.bits IntKind.u64) (IntKind.wrap IntKind.u64 (b : Int))).toNat : Int)) ((2 : Int) ^ min (Int.toNat (s : Int)) (IntKind.bits IntKind.u64))) = (((a * B + b) / 2 ^ s % B : Nat) : Int) := by
  rw [or64 a b ha hb, fdiv_shr _ _ hs, w32]
  exact (Int.natCast_emod _ _).symm
theorem lo95 : ∀ c ∈ loopsF Tryz.f95, LoopOk Tryz.prog Tryz.f95.ntmps L95 c := by
  rw [show loopsF Tryz.f95 = [loopC Tryz.f95 0] by kernel_rfl]
  intro c hc
  rw [List.mem_singleton] at hc
  subst hc
  refine loop_ok (k := 3) (f := F95) (α := TypeId × List Int × Nat × Nat) (by kernel_rfl) rfl (fun x => I95 x.1 x.2.1 x.2.2.1 x.2.2.2) (fun x => I95 x.1 x.2.1 x.2.2.1 x.2.1.length) V93 (fun x => x.2.1.length - x.2.2.2) (.exit 0) (by simp) (fun st e s obs h hob => sub95 h hob) ?_
  rintro ⟨ty, xs, d, i⟩ ⟨hw, hl, hd, hi⟩
  simp only at hw hl hd hi ⊢
  have hno : ∀ d ∈ loopsOf (loopC Tryz.f95 0), LoopOk Tryz.prog Tryz.f95.ntmps L0 d := by rw [show loopsOf (loopC Tryz.f95 0) = [] by kernel_rfl]; intro d hd; cases hd
  by_cases hlt : i < xs.length
  · have w3 : IntKind.wrap IntKind.i64 ((i : Int) + 1) = ((i + 1 : Nat) : Int) := by rw [wi64 _ (by omega) (by omega)]; omega
    have hZ : (o_Z xs.length (nv xs / 2 ^ d) i).length = xs.length := Z_length (by omega)
    have hT := shr_wrap (dg_lt (nv xs) (i + 1)) (dg_lt (nv xs) i) hd
    rw [shr_step _ _ _ hd] at hT
    refine (codeV_sound hmix E6ok.hS hno (loop95a ty xs d i) ?_).mono ?_
    · simp only [AllP, w3, Int.toNat_natCast, Nat.zero_add, hZ]
      simp; omega
    · rintro e s ⟨rfl, hs⟩
      refine .inl ⟨rfl, (ty, xs, d, i + 1), ⟨hw, hl, hd, by show i + 1 ≤ xs.length; omega⟩, by simp only; omega, ?_, rfl⟩
      have hd' : (Int.toNat (i : Int)) = i := Int.toNat_natCast i
      rw [w3] at hs
      rw [hd', show Int.toNat ((i + 1 : Nat) : Int) = i + 1 from Int.toNat_natCast _] at hs
      simp only [Nat.zero_add, nv_getD hw, hT, Z_set hlt] at hs
      exact hs
  · have : i = xs.length := by omega
    subst this
    refine (codeV_sound hmix E6ok.hS hno (loop95b ty xs d _) ?_).mono ?_
    · simp [AllP]
    · rintro e s ⟨rfl, hs⟩
      exact .inr ⟨rfl, hs⟩
def spShr : Sp
  | [.one (.row .u32 xs), .one (.v (.int .i64 s))] => some (.s (roW (enc (nv xs / 2 ^ s.toNat))), [0 ≤ s ∧ s < 32, Words xs, xs.length < 137438953472])
  | _ => none
theorem con95 : Con Tryz.prog 95 spShr := by
  refine con_run (L := L95) (fn := Tryz.f95) hmix E6ok.hS lo95 (by kernel_rfl) (fun _ => by kernel_rfl) ?_
  intro avs r ps hsp hps
  unfold spShr at hsp
  split at hsp
  · rename_i xs s
    simp only [Option.some.injEq, Prod.mk.injEq] at hsp
    obtain ⟨rfl, rfl⟩ := hsp
    obtain ⟨hs, hw, hl, _⟩ := hps
    have ht : ∀ v, List.take xs.length (dgs xs.length v) = dgs xs.length v := fun v => List.take_of_length_le (by rw [dgs_length]; exact Nat.le_refl _)
    have hlt : nv xs / 2 ^ s.toNat < B ^ xs.length := Nat.lt_of_le_of_lt (Nat.div_le_self _ _) (nv_lt hw)
    refine ⟨rfl, _, _, _, _, run95 xs s, ?_, ?_⟩
    · simp only [List.drop_zero, Z_full, ht, nv_dgs, Nat.mod_eq_of_lt hlt]
      rfl
    · simp only [AllP, List.drop_zero, Z_full, ht, dgs_length, Int.toNat_natCast]
      simp [hw, hs, hl, words_dgs]
      omega
  · cases hsp

def E7 : List (Nat × Ctr) := (93, .fn spShl) :: (95, .fn spShr) :: E6
theorem E7ok : EnvOk Tryz.prog E7 := .cons con93 (.cons con95 E6ok)

end Go.Proofs.YtkfdnpbpebmhaaaGreatDoor.Spec
namespace Go.Proofs.YtkfdnpbpebmhaaaGreatDoor.Spec
open Go Go.RowKit Sx Num

def fnMEx (P : Program) (S : FuncId → Option Ctr) (L : Loops) (G : Nat → Bool) (fuel : Nat) (fn : Func) (ty : TypeId) (k : EK) (xs : List Int) (off len cap : Nat) (avs : List SV) : Option (AV × List Int × List Prop) :=
  match fn.body with
  | some c => match codeEx P S L G fn.ntmps fuel c (initM ty k xs off len cap avs) with
    | some (.exit _, _, _) => none
    | some (_, st, obs) => match finEx P fn st, lk st.boxes 0 with
      | some (r, qs), some ⟨ty', .ints k' xs', true⟩ => bif eEq k' k then some (r, xs', (ty' = ty) :: (obs ++ qs)) else none
      | _, _ => none
    | none => none
  | none => none

theorem conM_runL {P : Program} {S : FuncId → Option Ctr} {f : FuncId} {fn : Func} {sm : SpM} (hm : P.follows .mixedOrders = true) (hS : ∀ f c, S f = some c → Cn P f c) (hf : P.funcs[f]? = some fn) (hent : ∀ args : Array Value, pureRun P (callFunc f args) = some (.enter f args))
    (h : ∀ k xs off len cap avs r xs' ps, sm k xs off len cap avs = some (r, xs', ps) → AllP ps → (Nat.ble (avs.length + 1) fn.ntmps && (avs.all (fun x => x.okB noB) && plainA r)) = true ∧ xs'.length = xs.length ∧
      ∀ ty, ∃ L, (∀ d ∈ loopsF fn, LoopOk P fn.ntmps L d) ∧ ∃ G fuel r' xs'' obs, fnMEx P S L G fuel fn ty k xs off len cap avs = some (r', xs'', obs) ∧ r' = r ∧ xs'' = xs' ∧ AllP obs) : ConM P f sm := by
  cases hc : fn.body with
  | none =>
    refine ⟨hent, fun k xs off len cap avs r xs' ps hsp hps => ?_, fun k xs off len cap avs r xs' ps hsp hps => (h _ _ _ _ _ _ _ _ _ hsp (allP_iff.2 hps)).2.1⟩
    obtain ⟨_, _, h3⟩ := h _ _ _ _ _ _ _ _ _ hsp (allP_iff.2 hps)
    obtain ⟨L, _, G, fuel, r', xs'', obs, he, _⟩ := h3 0
    simp [fnMEx, hc] at he
  | some c =>
    refine conM_of_WX hf hc hent (fun k xs off len cap avs r xs' ps hsp hps ty => ?_) fun k xs off len cap avs r xs' ps hsp hps => (h _ _ _ _ _ _ _ _ _ hsp (allP_iff.2 hps)).2.1
    obtain ⟨h1, _, h3⟩ := h _ _ _ _ _ _ _ _ _ hsp (allP_iff.2 hps)
    obtain ⟨L, hL, G, fuel, r', xs'', obs, he, rfl, rfl, hob⟩ := h3 ty
    simp only [Bool.and_eq_true] at h1
    refine ⟨Nat.le_of_ble_eq_true h1.1, h1.2.1, h1.2.2, ?_⟩
    have hok : ∀ d ∈ loopsOf c, LoopOk P fn.ntmps L d := fun d hd => hL d (by unfold loopsF; rw [hc]; exact hd)
    unfold fnMEx at he
    rw [hc] at he
    simp only at he
    split at he
    · cases he
    · rename_i e st obs' hne hce
      split at he
      · rename_i rq qs ty' k' xq hfin hbx
        rw [Bool.cond_eq_ite] at he
        split at he
        · rename_i hk
          simp only [Option.some.injEq, Prod.mk.injEq] at he
          obtain ⟨rfl, rfl, rfl⟩ := he
          obtain ⟨rfl, hob'⟩ := hob
          have hob' := allP_iff.1 hob'
          have hk := eEq_iff.1 hk
          subst hk
          refine (codeEx_sound hm hS hok hce fun p hp => hob' p (List.mem_append.2 (.inl hp))).mono ?_
          rintro e' s ⟨rfl, rfl⟩
          refine ⟨?_, ⟨qs, hfin, fun p hp => hob' p (List.mem_append.2 (.inr hp))⟩, hbx⟩
          cases e' with
          | normal => exact .inr rfl
          | ret => exact .inl rfl
          | exit id => exact (hne id rfl).elim
        · cases he
      · cases he
    · cases he

/-- The run of a function that answers with a new slice. -/
def fnFEx (P : Program) (S : FuncId → Option Ctr) (L : Loops) (G : Nat → Bool) (fuel : Nat) (fn : Func) (avs : List SV) : Option (TypeId × EK × List Int × List Prop) :=
  match fn.body with
  | some c => match codeEx P S L G fn.ntmps fuel c (initSt avs) with
    | some (.exit _, _, _) => none
    | some (_, st, obs) => match fn.results.toList with
      | [.tmp t] => match lk st.tmps t with
        | some (.s (.one (.sl id off len cap))) => match lk st.boxes id with
          | some ⟨ty, .ints k xs, _⟩ => some (ty, k, xs, obs ++ [off = 0 ∧ len = xs.length ∧ cap = xs.length])
          | _ => none
        | _ => none
      | _ => none
    | none => none
  | none => none
theorem conF_runL {P : Program} {S : FuncId → Option Ctr} {f : FuncId} {fn : Func} {sf : SpF} (hm : P.follows .mixedOrders = true) (hS : ∀ f c, S f = some c → Cn P f c) (hf : P.funcs[f]? = some fn) (hent : ∀ args : Array Value, pureRun P (callFunc f args) = some (.enter f args))
    (h : ∀ avs ty k xs ps, sf avs = some (ty, k, xs, ps) → AllP ps → (Nat.ble avs.length fn.ntmps && avs.all fun x => x.okB noB) = true ∧ ∃ L, (∀ d ∈ loopsF fn, LoopOk P fn.ntmps L d) ∧ ∃ G fuel ty' k' xs' obs, fnFEx P S L G fuel fn avs = some (ty', k', xs', obs) ∧ ty' = ty ∧ k' = k ∧ xs' = xs ∧ AllP obs) : ConF P f sf := by
  refine ⟨hent, fun avs ty k xs ps hsp hps M β w vs hM hg => ?_⟩
  obtain ⟨h1, L, hL, G, fuel, ty', k', xs', obs, he, rfl, rfl, rfl, hob⟩ := h avs ty k xs ps hsp (allP_iff.2 hps)
  simp only [Bool.and_eq_true] at h1
  have hnt := Nat.le_of_ble_eq_true h1.1
  have hok := h1.2
  unfold fnFEx at he
  split at he
  · rename_i c hc
    split at he
    · cases he
    · rename_i e st obs' hne hce
      split at he
      · rename_i t hres
        split at he
        · rename_i id off len cap hlk
          split at he
          · rename_i ty k xs mu hbx
            simp only [Option.some.injEq, Prod.mk.injEq] at he
            obtain ⟨rfl, rfl, rfl, rfl⟩ := he
            have hob' := allP_iff.1 hob
            obtain ⟨rfl, rfl, rfl⟩ := hob' _ (List.mem_append.2 (.inr (List.mem_singleton.2 rfl)))
            refine calls_of_wp hf hc ?_
            have hlen : vs.size = avs.length := by simpa using hg.length
            have hM0 : ∀ b, Mof M β [] b ↔ M b := fun b => ⟨fun h => h.elim (fun h => h) (fun ⟨i, x, hi, _⟩ => by simp [lk] at hi), .inl⟩
            have hmv : Moves M (Mof M β []) w w := ⟨Nat.le_refl _, fun b _ hb => ⟨rfl, fun h => hb ((hM0 b).1 h)⟩, fun _ cur _ h => ⟨cur, h, rfl⟩⟩
            have hΓ : Gm M w.heap.size (fun _ => False) fn.ntmps β (initSt avs) { tmps := vs ++ Array.replicate (fn.ntmps - vs.size) undef, defers := [] } w := by
              refine ⟨rfl, by simp; omega, fun t x hx => ?_, fun i b hi => by simp [initSt, lk] at hi, fun i j hi => by simp [initSt, liv, lk] at hi, fun i hi => by simp [initSt, liv, lk] at hi, hM, fun _ _ h => h, fun _ h => h.elim, Nat.le_refl _⟩
              obtain ⟨y, rfl, _, hy⟩ := lk_from avs 0 t x hx
              rw [Nat.sub_zero] at hy
              have hty : t < avs.length := (List.getElem?_eq_some_iff.1 hy).1
              obtain ⟨u, hu, hgu⟩ := hg.get t y hy
              have hoky : y.okB noB = true := List.all_eq_true.1 hok y (List.mem_of_getElem? hy)
              refine ⟨by omega, okB_mono_S (fun i hi => by cases hi) hoky, ?_⟩
              have hget : (vs ++ Array.replicate (fn.ntmps - vs.size) undef).getD t undef = u := by
                have : vs[t]? = some u := by simpa using hu
                simp only [Array.getD_eq_getD_getElem?, Array.getElem?_append_left (show t < vs.size by omega), this, Option.getD_some]
              show gA (Mof M β []) β w (.s y) _
              rw [hget]
              exact gS.moves hgu hmv hoky (fun _ _ => rfl)
            refine codeEx_sound hm hS (fun d hd => hL d (by unfold loopsF; rw [hc]; exact hd)) hce (fun p hp => hob' p (List.mem_append.2 (.inl hp))) M w.heap.size _ β _ w _ hΓ ?_
            rintro e' s β' a' w' ⟨rfl, rfl⟩ hb hΓ'
            have hres' : fn.results = #[.tmp t] := by
              obtain ⟨l, hl⟩ : ∃ l, fn.results = l.toArray := ⟨fn.results.toList, by simp⟩
              rw [hl] at hres ⊢; simpa using hres
            have hu : a'.tmps.getD t undef = .slice (some ⟨β' id, 0, none⟩) xs.length xs.length := (hΓ'.tmps t _ hlk).2.2
            obtain ⟨_, arr, harr, hl⟩ := hΓ'.boxes id _ hbx
            have hrun : (results fn a'.tmps).run P w' = .ok (.slice (some ⟨β' id, 0, none⟩) xs.length xs.length) w' := by
              unfold results
              simp [hres']
              rw [← Array.getD_eq_getD_getElem?]
              exact hu
            have hge : w.heap.size ≤ β' id := by
              rcases hΓ'.ge id (liv_iff.2 ⟨_, hbx⟩) with h | h
              · exact h
              · exact h.elim
            have hfin : ∃ (g : Nat) (arr : Array Value), (Ending.returned (.slice (some ⟨β' id, 0, none⟩) xs.length xs.length)) = .returned (.slice (some ⟨g, 0, none⟩) xs.length xs.length) ∧ w.heap.size ≤ g ∧ w'.heap[g]? = some (.cells arr ty (0, 0)) ∧ arr.toList = xs.map (mkV k) ∧ Below w.heap.size w w' := ⟨_, arr, rfl, hge, harr, hl, hb.below fun _ h => h⟩
            cases e' with
            | normal => exact ⟨hΓ'.def_, _, hrun, hfin⟩
            | ret => exact ⟨hΓ'.def_, _, hrun, hfin⟩
            | exit id => exact (hne id rfl).elim
          · cases he
        · cases he
      · cases he
    · cases he
  · cases he

/-- nil as a row of no word. -/
def fixL : LV → LV
  | .v (.slice none 0 0) => .row .u32 []
  | l => l
def fixS : SV → SV
  | .one l => .one (fixL l)
  | .agg ls => .agg (ls.map fixL)
  | .abs zs => .abs zs
def fixA : AV → AV
  | .s x => .s (fixS x)
  | .tup xs => .tup (xs.map fixS)
theorem fixL_g {M : Nat → Prop} {β : Nat → Nat} {w : World} {l : LV} {u : Value} (h : gL M β w l u) : gL M β w (fixL l) u := by
  unfold fixL
  split
  · have h : u = .slice none 0 0 := h
    subst h
    exact ⟨none, 0, rfl, Nat.le_refl _, by simp, fun _ _ h => by simp at h⟩
  · exact h
theorem fixLs_g {M : Nat → Prop} {β : Nat → Nat} {w : World} : ∀ {ls : List LV} {us : List Value}, gLs M β w ls us → gLs M β w (ls.map fixL) us
  | [], [], _ => trivial
  | _l :: _ls, _u :: _us, h => ⟨fixL_g h.1, fixLs_g h.2⟩
  | [], _ :: _, h => h.elim
  | _ :: _, [], h => h.elim
theorem fixS_g {M : Nat → Prop} {β : Nat → Nat} {w : World} {x : SV} {u : Value} (h : gS M β w x u) : gS M β w (fixS x) u := by
  cases x with
  | one l => exact fixL_g h
  | agg ls => obtain ⟨arr, e, h⟩ := h; exact ⟨arr, e, fixLs_g h⟩
  | abs zs => exact h
theorem fixSs_g {M : Nat → Prop} {β : Nat → Nat} {w : World} : ∀ {xs : List SV} {us : List Value}, gSs M β w xs us → gSs M β w (xs.map fixS) us
  | [], [], _ => trivial
  | _l :: _ls, _u :: _us, h => ⟨fixS_g h.1, fixSs_g h.2⟩
  | [], _ :: _, h => h.elim
  | _ :: _, [], h => h.elim
theorem fixA_g {M : Nat → Prop} {β : Nat → Nat} {w : World} {x : AV} {u : Value} (h : gA M β w x u) : gA M β w (fixA x) u := by
  cases x with
  | s x => exact fixS_g h
  | tup xs => obtain ⟨arr, e, h⟩ := h; exact ⟨arr, e, fixSs_g h⟩
theorem fixL_ok {n : Nat → Bool} {l : LV} (h : l.okB n = true) : (fixL l).okB n = true := by
  unfold fixL; split
  · rfl
  · exact h
theorem fixS_ok {n : Nat → Bool} {x : SV} (h : x.okB n = true) : (fixS x).okB n = true := by
  cases x with
  | one l => exact fixL_ok h
  | agg ls =>
    simp only [fixS, SV.okB, okLs, List.all_map] at h ⊢
    rw [List.all_eq_true] at h ⊢
    exact fun l hl => fixL_ok (h l hl)
  | abs zs => rfl
theorem fixA_ok {n : Nat → Bool} {x : AV} (h : x.okB n = true) : (fixA x).okB n = true := by
  cases x with
  | s x => exact fixS_ok h
  | tup xs =>
    simp only [fixA, AV.okB, List.all_map] at h ⊢
    rw [List.all_eq_true] at h ⊢
    exact fun l hl => fixS_ok (h l hl)
/-- Arguments that are nil go as rows of no word. -/
def nilOk (sp : Sp) : Sp := fun avs => sp (avs.map fixS)
theorem con_nil {P : Program} {f : FuncId} {sp : Sp} (h : Con P f sp) : Con P f (nilOk sp) :=
  ⟨h.enters, fun avs r ps hs hp M β w vs hM hg => h.calls (avs.map fixS) r ps hs hp M β w vs hM (fixSs_g hg)⟩
/-- Answers that are nil, too. -/
def nilAns (sp : Sp) : Sp := fun avs => (sp avs).map fun (r, ps) => (fixA r, ps)
theorem con_ans {P : Program} {f : FuncId} {sp : Sp} (h : Con P f sp) : Con P f (nilAns sp) :=
  ⟨h.enters, fun avs r ps hs hp M β w vs hM hg => by
    unfold nilAns at hs
    obtain ⟨⟨r0, qs⟩, h1, h2⟩ := Option.map_eq_some_iff.1 hs
    simp only [Prod.mk.injEq] at h2
    obtain ⟨rfl, rfl⟩ := h2
    exact (h.calls avs r0 qs h1 hp M β w vs hM hg).mono fun e w' ⟨u, he, hok, hgu, hb⟩ => ⟨u, he, fixA_ok hok, fixA_g hgu, hb⟩⟩
/-- One of two contracts, by the arguments. -/
theorem con_cases {P : Program} {f : FuncId} {sp1 sp2 sp : Sp} (h1 : Con P f sp1) (h2 : Con P f sp2) (h : ∀ avs r ps, sp avs = some (r, ps) → AllP ps → (∃ qs, sp1 avs = some (r, qs) ∧ AllP qs) ∨ (∃ qs, sp2 avs = some (r, qs) ∧ AllP qs)) : Con P f sp :=
  ⟨h1.enters, fun avs r ps hs hp M β w vs hM hg => by
    rcases h avs r ps hs (allP_iff.2 hp) with ⟨qs, e1, e2⟩ | ⟨qs, e1, e2⟩
    · exact h1.calls avs r qs e1 (allP_iff.1 e2) M β w vs hM hg
    · exact h2.calls avs r qs e1 (allP_iff.1 e2) M β w vs hM hg⟩

end Go.Proofs.YtkfdnpbpebmhaaaGreatDoor.Spec
namespace Go.Proofs.YtkfdnpbpebmhaaaGreatDoor.Num
open Go.Proofs.YtkfdnpbpebmhaaaGreatDoor.Spec
/-- The number in a window. -/
def o_u (zs : List Int) (off n : Nat) : Nat := nv (o_part zs off n)
/-- The estimate's three words. -/
def o_red2 (U V n q r : Nat) : Nat := o_red (dg V (n - 1)) (dg V (n - 2)) (dg U (n - 2)) q r
def o_gue2 (U V n q r : Nat) : Nat := o_gue (dg V (n - 1)) (dg V (n - 2)) (dg U (n - 2)) q r
end Go.Proofs.YtkfdnpbpebmhaaaGreatDoor.Num
namespace Go.Proofs.YtkfdnpbpebmhaaaGreatDoor.Spec
open Go Go.RowKit Sx Num

def I94a (ty : TypeId) (zs : List Int) (off cap : Nat) (ys : List Int) (q r : Nat) : St :=
  ⟨[(0, .s (slW 0 off (ys.length + 1) cap)), (1, .s (roW ys)), (5, .s (num ys.length)), (6, .s (u64 q)), (9, .s (u64 r))], [(0, box32 ty zs)]⟩
def J94a (ty : TypeId) (zs : List Int) (off cap : Nat) (ys : List Int) (q r : Nat) : St :=
  ⟨[(0, .s (slW 0 off (ys.length + 1) cap)), (1, .s (roW ys)), (5, .s (num ys.length)), (6, .s (u64 ((o_red2 (o_u zs off (ys.length + 1)) (nv ys) ys.length q r : Nat))))], [(0, box32 ty zs)]⟩
def F94a (st : St) : Option (Ex × St × List Prop) :=
  match lk st.tmps 0, lk st.tmps 1, lk st.tmps 5, lk st.tmps 6, lk st.tmps 9, lk st.boxes 0 with
  | some (.s (.one (.sl 0 off len cap))), some (.s (.one (.row .u32 ys))), some (.s (.one (.v (.int .i64 n)))), some (.s (.one (.v (.int .u64 q)))), some (.s (.one (.v (.int .u64 r)))), some ⟨ty, .ints .u32 zs, true⟩ =>
    some (.exit 0, J94a ty zs off cap ys q.toNat r.toNat, [len = ys.length + 1, n = ys.length, 0 ≤ q ∧ q < 4294967296, 0 ≤ r ∧ r < 4294967296, off + (ys.length + 1) ≤ zs.length, Words zs, Words ys, 2 ≤ ys.length, ys.length < 137438953472])
  | _, _, _, _, _, _ => none
def I94b (ty : TypeId) (zs : List Int) (off cap : Nat) (ys : List Int) (q i : Nat) : St :=
  ⟨[(0, .s (slW 0 off (ys.length + 1) cap)), (1, .s (roW ys)), (6, .s (u64 q)), (10, .s (u64 ((o_cm q (nv ys) i : Nat)))), (11, .s (u32 ((o_bw (o_u zs off (ys.length + 1)) (q * nv ys) i : Nat)))), (82, .s (num ((ys.length + 1 : Nat) : Int))), (83, .s (num i))],
   [(0, box32 ty (o_win zs off (o_mix (ys.length + 1) (o_u zs off (ys.length + 1) + B ^ (ys.length + 1) - q * nv ys) (o_u zs off (ys.length + 1)) i)))]⟩
def F94b (st : St) : Option (Ex × St × List Prop) :=
  match lk st.tmps 0, lk st.tmps 1, lk st.tmps 6, lk st.tmps 10, lk st.tmps 11, lk st.tmps 82, lk st.tmps 83, lk st.boxes 0 with
  | some (.s (.one (.sl 0 off len cap))), some (.s (.one (.row .u32 ys))), some (.s (.one (.v (.int .u64 q)))), some (.s (.one (.v (.int .u64 c)))), some (.s (.one (.v (.int .u32 b)))), some (.s (.one (.v (.int .i64 n)))), some (.s (.one (.v (.int .i64 i)))), some ⟨ty, .ints .u32 zs, true⟩ =>
    some (.exit 2, I94b ty zs off cap ys q.toNat (ys.length + 1), [len = ys.length + 1, 0 ≤ q ∧ q < 4294967296, c = 0, b = 0, n = ys.length + 1, i = 0, off + (ys.length + 1) ≤ zs.length, Words zs, Words ys, ys.length < 137438953472])
  | _, _, _, _, _, _, _, _ => none
def I94d (ty : TypeId) (zs : List Int) (off cap : Nat) (ys : List Int) (q c : Int) (i : Nat) : St :=
  ⟨[(0, .s (slW 0 off (ys.length + 1) cap)), (1, .s (roW ys)), (6, .s (u64 q)), (11, .s (u32 c)), (13, .s (u32 ((o_cy (o_u zs off (ys.length + 1)) (nv ys) i : Nat)))), (116, .s (num ((ys.length + 1 : Nat) : Int))), (117, .s (num i))],
   [(0, box32 ty (o_win zs off (o_mix (ys.length + 1) (o_u zs off (ys.length + 1) + nv ys) (o_u zs off (ys.length + 1)) i)))]⟩
def F94d (st : St) : Option (Ex × St × List Prop) :=
  match lk st.tmps 0, lk st.tmps 1, lk st.tmps 6, lk st.tmps 11, lk st.tmps 13, lk st.tmps 116, lk st.tmps 117, lk st.boxes 0 with
  | some (.s (.one (.sl 0 off len cap))), some (.s (.one (.row .u32 ys))), some (.s (.one (.v (.int .u64 q)))), some (.s (.one (.v (.int .u32 c)))), some (.s (.one (.v (.int .u32 b)))), some (.s (.one (.v (.int .i64 n)))), some (.s (.one (.v (.int .i64 i)))), some ⟨ty, .ints .u32 zs, true⟩ =>
    some (.exit 6, I94d ty zs off cap ys q c (ys.length + 1), [len = ys.length + 1, b = 0, n = ((ys.length + 1 : Nat) : Int), i = 0, off + (ys.length + 1) ≤ zs.length, Words zs, Words ys, ys.length < 137438953472])
  | _, _, _, _, _, _, _, _ => none
def L94d : Loops := fun k => bif Nat.beq k 23 then some F94d else none
def I94c (ty : TypeId) (zs : List Int) (off cap : Nat) (ys : List Int) (q : Nat) : St :=
  ⟨[(0, .s (slW 0 off (ys.length + 1) cap)), (1, .s (roW ys)), (6, .s (u64 q)), (11, .s (u32 ((if o_u zs off (ys.length + 1) < q * nv ys then (1 : Nat) else 0 : Nat))))],
   [(0, box32 ty (o_win zs off (dgs (ys.length + 1) (o_u zs off (ys.length + 1) + B ^ (ys.length + 1) - q * nv ys))))]⟩
def J94c (ty : TypeId) (zs : List Int) (off : Nat) (ys : List Int) : St :=
  ⟨[(6, .s (u64 ((o_u zs off (ys.length + 1) / nv ys : Nat))))], [(0, box32 ty (o_win zs off (dgs (ys.length + 1) (o_u zs off (ys.length + 1) % nv ys))))]⟩
def F94c (zs : List Int) (st : St) : Option (Ex × St × List Prop) :=
  match lk st.tmps 0, lk st.tmps 1, lk st.tmps 6, lk st.tmps 11, lk st.boxes 0 with
  | some (.s (.one (.sl 0 off len _cap))), some (.s (.one (.row .u32 ys))), some (.s (.one (.v (.int .u64 q)))), some (.s (.one (.v (.int .u32 b)))), some ⟨ty, .ints .u32 zs', true⟩ =>
    some (.exit 4, J94c ty zs off ys, [len = ys.length + 1, 0 ≤ q ∧ q < 4294967296, ((o_u zs off (ys.length + 1) / nv ys : Nat) : Int) ≤ q, b = ((if o_u zs off (ys.length + 1) < q.toNat * nv ys then (1 : Nat) else 0 : Nat) : Int), zs' = o_win zs off (dgs (ys.length + 1) (o_u zs off (ys.length + 1) + B ^ (ys.length + 1) - q.toNat * nv ys)),
      off + (ys.length + 1) ≤ zs.length, Words zs, Words ys, 0 < nv ys, ys.length < 137438953472])
  | _, _, _, _, _ => none
def L94 (zs : List Int) : Loops := fun k => bif Nat.beq k 7 then some F94a else bif Nat.beq k 13 then some F94b else bif Nat.beq k 19 then some (F94c zs) else bif Nat.beq k 23 then some F94d else none

def I113 (us ys : List Int) (q r : Nat) : St := ⟨[(0, .s (roW us)), (1, .s (roW ys)), (5, .s (num ys.length)), (7, .s (u64 q)), (8, .s (u64 r))], []⟩
def F113 (st : St) : Option (Ex × St × List Prop) :=
  match liv st.boxes 0, lk st.tmps 0, lk st.tmps 1, lk st.tmps 5, lk st.tmps 7, lk st.tmps 8 with
  | false, some (.s (.one (.row .u32 us))), some (.s (.one (.row .u32 ys))), some (.s (.one (.v (.int .i64 n)))), some (.s (.one (.v (.int .u64 q)))), some (.s (.one (.v (.int .u64 r)))) =>
    some (.exit 0, ⟨[(7, .s (u64 ((o_gue2 (nv us) (nv ys) ys.length q.toNat r.toNat : Nat))))], []⟩, [n = ys.length, 0 ≤ q ∧ q < 18446744073709551616, 0 ≤ r ∧ r < 4294967296, us.length = ys.length + 1, 2 ≤ ys.length, Words us, Words ys, ys.length < 137438953472])
  | _, _, _, _, _, _ => none
def L113 : Loops := fun k => bif Nat.beq k 5 then some F113 else none
def I114 (ty : TypeId) (zs : List Int) (off cap : Nat) (ys : List Int) (q i : Nat) : St :=
  ⟨[(0, .s (slW 0 off (ys.length + 1) cap)), (1, .s (roW ys)), (2, .s (u64 q)), (7, .s (u64 ((o_cm q (nv ys) i : Nat)))), (8, .s (u64 ((o_bw (o_u zs off (ys.length + 1)) (q * nv ys) i : Nat)))), (9, .s (num i))],
   [(0, box32 ty (o_win zs off (o_mix (ys.length + 1) (o_u zs off (ys.length + 1) + B ^ (ys.length + 1) - q * nv ys) (o_u zs off (ys.length + 1)) i)))]⟩
def F114 (st : St) : Option (Ex × St × List Prop) :=
  match lk st.tmps 0, lk st.tmps 1, lk st.tmps 2, lk st.tmps 7, lk st.tmps 8, lk st.tmps 9, lk st.boxes 0 with
  | some (.s (.one (.sl 0 off len cap))), some (.s (.one (.row .u32 ys))), some (.s (.one (.v (.int .u64 q)))), some (.s (.one (.v (.int .u64 c)))), some (.s (.one (.v (.int .u64 b)))), some (.s (.one (.v (.int .i64 i)))), some ⟨ty, .ints .u32 zs, true⟩ =>
    some (.exit 0, I114 ty zs off cap ys q.toNat (ys.length + 1), [len = ys.length + 1, 0 ≤ q ∧ q < 4294967296, c = 0, b = 0, i = 0, off + (ys.length + 1) ≤ zs.length, Words zs, Words ys, ys.length < 137438953472])
  | _, _, _, _, _, _, _ => none
def L114 : Loops := fun k => bif Nat.beq k 4 then some F114 else none
def I115 (ty : TypeId) (zs : List Int) (off cap : Nat) (ys : List Int) (i : Nat) : St :=
  ⟨[(0, .s (slW 0 off (ys.length + 1) cap)), (1, .s (roW ys)), (4, .s (u64 ((o_cy (o_u zs off (ys.length + 1)) (nv ys) i : Nat)))), (5, .s (num i))],
   [(0, box32 ty (o_win zs off (o_mix (ys.length + 1) (o_u zs off (ys.length + 1) + nv ys) (o_u zs off (ys.length + 1)) i)))]⟩
def F115 (st : St) : Option (Ex × St × List Prop) :=
  match lk st.tmps 0, lk st.tmps 1, lk st.tmps 4, lk st.tmps 5, lk st.boxes 0 with
  | some (.s (.one (.sl 0 off len cap))), some (.s (.one (.row .u32 ys))), some (.s (.one (.v (.int .u64 c)))), some (.s (.one (.v (.int .i64 i)))), some ⟨ty, .ints .u32 zs, true⟩ =>
    some (.exit 0, I115 ty zs off cap ys (ys.length + 1), [len = ys.length + 1, c = 0, i = 0, off + (ys.length + 1) ≤ zs.length, Words zs, Words ys, ys.length < 137438953472])
  | _, _, _, _, _ => none
def L115 : Loops := fun k => bif Nat.beq k 2 then some F115 else none

end Go.Proofs.YtkfdnpbpebmhaaaGreatDoor.Spec
section
set_option maxRecDepth 100000
namespace Go.Proofs.YtkfdnpbpebmhaaaGreatDoor.Spec
open Go Go.RowKit Sx Num

theorem loop94aa (ty : TypeId) (zs : List Int) (off cap : Nat) (ys : List Int) (q r : Nat) : codeV Tryz.prog (lk E7) L0 (G1 []) Tryz.f94.ntmps 60 (loopC Tryz.f94 0) [0, 1, 5, 6, 9] [0] (I94a ty zs off cap ys q r) = some (Ex.normal, { tmps := [((0 : Nat), AV.s (SV.one (LV.sl (0 : Nat) off (List.length ys + (1 : Nat)) cap))), ((1 : Nat), AV.s (SV.one (LV.row EK.u32 ys))), ((5 : Nat), AV.s (SV.one (LV.v (Value.int IntKind.i64 (↑(List.length ys) : Int))))), ((6 : Nat), AV.s (SV.one (LV.v (Value.int IntKind.u64 (IntKind.wrap IntKind.u64 ((↑q : Int) - (1 : Int))))))), ((9 : Nat), AV.s (SV.one (LV.v (Value.int IntKind.u64 (IntKind.wrap IntKind.u64 ((↑r : Int) + IntKind.wrap IntKind.u64 (List.getD ys (Int.toNat (IntKind.wrap IntKind.i64 ((↑(List.length ys) : Int) - (1 : Int)))) (0 : Int))))))))], boxes := [((0 : Nat), { ty := ty, bc := BC.ints EK.u32 zs, mut_ := true })] }, [decide ((↑r : Int) ≤ (4294967295 : Int)) = true, decide ((↑r : Int) ≤ (4294967295 : Int)) = true, decide ((↑r : Int) ≤ (4294967295 : Int)) = true, decide ((↑r : Int) ≤ (4294967295 : Int)) = true, decide ((↑r : Int) ≤ (4294967295 : Int)) = true, (0 : Int) ≤ IntKind.wrap IntKind.i64 ((↑(List.length ys) : Int) - (2 : Int)) ∧ IntKind.wrap IntKind.i64 ((↑(List.length ys) : Int) - (2 : Int)) < (↑(List.length ys) : Int), decide ((↑r : Int) ≤ (4294967295 : Int)) = true, decide ((↑r : Int) ≤ (4294967295 : Int)) = true, decide ((↑r : Int) ≤ (4294967295 : Int)) = true, decide ((↑r : Int) ≤ (4294967295 : Int)) = true, decide ((↑r : Int) ≤ (4294967295 : Int)) = true, (0 : Int) ≤ (32 : Int), decide ((↑r : Int) ≤ (4294967295 : Int)) = true, decide ((↑r : Int) ≤ (4294967295 : Int)) = true, decide ((↑r : Int) ≤ (4294967295 : Int)) = true, decide ((↑r : Int) ≤ (4294967295 : Int)) = true, (0 : Int) ≤ IntKind.wrap IntKind.i64 ((↑(List.length ys) : Int) - (2 : Int)) ∧ IntKind.wrap IntKind.i64 ((↑(List.length ys) : Int) - (2 : Int)) < (↑(List.length ys + (1 : Nat)) : Int), decide ((↑r : Int) ≤ (4294967295 : Int)) = true, off + Int.toNat (IntKind.wrap IntKind.i64 ((↑(List.length ys) : Int) - (2 : Int))) < List.length zs, decide ((↑r : Int) ≤ (4294967295 : Int)) = true, decide ((↑r : Int) ≤ (4294967295 : Int)) = true, decide ((↑r : Int) ≤ (4294967295 : Int)) = true, decide ((↑r : Int) ≤ (4294967295 : Int)) = true, decide (IntKind.wrap IntKind.u64 (↑(BitVec.toNat (BitVec.ofInt (IntKind.bits IntKind.u64) (IntKind.wrap IntKind.u64 ((↑r : Int) * (2 : Int) ^ min (Int.toNat (32 : Int)) (IntKind.bits IntKind.u64))) ||| BitVec.ofInt (IntKind.bits IntKind.u64) (IntKind.wrap IntKind.u64 (List.getD zs (off + Int.toNat (IntKind.wrap IntKind.i64 ((↑(List.length ys) : Int) - (2 : Int)))) (0 : Int))))) : Int) < IntKind.wrap IntKind.u64 ((↑q : Int) * IntKind.wrap IntKind.u64 (List.getD ys (Int.toNat (IntKind.wrap IntKind.i64 ((↑(List.length ys) : Int) - (2 : Int)))) (0 : Int)))) = true, (0 : Int) ≤ IntKind.wrap IntKind.i64 ((↑(List.length ys) : Int) - (1 : Int)) ∧ IntKind.wrap IntKind.i64 ((↑(List.length ys) : Int) - (1 : Int)) < (↑(List.length ys) : Int)]) := by kernel_rfl
theorem loop94ab (ty : TypeId) (zs : List Int) (off cap : Nat) (ys : List Int) (q r : Nat) : codeV Tryz.prog (lk E7) L0 (G1 [70]) Tryz.f94.ntmps 60 (loopC Tryz.f94 0) [0, 1, 5, 6] [0] (I94a ty zs off cap ys q r) = some (Ex.exit (0 : Nat), { tmps := [((0 : Nat), AV.s (SV.one (LV.sl (0 : Nat) off (List.length ys + (1 : Nat)) cap))), ((1 : Nat), AV.s (SV.one (LV.row EK.u32 ys))), ((5 : Nat), AV.s (SV.one (LV.v (Value.int IntKind.i64 (↑(List.length ys) : Int))))), ((6 : Nat), AV.s (SV.one (LV.v (Value.int IntKind.u64 (↑q : Int)))))], boxes := [((0 : Nat), { ty := ty, bc := BC.ints EK.u32 zs, mut_ := true })] }, [decide ((↑r : Int) ≤ (4294967295 : Int)) = true, decide ((↑r : Int) ≤ (4294967295 : Int)) = true, decide ((↑r : Int) ≤ (4294967295 : Int)) = true, decide ((↑r : Int) ≤ (4294967295 : Int)) = true, decide ((↑r : Int) ≤ (4294967295 : Int)) = true, (0 : Int) ≤ IntKind.wrap IntKind.i64 ((↑(List.length ys) : Int) - (2 : Int)) ∧ IntKind.wrap IntKind.i64 ((↑(List.length ys) : Int) - (2 : Int)) < (↑(List.length ys) : Int), decide ((↑r : Int) ≤ (4294967295 : Int)) = true, decide ((↑r : Int) ≤ (4294967295 : Int)) = true, decide ((↑r : Int) ≤ (4294967295 : Int)) = true, decide ((↑r : Int) ≤ (4294967295 : Int)) = true, decide ((↑r : Int) ≤ (4294967295 : Int)) = true, (0 : Int) ≤ (32 : Int), decide ((↑r : Int) ≤ (4294967295 : Int)) = true, decide ((↑r : Int) ≤ (4294967295 : Int)) = true, decide ((↑r : Int) ≤ (4294967295 : Int)) = true, decide ((↑r : Int) ≤ (4294967295 : Int)) = true, (0 : Int) ≤ IntKind.wrap IntKind.i64 ((↑(List.length ys) : Int) - (2 : Int)) ∧ IntKind.wrap IntKind.i64 ((↑(List.length ys) : Int) - (2 : Int)) < (↑(List.length ys + (1 : Nat)) : Int), decide ((↑r : Int) ≤ (4294967295 : Int)) = true, off + Int.toNat (IntKind.wrap IntKind.i64 ((↑(List.length ys) : Int) - (2 : Int))) < List.length zs, decide ((↑r : Int) ≤ (4294967295 : Int)) = true, decide ((↑r : Int) ≤ (4294967295 : Int)) = true, decide ((↑r : Int) ≤ (4294967295 : Int)) = true, decide ((↑r : Int) ≤ (4294967295 : Int)) = true, decide (IntKind.wrap IntKind.u64 (↑(BitVec.toNat (BitVec.ofInt (IntKind.bits IntKind.u64) (IntKind.wrap IntKind.u64 ((↑r : Int) * (2 : Int) ^ min (Int.toNat (32 : Int)) (IntKind.bits IntKind.u64))) ||| BitVec.ofInt (IntKind.bits IntKind.u64) (IntKind.wrap IntKind.u64 (List.getD zs (off + Int.toNat (IntKind.wrap IntKind.i64 ((↑(List.length ys) : Int) - (2 : Int)))) (0 : Int))))) : Int) < IntKind.wrap IntKind.u64 ((↑q : Int) * IntKind.wrap IntKind.u64 (List.getD ys (Int.toNat (IntKind.wrap IntKind.i64 ((↑(List.length ys) : Int) - (2 : Int)))) (0 : Int)))) = false]) := by kernel_rfl
theorem loop94ac (ty : TypeId) (zs : List Int) (off cap : Nat) (ys : List Int) (q r : Nat) : codeV Tryz.prog (lk E7) L0 (G1 [50, 51, 70]) Tryz.f94.ntmps 60 (loopC Tryz.f94 0) [0, 1, 5, 6] [0] (I94a ty zs off cap ys q r) = some (Ex.exit (0 : Nat), { tmps := [((0 : Nat), AV.s (SV.one (LV.sl (0 : Nat) off (List.length ys + (1 : Nat)) cap))), ((1 : Nat), AV.s (SV.one (LV.row EK.u32 ys))), ((5 : Nat), AV.s (SV.one (LV.v (Value.int IntKind.i64 (↑(List.length ys) : Int))))), ((6 : Nat), AV.s (SV.one (LV.v (Value.int IntKind.u64 (↑q : Int)))))], boxes := [((0 : Nat), { ty := ty, bc := BC.ints EK.u32 zs, mut_ := true })] }, [decide ((↑r : Int) ≤ (4294967295 : Int)) = false, decide ((↑r : Int) ≤ (4294967295 : Int)) = false, decide ((↑r : Int) ≤ (4294967295 : Int)) = false, decide ((↑r : Int) ≤ (4294967295 : Int)) = false, decide ((↑r : Int) ≤ (4294967295 : Int)) = false, decide ((↑r : Int) ≤ (4294967295 : Int)) = false, decide ((↑r : Int) ≤ (4294967295 : Int)) = false, decide ((↑r : Int) ≤ (4294967295 : Int)) = false, decide ((↑r : Int) ≤ (4294967295 : Int)) = false, decide ((↑r : Int) ≤ (4294967295 : Int)) = false, decide ((↑r : Int) ≤ (4294967295 : Int)) = false, decide ((↑r : Int) ≤ (4294967295 : Int)) = false, decide ((↑r : Int) ≤ (4294967295 : Int)) = false, decide ((↑r : Int) ≤ (4294967295 : Int)) = false, decide ((↑r : Int) ≤ (4294967295 : Int)) = false, decide ((↑r : Int) ≤ (4294967295 : Int)) = false, decide ((↑r : Int) ≤ (4294967295 : Int)) = false, decide ((↑r : Int) ≤ (4294967295 : Int)) = false, decide ((↑r : Int) ≤ (4294967295 : Int)) = false, false = false]) := by kernel_rfl
theorem loop94ba (ty : TypeId) (zs : List Int) (off cap : Nat) (ys : List Int) (q i : Nat) : codeV Tryz.prog (lk E7) L0 (G1 []) Tryz.f94.ntmps 60 (loopC Tryz.f94 1) [0, 1, 6, 10, 11, 82, 83] [0] (I94b ty zs off cap ys q i) = some (Ex.normal, { tmps := [((0 : Nat), AV.s (SV.one (LV.sl (0 : Nat) off (List.length ys + (1 : Nat)) cap))), ((1 : Nat), AV.s (SV.one (LV.row EK.u32 ys))), ((6 : Nat), AV.s (SV.one (LV.v (Value.int IntKind.u64 (↑q : Int))))), ((10 : Nat), AV.s (SV.one (LV.v (Value.int IntKind.u64 (Int.fdiv (IntKind.wrap IntKind.u64 ((↑(o_cm q (nv ys) i) : Int) + IntKind.wrap IntKind.u64 ((↑q : Int) * IntKind.wrap IntKind.u64 (List.getD ys (Int.toNat (↑i : Int)) (0 : Int))))) ((2 : Int) ^ min (Int.toNat (32 : Int)) (IntKind.bits IntKind.u64))))))), ((11 : Nat), AV.s (SV.one (LV.v (Value.int IntKind.u32 (if List.getD (o_win zs off (o_mix (List.length ys + (1 : Nat)) (o_u zs off (List.length ys + (1 : Nat)) + B ^ (List.length ys + (1 : Nat)) - q * nv ys) (o_u zs off (List.length ys + (1 : Nat))) i)) (off + Int.toNat (↑i : Int)) (0 : Int) < IntKind.wrap IntKind.u32 (IntKind.wrap IntKind.u64 ((↑(o_cm q (nv ys) i) : Int) + IntKind.wrap IntKind.u64 ((↑q : Int) * IntKind.wrap IntKind.u64 (List.getD ys (Int.toNat (↑i : Int)) (0 : Int))))) + (↑(o_bw (o_u zs off (List.length ys + (1 : Nat))) (q * nv ys) i) : Int) then (1 : Int) else (0 : Int)))))), ((82 : Nat), AV.s (SV.one (LV.v (Value.int IntKind.i64 (↑(List.length ys + (1 : Nat)) : Int))))), ((83 : Nat), AV.s (SV.one (LV.v (Value.int IntKind.i64 (IntKind.wrap IntKind.i64 ((↑i : Int) + (1 : Int)))))))], boxes := [((0 : Nat), { ty := ty, bc := BC.ints EK.u32 (List.set (o_win zs off (o_mix (List.length ys + (1 : Nat)) (o_u zs off (List.length ys + (1 : Nat)) + B ^ (List.length ys + (1 : Nat)) - q * nv ys) (o_u zs off (List.length ys + (1 : Nat))) i)) (off + Int.toNat (↑i : Int)) ((List.getD (o_win zs off (o_mix (List.length ys + (1 : Nat)) (o_u zs off (List.length ys + (1 : Nat)) + B ^ (List.length ys + (1 : Nat)) - q * nv ys) (o_u zs off (List.length ys + (1 : Nat))) i)) (off + Int.toNat (↑i : Int)) (0 : Int) - IntKind.wrap IntKind.u32 (IntKind.wrap IntKind.u64 ((↑(o_cm q (nv ys) i) : Int) + IntKind.wrap IntKind.u64 ((↑q : Int) * IntKind.wrap IntKind.u64 (List.getD ys (Int.toNat (↑i : Int)) (0 : Int))))) - (↑(o_bw (o_u zs off (List.length ys + (1 : Nat))) (q * nv ys) i) : Int)) % (4294967296 : Int))), mut_ := true })] }, [decide ((↑i : Int) < (↑(List.length ys + (1 : Nat)) : Int)) = true, (0 : Int) ≤ (↑i : Int), (0 : Int) ≤ (↑i : Int) ∧ (↑i : Int) < (↑(List.length ys + (1 : Nat)) : Int), off + Int.toNat (↑i : Int) < List.length (o_win zs off (o_mix (List.length ys + (1 : Nat)) (o_u zs off (List.length ys + (1 : Nat)) + B ^ (List.length ys + (1 : Nat)) - q * nv ys) (o_u zs off (List.length ys + (1 : Nat))) i)), (0 : Int) ≤ List.getD (o_win zs off (o_mix (List.length ys + (1 : Nat)) (o_u zs off (List.length ys + (1 : Nat)) + B ^ (List.length ys + (1 : Nat)) - q * nv ys) (o_u zs off (List.length ys + (1 : Nat))) i)) (off + Int.toNat (↑i : Int)) (0 : Int) ∧ List.getD (o_win zs off (o_mix (List.length ys + (1 : Nat)) (o_u zs off (List.length ys + (1 : Nat)) + B ^ (List.length ys + (1 : Nat)) - q * nv ys) (o_u zs off (List.length ys + (1 : Nat))) i)) (off + Int.toNat (↑i : Int)) (0 : Int) < (4294967296 : Int), (0 : Int) ≤ IntKind.wrap IntKind.u32 (IntKind.wrap IntKind.u64 ((↑(o_cm q (nv ys) i) : Int) + IntKind.wrap IntKind.u64 ((↑q : Int) * IntKind.wrap IntKind.u64 (List.getD ys (Int.toNat (↑i : Int)) (0 : Int))))) ∧ IntKind.wrap IntKind.u32 (IntKind.wrap IntKind.u64 ((↑(o_cm q (nv ys) i) : Int) + IntKind.wrap IntKind.u64 ((↑q : Int) * IntKind.wrap IntKind.u64 (List.getD ys (Int.toNat (↑i : Int)) (0 : Int))))) < (4294967296 : Int), (0 : Int) ≤ (↑(o_bw (o_u zs off (List.length ys + (1 : Nat))) (q * nv ys) i) : Int) ∧ (↑(o_bw (o_u zs off (List.length ys + (1 : Nat))) (q * nv ys) i) : Int) ≤ (1 : Int), (0 : Int) ≤ (↑i : Int) ∧ (↑i : Int) < (↑(List.length ys + (1 : Nat)) : Int), off + Int.toNat (↑i : Int) < List.length (o_win zs off (o_mix (List.length ys + (1 : Nat)) (o_u zs off (List.length ys + (1 : Nat)) + B ^ (List.length ys + (1 : Nat)) - q * nv ys) (o_u zs off (List.length ys + (1 : Nat))) i)), (0 : Int) ≤ (32 : Int)]) := by kernel_rfl
theorem loop94bb (ty : TypeId) (zs : List Int) (off cap : Nat) (ys : List Int) (q i : Nat) : codeV Tryz.prog (lk E7) L0 (G1 [84]) Tryz.f94.ntmps 60 (loopC Tryz.f94 1) [0, 1, 6, 10, 11, 82, 83] [0] (I94b ty zs off cap ys q i) = some (Ex.exit (2 : Nat), { tmps := [((0 : Nat), AV.s (SV.one (LV.sl (0 : Nat) off (List.length ys + (1 : Nat)) cap))), ((1 : Nat), AV.s (SV.one (LV.row EK.u32 ys))), ((6 : Nat), AV.s (SV.one (LV.v (Value.int IntKind.u64 (↑q : Int))))), ((10 : Nat), AV.s (SV.one (LV.v (Value.int IntKind.u64 (↑(o_cm q (nv ys) i) : Int))))), ((11 : Nat), AV.s (SV.one (LV.v (Value.int IntKind.u32 (↑(o_bw (o_u zs off (List.length ys + (1 : Nat))) (q * nv ys) i) : Int))))), ((82 : Nat), AV.s (SV.one (LV.v (Value.int IntKind.i64 (↑(List.length ys + (1 : Nat)) : Int))))), ((83 : Nat), AV.s (SV.one (LV.v (Value.int IntKind.i64 (↑i : Int)))))], boxes := [((0 : Nat), { ty := ty, bc := BC.ints EK.u32 (o_win zs off (o_mix (List.length ys + (1 : Nat)) (o_u zs off (List.length ys + (1 : Nat)) + B ^ (List.length ys + (1 : Nat)) - q * nv ys) (o_u zs off (List.length ys + (1 : Nat))) i)), mut_ := true })] }, [decide ((↑i : Int) < (↑(List.length ys + (1 : Nat)) : Int)) = false]) := by kernel_rfl
theorem loop94ca (ty : TypeId) (zs : List Int) (off cap : Nat) (ys : List Int) (q : Nat) : codeV Tryz.prog (lk E7) L94d (G1 []) Tryz.f94.ntmps 60 (loopC Tryz.f94 2) [0, 1, 6, 11] [0] (I94c ty zs off cap ys q) = some (Ex.normal, { tmps := [((0 : Nat), AV.s (SV.one (LV.sl (0 : Nat) off (List.length ys + (1 : Nat)) cap))), ((1 : Nat), AV.s (SV.one (LV.row EK.u32 ys))), ((6 : Nat), AV.s (SV.one (LV.v (Value.int IntKind.u64 (IntKind.wrap IntKind.u64 ((↑q : Int) - (1 : Int))))))), ((11 : Nat), AV.s (SV.one (LV.v (Value.int IntKind.u32 (IntKind.wrap IntKind.u32 ((↑(if o_u zs off (List.length ys + (1 : Nat)) < q * nv ys then (1 : Nat) else (0 : Nat)) : Int) - (↑(o_cy (o_u (o_win zs off (dgs (List.length ys + (1 : Nat)) (o_u zs off (List.length ys + (1 : Nat)) + B ^ (List.length ys + (1 : Nat)) - q * nv ys))) off (List.length ys + (1 : Nat))) (nv ys) (List.length ys + (1 : Nat))) : Int)))))))], boxes := [((0 : Nat), { ty := ty, bc := BC.ints EK.u32 (o_win (o_win zs off (dgs (List.length ys + (1 : Nat)) (o_u zs off (List.length ys + (1 : Nat)) + B ^ (List.length ys + (1 : Nat)) - q * nv ys))) off (o_mix (List.length ys + (1 : Nat)) (o_u (o_win zs off (dgs (List.length ys + (1 : Nat)) (o_u zs off (List.length ys + (1 : Nat)) + B ^ (List.length ys + (1 : Nat)) - q * nv ys))) off (List.length ys + (1 : Nat)) + nv ys) (o_u (o_win zs off (dgs (List.length ys + (1 : Nat)) (o_u zs off (List.length ys + (1 : Nat)) + B ^ (List.length ys + (1 : Nat)) - q * nv ys))) off (List.length ys + (1 : Nat))) (List.length ys + (1 : Nat)))), mut_ := true })] }, [decide ((0 : Int) < (↑(if o_u zs off (List.length ys + (1 : Nat)) < q * nv ys then (1 : Nat) else (0 : Nat)) : Int)) = true, List.length ys + (1 : Nat) = List.length ys + (1 : Nat), (0 : Int) = (0 : Int), (↑(List.length ys + (1 : Nat)) : Int) = (↑(List.length ys + (1 : Nat)) : Int), (0 : Int) = (0 : Int), off + (List.length ys + (1 : Nat)) ≤ List.length (o_win zs off (dgs (List.length ys + (1 : Nat)) (o_u zs off (List.length ys + (1 : Nat)) + B ^ (List.length ys + (1 : Nat)) - q * nv ys))), Words (o_win zs off (dgs (List.length ys + (1 : Nat)) (o_u zs off (List.length ys + (1 : Nat)) + B ^ (List.length ys + (1 : Nat)) - q * nv ys))), Words ys, List.length ys < (137438953472 : Nat)]) := by kernel_rfl
theorem loop94cb (ty : TypeId) (zs : List Int) (off cap : Nat) (ys : List Int) (q : Nat) : codeV Tryz.prog (lk E7) L94d (G1 [112]) Tryz.f94.ntmps 60 (loopC Tryz.f94 2) [6] [0] (I94c ty zs off cap ys q) = some (Ex.exit (4 : Nat), { tmps := [((6 : Nat), AV.s (SV.one (LV.v (Value.int IntKind.u64 (↑q : Int)))))], boxes := [((0 : Nat), { ty := ty, bc := BC.ints EK.u32 (o_win zs off (dgs (List.length ys + (1 : Nat)) (o_u zs off (List.length ys + (1 : Nat)) + B ^ (List.length ys + (1 : Nat)) - q * nv ys))), mut_ := true })] }, [decide ((0 : Int) < (↑(if o_u zs off (List.length ys + (1 : Nat)) < q * nv ys then (1 : Nat) else (0 : Nat)) : Int)) = false]) := by kernel_rfl
theorem loop94da (ty : TypeId) (zs : List Int) (off cap : Nat) (ys : List Int) (q c : Int) (i : Nat) : codeV Tryz.prog (lk E7) L0 (G1 []) Tryz.f94.ntmps 60 (loopC Tryz.f94 3) [0, 1, 6, 11, 13, 116, 117] [0] (I94d ty zs off cap ys q c i) = some (Ex.normal, { tmps := [((0 : Nat), AV.s (SV.one (LV.sl (0 : Nat) off (List.length ys + (1 : Nat)) cap))), ((1 : Nat), AV.s (SV.one (LV.row EK.u32 ys))), ((6 : Nat), AV.s (SV.one (LV.v (Value.int IntKind.u64 q)))), ((11 : Nat), AV.s (SV.one (LV.v (Value.int IntKind.u32 c)))), ((13 : Nat), AV.s (SV.one (LV.v (Value.int IntKind.u32 ((List.getD (o_win zs off (o_mix (List.length ys + (1 : Nat)) (o_u zs off (List.length ys + (1 : Nat)) + nv ys) (o_u zs off (List.length ys + (1 : Nat))) i)) (off + Int.toNat (↑i : Int)) (0 : Int) + List.getD ys (Int.toNat (↑i : Int)) (0 : Int) + (↑(o_cy (o_u zs off (List.length ys + (1 : Nat))) (nv ys) i) : Int)) / (4294967296 : Int)))))), ((116 : Nat), AV.s (SV.one (LV.v (Value.int IntKind.i64 (↑(List.length ys + (1 : Nat)) : Int))))), ((117 : Nat), AV.s (SV.one (LV.v (Value.int IntKind.i64 (IntKind.wrap IntKind.i64 ((↑i : Int) + (1 : Int)))))))], boxes := [((0 : Nat), { ty := ty, bc := BC.ints EK.u32 (List.set (o_win zs off (o_mix (List.length ys + (1 : Nat)) (o_u zs off (List.length ys + (1 : Nat)) + nv ys) (o_u zs off (List.length ys + (1 : Nat))) i)) (off + Int.toNat (↑i : Int)) ((List.getD (o_win zs off (o_mix (List.length ys + (1 : Nat)) (o_u zs off (List.length ys + (1 : Nat)) + nv ys) (o_u zs off (List.length ys + (1 : Nat))) i)) (off + Int.toNat (↑i : Int)) (0 : Int) + List.getD ys (Int.toNat (↑i : Int)) (0 : Int) + (↑(o_cy (o_u zs off (List.length ys + (1 : Nat))) (nv ys) i) : Int)) % (4294967296 : Int))), mut_ := true })] }, [decide ((↑i : Int) < (↑(List.length ys + (1 : Nat)) : Int)) = true, (0 : Int) ≤ (↑i : Int) ∧ (↑i : Int) < (↑(List.length ys + (1 : Nat)) : Int), off + Int.toNat (↑i : Int) < List.length (o_win zs off (o_mix (List.length ys + (1 : Nat)) (o_u zs off (List.length ys + (1 : Nat)) + nv ys) (o_u zs off (List.length ys + (1 : Nat))) i)), (0 : Int) ≤ (↑i : Int), (0 : Int) ≤ List.getD (o_win zs off (o_mix (List.length ys + (1 : Nat)) (o_u zs off (List.length ys + (1 : Nat)) + nv ys) (o_u zs off (List.length ys + (1 : Nat))) i)) (off + Int.toNat (↑i : Int)) (0 : Int) ∧ List.getD (o_win zs off (o_mix (List.length ys + (1 : Nat)) (o_u zs off (List.length ys + (1 : Nat)) + nv ys) (o_u zs off (List.length ys + (1 : Nat))) i)) (off + Int.toNat (↑i : Int)) (0 : Int) < (4294967296 : Int), (0 : Int) ≤ List.getD ys (Int.toNat (↑i : Int)) (0 : Int) ∧ List.getD ys (Int.toNat (↑i : Int)) (0 : Int) < (4294967296 : Int), (0 : Int) ≤ (↑(o_cy (o_u zs off (List.length ys + (1 : Nat))) (nv ys) i) : Int) ∧ (↑(o_cy (o_u zs off (List.length ys + (1 : Nat))) (nv ys) i) : Int) ≤ (1 : Int), (0 : Int) ≤ (↑i : Int) ∧ (↑i : Int) < (↑(List.length ys + (1 : Nat)) : Int), off + Int.toNat (↑i : Int) < List.length (o_win zs off (o_mix (List.length ys + (1 : Nat)) (o_u zs off (List.length ys + (1 : Nat)) + nv ys) (o_u zs off (List.length ys + (1 : Nat))) i))]) := by kernel_rfl
theorem loop94db (ty : TypeId) (zs : List Int) (off cap : Nat) (ys : List Int) (q c : Int) (i : Nat) : codeV Tryz.prog (lk E7) L0 (G1 [118]) Tryz.f94.ntmps 60 (loopC Tryz.f94 3) [0, 1, 6, 11, 13, 116, 117] [0] (I94d ty zs off cap ys q c i) = some (Ex.exit (6 : Nat), { tmps := [((0 : Nat), AV.s (SV.one (LV.sl (0 : Nat) off (List.length ys + (1 : Nat)) cap))), ((1 : Nat), AV.s (SV.one (LV.row EK.u32 ys))), ((6 : Nat), AV.s (SV.one (LV.v (Value.int IntKind.u64 q)))), ((11 : Nat), AV.s (SV.one (LV.v (Value.int IntKind.u32 c)))), ((13 : Nat), AV.s (SV.one (LV.v (Value.int IntKind.u32 (↑(o_cy (o_u zs off (List.length ys + (1 : Nat))) (nv ys) i) : Int))))), ((116 : Nat), AV.s (SV.one (LV.v (Value.int IntKind.i64 (↑(List.length ys + (1 : Nat)) : Int))))), ((117 : Nat), AV.s (SV.one (LV.v (Value.int IntKind.i64 (↑i : Int)))))], boxes := [((0 : Nat), { ty := ty, bc := BC.ints EK.u32 (o_win zs off (o_mix (List.length ys + (1 : Nat)) (o_u zs off (List.length ys + (1 : Nat)) + nv ys) (o_u zs off (List.length ys + (1 : Nat))) i)), mut_ := true })] }, [decide ((↑i : Int) < (↑(List.length ys + (1 : Nat)) : Int)) = false]) := by kernel_rfl
theorem run94a (ty : TypeId) (zs : List Int) (off cap : Nat) (ys : List Int) : fnMEx Tryz.prog (lk E7) (L94 zs) (G1 []) 60 Tryz.f94 ty .u32 zs off (ys.length + 1) cap [roW ys] = some (AV.s (SV.one (LV.v (Value.int IntKind.u32 (IntKind.wrap IntKind.u32 (↑(o_u zs off (List.length ys + (1 : Nat)) / nv ys) : Int))))), o_win zs off (dgs (List.length ys + (1 : Nat)) (o_u zs off (List.length ys + (1 : Nat)) % nv ys)), [ty = ty, (0 : Int) ≤ (↑(List.length ys) : Int) ∧ (↑(List.length ys) : Int) < (↑(List.length ys + (1 : Nat)) : Int), off + Int.toNat (↑(List.length ys) : Int) < List.length zs, (0 : Int) ≤ IntKind.wrap IntKind.i64 ((↑(List.length ys) : Int) - (1 : Int)) ∧ IntKind.wrap IntKind.i64 ((↑(List.length ys) : Int) - (1 : Int)) < (↑(List.length ys) : Int), decide (List.getD zs (off + Int.toNat (↑(List.length ys) : Int)) (0 : Int) < List.getD ys (Int.toNat (IntKind.wrap IntKind.i64 ((↑(List.length ys) : Int) - (1 : Int)))) (0 : Int)) = true, (0 : Int) ≤ (↑(List.length ys) : Int) ∧ (↑(List.length ys) : Int) < (↑(List.length ys + (1 : Nat)) : Int), off + Int.toNat (↑(List.length ys) : Int) < List.length zs, (0 : Int) ≤ IntKind.wrap IntKind.i64 ((↑(List.length ys) : Int) - (1 : Int)) ∧ IntKind.wrap IntKind.i64 ((↑(List.length ys) : Int) - (1 : Int)) < (↑(List.length ys + (1 : Nat)) : Int), off + Int.toNat (IntKind.wrap IntKind.i64 ((↑(List.length ys) : Int) - (1 : Int))) < List.length zs, (0 : Int) ≤ IntKind.wrap IntKind.i64 ((↑(List.length ys) : Int) - (1 : Int)) ∧ IntKind.wrap IntKind.i64 ((↑(List.length ys) : Int) - (1 : Int)) < (↑(List.length ys) : Int), (0 : Int) ≤ List.getD zs (off + Int.toNat (↑(List.length ys) : Int)) (0 : Int) ∧ List.getD zs (off + Int.toNat (↑(List.length ys) : Int)) (0 : Int) < (4294967296 : Int), (0 : Int) ≤ List.getD zs (off + Int.toNat (IntKind.wrap IntKind.i64 ((↑(List.length ys) : Int) - (1 : Int)))) (0 : Int) ∧ List.getD zs (off + Int.toNat (IntKind.wrap IntKind.i64 ((↑(List.length ys) : Int) - (1 : Int)))) (0 : Int) < (4294967296 : Int), (0 : Int) ≤ List.getD ys (Int.toNat (IntKind.wrap IntKind.i64 ((↑(List.length ys) : Int) - (1 : Int)))) (0 : Int) ∧ List.getD ys (Int.toNat (IntKind.wrap IntKind.i64 ((↑(List.length ys) : Int) - (1 : Int)))) (0 : Int) < (4294967296 : Int), List.getD zs (off + Int.toNat (↑(List.length ys) : Int)) (0 : Int) < List.getD ys (Int.toNat (IntKind.wrap IntKind.i64 ((↑(List.length ys) : Int) - (1 : Int)))) (0 : Int), List.length ys + (1 : Nat) = List.length ys + (1 : Nat), (↑(List.length ys) : Int) = (↑(List.length ys) : Int), (0 : Int) ≤ IntKind.wrap IntKind.u64 ((List.getD zs (off + Int.toNat (↑(List.length ys) : Int)) (0 : Int) * (4294967296 : Int) + List.getD zs (off + Int.toNat (IntKind.wrap IntKind.i64 ((↑(List.length ys) : Int) - (1 : Int)))) (0 : Int)) / List.getD ys (Int.toNat (IntKind.wrap IntKind.i64 ((↑(List.length ys) : Int) - (1 : Int)))) (0 : Int)) ∧ IntKind.wrap IntKind.u64 ((List.getD zs (off + Int.toNat (↑(List.length ys) : Int)) (0 : Int) * (4294967296 : Int) + List.getD zs (off + Int.toNat (IntKind.wrap IntKind.i64 ((↑(List.length ys) : Int) - (1 : Int)))) (0 : Int)) / List.getD ys (Int.toNat (IntKind.wrap IntKind.i64 ((↑(List.length ys) : Int) - (1 : Int)))) (0 : Int)) < (4294967296 : Int), (0 : Int) ≤ IntKind.wrap IntKind.u64 ((List.getD zs (off + Int.toNat (↑(List.length ys) : Int)) (0 : Int) * (4294967296 : Int) + List.getD zs (off + Int.toNat (IntKind.wrap IntKind.i64 ((↑(List.length ys) : Int) - (1 : Int)))) (0 : Int)) % List.getD ys (Int.toNat (IntKind.wrap IntKind.i64 ((↑(List.length ys) : Int) - (1 : Int)))) (0 : Int)) ∧ IntKind.wrap IntKind.u64 ((List.getD zs (off + Int.toNat (↑(List.length ys) : Int)) (0 : Int) * (4294967296 : Int) + List.getD zs (off + Int.toNat (IntKind.wrap IntKind.i64 ((↑(List.length ys) : Int) - (1 : Int)))) (0 : Int)) % List.getD ys (Int.toNat (IntKind.wrap IntKind.i64 ((↑(List.length ys) : Int) - (1 : Int)))) (0 : Int)) < (4294967296 : Int), off + (List.length ys + (1 : Nat)) ≤ List.length zs, Words zs, Words ys, (2 : Nat) ≤ List.length ys, List.length ys < (137438953472 : Nat), List.length ys + (1 : Nat) = List.length ys + (1 : Nat), (0 : Int) ≤ (↑(o_red2 (o_u zs off (List.length ys + (1 : Nat))) (nv ys) (List.length ys) (Int.toNat (IntKind.wrap IntKind.u64 ((List.getD zs (off + Int.toNat (↑(List.length ys) : Int)) (0 : Int) * (4294967296 : Int) + List.getD zs (off + Int.toNat (IntKind.wrap IntKind.i64 ((↑(List.length ys) : Int) - (1 : Int)))) (0 : Int)) / List.getD ys (Int.toNat (IntKind.wrap IntKind.i64 ((↑(List.length ys) : Int) - (1 : Int)))) (0 : Int)))) (Int.toNat (IntKind.wrap IntKind.u64 ((List.getD zs (off + Int.toNat (↑(List.length ys) : Int)) (0 : Int) * (4294967296 : Int) + List.getD zs (off + Int.toNat (IntKind.wrap IntKind.i64 ((↑(List.length ys) : Int) - (1 : Int)))) (0 : Int)) % List.getD ys (Int.toNat (IntKind.wrap IntKind.i64 ((↑(List.length ys) : Int) - (1 : Int)))) (0 : Int))))) : Int) ∧ (↑(o_red2 (o_u zs off (List.length ys + (1 : Nat))) (nv ys) (List.length ys) (Int.toNat (IntKind.wrap IntKind.u64 ((List.getD zs (off + Int.toNat (↑(List.length ys) : Int)) (0 : Int) * (4294967296 : Int) + List.getD zs (off + Int.toNat (IntKind.wrap IntKind.i64 ((↑(List.length ys) : Int) - (1 : Int)))) (0 : Int)) / List.getD ys (Int.toNat (IntKind.wrap IntKind.i64 ((↑(List.length ys) : Int) - (1 : Int)))) (0 : Int)))) (Int.toNat (IntKind.wrap IntKind.u64 ((List.getD zs (off + Int.toNat (↑(List.length ys) : Int)) (0 : Int) * (4294967296 : Int) + List.getD zs (off + Int.toNat (IntKind.wrap IntKind.i64 ((↑(List.length ys) : Int) - (1 : Int)))) (0 : Int)) % List.getD ys (Int.toNat (IntKind.wrap IntKind.i64 ((↑(List.length ys) : Int) - (1 : Int)))) (0 : Int))))) : Int) < (4294967296 : Int), (0 : Int) = (0 : Int), (0 : Int) = (0 : Int), (↑(List.length ys + (1 : Nat)) : Int) = (↑(List.length ys) : Int) + (1 : Int), (0 : Int) = (0 : Int), off + (List.length ys + (1 : Nat)) ≤ List.length zs, Words zs, Words ys, List.length ys < (137438953472 : Nat), List.length ys + (1 : Nat) = List.length ys + (1 : Nat), (0 : Int) ≤ (↑(Int.toNat (↑(o_red2 (o_u zs off (List.length ys + (1 : Nat))) (nv ys) (List.length ys) (Int.toNat (IntKind.wrap IntKind.u64 ((List.getD zs (off + Int.toNat (↑(List.length ys) : Int)) (0 : Int) * (4294967296 : Int) + List.getD zs (off + Int.toNat (IntKind.wrap IntKind.i64 ((↑(List.length ys) : Int) - (1 : Int)))) (0 : Int)) / List.getD ys (Int.toNat (IntKind.wrap IntKind.i64 ((↑(List.length ys) : Int) - (1 : Int)))) (0 : Int)))) (Int.toNat (IntKind.wrap IntKind.u64 ((List.getD zs (off + Int.toNat (↑(List.length ys) : Int)) (0 : Int) * (4294967296 : Int) + List.getD zs (off + Int.toNat (IntKind.wrap IntKind.i64 ((↑(List.length ys) : Int) - (1 : Int)))) (0 : Int)) % List.getD ys (Int.toNat (IntKind.wrap IntKind.i64 ((↑(List.length ys) : Int) - (1 : Int)))) (0 : Int))))) : Int)) : Int) ∧ (↑(Int.toNat (↑(o_red2 (o_u zs off (List.length ys + (1 : Nat))) (nv ys) (List.length ys) (Int.toNat (IntKind.wrap IntKind.u64 ((List.getD zs (off + Int.toNat (↑(List.length ys) : Int)) (0 : Int) * (4294967296 : Int) + List.getD zs (off + Int.toNat (IntKind.wrap IntKind.i64 ((↑(List.length ys) : Int) - (1 : Int)))) (0 : Int)) / List.getD ys (Int.toNat (IntKind.wrap IntKind.i64 ((↑(List.length ys) : Int) - (1 : Int)))) (0 : Int)))) (Int.toNat (IntKind.wrap IntKind.u64 ((List.getD zs (off + Int.toNat (↑(List.length ys) : Int)) (0 : Int) * (4294967296 : Int) + List.getD zs (off + Int.toNat (IntKind.wrap IntKind.i64 ((↑(List.length ys) : Int) - (1 : Int)))) (0 : Int)) % List.getD ys (Int.toNat (IntKind.wrap IntKind.i64 ((↑(List.length ys) : Int) - (1 : Int)))) (0 : Int))))) : Int)) : Int) < (4294967296 : Int), (↑(o_u zs off (List.length ys + (1 : Nat)) / nv ys) : Int) ≤ (↑(Int.toNat (↑(o_red2 (o_u zs off (List.length ys + (1 : Nat))) (nv ys) (List.length ys) (Int.toNat (IntKind.wrap IntKind.u64 ((List.getD zs (off + Int.toNat (↑(List.length ys) : Int)) (0 : Int) * (4294967296 : Int) + List.getD zs (off + Int.toNat (IntKind.wrap IntKind.i64 ((↑(List.length ys) : Int) - (1 : Int)))) (0 : Int)) / List.getD ys (Int.toNat (IntKind.wrap IntKind.i64 ((↑(List.length ys) : Int) - (1 : Int)))) (0 : Int)))) (Int.toNat (IntKind.wrap IntKind.u64 ((List.getD zs (off + Int.toNat (↑(List.length ys) : Int)) (0 : Int) * (4294967296 : Int) + List.getD zs (off + Int.toNat (IntKind.wrap IntKind.i64 ((↑(List.length ys) : Int) - (1 : Int)))) (0 : Int)) % List.getD ys (Int.toNat (IntKind.wrap IntKind.i64 ((↑(List.length ys) : Int) - (1 : Int)))) (0 : Int))))) : Int)) : Int), (↑(o_bw (o_u zs off (List.length ys + (1 : Nat))) (Int.toNat (↑(o_red2 (o_u zs off (List.length ys + (1 : Nat))) (nv ys) (List.length ys) (Int.toNat (IntKind.wrap IntKind.u64 ((List.getD zs (off + Int.toNat (↑(List.length ys) : Int)) (0 : Int) * (4294967296 : Int) + List.getD zs (off + Int.toNat (IntKind.wrap IntKind.i64 ((↑(List.length ys) : Int) - (1 : Int)))) (0 : Int)) / List.getD ys (Int.toNat (IntKind.wrap IntKind.i64 ((↑(List.length ys) : Int) - (1 : Int)))) (0 : Int)))) (Int.toNat (IntKind.wrap IntKind.u64 ((List.getD zs (off + Int.toNat (↑(List.length ys) : Int)) (0 : Int) * (4294967296 : Int) + List.getD zs (off + Int.toNat (IntKind.wrap IntKind.i64 ((↑(List.length ys) : Int) - (1 : Int)))) (0 : Int)) % List.getD ys (Int.toNat (IntKind.wrap IntKind.i64 ((↑(List.length ys) : Int) - (1 : Int)))) (0 : Int))))) : Int) * nv ys) (List.length ys + (1 : Nat))) : Int) = (↑(if o_u zs off (List.length ys + (1 : Nat)) < Int.toNat (↑(Int.toNat (↑(o_red2 (o_u zs off (List.length ys + (1 : Nat))) (nv ys) (List.length ys) (Int.toNat (IntKind.wrap IntKind.u64 ((List.getD zs (off + Int.toNat (↑(List.length ys) : Int)) (0 : Int) * (4294967296 : Int) + List.getD zs (off + Int.toNat (IntKind.wrap IntKind.i64 ((↑(List.length ys) : Int) - (1 : Int)))) (0 : Int)) / List.getD ys (Int.toNat (IntKind.wrap IntKind.i64 ((↑(List.length ys) : Int) - (1 : Int)))) (0 : Int)))) (Int.toNat (IntKind.wrap IntKind.u64 ((List.getD zs (off + Int.toNat (↑(List.length ys) : Int)) (0 : Int) * (4294967296 : Int) + List.getD zs (off + Int.toNat (IntKind.wrap IntKind.i64 ((↑(List.length ys) : Int) - (1 : Int)))) (0 : Int)) % List.getD ys (Int.toNat (IntKind.wrap IntKind.i64 ((↑(List.length ys) : Int) - (1 : Int)))) (0 : Int))))) : Int)) : Int) * nv ys then (1 : Nat) else (0 : Nat)) : Int), o_win zs off (o_mix (List.length ys + (1 : Nat)) (o_u zs off (List.length ys + (1 : Nat)) + B ^ (List.length ys + (1 : Nat)) - Int.toNat (↑(o_red2 (o_u zs off (List.length ys + (1 : Nat))) (nv ys) (List.length ys) (Int.toNat (IntKind.wrap IntKind.u64 ((List.getD zs (off + Int.toNat (↑(List.length ys) : Int)) (0 : Int) * (4294967296 : Int) + List.getD zs (off + Int.toNat (IntKind.wrap IntKind.i64 ((↑(List.length ys) : Int) - (1 : Int)))) (0 : Int)) / List.getD ys (Int.toNat (IntKind.wrap IntKind.i64 ((↑(List.length ys) : Int) - (1 : Int)))) (0 : Int)))) (Int.toNat (IntKind.wrap IntKind.u64 ((List.getD zs (off + Int.toNat (↑(List.length ys) : Int)) (0 : Int) * (4294967296 : Int) + List.getD zs (off + Int.toNat (IntKind.wrap IntKind.i64 ((↑(List.length ys) : Int) - (1 : Int)))) (0 : Int)) % List.getD ys (Int.toNat (IntKind.wrap IntKind.i64 ((↑(List.length ys) : Int) - (1 : Int)))) (0 : Int))))) : Int) * nv ys) (o_u zs off (List.length ys + (1 : Nat))) (List.length ys + (1 : Nat))) = o_win zs off (dgs (List.length ys + (1 : Nat)) (o_u zs off (List.length ys + (1 : Nat)) + B ^ (List.length ys + (1 : Nat)) - Int.toNat (↑(Int.toNat (↑(o_red2 (o_u zs off (List.length ys + (1 : Nat))) (nv ys) (List.length ys) (Int.toNat (IntKind.wrap IntKind.u64 ((List.getD zs (off + Int.toNat (↑(List.length ys) : Int)) (0 : Int) * (4294967296 : Int) + List.getD zs (off + Int.toNat (IntKind.wrap IntKind.i64 ((↑(List.length ys) : Int) - (1 : Int)))) (0 : Int)) / List.getD ys (Int.toNat (IntKind.wrap IntKind.i64 ((↑(List.length ys) : Int) - (1 : Int)))) (0 : Int)))) (Int.toNat (IntKind.wrap IntKind.u64 ((List.getD zs (off + Int.toNat (↑(List.length ys) : Int)) (0 : Int) * (4294967296 : Int) + List.getD zs (off + Int.toNat (IntKind.wrap IntKind.i64 ((↑(List.length ys) : Int) - (1 : Int)))) (0 : Int)) % List.getD ys (Int.toNat (IntKind.wrap IntKind.i64 ((↑(List.length ys) : Int) - (1 : Int)))) (0 : Int))))) : Int)) : Int) * nv ys)), off + (List.length ys + (1 : Nat)) ≤ List.length zs, Words zs, Words ys, (0 : Nat) < nv ys, List.length ys < (137438953472 : Nat)]) := by kernel_rfl
theorem run94b (ty : TypeId) (zs : List Int) (off cap : Nat) (ys : List Int) : fnMEx Tryz.prog (lk E7) (L94 zs) (G1 [26]) 60 Tryz.f94 ty .u32 zs off (ys.length + 1) cap [roW ys] = some (AV.s (SV.one (LV.v (Value.int IntKind.u32 (IntKind.wrap IntKind.u32 (↑(o_u zs off (List.length ys + (1 : Nat)) / nv ys) : Int))))), o_win zs off (dgs (List.length ys + (1 : Nat)) (o_u zs off (List.length ys + (1 : Nat)) % nv ys)), [ty = ty, (0 : Int) ≤ (↑(List.length ys) : Int) ∧ (↑(List.length ys) : Int) < (↑(List.length ys + (1 : Nat)) : Int), off + Int.toNat (↑(List.length ys) : Int) < List.length zs, (0 : Int) ≤ IntKind.wrap IntKind.i64 ((↑(List.length ys) : Int) - (1 : Int)) ∧ IntKind.wrap IntKind.i64 ((↑(List.length ys) : Int) - (1 : Int)) < (↑(List.length ys) : Int), decide (List.getD zs (off + Int.toNat (↑(List.length ys) : Int)) (0 : Int) < List.getD ys (Int.toNat (IntKind.wrap IntKind.i64 ((↑(List.length ys) : Int) - (1 : Int)))) (0 : Int)) = false, List.length ys + (1 : Nat) = List.length ys + (1 : Nat), (0 : Int) ≤ (4294967295 : Int) ∧ (4294967295 : Int) < (4294967296 : Int), (0 : Int) = (0 : Int), (0 : Int) = (0 : Int), (↑(List.length ys + (1 : Nat)) : Int) = (↑(List.length ys) : Int) + (1 : Int), (0 : Int) = (0 : Int), off + (List.length ys + (1 : Nat)) ≤ List.length zs, Words zs, Words ys, List.length ys < (137438953472 : Nat), List.length ys + (1 : Nat) = List.length ys + (1 : Nat), (0 : Int) ≤ (↑(Int.toNat (4294967295 : Int)) : Int) ∧ (↑(Int.toNat (4294967295 : Int)) : Int) < (4294967296 : Int), (↑(o_u zs off (List.length ys + (1 : Nat)) / nv ys) : Int) ≤ (↑(Int.toNat (4294967295 : Int)) : Int), (↑(o_bw (o_u zs off (List.length ys + (1 : Nat))) (Int.toNat (4294967295 : Int) * nv ys) (List.length ys + (1 : Nat))) : Int) = (↑(if o_u zs off (List.length ys + (1 : Nat)) < Int.toNat (↑(Int.toNat (4294967295 : Int)) : Int) * nv ys then (1 : Nat) else (0 : Nat)) : Int), o_win zs off (o_mix (List.length ys + (1 : Nat)) (o_u zs off (List.length ys + (1 : Nat)) + B ^ (List.length ys + (1 : Nat)) - Int.toNat (4294967295 : Int) * nv ys) (o_u zs off (List.length ys + (1 : Nat))) (List.length ys + (1 : Nat))) = o_win zs off (dgs (List.length ys + (1 : Nat)) (o_u zs off (List.length ys + (1 : Nat)) + B ^ (List.length ys + (1 : Nat)) - Int.toNat (↑(Int.toNat (4294967295 : Int)) : Int) * nv ys)), off + (List.length ys + (1 : Nat)) ≤ List.length zs, Words zs, Words ys, (0 : Nat) < nv ys, List.length ys < (137438953472 : Nat)]) := by kernel_rfl
theorem loop113a (us ys : List Int) (q r : Nat) : codeV Tryz.prog (lk E7) L0 (G1 [41, 42, 73]) Tryz.f113.ntmps 60 (loopC Tryz.f113 0) [0, 1, 5, 7, 8] [] (I113 us ys q r) = some (Ex.normal, { tmps := [((0 : Nat), AV.s (SV.one (LV.row EK.u32 us))), ((1 : Nat), AV.s (SV.one (LV.row EK.u32 ys))), ((5 : Nat), AV.s (SV.one (LV.v (Value.int IntKind.i64 (↑(List.length ys) : Int))))), ((7 : Nat), AV.s (SV.one (LV.v (Value.int IntKind.u64 (IntKind.wrap IntKind.u64 ((↑q : Int) - (1 : Int))))))), ((8 : Nat), AV.s (SV.one (LV.v (Value.int IntKind.u64 (IntKind.wrap IntKind.u64 ((↑r : Int) + IntKind.wrap IntKind.u64 (List.getD ys (Int.toNat (IntKind.wrap IntKind.i64 ((↑(List.length ys) : Int) - (1 : Int)))) (0 : Int))))))))], boxes := [] }, [decide ((4294967296 : Int) ≤ (↑q : Int)) = false, decide ((4294967296 : Int) ≤ (↑q : Int)) = false, decide ((4294967296 : Int) ≤ (↑q : Int)) = false, decide ((4294967296 : Int) ≤ (↑q : Int)) = false, decide ((4294967296 : Int) ≤ (↑q : Int)) = false, (0 : Int) ≤ IntKind.wrap IntKind.i64 ((↑(List.length ys) : Int) - (2 : Int)) ∧ IntKind.wrap IntKind.i64 ((↑(List.length ys) : Int) - (2 : Int)) < (↑(List.length ys) : Int), decide ((4294967296 : Int) ≤ (↑q : Int)) = false, decide ((4294967296 : Int) ≤ (↑q : Int)) = false, decide ((4294967296 : Int) ≤ (↑q : Int)) = false, decide ((4294967296 : Int) ≤ (↑q : Int)) = false, decide ((4294967296 : Int) ≤ (↑q : Int)) = false, decide ((4294967296 : Int) ≤ (↑q : Int)) = false, decide ((4294967296 : Int) ≤ (↑q : Int)) = false, decide ((4294967296 : Int) ≤ (↑q : Int)) = false, decide ((4294967296 : Int) ≤ (↑q : Int)) = false, (0 : Int) ≤ IntKind.wrap IntKind.i64 ((↑(List.length ys) : Int) - (2 : Int)) ∧ IntKind.wrap IntKind.i64 ((↑(List.length ys) : Int) - (2 : Int)) < (↑(List.length us) : Int), decide ((4294967296 : Int) ≤ (↑q : Int)) = false, decide ((4294967296 : Int) ≤ (↑q : Int)) = false, decide ((4294967296 : Int) ≤ (↑q : Int)) = false, decide ((4294967296 : Int) ≤ (↑q : Int)) = false, decide ((4294967296 : Int) ≤ (↑q : Int)) = false, decide (IntKind.wrap IntKind.u64 (IntKind.wrap IntKind.u64 ((↑r : Int) * (4294967296 : Int)) + IntKind.wrap IntKind.u64 (List.getD us (Int.toNat (IntKind.wrap IntKind.i64 ((↑(List.length ys) : Int) - (2 : Int)))) (0 : Int))) < IntKind.wrap IntKind.u64 ((↑q : Int) * IntKind.wrap IntKind.u64 (List.getD ys (Int.toNat (IntKind.wrap IntKind.i64 ((↑(List.length ys) : Int) - (2 : Int)))) (0 : Int)))) = true, (0 : Int) ≤ IntKind.wrap IntKind.i64 ((↑(List.length ys) : Int) - (1 : Int)) ∧ IntKind.wrap IntKind.i64 ((↑(List.length ys) : Int) - (1 : Int)) < (↑(List.length ys) : Int), decide ((4294967296 : Int) ≤ IntKind.wrap IntKind.u64 ((↑r : Int) + IntKind.wrap IntKind.u64 (List.getD ys (Int.toNat (IntKind.wrap IntKind.i64 ((↑(List.length ys) : Int) - (1 : Int)))) (0 : Int)))) = false]) := by kernel_rfl
theorem loop113b (us ys : List Int) (q r : Nat) : codeV Tryz.prog (lk E7) L0 (G1 [41, 42]) Tryz.f113.ntmps 60 (loopC Tryz.f113 0) [7] [] (I113 us ys q r) = some (Ex.exit (0 : Nat), { tmps := [((7 : Nat), AV.s (SV.one (LV.v (Value.int IntKind.u64 (IntKind.wrap IntKind.u64 ((↑q : Int) - (1 : Int)))))))], boxes := [] }, [decide ((4294967296 : Int) ≤ (↑q : Int)) = false, decide ((4294967296 : Int) ≤ (↑q : Int)) = false, decide ((4294967296 : Int) ≤ (↑q : Int)) = false, decide ((4294967296 : Int) ≤ (↑q : Int)) = false, decide ((4294967296 : Int) ≤ (↑q : Int)) = false, (0 : Int) ≤ IntKind.wrap IntKind.i64 ((↑(List.length ys) : Int) - (2 : Int)) ∧ IntKind.wrap IntKind.i64 ((↑(List.length ys) : Int) - (2 : Int)) < (↑(List.length ys) : Int), decide ((4294967296 : Int) ≤ (↑q : Int)) = false, decide ((4294967296 : Int) ≤ (↑q : Int)) = false, decide ((4294967296 : Int) ≤ (↑q : Int)) = false, decide ((4294967296 : Int) ≤ (↑q : Int)) = false, decide ((4294967296 : Int) ≤ (↑q : Int)) = false, decide ((4294967296 : Int) ≤ (↑q : Int)) = false, decide ((4294967296 : Int) ≤ (↑q : Int)) = false, decide ((4294967296 : Int) ≤ (↑q : Int)) = false, decide ((4294967296 : Int) ≤ (↑q : Int)) = false, (0 : Int) ≤ IntKind.wrap IntKind.i64 ((↑(List.length ys) : Int) - (2 : Int)) ∧ IntKind.wrap IntKind.i64 ((↑(List.length ys) : Int) - (2 : Int)) < (↑(List.length us) : Int), decide ((4294967296 : Int) ≤ (↑q : Int)) = false, decide ((4294967296 : Int) ≤ (↑q : Int)) = false, decide ((4294967296 : Int) ≤ (↑q : Int)) = false, decide ((4294967296 : Int) ≤ (↑q : Int)) = false, decide ((4294967296 : Int) ≤ (↑q : Int)) = false, decide (IntKind.wrap IntKind.u64 (IntKind.wrap IntKind.u64 ((↑r : Int) * (4294967296 : Int)) + IntKind.wrap IntKind.u64 (List.getD us (Int.toNat (IntKind.wrap IntKind.i64 ((↑(List.length ys) : Int) - (2 : Int)))) (0 : Int))) < IntKind.wrap IntKind.u64 ((↑q : Int) * IntKind.wrap IntKind.u64 (List.getD ys (Int.toNat (IntKind.wrap IntKind.i64 ((↑(List.length ys) : Int) - (2 : Int)))) (0 : Int)))) = true, (0 : Int) ≤ IntKind.wrap IntKind.i64 ((↑(List.length ys) : Int) - (1 : Int)) ∧ IntKind.wrap IntKind.i64 ((↑(List.length ys) : Int) - (1 : Int)) < (↑(List.length ys) : Int), decide ((4294967296 : Int) ≤ IntKind.wrap IntKind.u64 ((↑r : Int) + IntKind.wrap IntKind.u64 (List.getD ys (Int.toNat (IntKind.wrap IntKind.i64 ((↑(List.length ys) : Int) - (1 : Int)))) (0 : Int)))) = true]) := by kernel_rfl
theorem loop113c (us ys : List Int) (q r : Nat) : codeV Tryz.prog (lk E7) L0 (G1 [73]) Tryz.f113.ntmps 60 (loopC Tryz.f113 0) [0, 1, 5, 7, 8] [] (I113 us ys q r) = some (Ex.normal, { tmps := [((0 : Nat), AV.s (SV.one (LV.row EK.u32 us))), ((1 : Nat), AV.s (SV.one (LV.row EK.u32 ys))), ((5 : Nat), AV.s (SV.one (LV.v (Value.int IntKind.i64 (↑(List.length ys) : Int))))), ((7 : Nat), AV.s (SV.one (LV.v (Value.int IntKind.u64 (IntKind.wrap IntKind.u64 ((↑q : Int) - (1 : Int))))))), ((8 : Nat), AV.s (SV.one (LV.v (Value.int IntKind.u64 (IntKind.wrap IntKind.u64 ((↑r : Int) + IntKind.wrap IntKind.u64 (List.getD ys (Int.toNat (IntKind.wrap IntKind.i64 ((↑(List.length ys) : Int) - (1 : Int)))) (0 : Int))))))))], boxes := [] }, [decide ((4294967296 : Int) ≤ (↑q : Int)) = true, decide ((4294967296 : Int) ≤ (↑q : Int)) = true, decide ((4294967296 : Int) ≤ (↑q : Int)) = true, decide ((4294967296 : Int) ≤ (↑q : Int)) = true, decide ((4294967296 : Int) ≤ (↑q : Int)) = true, decide ((4294967296 : Int) ≤ (↑q : Int)) = true, decide ((4294967296 : Int) ≤ (↑q : Int)) = true, decide ((4294967296 : Int) ≤ (↑q : Int)) = true, decide ((4294967296 : Int) ≤ (↑q : Int)) = true, decide ((4294967296 : Int) ≤ (↑q : Int)) = true, decide ((4294967296 : Int) ≤ (↑q : Int)) = true, decide ((4294967296 : Int) ≤ (↑q : Int)) = true, decide ((4294967296 : Int) ≤ (↑q : Int)) = true, decide ((4294967296 : Int) ≤ (↑q : Int)) = true, decide ((4294967296 : Int) ≤ (↑q : Int)) = true, decide ((4294967296 : Int) ≤ (↑q : Int)) = true, decide ((4294967296 : Int) ≤ (↑q : Int)) = true, decide ((4294967296 : Int) ≤ (↑q : Int)) = true, decide ((4294967296 : Int) ≤ (↑q : Int)) = true, true = true, (0 : Int) ≤ IntKind.wrap IntKind.i64 ((↑(List.length ys) : Int) - (1 : Int)) ∧ IntKind.wrap IntKind.i64 ((↑(List.length ys) : Int) - (1 : Int)) < (↑(List.length ys) : Int), decide ((4294967296 : Int) ≤ IntKind.wrap IntKind.u64 ((↑r : Int) + IntKind.wrap IntKind.u64 (List.getD ys (Int.toNat (IntKind.wrap IntKind.i64 ((↑(List.length ys) : Int) - (1 : Int)))) (0 : Int)))) = false]) := by kernel_rfl
theorem loop113d (us ys : List Int) (q r : Nat) : codeV Tryz.prog (lk E7) L0 (G1 []) Tryz.f113.ntmps 60 (loopC Tryz.f113 0) [7] [] (I113 us ys q r) = some (Ex.exit (0 : Nat), { tmps := [((7 : Nat), AV.s (SV.one (LV.v (Value.int IntKind.u64 (IntKind.wrap IntKind.u64 ((↑q : Int) - (1 : Int)))))))], boxes := [] }, [decide ((4294967296 : Int) ≤ (↑q : Int)) = true, decide ((4294967296 : Int) ≤ (↑q : Int)) = true, decide ((4294967296 : Int) ≤ (↑q : Int)) = true, decide ((4294967296 : Int) ≤ (↑q : Int)) = true, decide ((4294967296 : Int) ≤ (↑q : Int)) = true, decide ((4294967296 : Int) ≤ (↑q : Int)) = true, decide ((4294967296 : Int) ≤ (↑q : Int)) = true, decide ((4294967296 : Int) ≤ (↑q : Int)) = true, decide ((4294967296 : Int) ≤ (↑q : Int)) = true, decide ((4294967296 : Int) ≤ (↑q : Int)) = true, decide ((4294967296 : Int) ≤ (↑q : Int)) = true, decide ((4294967296 : Int) ≤ (↑q : Int)) = true, decide ((4294967296 : Int) ≤ (↑q : Int)) = true, decide ((4294967296 : Int) ≤ (↑q : Int)) = true, decide ((4294967296 : Int) ≤ (↑q : Int)) = true, decide ((4294967296 : Int) ≤ (↑q : Int)) = true, decide ((4294967296 : Int) ≤ (↑q : Int)) = true, decide ((4294967296 : Int) ≤ (↑q : Int)) = true, decide ((4294967296 : Int) ≤ (↑q : Int)) = true, true = true, (0 : Int) ≤ IntKind.wrap IntKind.i64 ((↑(List.length ys) : Int) - (1 : Int)) ∧ IntKind.wrap IntKind.i64 ((↑(List.length ys) : Int) - (1 : Int)) < (↑(List.length ys) : Int), decide ((4294967296 : Int) ≤ IntKind.wrap IntKind.u64 ((↑r : Int) + IntKind.wrap IntKind.u64 (List.getD ys (Int.toNat (IntKind.wrap IntKind.i64 ((↑(List.length ys) : Int) - (1 : Int)))) (0 : Int)))) = true]) := by kernel_rfl
theorem loop113e (us ys : List Int) (q r : Nat) : codeV Tryz.prog (lk E7) L0 (G1 [41, 42, 61]) Tryz.f113.ntmps 60 (loopC Tryz.f113 0) [7] [] (I113 us ys q r) = some (Ex.exit (0 : Nat), { tmps := [((7 : Nat), AV.s (SV.one (LV.v (Value.int IntKind.u64 (↑q : Int)))))], boxes := [] }, [decide ((4294967296 : Int) ≤ (↑q : Int)) = false, decide ((4294967296 : Int) ≤ (↑q : Int)) = false, decide ((4294967296 : Int) ≤ (↑q : Int)) = false, decide ((4294967296 : Int) ≤ (↑q : Int)) = false, decide ((4294967296 : Int) ≤ (↑q : Int)) = false, (0 : Int) ≤ IntKind.wrap IntKind.i64 ((↑(List.length ys) : Int) - (2 : Int)) ∧ IntKind.wrap IntKind.i64 ((↑(List.length ys) : Int) - (2 : Int)) < (↑(List.length ys) : Int), decide ((4294967296 : Int) ≤ (↑q : Int)) = false, decide ((4294967296 : Int) ≤ (↑q : Int)) = false, decide ((4294967296 : Int) ≤ (↑q : Int)) = false, decide ((4294967296 : Int) ≤ (↑q : Int)) = false, decide ((4294967296 : Int) ≤ (↑q : Int)) = false, decide ((4294967296 : Int) ≤ (↑q : Int)) = false, decide ((4294967296 : Int) ≤ (↑q : Int)) = false, decide ((4294967296 : Int) ≤ (↑q : Int)) = false, decide ((4294967296 : Int) ≤ (↑q : Int)) = false, (0 : Int) ≤ IntKind.wrap IntKind.i64 ((↑(List.length ys) : Int) - (2 : Int)) ∧ IntKind.wrap IntKind.i64 ((↑(List.length ys) : Int) - (2 : Int)) < (↑(List.length us) : Int), decide ((4294967296 : Int) ≤ (↑q : Int)) = false, decide ((4294967296 : Int) ≤ (↑q : Int)) = false, decide ((4294967296 : Int) ≤ (↑q : Int)) = false, decide ((4294967296 : Int) ≤ (↑q : Int)) = false, decide ((4294967296 : Int) ≤ (↑q : Int)) = false, decide (IntKind.wrap IntKind.u64 (IntKind.wrap IntKind.u64 ((↑r : Int) * (4294967296 : Int)) + IntKind.wrap IntKind.u64 (List.getD us (Int.toNat (IntKind.wrap IntKind.i64 ((↑(List.length ys) : Int) - (2 : Int)))) (0 : Int))) < IntKind.wrap IntKind.u64 ((↑q : Int) * IntKind.wrap IntKind.u64 (List.getD ys (Int.toNat (IntKind.wrap IntKind.i64 ((↑(List.length ys) : Int) - (2 : Int)))) (0 : Int)))) = false]) := by kernel_rfl
theorem run113 (us ys : List Int) : fnEx Tryz.prog (lk E7) L113 (G1 []) 60 Tryz.f113 [roW us, roW ys] = some (AV.s (SV.one (LV.v (Value.int IntKind.u64 (↑(o_gue2 (nv us) (nv ys) (List.length ys) (Int.toNat (IntKind.wrap IntKind.u64 (Int.tdiv (IntKind.wrap IntKind.u64 (IntKind.wrap IntKind.u64 (IntKind.wrap IntKind.u64 (List.getD us (Int.toNat (↑(List.length ys) : Int)) (0 : Int)) * (4294967296 : Int)) + IntKind.wrap IntKind.u64 (List.getD us (Int.toNat (IntKind.wrap IntKind.i64 ((↑(List.length ys) : Int) - (1 : Int)))) (0 : Int)))) (IntKind.wrap IntKind.u64 (List.getD ys (Int.toNat (IntKind.wrap IntKind.i64 ((↑(List.length ys) : Int) - (1 : Int)))) (0 : Int)))))) (Int.toNat (Int.tmod (IntKind.wrap IntKind.u64 (IntKind.wrap IntKind.u64 (IntKind.wrap IntKind.u64 (List.getD us (Int.toNat (↑(List.length ys) : Int)) (0 : Int)) * (4294967296 : Int)) + IntKind.wrap IntKind.u64 (List.getD us (Int.toNat (IntKind.wrap IntKind.i64 ((↑(List.length ys) : Int) - (1 : Int)))) (0 : Int)))) (IntKind.wrap IntKind.u64 (List.getD ys (Int.toNat (IntKind.wrap IntKind.i64 ((↑(List.length ys) : Int) - (1 : Int)))) (0 : Int)))))) : Int)))), [(0 : Int) ≤ (↑(List.length ys) : Int) ∧ (↑(List.length ys) : Int) < (↑(List.length us) : Int), (0 : Int) ≤ IntKind.wrap IntKind.i64 ((↑(List.length ys) : Int) - (1 : Int)) ∧ IntKind.wrap IntKind.i64 ((↑(List.length ys) : Int) - (1 : Int)) < (↑(List.length us) : Int), (0 : Int) ≤ IntKind.wrap IntKind.i64 ((↑(List.length ys) : Int) - (1 : Int)) ∧ IntKind.wrap IntKind.i64 ((↑(List.length ys) : Int) - (1 : Int)) < (↑(List.length ys) : Int), ¬IntKind.wrap IntKind.u64 (List.getD ys (Int.toNat (IntKind.wrap IntKind.i64 ((↑(List.length ys) : Int) - (1 : Int)))) (0 : Int)) = (0 : Int), (0 : Int) ≤ IntKind.wrap IntKind.i64 ((↑(List.length ys) : Int) - (1 : Int)) ∧ IntKind.wrap IntKind.i64 ((↑(List.length ys) : Int) - (1 : Int)) < (↑(List.length ys) : Int), ¬IntKind.wrap IntKind.u64 (List.getD ys (Int.toNat (IntKind.wrap IntKind.i64 ((↑(List.length ys) : Int) - (1 : Int)))) (0 : Int)) = (0 : Int), (↑(List.length ys) : Int) = (↑(List.length ys) : Int), (0 : Int) ≤ IntKind.wrap IntKind.u64 (Int.tdiv (IntKind.wrap IntKind.u64 (IntKind.wrap IntKind.u64 (IntKind.wrap IntKind.u64 (List.getD us (Int.toNat (↑(List.length ys) : Int)) (0 : Int)) * (4294967296 : Int)) + IntKind.wrap IntKind.u64 (List.getD us (Int.toNat (IntKind.wrap IntKind.i64 ((↑(List.length ys) : Int) - (1 : Int)))) (0 : Int)))) (IntKind.wrap IntKind.u64 (List.getD ys (Int.toNat (IntKind.wrap IntKind.i64 ((↑(List.length ys) : Int) - (1 : Int)))) (0 : Int)))) ∧ IntKind.wrap IntKind.u64 (Int.tdiv (IntKind.wrap IntKind.u64 (IntKind.wrap IntKind.u64 (IntKind.wrap IntKind.u64 (List.getD us (Int.toNat (↑(List.length ys) : Int)) (0 : Int)) * (4294967296 : Int)) + IntKind.wrap IntKind.u64 (List.getD us (Int.toNat (IntKind.wrap IntKind.i64 ((↑(List.length ys) : Int) - (1 : Int)))) (0 : Int)))) (IntKind.wrap IntKind.u64 (List.getD ys (Int.toNat (IntKind.wrap IntKind.i64 ((↑(List.length ys) : Int) - (1 : Int)))) (0 : Int)))) < (18446744073709551616 : Int), (0 : Int) ≤ Int.tmod (IntKind.wrap IntKind.u64 (IntKind.wrap IntKind.u64 (IntKind.wrap IntKind.u64 (List.getD us (Int.toNat (↑(List.length ys) : Int)) (0 : Int)) * (4294967296 : Int)) + IntKind.wrap IntKind.u64 (List.getD us (Int.toNat (IntKind.wrap IntKind.i64 ((↑(List.length ys) : Int) - (1 : Int)))) (0 : Int)))) (IntKind.wrap IntKind.u64 (List.getD ys (Int.toNat (IntKind.wrap IntKind.i64 ((↑(List.length ys) : Int) - (1 : Int)))) (0 : Int))) ∧ Int.tmod (IntKind.wrap IntKind.u64 (IntKind.wrap IntKind.u64 (IntKind.wrap IntKind.u64 (List.getD us (Int.toNat (↑(List.length ys) : Int)) (0 : Int)) * (4294967296 : Int)) + IntKind.wrap IntKind.u64 (List.getD us (Int.toNat (IntKind.wrap IntKind.i64 ((↑(List.length ys) : Int) - (1 : Int)))) (0 : Int)))) (IntKind.wrap IntKind.u64 (List.getD ys (Int.toNat (IntKind.wrap IntKind.i64 ((↑(List.length ys) : Int) - (1 : Int)))) (0 : Int))) < (4294967296 : Int), List.length us = List.length ys + (1 : Nat), (2 : Nat) ≤ List.length ys, Words us, Words ys, List.length ys < (137438953472 : Nat)]) := by kernel_rfl
theorem loop114a (ty : TypeId) (zs : List Int) (off cap : Nat) (ys : List Int) (q i : Nat) : codeV Tryz.prog (lk E7) L0 (G1 []) Tryz.f114.ntmps 60 (loopC Tryz.f114 0) [0, 1, 2, 7, 8, 9] [0] (I114 ty zs off cap ys q i) = some (Ex.normal, { tmps := [((0 : Nat), AV.s (SV.one (LV.sl (0 : Nat) off (List.length ys + (1 : Nat)) cap))), ((1 : Nat), AV.s (SV.one (LV.row EK.u32 ys))), ((2 : Nat), AV.s (SV.one (LV.v (Value.int IntKind.u64 (↑q : Int))))), ((7 : Nat), AV.s (SV.one (LV.v (Value.int IntKind.u64 (IntKind.wrap IntKind.u64 (Int.tdiv (IntKind.wrap IntKind.u64 (IntKind.wrap IntKind.u64 ((↑q : Int) * List.getD ys (Int.toNat (↑i : Int)) (0 : Int)) + (↑(o_cm q (nv ys) i) : Int))) (4294967296 : Int))))))), ((8 : Nat), AV.s (SV.one (LV.v (Value.int IntKind.u64 (IntKind.wrap IntKind.u64 ((1 : Int) - IntKind.wrap IntKind.u64 (Int.tdiv (IntKind.wrap IntKind.u64 (IntKind.wrap IntKind.u64 (IntKind.wrap IntKind.u64 ((4294967296 : Int) + IntKind.wrap IntKind.u64 (List.getD (o_win zs off (o_mix (List.length ys + (1 : Nat)) (o_u zs off (List.length ys + (1 : Nat)) + B ^ (List.length ys + (1 : Nat)) - q * nv ys) (o_u zs off (List.length ys + (1 : Nat))) i)) (off + Int.toNat (↑i : Int)) (0 : Int))) - Int.tmod (IntKind.wrap IntKind.u64 (IntKind.wrap IntKind.u64 ((↑q : Int) * List.getD ys (Int.toNat (↑i : Int)) (0 : Int)) + (↑(o_cm q (nv ys) i) : Int))) (4294967296 : Int)) - (↑(o_bw (o_u zs off (List.length ys + (1 : Nat))) (q * nv ys) i) : Int))) (4294967296 : Int)))))))), ((9 : Nat), AV.s (SV.one (LV.v (Value.int IntKind.i64 (IntKind.wrap IntKind.i64 ((↑i : Int) + (1 : Int)))))))], boxes := [((0 : Nat), { ty := ty, bc := BC.ints EK.u32 (List.set (o_win zs off (o_mix (List.length ys + (1 : Nat)) (o_u zs off (List.length ys + (1 : Nat)) + B ^ (List.length ys + (1 : Nat)) - q * nv ys) (o_u zs off (List.length ys + (1 : Nat))) i)) (off + Int.toNat (↑i : Int)) (IntKind.wrap IntKind.u32 (Int.tmod (IntKind.wrap IntKind.u64 (IntKind.wrap IntKind.u64 (IntKind.wrap IntKind.u64 ((4294967296 : Int) + IntKind.wrap IntKind.u64 (List.getD (o_win zs off (o_mix (List.length ys + (1 : Nat)) (o_u zs off (List.length ys + (1 : Nat)) + B ^ (List.length ys + (1 : Nat)) - q * nv ys) (o_u zs off (List.length ys + (1 : Nat))) i)) (off + Int.toNat (↑i : Int)) (0 : Int))) - Int.tmod (IntKind.wrap IntKind.u64 (IntKind.wrap IntKind.u64 ((↑q : Int) * List.getD ys (Int.toNat (↑i : Int)) (0 : Int)) + (↑(o_cm q (nv ys) i) : Int))) (4294967296 : Int)) - (↑(o_bw (o_u zs off (List.length ys + (1 : Nat))) (q * nv ys) i) : Int))) (4294967296 : Int)))), mut_ := true })] }, [decide ((↑i : Int) < (↑(List.length ys + (1 : Nat)) : Int)) = true, (0 : Int) ≤ (↑i : Int), Words ys, ¬(4294967296 : Int) = (0 : Int), (0 : Int) ≤ (↑i : Int) ∧ (↑i : Int) < (↑(List.length ys + (1 : Nat)) : Int), off + Int.toNat (↑i : Int) < List.length (o_win zs off (o_mix (List.length ys + (1 : Nat)) (o_u zs off (List.length ys + (1 : Nat)) + B ^ (List.length ys + (1 : Nat)) - q * nv ys) (o_u zs off (List.length ys + (1 : Nat))) i)), ¬(4294967296 : Int) = (0 : Int), ¬(4294967296 : Int) = (0 : Int), (0 : Int) ≤ (↑i : Int) ∧ (↑i : Int) < (↑(List.length ys + (1 : Nat)) : Int), off + Int.toNat (↑i : Int) < List.length (o_win zs off (o_mix (List.length ys + (1 : Nat)) (o_u zs off (List.length ys + (1 : Nat)) + B ^ (List.length ys + (1 : Nat)) - q * nv ys) (o_u zs off (List.length ys + (1 : Nat))) i)), ¬(4294967296 : Int) = (0 : Int)]) := by kernel_rfl
theorem loop114b (ty : TypeId) (zs : List Int) (off cap : Nat) (ys : List Int) (q i : Nat) : codeV Tryz.prog (lk E7) L0 (G1 [15]) Tryz.f114.ntmps 60 (loopC Tryz.f114 0) [0, 1, 2, 7, 8, 9] [0] (I114 ty zs off cap ys q i) = some (Ex.exit (0 : Nat), { tmps := [((0 : Nat), AV.s (SV.one (LV.sl (0 : Nat) off (List.length ys + (1 : Nat)) cap))), ((1 : Nat), AV.s (SV.one (LV.row EK.u32 ys))), ((2 : Nat), AV.s (SV.one (LV.v (Value.int IntKind.u64 (↑q : Int))))), ((7 : Nat), AV.s (SV.one (LV.v (Value.int IntKind.u64 (↑(o_cm q (nv ys) i) : Int))))), ((8 : Nat), AV.s (SV.one (LV.v (Value.int IntKind.u64 (↑(o_bw (o_u zs off (List.length ys + (1 : Nat))) (q * nv ys) i) : Int))))), ((9 : Nat), AV.s (SV.one (LV.v (Value.int IntKind.i64 (↑i : Int)))))], boxes := [((0 : Nat), { ty := ty, bc := BC.ints EK.u32 (o_win zs off (o_mix (List.length ys + (1 : Nat)) (o_u zs off (List.length ys + (1 : Nat)) + B ^ (List.length ys + (1 : Nat)) - q * nv ys) (o_u zs off (List.length ys + (1 : Nat))) i)), mut_ := true })] }, [decide ((↑i : Int) < (↑(List.length ys + (1 : Nat)) : Int)) = false]) := by kernel_rfl
theorem run114 (ty : TypeId) (zs : List Int) (off cap : Nat) (ys : List Int) (q : Int) : fnMEx Tryz.prog (lk E7) L114 (G1 []) 60 Tryz.f114 ty .u32 zs off (ys.length + 1) cap [roW ys, u64 q] = some (AV.s (SV.one (LV.v (Value.bool (decide ((↑(o_bw (o_u zs off (List.length ys + (1 : Nat))) (Int.toNat q * nv ys) (List.length ys + (1 : Nat))) : Int) = (1 : Int)))))), o_win zs off (o_mix (List.length ys + (1 : Nat)) (o_u zs off (List.length ys + (1 : Nat)) + B ^ (List.length ys + (1 : Nat)) - Int.toNat q * nv ys) (o_u zs off (List.length ys + (1 : Nat))) (List.length ys + (1 : Nat))), [ty = ty, List.length ys + (1 : Nat) = List.length ys + (1 : Nat), (0 : Int) ≤ q ∧ q < (4294967296 : Int), (0 : Int) = (0 : Int), (0 : Int) = (0 : Int), (0 : Int) = (0 : Int), off + (List.length ys + (1 : Nat)) ≤ List.length zs, Words zs, Words ys, List.length ys < (137438953472 : Nat)]) := by kernel_rfl
theorem loop115a (ty : TypeId) (zs : List Int) (off cap : Nat) (ys : List Int) (i : Nat) : codeV Tryz.prog (lk E7) L0 (G1 []) Tryz.f115.ntmps 60 (loopC Tryz.f115 0) [0, 1, 4, 5] [0] (I115 ty zs off cap ys i) = some (Ex.normal, { tmps := [((0 : Nat), AV.s (SV.one (LV.sl (0 : Nat) off (List.length ys + (1 : Nat)) cap))), ((1 : Nat), AV.s (SV.one (LV.row EK.u32 ys))), ((4 : Nat), AV.s (SV.one (LV.v (Value.int IntKind.u64 (IntKind.wrap IntKind.u64 (Int.tdiv (IntKind.wrap IntKind.u64 (IntKind.wrap IntKind.u64 (IntKind.wrap IntKind.u64 (List.getD (o_win zs off (o_mix (List.length ys + (1 : Nat)) (o_u zs off (List.length ys + (1 : Nat)) + nv ys) (o_u zs off (List.length ys + (1 : Nat))) i)) (off + Int.toNat (↑i : Int)) (0 : Int)) + List.getD ys (Int.toNat (↑i : Int)) (0 : Int)) + (↑(o_cy (o_u zs off (List.length ys + (1 : Nat))) (nv ys) i) : Int))) (4294967296 : Int))))))), ((5 : Nat), AV.s (SV.one (LV.v (Value.int IntKind.i64 (IntKind.wrap IntKind.i64 ((↑i : Int) + (1 : Int)))))))], boxes := [((0 : Nat), { ty := ty, bc := BC.ints EK.u32 (List.set (o_win zs off (o_mix (List.length ys + (1 : Nat)) (o_u zs off (List.length ys + (1 : Nat)) + nv ys) (o_u zs off (List.length ys + (1 : Nat))) i)) (off + Int.toNat (↑i : Int)) (IntKind.wrap IntKind.u32 (Int.tmod (IntKind.wrap IntKind.u64 (IntKind.wrap IntKind.u64 (IntKind.wrap IntKind.u64 (List.getD (o_win zs off (o_mix (List.length ys + (1 : Nat)) (o_u zs off (List.length ys + (1 : Nat)) + nv ys) (o_u zs off (List.length ys + (1 : Nat))) i)) (off + Int.toNat (↑i : Int)) (0 : Int)) + List.getD ys (Int.toNat (↑i : Int)) (0 : Int)) + (↑(o_cy (o_u zs off (List.length ys + (1 : Nat))) (nv ys) i) : Int))) (4294967296 : Int)))), mut_ := true })] }, [decide ((↑i : Int) < (↑(List.length ys + (1 : Nat)) : Int)) = true, (0 : Int) ≤ (↑i : Int) ∧ (↑i : Int) < (↑(List.length ys + (1 : Nat)) : Int), off + Int.toNat (↑i : Int) < List.length (o_win zs off (o_mix (List.length ys + (1 : Nat)) (o_u zs off (List.length ys + (1 : Nat)) + nv ys) (o_u zs off (List.length ys + (1 : Nat))) i)), (0 : Int) ≤ (↑i : Int), Words ys, ¬(4294967296 : Int) = (0 : Int), (0 : Int) ≤ (↑i : Int) ∧ (↑i : Int) < (↑(List.length ys + (1 : Nat)) : Int), off + Int.toNat (↑i : Int) < List.length (o_win zs off (o_mix (List.length ys + (1 : Nat)) (o_u zs off (List.length ys + (1 : Nat)) + nv ys) (o_u zs off (List.length ys + (1 : Nat))) i)), ¬(4294967296 : Int) = (0 : Int)]) := by kernel_rfl
theorem loop115b (ty : TypeId) (zs : List Int) (off cap : Nat) (ys : List Int) (i : Nat) : codeV Tryz.prog (lk E7) L0 (G1 [10]) Tryz.f115.ntmps 60 (loopC Tryz.f115 0) [0, 1, 4, 5] [0] (I115 ty zs off cap ys i) = some (Ex.exit (0 : Nat), { tmps := [((0 : Nat), AV.s (SV.one (LV.sl (0 : Nat) off (List.length ys + (1 : Nat)) cap))), ((1 : Nat), AV.s (SV.one (LV.row EK.u32 ys))), ((4 : Nat), AV.s (SV.one (LV.v (Value.int IntKind.u64 (↑(o_cy (o_u zs off (List.length ys + (1 : Nat))) (nv ys) i) : Int))))), ((5 : Nat), AV.s (SV.one (LV.v (Value.int IntKind.i64 (↑i : Int)))))], boxes := [((0 : Nat), { ty := ty, bc := BC.ints EK.u32 (o_win zs off (o_mix (List.length ys + (1 : Nat)) (o_u zs off (List.length ys + (1 : Nat)) + nv ys) (o_u zs off (List.length ys + (1 : Nat))) i)), mut_ := true })] }, [decide ((↑i : Int) < (↑(List.length ys + (1 : Nat)) : Int)) = false]) := by kernel_rfl
theorem run115 (ty : TypeId) (zs : List Int) (off cap : Nat) (ys : List Int) : fnMEx Tryz.prog (lk E7) L115 (G1 []) 60 Tryz.f115 ty .u32 zs off (ys.length + 1) cap [roW ys] = some (AV.tup [], o_win zs off (o_mix (List.length ys + (1 : Nat)) (o_u zs off (List.length ys + (1 : Nat)) + nv ys) (o_u zs off (List.length ys + (1 : Nat))) (List.length ys + (1 : Nat))), [ty = ty, List.length ys + (1 : Nat) = List.length ys + (1 : Nat), (0 : Int) = (0 : Int), (0 : Int) = (0 : Int), off + (List.length ys + (1 : Nat)) ≤ List.length zs, Words zs, Words ys, List.length ys < (137438953472 : Nat)]) := by kernel_rfl 
end Go.Proofs.YtkfdnpbpebmhaaaGreatDoor.Spec
end
namespace Go.Proofs.YtkfdnpbpebmhaaaGreatDoor.Num
open Go.Proofs.YtkfdnpbpebmhaaaGreatDoor.Spec

theorem mix_full (N a b : Nat) : o_mix N a b N = dgs N a := by
  unfold o_mix
  rw [List.drop_eq_nil_of_le (by rw [dgs_length]; exact Nat.le_refl _), List.append_nil]
section
variable {zs : List Int} {off N : Nat}
theorem wmix_len {a b i : Nat} (h : off + N ≤ zs.length) (hi : i ≤ N) : (o_win zs off (o_mix N a b i)).length = zs.length := win_length (by rw [mix_length hi]; exact h)
theorem wmix_get {a b i : Nat} (h : off + N ≤ zs.length) (hi : i < N) : (o_win zs off (o_mix N a b i)).getD (off + i) 0 = ((dg b i : Nat) : Int) := by
  rw [win_get (by rw [mix_length (by omega)]; exact h) (by rw [mix_length (by omega)]; exact hi), mix_get hi]
theorem wmix_set {a b i : Nat} (h : off + N ≤ zs.length) (hi : i < N) : (o_win zs off (o_mix N a b i)).set (off + i) ((dg a i : Nat) : Int) = o_win zs off (o_mix N a b (i + 1)) := by
  rw [win_set (by rw [mix_length (by omega)]; exact h) (by rw [mix_length (by omega)]; exact hi), mix_set hi a rfl rfl]
theorem wmix_zero {a : Nat} (h : off + N ≤ zs.length) (hw : Words zs) : o_win zs off (o_mix N a (o_u zs off N) 0) = zs := by
  have h1 := part_length h
  have h2 := mix_start (part_words (off := off) (len := N) hw) a
  rw [h1] at h2
  rw [show o_u zs off N = nv (o_part zs off N) from rfl, h2, win_self h]
theorem u_win (h : off + N ≤ zs.length) (X : Nat) : o_u (o_win zs off (dgs N X)) off N = X % B ^ N := by
  have := win_part (zs := zs) (W := dgs N X) (off := off) (by rw [dgs_length]; exact h)
  rw [dgs_length] at this
  rw [o_u, this, nv_dgs]
theorem win_words {W : List Int} (hw : Words zs) (hW : Words W) : Words (o_win zs off W) := ((hw.take off).append hW).append fun x hx => hw x (List.mem_of_mem_drop hx)
theorem wdgs_len {X : Nat} (h : off + N ≤ zs.length) : (o_win zs off (dgs N X)).length = zs.length := win_length (by rw [dgs_length]; exact h)
theorem u_lt (h : off + N ≤ zs.length) (hw : Words zs) : o_u zs off N < B ^ N := by
  have := nv_lt (part_words (off := off) (len := N) hw)
  rwa [part_length h] at this
theorem u_get {j : Nat} (hw : Words zs) (hj : j < N) : zs.getD (off + j) 0 = ((dg (o_u zs off N) j : Nat) : Int) := by
  rw [← part_get hj, nv_getD (part_words hw)]; rfl
end

theorem cm_bound {q v i : Nat} (hq : q < B) : o_cm q v i + q * dg v i < B * B := by
  have h1 := cm_le q v i
  have h2 : q * dg v i ≤ q * (B - 1) := Nat.mul_le_mul_left _ (by have := dg_lt v i; omega)
  have h3 : q * (B - 1) + q = q * B := by
    obtain ⟨k, hk⟩ : ∃ k, B = k + 1 := ⟨B - 1, rfl⟩
    rw [hk, Nat.add_sub_cancel, Nat.mul_add, Nat.mul_one]
  have h4 : q * B < B * B := Nat.mul_lt_mul_of_pos_right hq (by decide)
  omega
theorem cm_wrap {q v i : Nat} (hq : q < B) : IntKind.wrap IntKind.u64 (((o_cm q v i : Nat) : Int) + IntKind.wrap IntKind.u64 ((q : Int) * IntKind.wrap IntKind.u64 ((dg v i : Nat) : Int))) = ((o_cm q v i + q * dg v i : Nat) : Int) := by
  have h1 := cm_bound (v := v) (i := i) hq
  have h2 := dg_lt v i
  simp only [w64]
  generalize dg v i = x at *
  generalize o_cm q v i = c at *
  have e : (q : Int) * x = ((q * x : Nat) : Int) := by push_cast; rfl
  unfold B at *
  rw [show (x : Int) % 18446744073709551616 = x by omega, e]
  generalize q * x = y at *
  omega
theorem cm_wrap2 {q v i : Nat} (hq : q < B) : IntKind.wrap IntKind.u64 (IntKind.wrap IntKind.u64 ((q : Int) * ((dg v i : Nat) : Int)) + ((o_cm q v i : Nat) : Int)) = ((o_cm q v i + q * dg v i : Nat) : Int) := by
  have h1 := cm_bound (v := v) (i := i) hq
  simp only [w64]
  generalize dg v i = x at *
  generalize o_cm q v i = c at *
  have e : (q : Int) * x = ((q * x : Nat) : Int) := by push_cast; rfl
  unfold B at *
  rw [e]
  generalize q * x = y at *
  omega
theorem cm_hi (q v i : Nat) : ((o_cm q v i + q * dg v i : Nat) : Int) / 4294967296 = ((o_cm q v (i + 1) : Nat) : Int) := by
  rw [← (cm_step q v i).1, Nat.add_comm]; unfold B; omega
theorem cm_lo (q v i : Nat) : ((o_cm q v i + q * dg v i : Nat) : Int) % 4294967296 = ((dg (q * v) i : Nat) : Int) := by
  rw [← (cm_step q v i).2, Nat.add_comm]; unfold B; omega

end Go.Proofs.YtkfdnpbpebmhaaaGreatDoor.Num
namespace Go.Proofs.YtkfdnpbpebmhaaaGreatDoor.Spec
open Go Go.RowKit Sx Num

theorem fdiv32 (x : Int) : Int.fdiv x ((2 : Int) ^ min (Int.toNat 32) (IntKind.bits IntKind.u64)) = x / 4294967296 := by
  rw [show ((2 : Int) ^ min (Int.toNat 32) (IntKind.bits IntKind.u64)) = 4294967296 from by decide, Int.fdiv_eq_ediv_of_nonneg _ (by decide)]
abbrev W6 : Type := TypeId × List Int × Nat × Nat × List Int × Nat × Nat

/-! the estimate's loop -/
def V94a (x : W6) : Prop := x.2.2.1 + (x.2.2.2.2.1.length + 1) ≤ x.2.1.length ∧ Words x.2.1 ∧ Words x.2.2.2.2.1 ∧ 2 ≤ x.2.2.2.2.1.length ∧ x.2.2.2.2.1.length < 137438953472 ∧ x.2.2.2.2.2.1 < B ∧ x.2.2.2.2.2.2 < B + B
theorem sub94a {st : St} {e : Ex} {s : St} {obs : List Prop} (h : F94a st = some (e, s, obs)) (hob : AllP obs) : ∃ x : W6, V94a x ∧ SubS st (I94a x.1 x.2.1 x.2.2.1 x.2.2.2.1 x.2.2.2.2.1 x.2.2.2.2.2.1 x.2.2.2.2.2.2) ∧ e = .exit 0 ∧ s = J94a x.1 x.2.1 x.2.2.1 x.2.2.2.1 x.2.2.2.2.1 x.2.2.2.2.2.1 x.2.2.2.2.2.2 := by
  unfold F94a at h
  split at h
  · rename_i off len cap ys n q r ty zs h1 h2 h3 h4 h5 h6
    simp only [Option.some.injEq, Prod.mk.injEq] at h
    obtain ⟨rfl, rfl, rfl⟩ := h
    obtain ⟨rfl, rfl, ⟨hq0, hq⟩, ⟨hr0, hr⟩, hoff, hw, hw', h2l, hl, _⟩ := hob
    obtain ⟨q, rfl⟩ := Int.eq_ofNat_of_zero_le hq0
    obtain ⟨r, rfl⟩ := Int.eq_ofNat_of_zero_le hr0
    refine ⟨(ty, zs, off, cap, ys, q, r), ⟨hoff, hw, hw', h2l, hl, by show q < B; unfold B; omega, by show r < B + B; unfold B; omega⟩, ⟨?_, ?_, fun _ => rfl⟩, rfl, rfl⟩
    · intro p hp
      simp only [I94a, List.mem_cons, List.not_mem_nil, or_false] at hp
      rcases hp with rfl | rfl | rfl | rfl | rfl <;> exact ⟨by assumption, rfl⟩
    · intro p hp
      simp only [I94a, List.mem_cons, List.not_mem_nil, or_false] at hp
      subst hp
      exact ⟨by assumption, rfl⟩
  · cases h
theorem lo94a (L : Loops) (hL : L 7 = some F94a) : LoopOk Tryz.prog Tryz.f94.ntmps L (loopC Tryz.f94 0) := by
  refine loop_ok (k := 7) (f := F94a) (α := W6) (by kernel_rfl) hL (fun x => I94a x.1 x.2.1 x.2.2.1 x.2.2.2.1 x.2.2.2.2.1 x.2.2.2.2.2.1 x.2.2.2.2.2.2) (fun x => J94a x.1 x.2.1 x.2.2.1 x.2.2.2.1 x.2.2.2.2.1 x.2.2.2.2.2.1 x.2.2.2.2.2.2) V94a (fun x => x.2.2.2.2.2.1) (.exit 0) (by simp) (fun st e s obs h hob => sub94a h hob) ?_
  rintro ⟨ty, zs, off, cap, ys, q, r⟩ ⟨hoff, hw, hw', h2, hl, hq, hr⟩
  simp only at hoff hw hw' h2 hl hq hr ⊢
  have hno : ∀ d ∈ loopsOf (loopC Tryz.f94 0), LoopOk Tryz.prog Tryz.f94.ntmps L0 d := by rw [show loopsOf (loopC Tryz.f94 0) = [] by kernel_rfl]; intro d hd; cases hd
  have w1 : IntKind.wrap IntKind.i64 ((ys.length : Int) - 1) = ((ys.length - 1 : Nat) : Int) := by rw [wi64 _ (by omega) (by omega)]; omega
  have w2 : IntKind.wrap IntKind.i64 ((ys.length : Int) - 2) = ((ys.length - 2 : Nat) : Int) := by rw [wi64 _ (by omega) (by omega)]; omega
  have g1 : ys.getD (ys.length - 1) 0 = ((dg (nv ys) (ys.length - 1) : Nat) : Int) := nv_getD hw' _
  have g2 : ys.getD (ys.length - 2) 0 = ((dg (nv ys) (ys.length - 2) : Nat) : Int) := nv_getD hw' _
  have g3 : zs.getD (off + (ys.length - 2)) 0 = ((dg (o_u zs off (ys.length + 1)) (ys.length - 2) : Nat) : Int) := u_get hw (by omega)
  have b1 := dg_lt (nv ys) (ys.length - 1)
  have b2 := dg_lt (nv ys) (ys.length - 2)
  have b3 := dg_lt (o_u zs off (ys.length + 1)) (ys.length - 2)
  have hm : IntKind.wrap IntKind.u64 ((q : Int) * IntKind.wrap IntKind.u64 ((dg (nv ys) (ys.length - 2) : Nat) : Int)) = ((q * dg (nv ys) (ys.length - 2) : Nat) : Int) := by
    have hb : q * dg (nv ys) (ys.length - 2) < B * B := Nat.mul_lt_mul_of_lt_of_le hq (Nat.le_of_lt b2) (by decide)
    simp only [w64]
    generalize dg (nv ys) (ys.length - 2) = x at *
    have e : (q : Int) * x = ((q * x : Nat) : Int) := by push_cast; rfl
    unfold B at *
    rw [show (x : Int) % 18446744073709551616 = x by omega, e]
    generalize q * x = y at *
    omega
  by_cases hrB : r < B
  · have hT := or64 r (dg (o_u zs off (ys.length + 1)) (ys.length - 2)) (by unfold B at hrB; omega) (by unfold B at b3; omega)
    have w32r : IntKind.wrap IntKind.u64 (r : Int) = (r : Int) := by rw [w64]; unfold B at hrB; omega
    have hT' : IntKind.wrap IntKind.u64 ((BitVec.ofInt (IntKind.bits IntKind.u64) (IntKind.wrap IntKind.u64 ((r : Int) * (2 : Int) ^ min (Int.toNat 32) (IntKind.bits IntKind.u64))) ||| BitVec.ofInt (IntKind.bits IntKind.u64) (IntKind.wrap IntKind.u64 ((dg (o_u zs off (ys.length + 1)) (ys.length - 2) : Nat) : Int))).toNat : Int) = ((r * 4294967296 + dg (o_u zs off (ys.length + 1)) (ys.length - 2) : Nat) : Int) := by rw [← hT, w32r]
    have hrI : (r : Int) ≤ 4294967295 := by unfold B at hrB; omega
    by_cases hlt : r * B + dg (o_u zs off (ys.length + 1)) (ys.length - 2) < q * dg (nv ys) (ys.length - 2)
    · have hqp : 0 < q := by
        rcases Nat.eq_zero_or_pos q with e | e
        · subst e; omega
        · exact e
      obtain ⟨p, rfl⟩ : ∃ p, q = p + 1 := ⟨q - 1, by omega⟩
      have hI : ((r * 4294967296 + dg (o_u zs off (ys.length + 1)) (ys.length - 2) : Nat) : Int) < (((p + 1) * dg (nv ys) (ys.length - 2) : Nat) : Int) := by exact_mod_cast hlt
      have wq : IntKind.wrap IntKind.u64 (((p + 1 : Nat) : Int) - 1) = (p : Int) := by rw [w64]; unfold B at hq; omega
      have wr : IntKind.wrap IntKind.u64 ((r : Int) + IntKind.wrap IntKind.u64 ((dg (nv ys) (ys.length - 1) : Nat) : Int)) = ((r + dg (nv ys) (ys.length - 1) : Nat) : Int) := by
        simp only [w64]; unfold B at *; omega
      refine (codeV_sound hmix E7ok.hS hno (loop94aa ty zs off cap ys (p + 1) r) ?_).mono ?_
      · simp only [AllP, w1, w2, Int.toNat_natCast, g2, g3, hm, hT', decide_eq_true hrI, decide_eq_true hI]
        simp
        omega
      · rintro e s ⟨rfl, hs⟩
        simp only [w1, Int.toNat_natCast, g1, wr, wq] at hs
        refine .inl ⟨rfl, (ty, zs, off, cap, ys, p, r + dg (nv ys) (ys.length - 1)), ⟨hoff, hw, hw', h2, hl, by show p < B; omega, by show r + dg (nv ys) (ys.length - 1) < B + B; omega⟩, by simp only; omega, hs, ?_⟩
        have e1 : o_red2 (o_u zs off (ys.length + 1)) (nv ys) ys.length (p + 1) r = o_red2 (o_u zs off (ys.length + 1)) (nv ys) ys.length p (r + dg (nv ys) (ys.length - 1)) := by
          conv => lhs; rw [o_red2, o_red, if_pos ⟨hrB, hlt⟩]
          rfl
        simp only [J94a, e1]
    · have hI : ¬ ((r * 4294967296 + dg (o_u zs off (ys.length + 1)) (ys.length - 2) : Nat) : Int) < ((q * dg (nv ys) (ys.length - 2) : Nat) : Int) := by
        intro h; apply hlt; exact_mod_cast h
      refine (codeV_sound hmix E7ok.hS hno (loop94ab ty zs off cap ys q r) ?_).mono ?_
      · simp only [AllP, w2, Int.toNat_natCast, g2, g3, hm, hT', decide_eq_true hrI, decide_eq_false hI]
        simp
        omega
      · rintro e s ⟨rfl, hs⟩
        refine .inr ⟨rfl, ?_⟩
        have e1 : o_red2 (o_u zs off (ys.length + 1)) (nv ys) ys.length q r = q := by
          cases q with
          | zero => rfl
          | succ q => rw [o_red2, o_red, if_neg (fun h => hlt h.2)]
        simp only [J94a, e1]
        exact hs
  · have hI : ¬ (r : Int) ≤ 4294967295 := by unfold B at hrB; omega
    refine (codeV_sound hmix E7ok.hS hno (loop94ac ty zs off cap ys q r) ?_).mono ?_
    · simp only [AllP, decide_eq_false hI]
      simp
    · rintro e s ⟨rfl, hs⟩
      refine .inr ⟨rfl, ?_⟩
      have e1 : o_red2 (o_u zs off (ys.length + 1)) (nv ys) ys.length q r = q := by
        cases q with
        | zero => rfl
        | succ q => rw [o_red2, o_red, if_neg (fun h => hrB h.1)]
      simp only [J94a, e1]
      exact hs

/-! the loop that subtracts -/
def V94b (x : W6) : Prop := x.2.2.1 + (x.2.2.2.2.1.length + 1) ≤ x.2.1.length ∧ Words x.2.1 ∧ Words x.2.2.2.2.1 ∧ x.2.2.2.2.1.length < 137438953472 ∧ x.2.2.2.2.2.1 < B ∧ x.2.2.2.2.2.2 ≤ x.2.2.2.2.1.length + 1
theorem sub94b {st : St} {e : Ex} {s : St} {obs : List Prop} (h : F94b st = some (e, s, obs)) (hob : AllP obs) : ∃ x : W6, V94b x ∧ SubS st (I94b x.1 x.2.1 x.2.2.1 x.2.2.2.1 x.2.2.2.2.1 x.2.2.2.2.2.1 x.2.2.2.2.2.2) ∧ e = .exit 2 ∧ s = I94b x.1 x.2.1 x.2.2.1 x.2.2.2.1 x.2.2.2.2.1 x.2.2.2.2.2.1 (x.2.2.2.2.1.length + 1) := by
  unfold F94b at h
  split at h
  · rename_i off len cap ys q c b n i ty zs h1 h2 h3 h4 h5 h6 h7 h8
    simp only [Option.some.injEq, Prod.mk.injEq] at h
    obtain ⟨rfl, rfl, rfl⟩ := h
    obtain ⟨rfl, ⟨hq0, hq⟩, rfl, rfl, rfl, rfl, hoff, hw, hw', hl, _⟩ := hob
    obtain ⟨q, rfl⟩ := Int.eq_ofNat_of_zero_le hq0
    refine ⟨(ty, zs, off, cap, ys, q, 0), ⟨hoff, hw, hw', hl, by show q < B; unfold B; omega, Nat.zero_le _⟩, ⟨?_, ?_, fun _ => rfl⟩, rfl, rfl⟩
    · intro p hp
      simp only [I94b, List.mem_cons, List.not_mem_nil, or_false, cm_zero, bw_zero] at hp
      rcases hp with rfl | rfl | rfl | rfl | rfl | rfl | rfl <;> exact ⟨by assumption, rfl⟩
    · intro p hp
      simp only [I94b, List.mem_cons, List.not_mem_nil, or_false, wmix_zero hoff hw] at hp
      subst hp
      exact ⟨by assumption, rfl⟩
  · cases h
theorem lo94b (L : Loops) (hL : L 13 = some F94b) : LoopOk Tryz.prog Tryz.f94.ntmps L (loopC Tryz.f94 1) := by
  refine loop_ok (k := 13) (f := F94b) (α := W6) (by kernel_rfl) hL (fun x => I94b x.1 x.2.1 x.2.2.1 x.2.2.2.1 x.2.2.2.2.1 x.2.2.2.2.2.1 x.2.2.2.2.2.2) (fun x => I94b x.1 x.2.1 x.2.2.1 x.2.2.2.1 x.2.2.2.2.1 x.2.2.2.2.2.1 (x.2.2.2.2.1.length + 1)) V94b (fun x => x.2.2.2.2.1.length + 1 - x.2.2.2.2.2.2) (.exit 2) (by simp) (fun st e s obs h hob => sub94b h hob) ?_
  rintro ⟨ty, zs, off, cap, ys, q, i⟩ ⟨hoff, hw, hw', hl, hq, hi⟩
  simp only at hoff hw hw' hl hq hi ⊢
  have hno : ∀ d ∈ loopsOf (loopC Tryz.f94 1), LoopOk Tryz.prog Tryz.f94.ntmps L0 d := by rw [show loopsOf (loopC Tryz.f94 1) = [] by kernel_rfl]; intro d hd; cases hd
  by_cases hlt : i < ys.length + 1
  · have w3 : IntKind.wrap IntKind.i64 ((i : Int) + 1) = ((i + 1 : Nat) : Int) := by rw [wi64 _ (by omega) (by omega)]; omega
    obtain ⟨U, hU⟩ : ∃ U, U = o_u zs off (ys.length + 1) := ⟨_, rfl⟩
    obtain ⟨V, hV⟩ : ∃ V, V = nv ys := ⟨_, rfl⟩
    have hqV : q * V < B ^ (ys.length + 1) := mul_lt_pow hq (by rw [hV]; exact nv_lt hw')
    have hwl : (o_win zs off (o_mix (ys.length + 1) (U + B ^ (ys.length + 1) - q * V) U i)).length = zs.length := wmix_len hoff hi
    have hget : (o_win zs off (o_mix (ys.length + 1) (U + B ^ (ys.length + 1) - q * V) U i)).getD (off + i) 0 = ((dg U i : Nat) : Int) := wmix_get hoff hlt
    have hgy : ys.getD i 0 = ((dg V i : Nat) : Int) := by rw [hV]; exact nv_getD hw' i
    have hT := cm_wrap (v := V) (i := i) hq
    have hlo : IntKind.wrap IntKind.u32 ((o_cm q V i + q * dg V i : Nat) : Int) = ((dg (q * V) i : Nat) : Int) := by rw [w32, cm_lo]
    have hhi : Int.fdiv ((o_cm q V i + q * dg V i : Nat) : Int) ((2 : Int) ^ min (Int.toNat 32) (IntKind.bits IntKind.u64)) = ((o_cm q V (i + 1) : Nat) : Int) := by rw [fdiv32, cm_hi]
    have hdig := sub_dig U (q * V) (ys.length + 1) i hlt (by omega)
    have hbw : (if ((dg U i : Nat) : Int) < ((dg (q * V) i : Nat) : Int) + ((o_bw U (q * V) i : Nat) : Int) then (1 : Int) else 0) = ((o_bw U (q * V) (i + 1) : Nat) : Int) := by
      rw [bw_succ]
      by_cases h : dg U i < dg (q * V) i + o_bw U (q * V) i
      · rw [if_pos h, if_pos (by omega)]; rfl
      · rw [if_neg h, if_neg (by omega)]; rfl
    have b1 := dg_lt U i
    have b2 := dg_lt (q * V) i
    have b3 := bw_le U (q * V) i
    refine (codeV_sound hmix E7ok.hS hno (loop94ba ty zs off cap ys q i) ?_).mono ?_
    · simp only [AllP, Int.toNat_natCast]
      rw [← hU, ← hV]
      simp only [hget, hgy, hT, hlo, hwl]
      unfold B at b1 b2
      simp
      omega
    · rintro e s ⟨rfl, hs⟩
      refine .inl ⟨rfl, (ty, zs, off, cap, ys, q, i + 1), ⟨hoff, hw, hw', hl, hq, by show i + 1 ≤ ys.length + 1; omega⟩, by simp only; omega, ?_, rfl⟩
      simp only [Int.toNat_natCast, w3] at hs
      rw [← hU, ← hV] at hs
      simp only [hget, hgy, hT, hlo, hhi, hbw] at hs
      rw [← hdig, wmix_set hoff hlt] at hs
      simp only [I94b]
      rw [← hU, ← hV]
      exact hs
  · have : i = ys.length + 1 := by omega
    subst this
    refine (codeV_sound hmix E7ok.hS hno (loop94bb ty zs off cap ys q _) ?_).mono ?_
    · simp [AllP]
    · rintro e s ⟨rfl, hs⟩
      exact .inr ⟨rfl, hs⟩

/-! the loop that adds back -/
abbrev W5 : Type := TypeId × List Int × Nat × Nat × List Int × Int × Int × Nat
def V94d (x : W5) : Prop := x.2.2.1 + (x.2.2.2.2.1.length + 1) ≤ x.2.1.length ∧ Words x.2.1 ∧ Words x.2.2.2.2.1 ∧ x.2.2.2.2.1.length < 137438953472 ∧ x.2.2.2.2.2.2.2 ≤ x.2.2.2.2.1.length + 1
theorem sub94d {st : St} {e : Ex} {s : St} {obs : List Prop} (h : F94d st = some (e, s, obs)) (hob : AllP obs) : ∃ x : W5, V94d x ∧ SubS st (I94d x.1 x.2.1 x.2.2.1 x.2.2.2.1 x.2.2.2.2.1 x.2.2.2.2.2.1 x.2.2.2.2.2.2.1 x.2.2.2.2.2.2.2) ∧ e = .exit 6 ∧ s = I94d x.1 x.2.1 x.2.2.1 x.2.2.2.1 x.2.2.2.2.1 x.2.2.2.2.2.1 x.2.2.2.2.2.2.1 (x.2.2.2.2.1.length + 1) := by
  unfold F94d at h
  split at h
  · rename_i off len cap ys q c b n i ty zs h1 h2 h3 h4 h5 h6 h7 h8
    simp only [Option.some.injEq, Prod.mk.injEq] at h
    obtain ⟨rfl, rfl, rfl⟩ := h
    obtain ⟨rfl, rfl, rfl, rfl, hoff, hw, hw', hl, _⟩ := hob
    refine ⟨(ty, zs, off, cap, ys, q, c, 0), ⟨hoff, hw, hw', hl, Nat.zero_le _⟩, ⟨?_, ?_, fun _ => rfl⟩, rfl, rfl⟩
    · intro p hp
      simp only [I94d, List.mem_cons, List.not_mem_nil, or_false, cy_zero] at hp
      rcases hp with rfl | rfl | rfl | rfl | rfl | rfl | rfl <;> exact ⟨by assumption, rfl⟩
    · intro p hp
      simp only [I94d, List.mem_cons, List.not_mem_nil, or_false, wmix_zero hoff hw] at hp
      subst hp
      exact ⟨by assumption, rfl⟩
  · cases h
theorem lo94d (L : Loops) (hL : L 23 = some F94d) : LoopOk Tryz.prog Tryz.f94.ntmps L (loopC Tryz.f94 3) := by
  refine loop_ok (k := 23) (f := F94d) (α := W5) (by kernel_rfl) hL (fun x => I94d x.1 x.2.1 x.2.2.1 x.2.2.2.1 x.2.2.2.2.1 x.2.2.2.2.2.1 x.2.2.2.2.2.2.1 x.2.2.2.2.2.2.2) (fun x => I94d x.1 x.2.1 x.2.2.1 x.2.2.2.1 x.2.2.2.2.1 x.2.2.2.2.2.1 x.2.2.2.2.2.2.1 (x.2.2.2.2.1.length + 1)) V94d (fun x => x.2.2.2.2.1.length + 1 - x.2.2.2.2.2.2.2) (.exit 6) (by simp) (fun st e s obs h hob => sub94d h hob) ?_
  rintro ⟨ty, zs, off, cap, ys, q, c, i⟩ ⟨hoff, hw, hw', hl, hi⟩
  simp only at hoff hw hw' hl hi ⊢
  have hno : ∀ d ∈ loopsOf (loopC Tryz.f94 3), LoopOk Tryz.prog Tryz.f94.ntmps L0 d := by rw [show loopsOf (loopC Tryz.f94 3) = [] by kernel_rfl]; intro d hd; cases hd
  by_cases hlt : i < ys.length + 1
  · have w3 : IntKind.wrap IntKind.i64 ((i : Int) + 1) = ((i + 1 : Nat) : Int) := by rw [wi64 _ (by omega) (by omega)]; omega
    obtain ⟨U, hU⟩ : ∃ U, U = o_u zs off (ys.length + 1) := ⟨_, rfl⟩
    obtain ⟨V, hV⟩ : ∃ V, V = nv ys := ⟨_, rfl⟩
    have hwl : (o_win zs off (o_mix (ys.length + 1) (U + V) U i)).length = zs.length := wmix_len hoff hi
    have hget : (o_win zs off (o_mix (ys.length + 1) (U + V) U i)).getD (off + i) 0 = ((dg U i : Nat) : Int) := wmix_get hoff hlt
    have hgy : ys.getD i 0 = ((dg V i : Nat) : Int) := by rw [hV]; exact nv_getD hw' i
    have hdig : (((dg U i : Nat) : Int) + ((dg V i : Nat) : Int) + ((o_cy U V i : Nat) : Int)) % 4294967296 = ((dg (U + V) i : Nat) : Int) := by rw [dg_add]; unfold B; omega
    have hcy : (((dg U i : Nat) : Int) + ((dg V i : Nat) : Int) + ((o_cy U V i : Nat) : Int)) / 4294967296 = ((o_cy U V (i + 1) : Nat) : Int) := by rw [cy_succ]; unfold B; omega
    have b1 := dg_lt U i
    have b2 := dg_lt V i
    have b3 := cy_le U V i
    refine (codeV_sound hmix E7ok.hS hno (loop94da ty zs off cap ys q c i) ?_).mono ?_
    · simp only [AllP, Int.toNat_natCast]
      rw [← hU, ← hV]
      simp only [hget, hgy, hwl]
      unfold B at b1 b2
      simp
      omega
    · rintro e s ⟨rfl, hs⟩
      refine .inl ⟨rfl, (ty, zs, off, cap, ys, q, c, i + 1), ⟨hoff, hw, hw', hl, by show i + 1 ≤ ys.length + 1; omega⟩, by simp only; omega, ?_, rfl⟩
      simp only [Int.toNat_natCast, w3] at hs
      rw [← hU, ← hV] at hs
      simp only [hget, hgy, hdig, hcy] at hs
      rw [wmix_set hoff hlt] at hs
      simp only [I94d]
      rw [← hU, ← hV]
      exact hs
  · have : i = ys.length + 1 := by omega
    subst this
    refine (codeV_sound hmix E7ok.hS hno (loop94db ty zs off cap ys q c _) ?_).mono ?_
    · simp [AllP]
    · rintro e s ⟨rfl, hs⟩
      exact .inr ⟨rfl, hs⟩

/-! the loop around it -/
abbrev W4 : Type := TypeId × Nat × Nat × List Int × Nat
def V94c (zs : List Int) (x : W4) : Prop := x.2.1 + (x.2.2.2.1.length + 1) ≤ zs.length ∧ Words zs ∧ Words x.2.2.2.1 ∧ x.2.2.2.1.length < 137438953472 ∧ 0 < nv x.2.2.2.1 ∧ x.2.2.2.2 < B ∧ o_u zs x.2.1 (x.2.2.2.1.length + 1) / nv x.2.2.2.1 ≤ x.2.2.2.2
theorem sub94c {zs : List Int} {st : St} {e : Ex} {s : St} {obs : List Prop} (h : F94c zs st = some (e, s, obs)) (hob : AllP obs) : ∃ x : W4, V94c zs x ∧ SubS st (I94c x.1 zs x.2.1 x.2.2.1 x.2.2.2.1 x.2.2.2.2) ∧ e = .exit 4 ∧ s = J94c x.1 zs x.2.1 x.2.2.2.1 := by
  unfold F94c at h
  split at h
  · rename_i off len cap ys q b ty zs' h1 h2 h3 h4 h5
    simp only [Option.some.injEq, Prod.mk.injEq] at h
    obtain ⟨rfl, rfl, rfl⟩ := h
    obtain ⟨rfl, ⟨hq0, hq⟩, hle, rfl, rfl, hoff, hw, hw', hp, hl, _⟩ := hob
    obtain ⟨q, rfl⟩ := Int.eq_ofNat_of_zero_le hq0
    simp only [Int.toNat_natCast] at h4 h5
    refine ⟨(ty, off, cap, ys, q), ⟨hoff, hw, hw', hl, hp, by show q < B; unfold B; omega, by exact_mod_cast hle⟩, ⟨?_, ?_, fun _ => rfl⟩, rfl, rfl⟩
    · intro p hp
      simp only [I94c, List.mem_cons, List.not_mem_nil, or_false] at hp
      rcases hp with rfl | rfl | rfl | rfl <;> exact ⟨by assumption, rfl⟩
    · intro p hp
      simp only [I94c, List.mem_cons, List.not_mem_nil, or_false] at hp
      subst hp
      exact ⟨by assumption, rfl⟩
  · cases h
theorem back_step {u v q N : Nat} (_hu : u < B ^ N) (hlt : u < q * v) (hqv : q * v < B ^ N) (hv : v < B ^ N) (hq : 0 < q) :
    (u + B ^ N - q * v) % B ^ N = u + B ^ N - q * v ∧ u + B ^ N - q * v + v = u + B ^ N - (q - 1) * v ∧ ((1 : Int) - ((o_cy (u + B ^ N - q * v) v N : Nat) : Int)) = (((if u < (q - 1) * v then 1 else 0 : Nat)) : Int) := by
  obtain ⟨p, rfl⟩ : ∃ p, q = p + 1 := ⟨q - 1, by omega⟩
  have e : (p + 1) * v = p * v + v := by rw [Nat.add_mul, Nat.one_mul]
  rw [e] at hlt hqv ⊢
  rw [Nat.add_sub_cancel]
  have h1 : u + B ^ N - (p * v + v) < B ^ N := by omega
  refine ⟨Nat.mod_eq_of_lt h1, by omega, ?_⟩
  rw [cy_end h1 hv]
  by_cases h : u < p * v
  · rw [if_pos h, if_neg (by omega)]; rfl
  · rw [if_neg h, if_pos (by omega)]; rfl
theorem quot_exact {u v q : Nat} (hv : 0 < v) (hle : u / v ≤ q) (hge : q * v ≤ u) : q = u / v ∧ u - q * v = u % v := by
  have h1 : q ≤ u / v := by rw [Nat.le_div_iff_mul_le hv]; exact hge
  have h2 : q = u / v := Nat.le_antisymm h1 hle
  refine ⟨h2, ?_⟩
  rw [h2]
  have := Nat.div_add_mod u v
  rw [Nat.mul_comm] at this
  omega
theorem lo94c (zs : List Int) (L : Loops) (hL : L 19 = some (F94c zs)) : LoopOk Tryz.prog Tryz.f94.ntmps L (loopC Tryz.f94 2) := by
  refine loop_ok (k := 19) (f := F94c zs) (α := W4) (by kernel_rfl) hL (fun x => I94c x.1 zs x.2.1 x.2.2.1 x.2.2.2.1 x.2.2.2.2) (fun x => J94c x.1 zs x.2.1 x.2.2.2.1) (V94c zs) (fun x => x.2.2.2.2) (.exit 4) (by simp) (fun st e s obs h hob => sub94c h hob) ?_
  rintro ⟨ty, off, cap, ys, q⟩ ⟨hoff, hw, hw', hl, hp, hq, hle⟩
  simp only at hoff hw hw' hl hp hq hle ⊢
  have hno : ∀ d ∈ loopsOf (loopC Tryz.f94 2), LoopOk Tryz.prog Tryz.f94.ntmps L94d d := by
    rw [show loopsOf (loopC Tryz.f94 2) = [loopC Tryz.f94 3] by kernel_rfl]
    intro d hd
    rw [List.mem_singleton] at hd
    subst hd
    exact lo94d L94d rfl
  obtain ⟨U, hU⟩ : ∃ U, U = o_u zs off (ys.length + 1) := ⟨_, rfl⟩
  obtain ⟨V, hV⟩ : ∃ V, V = nv ys := ⟨_, rfl⟩
  have hUl : U < B ^ (ys.length + 1) := by rw [hU]; exact u_lt hoff hw
  have hVl : V < B ^ ys.length := by rw [hV]; exact nv_lt hw'
  have hVl' : V < B ^ (ys.length + 1) := Nat.lt_of_lt_of_le hVl (Nat.pow_le_pow_right (by decide) (by omega))
  have hqV : q * V < B ^ (ys.length + 1) := mul_lt_pow hq hVl
  by_cases hlt : U < q * V
  · have hqp : 0 < q := by
      rcases Nat.eq_zero_or_pos q with e | e
      · subst e; rw [Nat.zero_mul] at hlt; omega
      · exact e
    obtain ⟨p, rfl⟩ : ∃ p, q = p + 1 := ⟨q - 1, by omega⟩
    obtain ⟨s1, s2, s3⟩ := back_step hUl hlt hqV hVl' hqp
    rw [Nat.add_sub_cancel] at s2 s3
    have hu1 : o_u (o_win zs off (dgs (ys.length + 1) (U + B ^ (ys.length + 1) - (p + 1) * V))) off (ys.length + 1) = U + B ^ (ys.length + 1) - (p + 1) * V := by rw [u_win hoff, s1]
    have wq : IntKind.wrap IntKind.u64 (((p + 1 : Nat) : Int) - 1) = (p : Int) := by rw [w64]; unfold B at hq; omega
    have hbw : IntKind.wrap IntKind.u32 (((1 : Nat) : Int) - ((o_cy (U + B ^ (ys.length + 1) - (p + 1) * V) V (ys.length + 1) : Nat) : Int)) = (((if U < p * V then 1 else 0 : Nat)) : Int) := by
      rw [show (((1 : Nat) : Int)) = 1 from rfl, s3, w32]
      split <;> rfl
    have hww : o_win (o_win zs off (dgs (ys.length + 1) (U + B ^ (ys.length + 1) - (p + 1) * V))) off (dgs (ys.length + 1) (U + B ^ (ys.length + 1) - p * V)) = o_win zs off (dgs (ys.length + 1) (U + B ^ (ys.length + 1) - p * V)) := win_win (by rw [dgs_length]; exact hoff) (by rw [dgs_length, dgs_length])
    refine (codeV_sound hmix E7ok.hS hno (loop94ca ty zs off cap ys (p + 1)) ?_).mono ?_
    · rw [← hU, ← hV]
      simp only [if_pos hlt]
      simp [AllP, wdgs_len hoff, hoff, hw', hl]
      exact win_words hw (words_dgs _ _)
    · rintro e s ⟨rfl, hs⟩
      refine .inl ⟨rfl, (ty, off, cap, ys, p), ⟨hoff, hw, hw', hl, hp, by show p < B; omega, ?_⟩, by simp only; omega, ?_, rfl⟩
      · show o_u zs off (ys.length + 1) / nv ys ≤ p
        rw [← hU, ← hV]
        have : U / V < p + 1 := by rw [Nat.div_lt_iff_lt_mul (by rw [hV]; exact hp)]; exact hlt
        omega
      · rw [← hU, ← hV] at hs
        simp only [if_pos hlt, wq] at hs
        rw [hu1, mix_full, s2, hww, hbw] at hs
        simp only [I94c]
        rw [← hU, ← hV]
        exact hs
  · refine (codeV_sound hmix E7ok.hS hno (loop94cb ty zs off cap ys q) ?_).mono ?_
    · rw [← hU, ← hV, if_neg hlt]
      simp [AllP]
    · rintro e s ⟨rfl, hs⟩
      refine .inr ⟨rfl, ?_⟩
      rw [← hU, ← hV] at hs hle
      obtain ⟨q1, q2⟩ := quot_exact (by rw [hV]; exact hp) hle (Nat.le_of_not_lt hlt)
      have e1 : dgs (ys.length + 1) (U + B ^ (ys.length + 1) - q * V) = dgs (ys.length + 1) (U % V) := by
        rw [show U + B ^ (ys.length + 1) - q * V = U % V + B ^ (ys.length + 1) by omega, dgs_top]
      rw [e1] at hs
      simp only [J94c]
      rw [← hU, ← hV, ← q1]
      exact hs

end Go.Proofs.YtkfdnpbpebmhaaaGreatDoor.Spec
