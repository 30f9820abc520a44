/- Contracts off the library: strings; Texts: the invariants of the loops; Runs: texts, the inner loop; Contracts: texts; The reference's texts: the invariant; Runs: texts of the reference; Contracts: the reference's texts; Parsing: the invariants; Runs: parsing; numbers; Contracts: parsing; Contracts: parsing by the reference; numbers; Runs: the fixed examples; The fixed examples; The laws: what is handed in; The reading of integers handed in; What all rows share: the listed variables, the reading of integers handed in. -/
import Derived.Test.YtkfdnpbpebmhaaaGreatDoorProg
import Derived.ProofKit
import Derived.OpenShut
import Derived.ChangeSame
import Derived.ChangeSlices
import Derived.WideShapes
import Derived.Test.YtkfdnpbpebmhaaaGreatDoorCards
import Derived.Test.YtkfdnpbpebmhaaaGreatDoorTie
import Derived.ShutString
import Derived.ChangeOld
import Derived.SizedLaws
import Derived.Carry
import Derived.Deep.DeepHandedRow
import Derived.Deep.DeepWitnessRowRef
import Derived.Lib.LaidIn
import Derived.Test.YtkfdnpbpebmhaaaGreatDoorZ0
import Derived.Test.YtkfdnpbpebmhaaaGreatDoorZ1
import Derived.Test.YtkfdnpbpebmhaaaGreatDoorZ2
import Derived.Test.YtkfdnpbpebmhaaaGreatDoorZ3
import Derived.Test.YtkfdnpbpebmhaaaGreatDoorZ4
import Derived.Test.YtkfdnpbpebmhaaaGreatDoorZ5
namespace Go.Proofs.YtkfdnpbpebmhaaaGreatDoor.Spec
open Go Go.RowKit Sx Num

def tx (l : List UInt8) : ByteArray := ⟨l.toArray⟩
theorem tx_list (s : ByteArray) : tx s.data.toList = s := rfl
theorem list_tx (l : List UInt8) : (tx l).data.toList = l := by simp [tx]
theorem tx_inj {a b : List UInt8} (h : tx a = tx b) : a = b := by rw [← list_tx a, h, list_tx]
theorem tx_size (l : List UInt8) : (tx l).size = l.length := by simp [tx, ByteArray.size]
def sStr (s : ByteArray) : SV := .one (.v (.string s))
/-- Leading zeros are cut off. -/
def o_trim0 (s : ByteArray) : ByteArray := tx (s.data.toList.dropWhile (· == 48))
def spTrim0 : Sp
  | [.one (.v (.string s)), .one (.v (.string t))] => some (.s (sStr (o_trim0 s)), [t = tx [48]])
  | _ => none
theorem con64 : Con Tryz.prog 64 spTrim0 := by
  refine con_calls (fun _ => by kernel_rfl) fun avs r ps hs hp => ?_
  unfold spTrim0 at hs
  split at hs
  · rename_i s t
    simp only [Option.some.injEq, Prod.mk.injEq] at hs
    obtain ⟨rfl, rfl⟩ := hs
    obtain ⟨rfl, _⟩ := hp
    exact ⟨[.string s, .string (tx [48])], _, rfl, rfl, fun _ _ _ => rfl, fun w => (Tryz.strings_TrimLeft_one s 48 (by decide) w).mono fun _ _ h => below_rfl h⟩
  · cases hs
/-- A minus sign is cut off. -/
def o_hasm (s : ByteArray) : Bool := Lib.hasPrefix s.data.toList [45]
def o_cutm (s : ByteArray) : ByteArray := tx (Lib.trimPrefix s.data.toList [45])
def spCutm : Sp
  | [.one (.v (.string s)), .one (.v (.string t))] => some (.tup [sStr (o_cutm s), boo (o_hasm s)], [t = tx [45]])
  | _ => none
theorem con66 : Con Tryz.prog 66 spCutm := by
  refine con_calls (fun _ => by kernel_rfl) fun avs r ps hs hp => ?_
  unfold spCutm at hs
  split at hs
  · rename_i s t
    simp only [Option.some.injEq, Prod.mk.injEq] at hs
    obtain ⟨rfl, rfl⟩ := hs
    obtain ⟨rfl, _⟩ := hp
    exact ⟨[.string s, .string (tx [45])], .tuple #[.string (o_cutm s), .bool (o_hasm s)], rfl, rfl, fun _ _ _ => ⟨_, rfl, rfl, rfl, trivial⟩, fun w => (Tryz.strings_CutPrefix s (tx [45]) w).mono fun _ _ h => below_rfl h⟩
  · cases hs
/-- Digits at both ends are cut off. -/
def digs10 : List UInt8 := [48, 49, 50, 51, 52, 53, 54, 55, 56, 57]
def o_trimd (s : ByteArray) : ByteArray := tx (Lib.trimS s.data.toList digs10)
def spTrimd : Sp
  | [.one (.v (.string s)), .one (.v (.string t))] => some (.s (sStr (o_trimd s)), [t = tx digs10, s.size ≤ 9223372036854775807])
  | _ => none
theorem con67 : Con Tryz.prog 67 spTrimd := by
  refine con_calls (fun _ => by kernel_rfl) fun avs r ps hs hp => ?_
  unfold spTrimd at hs
  split at hs
  · rename_i s t
    simp only [Option.some.injEq, Prod.mk.injEq] at hs
    obtain ⟨rfl, rfl⟩ := hs
    obtain ⟨rfl, hsz, _⟩ := hp
    exact ⟨[.string s, .string (tx digs10)], _, rfl, rfl, fun _ _ _ => rfl, fun w => Go.Proofs.Any.strings_Trim_laid Tryz.lays160 (by kernel_rfl) s (tx digs10) w hsz (by decide) (Go.Proofs.ascii_of_all (by decide))⟩
  · cases hs
/-- The worth of a short row of digits. -/
def o_pu (s : ByteArray) : Int := (val10 s.data.toList : Nat)
def o_short (s : ByteArray) : Prop := (∀ c ∈ s.data.toList, isDig c = true) ∧ 0 < s.size ∧ s.size ≤ 9
def spPU : Sp
  | [.one (.v (.string s)), .one (.v (.int .i64 b)), .one (.v (.int .i64 n))] => some (.tup [.one (.v (.int .u64 (o_pu s))), .one (.v .nilIface)], [b = 10, n = 32, o_short s])
  | _ => none
theorem val10_lt : ∀ (l : List UInt8) (a : Nat), (∀ c ∈ l, isDig c = true) → l.foldl (fun a c => a * 10 + (c.toNat - 48)) a < (a + 1) * 10 ^ l.length
  | [], a, _ => by simp
  | c :: l, a, h => by
    have hc := isDig_iff.1 (h c (by simp))
    have := val10_lt l (a * 10 + (c.toNat - 48)) fun d hd => h d (by simp [hd])
    rw [List.foldl_cons, List.length_cons, Nat.pow_succ]
    refine Nat.lt_of_lt_of_le this ?_
    rw [Nat.mul_comm (10 ^ l.length), ← Nat.mul_assoc]
    exact Nat.mul_le_mul_right _ (by omega)
theorem pu_ok : ∀ (l : List UInt8) (a : Nat), (∀ c ∈ l, isDig c = true) → (a + 1) * 10 ^ l.length ≤ 4294967296 → Lib.parseUintM (2 ^ 32 - 1) a l = .ok (l.foldl (fun a c => a * 10 + (c.toNat - 48)) a)
  | [], a, _, _ => by simp [Lib.parseUintM]
  | c :: l, a, h, hb => by
    have hc := isDig_iff.1 (h c (by simp))
    have hp : 0 < 10 ^ l.length := Nat.pow_pos (by decide)
    rw [List.length_cons, Nat.pow_succ, Nat.mul_comm (10 ^ l.length), ← Nat.mul_assoc] at hb
    have hb1 : (a + 1) * 10 ≤ 4294967296 := Nat.le_trans (Nat.le_mul_of_pos_right _ hp) hb
    have hb2 : (a * 10 + (c.toNat - 48) + 1) * 10 ^ l.length ≤ 4294967296 := Nat.le_trans (Nat.mul_le_mul_right _ (by omega)) hb
    rw [Lib.parseUintM, if_pos hc, if_neg (by omega), if_neg (by omega), pu_ok l _ (fun d hd => h d (by simp [hd])) hb2]
    rfl
theorem con68 : Con Tryz.prog 68 spPU := by
  refine con_calls (fun _ => by kernel_rfl) fun avs r ps hs hp => ?_
  unfold spPU at hs
  split at hs
  · rename_i s b n
    simp only [Option.some.injEq, Prod.mk.injEq] at hs
    obtain ⟨rfl, rfl⟩ := hs
    obtain ⟨rfl, rfl, ⟨hd, h0, h9⟩, _⟩ := hp
    have hl : s.data.toList.length = s.size := Array.length_toList
    have hpow : 10 ^ s.data.toList.length ≤ 10 ^ 9 := Nat.pow_le_pow_right (by decide) (by omega)
    have hok : Lib.parseUintB 32 s.data.toList = .ok (val10 s.data.toList) := by
      unfold Lib.parseUintB
      rw [if_neg (by intro e; rw [e] at hl; have : s.size = 0 := hl.symm; omega)]
      exact pu_ok _ 0 hd (by omega)
    exact ⟨[.string s, .int .i64 10, .int .i64 32], .tuple #[.int .u64 (o_pu s), .nilIface], rfl, rfl, fun _ _ _ => ⟨_, rfl, rfl, rfl, trivial⟩, fun w => (Tryz.strconv_ParseUint_10_at32_ok s (by omega) _ hok w).mono fun _ _ h => ⟨h.1, by
      rcases h.2 with rfl | rfl
      · exact Below.refl _ _
      · exact Lib.bytesWorld_below _ _ _⟩⟩
  · cases hs

/-- Strings one behind the other. -/
def joinL (zs : List Int) : List UInt8 := (zs.map fun z => (o_str z).data.toList).flatten
def o_join (zs : List Int) : ByteArray := tx (joinL zs)
theorem join_flat : ∀ (xs : List (List UInt8)), Lib.join xs [] = xs.flatten
  | [] => rfl
  | x :: xs => by
    rw [Lib.join_cons, List.flatten_cons]
    congr 1
    unfold Lib.joinTail
    congr 1
    simp
def spJoin : Sp
  | [.one (.row .str zs), .one (.v (.string t))] => some (.s (sStr (o_join zs)), [t = tx [], zs.length ≤ 1000000000 ∧ (joinL zs).length ≤ 100000000000])
  | [.one (.v (.slice none 0 0)), .one (.v (.string t))] => some (.s (sStr (o_join [])), [t = tx []])
  | _ => none
theorem addr_plain {w : World} {ad : Addr} {v : Value} (h : w.cell? (ad.add 0) = some v) : ad = ⟨ad.block, ad.off, none⟩ ∧ ad.block < w.heap.size := by
  have e : ad.add 0 = ad := by simp [Addr.add]
  rw [e] at h
  unfold World.cell? at h
  split at h
  · rename_i c _ _ hb
    refine ⟨?_, (Array.getElem?_eq_some_iff.1 hb).1⟩
    split at h
    · cases h
    · rename_i hs
      obtain ⟨b, o, sp⟩ := ad
      cases sp with
      | none => rfl
      | some x => simp at hs
  · cases h
theorem con65 : Con Tryz.prog 65 spJoin := by
  refine ⟨fun _ => by kernel_rfl, fun avs r ps hs hp M β w vs hM hg => ?_⟩
  unfold spJoin at hs
  split at hs
  · rename_i zs t
    simp only [Option.some.injEq, Prod.mk.injEq] at hs
    obtain ⟨rfl, rfl⟩ := hs
    obtain ⟨rfl, ⟨hN, hT⟩, _⟩ := allP_iff.2 hp
    match hv : vs.toList, hg with
    | [u, u2], hg =>
      obtain ⟨⟨A, c, hu, h1, h2, h3⟩, hu2, _⟩ := hg
      have hu2 : u2 = .string (tx []) := hu2
      have evs : vs = #[.slice A zs.length c, .string (tx [])] := by apply Array.toList_inj.1; rw [hv, hu, hu2]
      subst evs
      rcases Nat.eq_zero_or_pos zs.length with h0 | h0
      · have : zs = [] := List.length_eq_zero_iff.1 h0
        subst this
        refine (Tryz.strings_Join_none A c (tx []) w).mono fun e w' h => ?_
        obtain ⟨rfl, rfl⟩ := h
        exact ⟨_, rfl, rfl, rfl, Below.refl _ _⟩
      · obtain ⟨ad, rfl, hc⟩ := h3 w (fun _ _ _ => rfl) h0
        obtain ⟨had, hbk⟩ := addr_plain (hc 0 h0)
        have hjl : Lib.join ((zs.map o_str).map (·.data.toList)) (tx []).data.toList = joinL zs := by
          rw [list_tx, join_flat, List.map_map]; rfl
        have := Tryz.strings_Join ad.block ad.off c (zs.map o_str) (tx []) w (fun j x hj => by
          rw [List.getElem?_map] at hj
          obtain ⟨z, hz, rfl⟩ := Option.map_eq_some_iff.1 hj
          have hlt := (List.getElem?_eq_some_iff.1 hz).1
          have := hc j hlt
          rw [had, addr_add] at this
          rw [this, List.getD, hz]
          rfl) hbk (by rw [List.length_map]; omega) (by rw [List.length_map]; exact h1) (by rw [hjl]; omega)
        rw [hjl, List.length_map, ← had] at this
        refine this.mono fun e w' h => ?_
        obtain ⟨rfl, hb⟩ := h
        exact ⟨_, rfl, rfl, rfl, hb⟩
    | [], hg => exact hg.elim
    | [_], hg => exact hg.2.elim
    | _ :: _ :: _ :: _, hg => exact hg.2.2.elim
  · rename_i t
    simp only [Option.some.injEq, Prod.mk.injEq] at hs
    obtain ⟨rfl, rfl⟩ := hs
    obtain ⟨rfl, _⟩ := allP_iff.2 hp
    have evs : vs = #[.slice none 0 0, .string (tx [])] := by
      apply Array.toList_inj.1
      rw [gSs_vals (xs := [.slice none 0 0, .string (tx [])]) hg]
    subst evs
    refine (Tryz.strings_Join_none none 0 (tx []) w).mono fun e w' h => ?_
    obtain ⟨rfl, rfl⟩ := h
    exact ⟨_, rfl, rfl, rfl, Below.refl _ _⟩
  · cases hs
/-- Turning a row of strings round. -/
def spRev : SpG := fun k xs => match k with
  | .str => some (xs.reverse, [xs.length ≤ 1000000000])
  | _ => none
theorem setCells_row (b : Nat) (ty : TypeId) : ∀ (vs : List Value) (o : Nat) (w : World) (arr : Array Value), w.heap[b]? = some (.cells arr ty (0, 0)) → o + vs.length ≤ arr.size →
    (∃ arr' : Array Value, (w.setCells b o vs).heap[b]? = some (.cells arr' ty (0, 0)) ∧ arr'.toList = arr.toList.take o ++ (vs ++ arr.toList.drop (o + vs.length))) ∧ Bel w.heap.size (· = b) w (w.setCells b o vs)
  | [], o, w, arr, h, _ => ⟨⟨arr, h, by simp⟩, Bel.refl _ _ _⟩
  | v :: vs, o, w, arr, h, hs => by
    have hlt : b < w.heap.size := (Array.getElem?_eq_some_iff.1 h).1
    have hs : o + (vs.length + 1) ≤ arr.size := hs
    have h1 : (w.setCell ⟨b, o, none⟩ v).heap[b]? = some (.cells (arr.setIfInBounds o v) ty (0, 0)) := by
      simp [World.setCell, Array.getElem?_modify, h]
    have hb1 : Bel w.heap.size (· = b) w (w.setCell ⟨b, o, none⟩ v) := by
      refine ⟨rfl, rfl, rfl, by simp [World.setCell], fun k _ hk => ?_⟩
      have : ¬ b = k := fun e => hk e.symm
      simp [World.setCell, Array.getElem?_modify, this]
    obtain ⟨⟨arr', h2, h3⟩, h4⟩ := setCells_row b ty vs (o + 1) _ _ h1 (by simp; omega)
    refine ⟨⟨arr', h2, ?_⟩, hb1.trans ⟨h4.os, h4.tape, h4.output, h4.size, fun k hk hx => h4.block k (by simp [World.setCell]; exact hk) hx⟩⟩
    rw [h3, Array.toList_setIfInBounds]
    have hl : o < arr.toList.length := by rw [Array.length_toList]; omega
    have e1 : (arr.toList.set o v).take (o + 1) = arr.toList.take o ++ [v] := by
      rw [List.take_set, List.take_succ_eq_append_getElem hl, List.set_append_right _ _ (by rw [List.length_take]; omega), List.length_take, Nat.min_eq_left (by omega), Nat.sub_self]; rfl
    have e2 : (arr.toList.set o v).drop (o + 1 + vs.length) = arr.toList.drop (o + 1 + vs.length) := List.drop_set_of_lt (by omega)
    rw [e1, e2, show o + 1 + vs.length = o + (v :: vs).length by rw [List.length_cons]; omega]
    simp
theorem con63 : ConG Tryz.prog 63 spRev := by
  refine ⟨fun _ => by kernel_rfl, ?_, ?_, ?_⟩
  · intro k xs xs' ps hs hp w g ty arr cap rest hg hl hsz hcap
    unfold spRev at hs
    split at hs
    · simp only [Option.some.injEq, Prod.mk.injEq] at hs
      obtain ⟨rfl, rfl⟩ := hs
      have hn := hp _ (List.mem_singleton.2 rfl)
      have hlen : arr.size = xs.length + rest.length := by rw [← Array.length_toList, hl]; simp
      have hcell : ∀ i, i < xs.length → w.cell? ⟨g, 0 + i, none⟩ = some (.string (o_str (xs.getD i 0))) := fun i hi => by
        unfold World.cell?
        rw [hg]
        have : arr.toList[i]? = some (mkV .str (xs.getD i 0)) := by
          rw [hl, List.getElem?_append_left (by simpa using hi), List.getElem?_map, List.getElem?_eq_getElem hi]
          simp [List.getD, List.getElem?_eq_getElem hi]
        simpa [mkV] using this
      refine (Tryz.slices_Reverse_string_cells g 0 xs.length cap (fun i => o_str (xs.getD i 0)) w (by omega) hcell (fun j hj => by unfold World.frozen?; rw [hg]; simp)).mono fun e w' h => ?_
      obtain ⟨rfl, q, rfl⟩ := h
      have hrev : (Lib.strsOf (fun i => o_str (xs.getD i 0)) xs.length).reverse.map encStr = xs.reverse.map (mkV .str) := by
        rw [List.map_reverse, List.map_reverse]
        congr 1
        unfold Lib.strsOf
        rw [List.map_map]
        apply List.ext_getElem
        · simp
        · intro i h1 h2
          simp only [List.length_map, List.length_range] at h1
          simp [mkV, List.getD, List.getElem?_eq_getElem h1]
      rw [hrev]
      obtain ⟨⟨arr', h1, h2⟩, h3⟩ := setCells_row g ty (xs.reverse.map (mkV .str)) 0 (w.drewN q) arr hg (by simp; omega)
      refine ⟨rfl, ?_, arr', h1, ?_⟩
      · exact ⟨h3.os, h3.tape, h3.output, h3.size, h3.block⟩
      · rw [h2, hl]
        simp
    · cases hs
  · intro w
    refine (Tryz.slices_Reverse_string_empty none 0 w).mono fun e w' h => ?_
    obtain ⟨rfl, rfl⟩ := h
    exact ⟨rfl, Below.refl _ _⟩
  · intro k xs xs' ps hs hp
    unfold spRev at hs
    split at hs
    · simp only [Option.some.injEq, Prod.mk.injEq] at hs
      obtain ⟨rfl, rfl⟩ := hs
      simp
    · cases hs
def E20 : List (Nat × Ctr) := (64, .fn spTrim0) :: (66, .fn spCutm) :: (67, .fn spTrimd) :: (68, .fn spPU) :: (65, .fn spJoin) :: (63, .mg spRev) :: E19
theorem E20ok : EnvOk Tryz.prog E20 := .cons con64 (.cons con66 (.cons con67 (.cons con68 (.cons con65 (.cons con63 E19ok)))))

end Go.Proofs.YtkfdnpbpebmhaaaGreatDoor.Spec
namespace Go.Proofs.YtkfdnpbpebmhaaaGreatDoor.Spec
open Go Go.RowKit Sx Num

/-- Nine places, of which the last i hold digits. -/
def dgI (r : Nat) : Nat → List Int
  | 0 => []
  | i + 1 => ((48 + r / 10 ^ i % 10 : Nat) : Int) :: dgI r i
def o_pd (r i : Nat) : List Int := List.replicate (9 - i) 0 ++ dgI r i
/-- The pieces of a text: none yet, or some. -/
def prT (d : Bool) (zs : List Int) : AV := bif d then .s (.one (.v (.slice none 0 0))) else .s (.one (.gsl 36 zs.length))
def prB (d : Bool) (zs : List Int) : List (Nat × Box) := bif d then [] else [(36, ⟨9, .gi .str zs, true⟩)]
/-- The inner loop. -/
def I28i (ty1 ty6 : TypeId) (d : Bool) (zs : List Int) (x : Int) (n r i : Nat) : St :=
  ⟨[(1, ptrV 1), (3, prT d zs), (4, .s (roW (enc n))), (5, .s (u32 ((r / 10 ^ i : Nat) : Int))), (6, ptrV 6), (19, .s (num i))], (6, ⟨ty6, .ints .u8 (o_pd r i), true⟩) :: (1, bxZ ty1 x) :: prB d zs⟩
def F28i (d : Bool) (st : St) : Option (Ex × St × List Prop) :=
  match liv st.boxes 0, lk st.tmps 1, lk st.tmps 4, lk st.tmps 5, lk st.tmps 6, lk st.tmps 19, lk st.boxes 6, lk st.boxes 1 with
  | false, some (.s (.one (.ptr 1 0))), some (.s (.one (.row .u32 xs))), some (.s (.one (.v (.int .u32 r)))), some (.s (.one (.ptr 6 0))), some (.s (.one (.v (.int .i64 i)))), some ⟨ty6, .ints .u8 ys, true⟩, some ⟨ty1, .cells [.v (.bool s), .row .u32 zs], true⟩ =>
    match d, lk st.tmps 3, lk st.boxes 36 with
    | true, some (.s (.one (.v (.slice none 0 0)))), none => some (.exit 2, I28i ty1 ty6 true [] (o_toI s zs) (nv xs) r.toNat 9, [Canon xs, o_ok s zs, 0 ≤ r ∧ r < 4294967296, i = 0, ys = List.replicate 9 0])
    | false, some (.s (.one (.gsl 36 m))), some ⟨9, .gi .str ps, true⟩ => some (.exit 2, I28i ty1 ty6 false ps (o_toI s zs) (nv xs) r.toNat 9, [m = ps.length, Canon xs, o_ok s zs, 0 ≤ r ∧ r < 4294967296, i = 0, ys = List.replicate 9 0])
    | _, _, _ => none
  | _, _, _, _, _, _, _, _ => none
def L28i (d : Bool) : Loops := fun k => bif Nat.beq k 8 then some (F28i d) else none

/-- The pieces of a number: nine digits each, the last ones first. -/
def cks (N m : Nat) : List Int := (List.range m).map fun j => o_stri (tx (pad 9 (N / 10 ^ (9 * j))))
/-- The outer loop. -/
def I28 (ty1 : TypeId) (d : Bool) (x : Int) (n : Nat) (zs : List Int) : St :=
  ⟨[(1, ptrV 1), (3, prT d zs), (4, .s (roW (enc n)))], (1, bxZ ty1 x) :: prB d zs⟩
def E28 (ty1 : TypeId) (d : Bool) (x : Int) (zs : List Int) : St := ⟨[(1, ptrV 1), (3, prT d zs)], (1, bxZ ty1 x) :: prB d zs⟩
/-- The pieces of all of a number. -/
def npc (n : Nat) : Nat := if h : n = 0 then 0 else npc (n / 1000000000) + 1
termination_by n
decreasing_by omega
def o_pcs (n : Nat) : List Int := cks n (npc n)
def F28 (d : Bool) (st : St) : Option (Ex × St × List Prop) :=
  match liv st.boxes 0, lk st.tmps 1, lk st.tmps 3, lk st.tmps 4, lk st.boxes 1 with
  | false, some (.s (.one (.ptr 1 0))), some (.s (.one (.v (.slice none 0 0)))), some (.s (.one (.row .u32 xs))), some ⟨ty1, .cells [.v (.bool s), .row .u32 zs], true⟩ =>
    some (.exit 0, E28 ty1 d (o_toI s zs) (o_pcs (nv xs)), [Canon xs, o_ok s zs, xs.length ≤ 100000000, bif d then nv xs = 0 else nv xs ≠ 0])
  | _, _, _, _, _ => none
def L28 (d : Bool) : Loops := fun k => bif Nat.beq k 3 then some (F28 d) else none

end Go.Proofs.YtkfdnpbpebmhaaaGreatDoor.Spec
section
set_option maxRecDepth 100000
namespace Go.Proofs.YtkfdnpbpebmhaaaGreatDoor.Spec
open Go Go.RowKit Sx Num

theorem loop28a (ty1 ty6 : TypeId) (zs : List Int) (x : Int) (n r i : Nat) : codeV Tryz.prog (lk E20) L0 (G1 []) Tryz.f28.ntmps 60 (loopC Tryz.f28 1) [1, 3, 4, 5, 6, 19] [6, 1, 36] (I28i ty1 ty6 true zs x n r i) = (let q0 := (8 : Int) - (↑i : Int); let q1 := (↑(r / (10 : Nat) ^ i) : Int); let q2 := IntKind.wrap .i64 q0; some (Ex.normal, { tmps := [((1 : Nat), AV.s (SV.one (LV.ptr (1 : Nat) (0 : Nat)))), ((3 : Nat), AV.s (SV.one (LV.v (Value.slice none (0 : Nat) (0 : Nat))))), ((4 : Nat), AV.s (SV.one (LV.row EK.u32 (enc n)))), ((5 : Nat), AV.s (SV.one (LV.v (Value.int .u32 (IntKind.wrap .u32 (Int.tdiv q1 (10 : Int))))))), ((6 : Nat), AV.s (SV.one (LV.ptr (6 : Nat) (0 : Nat)))), ((19 : Nat), AV.s (SV.one (LV.v (Value.int .i64 (IntKind.wrap .i64 ((↑i : Int) + (1 : Int)))))))], boxes := [((6 : Nat), { ty := ty6, bc := BC.ints EK.u8 (List.set (o_pd r i) ((0 : Nat) + Int.toNat q2 * nat_lit 1) (IntKind.wrap .u8 (IntKind.wrap .u32 ((48 : Int) + Int.tmod q1 (10 : Int))))), mut_ := true }), ((1 : Nat), { ty := ty1, bc := BC.cells [LV.v (Value.bool (decide (x < (0 : Int)))), LV.row EK.u32 (enc (Int.natAbs x))], mut_ := true })] }, [decide ((↑i : Int) < (9 : Int)) = true, ¬(10 : Int) = (0 : Int), (0 : Int) ≤ IntKind.wrap .i64 q0 ∧ IntKind.wrap .i64 q0 < (↑(9 : Nat) : Int), (0 : Nat) + Int.toNat q2 * nat_lit 1 < List.length (o_pd r i), ¬(10 : Int) = (0 : Int)])) := by kernel_rfl
theorem loop28b (ty1 ty6 : TypeId) (zs : List Int) (x : Int) (n r i : Nat) : codeV Tryz.prog (lk E20) L0 (G1 [20]) Tryz.f28.ntmps 60 (loopC Tryz.f28 1) [1, 3, 4, 5, 6, 19] [6, 1, 36] (I28i ty1 ty6 true zs x n r i) = some (Ex.exit (2 : Nat), { tmps := [((1 : Nat), AV.s (SV.one (LV.ptr (1 : Nat) (0 : Nat)))), ((3 : Nat), AV.s (SV.one (LV.v (Value.slice none (0 : Nat) (0 : Nat))))), ((4 : Nat), AV.s (SV.one (LV.row EK.u32 (enc n)))), ((5 : Nat), AV.s (SV.one (LV.v (Value.int .u32 (↑(r / (10 : Nat) ^ i) : Int))))), ((6 : Nat), AV.s (SV.one (LV.ptr (6 : Nat) (0 : Nat)))), ((19 : Nat), AV.s (SV.one (LV.v (Value.int .i64 (↑i : Int)))))], boxes := [((6 : Nat), { ty := ty6, bc := BC.ints EK.u8 (o_pd r i), mut_ := true }), ((1 : Nat), { ty := ty1, bc := BC.cells [LV.v (Value.bool (decide (x < (0 : Int)))), LV.row EK.u32 (enc (Int.natAbs x))], mut_ := true })] }, [decide ((↑i : Int) < (9 : Int)) = false]) := by kernel_rfl
theorem loop28c (ty1 ty6 : TypeId) (zs : List Int) (x : Int) (n r i : Nat) : codeV Tryz.prog (lk E20) L0 (G1 []) Tryz.f28.ntmps 60 (loopC Tryz.f28 1) [1, 3, 4, 5, 6, 19] [6, 1, 36] (I28i ty1 ty6 false zs x n r i) = (let q0 := (8 : Int) - (↑i : Int); let q1 := (↑(r / (10 : Nat) ^ i) : Int); let q2 := IntKind.wrap .i64 q0; some (Ex.normal, { tmps := [((1 : Nat), AV.s (SV.one (LV.ptr (1 : Nat) (0 : Nat)))), ((3 : Nat), AV.s (SV.one (LV.gsl (36 : Nat) (List.length zs)))), ((4 : Nat), AV.s (SV.one (LV.row EK.u32 (enc n)))), ((5 : Nat), AV.s (SV.one (LV.v (Value.int .u32 (IntKind.wrap .u32 (Int.tdiv q1 (10 : Int))))))), ((6 : Nat), AV.s (SV.one (LV.ptr (6 : Nat) (0 : Nat)))), ((19 : Nat), AV.s (SV.one (LV.v (Value.int .i64 (IntKind.wrap .i64 ((↑i : Int) + (1 : Int)))))))], boxes := [((6 : Nat), { ty := ty6, bc := BC.ints EK.u8 (List.set (o_pd r i) ((0 : Nat) + Int.toNat q2 * nat_lit 1) (IntKind.wrap .u8 (IntKind.wrap .u32 ((48 : Int) + Int.tmod q1 (10 : Int))))), mut_ := true }), ((1 : Nat), { ty := ty1, bc := BC.cells [LV.v (Value.bool (decide (x < (0 : Int)))), LV.row EK.u32 (enc (Int.natAbs x))], mut_ := true }), ((36 : Nat), { ty := nat_lit 9, bc := BC.gi EK.str zs, mut_ := true })] }, [decide ((↑i : Int) < (9 : Int)) = true, ¬(10 : Int) = (0 : Int), (0 : Int) ≤ IntKind.wrap .i64 q0 ∧ IntKind.wrap .i64 q0 < (↑(9 : Nat) : Int), (0 : Nat) + Int.toNat q2 * nat_lit 1 < List.length (o_pd r i), ¬(10 : Int) = (0 : Int)])) := by kernel_rfl
theorem loop28d (ty1 ty6 : TypeId) (zs : List Int) (x : Int) (n r i : Nat) : codeV Tryz.prog (lk E20) L0 (G1 [20]) Tryz.f28.ntmps 60 (loopC Tryz.f28 1) [1, 3, 4, 5, 6, 19] [6, 1, 36] (I28i ty1 ty6 false zs x n r i) = some (Ex.exit (2 : Nat), { tmps := [((1 : Nat), AV.s (SV.one (LV.ptr (1 : Nat) (0 : Nat)))), ((3 : Nat), AV.s (SV.one (LV.gsl (36 : Nat) (List.length zs)))), ((4 : Nat), AV.s (SV.one (LV.row EK.u32 (enc n)))), ((5 : Nat), AV.s (SV.one (LV.v (Value.int .u32 (↑(r / (10 : Nat) ^ i) : Int))))), ((6 : Nat), AV.s (SV.one (LV.ptr (6 : Nat) (0 : Nat)))), ((19 : Nat), AV.s (SV.one (LV.v (Value.int .i64 (↑i : Int)))))], boxes := [((6 : Nat), { ty := ty6, bc := BC.ints EK.u8 (o_pd r i), mut_ := true }), ((1 : Nat), { ty := ty1, bc := BC.cells [LV.v (Value.bool (decide (x < (0 : Int)))), LV.row EK.u32 (enc (Int.natAbs x))], mut_ := true }), ((36 : Nat), { ty := nat_lit 9, bc := BC.gi EK.str zs, mut_ := true })] }, [decide ((↑i : Int) < (9 : Int)) = false]) := by kernel_rfl
theorem loop28e (ty1 : TypeId) (zs : List Int) (x : Int) (n : Nat) : codeV Tryz.prog (lk E20) (L28i true) (G1 []) Tryz.f28.ntmps 60 (loopC Tryz.f28 0) [1, 3, 4] [1, 36] (I28 ty1 true x n zs) = (let q1 := (↑(nv (enc n) % Int.toNat (1000000000 : Int)) : Int); let q2 := enc (nv (enc n) / Int.toNat (1000000000 : Int)); let q3 := o_pd (Int.toNat q1) (9 : Nat); let q0 := List.take (1 : Nat) (List.drop (0 : Nat) [o_stri (o_bytes (List.take (9 : Nat) (List.drop (0 : Nat) q3)))]); some (Ex.normal, { tmps := [((1 : Nat), AV.s (SV.one (LV.ptr (1 : Nat) (0 : Nat)))), ((3 : Nat), AV.s (SV.one (LV.gsl (36 : Nat) (List.length q0)))), ((4 : Nat), AV.s (SV.one (LV.row EK.u32 (enc (nv q2)))))], boxes := [((1 : Nat), { ty := ty1, bc := BC.cells [LV.v (Value.bool (decide (o_rt x < (0 : Int)))), LV.row EK.u32 (enc (Int.natAbs (o_rt x)))], mut_ := true }), ((36 : Nat), { ty := (9 : Nat), bc := BC.gi EK.str q0, mut_ := true })] }, [decide ((0 : Int) < (↑(List.length (enc n)) : Int)) = true, (0 : Int) < (1000000000 : Int) ∧ (1000000000 : Int) < (4294967296 : Int), Words (enc n), Ln (enc n), Canon q2, o_okz x, (0 : Int) ≤ q1 ∧ q1 < (4294967296 : Int), (0 : Int) = (0 : Int), [(0 : Int), (0 : Int), (0 : Int), (0 : Int), (0 : Int), (0 : Int), (0 : Int), (0 : Int), (0 : Int)] = List.replicate (9 : Nat) (0 : Int), (0 : Nat) + (9 : Nat) ≤ List.length q3, (0 : Nat) + (1 : Nat) ≤ (0 : Nat) + (1 : Nat) ∧ (1 : Nat) ≤ (1 : Nat) ∧ (1 : Nat) ≤ (9223372036854775807 : Nat), (0 : Nat) < List.length q0 ∧ List.length q0 ≤ (1099511627776 : Nat)])) := by kernel_rfl
theorem loop28f (ty1 : TypeId) (zs : List Int) (x : Int) (n : Nat) : codeV Tryz.prog (lk E20) (L28i true) (G1 [13]) Tryz.f28.ntmps 60 (loopC Tryz.f28 0) [1, 3] [1, 36] (I28 ty1 true x n zs) = some (Ex.exit (0 : Nat), { tmps := [((1 : Nat), AV.s (SV.one (LV.ptr (1 : Nat) (0 : Nat)))), ((3 : Nat), AV.s (SV.one (LV.v (Value.slice none (0 : Nat) (0 : Nat)))))], boxes := [((1 : Nat), { ty := ty1, bc := BC.cells [LV.v (Value.bool (decide (x < (0 : Int)))), LV.row EK.u32 (enc (Int.natAbs x))], mut_ := true })] }, [decide ((0 : Int) < (↑(List.length (enc n)) : Int)) = false]) := by kernel_rfl
theorem loop28g (ty1 : TypeId) (zs : List Int) (x : Int) (n : Nat) : codeV Tryz.prog (lk E20) (L28i false) (G1 []) Tryz.f28.ntmps 60 (loopC Tryz.f28 0) [1, 3, 4] [1, 36] (I28 ty1 false x n zs) = (let q1 := (↑(nv (enc n) % Int.toNat (1000000000 : Int)) : Int); let q2 := enc (nv (enc n) / Int.toNat (1000000000 : Int)); let q3 := o_pd (Int.toNat q1) (9 : Nat); let q0 := List.drop (0 : Nat) [o_stri (o_bytes (List.take (9 : Nat) (List.drop (0 : Nat) q3)))]; let q4 := List.length zs = List.length zs; let q5 := List.take (1 : Nat) q0; some (Ex.normal, { tmps := [((1 : Nat), AV.s (SV.one (LV.ptr (1 : Nat) (0 : Nat)))), ((3 : Nat), AV.s (SV.one (LV.gsl (36 : Nat) (List.length zs + List.length q5)))), ((4 : Nat), AV.s (SV.one (LV.row EK.u32 (enc (nv q2)))))], boxes := [((1 : Nat), { ty := ty1, bc := BC.cells [LV.v (Value.bool (decide (o_rt x < (0 : Int)))), LV.row EK.u32 (enc (Int.natAbs (o_rt x)))], mut_ := true }), ((36 : Nat), { ty := (9 : Nat), bc := BC.gi EK.str (zs ++ List.take (1 : Nat) q0), mut_ := true })] }, [decide ((0 : Int) < (↑(List.length (enc n)) : Int)) = true, (0 : Int) < (1000000000 : Int) ∧ (1000000000 : Int) < (4294967296 : Int), Words (enc n), Ln (enc n), q4, Canon q2, o_okz x, (0 : Int) ≤ q1 ∧ q1 < (4294967296 : Int), (0 : Int) = (0 : Int), [(0 : Int), (0 : Int), (0 : Int), (0 : Int), (0 : Int), (0 : Int), (0 : Int), (0 : Int), (0 : Int)] = List.replicate (9 : Nat) (0 : Int), (0 : Nat) + (9 : Nat) ≤ List.length q3, q4, (0 : Nat) + (1 : Nat) ≤ (0 : Nat) + (1 : Nat) ∧ (1 : Nat) ≤ (1 : Nat) ∧ (1 : Nat) ≤ (9223372036854775807 : Nat), List.length zs + List.length q5 ≤ (1099511627776 : Nat)])) := by kernel_rfl
theorem loop28h (ty1 : TypeId) (zs : List Int) (x : Int) (n : Nat) : codeV Tryz.prog (lk E20) (L28i false) (G1 [13]) Tryz.f28.ntmps 60 (loopC Tryz.f28 0) [1, 3] [1, 36] (I28 ty1 false x n zs) = some (Ex.exit (0 : Nat), { tmps := [((1 : Nat), AV.s (SV.one (LV.ptr (1 : Nat) (0 : Nat)))), ((3 : Nat), AV.s (SV.one (LV.gsl (36 : Nat) (List.length zs))))], boxes := [((1 : Nat), { ty := ty1, bc := BC.cells [LV.v (Value.bool (decide (x < (0 : Int)))), LV.row EK.u32 (enc (Int.natAbs x))], mut_ := true }), ((36 : Nat), { ty := nat_lit 9, bc := BC.gi EK.str zs, mut_ := true })] }, [decide ((0 : Int) < (↑(List.length (enc n)) : Int)) = false]) := by kernel_rfl
theorem run28a (x : Int) : fnEx Tryz.prog (lk E20) (L28 true) (G1 []) 60 Tryz.f28 [.abs [x]] = some (AV.s (SV.one (LV.v (Value.string (ByteArray.mk #[(48 : UInt8)])))), [Canon (enc (Int.natAbs x)), o_okz x, List.length (enc (Int.natAbs x)) ≤ (100000000 : Nat), nv (enc (Int.natAbs x)) = (0 : Nat), (ByteArray.mk #[]) = (ByteArray.mk #[]), (ByteArray.mk #[(48 : UInt8)]) = (ByteArray.mk #[(48 : UInt8)]), o_seq (o_trim0 (o_join [])) (ByteArray.mk #[]) = true]) := by kernel_rfl
theorem run28b (x : Int) : fnEx Tryz.prog (lk E20) (L28 false) (G1 [42, 44]) 60 Tryz.f28 [.abs [x]] = (let q0 := o_pcs (nv (enc (Int.natAbs x))); let q1 := o_trim0 (o_join (List.take (List.length q0) (List.reverse q0))); let q2 := List.take (List.length q0) (List.reverseAux q0 []); let q3 := (9223372036854775807 : Nat); some (AV.s (SV.one (LV.v (Value.string (o_cat (ByteArray.mk #[(45 : UInt8)]) q1)))), [Canon (enc (Int.natAbs x)), o_okz x, List.length (enc (Int.natAbs x)) ≤ (100000000 : Nat), ¬nv (enc (Int.natAbs x)) = (0 : Nat), List.length q0 = List.length q0, List.length q0 ≤ (1000000000 : Nat), List.length q0 ≤ List.length (List.reverseAux q0 []) ∧ List.length q0 ≤ q3, (ByteArray.mk #[]) = (ByteArray.mk #[]), List.length q2 ≤ (1000000000 : Nat) ∧ List.length (List.flatten (List.map (fun z => Array.toList (ByteArray.data (o_str z))) q2)) ≤ (100000000000 : Nat), (ByteArray.mk #[(48 : UInt8)]) = (ByteArray.mk #[(48 : UInt8)]), o_seq q1 (ByteArray.mk #[]) = false, decide (o_rt x < (0 : Int)) = true, ByteArray.size (ByteArray.mk #[(45 : UInt8)]) + ByteArray.size q1 ≤ q3])) := by kernel_rfl
theorem run28c (x : Int) : fnEx Tryz.prog (lk E20) (L28 false) (G1 [42, 44, 45, 47]) 60 Tryz.f28 [.abs [x]] = (let q0 := o_pcs (nv (enc (Int.natAbs x))); let q1 := o_trim0 (o_join (List.take (List.length q0) (List.reverse q0))); let q2 := List.take (List.length q0) (List.reverseAux q0 []); some (AV.s (SV.one (LV.v (Value.string q1))), [Canon (enc (Int.natAbs x)), o_okz x, List.length (enc (Int.natAbs x)) ≤ (100000000 : Nat), ¬nv (enc (Int.natAbs x)) = (0 : Nat), List.length q0 = List.length q0, List.length q0 ≤ (1000000000 : Nat), List.length q0 ≤ List.length (List.reverseAux q0 []) ∧ List.length q0 ≤ (9223372036854775807 : Nat), (ByteArray.mk #[]) = (ByteArray.mk #[]), List.length q2 ≤ (1000000000 : Nat) ∧ List.length (List.flatten (List.map (fun z => Array.toList (ByteArray.data (o_str z))) q2)) ≤ (100000000000 : Nat), (ByteArray.mk #[(48 : UInt8)]) = (ByteArray.mk #[(48 : UInt8)]), o_seq q1 (ByteArray.mk #[]) = false, decide (o_rt x < (0 : Int)) = false])) := by kernel_rfl
end Go.Proofs.YtkfdnpbpebmhaaaGreatDoor.Spec
end
namespace Go.Proofs.YtkfdnpbpebmhaaaGreatDoor.Num
open Go.Proofs.YtkfdnpbpebmhaaaGreatDoor.Spec Sx

theorem dgI_length (r : Nat) : ∀ i, (dgI r i).length = i
  | 0 => rfl
  | i + 1 => by rw [dgI, List.length_cons, dgI_length r i]
theorem pd_length {r i : Nat} (h : i ≤ 9) : (o_pd r i).length = 9 := by
  unfold o_pd; rw [List.length_append, List.length_replicate, dgI_length]; omega
theorem pd_set {r i : Nat} (h : i < 9) : (o_pd r i).set (8 - i) ((48 + r / 10 ^ i % 10 : Nat) : Int) = o_pd r (i + 1) := by
  unfold o_pd
  obtain ⟨k, hk⟩ : ∃ k, 8 - i = k := ⟨_, rfl⟩
  rw [show 9 - i = k + 1 by omega, show 9 - (i + 1) = k by omega, hk, List.replicate_succ', List.append_assoc, List.set_append_right _ _ (by simp), List.length_replicate, Nat.sub_self]
  rfl
theorem dgI_pad (r : Nat) : ∀ k, (dgI r k).map (fun x => UInt8.ofNat x.toNat) = pad k r
  | 0 => rfl
  | k + 1 => by
    rw [dgI, List.map_cons, dgI_pad r k, Nat.add_comm k 1, pad_add 1 k]
    rfl
theorem bytes_pd (r : Nat) : o_bytes (List.take 9 (List.drop 0 (o_pd r 9))) = tx (pad 9 r) := by
  rw [List.drop_zero, List.take_of_length_le (by rw [pd_length (Nat.le_refl _)]; exact Nat.le_refl _)]
  unfold o_bytes o_pd tx
  rw [show List.replicate (9 - 9) (0 : Int) = [] from rfl, List.nil_append, dgI_pad]
theorem npc_zero : npc 0 = 0 := by rw [npc, dif_pos rfl]
theorem npc_pos {n : Nat} (h : 0 < n) : npc n = npc (n / 1000000000) + 1 := by rw [npc.eq_def n, dif_neg (by omega)]
theorem npc_lt : ∀ (m n : Nat), m < npc n ↔ 0 < n / 10 ^ (9 * m)
  | 0, n => by
    rw [Nat.mul_zero, Nat.pow_zero, Nat.div_one]
    rcases Nat.eq_zero_or_pos n with h | h
    · subst h; rw [npc_zero]
    · rw [npc_pos h]; omega
  | m + 1, n => by
    have e : 10 ^ (9 * (m + 1)) = 1000000000 * 10 ^ (9 * m) := by rw [Nat.mul_succ, Nat.pow_add, Nat.mul_comm]
    rw [e, ← Nat.div_div_eq_div_mul, ← npc_lt m]
    rcases Nat.eq_zero_or_pos n with h | h
    · subst h; rw [Nat.zero_div, npc_zero]; omega
    · rw [npc_pos h]; omega
theorem npc_le {n k : Nat} (h : n < B ^ k) : npc n ≤ 2 * k + 1 := by
  rcases Nat.lt_or_ge (2 * k) (npc n) with h1 | h1
  · exfalso
    have h2 := (npc_lt _ _).1 h1
    have hp : 0 < 10 ^ (9 * (2 * k)) := Nat.pow_pos (by decide)
    have h3 : 1 * 10 ^ (9 * (2 * k)) ≤ n := (Nat.le_div_iff_mul_le hp).1 h2
    have h4 : B ^ k ≤ 10 ^ (9 * (2 * k)) := by
      rw [show 9 * (2 * k) = 18 * k by omega, Nat.pow_mul]
      exact Nat.pow_le_pow_left (by decide) k
    omega
  · omega
theorem cks_succ (N m : Nat) : cks N (m + 1) = cks N m ++ [o_stri (tx (pad 9 (N / 10 ^ (9 * m))))] := by
  simp [cks, List.range_succ]
theorem cks_length (N m : Nat) : (cks N m).length = m := by simp [cks]
theorem join_cks (N : Nat) : ∀ m, joinL (cks N m).reverse = pad (9 * m) N
  | 0 => rfl
  | m + 1 => by
    rw [cks_succ, List.reverse_append, List.reverse_singleton, List.singleton_append]
    unfold joinL
    rw [List.map_cons, List.flatten_cons, str_stri, list_tx]
    have := join_cks N m
    unfold joinL at this
    rw [this, ← pad_add 9 (9 * m), Nat.mul_succ, Nat.add_comm]
theorem npc_top (n : Nat) : n < 10 ^ (9 * npc n) := by
  have h := (npc_lt (npc n) n)
  have hp : 0 < 10 ^ (9 * npc n) := Nat.pow_pos (by decide)
  rcases Nat.lt_or_ge n (10 ^ (9 * npc n)) with h1 | h1
  · exact h1
  · have := Nat.div_pos h1 hp
    have := h.2 this
    omega
/-- What the pieces come to. -/
theorem trim_pcs (n : Nat) : o_trim0 (o_join (List.take (o_pcs n).length (List.reverse (o_pcs n)))) = tx (dec n) := by
  rw [List.take_of_length_le (by rw [List.length_reverse]; exact Nat.le_refl _)]
  unfold o_trim0 o_join o_pcs
  rw [join_cks, list_tx, drop_pad _ _ (npc_top n)]
theorem joinL_pcs (n : Nat) : (joinL (List.take (o_pcs n).length (List.reverse (o_pcs n)))).length = 9 * npc n := by
  rw [List.take_of_length_le (by rw [List.length_reverse]; exact Nat.le_refl _)]
  unfold o_pcs
  rw [join_cks, pad_length]
theorem pcs_len (n : Nat) : (o_pcs n).length = npc n := cks_length _ _
theorem dec_len (n : Nat) : (dec n).length ≤ 9 * npc n := by
  have := drop_pad _ _ (npc_top n)
  rw [← this]
  refine Nat.le_trans (List.Sublist.length_le (List.dropWhile_sublist _)) ?_
  rw [pad_length]
  exact Nat.le_refl _

end Go.Proofs.YtkfdnpbpebmhaaaGreatDoor.Num
namespace Go.Proofs.YtkfdnpbpebmhaaaGreatDoor.Spec
open Go Go.RowKit Sx Num

abbrev A28i : Type := TypeId × TypeId × List Int × Int × Nat × Nat
theorem sub28i {d : Bool} {st : St} {e : Ex} {s : St} {obs : List Prop} (h : F28i d st = some (e, s, obs)) (hob : AllP obs) : ∃ x : A28i, x.2.2.2.2.2 < 4294967296 ∧ SubS st (I28i x.1 x.2.1 d x.2.2.1 x.2.2.2.1 x.2.2.2.2.1 x.2.2.2.2.2 0) ∧ e = .exit 2 ∧ s = I28i x.1 x.2.1 d x.2.2.1 x.2.2.2.1 x.2.2.2.2.1 x.2.2.2.2.2 9 := by
  unfold F28i at h
  split at h
  · rename_i xs r i ty6 ys ty1 s zs hz h1 h4 h5 h6 h19 b6 b1
    split at h
    · rename_i h3 h36
      simp only [Option.some.injEq, Prod.mk.injEq] at h
      obtain ⟨rfl, rfl, rfl⟩ := h
      obtain ⟨hx, hs, ⟨hr, hr2⟩, rfl, rfl, _⟩ := hob
      have q := ok_split hs
      have er : ((r.toNat : Nat) : Int) = r := by omega
      refine ⟨(ty1, ty6, [], o_toI s zs, nv xs, r.toNat), by show r.toNat < _; omega, ⟨?_, ?_, ?_⟩, rfl, rfl⟩
      · intro p hp
        simp only [I28i, prT, prB, ptrV, Nat.pow_zero, Nat.div_one, er, enc_nv hx, cond_true, List.mem_cons, List.not_mem_nil, or_false] at hp
        rcases hp with rfl | rfl | rfl | rfl | rfl | rfl <;> exact ⟨by assumption, rfl⟩
      · intro p hp
        simp only [I28i, prB, bxZ, absL, ← q.1, ← q.2, cond_true, List.mem_cons, List.not_mem_nil, or_false] at hp
        rcases hp with rfl | rfl <;> exact ⟨by assumption, rfl⟩
      · intro hl; rw [hz] at hl; cases hl
    · rename_i m ps h3 h36
      simp only [Option.some.injEq, Prod.mk.injEq] at h
      obtain ⟨rfl, rfl, rfl⟩ := h
      obtain ⟨rfl, hx, hs, ⟨hr, hr2⟩, rfl, rfl, _⟩ := hob
      have q := ok_split hs
      have er : ((r.toNat : Nat) : Int) = r := by omega
      refine ⟨(ty1, ty6, ps, o_toI s zs, nv xs, r.toNat), by show r.toNat < _; omega, ⟨?_, ?_, ?_⟩, rfl, rfl⟩
      · intro p hp
        simp only [I28i, prT, prB, ptrV, Nat.pow_zero, Nat.div_one, er, enc_nv hx, cond_false, List.mem_cons, List.not_mem_nil, or_false] at hp
        rcases hp with rfl | rfl | rfl | rfl | rfl | rfl <;> exact ⟨by assumption, rfl⟩
      · intro p hp
        simp only [I28i, prB, bxZ, absL, ← q.1, ← q.2, cond_false, List.mem_cons, List.not_mem_nil, or_false] at hp
        rcases hp with rfl | rfl | rfl <;> exact ⟨by assumption, rfl⟩
      · intro hl; rw [hz] at hl; cases hl
    · cases h
  · cases h
theorem lo28i (d : Bool) : LoopOk Tryz.prog Tryz.f28.ntmps (L28i d) (loopC Tryz.f28 1) := by
  refine loop_ok (k := 8) (f := F28i d) (α := A28i × Nat) (by kernel_rfl) (by kernel_rfl) (fun x => I28i x.1.1 x.1.2.1 d x.1.2.2.1 x.1.2.2.2.1 x.1.2.2.2.2.1 x.1.2.2.2.2.2 x.2) (fun x => I28i x.1.1 x.1.2.1 d x.1.2.2.1 x.1.2.2.2.1 x.1.2.2.2.2.1 x.1.2.2.2.2.2 9) (fun x => x.2 ≤ 9 ∧ x.1.2.2.2.2.2 < 4294967296) (fun x => 9 - x.2) (.exit 2) (by simp) ?_ ?_
  · intro st e s obs h hob
    obtain ⟨x, h0, h1, h2, h3⟩ := sub28i h hob
    exact ⟨(x, 0), ⟨Nat.zero_le _, h0⟩, h1, h2, h3⟩
  rintro ⟨⟨ty1, ty6, zs, x, n, r⟩, i⟩ ⟨hi, hr⟩
  have hi : i ≤ 9 := hi
  have hr : r < 4294967296 := hr
  have hno : ∀ d ∈ loopsOf (loopC Tryz.f28 1), LoopOk Tryz.prog Tryz.f28.ntmps L0 d := by rw [show loopsOf (loopC Tryz.f28 1) = [] by kernel_rfl]; intro d hd; cases hd
  by_cases hlt : i < 9
  · obtain ⟨q, hq⟩ : ∃ q, r / 10 ^ i = q := ⟨_, rfl⟩
    have hqr : q ≤ r := hq ▸ Nat.div_le_self _ _
    have hq2 : r / 10 ^ (i + 1) = q / 10 := by rw [Nat.pow_succ, ← Nat.div_div_eq_div_mul, hq]
    have w1 : IntKind.wrap IntKind.i64 ((i : Int) + 1) = ((i + 1 : Nat) : Int) := by rw [wi64 _ (by omega) (by omega)]; omega
    have w2 : IntKind.wrap IntKind.i64 (8 - (i : Int)) = ((8 - i : Nat) : Int) := by rw [wi64 _ (by omega) (by omega)]; omega
    have w3 : IntKind.wrap IntKind.u32 (Int.tdiv (q : Int) 10) = ((q / 10 : Nat) : Int) := by rw [show Int.tdiv (q : Int) 10 = ((q / 10 : Nat) : Int) from tdiv_nat, w32]; omega
    have w4 : IntKind.wrap IntKind.u8 (IntKind.wrap IntKind.u32 (48 + Int.tmod (q : Int) 10)) = ((48 + q % 10 : Nat) : Int) := by
      rw [Int.tmod_eq_emod_of_nonneg (Int.natCast_nonneg q), w32]
      unfold IntKind.wrap IntKind.bits IntKind.signed
      simp
      omega
    have hset := pd_set (r := r) hlt
    rw [hq] at hset
    cases d with
    | true =>
      refine (codeV_sound hmix E20ok.hS hno (loop28a ty1 ty6 zs x n r i) ?_).mono ?_
      · simp only [AllP, w2, tnc, pd_length hi]
        and_intros <;> first | exact trivial | omega | exact decide_eq_true (by omega)
      · rintro e s' ⟨rfl, hs⟩
        refine .inl ⟨rfl, ((ty1, ty6, zs, x, n, r), i + 1), ⟨by show i + 1 ≤ 9; omega, hr⟩, by show 9 - (i + 1) < 9 - i; omega, ?_, rfl⟩
        simp only [w1, w2, hq, w3, w4, tnc, Nat.zero_add, Nat.mul_one, hset] at hs
        show SubS s' (I28i ty1 ty6 true zs x n r (i + 1))
        unfold I28i
        rw [hq2]
        exact hs
    | false =>
      refine (codeV_sound hmix E20ok.hS hno (loop28c ty1 ty6 zs x n r i) ?_).mono ?_
      · simp only [AllP, w2, tnc, pd_length hi]
        and_intros <;> first | exact trivial | omega | exact decide_eq_true (by omega)
      · rintro e s' ⟨rfl, hs⟩
        refine .inl ⟨rfl, ((ty1, ty6, zs, x, n, r), i + 1), ⟨by show i + 1 ≤ 9; omega, hr⟩, by show 9 - (i + 1) < 9 - i; omega, ?_, rfl⟩
        simp only [w1, w2, hq, w3, w4, tnc, Nat.zero_add, Nat.mul_one, hset] at hs
        show SubS s' (I28i ty1 ty6 false zs x n r (i + 1))
        unfold I28i
        rw [hq2]
        exact hs
  · have h9 : i = 9 := by omega
    subst h9
    cases d with
    | true =>
      refine (codeV_sound hmix E20ok.hS hno (loop28b ty1 ty6 zs x n r 9) ?_).mono ?_
      · exact ⟨rfl, trivial⟩
      · rintro e s' ⟨rfl, hs⟩
        exact .inr ⟨rfl, hs⟩
    | false =>
      refine (codeV_sound hmix E20ok.hS hno (loop28d ty1 ty6 zs x n r 9) ?_).mono ?_
      · exact ⟨rfl, trivial⟩
      · rintro e s' ⟨rfl, hs⟩
        exact .inr ⟨rfl, hs⟩

theorem sub28 {d : Bool} {st : St} {e : Ex} {s : St} {obs : List Prop} (h : F28 d st = some (e, s, obs)) (hob : AllP obs) : ∃ x : TypeId × Int × Nat, ((enc x.2.2).length ≤ 100000000 ∧ bif d then x.2.2 = 0 else x.2.2 ≠ 0) ∧ SubS st (I28 x.1 true x.2.1 x.2.2 []) ∧ e = .exit 0 ∧ s = E28 x.1 d x.2.1 (o_pcs x.2.2) := by
  unfold F28 at h
  split at h
  · rename_i xs ty1 s zs hz h1 h3 h4 b1
    simp only [Option.some.injEq, Prod.mk.injEq] at h
    obtain ⟨rfl, rfl, rfl⟩ := h
    obtain ⟨hx, hs, hl, hd, _⟩ := hob
    have q := ok_split hs
    refine ⟨(ty1, o_toI s zs, nv xs), ⟨by show (enc (nv xs)).length ≤ _; rw [enc_nv hx]; exact hl, hd⟩, ⟨?_, ?_, ?_⟩, rfl, rfl⟩
    · intro p hp
      simp only [I28, prT, ptrV, enc_nv hx, cond_true, List.mem_cons, List.not_mem_nil, or_false] at hp
      rcases hp with rfl | rfl | rfl <;> exact ⟨by assumption, rfl⟩
    · intro p hp
      simp only [I28, prB, bxZ, absL, ← q.1, ← q.2, cond_true, List.mem_cons, List.not_mem_nil, or_false] at hp
      rcases hp with rfl <;> exact ⟨by assumption, rfl⟩
    · intro hl; rw [hz] at hl; cases hl
  · cases h
abbrev A28 : Type := TypeId × Int × Nat × Nat
def J28 (x : A28) : St := I28 x.1 (decide (x.2.2.2 = 0)) x.2.1 (x.2.2.1 / 10 ^ (9 * x.2.2.2)) (cks x.2.2.1 x.2.2.2)
theorem take1d (z : Int) : List.take 1 (List.drop 0 [z]) = [z] := rfl
theorem loops28 : loopsF Tryz.f28 = [loopC Tryz.f28 0, loopC Tryz.f28 1] := by kernel_rfl
theorem lo28 (d : Bool) : ∀ c ∈ loopsF Tryz.f28, LoopOk Tryz.prog Tryz.f28.ntmps (L28 d) c := by
  rw [loops28]
  intro c hc
  simp only [List.mem_cons, List.not_mem_nil, or_false] at hc
  rcases hc with rfl | rfl
  rotate_left
  · intro f hf
    rw [show L28 d (lkey (loopC Tryz.f28 1)) = none by cases d <;> kernel_rfl] at hf
    cases hf
  refine loop_ok (k := 3) (f := F28 d) (α := A28) (by kernel_rfl) (by kernel_rfl) J28 (fun x => E28 x.1 d x.2.1 (o_pcs x.2.2.1)) (fun x => (enc x.2.2.1).length ≤ 100000000 ∧ (bif d then x.2.2.1 = 0 else x.2.2.1 ≠ 0) ∧ x.2.2.2 ≤ npc x.2.2.1) (fun x => npc x.2.2.1 - x.2.2.2) (.exit 0) (by simp) ?_ ?_
  · intro st e s obs h hob
    obtain ⟨x, ⟨h0, h4⟩, h1, h2, h3⟩ := sub28 h hob
    exact ⟨(x.1, x.2.1, x.2.2, 0), ⟨h0, h4, Nat.zero_le _⟩, by unfold J28; simp only [decide_true, Nat.mul_zero, Nat.pow_zero, Nat.div_one]; exact h1, h2, h3⟩
  rintro ⟨ty, x, N, m⟩ ⟨hl, hd, hm⟩
  have hl : (enc N).length ≤ 100000000 := hl
  have hd : bif d then N = 0 else N ≠ 0 := hd
  have hm : m ≤ npc N := hm
  have hno : ∀ b : Bool, ∀ d ∈ loopsOf (loopC Tryz.f28 0), LoopOk Tryz.prog Tryz.f28.ntmps (L28i b) d := by
    intro b
    rw [show loopsOf (loopC Tryz.f28 0) = [loopC Tryz.f28 1] by kernel_rfl]
    intro d hd
    rw [List.mem_singleton] at hd
    subst hd
    exact lo28i b
  have hpc := npc_le ((enc_len N _).1 hl)
  obtain ⟨n, hn⟩ : ∃ n, N / 10 ^ (9 * m) = n := ⟨_, rfl⟩
  have hnl := enc_le_of hl (show n ≤ N from hn ▸ Nat.div_le_self _ _)
  have hmod := Nat.mod_lt n (show 0 < 1000000000 by decide)
  have hn2 : N / 10 ^ (9 * (m + 1)) = n / 1000000000 := by
    rw [Nat.mul_succ, Nat.pow_add, ← Nat.div_div_eq_div_mul, hn]
  have hpad : pad 9 (n % 1000000000) = pad 9 n := pad_mod 9 n
  have hck : cks N (m + 1) = cks N m ++ [o_stri (tx (pad 9 n))] := by rw [cks_succ, hn]
  have tn9 : Int.toNat 1000000000 = 1000000000 := rfl
  have hJ : J28 (ty, x, N, m + 1) = I28 ty false x (n / 1000000000) (cks N (m + 1)) := by
    unfold J28
    simp only [hn2, Nat.succ_ne_zero, decide_false]
  by_cases h0 : 0 < n
  · have hlt : m < npc N := (npc_lt _ _).2 (hn.symm ▸ h0)
    have hlen := (enc_len_pos n).2 h0
    cases m with
    | zero =>
      have hJ0 : J28 (ty, x, N, 0) = I28 ty true x n [] := by unfold J28; simp only [decide_true, hn]; rfl
      refine WX.mono (R := fun e s => e = .normal ∧ SubS s (J28 (ty, x, N, 1))) ?_ ?_
      · show WX _ _ _ (J28 (ty, x, N, 0)) _
        rw [hJ0, hJ]
        refine (codeV_sound hmix E20ok.hS (hno true) (loop28e ty [] x n) ?_).mono ?_
        · simp only [AllP, okz_t, nv_enc, tn9, tnc, canon_e, words_e, take1d, List.length_singleton, pd_length (Nat.le_refl 9)]
          unfold Ln
          and_intros <;> first | exact trivial | omega | exact decide_eq_true (by omega) | rfl
        · rintro e s' ⟨rfl, hs⟩
          refine ⟨rfl, ?_⟩
          simp only [rt_eq, nv_enc, tn9, tnc, take1d, List.length_singleton, bytes_pd, hpad] at hs
          rw [hck]
          exact hs
      · rintro e s' ⟨rfl, hs⟩
        exact .inl ⟨rfl, (ty, x, N, 1), ⟨hl, hd, hlt⟩, by show npc N - 1 < npc N - 0; omega, hs, rfl⟩
    | succ m =>
      have hJ0 : J28 (ty, x, N, m + 1) = I28 ty false x n (cks N (m + 1)) := by unfold J28; simp only [Nat.succ_ne_zero, decide_false, hn]
      refine WX.mono (R := fun e s => e = .normal ∧ SubS s (J28 (ty, x, N, m + 1 + 1))) ?_ ?_
      · show WX _ _ _ (J28 (ty, x, N, m + 1)) _
        rw [hJ0, hJ]
        refine (codeV_sound hmix E20ok.hS (hno false) (loop28g ty (cks N (m + 1)) x n) ?_).mono ?_
        · simp only [AllP, okz_t, nv_enc, tn9, tnc, canon_e, words_e, take1d, List.length_singleton, pd_length (Nat.le_refl 9), cks_length]
          unfold Ln
          and_intros <;> first | exact trivial | omega | exact decide_eq_true (by omega) | rfl
        · rintro e s' ⟨rfl, hs⟩
          refine ⟨rfl, ?_⟩
          simp only [rt_eq, nv_enc, tn9, tnc, take1d, List.length_singleton, bytes_pd, hpad, cks_length] at hs
          unfold I28 prT prB
          rw [cks_length, hck]
          exact hs
      · rintro e s' ⟨rfl, hs⟩
        exact .inl ⟨rfl, (ty, x, N, m + 1 + 1), ⟨hl, hd, hlt⟩, by show npc N - (m + 1 + 1) < npc N - (m + 1); omega, hs, rfl⟩
  · have hn0 : n = 0 := by omega
    have hme : m = npc N := by
      have := (npc_lt m N)
      rw [hn] at this
      omega
    subst hn0
    cases m with
    | zero =>
      have hN : N = 0 := by rw [Nat.mul_zero, Nat.pow_zero, Nat.div_one] at hn; exact hn
      subst hN
      have hdt : d = true := by cases d with
        | true => rfl
        | false => exact absurd rfl hd
      subst hdt
      refine WX.mono (R := fun e s => e = .exit 0 ∧ SubS s (E28 ty true x [])) ?_ ?_
      · show WX _ _ _ (J28 (ty, x, 0, 0)) _
        rw [show J28 (ty, x, 0, 0) = I28 ty true x 0 [] by unfold J28; simp only [decide_true, hn]; rfl]
        refine (codeV_sound hmix E20ok.hS (hno true) (loop28f ty [] x 0) ?_).mono ?_
        · exact ⟨rfl, trivial⟩
        · exact fun e s' h => h
      · rintro e s' ⟨rfl, hs⟩
        refine .inr ⟨rfl, ?_⟩
        show SubS s' (E28 ty true x (o_pcs 0))
        unfold o_pcs
        rw [npc_zero]
        exact hs
    | succ m =>
      have hdt : d = false := by
        cases d with
        | false => rfl
        | true =>
          have hd : N = 0 := hd
          subst hd
          rw [npc_zero] at hme
          omega
      subst hdt
      have hJ0 : J28 (ty, x, N, m + 1) = I28 ty false x 0 (cks N (m + 1)) := by unfold J28; simp only [Nat.succ_ne_zero, decide_false, hn]
      refine WX.mono (R := fun e s => e = .exit 0 ∧ SubS s (E28 ty false x (cks N (m + 1)))) ?_ ?_
      · show WX _ _ _ (J28 (ty, x, N, m + 1)) _
        rw [hJ0]
        refine (codeV_sound hmix E20ok.hS (hno false) (loop28h ty (cks N (m + 1)) x 0) ?_).mono ?_
        · exact ⟨rfl, trivial⟩
        · exact fun e s' h => h
      · rintro e s' ⟨rfl, hs⟩
        refine .inr ⟨rfl, ?_⟩
        show SubS s' (E28 ty false x (o_pcs N))
        unfold o_pcs
        rw [← hme]
        exact hs

/-- The text of an integer. -/
def o_text (z : Int) : ByteArray := tx (text z)
def spText : Sp
  | [.abs [x]] => some (.s (sStr (o_text x)), [o_sz big x])
  | _ => none
theorem seq_iff {a b : ByteArray} : o_seq a b = true ↔ a = b := by
  unfold o_seq
  rw [beq_iff_eq]
  constructor
  · intro h
    rw [ByteArray.toList_eq, ByteArray.toList_eq] at h
    rw [← tx_list a, h, tx_list]
  · intro h; rw [h]
theorem seq_true {a b : ByteArray} (h : a = b) : o_seq a b = true := seq_iff.2 h
theorem seq_false {a b : ByteArray} (h : a ≠ b) : o_seq a b = false := by
  cases hs : o_seq a b with
  | false => rfl
  | true => exact absurd (seq_iff.1 hs) h
theorem tx_ne {l : List UInt8} (h : l ≠ []) : tx l ≠ tx [] := fun e => h (tx_inj e)
theorem cat_tx (a b : List UInt8) : o_cat (tx a) (tx b) = tx (a ++ b) := by
  unfold o_cat tx
  apply ByteArray.ext
  simp
theorem strE {a b : ByteArray} (h : a = b) : AV.s (SV.one (LV.v (Value.string a))) = AV.s (sStr b) := by subst h; rfl
theorem con28 : Con Tryz.prog 28 spText := by
  refine con_runL (fn := Tryz.f28) hmix E20ok.hS (by kernel_rfl) (fun _ => by kernel_rfl) ?_
  intro avs r ps hsp hps
  unfold spText at hsp
  split at hsp
  · rename_i x
    simp only [Option.some.injEq, Prod.mk.injEq] at hsp
    obtain ⟨rfl, rfl⟩ := hsp
    obtain ⟨hx, _⟩ := hps
    have lx := sz_big hx
    by_cases h0 : x = 0
    · subst h0
      refine ⟨rfl, L28 true, lo28 true, _, _, _, _, run28a 0, rfl, ?_⟩
      exact ⟨canon_enc _, ok_enc 0, lx, rfl, rfl, rfl, seq_true rfl, trivial⟩
    · have hne := dec_ne (show 0 < x.natAbs by omega)
      have hpc := npc_le ((enc_len _ _).1 lx)
      have hdl := dec_len x.natAbs
      have hjl := joinL_pcs x.natAbs
      have hsne : o_seq (tx (dec x.natAbs)) (ByteArray.mk #[]) = false := seq_false (tx_ne hne)
      by_cases hneg : x < 0
      · refine ⟨rfl, L28 false, lo28 false, _, _, _, _, run28b x, strE ?_, ?_⟩
        · rw [nv_enc, trim_pcs]
          show o_cat (tx [45]) _ = _
          rw [cat_tx]
          unfold o_text text
          rw [if_neg h0, if_pos hneg]
        · simp only [AllP, nv_enc, trim_pcs, canon_e, okz_t, rt_eq, hsne]
          unfold joinL at hjl
          refine ⟨trivial, trivial, lx, by omega, trivial, by rw [pcs_len]; omega, ⟨by show _ ≤ (List.reverse (o_pcs x.natAbs)).length; rw [List.length_reverse]; exact Nat.le_refl _, by rw [pcs_len]; omega⟩, trivial, ⟨by rw [List.length_take, pcs_len]; omega, ?_⟩, trivial, trivial, decide_eq_true hneg, ?_, trivial⟩
          · show (List.flatten (List.map (fun z => (o_str z).data.toList) (List.take (o_pcs x.natAbs).length (List.reverse (o_pcs x.natAbs))))).length ≤ _
            rw [hjl]; omega
          · rw [tx_size]
            show 1 + _ ≤ _
            omega
      · refine ⟨rfl, L28 false, lo28 false, _, _, _, _, run28c x, strE ?_, ?_⟩
        · rw [nv_enc, trim_pcs]
          unfold o_text text
          rw [if_neg h0, if_neg hneg, List.nil_append]
        · simp only [AllP, nv_enc, trim_pcs, canon_e, okz_t, rt_eq, hsne]
          unfold joinL at hjl
          refine ⟨trivial, trivial, lx, by omega, trivial, by rw [pcs_len]; omega, ⟨by show _ ≤ (List.reverse (o_pcs x.natAbs)).length; rw [List.length_reverse]; exact Nat.le_refl _, by rw [pcs_len]; omega⟩, trivial, ⟨by rw [List.length_take, pcs_len]; omega, ?_⟩, trivial, trivial, decide_eq_false hneg, trivial⟩
          show (List.flatten (List.map (fun z => (o_str z).data.toList) (List.take (o_pcs x.natAbs).length (List.reverse (o_pcs x.natAbs))))).length ≤ _
          rw [hjl]; omega
  · cases hsp

end Go.Proofs.YtkfdnpbpebmhaaaGreatDoor.Spec
namespace Go.Proofs.YtkfdnpbpebmhaaaGreatDoor.Spec
open Go Go.RowKit Sx Num

/-- The last digits, those that are there. -/
def I82 (ty1 : TypeId) (x : Int) (n : Nat) (s : ByteArray) : St := ⟨[(1, ptrV 1), (3, .s (sStr s)), (4, .s (roW (enc n)))], [(1, bxZ ty1 x)]⟩
def F82 (st : St) : Option (Ex × St × List Prop) :=
  match liv st.boxes 0, lk st.tmps 1, lk st.tmps 3, lk st.tmps 4, lk st.boxes 1 with
  | false, some (.s (.one (.ptr 1 0))), some (.s (.one (.v (.string s)))), some (.s (.one (.row .u32 xs))), some ⟨ty1, .cells [.v (.bool sg), .row .u32 zs], true⟩ =>
    some (.exit 0, ⟨[(1, ptrV 1), (3, .s (sStr (o_cat (tx (dec (nv xs))) s)))], [(1, bxZ ty1 (o_toI sg zs))]⟩, [Canon xs, o_ok sg zs, xs.length ≤ 100000000, s.size ≤ 100])
  | _, _, _, _, _ => none
def L82 : Loops := fun k => bif Nat.beq k 5 then some F82 else none
end Go.Proofs.YtkfdnpbpebmhaaaGreatDoor.Spec
section
set_option maxRecDepth 100000
namespace Go.Proofs.YtkfdnpbpebmhaaaGreatDoor.Spec
open Go Go.RowKit Sx Num

theorem loop82a (ty1 : TypeId) (x : Int) (n : Nat) (s : ByteArray) : codeV Tryz.prog (lk E20) L0 (G1 []) Tryz.f82.ntmps 60 (loopC Tryz.f82 0) [1, 3, 4] [1] (I82 ty1 x n s) = (let q0 := o_bytes (List.take (1 : Nat) (List.drop (0 : Nat) [IntKind.wrap .u8 (IntKind.wrap .u64 ((48 : Int) + (↑(nv (enc n) % Int.toNat (10 : Int)) : Int)))])); some (Ex.normal, { tmps := [((1 : Nat), AV.s (SV.one (LV.ptr (1 : Nat) (0 : Nat)))), ((3 : Nat), AV.s (SV.one (LV.v (Value.string (o_cat q0 s))))), ((4 : Nat), AV.s (SV.one (LV.row EK.u32 (enc (nv (enc n) / Int.toNat (10 : Int))))))], boxes := [((1 : Nat), { ty := ty1, bc := BC.cells [LV.v (Value.bool (decide (x < (0 : Int)))), LV.row EK.u32 (enc (Int.natAbs x))], mut_ := true })] }, [decide ((0 : Int) < (↑(List.length (enc n)) : Int)) = true, (0 : Int) < (10 : Int) ∧ (10 : Int) < (4294967296 : Int), Words (enc n), Ln (enc n), (0 : Nat) + (1 : Nat) ≤ (0 : Nat) + (1 : Nat), ByteArray.size q0 + ByteArray.size s ≤ (9223372036854775807 : Nat)])) := by kernel_rfl
theorem loop82b (ty1 : TypeId) (x : Int) (n : Nat) (s : ByteArray) : codeV Tryz.prog (lk E20) L0 (G1 [15]) Tryz.f82.ntmps 60 (loopC Tryz.f82 0) [1, 3] [1] (I82 ty1 x n s) = some (Ex.exit (0 : Nat), { tmps := [((1 : Nat), AV.s (SV.one (LV.ptr (1 : Nat) (0 : Nat)))), ((3 : Nat), AV.s (SV.one (LV.v (Value.string s))))], boxes := [((1 : Nat), { ty := ty1, bc := BC.cells [LV.v (Value.bool (decide (x < (0 : Int)))), LV.row EK.u32 (enc (Int.natAbs x))], mut_ := true })] }, [decide ((0 : Int) < (↑(List.length (enc n)) : Int)) = false]) := by kernel_rfl
theorem run82a (x : Int) : fnEx Tryz.prog (lk E20) L82 (G1 []) 60 Tryz.f82 [.abs [x]] = some (AV.s (SV.one (LV.v (Value.string (ByteArray.mk #[(48 : UInt8)])))), [decide ((↑(List.length (enc (Int.natAbs x))) : Int) = (0 : Int)) = true]) := by kernel_rfl
theorem run82b (x : Int) : fnEx Tryz.prog (lk E20) L82 (G1 [10]) 60 Tryz.f82 [.abs [x]] = (let q0 := tx (dec (nv (enc (Int.natAbs x)))); some (AV.s (SV.one (LV.v (Value.string (o_cat (ByteArray.mk #[(45 : UInt8)]) (o_cat q0 (ByteArray.mk #[])))))), [decide ((↑(List.length (enc (Int.natAbs x))) : Int) = (0 : Int)) = false, Canon (enc (Int.natAbs x)), o_okz x, List.length (enc (Int.natAbs x)) ≤ (100000000 : Nat), ByteArray.size (ByteArray.mk #[]) ≤ (100 : Nat), decide (o_rt x < (0 : Int)) = true, ByteArray.size (ByteArray.mk #[(45 : UInt8)]) + ByteArray.size (o_cat q0 (ByteArray.mk #[])) ≤ (9223372036854775807 : Nat)])) := by kernel_rfl
theorem run82c (x : Int) : fnEx Tryz.prog (lk E20) L82 (G1 [10, 30]) 60 Tryz.f82 [.abs [x]] = some (AV.s (SV.one (LV.v (Value.string (o_cat (tx (dec (nv (enc (Int.natAbs x))))) (ByteArray.mk #[]))))), [decide ((↑(List.length (enc (Int.natAbs x))) : Int) = (0 : Int)) = false, Canon (enc (Int.natAbs x)), o_okz x, List.length (enc (Int.natAbs x)) ≤ (100000000 : Nat), ByteArray.size (ByteArray.mk #[]) ≤ (100 : Nat), decide (o_rt x < (0 : Int)) = false]) := by kernel_rfl
end Go.Proofs.YtkfdnpbpebmhaaaGreatDoor.Spec
end
namespace Go.Proofs.YtkfdnpbpebmhaaaGreatDoor.Spec
open Go Go.RowKit Sx Num

theorem sub82 {st : St} {e : Ex} {s : St} {obs : List Prop} (h : F82 st = some (e, s, obs)) (hob : AllP obs) : ∃ x : TypeId × Int × Nat × ByteArray, ((enc x.2.2.1).length ≤ 100000000 ∧ x.2.2.2.size ≤ 100) ∧ SubS st (I82 x.1 x.2.1 x.2.2.1 x.2.2.2) ∧ e = .exit 0 ∧ s = ⟨[(1, ptrV 1), (3, .s (sStr (o_cat (tx (dec x.2.2.1)) x.2.2.2)))], [(1, bxZ x.1 x.2.1)]⟩ := by
  unfold F82 at h
  split at h
  · rename_i s xs ty1 sg zs hz h1 h3 h4 b1
    simp only [Option.some.injEq, Prod.mk.injEq] at h
    obtain ⟨rfl, rfl, rfl⟩ := h
    obtain ⟨hx, hs, hl, hsz, _⟩ := hob
    have q := ok_split hs
    refine ⟨(ty1, o_toI sg zs, nv xs, s), ⟨by show (enc (nv xs)).length ≤ _; rw [enc_nv hx]; exact hl, hsz⟩, ⟨?_, ?_, ?_⟩, rfl, rfl⟩
    · intro p hp
      simp only [I82, ptrV, enc_nv hx, List.mem_cons, List.not_mem_nil, or_false] at hp
      rcases hp with rfl | rfl | rfl <;> exact ⟨by assumption, rfl⟩
    · intro p hp
      simp only [I82, bxZ, absL, ← q.1, ← q.2, List.mem_cons, List.not_mem_nil, or_false] at hp
      rcases hp with rfl
      exact ⟨by assumption, rfl⟩
    · intro hl; rw [hz] at hl; cases hl
  · cases h
theorem cat_assoc (a : List UInt8) (b : List UInt8) (s : ByteArray) : o_cat (tx a) (o_cat (tx b) s) = o_cat (tx (a ++ b)) s := by
  rw [← tx_list s, cat_tx, cat_tx, cat_tx, List.append_assoc]
theorem cat_size (a b : ByteArray) : (o_cat a b).size = a.size + b.size := by
  rw [← tx_list a, ← tx_list b, cat_tx, tx_size, tx_size, tx_size, List.length_append]
theorem dig_byte (n : Nat) : o_bytes (List.take 1 (List.drop 0 [IntKind.wrap IntKind.u8 (IntKind.wrap IntKind.u64 (48 + ((n % 10 : Nat) : Int)))])) = tx [dg10 n] := by
  have w : IntKind.wrap IntKind.u8 (IntKind.wrap IntKind.u64 (48 + ((n % 10 : Nat) : Int))) = ((48 + n % 10 : Nat) : Int) := by
    rw [w64]
    unfold IntKind.wrap IntKind.bits IntKind.signed
    simp
    omega
  rw [w]
  unfold o_bytes tx dg10
  rw [take1d, List.map_singleton, tnc]
theorem lo82 : ∀ d ∈ loopsF Tryz.f82, LoopOk Tryz.prog Tryz.f82.ntmps L82 d := by
  rw [show loopsF Tryz.f82 = [loopC Tryz.f82 0] by kernel_rfl]
  intro d hd
  rw [List.mem_singleton] at hd
  subst hd
  refine loop_ok (k := 5) (f := F82) (α := TypeId × Int × Nat × ByteArray) (by kernel_rfl) (by kernel_rfl) (fun x => I82 x.1 x.2.1 x.2.2.1 x.2.2.2) (fun x => ⟨[(1, ptrV 1), (3, .s (sStr (o_cat (tx (dec x.2.2.1)) x.2.2.2)))], [(1, bxZ x.1 x.2.1)]⟩) (fun x => (enc x.2.2.1).length ≤ 100000000 ∧ x.2.2.2.size + (dec x.2.2.1).length ≤ 4611686018427387904) (fun x => x.2.2.1) (.exit 0) (by simp) ?_ ?_
  · intro st e s obs h hob
    obtain ⟨x, ⟨h0, h4⟩, h1, h2, h3⟩ := sub82 h hob
    have hpc := npc_le ((enc_len _ _).1 h0)
    have hdl := dec_len x.2.2.1
    exact ⟨x, ⟨h0, by omega⟩, h1, h2, h3⟩
  rintro ⟨ty, x, n, s⟩ ⟨hl, hs⟩
  have hl : (enc n).length ≤ 100000000 := hl
  have hs : s.size + (dec n).length ≤ 4611686018427387904 := hs
  have hno : ∀ d ∈ loopsOf (loopC Tryz.f82 0), LoopOk Tryz.prog Tryz.f82.ntmps L0 d := by rw [show loopsOf (loopC Tryz.f82 0) = [] by kernel_rfl]; intro d hd; cases hd
  have t10 : Int.toNat 10 = 10 := rfl
  rcases Nat.eq_zero_or_pos n with h0 | h0
  · subst h0
    refine (codeV_sound hmix E20ok.hS hno (loop82b ty x 0 s) ?_).mono ?_
    · exact ⟨rfl, trivial⟩
    · rintro e s' ⟨rfl, hs'⟩
      refine .inr ⟨rfl, ?_⟩
      show SubS s' ⟨[(1, ptrV 1), (3, .s (sStr (o_cat (tx (dec 0)) s)))], [(1, bxZ ty x)]⟩
      rw [← tx_list s, cat_tx, dec_zero, List.nil_append, tx_list]
      exact hs'
  · have hlen := (enc_len_pos n).2 h0
    have hds := dec_step h0
    have hdl : (dec n).length = (dec (n / 10)).length + 1 := by rw [hds]; simp
    refine (codeV_sound hmix E20ok.hS hno (loop82a ty x n s) ?_).mono ?_
    · simp only [AllP, nv_enc, t10, dig_byte, tx_size, words_e]
      unfold Ln
      and_intros <;> first | exact trivial | omega | exact decide_eq_true (by omega) | (rw [List.length_singleton]; omega)
    · rintro e s' ⟨rfl, hs'⟩
      refine .inl ⟨rfl, (ty, x, n / 10, o_cat (tx [dg10 n]) s), ⟨enc_le_of hl (Nat.div_le_self _ _), ?_⟩, Nat.div_lt_self h0 (by decide), ?_, ?_⟩
      · show (o_cat (tx [dg10 n]) s).size + (dec (n / 10)).length ≤ _
        rw [cat_size, tx_size, List.length_singleton]; omega
      · simp only [nv_enc, t10, dig_byte] at hs'
        exact hs'
      · show (⟨_, _⟩ : St) = ⟨_, _⟩
        rw [cat_assoc, ← hds]
theorem con82 : Con Tryz.prog 82 spText := by
  refine con_runL (fn := Tryz.f82) hmix E20ok.hS (by kernel_rfl) (fun _ => by kernel_rfl) ?_
  intro avs r ps hsp hps
  unfold spText at hsp
  split at hsp
  · rename_i x
    simp only [Option.some.injEq, Prod.mk.injEq] at hsp
    obtain ⟨rfl, rfl⟩ := hsp
    obtain ⟨hx, _⟩ := hps
    have lx := sz_big hx
    have hpc := npc_le ((enc_len _ _).1 lx)
    have hdl := dec_len x.natAbs
    have ecat : o_cat (tx (dec x.natAbs)) (ByteArray.mk #[]) = tx (dec x.natAbs) := by
      show o_cat _ (tx []) = _
      rw [cat_tx, List.append_nil]
    by_cases h0 : x = 0
    · subst h0
      refine ⟨rfl, L82, lo82, _, _, _, _, run82a 0, rfl, rfl, trivial⟩
    · have hlen := (enc_len_pos x.natAbs).2 (by omega)
      have dl : decide ((((enc x.natAbs).length : Nat) : Int) = 0) = false := decide_eq_false (by omega)
      by_cases hneg : x < 0
      · refine ⟨rfl, L82, lo82, _, _, _, _, run82b x, strE ?_, ?_⟩
        · rw [nv_enc, ecat]
          show o_cat (tx [45]) _ = _
          rw [cat_tx]
          unfold o_text text
          rw [if_neg h0, if_pos hneg]
        · simp only [AllP, nv_enc, ecat, canon_e, okz_t, rt_eq, dl, tx_size]
          refine ⟨trivial, trivial, trivial, lx, by decide, decide_eq_true hneg, ?_, trivial⟩
          show 1 + _ ≤ _
          omega
      · refine ⟨rfl, L82, lo82, _, _, _, _, run82c x, strE ?_, ?_⟩
        · rw [nv_enc, ecat]
          unfold o_text text
          rw [if_neg h0, if_neg hneg, List.nil_append]
        · simp only [AllP, canon_e, okz_t, rt_eq, dl]
          exact ⟨trivial, trivial, trivial, lx, by decide, decide_eq_false hneg, trivial⟩
  · cases hsp
def E21 : List (Nat × Ctr) := (28, .fn (zArgs spText)) :: (82, .fn (zArgs spText)) :: E20
theorem E21ok : EnvOk Tryz.prog E21 := .cons (con_z con28) (.cons (con_z con82) E20ok)

end Go.Proofs.YtkfdnpbpebmhaaaGreatDoor.Spec
namespace Go.Proofs.YtkfdnpbpebmhaaaGreatDoor.Spec
open Go Go.RowKit Sx Num

/-- Digits alone, at most 4000. -/
def o_dgs (s : ByteArray) : Prop := (∀ c ∈ s.data.toList, isDig c = true) ∧ s.size ≤ 4000
def o_val (s : ByteArray) : Nat := val10 s.data.toList
/-- What is left behind p bytes, and what was read. -/
def I29 (ty2 : TypeId) (neg : Bool) (s0 s : ByteArray) (p : Nat) : St :=
  ⟨[(0, .s (sStr s0)), (2, ptrV 2), (4, .s (sStr (tx (s.data.toList.drop p)))), (5, .s (boo neg)), (6, .s (roW (enc (val10 (s.data.toList.take p)))))], [(2, bx0 ty2)]⟩
def F29 (st : St) : Option (Ex × St × List Prop) :=
  match liv st.boxes 0, lk (fixTs st.tmps) 0, lk (fixTs st.tmps) 2, lk (fixTs st.tmps) 4, lk (fixTs st.tmps) 5, lk (fixTs st.tmps) 6, lk (fixBs st.boxes) 2 with
  | false, some (.s (.one (.v (.string s0)))), some (.s (.one (.ptr 2 0))), some (.s (.one (.v (.string s)))), some (.s (.one (.v (.bool neg)))), some (.s (.one (.row .u32 []))), some ⟨ty2, .cells [.v (.bool false), .row .u32 []], true⟩ =>
    some (.exit 0, ⟨[(0, .s (sStr s0)), (2, ptrV 2), (5, .s (boo neg)), (6, .s (roW (enc (o_val s))))], [(2, bx0 ty2)]⟩, [o_dgs s])
  | _, _, _, _, _, _, _ => none
def L29 : Loops := fun k => bif Nat.beq k 7 then some F29 else none
/-- The reference: place i. -/
def I30 (ty2 : TypeId) (neg : Bool) (s : ByteArray) (i : Nat) : St :=
  ⟨[(2, ptrV 2), (3, .s (num 0)), (4, .s (sStr s)), (5, .s (boo neg)), (6, .s (roW (enc (val10 (s.data.toList.take i))))), (7, .s (num i))], [(2, bx0 ty2)]⟩
/-- d: all are digits. -/
def F30 (d : Bool) (st : St) : Option (Ex × St × List Prop) :=
  match liv st.boxes 0, lk (fixTs st.tmps) 2, lk (fixTs st.tmps) 3, lk (fixTs st.tmps) 4, lk (fixTs st.tmps) 5, lk (fixTs st.tmps) 6, lk (fixTs st.tmps) 7, lk (fixBs st.boxes) 2 with
  | false, some (.s (.one (.ptr 2 0))), some (.s (.one (.v (.int .i64 e3)))), some (.s (.one (.v (.string s)))), some (.s (.one (.v (.bool neg)))), some (.s (.one (.row .u32 []))), some (.s (.one (.v (.int .i64 i7)))), some ⟨ty2, .cells [.v (.bool false), .row .u32 []], true⟩ =>
    some (bif d then (.exit 0, ⟨[(2, ptrV 2), (5, .s (boo neg)), (6, .s (roW (enc (o_val s))))], [(2, bx0 ty2)]⟩, [e3 = 0, i7 = 0, o_dgs s])
      else (.ret, ⟨[(2, ptrV 2), (3, .s (num 3))], [(2, box0 ty2)]⟩, [e3 = 0, i7 = 0, ¬ o_dgs s, s.size ≤ 4000]))
  | _, _, _, _, _, _, _, _ => none
def L30 (d : Bool) : Loops := fun k => bif Nat.beq k 11 then some (F30 d) else none

end Go.Proofs.YtkfdnpbpebmhaaaGreatDoor.Spec
section
set_option maxRecDepth 100000
namespace Go.Proofs.YtkfdnpbpebmhaaaGreatDoor.Spec
open Go Go.RowKit Sx Num

theorem loop29a (ty2 : TypeId) (neg : Bool) (s0 s : ByteArray) (p : Nat) : codeV Tryz.prog (lk E21) L0 (G1 [40]) Tryz.f29.ntmps 60 (loopC Tryz.f29 0) [0, 2, 4, 5, 6] [2] (I29 ty2 neg s0 s p) = (let q4 := enc (Int.toNat (1000000000 : Int)); let q9 := Array.toList (ByteArray.data s); let q1 := tx (List.drop p q9); let q3 := enc (val10 (List.take p q9)); let q6 := (↑(ByteArray.size q1) : Int); let q0 := Int.tmod (IntKind.wrap .i64 (q6 - (1 : Int))) (9 : Int) + (1 : Int); let q5 := (0 : Int) ≤ IntKind.wrap .i64 q0 ∧ IntKind.wrap .i64 q0 ≤ q6; let q8 := Int.toNat (IntKind.wrap .i64 q0); let q2 := o_sub q1 (0 : Nat) q8; let q7 := enc (Int.toNat (o_pu q2)); let q10 := (18446744073709551616 : Int); some (Ex.normal, { tmps := [((0 : Nat), AV.s (SV.one (LV.v (Value.string s0)))), ((2 : Nat), AV.s (SV.one (LV.ptr (2 : Nat) (0 : Nat)))), ((4 : Nat), AV.s (SV.one (LV.v (Value.string (o_sub q1 q8 (ByteArray.size q1)))))), ((5 : Nat), AV.s (SV.one (LV.v (Value.bool neg)))), ((6 : Nat), AV.s (SV.one (LV.row EK.u32 (enc (nv (enc (nv q3 * nv q4)) + nv q7)))))], boxes := [((2 : Nat), { ty := ty2, bc := BC.cells [LV.v (Value.bool false), LV.row EK.u32 []], mut_ := true })] }, [decide ((0 : Int) < q6) = true, ¬(9 : Int) = (0 : Int), q5, (10 : Int) = (10 : Int), (32 : Int) = (32 : Int), o_short q2, false = false, (0 : Int) ≤ (1000000000 : Int) ∧ (1000000000 : Int) < q10, Words q3, Words q4, List.length q3 < (137438953472 : Nat), List.length q4 < (137438953472 : Nat), (0 : Int) ≤ o_pu q2 ∧ o_pu q2 < q10, Words (enc (nv q3 * nv q4)), Words q7, List.length (enc (nv q3 * nv q4)) < (137438953472 : Nat), List.length q7 < (137438953472 : Nat), q5])) := by kernel_rfl
theorem loop29b (ty2 : TypeId) (neg : Bool) (s0 s : ByteArray) (p : Nat) : codeV Tryz.prog (lk E21) L0 (G1 [26]) Tryz.f29.ntmps 60 (loopC Tryz.f29 0) [0, 2, 5, 6] [2] (I29 ty2 neg s0 s p) = (let q0 := Array.toList (ByteArray.data s); some (Ex.exit (0 : Nat), { tmps := [((0 : Nat), AV.s (SV.one (LV.v (Value.string s0)))), ((2 : Nat), AV.s (SV.one (LV.ptr (2 : Nat) (0 : Nat)))), ((5 : Nat), AV.s (SV.one (LV.v (Value.bool neg)))), ((6 : Nat), AV.s (SV.one (LV.row EK.u32 (enc (val10 (List.take p q0))))))], boxes := [((2 : Nat), { ty := ty2, bc := BC.cells [LV.v (Value.bool false), LV.row EK.u32 []], mut_ := true })] }, [decide ((0 : Int) < (↑(ByteArray.size (tx (List.drop p q0))) : Int)) = false])) := by kernel_rfl
theorem run29a (s : ByteArray) : fnEx Tryz.prog (lk E21) L29 (G1 []) 60 Tryz.f29 [sStr s] = some (AV.tup [SV.agg [LV.v (Value.bool false), LV.v (Value.slice none (0 : Nat) (0 : Nat))], SV.one (LV.v (Value.int .i64 (2 : Int)))], [decide ((4000 : Int) < (↑(ByteArray.size s) : Int)) = true]) := by kernel_rfl
theorem run29b (s : ByteArray) : fnEx Tryz.prog (lk E21) L29 (G1 [13]) 60 Tryz.f29 [sStr s] = some (AV.tup [SV.agg [LV.v (Value.bool false), LV.v (Value.slice none (0 : Nat) (0 : Nat))], SV.one (LV.v (Value.int .i64 (3 : Int)))], [decide ((4000 : Int) < (↑(ByteArray.size s) : Int)) = false, (ByteArray.mk #[(45 : UInt8)]) = (ByteArray.mk #[(45 : UInt8)]), (ByteArray.mk #[(48 : UInt8), (49 : UInt8), (50 : UInt8), (51 : UInt8), (52 : UInt8), (53 : UInt8), (54 : UInt8), (55 : UInt8), (56 : UInt8), (57 : UInt8)]) = (ByteArray.mk (List.toArray digs10)), ByteArray.size (o_cutm s) ≤ (9223372036854775807 : Nat), (Bool.not (o_seq (o_trimd (o_cutm s)) (ByteArray.mk #[]))) = true]) := by kernel_rfl
theorem run29c (s : ByteArray) : fnEx Tryz.prog (lk E21) L29 (G1 [13, 22]) 60 Tryz.f29 [sStr s] = (let q0 := enc (o_val (o_cutm s)); let q1 := o_rt (o_toI (o_hasm s) q0); some (AV.tup [SV.agg [LV.v (Value.bool false), LV.v (Value.slice none (0 : Nat) (0 : Nat))], SV.one (LV.v (Value.int .i64 (3 : Int)))], [decide ((4000 : Int) < (↑(ByteArray.size s) : Int)) = false, (ByteArray.mk #[(45 : UInt8)]) = (ByteArray.mk #[(45 : UInt8)]), (ByteArray.mk #[(48 : UInt8), (49 : UInt8), (50 : UInt8), (51 : UInt8), (52 : UInt8), (53 : UInt8), (54 : UInt8), (55 : UInt8), (56 : UInt8), (57 : UInt8)]) = (ByteArray.mk (List.toArray digs10)), ByteArray.size (o_cutm s) ≤ (9223372036854775807 : Nat), (Bool.not (o_seq (o_trimd (o_cutm s)) (ByteArray.mk #[]))) = false, o_dgs (o_cutm s), Words q0, Ln q0, o_okz (o_toI (o_hasm s) q0), o_sz big q1, (Bool.not (o_seq (o_text q1) s)) = true])) := by kernel_rfl
theorem run29d (s : ByteArray) : fnEx Tryz.prog (lk E21) L29 (G1 [13, 22, 57]) 60 Tryz.f29 [sStr s] = (let q0 := enc (o_val (o_cutm s)); let q1 := o_rt (o_toI (o_hasm s) q0); some (AV.tup [SV.agg [LV.v (Value.bool (decide (o_toI (o_hasm s) q0 < (0 : Int)))), LV.row EK.u32 (enc (Int.natAbs (o_toI (o_hasm s) q0)))], SV.one (LV.v (Value.int .i64 (0 : Int)))], [decide ((4000 : Int) < (↑(ByteArray.size s) : Int)) = false, (ByteArray.mk #[(45 : UInt8)]) = (ByteArray.mk #[(45 : UInt8)]), (ByteArray.mk #[(48 : UInt8), (49 : UInt8), (50 : UInt8), (51 : UInt8), (52 : UInt8), (53 : UInt8), (54 : UInt8), (55 : UInt8), (56 : UInt8), (57 : UInt8)]) = (ByteArray.mk (List.toArray digs10)), ByteArray.size (o_cutm s) ≤ (9223372036854775807 : Nat), (Bool.not (o_seq (o_trimd (o_cutm s)) (ByteArray.mk #[]))) = false, o_dgs (o_cutm s), Words q0, Ln q0, o_okz (o_toI (o_hasm s) q0), o_sz big q1, (Bool.not (o_seq (o_text q1) s)) = false])) := by kernel_rfl
theorem loop30a (ty2 : TypeId) (neg : Bool) (s : ByteArray) (i : Nat) : codeV Tryz.prog (lk E21) L0 (G1 [49, 50, 52, 53]) Tryz.f30.ntmps 60 (loopC Tryz.f30 0) [2, 3, 4, 5, 6, 7] [2] (I30 ty2 neg s i) = (let q0 := IntKind.wrap .u8 (o_byte s (Int.toNat (↑i : Int)) - (48 : Int)); let q2 := decide (o_byte s (Int.toNat (↑i : Int)) < (48 : Int)) = false; let q3 := enc (val10 (List.take i (Array.toList (ByteArray.data s)))); let q4 := List.take (1 : Nat) (List.drop (0 : Nat) [(10 : Int)]); let q1 := enc (nv q3 * nv q4); let q5 := enc (Int.toNat (IntKind.wrap .u64 q0)); let q6 := (↑(ByteArray.size s) : Int); some (Ex.normal, { tmps := [((2 : Nat), AV.s (SV.one (LV.ptr (2 : Nat) (0 : Nat)))), ((3 : Nat), AV.s (SV.one (LV.v (Value.int .i64 (0 : Int))))), ((4 : Nat), AV.s (SV.one (LV.v (Value.string s)))), ((5 : Nat), AV.s (SV.one (LV.v (Value.bool neg)))), ((6 : Nat), AV.s (SV.one (LV.row EK.u32 (enc (nv q1 + nv q5))))), ((7 : Nat), AV.s (SV.one (LV.v (Value.int .i64 (IntKind.wrap .i64 ((↑i : Int) + (1 : Int)))))))], boxes := [((2 : Nat), { ty := ty2, bc := BC.cells [LV.v (Value.bool false), LV.row EK.u32 []], mut_ := true })] }, [decide ((↑i : Int) < q6) = true, (0 : Int) ≤ (↑i : Int) ∧ (↑i : Int) < q6, q2, q2, q2, decide ((57 : Int) < o_byte s (Int.toNat (↑i : Int))) = false, (0 : Nat) + (1 : Nat) ≤ (0 : Nat) + (1 : Nat) ∧ (1 : Nat) ≤ (1 : Nat) ∧ (1 : Nat) ≤ (9223372036854775807 : Nat), Words q3, Words q4, List.length q3 < (137438953472 : Nat), List.length q4 < (137438953472 : Nat), (0 : Int) ≤ IntKind.wrap .u64 q0 ∧ IntKind.wrap .u64 q0 < (18446744073709551616 : Int), Words q1, Words q5, List.length q1 < (137438953472 : Nat), List.length q5 < (137438953472 : Nat)])) := by kernel_rfl
theorem loop30b (ty2 : TypeId) (neg : Bool) (s : ByteArray) (i : Nat) : codeV Tryz.prog (lk E21) L0 (G1 [42]) Tryz.f30.ntmps 60 (loopC Tryz.f30 0) [2, 5, 6] [2] (I30 ty2 neg s i) = some (Ex.exit (0 : Nat), { tmps := [((2 : Nat), AV.s (SV.one (LV.ptr (2 : Nat) (0 : Nat)))), ((5 : Nat), AV.s (SV.one (LV.v (Value.bool neg)))), ((6 : Nat), AV.s (SV.one (LV.row EK.u32 (enc (val10 (List.take i (Array.toList (ByteArray.data s))))))))], boxes := [((2 : Nat), { ty := ty2, bc := BC.cells [LV.v (Value.bool false), LV.row EK.u32 []], mut_ := true })] }, [decide ((↑i : Int) < (↑(ByteArray.size s) : Int)) = false]) := by kernel_rfl
theorem loop30c (ty2 : TypeId) (neg : Bool) (s : ByteArray) (i : Nat) : codeV Tryz.prog (lk E21) L0 (G1 []) Tryz.f30.ntmps 60 (loopC Tryz.f30 0) [2, 3] [2] (I30 ty2 neg s i) = (let q0 := decide (o_byte s (Int.toNat (↑i : Int)) < (48 : Int)) = true; let q1 := (↑(ByteArray.size s) : Int); some (Ex.ret, { tmps := [((2 : Nat), AV.s (SV.one (LV.ptr (2 : Nat) (0 : Nat)))), ((3 : Nat), AV.s (SV.one (LV.v (Value.int .i64 (3 : Int)))))], boxes := [((2 : Nat), { ty := ty2, bc := BC.cells [LV.v (Value.bool false), LV.v (Value.slice none (0 : Nat) (0 : Nat))], mut_ := true })] }, [decide ((↑i : Int) < q1) = true, (0 : Int) ≤ (↑i : Int) ∧ (↑i : Int) < q1, q0, q0, q0, true = true])) := by kernel_rfl
theorem loop30d (ty2 : TypeId) (neg : Bool) (s : ByteArray) (i : Nat) : codeV Tryz.prog (lk E21) L0 (G1 [49, 50]) Tryz.f30.ntmps 60 (loopC Tryz.f30 0) [2, 3] [2] (I30 ty2 neg s i) = (let q0 := decide (o_byte s (Int.toNat (↑i : Int)) < (48 : Int)) = false; let q1 := (↑(ByteArray.size s) : Int); some (Ex.ret, { tmps := [((2 : Nat), AV.s (SV.one (LV.ptr (2 : Nat) (0 : Nat)))), ((3 : Nat), AV.s (SV.one (LV.v (Value.int .i64 (3 : Int)))))], boxes := [((2 : Nat), { ty := ty2, bc := BC.cells [LV.v (Value.bool false), LV.v (Value.slice none (0 : Nat) (0 : Nat))], mut_ := true })] }, [decide ((↑i : Int) < q1) = true, (0 : Int) ≤ (↑i : Int) ∧ (↑i : Int) < q1, q0, q0, q0, decide ((57 : Int) < o_byte s (Int.toNat (↑i : Int))) = true])) := by kernel_rfl
theorem run30a (s : ByteArray) : fnEx Tryz.prog (lk E21) (L30 true) (G1 []) 60 Tryz.f30 [sStr s] = some (AV.tup [SV.agg [LV.v (Value.bool false), LV.v (Value.slice none (0 : Nat) (0 : Nat))], SV.one (LV.v (Value.int .i64 (2 : Int)))], [decide ((4000 : Int) < (↑(ByteArray.size s) : Int)) = true]) := by kernel_rfl
theorem run30m0 (s : ByteArray) : fnEx Tryz.prog (lk E21) (L30 true) (G1 [11]) 60 Tryz.f30 [sStr s] = (let q0 := decide ((↑(ByteArray.size (o_sub s (Int.toNat (1 : Int)) (ByteArray.size s))) : Int) = (0 : Int)) = true; let q2 := (↑(ByteArray.size s) : Int); let q1 := decide ((0 : Int) < q2) = true; some (AV.tup [SV.agg [LV.v (Value.bool false), LV.v (Value.slice none (0 : Nat) (0 : Nat))], SV.one (LV.v (Value.int .i64 (3 : Int)))], [decide ((4000 : Int) < q2) = false, q1, q1, (0 : Int) ≤ (0 : Int) ∧ (0 : Int) < q2, q1, q1, decide (o_byte s (Int.toNat (0 : Int)) = (45 : Int)) = true, (0 : Int) ≤ (1 : Int) ∧ (1 : Int) ≤ q2, q0, q0, q0, q0, q0, q0, true = true])) := by kernel_rfl
theorem run30m1 (s : ByteArray) : fnEx Tryz.prog (lk E21) (L30 true) (G1 [11, 27, 28]) 60 Tryz.f30 [sStr s] = (let q3 := o_sub s (Int.toNat (1 : Int)) (ByteArray.size s); let q1 := decide (o_byte q3 (Int.toNat (0 : Int)) = (48 : Int)) = true; let q4 := (↑(ByteArray.size s) : Int); let q2 := decide ((0 : Int) < q4) = true; let q5 := (↑(ByteArray.size q3) : Int); let q0 := decide (q5 = (0 : Int)) = false; some (AV.tup [SV.agg [LV.v (Value.bool false), LV.v (Value.slice none (0 : Nat) (0 : Nat))], SV.one (LV.v (Value.int .i64 (3 : Int)))], [decide ((4000 : Int) < q4) = false, q2, q2, (0 : Int) ≤ (0 : Int) ∧ (0 : Int) < q4, q2, q2, decide (o_byte s (Int.toNat (0 : Int)) = (45 : Int)) = true, (0 : Int) ≤ (1 : Int) ∧ (1 : Int) ≤ q4, q0, q0, (0 : Int) ≤ (0 : Int) ∧ (0 : Int) < q5, q0, q0, q1, q1, q0, q1, q0, (Bool.not (o_seq s (ByteArray.mk #[(48 : UInt8)]))) = true])) := by kernel_rfl
theorem run30m2 (s : ByteArray) : fnEx Tryz.prog (lk E21) (L30 true) (G1 [11, 27, 28, 34, 35, 36]) 60 Tryz.f30 [sStr s] = (let q0 := o_sub s (Int.toNat (1 : Int)) (ByteArray.size s); let q3 := decide (o_byte q0 (Int.toNat (0 : Int)) = (48 : Int)) = true; let q4 := (↑(ByteArray.size s) : Int); let q2 := decide ((0 : Int) < q4) = true; let q5 := o_byte s (Int.toNat (0 : Int)) == (45 : Int); let q6 := (↑(ByteArray.size q0) : Int); let q1 := decide (q6 = (0 : Int)) = false; some (AV.tup [SV.agg [LV.v (Value.bool (decide (o_toI q5 (enc (o_val q0)) < (0 : Int)))), LV.row EK.u32 (enc (Int.natAbs (o_toI q5 (enc (o_val q0)))))], SV.one (LV.v (Value.int .i64 (0 : Int)))], [decide ((4000 : Int) < q4) = false, q2, q2, (0 : Int) ≤ (0 : Int) ∧ (0 : Int) < q4, q2, q2, decide (o_byte s (Int.toNat (0 : Int)) = (45 : Int)) = true, (0 : Int) ≤ (1 : Int) ∧ (1 : Int) ≤ q4, q1, q1, (0 : Int) ≤ (0 : Int) ∧ (0 : Int) < q6, q1, q1, q3, q3, q1, q3, q1, (Bool.not (o_seq s (ByteArray.mk #[(48 : UInt8)]))) = false, (0 : Int) = (0 : Int), (0 : Int) = (0 : Int), o_dgs q0, Words (enc (o_val q0)), Ln (enc (o_val q0))])) := by kernel_rfl
theorem run30m3 (s : ByteArray) : fnEx Tryz.prog (lk E21) (L30 false) (G1 [11, 27, 28, 34, 35, 36]) 60 Tryz.f30 [sStr s] = (let q0 := o_sub s (Int.toNat (1 : Int)) (ByteArray.size s); let q3 := decide (o_byte q0 (Int.toNat (0 : Int)) = (48 : Int)) = true; let q4 := (↑(ByteArray.size s) : Int); let q2 := decide ((0 : Int) < q4) = true; let q5 := (↑(ByteArray.size q0) : Int); let q1 := decide (q5 = (0 : Int)) = false; some (AV.tup [SV.agg [LV.v (Value.bool false), LV.v (Value.slice none (0 : Nat) (0 : Nat))], SV.one (LV.v (Value.int .i64 (3 : Int)))], [decide ((4000 : Int) < q4) = false, q2, q2, (0 : Int) ≤ (0 : Int) ∧ (0 : Int) < q4, q2, q2, decide (o_byte s (Int.toNat (0 : Int)) = (45 : Int)) = true, (0 : Int) ≤ (1 : Int) ∧ (1 : Int) ≤ q4, q1, q1, (0 : Int) ≤ (0 : Int) ∧ (0 : Int) < q5, q1, q1, q3, q3, q1, q3, q1, (Bool.not (o_seq s (ByteArray.mk #[(48 : UInt8)]))) = false, (0 : Int) = (0 : Int), (0 : Int) = (0 : Int), ¬o_dgs q0, ByteArray.size q0 ≤ (4000 : Nat)])) := by kernel_rfl
theorem run30m4 (s : ByteArray) : fnEx Tryz.prog (lk E21) (L30 true) (G1 [11, 27, 28, 31, 32, 35, 36]) 60 Tryz.f30 [sStr s] = (let q0 := o_sub s (Int.toNat (1 : Int)) (ByteArray.size s); let q3 := decide (o_byte q0 (Int.toNat (0 : Int)) = (48 : Int)) = false; let q4 := (↑(ByteArray.size s) : Int); let q2 := decide ((0 : Int) < q4) = true; let q5 := o_byte s (Int.toNat (0 : Int)) == (45 : Int); let q6 := (↑(ByteArray.size q0) : Int); let q1 := decide (q6 = (0 : Int)) = false; some (AV.tup [SV.agg [LV.v (Value.bool (decide (o_toI q5 (enc (o_val q0)) < (0 : Int)))), LV.row EK.u32 (enc (Int.natAbs (o_toI q5 (enc (o_val q0)))))], SV.one (LV.v (Value.int .i64 (0 : Int)))], [decide ((4000 : Int) < q4) = false, q2, q2, (0 : Int) ≤ (0 : Int) ∧ (0 : Int) < q4, q2, q2, decide (o_byte s (Int.toNat (0 : Int)) = (45 : Int)) = true, (0 : Int) ≤ (1 : Int) ∧ (1 : Int) ≤ q4, q1, q1, (0 : Int) ≤ (0 : Int) ∧ (0 : Int) < q6, q1, q1, q3, q3, q1, q3, q1, false = false, (0 : Int) = (0 : Int), (0 : Int) = (0 : Int), o_dgs q0, Words (enc (o_val q0)), Ln (enc (o_val q0))])) := by kernel_rfl
theorem run30m5 (s : ByteArray) : fnEx Tryz.prog (lk E21) (L30 false) (G1 [11, 27, 28, 31, 32, 35, 36]) 60 Tryz.f30 [sStr s] = (let q0 := o_sub s (Int.toNat (1 : Int)) (ByteArray.size s); let q3 := decide (o_byte q0 (Int.toNat (0 : Int)) = (48 : Int)) = false; let q4 := (↑(ByteArray.size s) : Int); let q2 := decide ((0 : Int) < q4) = true; let q5 := (↑(ByteArray.size q0) : Int); let q1 := decide (q5 = (0 : Int)) = false; some (AV.tup [SV.agg [LV.v (Value.bool false), LV.v (Value.slice none (0 : Nat) (0 : Nat))], SV.one (LV.v (Value.int .i64 (3 : Int)))], [decide ((4000 : Int) < q4) = false, q2, q2, (0 : Int) ≤ (0 : Int) ∧ (0 : Int) < q4, q2, q2, decide (o_byte s (Int.toNat (0 : Int)) = (45 : Int)) = true, (0 : Int) ≤ (1 : Int) ∧ (1 : Int) ≤ q4, q1, q1, (0 : Int) ≤ (0 : Int) ∧ (0 : Int) < q5, q1, q1, q3, q3, q1, q3, q1, false = false, (0 : Int) = (0 : Int), (0 : Int) = (0 : Int), ¬o_dgs q0, ByteArray.size q0 ≤ (4000 : Nat)])) := by kernel_rfl
theorem run30e (s : ByteArray) : fnEx Tryz.prog (lk E21) (L30 true) (G1 [11, 16, 17, 21, 22, 5]) 60 Tryz.f30 [sStr s] = (let q2 := (↑(ByteArray.size s) : Int); let q0 := decide (q2 = (0 : Int)) = true; let q1 := decide ((0 : Int) < q2) = false; some (AV.tup [SV.agg [LV.v (Value.bool false), LV.v (Value.slice none (0 : Nat) (0 : Nat))], SV.one (LV.v (Value.int .i64 (3 : Int)))], [decide ((4000 : Int) < q2) = false, q1, q1, q1, q1, false = false, q0, q0, q0, q0, q0, q0, true = true])) := by kernel_rfl
theorem run30p1 (s : ByteArray) : fnEx Tryz.prog (lk E21) (L30 true) (G1 [11, 20, 21, 22, 5, 27, 28]) 60 Tryz.f30 [sStr s] = (let q0 := (↑(ByteArray.size s) : Int); let q1 := decide (q0 = (0 : Int)) = false; let q2 := decide (o_byte s (Int.toNat (0 : Int)) = (48 : Int)) = true; let q3 := decide ((0 : Int) < q0) = true; let q4 := (0 : Int) ≤ (0 : Int) ∧ (0 : Int) < q0; some (AV.tup [SV.agg [LV.v (Value.bool false), LV.v (Value.slice none (0 : Nat) (0 : Nat))], SV.one (LV.v (Value.int .i64 (3 : Int)))], [decide ((4000 : Int) < q0) = false, q3, q3, q4, q3, q3, decide (o_byte s (Int.toNat (0 : Int)) = (45 : Int)) = false, q1, q1, q4, q1, q1, q2, q2, q1, q2, q1, (Bool.not (o_seq s (ByteArray.mk #[(48 : UInt8)]))) = true])) := by kernel_rfl
theorem run30p2 (s : ByteArray) : fnEx Tryz.prog (lk E21) (L30 true) (G1 [11, 20, 21, 22, 5, 27, 28, 34, 35, 36]) 60 Tryz.f30 [sStr s] = (let q0 := (↑(ByteArray.size s) : Int); let q1 := decide (q0 = (0 : Int)) = false; let q2 := decide (o_byte s (Int.toNat (0 : Int)) = (48 : Int)) = true; let q3 := decide ((0 : Int) < q0) = true; let q4 := o_byte s (Int.toNat (0 : Int)) == (45 : Int); let q5 := (0 : Int) ≤ (0 : Int) ∧ (0 : Int) < q0; some (AV.tup [SV.agg [LV.v (Value.bool (decide (o_toI q4 (enc (o_val s)) < (0 : Int)))), LV.row EK.u32 (enc (Int.natAbs (o_toI q4 (enc (o_val s)))))], SV.one (LV.v (Value.int .i64 (0 : Int)))], [decide ((4000 : Int) < q0) = false, q3, q3, q5, q3, q3, decide (o_byte s (Int.toNat (0 : Int)) = (45 : Int)) = false, q1, q1, q5, q1, q1, q2, q2, q1, q2, q1, (Bool.not (o_seq s (ByteArray.mk #[(48 : UInt8)]))) = false, (0 : Int) = (0 : Int), (0 : Int) = (0 : Int), o_dgs s, Words (enc (o_val s)), Ln (enc (o_val s))])) := by kernel_rfl
theorem run30p3 (s : ByteArray) : fnEx Tryz.prog (lk E21) (L30 false) (G1 [11, 20, 21, 22, 5, 27, 28, 34, 35, 36]) 60 Tryz.f30 [sStr s] = (let q0 := (↑(ByteArray.size s) : Int); let q1 := decide (q0 = (0 : Int)) = false; let q2 := decide (o_byte s (Int.toNat (0 : Int)) = (48 : Int)) = true; let q3 := decide ((0 : Int) < q0) = true; let q4 := (0 : Int) ≤ (0 : Int) ∧ (0 : Int) < q0; some (AV.tup [SV.agg [LV.v (Value.bool false), LV.v (Value.slice none (0 : Nat) (0 : Nat))], SV.one (LV.v (Value.int .i64 (3 : Int)))], [decide ((4000 : Int) < q0) = false, q3, q3, q4, q3, q3, decide (o_byte s (Int.toNat (0 : Int)) = (45 : Int)) = false, q1, q1, q4, q1, q1, q2, q2, q1, q2, q1, (Bool.not (o_seq s (ByteArray.mk #[(48 : UInt8)]))) = false, (0 : Int) = (0 : Int), (0 : Int) = (0 : Int), ¬o_dgs s, ByteArray.size s ≤ (4000 : Nat)])) := by kernel_rfl
theorem run30p4 (s : ByteArray) : fnEx Tryz.prog (lk E21) (L30 true) (G1 [11, 20, 21, 22, 5, 27, 28, 31, 32, 35, 36]) 60 Tryz.f30 [sStr s] = (let q0 := (↑(ByteArray.size s) : Int); let q1 := decide (q0 = (0 : Int)) = false; let q2 := decide (o_byte s (Int.toNat (0 : Int)) = (48 : Int)) = false; let q3 := decide ((0 : Int) < q0) = true; let q4 := o_byte s (Int.toNat (0 : Int)) == (45 : Int); let q5 := (0 : Int) ≤ (0 : Int) ∧ (0 : Int) < q0; some (AV.tup [SV.agg [LV.v (Value.bool (decide (o_toI q4 (enc (o_val s)) < (0 : Int)))), LV.row EK.u32 (enc (Int.natAbs (o_toI q4 (enc (o_val s)))))], SV.one (LV.v (Value.int .i64 (0 : Int)))], [decide ((4000 : Int) < q0) = false, q3, q3, q5, q3, q3, decide (o_byte s (Int.toNat (0 : Int)) = (45 : Int)) = false, q1, q1, q5, q1, q1, q2, q2, q1, q2, q1, false = false, (0 : Int) = (0 : Int), (0 : Int) = (0 : Int), o_dgs s, Words (enc (o_val s)), Ln (enc (o_val s))])) := by kernel_rfl
theorem run30p5 (s : ByteArray) : fnEx Tryz.prog (lk E21) (L30 false) (G1 [11, 20, 21, 22, 5, 27, 28, 31, 32, 35, 36]) 60 Tryz.f30 [sStr s] = (let q0 := (↑(ByteArray.size s) : Int); let q1 := decide (q0 = (0 : Int)) = false; let q2 := decide (o_byte s (Int.toNat (0 : Int)) = (48 : Int)) = false; let q3 := decide ((0 : Int) < q0) = true; let q4 := (0 : Int) ≤ (0 : Int) ∧ (0 : Int) < q0; some (AV.tup [SV.agg [LV.v (Value.bool false), LV.v (Value.slice none (0 : Nat) (0 : Nat))], SV.one (LV.v (Value.int .i64 (3 : Int)))], [decide ((4000 : Int) < q0) = false, q3, q3, q4, q3, q3, decide (o_byte s (Int.toNat (0 : Int)) = (45 : Int)) = false, q1, q1, q4, q1, q1, q2, q2, q1, q2, q1, false = false, (0 : Int) = (0 : Int), (0 : Int) = (0 : Int), ¬o_dgs s, ByteArray.size s ≤ (4000 : Nat)])) := by kernel_rfl
theorem run40 (x : Int) : fnEx Tryz.prog (lk E21) L0 (G1 []) 60 Tryz.f40 [.abs [x]] = (let q1 := decide (o_fits (o_rt x) = o_fits (o_rt x)) = true; let q2 := decide (sgnI (o_rt x) = sgnI (o_rt x)) = true; let q3 := decide (-o_rt x = -o_rt x) = true; let q4 := decide (o_small (o_rt x) = o_small (o_rt x)) = true; let q5 := (↑(o_bits (Int.natAbs (o_rt x))) : Int); let q0 := decide (q5 = q5) = true; some (AV.s (SV.one (LV.v (Value.bool (o_seq (o_text (o_rt x)) (o_text (o_rt x)))))), [o_okz x, o_sz big (o_rt x), o_okz x, o_sz big (o_rt x), q4, q4, q4, q4, q1, q1, o_okz x, o_sz big (o_rt x), q1, q1, o_okz x, o_sz big (o_rt x), q1, q1, q2, q2, o_okz x, o_sz big (o_rt x), q2, q2, o_okz x, o_sz big (o_rt x), q2, o_sz big (-o_rt x), o_sz big (-o_rt x), q2, q3, q3, o_okz x, o_sz big (o_rt x), q3, q3, o_okz x, o_sz big (o_rt x), q3, q3, q0, q0, o_okz x, o_sz big (o_rt x), q0, q0, o_okz x, o_sz big (o_rt x), q0, q0])) := by kernel_rfl
end Go.Proofs.YtkfdnpbpebmhaaaGreatDoor.Spec
end
namespace Go.Proofs.YtkfdnpbpebmhaaaGreatDoor.Num
open Go.Proofs.YtkfdnpbpebmhaaaGreatDoor.Spec Sx

def AllD (l : List UInt8) : Prop := ∀ c ∈ l, isDig c = true
theorem canT_minus (t : List UInt8) : text (pval (45 :: t)) = 45 :: t ↔ AllD t ∧ t ≠ [] ∧ t.head? ≠ some 48 := by
  rw [pval_minus]
  constructor
  · intro h
    have hv : val10 t ≠ 0 := by
      intro e
      rw [e] at h
      have : [48] = (45 : UInt8) :: t := h
      simp at this
    obtain ⟨l, e1, e2, e3⟩ := text_neg (z := -(val10 t : Int)) (by omega)
    rw [h] at e1
    have e1 : t = l := by injection e1
    subst e1
    exact ⟨by rw [e2]; exact dec_dig _, e3, by rw [e2]; exact dec_head _⟩
  · rintro ⟨h1, h2, h3⟩
    exact text_of_neg h1 h2 h3
theorem canT_plus {l : List UInt8} (h : l.head? ≠ some 45) : text (pval l) = l ↔ AllD l ∧ l ≠ [] ∧ (l.head? ≠ some 48 ∨ l = [48]) := by
  rw [pval_other h]
  constructor
  · intro e
    have := text_nonneg (z := (val10 l : Nat)) (by omega)
    rw [e] at this
    exact this
  · rintro ⟨h1, h2, h3⟩
    exact text_of h1 h2 h3
theorem val10_append (a b : List UInt8) : val10 (a ++ b) = val10 a * 10 ^ b.length + val10 b := by
  have key : ∀ (b : List UInt8) (x : Nat), b.foldl (fun a c => a * 10 + (c.toNat - 48)) x = x * 10 ^ b.length + b.foldl (fun a c => a * 10 + (c.toNat - 48)) 0 := by
    intro b
    induction b with
    | nil => intro x; simp
    | cons c b ih =>
      intro x
      rw [List.foldl_cons, List.foldl_cons, ih, ih (0 * 10 + _), List.length_cons, Nat.pow_succ, Nat.add_mul, Nat.zero_mul, Nat.zero_add, Nat.mul_comm (10 ^ b.length) 10, Nat.mul_assoc, Nat.add_assoc]
  unfold val10
  rw [List.foldl_append, key]
theorem dropW_nil {p : UInt8 → Bool} : ∀ {l : List UInt8}, l.dropWhile p = [] ↔ ∀ c ∈ l, p c = true
  | [] => by simp
  | c :: l => by
    rw [List.dropWhile_cons]
    by_cases h : p c = true
    · rw [if_pos h, dropW_nil]; simp [h]
    · rw [if_neg h]; simp [h]
theorem trimS_nil {l cs : List UInt8} : Lib.trimS l cs = [] ↔ ∀ c ∈ l, cs.contains c = true := by
  unfold Lib.trimS Lib.trimLeftS Lib.trimRightS
  rw [dropW_nil]
  constructor
  · intro h
    have h2 : l.reverse.dropWhile (cs.contains ·) = [] := by
      cases hd : l.reverse.dropWhile (cs.contains ·) with
      | nil => rfl
      | cons c t =>
        exfalso
        have h3 := h c (by rw [hd]; simp)
        have := List.head?_dropWhile_not (cs.contains ·) l.reverse
        rw [hd] at this
        simp at this
        simp [this] at h3
    rw [dropW_nil] at h2
    exact fun c hc => h2 c (by simpa using hc)
  · intro h c hc
    rw [List.mem_reverse] at hc
    exact h c (by simpa using (List.dropWhile_sublist _).subset hc)
theorem digs_dig (c : UInt8) : digs10.contains c = isDig c := by
  rw [Bool.eq_iff_iff, List.contains_iff_mem, isDig_iff]
  constructor
  · intro h
    simp only [digs10, List.mem_cons, List.not_mem_nil, or_false] at h
    rcases h with rfl | rfl | rfl | rfl | rfl | rfl | rfl | rfl | rfl | rfl <;> decide
  · rintro ⟨h1, h2⟩
    have : ∀ n : Nat, 48 ≤ n → n ≤ 57 → UInt8.ofNat n ∈ digs10 := by
      intro n a b
      have : n = 48 ∨ n = 49 ∨ n = 50 ∨ n = 51 ∨ n = 52 ∨ n = 53 ∨ n = 54 ∨ n = 55 ∨ n = 56 ∨ n = 57 := by omega
      rcases this with rfl | rfl | rfl | rfl | rfl | rfl | rfl | rfl | rfl | rfl <;> decide
    have h3 := this c.toNat h1 h2
    rwa [UInt8.ofNat_toNat] at h3
theorem sub_tx (l : List UInt8) (a b : Nat) : o_sub (tx l) a b = tx ((l.drop a).take (b - a)) := by
  unfold o_sub
  rw [← tx_list (ByteArray.extract _ _ _)]
  congr 1
  simp [tx]
theorem get_tx (l : List UInt8) (n : Nat) : (tx l)[n]? = l[n]? := by
  by_cases h : n < l.length
  · have h2 : n < (tx l).size := by rw [tx_size]; exact h
    rw [List.getElem?_eq_getElem h, getElem?_pos (tx l) n h2]
    rfl
  · rw [List.getElem?_eq_none (by omega), getElem?_neg]
    rw [tx_size]; exact h
theorem byte_tx (l : List UInt8) (n : Nat) : o_byte (tx l) n = ((l[n]?.map UInt8.toNat).getD 0 : Nat) := by
  unfold o_byte
  rw [get_tx]
theorem byte_tx_at {l : List UInt8} {n : Nat} (h : n < l.length) : o_byte (tx l) n = (l[n].toNat : Int) := by
  rw [byte_tx, List.getElem?_eq_getElem h]; rfl
theorem val10_sz (l : List UInt8) (h : AllD l) {k : Nat} (hk : l.length ≤ k) : (enc (val10 l)).length ≤ k := by
  rw [enc_len]
  have h1 := val10_lt l 0 h
  rw [Nat.zero_add, Nat.one_mul] at h1
  have h2 : 10 ^ l.length ≤ B ^ l.length := Nat.pow_le_pow_left (by decide) _
  have h3 : B ^ l.length ≤ B ^ k := Nat.pow_le_pow_right (by decide) hk
  unfold val10
  omega

end Go.Proofs.YtkfdnpbpebmhaaaGreatDoor.Num
namespace Go.Proofs.YtkfdnpbpebmhaaaGreatDoor.Spec
open Go Go.RowKit Sx Num

/-- What parsing answers: the error, the number. -/
def o_qe (s : ByteArray) : Int := if 4000 < s.size then 2 else if text (pval s.data.toList) = s.data.toList then 0 else 3
def o_qz (s : ByteArray) : Int := if o_qe s = 0 then pval s.data.toList else 0
def spParse : Sp
  | [.one (.v (.string s))] => some (.tup [.abs [o_qz s], num (o_qe s)], [])
  | _ => none
theorem sub29 {st : St} {e : Ex} {s : St} {obs : List Prop} (h : F29 st = some (e, s, obs)) (hob : AllP obs) : ∃ x : TypeId × Bool × ByteArray × ByteArray, o_dgs x.2.2.2 ∧ SubS (fixSt2 st) (I29 x.1 x.2.1 x.2.2.1 x.2.2.2 0) ∧ e = .exit 0 ∧ s = ⟨[(0, .s (sStr x.2.2.1)), (2, ptrV 2), (5, .s (boo x.2.1)), (6, .s (roW (enc (o_val x.2.2.2))))], [(2, bx0 x.1)]⟩ := by
  unfold F29 at h
  split at h
  · rename_i s0 s neg ty2 hz h0 h2 h4 h5 h6 b2
    simp only [Option.some.injEq, Prod.mk.injEq] at h
    obtain ⟨rfl, rfl, rfl⟩ := h
    obtain ⟨hd, _⟩ := hob
    refine ⟨(ty2, neg, s0, s), hd, ⟨?_, ?_, ?_⟩, rfl, rfl⟩
    · intro p hp
      have e0 : enc (val10 []) = [] := rfl
      simp only [I29, ptrV, List.drop_zero, List.take_zero, e0, tx_list, List.mem_cons, List.not_mem_nil, or_false] at hp
      rcases hp with rfl | rfl | rfl | rfl | rfl <;> exact ⟨by assumption, rfl⟩
    · intro p hp
      simp only [I29, bx0, List.mem_cons, List.not_mem_nil, or_false] at hp
      rcases hp with rfl
      exact ⟨by assumption, rfl⟩
    · intro hl
      have : liv (fixSt2 st).boxes = liv st.boxes := liv_fix _
      rw [this, hz] at hl; cases hl
  · cases h
theorem loop9 (L : List UInt8) {p k : Nat} (hp : p < L.length) (h9 : p = 0 ∨ (L.length - p) % 9 = 0) (hk : (L.length - p - 1) % 9 + 1 = k) : k ≤ L.length - p ∧ k ≤ 9 ∧ 0 < k ∧ (L.length - (p + k)) % 9 = 0 ∧ val10 (L.take p) * 1000000000 + val10 ((L.drop p).take k) = val10 (L.take (p + k)) := by
  have h1 := Nat.mod_le (L.length - p - 1) 9
  have h2 := Nat.mod_lt (L.length - p - 1) (show 9 > 0 by decide)
  refine ⟨by omega, by omega, by omega, by omega, ?_⟩
  rw [List.take_add, val10_append]
  have hl : (List.take k (List.drop p L)).length = k := by rw [List.length_take, List.length_drop]; omega
  rw [hl]
  rcases h9 with rfl | h9
  · simp [val10]
  · have : k = 9 := by omega
    subst this
    rfl
theorem lo29 : ∀ d ∈ loopsF Tryz.f29, LoopOk Tryz.prog Tryz.f29.ntmps L29 d := by
  rw [show loopsF Tryz.f29 = [loopC Tryz.f29 0] by kernel_rfl]
  intro d hd
  rw [List.mem_singleton] at hd
  subst hd
  refine loop_okT (k := 7) (f := F29) (α := (TypeId × Bool × ByteArray × ByteArray) × Nat) (by kernel_rfl) (by kernel_rfl) (fun x => I29 x.1.1 x.1.2.1 x.1.2.2.1 x.1.2.2.2 x.2) (fun x => ⟨[(0, .s (sStr x.1.2.2.1)), (2, ptrV 2), (5, .s (boo x.1.2.1)), (6, .s (roW (enc (o_val x.1.2.2.2))))], [(2, bx0 x.1.1)]⟩) (fun x => o_dgs x.1.2.2.2 ∧ x.2 ≤ x.1.2.2.2.data.toList.length ∧ (x.2 = 0 ∨ (x.1.2.2.2.data.toList.length - x.2) % 9 = 0)) (fun x => x.1.2.2.2.data.toList.length - x.2) (fun _ => .exit 0) (fun _ => by simp) ?_ ?_
  · intro st e s obs h hob
    obtain ⟨x, h0, h1, h2, h3⟩ := sub29 h hob
    exact ⟨(x, 0), ⟨h0, Nat.zero_le _, .inl rfl⟩, h1, h2, h3⟩
  rintro ⟨⟨ty, neg, s0, s⟩, p⟩ ⟨hd, hp, h9⟩
  obtain ⟨L, hL⟩ : ∃ L, s.data.toList = L := ⟨_, rfl⟩
  have hd : o_dgs s := hd
  have hp : p ≤ s.data.toList.length := hp
  have h9 : p = 0 ∨ (s.data.toList.length - p) % 9 = 0 := h9
  have hsz : s.size = L.length := by rw [← hL]; rfl
  obtain ⟨hd1, hd2⟩ := hd
  rw [hL] at hd1 hp h9
  have hno : ∀ d ∈ loopsOf (loopC Tryz.f29 0), LoopOk Tryz.prog Tryz.f29.ntmps L0 d := by rw [show loopsOf (loopC Tryz.f29 0) = [] by kernel_rfl]; intro d hd; cases hd
  have hdl : (tx (List.drop p L)).size = L.length - p := by rw [tx_size, List.length_drop]
  rcases Nat.lt_or_ge p L.length with hlt | hge
  · obtain ⟨k, hk⟩ : ∃ k, (L.length - p - 1) % 9 + 1 = k := ⟨_, rfl⟩
    obtain ⟨k1, k2, k3, k4, k5⟩ := loop9 L hlt h9 hk
    have w1 : IntKind.wrap IntKind.i64 (((L.length - p : Nat) : Int) - 1) = ((L.length - p - 1 : Nat) : Int) := by rw [wi64 _ (by omega) (by omega)]; omega
    have w2 : Int.tmod ((L.length - p - 1 : Nat) : Int) 9 = (((L.length - p - 1) % 9 : Nat) : Int) := by rw [Int.tmod_eq_emod_of_nonneg (Int.natCast_nonneg _)]; rfl
    have w3 : IntKind.wrap IntKind.i64 ((((L.length - p - 1) % 9 : Nat) : Int) + 1) = (k : Int) := by rw [wi64 _ (by omega) (by omega)]; omega
    have hsh : o_short (tx (List.take k (List.drop p L))) := by
      refine ⟨fun c hc => hd1 c ?_, by rw [tx_size, List.length_take, List.length_drop]; omega, by rw [tx_size, List.length_take, List.length_drop]; omega⟩
      rw [list_tx] at hc
      exact List.mem_of_mem_drop (List.mem_of_mem_take hc)
    have hs1 : o_sub (tx (List.drop p L)) 0 k = tx (List.take k (List.drop p L)) := by rw [sub_tx, List.drop_zero, Nat.sub_zero]
    have hs2 : o_sub (tx (List.drop p L)) k (L.length - p) = tx (List.drop (p + k) L) := by
      rw [sub_tx, List.drop_drop, List.take_of_length_le (by rw [List.length_drop]; omega)]
    have hpu : o_pu (tx (List.take k (List.drop p L))) = (val10 (List.take k (List.drop p L)) : Nat) := by unfold o_pu; rw [list_tx]
    have hpl : val10 (List.take k (List.drop p L)) < 1000000000 := by
      have := val10_lt (List.take k (List.drop p L)) 0 (fun c hc => hd1 c (List.mem_of_mem_drop (List.mem_of_mem_take hc)))
      have hl : (List.take k (List.drop p L)).length = k := by rw [List.length_take, List.length_drop]; omega
      rw [hl, Nat.zero_add, Nat.one_mul] at this
      have h9 : 10 ^ k ≤ 10 ^ 9 := Nat.pow_le_pow_right (by decide) k2
      unfold val10
      omega
    have tn9 : Int.toNat 1000000000 = 1000000000 := rfl
    have hq1 : (enc (val10 (List.take p L))).length ≤ 4000 := val10_sz _ (fun c hc => hd1 c (List.mem_of_mem_take hc)) (by rw [List.length_take]; omega)
    have hq2 : (enc 1000000000).length ≤ 1 := enc_len_le (by decide)
    have hq3 := mul_len' hq1 hq2
    have hq4 : (enc (val10 (List.take k (List.drop p L)))).length ≤ 1 := enc_len_le (by unfold B; omega)
    refine (codeV_sound hmix E21ok.hS hno (loop29a ty neg s0 s p) ?_).mono ?_
    · simp only [AllP, hL, hdl, w1, w2, w3, tnc, hs1, hpu, nv_enc, tn9, words_e]
      and_intros <;> first | exact trivial | omega | exact decide_eq_true (by omega) | exact hsh.1 | exact hsh.2.1 | exact hsh.2.2
    · rintro e s' ⟨rfl, hs⟩
      refine .inl ⟨rfl, ((ty, neg, s0, s), p + k), ⟨⟨by rw [hL]; exact hd1, hd2⟩, ?_, ?_⟩, ?_, ?_, rfl, rfl⟩
      · show p + k ≤ s.data.toList.length
        rw [hL]; omega
      · right
        show (s.data.toList.length - (p + k)) % 9 = 0
        rw [hL]; exact k4
      · show s.data.toList.length - (p + k) < s.data.toList.length - p
        rw [hL]; omega
      · simp only [hL, hdl, w1, w2, w3, tnc, hs1, hs2, hpu, nv_enc, tn9, k5] at hs
        show SubS s' (I29 ty neg s0 s (p + k))
        unfold I29
        rw [hL]
        exact hs
  · refine (codeV_sound hmix E21ok.hS hno (loop29b ty neg s0 s p) ?_).mono ?_
    · simp only [AllP, hL, hdl]
      exact ⟨decide_eq_false (by omega), trivial⟩
    · rintro e s' ⟨rfl, hs⟩
      refine .inr ⟨rfl, ?_⟩
      rw [hL, List.take_of_length_le hge, ← hL] at hs
      exact hs

theorem cutm_cases (l : List UInt8) : (∃ t, l = 45 :: t ∧ o_hasm (tx l) = true ∧ o_cutm (tx l) = tx t) ∨ (l.head? ≠ some 45 ∧ o_hasm (tx l) = false ∧ o_cutm (tx l) = tx l) := by
  unfold o_hasm o_cutm
  rw [list_tx]
  cases l with
  | nil => exact .inr ⟨by simp, rfl, rfl⟩
  | cons c t =>
    by_cases h : c = 45
    · subst h
      exact .inl ⟨t, rfl, by simp [Lib.hasPrefix], by simp [Lib.trimPrefix, Lib.hasPrefix]⟩
    · have h2 : ¬ (45 : UInt8) = c := fun e => h e.symm
      exact .inr ⟨by simpa using h, by simp [Lib.hasPrefix, List.isPrefixOf, h2], by simp [Lib.trimPrefix, Lib.hasPrefix, List.isPrefixOf, h2]⟩
theorem len_lt {n k m : Nat} (h : (enc n).length ≤ k) (hk : k ≤ m) : n < B ^ m := Nat.lt_of_lt_of_le ((enc_len n k).1 h) (Nat.pow_le_pow_right (by decide) hk)
/-- What lies behind the sign. -/
theorem cutm_val (l : List UInt8) : o_toI (o_hasm (tx l)) (enc (o_val (o_cutm (tx l)))) = pval l ∧ (text (pval l) = l → AllD (o_cutm (tx l)).data.toList) ∧ (o_cutm (tx l)).data.toList.length ≤ l.length := by
  unfold o_val
  rcases cutm_cases l with ⟨t, rfl, h1, h2⟩ | ⟨h0, h1, h2⟩
  · rw [h1, h2, list_tx, toI_n, if_pos rfl]
    exact ⟨rfl, fun h => ((canT_minus t).1 h).1, by rw [List.length_cons]; omega⟩
  · rw [h1, h2, list_tx, toI_n, if_neg (by simp), pval_other h0]
    exact ⟨rfl, fun h => ((canT_plus h0).1 (by rw [pval_other h0]; exact h)).1, Nat.le_refl _⟩
theorem trimd_nil (s : ByteArray) : o_seq (o_trimd s) (ByteArray.mk #[]) = true ↔ AllD s.data.toList := by
  rw [seq_iff]
  unfold o_trimd
  constructor
  · intro h
    have h2 : Lib.trimS s.data.toList digs10 = [] := tx_inj (b := []) h
    rw [trimS_nil] at h2
    exact fun c hc => by rw [← digs_dig]; exact h2 c hc
  · intro h
    rw [trimS_nil.2 fun c hc => by rw [digs_dig]; exact h c hc]
    rfl
def spParse0 : Sp
  | [.one (.v (.string s))] => some (.tup [.agg [.v (.bool false), .v (.slice none 0 0)], num (o_qe s)], [o_qe s ≠ 0])
  | _ => none
def spParse1 : Sp
  | [.one (.v (.string s))] => some (.tup [.abs [pval s.data.toList], num 0], [o_qe s = 0])
  | _ => none
theorem parse_z {f : FuncId} (h0 : Con Tryz.prog f spParse0) (h1 : Con Tryz.prog f spParse1) : Con Tryz.prog f spParse := by
  refine con_cases (con_absA (con_ans h0)) h1 fun avs r ps hs hp => ?_
  unfold spParse at hs
  split at hs
  · rename_i s
    simp only [Option.some.injEq, Prod.mk.injEq] at hs
    obtain ⟨rfl, rfl⟩ := hs
    by_cases h : o_qe s = 0
    · right
      rw [o_qz, if_pos h, h]
      exact ⟨_, rfl, h, trivial⟩
    · left
      rw [o_qz, if_neg h]
      exact ⟨_, rfl, h, trivial⟩
  · cases hs
theorem tup0 {a b : Int} (h : a = b) : AV.tup [.agg [.v (.bool false), .v (.slice none 0 0)], .one (.v (.int .i64 a))] = .tup [.agg [.v (.bool false), .v (.slice none 0 0)], num b] := by subst h; rfl
theorem con29a : Con Tryz.prog 29 spParse0 := by
  refine con_runL (fn := Tryz.f29) hmix E21ok.hS (by kernel_rfl) (fun _ => by kernel_rfl) ?_
  intro avs r ps hsp hps
  unfold spParse0 at hsp
  split at hsp
  · rename_i s
    simp only [Option.some.injEq, Prod.mk.injEq] at hsp
    obtain ⟨rfl, rfl⟩ := hsp
    obtain ⟨hne, _⟩ := hps
    obtain ⟨l, rfl⟩ : ∃ l, s = tx l := ⟨s.data.toList, rfl⟩
    obtain ⟨v1, v2, v3⟩ := cutm_val l
    have hcs : (o_cutm (tx l)).size = (o_cutm (tx l)).data.toList.length := rfl
    by_cases hbig : 4000 < (tx l).size
    · refine ⟨rfl, L29, lo29, _, _, _, _, run29a _, tup0 (by unfold o_qe; rw [if_pos hbig]), ?_⟩
      exact ⟨decide_eq_true (by omega), trivial⟩
    · have hsz : (tx l).size = l.length := tx_size l
      have hq : o_qe (tx l) = 3 ∧ text (pval l) ≠ l := by
        unfold o_qe at hne ⊢
        rw [if_neg hbig, list_tx] at hne ⊢
        by_cases h : text (pval l) = l
        · rw [if_pos h] at hne; exact absurd rfl hne
        · rw [if_neg h]; exact ⟨rfl, h⟩
      have db : decide (4000 < (((tx l).size : Nat) : Int)) = false := decide_eq_false (by omega)
      by_cases hd : AllD (o_cutm (tx l)).data.toList
      · have hts := (trimd_nil _).2 hd
        have hz := val10_sz _ hd (k := 4000) (by omega)
        have hzz : o_sz big (o_toI (o_hasm (tx l)) (enc (o_val (o_cutm (tx l))))) := by
          unfold o_sz o_toI
          rw [nv_enc]
          have : o_val (o_cutm (tx l)) < B ^ big := len_lt hz (by unfold big; omega)
          split <;> omega
        refine ⟨rfl, L29, lo29, _, _, _, _, run29c _, tup0 hq.1.symm, ?_⟩
        simp only [AllP, rt_eq, okz_t, hts, db]
        refine ⟨trivial, trivial, rfl, by omega, rfl, ⟨hd, by omega⟩, words_enc _, ?_, trivial, hzz, ?_, trivial⟩
        · unfold Ln; unfold o_val; omega
        · rw [v1]
          have : o_seq (o_text (pval l)) (tx l) = false := seq_false fun e => hq.2 (tx_inj e)
          rw [this]; rfl
      · have hts : o_seq (o_trimd (o_cutm (tx l))) (ByteArray.mk #[]) = false := by
          cases h : o_seq (o_trimd (o_cutm (tx l))) (ByteArray.mk #[]) with
          | false => rfl
          | true => exact absurd ((trimd_nil _).1 h) hd
        refine ⟨rfl, L29, lo29, _, _, _, _, run29b _, tup0 hq.1.symm, ?_⟩
        simp only [AllP, hts, db]
        exact ⟨trivial, trivial, rfl, by omega, rfl, trivial⟩
  · cases hsp
theorem tupQ {a b : Int} (h : a = b) : AV.tup [.agg [.v (.bool (decide (a < 0))), .row .u32 (enc a.natAbs)], .one (.v (.int .i64 0))] = unAA (.tup [.abs [b], num 0]) := by subst h; rfl
theorem qe_zero {l : List UInt8} (h : o_qe (tx l) = 0) : l.length ≤ 4000 ∧ text (pval l) = l := by
  unfold o_qe at h
  rw [tx_size, list_tx] at h
  split at h
  · cases h
  · split at h
    · rename_i h1 h2; exact ⟨by omega, h2⟩
    · cases h
theorem con29b : Con Tryz.prog 29 spParse1 := by
  refine con_runZ (fn := Tryz.f29) hmix E21ok.hS (by kernel_rfl) (fun _ => by kernel_rfl) ?_
  intro avs r ps hsp hps
  unfold spParse1 at hsp
  split at hsp
  · rename_i s
    simp only [Option.some.injEq, Prod.mk.injEq] at hsp
    obtain ⟨rfl, rfl⟩ := hsp
    obtain ⟨hz, _⟩ := hps
    obtain ⟨l, rfl⟩ : ∃ l, s = tx l := ⟨s.data.toList, rfl⟩
    obtain ⟨v1, v2, v3⟩ := cutm_val l
    obtain ⟨hsz, ht⟩ := qe_zero hz
    have hcs : (o_cutm (tx l)).size = (o_cutm (tx l)).data.toList.length := rfl
    have hd := v2 ht
    have hts := (trimd_nil _).2 hd
    have hz := val10_sz _ hd (k := 4000) (by omega)
    have hsl := tx_size l
    have db : decide (4000 < (((tx l).size : Nat) : Int)) = false := decide_eq_false (by omega)
    have hzz : o_sz big (o_toI (o_hasm (tx l)) (enc (o_val (o_cutm (tx l))))) := by
      unfold o_sz o_toI
      rw [nv_enc]
      have : o_val (o_cutm (tx l)) < B ^ big := len_lt hz (by unfold big; omega)
      split <;> omega
    refine ⟨rfl, L29, lo29, _, _, _, _, run29d _, tupQ (by rw [v1, list_tx]), ?_⟩
    simp only [AllP, rt_eq, okz_t, hts, db]
    refine ⟨trivial, trivial, rfl, by omega, rfl, ⟨hd, by omega⟩, words_enc _, ?_, trivial, hzz, ?_, trivial⟩
    · unfold Ln; unfold o_val; omega
    · rw [v1]
      have : o_seq (o_text (pval l)) (tx l) = true := seq_true (congrArg tx ht)
      rw [this]; rfl
  · cases hsp
theorem con29 : Con Tryz.prog 29 spParse := parse_z con29a con29b

end Go.Proofs.YtkfdnpbpebmhaaaGreatDoor.Spec
namespace Go.Proofs.YtkfdnpbpebmhaaaGreatDoor.Spec
open Go Go.RowKit Sx Num

abbrev A30 : Type := TypeId × Bool × ByteArray
def fin30 (d : Bool) (x : A30) : St := bif d then ⟨[(2, ptrV 2), (5, .s (boo x.2.1)), (6, .s (roW (enc (o_val x.2.2))))], [(2, bx0 x.1)]⟩ else ⟨[(2, ptrV 2), (3, .s (num 3))], [(2, box0 x.1)]⟩
def ex30 (d : Bool) : Ex := bif d then .exit 0 else .ret
def V30 (d : Bool) (s : ByteArray) : Prop := s.size ≤ 4000 ∧ (bif d then AllD s.data.toList else ¬ AllD s.data.toList)
theorem sub30 {d : Bool} {st : St} {e : Ex} {s : St} {obs : List Prop} (h : F30 d st = some (e, s, obs)) (hob : AllP obs) : ∃ x : A30, V30 d x.2.2 ∧ SubS (fixSt2 st) (I30 x.1 x.2.1 x.2.2 0) ∧ e = ex30 d ∧ s = fin30 d x := by
  unfold F30 at h
  split at h
  · rename_i e3 s neg i7 ty2 hz h2 h3 h4 h5 h6 h7 b2
    have key : e3 = 0 → i7 = 0 → SubS (fixSt2 st) (I30 ty2 neg s 0) := by
      rintro rfl rfl
      refine ⟨?_, ?_, ?_⟩
      · intro p hp
        have e0 : enc (val10 []) = [] := rfl
        simp only [I30, ptrV, List.take_zero, e0, List.mem_cons, List.not_mem_nil, or_false] at hp
        rcases hp with rfl | rfl | rfl | rfl | rfl | rfl <;> exact ⟨by assumption, rfl⟩
      · intro p hp
        simp only [I30, bx0, List.mem_cons, List.not_mem_nil, or_false] at hp
        rcases hp with rfl
        exact ⟨by assumption, rfl⟩
      · intro hl
        have : liv (fixSt2 st).boxes = liv st.boxes := liv_fix _
        rw [this, hz] at hl; cases hl
    cases d with
    | true =>
      simp only [cond_true, Option.some.injEq, Prod.mk.injEq] at h
      obtain ⟨rfl, rfl, rfl⟩ := h
      obtain ⟨h1, h2, hd, _⟩ := hob
      exact ⟨(ty2, neg, s), ⟨hd.2, hd.1⟩, key h1 h2, rfl, rfl⟩
    | false =>
      simp only [cond_false, Option.some.injEq, Prod.mk.injEq] at h
      obtain ⟨rfl, rfl, rfl⟩ := h
      obtain ⟨h1, h2, hd, hs, _⟩ := hob
      exact ⟨(ty2, neg, s), ⟨hs, fun h => hd ⟨h, hs⟩⟩, key h1 h2, rfl, rfl⟩
  · cases h
theorem byte_dig {c : UInt8} (h : isDig c = true) : IntKind.wrap IntKind.u64 (IntKind.wrap IntKind.u8 ((c.toNat : Int) - 48)) = ((c.toNat - 48 : Nat) : Int) := by
  have h := isDig_iff.1 h
  rw [w64]
  unfold IntKind.wrap IntKind.bits IntKind.signed
  simp
  omega
theorem nv_10 : nv (List.take 1 (List.drop 0 [(10 : Int)])) = 10 := rfl
theorem words_10 : Words (List.take 1 (List.drop 0 [(10 : Int)])) := by intro x hx; simp at hx; subst hx; decide
theorem lo30 (d : Bool) : ∀ c ∈ loopsF Tryz.f30, LoopOk Tryz.prog Tryz.f30.ntmps (L30 d) c := by
  rw [show loopsF Tryz.f30 = [loopC Tryz.f30 0] by kernel_rfl]
  intro c hc
  rw [List.mem_singleton] at hc
  subst hc
  refine loop_okT (k := 11) (f := F30 d) (α := A30 × Nat) (by kernel_rfl) (by kernel_rfl) (fun x => I30 x.1.1 x.1.2.1 x.1.2.2 x.2) (fun x => fin30 d x.1) (fun x => V30 d x.1.2.2 ∧ x.2 ≤ x.1.2.2.data.toList.length ∧ AllD (x.1.2.2.data.toList.take x.2)) (fun x => x.1.2.2.data.toList.length - x.2) (fun _ => ex30 d) (fun _ => by cases d <;> simp [ex30]) ?_ ?_
  · intro st e s obs h hob
    obtain ⟨x, h0, h1, h2, h3⟩ := sub30 h hob
    exact ⟨(x, 0), ⟨h0, Nat.zero_le _, fun c hc => by simp at hc⟩, h1, h2, h3⟩
  rintro ⟨⟨ty, neg, s⟩, i⟩ ⟨⟨hsz, hd⟩, hi, hD⟩
  obtain ⟨l, rfl⟩ : ∃ l, s = tx l := ⟨s.data.toList, rfl⟩
  have hsz : (tx l).size ≤ 4000 := hsz
  have hi : i ≤ (tx l).data.toList.length := hi
  have hD : AllD ((tx l).data.toList.take i) := hD
  have hd : bif d then AllD (tx l).data.toList else ¬ AllD (tx l).data.toList := hd
  rw [list_tx] at hi hD hd
  have hl := tx_size l
  have hno : ∀ d ∈ loopsOf (loopC Tryz.f30 0), LoopOk Tryz.prog Tryz.f30.ntmps L0 d := by rw [show loopsOf (loopC Tryz.f30 0) = [] by kernel_rfl]; intro d hd; cases hd
  rcases Nat.lt_or_ge i l.length with hlt | hge
  · have hb := byte_tx_at hlt
    have hc256 : (l[i]).toNat < 256 := UInt8.toNat_lt _
    by_cases hdig : isDig l[i] = true
    · have hdd := isDig_iff.1 hdig
      have hbd := byte_dig hdig
      have w1 : IntKind.wrap IntKind.i64 ((i : Int) + 1) = ((i + 1 : Nat) : Int) := by rw [wi64 _ (by omega) (by omega)]; omega
      have htk : l.take (i + 1) = l.take i ++ [l[i]] := List.take_succ_eq_append_getElem hlt
      have hv : val10 (l.take i) * 10 + ((l[i]).toNat - 48) = val10 (l.take (i + 1)) := by rw [htk, val10_app]
      have hq1 : (enc (val10 (l.take i))).length ≤ 4000 := val10_sz _ hD (by rw [List.length_take]; omega)
      have hq2 : (enc 10).length ≤ 1 := enc_len_le (by decide)
      have hq3 := mul_len' hq1 hq2
      have hq4 : (enc ((l[i]).toNat - 48)).length ≤ 1 := enc_len_le (by unfold B; omega)
      have l10 : (List.take 1 (List.drop 0 [(10 : Int)])).length = 1 := rfl
      refine (codeV_sound hmix E21ok.hS hno (loop30a ty neg (tx l) i) ?_).mono ?_
      · simp only [AllP, list_tx, tnc, hb, hbd, nv_enc, nv_10, l10, words_e]
        and_intros <;> first | exact trivial | omega | exact words_10 | exact decide_eq_true (by omega) | exact decide_eq_false (by omega)
      · rintro e s' ⟨rfl, hs⟩
        refine .inl ⟨rfl, ((ty, neg, tx l), i + 1), ⟨⟨hsz, by rw [list_tx]; exact hd⟩, ?_, ?_⟩, ?_, ?_, rfl, rfl⟩
        · show i + 1 ≤ (tx l).data.toList.length
          rw [list_tx]; exact hlt
        · show AllD ((tx l).data.toList.take (i + 1))
          rw [list_tx, htk]
          intro c hc
          rcases List.mem_append.1 hc with hc | hc
          · exact hD c hc
          · rw [List.mem_singleton] at hc; subst hc; exact hdig
        · show (tx l).data.toList.length - (i + 1) < (tx l).data.toList.length - i
          rw [list_tx]; omega
        · simp only [list_tx, tnc, hb, hbd, nv_enc, nv_10, w1, hv] at hs
          show SubS s' (I30 ty neg (tx l) (i + 1))
          unfold I30
          rw [list_tx]
          exact hs
    · have hdt : d = false := by
        cases d with
        | false => rfl
        | true => exact absurd ((show AllD l from hd) _ (List.getElem_mem hlt)) hdig
      subst hdt
      have hnd : (l[i]).toNat < 48 ∨ 57 < (l[i]).toNat := by
        rcases Nat.lt_or_ge (l[i]).toNat 48 with h | h
        · exact .inl h
        · rcases Nat.lt_or_ge 57 (l[i]).toNat with h2 | h2
          · exact .inr h2
          · exact absurd (isDig_iff.2 ⟨h, h2⟩) hdig
      by_cases h48 : (l[i]).toNat < 48
      · refine (codeV_sound hmix E21ok.hS hno (loop30c ty neg (tx l) i) ?_).mono ?_
        · simp only [AllP, tnc, hb]
          and_intros <;> first | exact trivial | omega | exact decide_eq_true (by omega)
        · rintro e s' ⟨rfl, hs⟩
          exact .inr ⟨rfl, hs⟩
      · refine (codeV_sound hmix E21ok.hS hno (loop30d ty neg (tx l) i) ?_).mono ?_
        · simp only [AllP, tnc, hb]
          and_intros <;> first | exact trivial | omega | exact decide_eq_true (by omega) | exact decide_eq_false (by omega)
        · rintro e s' ⟨rfl, hs⟩
          exact .inr ⟨rfl, hs⟩
  · have hall : AllD l := by rwa [List.take_of_length_le hge] at hD
    have hdt : d = true := by
      cases d with
      | true => rfl
      | false => exact absurd hall hd
    subst hdt
    refine (codeV_sound hmix E21ok.hS hno (loop30b ty neg (tx l) i) ?_).mono ?_
    · exact ⟨decide_eq_false (by omega), trivial⟩
    · rintro e s' ⟨rfl, hs⟩
      refine .inr ⟨rfl, ?_⟩
      rw [list_tx, List.take_of_length_le hge] at hs
      have ev : o_val (tx l) = val10 l := by unfold o_val; rw [list_tx]
      show SubS s' ⟨[(2, ptrV 2), (5, .s (boo neg)), (6, .s (roW (enc (o_val (tx l)))))], [(2, bx0 ty)]⟩
      rw [ev]
      exact hs

theorem qe_form {l : List UInt8} (hs : l.length ≤ 4000) (h : text (pval l) ≠ l) : o_qe (tx l) = 3 := by
  unfold o_qe
  rw [tx_size, list_tx, if_neg (by omega), if_neg h]
theorem sub1 (c : UInt8) (t : List UInt8) : o_sub (tx (c :: t)) (Int.toNat 1) (tx (c :: t)).size = tx t := by
  rw [sub_tx, tx_size, List.length_cons]
  show tx (List.take (t.length + 1 - 1) t) = _
  rw [Nat.add_sub_cancel, List.take_length]
theorem byte0 (c : UInt8) (t : List UInt8) : o_byte (tx (c :: t)) (Int.toNat 0) = (c.toNat : Int) := byte_tx_at (l := c :: t) (n := 0) (by simp)
theorem ne_toNat {c : UInt8} {n : Nat} (h : c ≠ UInt8.ofNat n) (hn : n < 256) : c.toNat ≠ n := by
  intro e
  apply h
  rw [← UInt8.toNat_inj, e, UInt8.toNat_ofNat']
  omega
theorem con30a : Con Tryz.prog 30 spParse0 := by
  refine con_runL (fn := Tryz.f30) hmix E21ok.hS (by kernel_rfl) (fun _ => by kernel_rfl) ?_
  intro avs r ps hsp hps
  unfold spParse0 at hsp
  split at hsp
  · rename_i s
    simp only [Option.some.injEq, Prod.mk.injEq] at hsp
    obtain ⟨rfl, rfl⟩ := hsp
    obtain ⟨hne, _⟩ := hps
    obtain ⟨l, rfl⟩ : ∃ l, s = tx l := ⟨s.data.toList, rfl⟩
    have hsz := tx_size l
    by_cases hbig : 4000 < (tx l).size
    · refine ⟨rfl, L30 true, lo30 true, _, _, _, _, run30a _, tup0 (by unfold o_qe; rw [if_pos hbig]), ?_⟩
      exact ⟨decide_eq_true (by omega), trivial⟩
    · have hl4 : l.length ≤ 4000 := by omega
      have hnt : text (pval l) ≠ l := by
        intro h
        apply hne
        unfold o_qe
        rw [if_neg hbig, list_tx, if_pos h]
      have hq := qe_form hl4 hnt
      have db : decide (4000 < (((tx l).size : Nat) : Int)) = false := decide_eq_false (by omega)
      cases l with
      | nil =>
        refine ⟨rfl, L30 true, lo30 true, _, _, _, _, run30e _, tup0 hq.symm, ?_⟩
        simp only [AllP, hsz, List.length_nil]
        and_intros <;> first | exact trivial | rfl
      | cons c t =>
        have hsz : (tx (c :: t)).size = t.length + 1 := hsz
        have ht := tx_size t
        have hc256 : c.toNat < 256 := UInt8.toNat_lt _
        have hb0 := byte0 c t
        have hs1 := sub1 c t
        by_cases h45 : c = 45
        · subst h45
          have hb0 : o_byte (tx (45 :: t)) (Int.toNat 0) = 45 := hb0
          cases t with
          | nil =>
            refine ⟨rfl, L30 true, lo30 true, _, _, _, _, run30m0 _, tup0 hq.symm, ?_⟩
            simp only [AllP, hb0, hs1]
            simp only [hsz, ht, List.length_nil]
            and_intros <;> first | exact trivial | rfl | decide
          | cons b u =>
            have hb1 := byte0 b u
            have hb256 : b.toNat < 256 := UInt8.toNat_lt _
            by_cases h48 : b = 48
            · subst h48
              have hb1 : o_byte (tx (48 :: u)) (Int.toNat 0) = 48 := hb1
              have hsq : o_seq (tx (45 :: 48 :: u)) (ByteArray.mk #[(48 : UInt8)]) = false := seq_false fun e => by
                have := tx_inj (b := [48]) e
                simp at this
              refine ⟨rfl, L30 true, lo30 true, _, _, _, _, run30m1 _, tup0 hq.symm, ?_⟩
              simp only [AllP, hb0, hs1]
              simp only [hb1, hsz, ht, hsq, List.length_cons]
              have hl6 : u.length + 1 + 1 ≤ 4000 := hl4
              and_intros <;> first | exact trivial | omega | exact decide_eq_true (by omega) | exact decide_eq_false (by omega) | rfl
            · have hnd : ¬ AllD (b :: u) := fun hd => hnt ((canT_minus _).2 ⟨hd, by simp, by simpa using h48⟩)
              have hne48 := ne_toNat (n := 48) h48 (by decide)
              refine ⟨rfl, L30 false, lo30 false, _, _, _, _, run30m5 _, tup0 hq.symm, ?_⟩
              simp only [AllP, hb0, hs1]
              simp only [hb1, hsz, ht, List.length_cons]
              have hnd2 : ¬ o_dgs (tx (b :: u)) := fun h => hnd (by have := h.1; rwa [list_tx] at this)
              have hl5 : u.length + 1 + 1 ≤ 4000 := hl4
              and_intros <;> first | exact trivial | omega | exact hnd2 | exact decide_eq_true (by omega) | exact decide_eq_false (by omega) | rfl
        · have hne45 := ne_toNat (n := 45) h45 (by decide)
          have hh : (c :: t).head? ≠ some 45 := by simpa using h45
          have hl5 : t.length + 1 ≤ 4000 := hl4
          by_cases h48 : c = 48
          · subst h48
            have hb0 : o_byte (tx (48 :: t)) (Int.toNat 0) = 48 := hb0
            have hsq : o_seq (tx (48 :: t)) (ByteArray.mk #[(48 : UInt8)]) = false := seq_false fun e => by
              have := tx_inj (b := [48]) e
              exact hnt (by rw [this]; rfl)
            refine ⟨rfl, L30 true, lo30 true, _, _, _, _, run30p1 _, tup0 hq.symm, ?_⟩
            simp only [AllP, hb0, hsz, hsq]
            and_intros <;> first | exact trivial | omega | exact decide_eq_true (by omega) | exact decide_eq_false (by omega) | rfl
          · have hnd : ¬ AllD (c :: t) := fun hd => hnt ((canT_plus hh).2 ⟨hd, by simp, .inl (by simpa using h48)⟩)
            have hne48 := ne_toNat (n := 48) h48 (by decide)
            have hnd2 : ¬ o_dgs (tx (c :: t)) := fun h => hnd (by have := h.1; rwa [list_tx] at this)
            refine ⟨rfl, L30 false, lo30 false, _, _, _, _, run30p5 _, tup0 hq.symm, ?_⟩
            simp only [AllP, hb0, hsz]
            and_intros <;> first | exact trivial | omega | exact hnd2 | exact decide_eq_true (by omega) | exact decide_eq_false (by omega) | rfl
  · cases hsp
theorem con30b : Con Tryz.prog 30 spParse1 := by
  refine con_runZ (fn := Tryz.f30) hmix E21ok.hS (by kernel_rfl) (fun _ => by kernel_rfl) ?_
  intro avs r ps hsp hps
  unfold spParse1 at hsp
  split at hsp
  · rename_i s
    simp only [Option.some.injEq, Prod.mk.injEq] at hsp
    obtain ⟨rfl, rfl⟩ := hsp
    obtain ⟨hz, _⟩ := hps
    obtain ⟨l, rfl⟩ : ∃ l, s = tx l := ⟨s.data.toList, rfl⟩
    have hsz := tx_size l
    obtain ⟨hl4, htx⟩ := qe_zero hz
    have db : decide (4000 < (((tx l).size : Nat) : Int)) = false := decide_eq_false (by omega)
    cases l with
    | nil => exact absurd htx (by decide)
    | cons c t =>
      have hsz : (tx (c :: t)).size = t.length + 1 := hsz
      have hl5 : t.length + 1 ≤ 4000 := hl4
      have ht := tx_size t
      have hc256 : c.toNat < 256 := UInt8.toNat_lt _
      have hb0 := byte0 c t
      have hs1 := sub1 c t
      by_cases h45 : c = 45
      · subst h45
        have hb0 : o_byte (tx (45 :: t)) (Int.toNat 0) = 45 := hb0
        obtain ⟨hd, hne, hh⟩ := (canT_minus t).1 htx
        cases t with
        | nil => exact absurd rfl hne
        | cons b u =>
          have hb1 := byte0 b u
          have hb256 : b.toNat < 256 := UInt8.toNat_lt _
          have h48 : b ≠ 48 := by simpa using hh
          have hne48 := ne_toNat (n := 48) h48 (by decide)
          have hbq : ((45 : Int) == 45) = true := rfl
          have hvz := val10_sz _ hd (k := 4000) (by omega)
          have ev : o_val (tx (b :: u)) = val10 (b :: u) := by unfold o_val; rw [list_tx]
          have hdd : o_dgs (tx (b :: u)) := ⟨by rw [list_tx]; exact hd, by rw [ht]; omega⟩
          have hln : Ln (enc (val10 (b :: u))) := by unfold Ln; omega
          refine ⟨rfl, L30 true, lo30 true, _, _, _, _, run30m4 _, tupQ (by rw [hb0, hs1, hbq, ev, toI_n, if_pos rfl, list_tx, pval_minus]), ?_⟩
          simp only [AllP, hb0, hs1]
          simp only [hb1, hsz, ht, ev, words_e, List.length_cons]
          have hl6 : u.length + 1 + 1 ≤ 4000 := hl5
          and_intros <;> first | exact trivial | omega | exact hdd.1 | exact hdd.2 | exact hln | exact decide_eq_true (by omega) | exact decide_eq_false (by omega) | rfl
      · have hne45 := ne_toNat (n := 45) h45 (by decide)
        have hh : (c :: t).head? ≠ some 45 := by simpa using h45
        obtain ⟨hd, hne, hc⟩ := (canT_plus hh).1 htx
        have hbq : (((c.toNat : Nat) : Int) == 45) = false := by rw [beq_eq_false_iff_ne]; omega
        have hvz := val10_sz _ hd (k := 4000) (by rw [List.length_cons]; omega)
        have ev : o_val (tx (c :: t)) = val10 (c :: t) := by unfold o_val; rw [list_tx]
        have hdd : o_dgs (tx (c :: t)) := ⟨by rw [list_tx]; exact hd, by rw [hsz]; omega⟩
        have hln : Ln (enc (val10 (c :: t))) := by unfold Ln; omega
        have hres : ∀ b : Bool, b = false → o_toI b (enc (val10 (c :: t))) = pval (tx (c :: t)).data.toList := by
          rintro b rfl
          rw [toI_n, if_neg (by simp), list_tx, pval_other hh]
        by_cases h48 : c = 48
        · subst h48
          have he : t = [] := by
            rcases hc with hc | hc
            · simp at hc
            · simpa using hc
          subst he
          have hb0 : o_byte (tx [48]) (Int.toNat 0) = 48 := hb0
          have hsq : o_seq (tx [48]) (ByteArray.mk #[(48 : UInt8)]) = true := seq_true rfl
          refine ⟨rfl, L30 true, lo30 true, _, _, _, _, run30p2 _, tupQ (by rw [ev]; exact hres _ (by rw [hb0]; rfl)), ?_⟩
          simp only [AllP, hb0, hsz, hsq, ev, words_e, List.length_nil]
          and_intros <;> first | exact trivial | omega | exact hdd.1 | exact hdd.2 | exact hln | exact decide_eq_true (by omega) | exact decide_eq_false (by omega) | rfl
        · have hne48 := ne_toNat (n := 48) h48 (by decide)
          refine ⟨rfl, L30 true, lo30 true, _, _, _, _, run30p4 _, tupQ (by rw [ev]; exact hres _ (by rw [hb0]; exact hbq)), ?_⟩
          simp only [AllP, hb0, hsz, ev, words_e]
          and_intros <;> first | exact trivial | omega | exact hdd.1 | exact hdd.2 | exact hln | exact decide_eq_true (by omega) | exact decide_eq_false (by omega) | rfl
  · cases hsp
theorem con30 : Con Tryz.prog 30 spParse := parse_z con30a con30b
/-- The functions of one integer agree. -/
def spNumbers : Sp
  | [.abs [x]] => some (.s (boo true), [o_sz 10000 x])
  | _ => none
theorem con40 : Con Tryz.prog 40 spNumbers := by
  refine con_flatZ (l := E21) (fn := Tryz.f40) hmix E21ok (by kernel_rfl) (by kernel_rfl) (fun _ => by kernel_rfl) ?_
  intro avs r ps hsp hps
  unfold spNumbers at hsp
  split at hsp
  · rename_i x
    simp only [Option.some.injEq, Prod.mk.injEq] at hsp
    obtain ⟨rfl, rfl⟩ := hsp
    obtain ⟨hx, _⟩ := hps
    have hb : o_sz big x := sz_mono hx (by unfold big; omega)
    have hn := sz_neg hb
    refine ⟨rfl, _, _, _, _, run40 x, booE (seq_true rfl), ?_⟩
    simp only [AllP, rt_eq, okz_t]
    and_intros <;> first | exact trivial | exact hb | exact hn | rfl
  · cases hsp
def E22 : List (Nat × Ctr) := (29, .fn spParse) :: (30, .fn spParse) :: (40, .fn (zArgs spNumbers)) :: E21
theorem E22ok : EnvOk Tryz.prog E22 := .cons con29 (.cons con30 (.cons (con_z con40) E21ok))

end Go.Proofs.YtkfdnpbpebmhaaaGreatDoor.Spec
section
set_option maxRecDepth 100000
namespace Go.Proofs.YtkfdnpbpebmhaaaGreatDoor.Spec
open Go Go.RowKit Sx Num

theorem run13 : fnEx Tryz.prog (lk E22) L0 (G1 []) 60 Tryz.f13 [] = (let q0 := (-9223372036854775808 : Int); let q1 := (9223372036854775808 : Int); let q2 := decide (sgnI ((-4 : Int) - (3 : Int)) = (-1 : Int)) = true; let q8 := decide (sgnI (-4 : Int) = (-1 : Int)) = true; let q9 := decide (o_dz (0 : Int) = (10 : Int)) = true; let q10 := decide (o_re (99 : Int) (2 : Int) = (0 : Int)) = true; let q11 := decide ((↑(o_bits (Int.natAbs (-8 : Int))) : Int) = (4 : Int)) = true; let q12 := decide (o_small (-9 : Int) = (-9 : Int)) = true; let q13 := q0 ≤ (-1 : Int) ∧ (-1 : Int) < q1; let q15 := q0 ≤ (0 : Int) ∧ (0 : Int) < q1; let q16 := (Bool.not (o_valid true [])) = true; let q17 := q0 ≤ (2 : Int) ∧ (2 : Int) < q1; let q18 := decide (o_dz (-2 : Int) = (0 : Int)) = true; let q19 := decide (o_pe (-1 : Int) = (1 : Int)) = true; let q20 := decide (o_pe (33 : Int) = (0 : Int)) = true; let q21 := decide (o_dz (2 : Int) = (0 : Int)) = true; let q22 := o_bv (0 : Int) (-3 : Int); let q23 := q0 ≤ (-4 : Int) ∧ (-4 : Int) < q1; let q24 := q0 ≤ (3 : Int) ∧ (3 : Int) < q1; let q25 := q0 ≤ (1 : Int) ∧ (1 : Int) < q1; let q26 := o_rootZ (99 : Int) (2 : Int); let q14 := decide (o_rt q26 = (9 : Int)) = true; let q27 := o_powZ (-2 : Int) (33 : Int); let q6 := decide (o_rt q27 = (-8589934592 : Int)) = true; let q28 := o_rem (7 : Int) (-2 : Int); let q29 := o_rem (-7 : Int) (2 : Int); let q30 := decide (o_re (-1 : Int) (3 : Int) = (1 : Int)) = true; let q31 := o_bu (0 : Int) (-3 : Int); let q7 := decide (o_rt q31 = (0 : Int)) = true; let q32 := gcdZ (-5 : Int) (0 : Int); let q33 := gcdZ (0 : Int) (-3 : Int); let q34 := o_bv (-5 : Int) (0 : Int); let q35 := o_bu (-5 : Int) (0 : Int); let q3 := decide (o_rt q35 = (-1 : Int)) = true; let q36 := gcdZ (6 : Int) (4 : Int); let q37 := o_bu (6 : Int) (4 : Int); let q4 := decide (o_rt q37 = (1 : Int)) = true; let q38 := o_bv (6 : Int) (4 : Int); let q39 := (7 : Int) / (-2 : Int); let q5 := decide (o_rt q39 = (-3 : Int)) = true; let q40 := o_fits (-9 : Int) = true; let q41 := decide (o_rt q22 = (-1 : Int)) = true; let q42 := q0 ≤ (-3 : Int) ∧ (-3 : Int) < q1; let q43 := q0 ≤ (-2 : Int) ∧ (-2 : Int) < q1; let q44 := q0 ≤ (7 : Int) ∧ (7 : Int) < q1; let q45 := o_sz (40000000 : Nat) (0 : Int); let q46 := q0 ≤ (5 : Int) ∧ (5 : Int) < q1; let q47 := enc (Int.natAbs (-2 : Int)); let q48 := enc (Int.natAbs (2 : Int)); some (AV.s (SV.one (LV.v (Value.bool (decide ((3 : Int) - (5 : Int) = (-2 : Int)))))), [q0 ≤ (-7 : Int) ∧ (-7 : Int) < q1, q17, o_sz big (-7 : Int), o_sz big (2 : Int), q44, q43, o_sz big (7 : Int), o_sz big (-2 : Int), q44, q15, o_sz big (7 : Int), o_sz big (0 : Int), q0 ≤ (6 : Int) ∧ (6 : Int) < q1, q0 ≤ (4 : Int) ∧ (4 : Int) < q1, o_sz (40000000 : Nat) (6 : Int), o_sz (40000000 : Nat) (4 : Int), q0 ≤ (-5 : Int) ∧ (-5 : Int) < q1, q15, o_sz (40000000 : Nat) (-5 : Int), q45, q15, q42, q45, o_sz (40000000 : Nat) (-3 : Int), q43, List.length q47 * (4097 : Nat) ≤ (100000000 : Nat) ∨ List.length q47 * (Int.toNat (33 : Int) + (1 : Nat)) ≤ (100000000 : Nat) ∨ ¬((0 : Int) ≤ (33 : Int) ∧ (33 : Int) ≤ (4096 : Int)), q0 ≤ (99 : Int) ∧ (99 : Int) < q1, o_sz (1000000 : Nat) (99 : Int), q17, List.length q48 * (4097 : Nat) ≤ (100000000 : Nat) ∨ List.length q48 * (Int.toNat (-1 : Int) + (1 : Nat)) ≤ (100000000 : Nat) ∨ ¬((0 : Int) ≤ (-1 : Int) ∧ (-1 : Int) ≤ (4096 : Int)), q13, o_sz (1000000 : Nat) (-1 : Int), q0 ≤ (-9 : Int) ∧ (-9 : Int) < q1, o_sz big (-9 : Int), q21, q21, q21, q18, q18, q18, q9, q9, q9, q9, o_okz (-7 / 2 : Int), o_okz q29, o_okz q39, o_rt (-7 / 2 : Int) = (-4 : Int), o_rt q29 = (1 : Int), o_sz big (o_rt (-7 / 2 : Int)), o_sz big (o_rt q29), o_sz big (o_rt q39), q23, q25, q42, q9, q5, q5, q5, q5, o_okz q28, o_okz q36, o_okz q37, o_rt q28 = (1 : Int), o_rt q36 = (2 : Int), o_sz big (o_rt q28), o_sz big (o_rt q36), o_sz big (o_rt q37), q25, q17, q25, q5, q4, q4, q4, q4, o_okz q38, o_okz q32, o_okz q35, o_rt q38 = (-1 : Int), o_rt q32 = (5 : Int), o_sz big (o_rt q38), o_sz big (o_rt q32), o_sz big (o_rt q35), q13, q46, q13, q4, q3, q3, q3, q3, o_okz q34, o_okz q33, o_okz q31, o_rt q34 = (0 : Int), o_rt q33 = (3 : Int), o_sz big (o_rt q34), o_sz big (o_rt q33), o_sz big (o_rt q31), q15, q24, q15, q3, q7, q7, q13, q7, o_okz q22, o_sz big (o_rt q22), o_sz big (-1 : Int), q7, q20, q20, q20, q10, q10, q0 ≤ (-8589934592 : Int) ∧ (-8589934592 : Int) < q1, q10, o_okz q27, o_sz big (o_rt q27), o_sz big (-8589934592 : Int), q10, q6, q6, q0 ≤ (9 : Int) ∧ (9 : Int) < q1, q6, o_okz q26, o_sz big (o_rt q26), o_sz big (9 : Int), q6, q14, q14, q14, q19, q19, q19, decide (o_qe (ByteArray.mk #[(45 : UInt8), (48 : UInt8)]) = (3 : Int)) = true, q0 ≤ (-120 : Int) ∧ (-120 : Int) < q1, decide (o_qe (ByteArray.mk #[(45 : UInt8), (48 : UInt8)]) = (3 : Int)) = true, o_sz big (-120 : Int), decide (o_qe (ByteArray.mk #[(45 : UInt8), (48 : UInt8)]) = (3 : Int)) = true, decide (o_qe (ByteArray.mk #[(45 : UInt8), (48 : UInt8)]) = (3 : Int)) = true, o_seq (o_text (-120 : Int)) (ByteArray.mk #[(45 : UInt8), (49 : UInt8), (50 : UInt8), (48 : UInt8)]) = true, o_seq (o_text (-120 : Int)) (ByteArray.mk #[(45 : UInt8), (49 : UInt8), (50 : UInt8), (48 : UInt8)]) = true, q40, q40, q40, q12, q0 ≤ (-8 : Int) ∧ (-8 : Int) < q1, q12, o_sz big (-8 : Int), q12, q12, q41, q41, q30, q30, q11, q13, q11, o_sz big (-1 : Int), q11, true = true, true = true, Words [], Ln [], true = true, true = true, q16, q23, q16, o_sz big (-4 : Int), q16, q16, q8, q23, q8, q24, q8, o_sz big (-4 : Int), o_sz big (3 : Int), q8, q8, q2, q24, q2, q46, q2, o_sz big (3 : Int), o_sz big (5 : Int), q2, q17, q2, o_sz big (2 : Int), q2, o_sz big ((3 : Int) - (5 : Int)), o_sz big (-2 : Int), q2])) := by kernel_rfl
end Go.Proofs.YtkfdnpbpebmhaaaGreatDoor.Spec
end
namespace Go.Proofs.YtkfdnpbpebmhaaaGreatDoor.Spec
open Go Go.RowKit Sx Num

theorem szb {z : Int} (h : z.natAbs < 18446744073709551616) {n : Nat} (hn : 2 ≤ n) : o_sz n z := Nat.lt_of_lt_of_le h (show B ^ 2 ≤ B ^ n from Nat.pow_le_pow_right (by decide) hn)
theorem b2 : 2 ≤ big := by unfold big; omega
def spTrue : Sp
  | [] => some (.s (boo true), [])
  | _ => none
theorem f1 : gcdZ 6 4 = 2 := by kernel_rfl
theorem f2 : gcdZ (-5) 0 = 5 := by kernel_rfl
theorem f3 : gcdZ 0 (-3) = 3 := by kernel_rfl
theorem f4 : o_bu 6 4 = 1 := by
  have h : o_bz1 (Int.natAbs 4) (Int.natAbs (6 % 4)) 0 1 = 1 := by
    show o_bz1 4 2 0 1 = 1
    unfold o_bz1
    rw [← bz_step (by decide)]
    show (bz 2 0 1 _).1 = 1
    rw [bz_zero]
  unfold o_bu
  rw [if_neg (by decide), h, f1]; rfl
theorem f5 : o_bv 6 4 = -1 := by unfold o_bv; rw [if_neg (by decide), f4, f1]; rfl
theorem f6 : o_bu (-5) 0 = -1 := by unfold o_bu; rw [if_pos rfl]; rfl
theorem f7 : o_bv (-5) 0 = 0 := by unfold o_bv; rw [if_pos rfl]
theorem f8 : o_bu 0 (-3) = 0 := by
  have h : o_bz1 (Int.natAbs (-3)) (Int.natAbs (0 % -3)) 0 1 = 0 := by
    show o_bz1 3 0 0 1 = 0
    unfold o_bz1
    rw [bz_zero]
  unfold o_bu
  rw [if_neg (by decide), h, f3]; rfl
theorem f9 : o_bv 0 (-3) = -1 := by unfold o_bv; rw [if_neg (by decide), f8, f3]; rfl
theorem f10 : o_powZ (-2) 33 = -8589934592 := by kernel_rfl
theorem f11 : o_rootZ 99 2 = 9 := by
  unfold o_rootZ
  rw [if_neg (by decide), root_uniq (s := 9) (by decide) (by decide) (by decide)]; rfl
theorem f12 : o_qe (ByteArray.mk #[(45 : UInt8), (48 : UInt8)]) = 3 := by kernel_rfl
theorem f13 : o_seq (o_text (-120)) (ByteArray.mk #[(45 : UInt8), (49 : UInt8), (50 : UInt8), (48 : UInt8)]) = true := seq_true (show tx (text (-120)) = tx [45, 49, 50, 48] from congrArg tx (by kernel_rfl))
theorem f14 : o_bits (Int.natAbs (-8)) = 4 := by kernel_rfl
set_option maxRecDepth 100000 in
theorem con13 : Con Tryz.prog 13 spTrue := by
  refine con_flat (l := E22) (fn := Tryz.f13) hmix E22ok (by kernel_rfl) (by kernel_rfl) (fun _ => by kernel_rfl) ?_
  intro avs r ps hsp hps
  unfold spTrue at hsp
  split at hsp
  · simp only [Option.some.injEq, Prod.mk.injEq] at hsp
    obtain ⟨rfl, rfl⟩ := hsp
    refine ⟨rfl, _, _, _, _, run13, rfl, ?_⟩
    simp only [AllP, rt_eq, okz_t, f1, f2, f3, f4, f5, f6, f7, f8, f9, f10, f11, f12, f13, f14]
    and_intros <;> first | exact trivial | decide | exact szb (by decide) b2 | exact szb (by decide) (by decide) | exact .inl (by decide) | rfl | exact Words.nil | (unfold Ln; decide)
  · cases hsp
def E23 : List (Nat × Ctr) := (13, .fn spTrue) :: E22
theorem E23ok : EnvOk Tryz.prog E23 := .cons con13 E22ok

end Go.Proofs.YtkfdnpbpebmhaaaGreatDoor.Spec
namespace Go.Proofs.YtkfdnpbpebmhaaaGreatDoor.Spec
open Go Go.RowKit Sx Num

def rawA (s : Bool) (xs : List Int) : SV := .agg [.v (.bool s), .row .u32 xs]
def spLaw3 : Sp
  | [.agg [.v (.bool _), .row .u32 xs], .agg [.v (.bool _), .row .u32 ys], .agg [.v (.bool _), .row .u32 zs]] => some (.s (boo true), [Words xs, Words ys, Words zs])
  | _ => none
theorem nd {p : Prop} [Decidable p] (h : p) : Bool.not (decide p) = false := by rw [decide_eq_true h]; rfl
theorem ln_sz {z : Int} (h : o_sz big z) : Ln (enc z.natAbs) := by
  have := sz_big h
  unfold Ln
  omega

end Go.Proofs.YtkfdnpbpebmhaaaGreatDoor.Spec
namespace Go.Proofs.YtkfdnpbpebmhaaaGreatDoor.Row
open Go Go.RowKit Go.ChangeShapes Go.WideShapes Go.ChangeAt Sx Num Spec

section
variable {P : Program} {H : Type} {enc : TypeId × Value → H} {W : World} {base : Nat}
/-- A struct of a sign and words, handed in. -/
theorem open_raw {t : TypeId} {f0 f1 : Field} {v : Value} {d : DataW H} {ps : List MemPlace} (ht : P.underlying t = some (.struct #[f0, f1])) (hc : P.cellsOf t = 2) (h0 : f0.offset = 0) (h1 : f1.offset = 1) (t0 : P.underlying f0.type = some .bool) (c0 : P.cellsOf f0.type = 1)
    {e : TypeId} (t1 : P.underlying f1.type = some (.slice e)) (c1 : P.cellsOf f1.type = 1) (te : P.underlying e = some (.int .u32)) (ce : P.cellsOf e = 1)
    (hval : Value.okWide P W .any base t v) (h : DataW.Trod enc P W 0 (fun _ => true) true t v d ps) :
    ∃ (s : Bool) (xs : List Int), Words xs ∧ gS (fun _ => False) (fun _ => 0) W (.agg [.v (.bool s), .row .u32 xs]) v := by
  obtain ⟨cs, rfl, hsz⟩ := okWide_struct ht hval
  obtain ⟨fuel, hf⟩ := h
  obtain ⟨y0, y1, n, _, hl, r0, r1⟩ := trod_struct2 ht hf
  have hcells : (Value.agg cs).cells = cs := rfl
  rw [hcells] at hl r0 r1
  rw [hc] at hl
  obtain ⟨l⟩ := cs
  match l, hl with
  | [a, b], _ =>
    rw [h0, c0] at r0
    rw [h1, c1] at r1
    simp only [List.drop_zero, List.take_succ_cons, List.take_zero, List.drop_succ_cons] at r0 r1
    obtain ⟨s, rfl⟩ : ∃ s, a = .bool s := by
      cases n with
      | zero => simp [DataW.trod] at r0
      | succ n =>
        simp only [DataW.trod, t0] at r0
        split at r0 <;> simp_all
    rcases open_ints t1 te ce r1 with ⟨hb, _⟩ | ⟨x, len, cap, zs, hb, _, hlen, hcap, hz, _, hcell, hw⟩
    · simp only [List.cons.injEq, and_true] at hb
      subst hb
      refine ⟨s, [], Words.nil, _, rfl, rfl, ⟨none, 0, rfl, Nat.le_refl _, by simp, fun _ _ h => by simp at h⟩, trivial⟩
    · simp only [List.cons.injEq, and_true] at hb
      subst hb
      simp only [if_true] at hz
      have hw2 : Words zs := fun n hn => by
        have h := hw n hn
        simp [Lit.wf, IntKind.min, IntKind.max, IntKind.signed, IntKind.bits] at h
        omega
      have hlt : (zs.take len).length = len := by rw [List.length_take]; omega
      refine ⟨s, zs.take len, hw2.take len, _, rfl, rfl, ⟨some x, cap, by rw [hlt], by omega, by simp only [maxLen] at hcap; omega, fun W' ha hpos => ⟨x, rfl, fun j hj => ?_⟩⟩, trivial⟩
      have hj2 : j < zs.length := by omega
      have hg := hcell j hj2
      have hk : (zs.take len).getD j 0 = zs.getD j 0 := by
        simp only [List.getD, List.getElem?_take]
        rw [if_pos (by omega)]
      rw [hk]
      have hblk : (x.add j).block < W.heap.size := by
        unfold World.cell? at hg
        split at hg
        · rename_i hb; exact (Array.getElem?_eq_some_iff.1 hb).1
        · cases hg
      have hsame := ha (x.add j).block (fun h => h) hblk
      show World.cell? W' (x.add j) = some (.int .u32 (zs.getD j 0))
      rw [← hg]
      unfold World.cell?
      rw [hsame]
end

end Go.Proofs.YtkfdnpbpebmhaaaGreatDoor.Row
namespace Go.Proofs.YtkfdnpbpebmhaaaGreatDoor.Row
open Go Go.RowKit Go.ChangeShapes Go.WideShapes Go.ChangeAt Sx Num Spec
open Go.ChangeMaps (open_string shut_string)

theorem own : ownKnob Tryz.prog.godebug = none := by kernel_rfl
theorem laidOut : laidOutB Tryz.prog = true := by kernel_rfl

/-- The cells of a laid datum: numbers, two levels deep. -/
def cell1 {H : Type} : DataW H → List Value
  | .lit (.int k n) => [.int k n]
  | _ => []
def cell2 {H : Type} : DataW H → List Value
  | .agg l => l.flatMap cell1
  | d => cell1 d
def cell3 {H : Type} : DataW H → List Value
  | .agg l => l.flatMap cell2
  | d => cell1 d
/-- A world in which the listed variables hold what their initialisers lay. -/
noncomputable def laidWorld (os : Os) : World :=
  let N := (World.settled Tryz.prog os).heap.size
  let w0 := World.holding Tryz.prog os ⟨#[
    .cells #[.string ⟨#[105, 110, 118, 97, 108, 105, 100, 32, 115, 121, 110, 116, 97, 120]⟩] 158, .cells #[.string ⟨#[118, 97, 108, 117, 101, 32, 111, 117, 116, 32, 111, 102, 32, 114, 97, 110, 103, 101]⟩] 158], #[], []⟩
  let put (h : Array Obj) (g : Nat) (cs : Array Value) : Array Obj := h.modify g fun
    | .cells _ t frozen => .cells cs t frozen
    | o => o
  let h1 := put w0.heap 1 #[.iface 156 (.pointer (some ⟨N, 0, none⟩))]
  let h2 := put h1 2 #[.iface 156 (.pointer (some ⟨N + 1, 0, none⟩))]
  let h3 := put h2 3 (cell3 Rows.laid_unicode_utf8_first).toArray
  let h4 := put h3 4 (cell3 (Rows.laid_unicode_utf8_acceptRanges (H := Unit))).toArray
  let h5 := put h4 6 (cell3 (Rows.laid_internal_strconv_uint64pow10 (H := Unit))).toArray
  let h6 := put h5 7 (cell3 (Rows.laid_math_bits_deBruijn32tab (H := Unit))).toArray
  let h7 := put h6 8 (cell3 (Rows.laid_math_bits_deBruijn64tab (H := Unit))).toArray
  { w0 with heap := h7 }
noncomputable abbrev N0 : Nat := (World.settled Tryz.prog default).heap.size
set_option maxRecDepth 1000000 in
theorem laid_met (os : Os) (args : Array Value) : laidMet Tryz.prog Rows.integerRingRow.laid ((laidWorld os).forCall (fun _ _ => 0) ⟨#[], args, []⟩).memory :=
  (LaidIn.of_run (l := Rows.integerRingRow.laid) [7, 8, 6, 4, 2, N0 + 1, 1, N0, 3] 8 (by kernel_rfl) (by kernel_rfl) (by kernel_rfl) (by kernel_rfl)).met


end Go.Proofs.YtkfdnpbpebmhaaaGreatDoor.Row
