/- The law ExprBack answers true for every input. Conditions: none. This last part holds the row. -/
import Derived.Test.YteommchgnocgnaaJExprBack3
import Derived.Test.YteommchgnocgnaaJExprBack2
import Derived.Test.YteommchgnocgnaaJExprBack1
import Derived.Deep.QuietTactic
import Derived.BigQuiet
import Derived.Outline
import Derived.Test.YteommchgnocgnaaRows
import Derived.WalkKit
import Derived.ProofKit
import Derived.OpenShut
import Derived.ShutString
import Derived.ChangeOld
import Derived.Below
import Derived.SizedLaws
section
namespace Go.Proofs.Yteommchgnocgnaa.PE
open Go.RowKit Go.Proofs.YteommchgnocgnaaW.PrintWords Go.Proofs.YteommchgnocgnaaW.PrintLast Go.Proofs.YteommchgnocgnaaW.PrintMore
set_option linter.unusedVariables false
set_option linter.unusedSimpArgs false

theorem xor_comm64 (k : IntKind) (x y : Int) : Go.bits .xor k x y = Go.bits .xor k y x := by
  simp only [Go.bits, BitVec.xor_comm]
theorem xor_u64_zero {x : Int} (h0 : 0 ≤ x) (h1 : x < 18446744073709551616) : Go.bits .xor .u64 x 0 = x := by
  have := bits_xor_u64_nat x.toNat 0 (by omega) (by decide)
  rw [Nat.xor_zero, show ((x.toNat : Nat) : Int) = x by omega] at this
  exact this
theorem xor_i64_zero {x : Nat} (h1 : x < 9223372036854775808) : Go.bits .xor .i64 (x : Int) 0 = x := by
  show IntKind.i64.wrap ((BitVec.ofInt 64 (x : Int) ^^^ BitVec.ofInt 64 0).toNat : Int) = _
  have h2 : (BitVec.ofInt 64 (x : Int)).toNat = x := by
    rw [BitVec.ofInt_natCast, BitVec.toNat_ofNat]; exact Nat.mod_eq_of_lt (by omega)
  rw [show BitVec.ofInt 64 0 = 0#64 from rfl, BitVec.xor_zero, h2, IntKind.wrap_i64]
  omega
def zagN (n : Nat) : Int := if n % 2 = 0 then (n : Int) / 2 else -((n : Int) / 2) - 1
theorem zig_is {n : Int} (h0 : -9223372036854775808 ≤ n) (h1 : n < 9223372036854775808) :
    (Go.bits .xor .u64 (IntKind.u64.wrap ((IntKind.u64.wrap n) * 2)) (IntKind.u64.wrap (n / 9223372036854775808))).toNat = Go.Lib.zigzag n := by
  by_cases h : 0 ≤ n
  · rw [show n / 9223372036854775808 = 0 by omega, show IntKind.u64.wrap 0 = 0 by rfl, u64_small h (by omega), u64_small (c := n * 2) (by omega) (by omega), xor_u64_zero (by omega) (by omega), ← Go.Lib.zigzag_nonneg h]
    omega
  · rw [show n / 9223372036854775808 = -1 by omega, show IntKind.u64.wrap (-1) = IntKind.u64.max by decide +kernel, xor_comm64, Go.Lib.zigzag_neg h0 (by omega)]
    omega
theorem zag_is {n : Nat} (h : n < 18446744073709551616) : le_Zag.f (n : Int) = some (zagN n) := by
  unfold le_Zag.f zagN
  rw [Go.Lib.u64_and1 _ (by omega) (by omega), show wrap64 ((n : Int) / 2) = ((n / 2 : Nat) : Int) by unfold wrap64; omega]
  by_cases h2 : n % 2 = 0
  · rw [if_pos h2, show (n : Int) % 2 = 0 by omega, show wrap64 (-wrap64 0) = 0 by decide +kernel, xor_i64_zero (by omega)]
    congr 1
  · rw [if_neg h2, show (n : Int) % 2 = 1 by omega, show wrap64 (-wrap64 1) = -1 by decide +kernel, xor_comm64, Go.Lib.i64_not _ (by omega)]
    congr 1
theorem wf_of {n : Int} (h0 : -9223372036854775808 ≤ n) (h1 : n < 9223372036854775808) : WFi n := by
  show (Lit.int .i64 n).wf = true
  simp only [Lit.wf, Bool.and_eq_true, decide_eq_true_eq]
  exact ⟨h0, by first | exact h1 | (show n ≤ 9223372036854775807; omega)⟩
theorem zag_zig {n : Int} (h0 : -9223372036854775808 ≤ n) (h1 : n < 9223372036854775808) : zagN (Go.Lib.zigzag n) = n := by
  unfold zagN Go.Lib.zigzag
  by_cases h : 0 ≤ n
  · rw [if_pos h, if_pos (by omega)]; omega
  · rw [if_neg h, if_neg (by omega)]; omega
theorem zig_zag {n : Nat} (h : n < 18446744073709551616) : Go.Lib.zigzag (zagN n) = n ∧ -9223372036854775808 ≤ zagN n ∧ zagN n < 9223372036854775808 := by
  unfold zagN Go.Lib.zigzag
  by_cases h2 : n % 2 = 0
  · rw [if_pos h2, if_pos (by omega)]; omega
  · rw [if_neg h2, if_neg (by omega)]; omega
theorem empty_of {s : ByteArray} (h : s.toList = []) : s = ⟨#[]⟩ := by
  rw [ByteArray.toList_eq] at h
  obtain ⟨⟨l⟩⟩ := s
  simp only at h
  rw [h]
theorem bytesOf_strOf {xs : List Int} (h : By xs) : bytesOf (strOfNums xs) = xs := by
  unfold bytesOf
  rw [strOfNums_data, List.map_map]
  conv => rhs; rw [← List.map_id xs]
  refine List.map_congr_left fun x hx => ?_
  have := h x hx
  simp only [Function.comp_apply, id_eq, UInt8.toNat_ofNat']
  omega
theorem strOf_bytesOf (s : ByteArray) : strOfNums (bytesOf s) = s := by
  unfold bytesOf strOfNums
  obtain ⟨⟨l⟩⟩ := s
  simp only [List.map_map]
  congr 2
  induction l with
  | nil => rfl
  | cons c l ih => simp only [List.map_cons, ih, Function.comp_apply]; congr 1; simp
theorem By.ofStr (s : ByteArray) : By (bytesOf s) := fun x hx => by
  unfold bytesOf at hx
  obtain ⟨b, _, rfl⟩ := List.mem_map.1 hx
  have := b.toNat_lt
  omega

/-- A value's bytes. -/
def getV : List Int → Option (S38 × Nat)
  | [] => none
  | c :: r => match getN 0 r with
    | none => none
    | some (n, u) =>
      if c = 0 then some (⟨0, zagN n, ⟨#[]⟩⟩, u + 1)
      else if c = 2 then (if n ≤ 40 ∧ n ≤ r.length - u then some (⟨2, 0, strOfNums ((r.drop u).take n)⟩, u + 1 + n) else none)
      else if mayB c (wrap64 n) ⟨#[]⟩ = true then some (⟨c, wrap64 n, ⟨#[]⟩⟩, u + 1) else none
def outV : Option (S38 × Nat) → Int × Int × ByteArray × Int × Bool
  | none => (0, 0, ⟨#[]⟩, 0, false)
  | some (v, u) => (v.f0, v.f1, v.f2, (u : Int), true)
theorem mayB_kind {k n : Int} {s : ByteArray} (h : mayB k n s = true) : 0 ≤ k ∧ k < 4 ∧ (k ≠ 2 → s = ⟨#[]⟩) ∧ (k = 2 → n = 0 ∧ s.size ≤ 40) ∧ (k = 1 → IntKind.u64.wrap n < 2) ∧ (k = 3 → 0 ≤ n ∧ n ≤ 1125899906842624) := by
  unfold mayB heldV at h
  by_cases k0 : k = 0
  · rw [if_pos k0] at h
    by_cases hs : s.toList.isEmpty = true
    · exact ⟨by omega, by omega, fun _ => empty_of (List.isEmpty_iff.1 hs), by omega, by omega, by omega⟩
    · rw [if_neg hs] at h; cases h
  rw [if_neg k0] at h
  by_cases k1 : k = 1
  · rw [if_pos k1] at h
    by_cases hs : s.toList.isEmpty = true
    · rw [if_pos hs] at h
      by_cases hn : IntKind.u64.wrap n < 2
      · exact ⟨by omega, by omega, fun _ => empty_of (List.isEmpty_iff.1 hs), by omega, fun _ => hn, by omega⟩
      · rw [if_neg hn] at h; cases h
    · rw [if_neg hs] at h; cases h
  rw [if_neg k1] at h
  by_cases k2 : k = 2
  · rw [if_pos k2] at h
    by_cases hn : n = 0
    · rw [if_pos hn] at h
      by_cases hz : (s.size : Int) ≤ 40
      · exact ⟨by omega, by omega, by omega, fun _ => ⟨hn, by omega⟩, by omega, by omega⟩
      · rw [if_neg hz] at h; cases h
    · rw [if_neg hn] at h; cases h
  rw [if_neg k2] at h
  by_cases k3 : k = 3
  · rw [if_pos k3] at h
    by_cases hs : s.toList.isEmpty = true
    · rw [if_pos hs] at h
      by_cases hn : 0 ≤ n
      · rw [if_pos hn] at h
        by_cases hm : n ≤ 1125899906842624
        · exact ⟨by omega, by omega, fun _ => empty_of (List.isEmpty_iff.1 hs), by omega, by omega, fun _ => ⟨hn, hm⟩⟩
        · rw [if_neg hm] at h; cases h
      · rw [if_neg hn] at h; cases h
    · rw [if_neg hs] at h; cases h
  rw [if_neg k3] at h; cases h
theorem mayB_str {s : ByteArray} : mayB 2 0 s = decide (s.size ≤ 40) := by
  unfold mayB heldV
  rw [if_neg (by decide), if_neg (by decide), if_pos rfl, if_pos rfl]
  by_cases h : (s.size : Int) ≤ 40
  · rw [if_pos h, decide_eq_true (by omega)]
  · rw [if_neg h, decide_eq_false (by omega)]
/-- Of a value's bytes the value is got, whatever stands behind. -/
theorem getV_put {k n : Int} {s : ByteArray} (h : mayB k n s = true) (w : WFi n) (ys : List Int) : getV (putV k n s ++ ys) = some (⟨k, n, s⟩, (putV k n s).length) := by
  have hb := int_bounds w
  obtain ⟨h0, h1, h2, h3, h4, h5⟩ := mayB_kind h
  unfold putV
  simp only [List.cons_append, getV]
  rw [show k % 256 = k by omega]
  by_cases k0 : k = 0
  · subst k0
    rw [if_pos rfl, zig_is hb.1 hb.2, getN_of (Go.Lib.zigzag_lt hb.1 (by omega)) ys]
    simp only [↓reduceIte, zag_zig hb.1 hb.2, h2 (by decide), List.length_cons]
  rw [if_neg k0]
  by_cases k2 : k = 2
  · subst k2
    obtain ⟨rfl, hs⟩ := h3 rfl
    rw [if_pos rfl, List.append_assoc, getN_of (by omega) (bytesOf s ++ ys)]
    simp only [↓reduceIte]
    rw [if_neg (by decide), if_pos ⟨by omega, by simp only [List.length_append, bytesOf_length]; omega⟩]
    simp only [List.drop_left, List.length_cons, List.length_append, bytesOf_length, Option.some.injEq, Prod.mk.injEq, S38.mk.injEq, true_and]
    exact ⟨by rw [List.take_left' (bytesOf_length s), strOf_bytesOf], by omega⟩
  rw [if_neg k2, getN_of (n := (IntKind.u64.wrap n).toNat) (by rw [IntKind.wrap_u64]; omega) ys]
  have e : wrap64 (((IntKind.u64.wrap n).toNat : Nat) : Int) = n := by
    rw [IntKind.wrap_u64]; unfold wrap64; omega
  simp only [e, if_neg k2, if_neg k0]
  rw [h2 k2] at h ⊢
  rw [if_pos h]
  simp
/-- What is got of bytes is put as the same bytes. -/
theorem getV_is {xs : List Int} {v : S38} {u : Nat} (hb : By xs) (h : getV xs = some (v, u)) : mayB v.f0 v.f1 v.f2 = true ∧ WFi v.f1 ∧ 2 ≤ u ∧ u ≤ xs.length ∧ putV v.f0 v.f1 v.f2 = xs.take u := by
  cases xs with
  | nil => simp [getV] at h
  | cons c r =>
    have hc := hb c (List.mem_cons_self ..)
    have hr : By r := fun x hx => hb x (List.mem_cons_of_mem _ hx)
    simp only [getV] at h
    cases hg : getN 0 r with
    | none => rw [hg] at h; cases h
    | some p =>
      obtain ⟨n, u0⟩ := p
      rw [hg] at h
      simp only at h
      obtain ⟨hn, hu, hp⟩ := getN_is hr hg
      have hp1 : 1 ≤ u0 := by
        have := putL_pos n
        rw [hp, List.length_take] at this; omega
      by_cases k0 : c = 0
      · rw [if_pos k0] at h
        simp only [Option.some.injEq, Prod.mk.injEq] at h
        obtain ⟨rfl, rfl⟩ := h
        subst k0
        obtain ⟨z1, z2, z3⟩ := zig_zag hn
        refine ⟨mayB_int _, ?_, by omega, by simp only [List.length_cons]; omega, ?_⟩
        · exact wf_of z2 z3
        · unfold putV
          simp only [↓reduceIte]
          rw [zig_is z2 z3, z1, hp, List.take_succ_cons]; rfl
      rw [if_neg k0] at h
      by_cases k2 : c = 2
      · rw [if_pos k2] at h
        subst k2
        by_cases hm : n ≤ 40 ∧ n ≤ r.length - u0
        · rw [if_pos hm] at h
          simp only [Option.some.injEq, Prod.mk.injEq] at h
          obtain ⟨rfl, rfl⟩ := h
          have hl : ((r.drop u0).take n).length = n := by rw [List.length_take, List.length_drop]; omega
          refine ⟨?_, wf_of (n := 0) (by decide) (by decide), by omega, by simp only [List.length_cons]; omega, ?_⟩
          · rw [mayB_str, strOfNums_size, hl]; exact decide_eq_true hm.1
          · unfold putV
            simp only [↓reduceIte]
            rw [if_neg (by decide), strOfNums_size, hl, bytesOf_strOf ((hr.drop _).take _), hp, show u0 + 1 + n = (u0 + n) + 1 by omega, List.take_succ_cons, List.take_add]
            rfl
        · rw [if_neg hm] at h; cases h
      rw [if_neg k2] at h
      by_cases hm : mayB c (wrap64 n) ⟨#[]⟩ = true
      · rw [if_pos hm] at h
        simp only [Option.some.injEq, Prod.mk.injEq] at h
        obtain ⟨rfl, rfl⟩ := h
        obtain ⟨h0, h1, h2, h3, h4, h5⟩ := mayB_kind hm
        refine ⟨hm, wf_of (wrap64_lo _) (wrap64_hi _), by omega, by simp only [List.length_cons]; omega, ?_⟩
        unfold putV
        simp only [if_neg k0, if_neg k2]
        rw [show (IntKind.u64.wrap (wrap64 (n : Int))).toNat = n by rw [IntKind.wrap_u64]; unfold wrap64; omega, hp, List.take_succ_cons, show c % 256 = c by omega]
      · rw [if_neg hm] at h; cases h
/-- value.Get. -/
theorem value_Get_is (xs : List Int) (hb : By xs) (hlen : xs.length < 4000000000000000000) {k : Nat} (hk : 11 ≤ k) : value_Get.f k xs = some (outV (getV xs)) := by
  unfold value_Get.f
  cases xs with
  | nil => rfl
  | cons c r =>
    have hc := hb c (List.mem_cons_self ..)
    have hr : By r := fun x hx => hb x (List.mem_cons_of_mem _ hx)
    simp only [List.length_cons] at hlen ⊢
    have erd : rd (c :: r) 0 = c := rfl
    rw [if_neg (by omega), if_pos (by omega), List.drop_one, List.tail_cons, le_Get_is r hr (by omega) hk, erd, show wrap64 c = c by unfold wrap64; omega]
    simp only [Option.bind_some, getV]
    cases hg : getN 0 r with
    | none => rfl
    | some p =>
      obtain ⟨n, u⟩ := p
      obtain ⟨hn, hu, hp⟩ := getN_is hr hg
      simp only [gotN, Nat.mul_zero, Int.pow_zero, Int.mul_one, Int.zero_add, if_true]
      rw [if_pos (by omega), show (0 : Nat) + (u : Int) = u by omega, show wrap64 ((u : Int) + 1) = ((u + 1 : Nat) : Int) by unfold wrap64; omega]
      by_cases k0 : c = 0
      · subst k0
        rw [if_pos rfl, zag_is hn]
        simp only [Option.bind_some, value_May.f, mayB_int, ↓reduceIte]; rfl
      rw [if_neg k0]
      by_cases k2 : c = 2
      · subst k2
        rw [if_pos rfl, if_neg k0, if_pos rfl]
        rw [show IntKind.u64.wrap (wrap64 (((r.length + 1 : Nat) : Int) - ((u + 1 : Nat) : Int))) = ((r.length - u : Nat) : Int) by rw [show wrap64 (((r.length + 1 : Nat) : Int) - ((u + 1 : Nat) : Int)) = ((r.length - u : Nat) : Int) by unfold wrap64; omega]; exact u64_small (by omega) (by omega)]
        by_cases hm : (n : Int) > ((r.length - u : Nat) : Int)
        · rw [if_pos hm, if_neg (by omega)]; rfl
        · rw [if_neg hm, show wrap64 (n : Int) = n by unfold wrap64; omega, show wrap64 (((u + 1 : Nat) : Int) + (n : Int)) = ((u + 1 + n : Nat) : Int) by unfold wrap64; omega, if_pos (by omega), if_pos (by omega), if_pos (by omega)]
          have hd : ((2 :: r).take ((u + 1 + n : Nat) : Int).toNat).drop ((u + 1 : Nat) : Int).toNat = (r.drop u).take n := by
            rw [Int.toNat_natCast, Int.toNat_natCast, show u + 1 + n = (u + n) + 1 by omega, List.take_succ_cons, List.drop_succ_cons, List.take_add, List.drop_left' (by rw [List.length_take]; omega)]
          rw [hd]
          have hl : ((r.drop u).take n).length = n := by rw [List.length_take, List.length_drop]; omega
          simp only [value_May.f, Option.bind_some, mayB_str, strOfNums_size, hl]
          by_cases h40 : n ≤ 40
          · rw [decide_eq_true h40, if_pos rfl, if_pos ⟨h40, by omega⟩]; rfl
          · rw [decide_eq_false h40, if_neg (by decide), if_neg (by omega)]; rfl
      rw [if_neg k2, if_neg k0, if_neg k2]
      simp only [value_May.f, Option.bind_some]
      by_cases hm : mayB c (wrap64 n) ⟨#[]⟩ = true
      · rw [if_pos hm, if_pos hm]; rfl
      · rw [if_neg hm, if_neg hm]; rfl

/-- A part's bytes. -/
def putP (x : S50) : List Int := x.f0 % 256 :: (if x.f0 = 0 then putV x.f2.f0 x.f2.f1 x.f2.f2 else if x.f0 = 1 then [x.f1 % 256] else [])
def putE (l : List S50) : List Int := PE.putL l.length ++ l.flatMap putP
def getP : List Int → Option (S50 × Nat)
  | [] => none
  | c :: r => if c = 0 then (getV r).map (fun p => (⟨0, 0, p.1⟩, p.2 + 1)) else if c = 1 then (match r with | [] => none | a :: _ => some (⟨1, a, ⟨0, 0, ⟨#[]⟩⟩⟩, 2)) else some (⟨c, 0, ⟨0, 0, ⟨#[]⟩⟩⟩, 1)
def getPs : Nat → List Int → Option (List S50 × Nat)
  | 0, _ => some ([], 0)
  | m + 1, xs => match getP xs with
    | none => none
    | some (x, u) => (getPs m (xs.drop u)).map (fun p => (x :: p.1, u + p.2))
/-- An expression that bytes begin by. -/
def getE (xs : List Int) : Option (List S50 × Nat) := match getN 0 xs with
  | none => none
  | some (m, u) => if 12 < m then none else match getPs m (xs.drop u) with
    | none => none
    | some (l, t) => if mayE l = true then some (l, u + t) else none
theorem opOk_parts {x : S50} (h : opOk x.f0 x.f1 x.f2.f0 x.f2.f1 x.f2.f2 = true) : 0 ≤ x.f0 ∧ x.f0 < 10 ∧ 0 ≤ x.f1 ∧ x.f1 < 6 ∧ (x.f0 ≠ 1 → x.f1 = 0) ∧ (x.f0 ≠ 0 → x.f2 = ⟨0, 0, ⟨#[]⟩⟩) ∧ mayB x.f2.f0 x.f2.f1 x.f2.f2 = true := by
  unfold opOk at h
  simp only [Bool.and_eq_true, decide_eq_true_eq, Bool.or_eq_true, beq_iff_eq] at h
  obtain ⟨h1, h2, h3, h4, h5, h6, h7⟩ := h
  refine ⟨h1, h2, h3, h4, fun h => h5.resolve_left h, fun h => ?_, h7⟩
  obtain ⟨e1, e2, e3⟩ := h6.resolve_left h
  rcases x with ⟨a, b, ⟨c, d, s⟩⟩
  simp only at e1 e2 e3 ⊢
  rw [e1, e2, empty_of (List.isEmpty_iff.1 e3)]
theorem mayE_iff {l : List S50} : mayE l = true ↔ l.length ≤ 12 ∧ ∀ x ∈ l, opOk x.f0 x.f1 x.f2.f0 x.f2.f1 x.f2.f2 = true := by
  unfold mayE opBad
  simp only [Bool.and_eq_true, decide_eq_true_eq, Bool.not_eq_true', List.any_eq_false, Bool.not_eq_false', Bool.not_eq_true, Bool.not_eq_false]
theorem getP_put {x : S50} (h : opOk x.f0 x.f1 x.f2.f0 x.f2.f1 x.f2.f2 = true) (w : WFi x.f2.f1) (ys : List Int) : getP (putP x ++ ys) = some (x, (putP x).length) := by
  obtain ⟨h0, h1, h2, h3, h4, h5, h6⟩ := opOk_parts h
  unfold putP
  simp only [List.cons_append, getP]
  rw [show x.f0 % 256 = x.f0 by omega]
  by_cases k0 : x.f0 = 0
  · rw [if_pos k0, if_pos k0, getV_put h6 w ys]
    simp only [Option.map_some, List.length_cons, Option.some.injEq, Prod.mk.injEq, and_true]
    rcases x with ⟨a, b, c⟩
    simp only at k0 h4 ⊢
    rw [k0, h4 (by omega)]
  rw [if_neg k0, if_neg k0]
  by_cases k1 : x.f0 = 1
  · rw [if_pos k1, if_pos k1]
    simp only [List.singleton_append, List.length_cons, List.length_nil, Option.some.injEq, Prod.mk.injEq, and_true]
    rcases x with ⟨a, b, c⟩
    simp only at k0 k1 h5 h2 h3 ⊢
    rw [k1, h5 k0, show b % 256 = b by omega]
  rw [if_neg k1, if_neg k1]
  simp only [List.length_cons, List.length_nil, Option.some.injEq, Prod.mk.injEq, and_true]
  rcases x with ⟨a, b, c⟩
  simp only at k0 k1 h5 h4 ⊢
  rw [h5 k0, h4 k1]
/-- What is known of a part that was got. -/
def GotP (xs : List Int) (x : S50) (u : Nat) : Prop := 1 ≤ u ∧ u ≤ xs.length ∧ WFi x.f2.f1 ∧ putP x = xs.take u
theorem getP_is {xs : List Int} {x : S50} {u : Nat} (hb : By xs) (h : getP xs = some (x, u)) : GotP xs x u := by
  cases xs with
  | nil => simp [getP] at h
  | cons c r =>
    have hc := hb c (List.mem_cons_self ..)
    have hr : By r := fun x hx => hb x (List.mem_cons_of_mem _ hx)
    simp only [getP] at h
    by_cases k0 : c = 0
    · rw [if_pos k0] at h
      obtain ⟨⟨v, t⟩, hg, he⟩ := Option.map_eq_some_iff.1 h
      simp only [Prod.mk.injEq] at he
      obtain ⟨rfl, rfl⟩ := he
      obtain ⟨h1, h2, h3, h4, h5⟩ := getV_is hr hg
      refine ⟨by omega, by simp only [List.length_cons]; omega, h2, ?_⟩
      unfold putP
      rw [if_pos rfl, List.take_succ_cons, h5, k0]; rfl
    rw [if_neg k0] at h
    by_cases k1 : c = 1
    · rw [if_pos k1] at h
      cases r with
      | nil => cases h
      | cons a r =>
        have ha := hr a (List.mem_cons_self ..)
        simp only [Option.some.injEq, Prod.mk.injEq] at h
        obtain ⟨rfl, rfl⟩ := h
        refine ⟨by omega, by simp only [List.length_cons]; omega, wf_of (n := 0) (by decide) (by decide), ?_⟩
        unfold putP
        simp only [List.take_succ_cons, List.take_zero]
        rw [if_neg (by decide), if_pos trivial, k1, show a % 256 = a by omega]; rfl
    rw [if_neg k1] at h
    simp only [Option.some.injEq, Prod.mk.injEq] at h
    obtain ⟨rfl, rfl⟩ := h
    refine ⟨by omega, by simp only [List.length_cons]; omega, wf_of (n := 0) (by decide) (by decide), ?_⟩
    unfold putP
    simp only [List.take_succ_cons, List.take_zero]
    rw [if_neg k0, if_neg k1, show c % 256 = c by omega]
theorem getPs_put : ∀ (l : List S50) (ys : List Int), (∀ x ∈ l, opOk x.f0 x.f1 x.f2.f0 x.f2.f1 x.f2.f2 = true ∧ WFi x.f2.f1) → getPs l.length (l.flatMap putP ++ ys) = some (l, (l.flatMap putP).length)
  | [], ys, _ => rfl
  | x :: l, ys, h => by
    obtain ⟨h1, h2⟩ := h x (List.mem_cons_self ..)
    simp only [List.length_cons, getPs, List.flatMap_cons, List.append_assoc]
    rw [getP_put h1 h2]
    simp only [List.drop_left]
    rw [getPs_put l ys (fun y hy => h y (List.mem_cons_of_mem _ hy))]
    simp [List.length_append]
theorem getPs_is : ∀ (m : Nat) (xs : List Int) (l : List S50) (u : Nat), By xs → getPs m xs = some (l, u) → l.length = m ∧ u ≤ xs.length ∧ (∀ x ∈ l, WFi x.f2.f1) ∧ l.flatMap putP = xs.take u
  | 0, xs, l, u, _, h => by
    simp only [getPs, Option.some.injEq, Prod.mk.injEq] at h
    obtain ⟨rfl, rfl⟩ := h
    exact ⟨rfl, Nat.zero_le _, fun x hx => (by cases hx), by simp⟩
  | m + 1, xs, l, u, hb, h => by
    simp only [getPs] at h
    cases hg : getP xs with
    | none => rw [hg] at h; cases h
    | some p =>
      obtain ⟨x, t⟩ := p
      rw [hg] at h
      simp only at h
      obtain ⟨⟨l', u'⟩, hl, he⟩ := Option.map_eq_some_iff.1 h
      simp only [Prod.mk.injEq] at he
      obtain ⟨rfl, rfl⟩ := he
      obtain ⟨g1, g2, g3, g4⟩ := getP_is hb hg
      obtain ⟨i1, i2, i3, i4⟩ := getPs_is m _ _ _ (hb.drop t) hl
      rw [List.length_drop] at i2
      refine ⟨by simp [i1], by omega, fun y hy => ?_, ?_⟩
      · rcases List.mem_cons.1 hy with rfl | hy
        · exact g3
        · exact i3 y hy
      · rw [List.flatMap_cons, g4, i4, List.take_add]
/-- What is put is got, whatever stands behind. -/
theorem getE_put {l : List S50} (h : mayE l = true) (w : ∀ x ∈ l, WFi x.f2.f1) (ys : List Int) : getE (putE l ++ ys) = some (l, (putE l).length) := by
  obtain ⟨h1, h2⟩ := mayE_iff.1 h
  unfold getE putE
  rw [List.append_assoc, getN_of (by omega)]
  simp only [List.drop_left]
  rw [if_neg (by omega), getPs_put l ys (fun x hx => ⟨h2 x hx, w x hx⟩)]
  simp only [h, ↓reduceIte, List.length_append]
/-- What is got is put as the same bytes. -/
theorem getE_is {xs : List Int} {l : List S50} {u : Nat} (hb : By xs) (h : getE xs = some (l, u)) : mayE l = true ∧ (∀ x ∈ l, WFi x.f2.f1) ∧ u ≤ xs.length ∧ putE l = xs.take u := by
  unfold getE at h
  cases hg : getN 0 xs with
  | none => rw [hg] at h; cases h
  | some p =>
    obtain ⟨m, t⟩ := p
    rw [hg] at h
    simp only at h
    by_cases hm : 12 < m
    · rw [if_pos hm] at h; cases h
    rw [if_neg hm] at h
    cases hs : getPs m (xs.drop t) with
    | none => rw [hs] at h; cases h
    | some q =>
      obtain ⟨l', t'⟩ := q
      rw [hs] at h
      simp only at h
      by_cases hl : mayE l' = true
      · rw [if_pos hl] at h
        simp only [Option.some.injEq, Prod.mk.injEq] at h
        obtain ⟨rfl, rfl⟩ := h
        obtain ⟨n1, n2, n3⟩ := getN_is hb hg
        obtain ⟨i1, i2, i3, i4⟩ := getPs_is m _ _ _ (hb.drop t) hs
        rw [List.length_drop] at i2
        refine ⟨hl, i3, by omega, ?_⟩
        unfold putE
        rw [i1, n3, i4, List.take_add]
      · rw [if_neg hl] at h; cases h
end Go.Proofs.Yteommchgnocgnaa.PE
end

section
namespace Go.Proofs.Yteommchgnocgnaa.PE
open Go.RowKit Go.Proofs.YteommchgnocgnaaW.PrintWords Go.Proofs.YteommchgnocgnaaW.PrintLast Go.Proofs.YteommchgnocgnaaW.PrintMore
set_option linter.unusedVariables false
set_option linter.unusedSimpArgs false

def OutP (r : Int × Int × Int × Int × ByteArray × Int × Bool) : Option (S50 × Nat) → Prop
  | none => r.2.2.2.2.2.2 = false
  | some (x, u) => r = (x.f0, x.f1, x.f2.f0, x.f2.f1, x.f2.f2, (u : Int), true)
theorem partR_is (xs : List Int) (hb : By xs) (hlen : xs.length < 4000000000000000000) {k : Nat} (hk : 11 ≤ k) : ∃ r, expr_partR.f k xs = some r ∧ OutP r (getP xs) := by
  unfold expr_partR.f
  cases xs with
  | nil => exact ⟨_, rfl, rfl⟩
  | cons c r =>
    have hc := hb c (List.mem_cons_self ..)
    have hr : By r := fun x hx => hb x (List.mem_cons_of_mem _ hx)
    simp only [List.length_cons] at hlen ⊢
    have erd : rd (c :: r) 0 = c := rfl
    rw [if_neg (by omega), if_pos (by omega), erd, show wrap64 c = c by unfold wrap64; omega]
    simp only [getP]
    by_cases k0 : c = 0
    · rw [if_pos k0, if_pos (by omega), if_pos k0, List.drop_one, List.tail_cons, value_Get_is r hr (by omega) hk]
      simp only [Option.bind_some]
      cases hg : getV r with
      | none => exact ⟨_, rfl, rfl⟩
      | some p =>
        obtain ⟨v, u⟩ := p
        obtain ⟨_, _, _, hu, _⟩ := getV_is hr hg
        refine ⟨_, rfl, ?_⟩
        simp only [OutP, Option.map_some, outV, Prod.mk.injEq, and_true]
        exact ⟨k0, trivial, trivial, trivial, trivial, by unfold wrap64; omega⟩
    rw [if_neg k0, if_neg k0]
    by_cases k1 : c = 1
    · rw [if_pos k1, if_pos k1]
      cases r with
      | nil => rw [if_pos (by simp)]; exact ⟨_, rfl, rfl⟩
      | cons a r =>
        have ha := hr a (List.mem_cons_self ..)
        have e2 : rd (c :: a :: r) 1 = a := rfl
        rw [if_neg (by simp only [List.length_cons]; omega), if_pos (by simp only [List.length_cons]; omega), e2, show wrap64 a = a by unfold wrap64; omega, k1]
        exact ⟨_, rfl, rfl⟩
    · rw [if_neg k1, if_neg k1]
      exact ⟨_, rfl, rfl⟩
def outE : Option (List S50 × Nat) → List S50 × Int × Bool
  | none => ([], 0, false)
  | some (l, u) => (l, (u : Int), true)
def endE (acc : List S50) (i : Nat) : Option (List S50 × Nat) → Option (List S50 × Nat)
  | none => none
  | some (l, u) => if mayE (acc ++ l) = true then some (acc ++ l, i + u) else none
theorem expr_round (xs : List Int) (hb : By xs) (hlen : xs.length < 4000000000000000000) (m : Nat) (hm : m ≤ 12) : ∀ (d k i at_ : Nat) (acc : List S50), m - i = d → i ≤ m → at_ ≤ xs.length → d + 11 < k → acc.length = i →
    expr_Get.l0 k xs (at_ : Int) acc (m : Int) (i : Int) = some (outE (endE acc at_ (getPs d (xs.drop at_)))) := by
  intro d
  induction d with
  | zero =>
    intro k i at_ acc hd hi ha hk hl
    obtain ⟨k, rfl⟩ : ∃ n, k = n + 1 := ⟨k - 1, by omega⟩
    simp only [expr_Get.l0]
    rw [if_neg (by omega)]
    simp only [expr_may.f, Option.bind_some, getPs, endE, List.append_nil]
    by_cases h : mayE acc = true
    · rw [if_pos h, if_pos h]; rfl
    · rw [if_neg h, if_neg h]; rfl
  | succ d ih =>
    intro k i at_ acc hd hi ha hk hl
    obtain ⟨k, rfl⟩ : ∃ n, k = n + 1 := ⟨k - 1, by omega⟩
    simp only [expr_Get.l0]
    rw [if_pos (by omega), if_pos (by omega), if_pos (by omega), Int.toNat_natCast]
    obtain ⟨r, hr, hp⟩ := partR_is (xs.drop at_) (hb.drop _) (by rw [List.length_drop]; omega) (k := k) (by omega)
    rw [hr]
    simp only [Option.bind_some, getPs]
    cases hg : getP (xs.drop at_) with
    | none =>
      rw [hg] at hp
      simp only [OutP] at hp
      rw [hp]; rfl
    | some p =>
      obtain ⟨x, u⟩ := p
      rw [hg] at hp
      simp only [OutP] at hp
      subst hp
      obtain ⟨g1, g2, _, _⟩ := getP_is (hb.drop _) hg
      rw [List.length_drop] at g2
      simp only [if_true]
      rw [if_pos (by omega), show wrap64 ((at_ : Int) + (u : Int)) = ((at_ + u : Nat) : Int) by unfold wrap64; omega, show IntKind.u64.wrap ((i : Int) + 1) = ((i + 1 : Nat) : Int) by rw [u64_small (by omega) (by omega)]; omega,
        ih k (i + 1) (at_ + u) _ (by omega) (by omega) (by omega) (by omega) (by simp [hl]), List.drop_drop]
      cases getPs d (xs.drop (at_ + u)) with
      | none => rfl
      | some q =>
        simp only [Option.map_some, endE, List.append_assoc, List.singleton_append, Nat.add_assoc]
/-- expr.Get. -/
theorem expr_Get_is (xs : List Int) (hb : By xs) (hlen : xs.length < 4000000000000000000) {k : Nat} (hk : 30 ≤ k) : expr_Get.f k xs = some (outE (getE xs)) := by
  unfold expr_Get.f
  rw [le_Get_is xs hb hlen (by omega)]
  obtain ⟨k, rfl⟩ : ∃ n, k = n + 1 := ⟨k - 1, by omega⟩
  simp only [Option.bind_some, getE]
  cases hg : getN 0 xs with
  | none => simp only [gotN, expr_Get.j0]; rfl
  | some p =>
    obtain ⟨m, u⟩ := p
    obtain ⟨h1, h2, h3⟩ := getN_is hb hg
    simp only [gotN, Nat.mul_zero, Int.pow_zero, Int.mul_one, Int.zero_add, if_true, expr_Get.j0]
    rw [show (0 : Nat) + (u : Int) = u by omega]
    by_cases hm : 12 < m
    · rw [decide_eq_true (by omega), if_pos rfl, if_pos hm]; rfl
    · rw [decide_eq_false (by omega), if_neg (by decide), if_neg hm]
      have := expr_round xs hb hlen m (by omega) m k 0 u [] rfl (by omega) h2 (by omega) rfl
      rw [show ((0 : Nat) : Int) = 0 from rfl] at this
      rw [this]
      cases getPs m (xs.drop u) with
      | none => rfl
      | some q => rfl

theorem putV_len {k n : Int} {s : ByteArray} (h : mayB k n s = true) : (putV k n s).length ≤ 51 := by
  unfold putV
  obtain ⟨h0, h1, h2, h3, h4, h5⟩ := mayB_kind h
  have e : ∀ z : Int, (PE.putL (IntKind.u64.wrap z).toNat).length ≤ 10 := fun z => PE.putL_len 9 _ (by rw [IntKind.wrap_u64]; omega)
  have e2 : ∀ z : Int, 0 ≤ z → z < 18446744073709551616 → (PE.putL z.toNat).length ≤ 10 := fun z h0 h1 => PE.putL_len 9 _ (by omega)
  split
  · have := e2 (Go.bits .xor .u64 (IntKind.u64.wrap ((IntKind.u64.wrap n) * 2)) (IntKind.u64.wrap (n / 9223372036854775808))) (by unfold Go.bits; exact (wrap_u64 _).1) (by unfold Go.bits; exact (wrap_u64 _).2)
    simp only [List.length_cons]; omega
  · split
    · rename_i h2'
      have := PE.putL_len 9 s.size (by have := (h3 h2').2; omega)
      simp only [List.length_cons, List.length_append, bytesOf_length]
      have := (h3 h2').2
      omega
    · have := e n
      simp only [List.length_cons]; omega
theorem putP_len {x : S50} (h : opOk x.f0 x.f1 x.f2.f0 x.f2.f1 x.f2.f2 = true) : (putP x).length ≤ 52 := by
  obtain ⟨_, _, _, _, _, _, h6⟩ := opOk_parts h
  have := putV_len h6
  unfold putP
  split
  · simp only [List.length_cons]; omega
  · split <;> simp
theorem rdT50_mem {l : List S50} {i : Nat} (h : i < l.length) : rd_T50 l (i : Int) = l[i] ∧ l.drop i = l[i] :: l.drop (i + 1) := by
  refine ⟨?_, List.drop_eq_getElem_cons h⟩
  unfold rd_T50; simp [List.getD, h]
theorem put_round (l : List S50) (hl : l.length ≤ 12) (h : ∀ x ∈ l, opOk x.f0 x.f1 x.f2.f0 x.f2.f1 x.f2.f2 = true) : ∀ (d k i : Nat) (acc : List Int), l.length - i = d → i ≤ l.length → d < k → acc.length ≤ 10 + 52 * i →
    expr_Put.l0 k acc l (l.length : Int) (i : Int) = some (acc ++ (l.drop i).flatMap putP, true) := by
  intro d
  induction d with
  | zero =>
    intro k i acc hd hi hk ha
    obtain ⟨k, rfl⟩ : ∃ n, k = n + 1 := ⟨k - 1, by omega⟩
    simp only [expr_Put.l0]
    rw [if_neg (by omega), List.drop_eq_nil_of_le (by omega)]
    simp
  | succ d ih =>
    intro k i acc hd hi hk ha
    obtain ⟨k, rfl⟩ : ∃ n, k = n + 1 := ⟨k - 1, by omega⟩
    obtain ⟨e1, e2⟩ := rdT50_mem (l := l) (i := i) (by omega)
    have hx := h l[i] (List.getElem_mem (by omega))
    generalize l[i] = x at *
    obtain ⟨h0, h1, h2, h3, h4, h5, h6⟩ := opOk_parts hx
    have hp := putP_len hx
    simp only [expr_Put.l0]
    rw [if_pos (by omega), if_pos (by omega), if_pos (by omega), if_pos (by omega), e1, e2, List.flatMap_cons]
    simp only [Option.bind_some]
    have ew : wrap64 ((i : Int) + 1) = ((i + 1 : Nat) : Int) := by unfold wrap64; omega
    rw [ew]
    by_cases k0 : x.f0 = 0
    · rw [if_pos k0]
      have hv := putV_len h6
      have ev : value_Put.f x.f2.f0 x.f2.f1 x.f2.f2 = some (putV x.f2.f0 x.f2.f1 x.f2.f2, true) := by unfold value_Put.f; rw [h6]; rfl
      rw [ev]
      simp only [Option.bind_some]
      rw [if_pos (by simp only [List.length_append, List.length_singleton]; omega), ih k (i + 1) _ (by omega) (by omega) (by omega) ?_]
      · unfold putP; rw [if_pos k0]; simp
      · have e : (acc ++ [x.f0 % 256] ++ putV x.f2.f0 x.f2.f1 x.f2.f2).length = acc.length + (putP x).length := by unfold putP; rw [if_pos k0]; simp
        rw [e]; omega
    rw [if_neg k0]
    by_cases k1 : x.f0 = 1
    · rw [if_pos k1, if_pos (by simp only [List.length_append, List.length_singleton]; omega), ih k (i + 1) _ (by omega) (by omega) (by omega) (by simp only [List.length_append, List.length_singleton]; omega)]
      unfold putP; rw [if_neg k0, if_pos k1]; simp
    · rw [if_neg k1, ih k (i + 1) _ (by omega) (by omega) (by omega) (by simp only [List.length_append, List.length_singleton]; omega)]
      unfold putP; rw [if_neg k0, if_neg k1]; simp
/-- expr.Put. -/
theorem expr_Put_is (l : List S50) {k : Nat} (hk : 13 ≤ k) : expr_Put.f k l = some (if mayE l = true then (putE l, true) else ([], false)) := by
  unfold expr_Put.f
  simp only [expr_may.f, Option.bind_some]
  by_cases h : mayE l = true
  · rw [if_pos h, if_pos h]
    obtain ⟨h1, h2⟩ := mayE_iff.1 h
    rw [u64_small (by omega) (by omega), le_Put_some (by omega) (by omega), Int.toNat_natCast]
    simp only [Option.bind_some]
    have := put_round l h1 h2 l.length k 0 (PE.putL l.length) rfl (by omega) (by omega) (by have := PE.putL_len 9 l.length (by omega); omega)
    rw [show ((0 : Nat) : Int) = 0 from rfl] at this
    rw [this]; rfl
  · rw [if_neg h, if_neg h]
theorem putE_len {l : List S50} (h : mayE l = true) : (putE l).length ≤ 700 := by
  obtain ⟨h1, h2⟩ := mayE_iff.1 h
  have e : ∀ l : List S50, (∀ x ∈ l, opOk x.f0 x.f1 x.f2.f0 x.f2.f1 x.f2.f2 = true) → (l.flatMap putP).length ≤ 52 * l.length := by
    intro l
    induction l with
    | nil => intro _; simp
    | cons x l ih =>
      intro h
      have a := putP_len (h x (List.mem_cons_self ..))
      have b := ih (fun y hy => h y (List.mem_cons_of_mem _ hy))
      simp only [List.flatMap_cons, List.length_append, List.length_cons]; omega
  have a := e l h2
  have b := PE.putL_len 9 l.length (by omega)
  unfold putE
  rw [List.length_append]; omega
/-- Are two parts the same? -/
def eqP (x y : S50) : Bool := x.f0 == y.f0 && (x.f1 == y.f1 && (x.f2.f0 == y.f2.f0 && (x.f2.f1 == y.f2.f1 && x.f2.f2.toList == y.f2.f2.toList)))
def sameE : List S50 → List S50 → Bool
  | [], [] => true
  | x :: l, y :: m => eqP x y && sameE l m
  | _, _ => false
theorem eqP_self (x : S50) : eqP x x = true := by unfold eqP; simp
theorem sameE_self : ∀ l : List S50, sameE l l = true
  | [] => rfl
  | x :: l => by simp only [sameE, eqP_self, sameE_self l, Bool.and_self]
theorem eqP_not (x y : S50) : (!(x.f0 == y.f0) || (!(x.f1 == y.f1) || ((!(x.f2.f0 == y.f2.f0) || (!(x.f2.f1 == y.f2.f1) || (!(x.f2.f2.toList == y.f2.f2.toList))))))) = !eqP x y := by
  unfold eqP; simp only [Bool.not_and]
theorem same_len : ∀ {l m : List S50}, l.length ≠ m.length → sameE l m = false
  | [], [], h => absurd rfl h
  | [], _ :: _, _ => rfl
  | _ :: _, [], _ => rfl
  | x :: l, y :: m, h => by
    simp only [sameE]
    rw [same_len (fun e => h (by simp [e])), Bool.and_false]
theorem same_round (l m : List S50) (hlm : l.length = m.length) (hlen : l.length < 4000000000000000000) : ∀ (d k i : Nat), l.length - i = d → i ≤ l.length → d < k →
    api_Op_57.l0 k l m (l.length : Int) (i : Int) = some (sameE (l.drop i) (m.drop i)) := by
  intro d
  induction d with
  | zero =>
    intro k i hd hi hk
    obtain ⟨k, rfl⟩ : ∃ n, k = n + 1 := ⟨k - 1, by omega⟩
    simp only [api_Op_57.l0]
    rw [if_neg (by omega), List.drop_eq_nil_of_le (by omega), List.drop_eq_nil_of_le (by omega)]; rfl
  | succ d ih =>
    intro k i hd hi hk
    obtain ⟨k, rfl⟩ : ∃ n, k = n + 1 := ⟨k - 1, by omega⟩
    obtain ⟨e1, e2⟩ := rdT50_mem (l := l) (i := i) (by omega)
    obtain ⟨f1, f2⟩ := rdT50_mem (l := m) (i := i) (by omega)
    simp only [api_Op_57.l0]
    rw [if_pos (by omega), if_pos (by omega), if_pos (by omega), if_pos (by omega), e1, f1, e2, f2, eqP_not]
    simp only [sameE]
    cases eqP l[i] m[i] with
    | false => rfl
    | true =>
      rw [if_neg (by decide), show wrap64 ((i : Int) + 1) = ((i + 1 : Nat) : Int) by unfold wrap64; omega, ih k (i + 1) (by omega) (by omega) (by omega), Bool.true_and]
/-- expr.Same. -/
theorem expr_Same_is (l m : List S50) (hlen : l.length < 4000000000000000000) {k : Nat} (hk : l.length < k) : expr_Same.f k l m = some (sameE l m) := by
  unfold expr_Same.f api_Op_57.f
  by_cases h : (l.length : Int) = (m.length : Int)
  · rw [if_pos h]
    have := same_round l m (by omega) hlen l.length k 0 rfl (by omega) (by omega)
    rw [show ((0 : Nat) : Int) = 0 from rfl] at this
    rw [this]; rfl
  · rw [if_neg h, same_len (fun e => h (by omega))]; rfl
end Go.Proofs.Yteommchgnocgnaa.PE
end

section
namespace Go.Proofs.Yteommchgnocgnaa.PE
open Go.RowKit Go.Proofs.YteommchgnocgnaaW.PrintWords Go.Proofs.YteommchgnocgnaaW.PrintLast Go.Proofs.YteommchgnocgnaaW.PrintMore
set_option linter.unusedVariables false
set_option linter.unusedSimpArgs false

theorem few08_l {l : List S50} (hl : l.length ≤ 20) : ∀ (n i : Nat), l.length - i < n → i ≤ l.length → ∃ b, towncrierlaw08_Few.l0 n l (i : Int) = some b ∧ (b = true → ∀ j : Nat, i ≤ j → j < l.length → (rd_T50 l j).f2.f2.size ≤ 100) := by
  intro n
  induction n with
  | zero => intro i h; omega
  | succ n ih =>
    intro i h hi
    simp only [towncrierlaw08_Few.l0]
    by_cases h1 : (i : Int) < (l.length : Int)
    · rw [if_pos h1, if_pos (by omega)]
      by_cases h2 : ((rd_T50 l (i : Int)).f2.f2.size : Int) > 100
      · rw [if_pos h2]; exact ⟨_, rfl, fun h => by cases h⟩
      · rw [if_neg h2, wrap64_id (by omega) (by omega)]
        obtain ⟨b, hb, hB⟩ := ih (i + 1) (by omega) (by omega)
        refine ⟨b, by simpa using hb, fun h j hj hjl => ?_⟩
        rcases Nat.lt_or_ge i j with hij | hij
        · exact hB h j hij hjl
        · obtain rfl : i = j := by omega
          omega
    · rw [if_neg h1]; exact ⟨_, rfl, fun _ j hj hjl => by omega⟩
theorem few08_some (l : List S50) : ∃ b, towncrierlaw08_Few.f 22 l = some b ∧ (b = true → l.length ≤ 20 ∧ ∀ x ∈ l, x.f2.f2.size ≤ 100) := by
  unfold towncrierlaw08_Few.f
  by_cases h : (l.length : Int) > 20
  · rw [if_pos h]; exact ⟨false, rfl, fun h => by cases h⟩
  · rw [if_neg h]
    obtain ⟨b, hb, hB⟩ := few08_l (l := l) (by omega) 22 0 (by omega) (by omega)
    refine ⟨b, hb, fun h' => ⟨by omega, fun x hx => ?_⟩⟩
    obtain ⟨j, hj, rfl⟩ := List.mem_iff_getElem.1 hx
    have := hB h' j (by omega) hj
    unfold rd_T50 at this
    simpa [List.getD, List.getElem?_eq_getElem hj] using this
theorem few08_any (A : Option Addr) (c : Nat) (l : List S50) (w : World) (hr : Kd.C k50 w A l.length l) (hc : l.length ≤ c) :
    Calls Try.prog 16 #[.slice A l.length c] w fun e w' => ∃ b, e = .returned (.bool b) ∧ (b = true → l.length ≤ 20 ∧ ∀ x ∈ l, x.f2.f2.size ≤ 100) ∧ Below w.heap.size w w' := by
  obtain ⟨b, hb, hB⟩ := few08_some l
  refine (towncrierlaw08_Few.calls 22 A c l b w hr hc hb).mono fun e w' h => ⟨b, h.1, hB, Drawn0.below h.2⟩
theorem few06_any (nm : ByteArray) (at_ : Int) (A : Option Addr) (c : Nat) (l : List S38) (w : World) (hr : Kd.C k38 w A l.length l) (hc : l.length ≤ c) :
    Calls Try.prog 15 #[.agg #[.string nm, .int .i64 at_, .slice A l.length c]] w fun e w' => ∃ b, e = .returned (.bool b) ∧ Below w.heap.size w w' := by
  obtain ⟨b, hb⟩ := few06_some nm at_ l
  exact (towncrierlaw06_Few.calls 13 nm at_ A c l b w hr hc hb).mono fun e w' h => ⟨b, h.1, h.2⟩
theorem few05_l {nm : ByteArray} {at_ : Int} {l : List S78} (hl : l.length ≤ 10) : ∀ (n i : Nat), l.length - i < n → i ≤ l.length → ∃ b, towncrierlaw05_Few.l0 n (i : Int) nm at_ l = some b ∧ (b = true → ∀ j : Nat, i ≤ j → j < l.length → (rd_T78 l j).f0.size ≤ 60) := by
  intro n
  induction n with
  | zero => intro i h; omega
  | succ n ih =>
    intro i h hi
    simp only [towncrierlaw05_Few.l0]
    by_cases h1 : (i : Int) < (l.length : Int)
    · rw [if_pos h1, if_pos (by omega)]
      by_cases h2 : ((rd_T78 l (i : Int)).f0.size : Int) > 60
      · rw [if_pos h2]; exact ⟨_, rfl, fun h => by cases h⟩
      · rw [if_neg h2, wrap64_id (by omega) (by omega)]
        obtain ⟨b, hb, hB⟩ := ih (i + 1) (by omega) (by omega)
        refine ⟨b, by simpa using hb, fun h j hj hjl => ?_⟩
        rcases Nat.lt_or_ge i j with hij | hij
        · exact hB h j hij hjl
        · obtain rfl : i = j := by omega
          omega
    · rw [if_neg h1]; exact ⟨_, rfl, fun _ j hj hjl => by omega⟩
theorem few05_some (nm : ByteArray) (at_ : Int) (l : List S78) : ∃ b, towncrierlaw05_Few.f 13 nm at_ l = some b ∧ (b = true → nm.size ≤ 60 ∧ l.length ≤ 10 ∧ ∀ x ∈ l, x.f0.size ≤ 60) := by
  unfold towncrierlaw05_Few.f
  by_cases h : (nm.size : Int) > 60
  · rw [if_pos h]; exact ⟨false, rfl, fun h => by cases h⟩
  · rw [if_neg h]
    by_cases hl : (l.length : Int) > 10
    · rw [decide_eq_true hl]; exact ⟨false, rfl, fun h => by cases h⟩
    · rw [decide_eq_false hl]
      simp only [towncrierlaw05_Few.j0]
      rw [if_neg (by decide)]
      obtain ⟨b, hb, hB⟩ := few05_l (nm := nm) (at_ := at_) (l := l) (by omega) 12 0 (by omega) (by omega)
      refine ⟨b, hb, fun h' => ⟨by omega, by omega, fun x hx => ?_⟩⟩
      obtain ⟨j, hj, rfl⟩ := List.mem_iff_getElem.1 hx
      have := hB h' j (by omega) hj
      unfold rd_T78 at this
      simpa [List.getD, List.getElem?_eq_getElem hj] using this
theorem few05_any (nm : ByteArray) (at_ : Int) (A : Option Addr) (c : Nat) (l : List S78) (w : World) (hr : Kd.C k78 w A l.length l) (hc : l.length ≤ c) :
    Calls Try.prog 14 #[.agg #[.string nm, .int .i64 at_, .slice A l.length c]] w fun e w' => ∃ b, e = .returned (.bool b) ∧ (b = true → nm.size ≤ 60 ∧ l.length ≤ 10 ∧ ∀ x ∈ l, x.f0.size ≤ 60) ∧ Below w.heap.size w w' := by
  obtain ⟨b, hb, hB⟩ := few05_some nm at_ l
  exact (towncrierlaw05_Few.calls 13 nm at_ A c l b w hr hc hb).mono fun e w' h => ⟨b, h.1, hB, h.2⟩
end Go.Proofs.Yteommchgnocgnaa.PE
end

section
namespace Go.Proofs.Yteommchgnocgnaa.PE
open Go.RowKit Go.Proofs.YteommchgnocgnaaW.PrintWords Go.Proofs.YteommchgnocgnaaW.PrintLast Go.Proofs.YteommchgnocgnaaW.PrintMore
set_option linter.unusedVariables false
set_option linter.unusedSimpArgs false

theorem By.putV (k n : Int) (s : ByteArray) : By (PE.putV k n s) := by
  unfold PE.putV
  intro x hx
  rcases List.mem_cons.1 hx with rfl | hx
  · omega
  · split at hx
    · exact By.putL _ x hx
    · split at hx
      · exact (By.putL _).append (By.ofStr s) x hx
      · exact By.putL _ x hx
theorem By.putP (y : S50) : By (PE.putP y) := by
  unfold PE.putP
  intro x hx
  rcases List.mem_cons.1 hx with rfl | hx
  · omega
  · split at hx
    · exact By.putV _ _ _ x hx
    · split at hx
      · rw [List.mem_singleton] at hx; subst hx; omega
      · cases hx
theorem few_len {A : Option Addr} {w : World} {l : List S50} (h : Kd.C k50 w A l.length l) : l.length ≤ 9223372036854775807 := h.2.1
theorem awake_any (w : World) : Calls Try.prog 13 #[] w fun e w' => e = .returned (.bool true) ∧ Below w.heap.size w w' := towncrierlaw08_awake.calls true w rfl

set_option maxHeartbeats 8000000 in
set_option maxRecDepth 100000 in
theorem back_calls (A0 : Option Addr) (c0 : Nat) (l : List S50) (A1 : Option Addr) (c1 : Nat) (x : List Int) (w : World)
    (hC0 : Kd.C k50 w A0 l.length l) (hl0 : l.length ≤ c0) (hC1 : Kd.C (Kd.int .u8) w A1 x.length x) (hl1 : x.length ≤ c1) (wl : ∀ y ∈ l, WFi y.f2.f1) (bx : By x) :
    Calls Try.prog 4 #[.slice A0 l.length c0, .slice A1 x.length c1] w fun e w' => e = .returned (.bool true) ∧ Below w.heap.size w w' := by
  have C0 := Aside0.mk hC0
  have L0 := Aside0.mk hl0
  have C1 := Aside0.mk hC1
  have L1 := Aside0.mk hl1
  have WL := Aside0.mk wl
  have BX := Aside0.mk bx
  clear hC0 hl0 hC1 hl1 wl bx
  have HB := Aside0.mk (Below.refl w.heap.size w)
  go_enter Try.func4, Try.ntmps4
  go_wp2_with (fail)
  refine (awake_any _).mono ?_
  rintro e w1 ⟨rfl, hb⟩
  replace HB := Aside0.mk (below_step HB.out hb)
  clear hb
  go_wp2_with (fail)
  refine (few08_any _ _ _ _ (Kd.C_below C0.out HB.out) L0.out).mono ?_
  rintro e w2 ⟨q1, rfl, _, hb⟩
  replace HB := Aside0.mk (below_step HB.out hb)
  clear hb
  cases q1
  · go_wp2; go_ret; exact ⟨rfl, HB.out⟩
  by_cases lx : (x.length : Int) > 400
  · go_wp2; go_ret; exact ⟨rfl, HB.out⟩
  have LX := Aside0.mk (show x.length ≤ 400 by omega)
  have lx' : decide ((400 : Int) < (x.length : Int)) = false := decide_eq_false (by omega)
  clear lx
  go_wp2_with (fail)
  have hput := expr_Put_is l (k := 13) (by omega)
  obtain ⟨PB, hPB⟩ : ∃ PB, PB = (if mayE l = true then putE l else []) := ⟨_, rfl⟩
  refine (expr_Put.calls 13 _ _ _ PB (mayE l) _ (Kd.C_below C0.out HB.out) L0.out (by rw [hput, hPB]; cases mayE l <;> rfl)).mono ?_
  rintro e w3 ⟨v0, rfl, ho, hb⟩
  obtain ⟨Ab, cb, rfl, hlb, hCb⟩ := Kd.R_reads ho
  replace HB := Aside0.mk (below_step HB.out hb)
  have Cb := Aside0.mk hCb
  have Lb := Aside0.mk hlb
  have LB := Aside0.mk (show PB.length ≤ 700 by rw [hPB]; split; exact putE_len (by assumption); simp)
  have HPB := Aside0.mk hPB
  clear hb ho hlb hCb hput hPB
  cases hm : mayE l
  rotate_left
  -- what was put is got
  have ex : PB = putE l := by rw [HPB.out, hm]; rfl
  have hg1 := getE_put hm WL.out x
  rw [← ex] at hg1
  have G1 := Aside0.mk hg1
  have BB := Aside0.mk (show By PB by rw [ex]; exact (By.putL _).append (fun z hz => by obtain ⟨y, _, hy⟩ := List.mem_flatMap.1 hz; exact By.putP y z hy))
  have LM := Aside0.mk (mayE_iff.1 hm).1
  clear hm ex hg1
  go_wp2_with ((with_reducible refine gate_builtin (b := .append) rfl ?_); refine stop_ ?_)
  refine go_on (app5 (w0 := w3) rfl (.const (.slice none 0 0)) (.tmp 39) rfl (.slice none 0 0) [] PB Ab PB.length cb rfl rfl (Kd.R_nil _ _ _ _ _) Cb.out (Below.refl _ _) (by have := LB.out; simp only [List.length_nil]; omega) ?_)
  intro v4 w4 ho4 hb4
  rw [List.nil_append] at ho4
  have HO4 := Aside0.mk ho4
  have HB4 := Aside0.mk hb4
  clear ho4 hb4
  go_wp2_with ((with_reducible refine gate_builtin (b := .append) rfl ?_); refine stop_ ?_)
  refine go_on (app5 (w0 := w3) rfl (.tmp 40) (.tmp 41) rfl v4 PB x A1 x.length c1 rfl rfl HO4.out (Kd.C_below C1.out (below_step HB.out HB4.out)) HB4.out (by have := LB.out; have := LX.out; omega) ?_)
  intro v5 w5 ho5 hb5
  obtain ⟨PX, ePX⟩ : ∃ PX, PX = PB ++ x := ⟨_, rfl⟩
  rw [← ePX] at ho5
  have G2 := Aside0.mk (show getE PX = some (l, PB.length) by rw [ePX]; exact G1.out)
  have BP := Aside0.mk (show By PX by rw [ePX]; exact BB.out.append BX.out)
  have LP := Aside0.mk (show PX.length ≤ 1100 by rw [ePX, List.length_append]; have := LB.out; have := LX.out; omega)
  obtain ⟨A5, c5, rfl, hl5, hC5⟩ := Kd.R_reads ho5
  replace HB := Aside0.mk (below_step HB.out hb5)
  have C5 := Aside0.mk hC5
  have L5 := Aside0.mk hl5
  clear ho5 hb5 ePX hl5 hC5 HO4 HB4 G1
  go_wp2_with (fail)
  refine (expr_Get.calls 30 _ _ _ l (PB.length : Int) true _ C5.out L5.out (by rw [expr_Get_is _ BP.out (by have := LP.out; omega) (Nat.le_refl _), G2.out]; rfl)).mono ?_
  rintro e w6 ⟨v6, rfl, ho, hb⟩
  obtain ⟨A6, c6, rfl, hl6, hC6⟩ := Kd.R_reads ho
  replace HB := Aside0.mk (below_step HB.out hb)
  have C6 := Aside0.mk hC6
  have L6 := Aside0.mk hl6
  clear ho hb hl6 hC6
  go_wp2_with (fail)
  refine (expr_Same.calls (l.length + 1) _ _ l _ _ l true _ (Kd.C_below C0.out HB.out) L0.out C6.out L6.out (by rw [expr_Same_is l l (by have := LM.out; omega) (Nat.lt_succ_self _), sameE_self])).mono ?_
  rintro e w7 ⟨rfl, hd⟩
  replace HB := Aside0.mk (below_step HB.out hd.below)
  clear hd
  go_wp2_with (fail)
  rotate_left
  have hm' := Aside0.mk hm
  clear hm
  go_wp2_with (fail)
  all_goals
    obtain ⟨G, hG⟩ : ∃ G, getE x = G := ⟨_, rfl⟩
    rcases G with _ | ⟨m, u⟩
    -- nothing is got
    · refine (expr_Get.calls 30 _ _ _ [] 0 false _ (Kd.C_below C1.out HB.out) L1.out (by rw [expr_Get_is _ BX.out (by have := LX.out; omega) (Nat.le_refl _), hG]; rfl)).mono ?_
      rintro e w8 ⟨v8, rfl, ho, hb⟩
      obtain ⟨A8, c8, rfl, hl8, hC8⟩ := Kd.R_reads ho
      replace HB := Aside0.mk (below_step HB.out hb)
      clear hb ho hl8 hC8 hG
      go_wp2
      go_ret
      exact ⟨rfl, HB.out⟩
    -- what is got is put as the same bytes
    · obtain ⟨hm2, _, hu, hpe⟩ := getE_is BX.out hG
      have HU := Aside0.mk hu
      have HPE := Aside0.mk hpe
      have HM2 := Aside0.mk hm2
      refine (expr_Get.calls 30 _ _ _ m (u : Int) true _ (Kd.C_below C1.out HB.out) L1.out (by rw [expr_Get_is _ BX.out (by have := LX.out; omega) (Nat.le_refl _), hG]; rfl)).mono ?_
      rintro e w8 ⟨v8, rfl, ho, hb⟩
      obtain ⟨A8, c8, rfl, hl8, hC8⟩ := Kd.R_reads ho
      replace HB := Aside0.mk (below_step HB.out hb)
      have C8 := Aside0.mk hC8
      have L8 := Aside0.mk hl8
      clear hb ho hl8 hC8 hG hm2 hu hpe
      go_wp2_with (fail)
      refine (expr_Put.calls 13 _ _ _ (putE m) true _ C8.out L8.out (by rw [expr_Put_is m (by omega), HM2.out]; rfl)).mono ?_
      rintro e w9 ⟨v9, rfl, ho, hb⟩
      obtain ⟨A9, c9, rfl, hl9, hC9⟩ := Kd.R_reads ho
      replace HB := Aside0.mk (below_step HB.out hb)
      have C9 := Aside0.mk hC9
      clear hb ho hl9 hC9
      have k1 : decide (u ≤ x.length) = true := decide_eq_true HU.out
      have k2 : (0 : Int) ≤ (u : Int) := by omega
      have k3 : (u : Int) ≤ (c1 : Int) := by have := HU.out; have := L1.out; omega
      obtain ⟨S, hS⟩ : ∃ S, S = strOfNums (putE m) := ⟨_, rfl⟩
      have hq1 : ∀ k, (convert 29 9 (.slice A9 (putE m).length c9)).run Try.prog (w9.drewN k) = .ok (.string S) (w9.drewN k) := fun k => by
        rw [hS]; exact Kd.C_string Try.underlying29 Try.underlying5 Try.underlying9 (Kd.C_drewN C9.out k)
      have hq2 : ∀ k, (convert 29 9 (.slice A1 u c1)).run Try.prog (w9.drewN k) = .ok (.string S) (w9.drewN k) := fun k => by
        have h1 := Kd.C_take (Kd.C_drewN (Kd.C_below C1.out HB.out) k) HU.out
        rw [show (x.take u).length = u by rw [List.length_take]; have := HU.out; omega, ← HPE.out] at h1
        rw [hS]; exact Kd.C_string Try.underlying29 Try.underlying5 Try.underlying9 h1
      clear hS
      go_wp2_with (fail)
      go_quiet (fail)
      go_wp2
      go_ret
      exact ⟨rfl, pw_below_drewN HB.out _⟩
end Go.Proofs.Yteommchgnocgnaa.PE
end

section
namespace Go.Proofs.Yteommchgnocgnaa.PE
open Go.RowKit Go.Proofs.YteommchgnocgnaaW.PrintWords Go.Proofs.YteommchgnocgnaaW.PrintLast Go.Proofs.YteommchgnocgnaaW.PrintMore
open Go.ChangeShapes Go.WideShapes Go.Deep Go.Joins
set_option linter.unusedVariables false
set_option linter.unusedSimpArgs false
set_option maxRecDepth 100000
section
variable {H : Type} {enc : TypeId × Value → H} {w : World} {base : Nat} {spare : Nat → Bool} {held : Bool}
theorem u8_bounds {n : Int} (h : (Lit.int .u8 n).wf = true) : 0 ≤ n ∧ n < 256 := by
  have h1 : (decide (IntKind.u8.min ≤ n) && decide (n ≤ IntKind.u8.max)) = true := h
  rw [Bool.and_eq_true] at h1
  have a := of_decide_eq_true h1.1
  have b := of_decide_eq_true h1.2
  have e1 : IntKind.u8.min = 0 := by decide +kernel
  have e2 : IntKind.u8.max = 255 := by decide +kernel
  omega
theorem open_bytesV {r : Reach} {b0 : Nat} {v : Value} {d : DataW H} {p : List MemPlace} (hv : Value.okWide Try.prog w r b0 29 v) (h : DataW.Trod enc Try.prog w base spare held 29 v d p) :
    ∃ (A : Option Addr) (cap : Nat) (vs : List Int), v = .slice A vs.length cap ∧ vs.length ≤ cap ∧ Kd.C (Kd.int .u8) w A vs.length vs ∧ By vs := by
  obtain ⟨a, len, cap, rfl⟩ := okWide_slice Try.underlying29 hv
  obtain ⟨fuel, hf⟩ := h
  obtain ⟨A, c, vs, e, hl, hc, hg⟩ := open_rowC (Kd.int .u8) (fun n => 0 ≤ n ∧ n < 256) Try.underlying29 (by kernel_rfl) (fun n cs y hy => by
    obtain ⟨a, e0, _, w0⟩ := DataW.trod_int Try.underlying5 hy
    exact ⟨a, by rw [e0]; rfl, u8_bounds w0⟩) hf
  have e' : Value.slice a len cap = .slice A vs.length c := by simpa [Value.cells] using e
  exact ⟨A, c, vs, e', hl, hc, hg⟩
end
end Go.Proofs.Yteommchgnocgnaa.PE
end

section
namespace Go.Proofs.Yteommchgnocgnaa.exprBack
open Go.ChangeShapes Go.WideShapes Go.ChangeAt Go.RowKit Go.Proofs.Yteommchgnocgnaa.PE Go.Proofs.YteommchgnocgnaaW.PrintWords Go.Proofs.YteommchgnocgnaaW.PrintLast
open Go.ChangeMaps (open_string shut_string)
set_option linter.unusedVariables false
theorem own : ownKnob Try.prog.godebug = none := by kernel_rfl
theorem laidOut : laidOutB Try.prog = true := by kernel_rfl
set_option maxRecDepth 100000 in
theorem lifted (os : Os) (started : os.Started) (H : Type) (enc : TypeId × Value → H) :
    ReturnsInHanded {} Try.checked os 4 .any (Rows.exprBackSpec.pre6 enc Try.prog Try.f4 Rows.exprBackRow.domain false) (Rows.exprBackSpec.post enc Try.prog Try.f4 false true false false) := by
  refine returnsInHanded_of_change_sized (C := Try.checked) own started (by kernel_rfl) Try.func4
    (ChangeSpec.witness6 (enc := enc) (C := Try.checked) false ⟨#[], #[.slice none 0 0, .slice none 0 0], []⟩ 8 (by kernel_rfl) (by kernel_rfl) (by kernel_rfl) (by kernel_rfl)) ?_
  intro W base args ds gs before hval0 hW hcnd hsz0 _
  have hsz : (DataW.weightsEach Try.prog (Try.f4.params.toList ++ Rows.exprBackSpec.plain.varTypes Try.prog) (ds ++ gs)).all (· ≤ reachBytes) = true := hsz0
  have hval : ∀ (j : Nat) t v, Try.f4.params[j]? = some t → args[j]? = some v → Value.okWide Try.prog W .any base t v := hval0
  have hW' := hW
  obtain ⟨p, q, hA0, hV, rfl, hfz, hnd⟩ := hW
  have hA : DataW.TrodAll enc Try.prog W 0 (fun _ => true) true Try.f4.params.toList args.toList ds p := hA0
  rw [Try.params4] at hA hval hsz
  obtain ⟨v0, vs0, d0, ds0, p0, q0, hargs, rfl, rfl, h0, r0⟩ := trodAll_cons hA
  obtain ⟨v1, vs1, d1, ds1, p1, q1, rfl, rfl, rfl, h1, r1⟩ := trodAll_cons r0
  obtain ⟨rfl, rfl, rfl⟩ := trodAll_nil r1
  obtain rfl : args = #[v0, v1] := by cases args; simp_all
  obtain ⟨rfl, rfl⟩ := trodVars_none hV
  have k0 := h0
  have lt0 : ∀ x ∈ p0, x.block < W.heap.size := by obtain ⟨m, hm⟩ := k0; exact DataW.trod_lt m _ _ _ hm
  obtain ⟨A0, cap0, xs0, rfl, hl0, hC0, hg0⟩ := open_opsV (hval 0 28 v0 rfl rfl) h0
  have k1 := h1
  have lt1 : ∀ x ∈ p1, x.block < W.heap.size := by obtain ⟨m, hm⟩ := k1; exact DataW.trod_lt m _ _ _ hm
  obtain ⟨A1, cap1, xs1, rfl, hl1, hC1, hg1⟩ := open_bytesV (hval 1 29 v1 rfl rfl) h1
  clear hA0 hval0 hsz0 hsz
  refine (back_calls A0 cap0 xs0 A1 cap1 xs1 W hC0 hl0 hC1 hl1 (fun y hy => (hg0 y hy).2.2.2.1) hg1).mono fun e W' ⟨he, bel⟩ => ?_
  subst he
  exact ⟨_, rfl, _, _, _, [], _, [], hW', trodAll_mk1 (shut_bool Try.underlying4 _), (trodAll_cons_mk (Below.trod laidOut (by kernel_rfl) (of_decide_eq_true (by kernel_rfl)) k0 bel lt0) (trodAll_cons_mk (Below.trod laidOut (by kernel_rfl) (of_decide_eq_true (by kernel_rfl)) k1 bel lt1) trodAll_mk0)), rfl, bel.frame _, fun h => by cases h⟩
theorem over : Rows.exprBackRow.holds Try.pinned (OpenSpec.ofChange Rows.exprBackSpec) :=
  OpenClaim.holds_of_wide 4 Try.f4 rfl rfl rfl rfl rfl rfl rfl ⟨rfl, rfl, rfl, rfl, rfl⟩ rfl rfl rfl rfl rfl (by kernel_rfl) Try.func4 (by kernel_rfl)
    (of_decide_eq_true (by kernel_rfl)) (by unfold Func.isWrapper; first | (rw [if_pos (by decide +kernel)]; kernel_rfl) | (rw [if_neg (by decide +kernel)]; exact ⟨rfl, rfl⟩))
    (fun os started H enc _ => lifted os started H enc)
theorem proved : Rows.ExprBackSaid := over
#print axioms proved
end Go.Proofs.Yteommchgnocgnaa.exprBack
namespace Go.Proofs.Yteommchgnocgnaa
/-- The row, under a short name, for the claim. -/
theorem exprBack_holds : Rows.ExprBackSaid := exprBack.proved
end Go.Proofs.Yteommchgnocgnaa
end

