import Derived.Test.YteommchgnocgnaaHandE
import Derived.Test.YteommchgnocgnaaHandC
namespace Go.Proofs.Yteommchgnocgnaa.PE
open Go.RowKit Go.Proofs.YteommchgnocgnaaW.PrintWords Go.Proofs.YteommchgnocgnaaW.PrintLast Go.Proofs.YteommchgnocgnaaW.PrintMore
set_option linter.unusedVariables false
set_option linter.unusedSimpArgs false

set_option maxHeartbeats 8000000 in
set_option maxRecDepth 100000 in
theorem event_may1.calls (k n : Int) (s : ByteArray) (w : World) (R : Bool) (hR : Aside0 (R = !mayB k n s)) :
    Calls Try.prog 85 #[.agg #[.int .i64 k, .int .i64 n, .string s]] w fun e w' => e = .returned (.bool R) ∧ Below w.heap.size w w' := by
  have hu38 := Try.underlying38
  have hB := (Below.refl w.heap.size w).alloc (Nat.le_refl _) (.cells #[.int .i64 k, .int .i64 n, .string s] 38)
  go_enter Try.func85, Try.ntmps85
  go_wp2_with (fail)
  refine (value_May.calls k n s _ _ rfl).mono ?_
  rintro e w1 ⟨rfl, hb⟩
  replace hb := Aside0.mk (below_step hB hb)
  clear hB
  go_wp2
  go_ret
  exact ⟨by rw [hR.out]; rfl, hb.out⟩

def valBad (x : S38) : Bool := !mayB x.f0 x.f1 x.f2
set_option maxHeartbeats 8000000 in
set_option maxRecDepth 100000 in
theorem indexVal.calls (A0 : Option Addr) (c0 : Nat) (l0 : List S38) (w : World) (hr0 : Kd.C k38 w A0 l0.length l0) (hc0 : l0.length ≤ c0) (hl : l0.length ≤ 1000) :
    Calls Try.prog 112 #[.slice A0 l0.length c0, .func (.func 85) #[] #[]] w fun e w' => e = .returned (.int .i64 (findI valBad l0)) ∧ Below w.heap.size w w' := by
  have hu38 := Try.underlying38
  have HR0 := Aside0.mk hr0
  have HC0 := Aside0.mk hc0
  clear hr0 hc0
  have HB := Aside0.mk (Below.refl w.heap.size w)
  obtain ⟨I, hI⟩ : ∃ I, I = findI valBad l0 := ⟨_, rfl⟩
  rw [← hI]
  replace hI := Aside0.mk hI
  go_enter Try.func112, Try.ntmps112
  go_wp2
  go_loopg [8] l0.length (fun kq v8 w' => ∃ (i : Nat), v8 = .int .i64 (i : Int) ∧ Aside0 (i + kq = l0.length) ∧ Aside0 (∀ j, j < i → valBad (l0.getD j z38) = false) ∧ Aside0 (Below w.heap.size w w'))
  case atStart => exact ⟨0, rfl, ⟨by omega⟩, ⟨fun j hj => absurd hj (by omega)⟩, HB⟩
  case round =>
    obtain ⟨i, rfl, hk, hall, HB⟩ := hrel
    by_cases hlt : i < l0.length
    · obtain ⟨ad, e, hx0, hx1, hx2⟩ := at_T38 HR0.out (i : Int) (by omega) (by omega)
      cases e
      rw [Int.toNat_natCast] at hx0 hx1 hx2
      have hrd : rd_T38 l0 (i : Int) = l0.getD i z38 := by unfold rd_T38; rw [Int.toNat_natCast]
      rw [hrd] at hx0 hx1 hx2
      clear hrd
      obtain ⟨x, hx⟩ : ∃ x, x = l0.getD i z38 := ⟨_, rfl⟩
      rw [← hx] at hx0 hx1 hx2
      replace hx := Aside0.mk hx
      replace hx0 := (HB.out.cell (World.block_lt_of_cell? w _ hx0)).trans hx0
      replace hx1 := (HB.out.cell (World.block_lt_of_cell? w _ hx1)).trans hx1
      replace hx2 := (HB.out.cell (World.block_lt_of_cell? w _ hx2)).trans hx2
      cases hp : valBad x with
      | true =>
        replace hp := Aside0.mk hp
        go_wp2_with (fail)
        refine (event_may1.calls _ _ _ _ true ⟨hp.out.symm⟩).mono ?_
        rintro e w1 ⟨rfl, hb⟩
        replace HB := Aside0.mk (below_step HB.out hb)
        clear hb
        go_wp2
        go_ret
        have hr : I = i := by rw [hI.out]; exact findI_at (z := z38) hlt (by rw [← hx.out]; exact hp.out) hall.out
        exact ⟨by rw [hr]; rfl, HB.out⟩
      | false =>
        replace hp := Aside0.mk hp
        go_wp2_with (fail)
        refine (event_may1.calls _ _ _ _ false ⟨hp.out.symm⟩).mono ?_
        rintro e w1 ⟨rfl, hb⟩
        replace HB := Aside0.mk (below_step HB.out hb)
        clear hb
        go_wp2
        go_roundg (gk - 1)
        case measure => have := hk.out; omega
        case rel => exact ⟨i + 1, by go_num, ⟨by have := hk.out; omega⟩, ⟨fun j hj => by
          rcases (by omega : j < i ∨ j = i) with h | h
          · exact hall.out j h
          · subst h; rw [← hx.out]; exact hp.out⟩, HB⟩
    · go_wp2
      go_ret
      have hr : I = -1 := by rw [hI.out]; exact findI_none (z := z38) (fun j hj => hall.out j (by omega))
      exact ⟨by rw [hr]; rfl, HB.out⟩

set_option maxHeartbeats 8000000 in
set_option maxRecDepth 100000 in
theorem containsVal.calls (A0 : Option Addr) (c0 : Nat) (l0 : List S38) (w : World) (hr0 : Kd.C k38 w A0 l0.length l0) (hc0 : l0.length ≤ c0) (hl : l0.length ≤ 1000) :
    Calls Try.prog 86 #[.slice A0 l0.length c0, .func (.func 85) #[] #[]] w fun e w' => e = .returned (.bool (l0.any valBad)) ∧ Below w.heap.size w w' := by
  have hn := findI_nn valBad l0
  replace hn := Aside0.mk hn
  go_enter Try.func86, Try.ntmps86
  go_wp2_with (fail)
  refine (indexVal.calls A0 c0 l0 _ hr0 hc0 hl).mono ?_
  rintro e w1 ⟨rfl, hb⟩
  obtain ⟨I, hI⟩ : ∃ I, I = findI valBad l0 := ⟨_, rfl⟩
  rw [← hI]
  go_wp2
  go_ret
  refine ⟨?_, hb⟩
  rw [← hn.out, ← hI]; rfl


def mayEv (name : ByteArray) (at_ : Int) (l : List S38) : Bool := nameB name && (decide (0 ≤ at_) && (decide (at_ ≤ 1125899906842624) && (decide (l.length ≤ 6) && !(l.any valBad))))
def event_May.f (a0_0 : ByteArray) (a0_1 : Int) (l0_2 : List S38) : Option Bool := some (mayEv a0_0 a0_1 l0_2)
set_option maxHeartbeats 8000000 in
set_option maxRecDepth 100000 in
theorem event_May.calls (a0_0 : ByteArray) (a0_1 : Int) (A0_2 : Option Addr) (c0_2 : Nat) (l0_2 : List S38) (r : Bool) (w : World) (hr0_2 : Kd.C k38 w A0_2 l0_2.length l0_2) (hc0_2 : l0_2.length ≤ c0_2) (h : event_May.f a0_0 a0_1 l0_2 = some r) :
    Calls Try.prog 46 #[.agg #[.string a0_0, .int .i64 a0_1, .slice A0_2 l0_2.length c0_2]] w fun e w' => e = .returned (.bool r) ∧ Below w.heap.size w w' := by
  obtain rfl := Option.some.inj h
  clear h
  have hu27 := Try.underlying27
  obtain ⟨B, hB⟩ : ∃ B, B = mayEv a0_0 a0_1 l0_2 := ⟨_, rfl⟩
  rw [← hB]
  replace hB := Aside0.mk hB
  have HR := Aside0.mk hr0_2
  have HC := Aside0.mk hc0_2
  have HB := Aside0.mk ((Below.refl w.heap.size w).alloc (Nat.le_refl _) (.cells #[.string a0_0, .int .i64 a0_1, .slice A0_2 l0_2.length c0_2] 27))
  have hcz0 : (w.alloc (.cells #[.string a0_0, .int .i64 a0_1, .slice A0_2 l0_2.length c0_2] 27)).cell? ⟨w.heap.size, 1, none⟩ = some (.int .i64 a0_1) := by rw [World.cell?_alloc_at _ _ _ _ rfl]; rfl
  have hcz1 : (w.alloc (.cells #[.string a0_0, .int .i64 a0_1, .slice A0_2 l0_2.length c0_2] 27)).cell? ⟨w.heap.size, 2, none⟩ = some (.slice A0_2 l0_2.length c0_2) := by rw [World.cell?_alloc_at _ _ _ _ rfl]; rfl
  replace hcz0 := Aside0.mk hcz0
  replace hcz1 := Aside0.mk hcz1
  clear hr0_2 hc0_2
  cases hn : nameB a0_0 with
  | false =>
    have hr : B = false := by rw [hB.out]; unfold mayEv; rw [hn]; rfl
    replace hr := Aside0.mk hr
    replace hn := Aside0.mk hn
    go_enter Try.func46, Try.ntmps46
    go_wp2_with (fail)
    refine (schema_Name.calls a0_0 false _ (by unfold schema_Name.f; rw [hn.out])).mono ?_
    rintro e w1 ⟨rfl, hb⟩
    replace HB := Aside0.mk (below_step HB.out hb)
    clear hb
    go_wp2
    go_ret
    exact ⟨by rw [hr.out]; rfl, HB.out⟩
  | true =>
    have hr : B = (decide (0 ≤ a0_1) && (decide (a0_1 ≤ 1125899906842624) && (decide (l0_2.length ≤ 6) && !(l0_2.any valBad)))) := by rw [hB.out]; unfold mayEv; rw [hn]; rfl
    replace hr := Aside0.mk hr
    replace hn := Aside0.mk hn
    clear hB
    by_cases g1 : 0 ≤ a0_1
    case neg =>
      have f1 : decide (0 ≤ a0_1) = false := decide_eq_false g1
      have hr2 := Aside0.mk (show B = false by rw [hr.out, f1]; rfl)
      clear hr g1
      go_enter Try.func46, Try.ntmps46
      go_wp2_with (fail)
      refine (schema_Name.calls a0_0 true _ (by unfold schema_Name.f; rw [hn.out])).mono ?_
      rintro e w1 ⟨rfl, hb⟩
      have hc1 := (hb.cell (p := ⟨_, 1, none⟩) (by simp)).trans hcz0.out
      replace HB := Aside0.mk (below_step HB.out hb)
      clear hb
      go_wp2
      go_ret
      exact ⟨by rw [hr2.out]; rfl, HB.out⟩
    have f1 : decide (0 ≤ a0_1) = true := decide_eq_true g1
    by_cases g2 : a0_1 ≤ 1125899906842624
    case neg =>
      have f2 : decide (a0_1 ≤ 1125899906842624) = false := decide_eq_false g2
      have hr2 := Aside0.mk (show B = false by rw [hr.out, f1, f2]; rfl)
      clear hr g1 g2
      go_enter Try.func46, Try.ntmps46
      go_wp2_with (fail)
      refine (schema_Name.calls a0_0 true _ (by unfold schema_Name.f; rw [hn.out])).mono ?_
      rintro e w1 ⟨rfl, hb⟩
      have hc1 := (hb.cell (p := ⟨_, 1, none⟩) (by simp)).trans hcz0.out
      replace HB := Aside0.mk (below_step HB.out hb)
      clear hb
      go_wp2
      go_ret
      exact ⟨by rw [hr2.out]; rfl, HB.out⟩
    have f2 : decide (a0_1 ≤ 1125899906842624) = true := decide_eq_true g2
    by_cases g3 : l0_2.length ≤ 6
    case neg =>
      have f3 : decide (l0_2.length ≤ 6) = false := decide_eq_false g3
      have f4 : decide ((l0_2.length : Int) ≤ 6) = false := decide_eq_false (by omega)
      have hr2 := Aside0.mk (show B = false by rw [hr.out, f1, f2, f3]; rfl)
      clear hr g1 g2 g3
      go_enter Try.func46, Try.ntmps46
      go_wp2_with (fail)
      refine (schema_Name.calls a0_0 true _ (by unfold schema_Name.f; rw [hn.out])).mono ?_
      rintro e w1 ⟨rfl, hb⟩
      have hc1 := (hb.cell (p := ⟨_, 1, none⟩) (by simp)).trans hcz0.out
      have hc2 := (hb.cell (p := ⟨_, 2, none⟩) (by simp)).trans hcz1.out
      replace HB := Aside0.mk (below_step HB.out hb)
      clear hb
      go_wp2
      go_ret
      exact ⟨by rw [hr2.out]; rfl, HB.out⟩
    have f3 : decide (l0_2.length ≤ 6) = true := decide_eq_true g3
    have f4 : decide ((l0_2.length : Int) ≤ 6) = true := decide_eq_true (by omega)
    have hr2 := Aside0.mk (show B = !(l0_2.any valBad) by rw [hr.out, f1, f2, f3]; rfl)
    have G3 := Aside0.mk g3
    clear hr g1 g2 g3
    go_enter Try.func46, Try.ntmps46
    go_wp2_with (fail)
    refine (schema_Name.calls a0_0 true _ (by unfold schema_Name.f; rw [hn.out])).mono ?_
    rintro e w1 ⟨rfl, hb⟩
    have hc1 := (hb.cell (p := ⟨_, 1, none⟩) (by simp)).trans hcz0.out
    have hc2 := (hb.cell (p := ⟨_, 2, none⟩) (by simp)).trans hcz1.out
    replace HB := Aside0.mk (below_step HB.out hb)
    clear hb
    go_wp2_with (fail)
    refine (containsVal.calls A0_2 c0_2 l0_2 _ (Kd.C_below HR.out HB.out) HC.out (by have := G3.out; omega)).mono ?_
    rintro e w2 ⟨rfl, hb⟩
    replace HB := Aside0.mk (below_step HB.out hb)
    clear hb
    go_wp2
    go_ret
    exact ⟨by rw [hr2.out]; rfl, HB.out⟩
end Go.Proofs.Yteommchgnocgnaa.PE
