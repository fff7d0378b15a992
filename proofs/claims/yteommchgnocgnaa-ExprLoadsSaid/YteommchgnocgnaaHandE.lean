import Derived.Test.YteommchgnocgnaaHandD
namespace Go.Proofs.Yteommchgnocgnaa.PE
open Go.RowKit Go.Proofs.YteommchgnocgnaaW.PrintWords Go.Proofs.YteommchgnocgnaaW.PrintLast Go.Proofs.YteommchgnocgnaaW.PrintMore
set_option linter.unusedVariables false
set_option linter.unusedSimpArgs false

/-- The place of the first of which p says so; -1: there is none. -/
def findI {α : Type} (p : α → Bool) (l : List α) : Int := match l.findIdx? p with | some i => (i : Int) | none => -1
theorem findI_at {α : Type} {p : α → Bool} {l : List α} {z : α} {i : Nat} (hi : i < l.length) (hp : p (l.getD i z) = true) (hb : ∀ j, j < i → p (l.getD j z) = false) : findI p l = i := by
  have : l.findIdx? p = some i := by
    rw [List.findIdx?_eq_some_iff_getElem]
    refine ⟨hi, ?_, ?_⟩
    · have := hp; rwa [List.getD_eq_getElem?_getD, List.getElem?_eq_getElem hi, Option.getD_some] at this
    · intro j hj
      have := hb j hj
      rw [List.getD_eq_getElem?_getD, List.getElem?_eq_getElem (by omega), Option.getD_some] at this
      simp [this]
  unfold findI; rw [this]
theorem findI_none {α : Type} {p : α → Bool} {l : List α} {z : α} (hb : ∀ j, j < l.length → p (l.getD j z) = false) : findI p l = -1 := by
  have : l.findIdx? p = none := by
    rw [List.findIdx?_eq_none_iff]
    intro x hx
    obtain ⟨j, hj, rfl⟩ := List.getElem_of_mem hx
    have := hb j hj
    rwa [List.getD_eq_getElem?_getD, List.getElem?_eq_getElem hj, Option.getD_some] at this
  unfold findI; rw [this]
theorem findI_nn {α : Type} (p : α → Bool) (l : List α) : decide (0 ≤ findI p l) = l.any p := by
  unfold findI
  cases h : l.findIdx? p with
  | none =>
    have := List.findIdx?_eq_none_iff.1 h
    simp only []
    rw [show l.any p = false from by rw [List.any_eq_false]; intro x hx; simp [this x hx]]; rfl
  | some i =>
    obtain ⟨hi, hp, _⟩ := List.findIdx?_eq_some_iff_getElem.1 h
    simp only []
    rw [show l.any p = true from List.any_eq_true.2 ⟨_, List.getElem_mem hi, hp⟩]
    exact decide_eq_true (by omega)

def opBad (x : S50) : Bool := !opOk x.f0 x.f1 x.f2.f0 x.f2.f1 x.f2.f2
set_option maxHeartbeats 8000000 in
set_option maxRecDepth 100000 in
theorem indexOp.calls (A0 : Option Addr) (c0 : Nat) (l0 : List S50) (w : World) (hr0 : Kd.C k50 w A0 l0.length l0) (hc0 : l0.length ≤ c0) (hl : l0.length ≤ 1000) :
    Calls Try.prog 102 #[.slice A0 l0.length c0, .func (.func 78) #[] #[]] w fun e w' => e = .returned (.int .i64 (findI opBad l0)) ∧ Below w.heap.size w w' := by
  have hu50 := Try.underlying50
  have HR0 := Aside0.mk hr0
  have HC0 := Aside0.mk hc0
  clear hr0 hc0
  have HB := Aside0.mk (Below.refl w.heap.size w)
  obtain ⟨I, hI⟩ : ∃ I, I = findI opBad l0 := ⟨_, rfl⟩
  rw [← hI]
  replace hI := Aside0.mk hI
  go_enter Try.func102, Try.ntmps102
  go_wp2
  go_loopg [8] l0.length (fun kq v8 w' => ∃ (i : Nat), v8 = .int .i64 (i : Int) ∧ Aside0 (i + kq = l0.length) ∧ Aside0 (∀ j, j < i → opBad (l0.getD j z50) = false) ∧ Aside0 (Below w.heap.size w w'))
  case atStart => exact ⟨0, rfl, ⟨by omega⟩, ⟨fun j hj => absurd hj (by omega)⟩, HB⟩
  case round =>
    obtain ⟨i, rfl, hk, hall, HB⟩ := hrel
    by_cases hlt : i < l0.length
    · obtain ⟨ad, e, hx0, hx1, hx2, hx3, hx4⟩ := at_T50 HR0.out (i : Int) (by omega) (by omega)
      cases e
      rw [Int.toNat_natCast] at hx0 hx1 hx2 hx3 hx4
      have hrd : rd_T50 l0 (i : Int) = l0.getD i z50 := by unfold rd_T50; rw [Int.toNat_natCast]
      rw [hrd] at hx0 hx1 hx2 hx3 hx4
      clear hrd
      obtain ⟨x, hx⟩ : ∃ x, x = l0.getD i z50 := ⟨_, rfl⟩
      rw [← hx] at hx0 hx1 hx2 hx3 hx4
      replace hx := Aside0.mk hx
      replace hx0 := (HB.out.cell (World.block_lt_of_cell? w _ hx0)).trans hx0
      replace hx1 := (HB.out.cell (World.block_lt_of_cell? w _ hx1)).trans hx1
      replace hx2 := (HB.out.cell (World.block_lt_of_cell? w _ hx2)).trans hx2
      replace hx3 := (HB.out.cell (World.block_lt_of_cell? w _ hx3)).trans hx3
      replace hx4 := (HB.out.cell (World.block_lt_of_cell? w _ hx4)).trans hx4
      cases hp : opBad x with
      | true =>
        replace hp := Aside0.mk hp
        go_wp2_with (fail)
        refine (expr_may1.calls _ _ _ _ _ _ true ⟨hp.out.symm⟩).mono ?_
        rintro e w1 ⟨rfl, hb⟩
        replace HB := Aside0.mk (below_step HB.out hb)
        clear hb
        go_wp2
        go_ret
        have hr : I = i := by rw [hI.out]; exact findI_at (z := z50) hlt (by rw [← hx.out]; exact hp.out) hall.out
        exact ⟨by rw [hr]; rfl, HB.out⟩
      | false =>
        replace hp := Aside0.mk hp
        go_wp2_with (fail)
        refine (expr_may1.calls _ _ _ _ _ _ false ⟨hp.out.symm⟩).mono ?_
        rintro e w1 ⟨rfl, hb⟩
        replace HB := Aside0.mk (below_step HB.out hb)
        clear hb
        go_wp2
        go_roundg (gk - 1)
        case measure => have := hk.out; omega
        case rel => exact ⟨i + 1, by go_num, ⟨by have := hk.out; omega⟩, ⟨fun j hj => by
          rcases (by omega : j < i ∨ j = i) with h | h
          · exact hall.out j h
          · subst h; rw [← hx.out]; exact hp.out⟩, HB⟩
    · go_wp2
      go_ret
      have hr : I = -1 := by rw [hI.out]; exact findI_none (z := z50) (fun j hj => hall.out j (by omega))
      exact ⟨by rw [hr]; rfl, HB.out⟩

set_option maxHeartbeats 8000000 in
set_option maxRecDepth 100000 in
theorem containsOp.calls (A0 : Option Addr) (c0 : Nat) (l0 : List S50) (w : World) (hr0 : Kd.C k50 w A0 l0.length l0) (hc0 : l0.length ≤ c0) (hl : l0.length ≤ 1000) :
    Calls Try.prog 79 #[.slice A0 l0.length c0, .func (.func 78) #[] #[]] w fun e w' => e = .returned (.bool (l0.any opBad)) ∧ Below w.heap.size w w' := by
  have hn := findI_nn opBad l0
  replace hn := Aside0.mk hn
  go_enter Try.func79, Try.ntmps79
  go_wp2_with (fail)
  refine (indexOp.calls A0 c0 l0 _ hr0 hc0 hl).mono ?_
  rintro e w1 ⟨rfl, hb⟩
  obtain ⟨I, hI⟩ : ∃ I, I = findI opBad l0 := ⟨_, rfl⟩
  rw [← hI]
  go_wp2
  go_ret
  refine ⟨?_, hb⟩
  rw [← hn.out, ← hI]; rfl

def mayE (l : List S50) : Bool := decide (l.length ≤ 12) && !(l.any opBad)
def expr_may.f (l0 : List S50) : Option Bool := some (mayE l0)
set_option maxHeartbeats 8000000 in
set_option maxRecDepth 100000 in
theorem expr_may.calls (A0 : Option Addr) (c0 : Nat) (l0 : List S50) (r : Bool) (w : World) (hr0 : Kd.C k50 w A0 l0.length l0) (hc0 : l0.length ≤ c0) (h : expr_may.f l0 = some r) :
    Calls Try.prog 41 #[.slice A0 l0.length c0] w fun e w' => e = .returned (.bool r) ∧ Below w.heap.size w w' := by
  obtain rfl := Option.some.inj h
  clear h
  obtain ⟨B, hB⟩ : ∃ B, B = mayE l0 := ⟨_, rfl⟩
  rw [← hB]
  replace hB := Aside0.mk hB
  by_cases hl : l0.length ≤ 12
  · have f1 : decide (l0.length ≤ 12) = true := decide_eq_true hl
    have f2 : decide ((l0.length : Int) ≤ 12) = true := decide_eq_true (by omega)
    have hr : B = !(l0.any opBad) := by rw [hB.out]; unfold mayE; rw [f1]; rfl
    replace hr := Aside0.mk hr
    have hl2 := Aside0.mk hl
    clear hl
    go_enter Try.func41, Try.ntmps41
    go_wp2_with (fail)
    refine (containsOp.calls A0 c0 l0 _ hr0 hc0 (by have := hl2.out; omega)).mono ?_
    rintro e w1 ⟨rfl, hb⟩
    go_wp2
    go_ret
    exact ⟨by rw [hr.out]; rfl, hb⟩
  · have f1 : decide (l0.length ≤ 12) = false := decide_eq_false hl
    have f2 : decide ((l0.length : Int) ≤ 12) = false := decide_eq_false (by omega)
    have hr : B = false := by rw [hB.out]; unfold mayE; rw [f1]; rfl
    replace hr := Aside0.mk hr
    go_enter Try.func41, Try.ntmps41
    go_wp2
    go_ret
    exact ⟨by rw [hr.out]; rfl, Below.refl _ _⟩
end Go.Proofs.Yteommchgnocgnaa.PE
