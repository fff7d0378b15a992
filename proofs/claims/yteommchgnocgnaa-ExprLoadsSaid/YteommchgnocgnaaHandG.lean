import Derived.Test.YteommchgnocgnaaHandE
import Derived.Test.YteommchgnocgnaaHandC
namespace Go.Proofs.Yteommchgnocgnaa.PE
open Go.RowKit Go.Proofs.YteommchgnocgnaaW.PrintWords Go.Proofs.YteommchgnocgnaaW.PrintLast Go.Proofs.YteommchgnocgnaaW.PrintMore
set_option linter.unusedVariables false
set_option linter.unusedSimpArgs false

set_option maxHeartbeats 8000000 in
set_option maxRecDepth 100000 in
theorem schema_may1.calls (gn : ByteArray) (gk : Int) (nm : ByteArray) (kk : Int) (fb : Nat) {w : World} (R : Bool) (hR : Aside0 (R = (gn.toList == nm.toList))) (hfb : w.heap[fb]? = some (.cells #[.string nm, .int .i64 kk] 78 (0, 0))) :
    Calls Try.prog 77 #[.agg #[.string gn, .int .i64 gk], .pointer (some ⟨fb, 0, none⟩)] w fun e w' => e = .returned (.bool R) ∧ Below w.heap.size w w' := by
  have hu78 := Try.underlying78
  have hB := (Below.refl w.heap.size w).alloc (Nat.le_refl _) (.cells #[.string gn, .int .i64 gk] 78)
  replace hB := Aside0.mk hB
  have hc : (w.alloc (.cells #[.string gn, .int .i64 gk] 78)).cell? ⟨fb, 0, none⟩ = some (.string nm) := (blk_cell (blk_alloc hfb _) 0).trans rfl
  clear hfb
  go_enter Try.func77, Try.ntmps77
  go_wp2
  go_ret
  exact ⟨by rw [hR.out]; rfl, hB.out⟩

def sameName (n : ByteArray) (x : S78) : Bool := x.f0.toList == n.toList
set_option maxHeartbeats 8000000 in
set_option maxRecDepth 100000 in
theorem indexField.calls (A0 : Option Addr) (c0 : Nat) (l0 : List S78) (w : World) (hr0 : Kd.C k78 w A0 l0.length l0) (hc0 : l0.length ≤ c0) (hl : l0.length ≤ 1000) (nm : ByteArray) (kk : Int) (fb : Nat) (hfb : w.heap[fb]? = some (.cells #[.string nm, .int .i64 kk] 78 (0, 0))) :
    Calls Try.prog 101 #[.slice A0 l0.length c0, .func (.func 77) #[] #[.pointer (some ⟨fb, 0, none⟩)]] w fun e w' => e = .returned (.int .i64 (findI (sameName nm) l0)) ∧ Below w.heap.size w w' := by
  have hu78 := Try.underlying78
  have HR0 := Aside0.mk hr0
  have HC0 := Aside0.mk hc0
  clear hr0 hc0
  have HB := Aside0.mk (Below.refl w.heap.size w)
  obtain ⟨I, hI⟩ : ∃ I, I = findI (sameName nm) l0 := ⟨_, rfl⟩
  rw [← hI]
  replace hI := Aside0.mk hI
  have hfb2 := Aside0.mk hfb
  clear hfb
  go_enter Try.func101, Try.ntmps101
  go_wp2
  go_loopg [8] l0.length (fun kq v8 w' => ∃ (i : Nat), v8 = .int .i64 (i : Int) ∧ Aside0 (i + kq = l0.length) ∧ Aside0 (∀ j, j < i → (sameName nm) (l0.getD j z78) = false) ∧ Aside0 (Below w.heap.size w w'))
  case atStart => exact ⟨0, rfl, ⟨by omega⟩, ⟨fun j hj => absurd hj (by omega)⟩, HB⟩
  case round =>
    obtain ⟨i, rfl, hk, hall, HB⟩ := hrel
    by_cases hlt : i < l0.length
    · obtain ⟨ad, e, hx0, hx1⟩ := at_T78 HR0.out (i : Int) (by omega) (by omega)
      cases e
      rw [Int.toNat_natCast] at hx0 hx1
      have hrd : rd_T78 l0 (i : Int) = l0.getD i z78 := by unfold rd_T78; rw [Int.toNat_natCast]
      rw [hrd] at hx0 hx1
      clear hrd
      obtain ⟨x, hx⟩ : ∃ x, x = l0.getD i z78 := ⟨_, rfl⟩
      rw [← hx] at hx0 hx1
      replace hx := Aside0.mk hx
      replace hx0 := (HB.out.cell (World.block_lt_of_cell? w _ hx0)).trans hx0
      replace hx1 := (HB.out.cell (World.block_lt_of_cell? w _ hx1)).trans hx1
      cases hp : (sameName nm) x with
      | true =>
        replace hp := Aside0.mk hp
        go_wp2_with (fail)
        refine (schema_may1.calls _ _ _ _ _ true ⟨hp.out.symm⟩ (blk_below hfb2.out HB.out)).mono ?_
        rintro e w1 ⟨rfl, hb⟩
        replace HB := Aside0.mk (below_step HB.out hb)
        clear hb
        go_wp2
        go_ret
        have hr : I = i := by rw [hI.out]; exact findI_at (z := z78) hlt (by rw [← hx.out]; exact hp.out) hall.out
        exact ⟨by rw [hr]; rfl, HB.out⟩
      | false =>
        replace hp := Aside0.mk hp
        go_wp2_with (fail)
        refine (schema_may1.calls _ _ _ _ _ false ⟨hp.out.symm⟩ (blk_below hfb2.out HB.out)).mono ?_
        rintro e w1 ⟨rfl, hb⟩
        replace HB := Aside0.mk (below_step HB.out hb)
        clear hb
        go_wp2
        go_roundg (gk - 1)
        case measure => have := hk.out; omega
        case rel => exact ⟨i + 1, by go_num, ⟨by have := hk.out; omega⟩, ⟨fun j hj => by
          rcases (by omega : j < i ∨ j = i) with h | h
          · exact hall.out j h
          · subst h; rw [← hx.out]; exact hp.out⟩, HB⟩
    · go_wp2
      go_ret
      have hr : I = -1 := by rw [hI.out]; exact findI_none (z := z78) (fun j hj => hall.out j (by omega))
      exact ⟨by rw [hr]; rfl, HB.out⟩

set_option maxHeartbeats 8000000 in
set_option maxRecDepth 100000 in
theorem containsField.calls (A0 : Option Addr) (c0 : Nat) (l0 : List S78) (w : World) (hr0 : Kd.C k78 w A0 l0.length l0) (hc0 : l0.length ≤ c0) (hl : l0.length ≤ 1000) (nm : ByteArray) (kk : Int) (fb : Nat) (hfb : w.heap[fb]? = some (.cells #[.string nm, .int .i64 kk] 78 (0, 0))) :
    Calls Try.prog 76 #[.slice A0 l0.length c0, .func (.func 77) #[] #[.pointer (some ⟨fb, 0, none⟩)]] w fun e w' => e = .returned (.bool (l0.any (sameName nm))) ∧ Below w.heap.size w w' := by
  have hn := findI_nn (sameName nm) l0
  replace hn := Aside0.mk hn
  go_enter Try.func76, Try.ntmps76
  go_wp2_with (fail)
  refine (indexField.calls A0 c0 l0 _ hr0 hc0 hl nm kk fb hfb).mono ?_
  rintro e w1 ⟨rfl, hb⟩
  obtain ⟨I, hI⟩ : ∃ I, I = findI (sameName nm) l0 := ⟨_, rfl⟩
  rw [← hI]
  go_wp2
  go_ret
  refine ⟨?_, hb⟩
  rw [← hn.out, ← hI]; rfl


def fieldOk (l : List S78) (i : Nat) : Bool := !((l.take i).any (sameName (l.getD i z78).f0)) && (nameB (l.getD i z78).f0 && (decide (0 ≤ (l.getD i z78).f1) && decide ((l.getD i z78).f1 < 4)))
def maySc (nm : ByteArray) (ver : Int) (l : List S78) : Bool := nameB nm && (decide (1 ≤ ver) && (decide (ver ≤ 1000) && (decide (l.length ≤ 6) && (List.range l.length).all (fieldOk l))))
def schema_May.f (a0_0 : ByteArray) (a0_1 : Int) (l0_2 : List S78) : Option Bool := some (maySc a0_0 a0_1 l0_2)
theorem range_all_no {p : Nat → Bool} {n i : Nat} (hi : i < n) (h : p i = false) : (List.range n).all p = false := by
  rw [List.all_eq_false]; exact ⟨i, List.mem_range.2 hi, by simp [h]⟩
theorem range_all_yes {p : Nat → Bool} {n : Nat} (h : ∀ i, i < n → p i = true) : (List.range n).all p = true := by
  rw [List.all_eq_true]; intro x hx; exact h x (List.mem_range.1 hx)

set_option maxHeartbeats 16000000 in
set_option maxRecDepth 100000 in
theorem schema_May.calls (a0_0 : ByteArray) (a0_1 : Int) (A0_2 : Option Addr) (c0_2 : Nat) (l0_2 : List S78) (r : Bool) (w : World) (hr0_2 : Kd.C k78 w A0_2 l0_2.length l0_2) (hc0_2 : l0_2.length ≤ c0_2) (h : schema_May.f a0_0 a0_1 l0_2 = some r) :
    Calls Try.prog 40 #[.agg #[.string a0_0, .int .i64 a0_1, .slice A0_2 l0_2.length c0_2]] w fun e w' => e = .returned (.bool r) ∧ Below w.heap.size w w' := by
  obtain rfl := Option.some.inj h
  clear h
  have hu24 := Try.underlying24
  have hu78 := Try.underlying78
  have hmf : ∀ (fn : Fn) (first cap : Array Value) (w : World), (Instr.makeFunc fn first cap).run Try.prog w = .ok (.func fn first cap) w := fun _ _ _ _ => rfl
  obtain ⟨B, hB⟩ : ∃ B, B = maySc a0_0 a0_1 l0_2 := ⟨_, rfl⟩
  rw [← hB]
  replace hB := Aside0.mk hB
  have HR := Aside0.mk hr0_2
  have HC := Aside0.mk hc0_2
  have HB := Aside0.mk ((Below.refl w.heap.size w).alloc (Nat.le_refl _) (.cells #[.string a0_0, .int .i64 a0_1, .slice A0_2 l0_2.length c0_2] 24))
  have BK := Aside0.mk (blk_new w (.cells #[.string a0_0, .int .i64 a0_1, .slice A0_2 l0_2.length c0_2] 24))
  clear hr0_2 hc0_2
  cases hn : nameB a0_0 with
  | false =>
    have hr : B = false := by rw [hB.out]; unfold maySc; rw [hn]; rfl
    replace hr := Aside0.mk hr
    replace hn := Aside0.mk hn
    go_enter Try.func40, Try.ntmps40
    go_wp2_with (fail)
    refine (schema_Name.calls a0_0 false _ (by unfold schema_Name.f; rw [hn.out])).mono ?_
    rintro e w1 ⟨rfl, hb⟩
    replace HB := Aside0.mk (below_step HB.out hb)
    clear hb
    go_wp2
    go_ret
    exact ⟨by rw [hr.out]; rfl, HB.out⟩
  | true =>
    have hr : B = (decide (1 ≤ a0_1) && (decide (a0_1 ≤ 1000) && (decide (l0_2.length ≤ 6) && (List.range l0_2.length).all (fieldOk l0_2)))) := by rw [hB.out]; unfold maySc; rw [hn]; rfl
    replace hr := Aside0.mk hr
    replace hn := Aside0.mk hn
    clear hB
    by_cases g1 : a0_1 < 1
    · have f1 : decide (a0_1 < 1) = true := decide_eq_true g1
      have hr2 := Aside0.mk (show B = false by rw [hr.out, decide_eq_false (by omega)]; rfl)
      clear hr g1
      go_enter Try.func40, Try.ntmps40
      go_wp2_with (fail)
      refine (schema_Name.calls a0_0 true _ (by unfold schema_Name.f; rw [hn.out])).mono ?_
      rintro e w1 ⟨rfl, hb⟩
      have hc1 : w1.cell? ⟨w.heap.size, 1, none⟩ = some (.int .i64 a0_1) := (blk_cell (blk_below BK.out hb) 1).trans rfl
      replace HB := Aside0.mk (below_step HB.out hb)
      clear hb
      go_wp2
      go_ret
      exact ⟨by rw [hr2.out]; rfl, HB.out⟩
    have f1 : decide (a0_1 < 1) = false := decide_eq_false g1
    by_cases g2 : 1000 < a0_1
    · have f2 : decide (1000 < a0_1) = true := decide_eq_true g2
      have hr2 := Aside0.mk (show B = false by rw [hr.out, decide_eq_false (p := a0_1 ≤ 1000) (by omega)]; simp)
      clear hr g1 g2
      go_enter Try.func40, Try.ntmps40
      go_wp2_with (fail)
      refine (schema_Name.calls a0_0 true _ (by unfold schema_Name.f; rw [hn.out])).mono ?_
      rintro e w1 ⟨rfl, hb⟩
      have hc1 : w1.cell? ⟨w.heap.size, 1, none⟩ = some (.int .i64 a0_1) := (blk_cell (blk_below BK.out hb) 1).trans rfl
      replace HB := Aside0.mk (below_step HB.out hb)
      clear hb
      go_wp2
      go_ret
      exact ⟨by rw [hr2.out]; rfl, HB.out⟩
    have f2 : decide (1000 < a0_1) = false := decide_eq_false g2
    by_cases g3 : 6 < l0_2.length
    · have f3 : decide (6 < l0_2.length) = true := decide_eq_true g3
      have f4 : decide (6 < (l0_2.length : Int)) = true := decide_eq_true (by omega)
      have hr2 := Aside0.mk (show B = false by rw [hr.out, decide_eq_false (p := l0_2.length ≤ 6) (by omega)]; simp)
      clear hr g1 g2 g3
      go_enter Try.func40, Try.ntmps40
      go_wp2_with (fail)
      refine (schema_Name.calls a0_0 true _ (by unfold schema_Name.f; rw [hn.out])).mono ?_
      rintro e w1 ⟨rfl, hb⟩
      have hc1 : w1.cell? ⟨w.heap.size, 1, none⟩ = some (.int .i64 a0_1) := (blk_cell (blk_below BK.out hb) 1).trans rfl
      have hc2 : w1.cell? ⟨w.heap.size, 2, none⟩ = some (.slice A0_2 l0_2.length c0_2) := (blk_cell (blk_below BK.out hb) 2).trans rfl
      replace HB := Aside0.mk (below_step HB.out hb)
      clear hb
      go_wp2
      go_ret
      exact ⟨by rw [hr2.out]; rfl, HB.out⟩
    have f3 : decide (6 < l0_2.length) = false := decide_eq_false g3
    have f4 : decide (6 < (l0_2.length : Int)) = false := decide_eq_false (by omega)
    have hr2 := Aside0.mk (show B = (List.range l0_2.length).all (fieldOk l0_2) by rw [hr.out, decide_eq_true (p := 1 ≤ a0_1) (by omega), decide_eq_true (p := a0_1 ≤ 1000) (by omega), decide_eq_true (p := l0_2.length ≤ 6) (by omega)]; rfl)
    have G3 := Aside0.mk g3
    clear hr g1 g2 g3
    go_enter Try.func40, Try.ntmps40
    go_wp2_with (fail)
    refine (schema_Name.calls a0_0 true _ (by unfold schema_Name.f; rw [hn.out])).mono ?_
    rintro e w1 ⟨rfl, hb⟩
    have hc1 : w1.cell? ⟨w.heap.size, 1, none⟩ = some (.int .i64 a0_1) := (blk_cell (blk_below BK.out hb) 1).trans rfl
    have hc2 : w1.cell? ⟨w.heap.size, 2, none⟩ = some (.slice A0_2 l0_2.length c0_2) := (blk_cell (blk_below BK.out hb) 2).trans rfl
    replace HB := Aside0.mk (below_step HB.out hb)
    replace BK := Aside0.mk (blk_below BK.out hb)
    clear hb
    go_wp2
    go_loopg [29] 6 (fun kq v29 w' => ∃ (i : Nat), v29 = .int .i64 (i : Int) ∧ Aside0 (i ≤ l0_2.length) ∧ Aside0 (i + kq = 6) ∧ Aside0 (∀ j, j < i → fieldOk l0_2 j = true) ∧ Aside0 (Below w.heap.size w w') ∧ Aside0 (w'.heap[w.heap.size]? = some (.cells #[.string a0_0, .int .i64 a0_1, .slice A0_2 l0_2.length c0_2] 24 (0, 0))))
    case atStart => exact ⟨0, rfl, ⟨by omega⟩, ⟨by omega⟩, ⟨fun j hj => absurd hj (by omega)⟩, HB, BK⟩
    case round =>
      clear hc1 hc2 HB BK
      obtain ⟨i, rfl, hle, hk, hall, HB, BK⟩ := hrel
      by_cases hlt : i < l0_2.length
      · have hc2 : wr.cell? ⟨w.heap.size, 2, none⟩ = some (.slice A0_2 l0_2.length c0_2) := (blk_cell BK.out 2).trans rfl
        obtain ⟨ad, e, hx0, hx1⟩ := at_T78 HR.out (i : Int) (by omega) (by omega)
        cases e
        rw [Int.toNat_natCast] at hx0 hx1
        have hrd : rd_T78 l0_2 (i : Int) = l0_2.getD i z78 := by unfold rd_T78; rw [Int.toNat_natCast]
        rw [hrd] at hx0 hx1
        clear hrd
        obtain ⟨x, hx⟩ : ∃ x, x = l0_2.getD i z78 := ⟨_, rfl⟩
        rw [← hx] at hx0 hx1
        have hG3 := Aside0.mk (show l0_2.length ≤ 6 by have := G3.out; omega)
        have hcap : i ≤ c0_2 := by have := HC.out; omega
        have hfo : fieldOk l0_2 i = (!((l0_2.take i).any (sameName x.f0)) && (nameB x.f0 && (decide (0 ≤ x.f1) && decide (x.f1 < 4)))) := by unfold fieldOk; rw [← hx]
        replace hfo := Aside0.mk hfo
        replace hx := Aside0.mk hx
        replace hx0 := (HB.out.cell (World.block_lt_of_cell? w _ hx0)).trans hx0
        replace hx1 := (HB.out.cell (World.block_lt_of_cell? w _ hx1)).trans hx1
        clear hc2
        have hc2 : (wr.alloc (.cells #[.string x.f0, .int .i64 x.f1] 78)).cell? ⟨w.heap.size, 2, none⟩ = some (.slice (some ad) l0_2.length c0_2) := (blk_cell (blk_alloc BK.out _) 2).trans rfl
        have BF := Aside0.mk (blk_new wr (.cells #[.string x.f0, .int .i64 x.f1] 78))
        have hlen : (l0_2.take i).length = i := by rw [List.length_take]; omega
        replace hlen := Aside0.mk hlen
        have hcall : ∀ W, Below w.heap.size w W → W.heap[wr.heap.size]? = some (.cells #[.string x.f0, .int .i64 x.f1] 78 (0, 0)) →
            Calls Try.prog 76 #[.slice (some ad) i c0_2, .func (.func 77) #[] #[.pointer (some ⟨wr.heap.size, 0, none⟩)]] W fun e w' => e = .returned (.bool ((l0_2.take i).any (sameName x.f0))) ∧ Below W.heap.size W w' := by
          intro W hW hbf
          have := containsField.calls (some ad) c0_2 (l0_2.take i) W (Kd.C_take (Kd.C_below HR.out hW) (by omega)) (by rw [hlen.out]; exact hcap) (by rw [hlen.out]; have := hG3.out; omega) x.f0 x.f1 wr.heap.size hbf
          rw [hlen.out] at this
          exact this
        replace hcall := Aside0.mk hcall
        replace HB := Aside0.mk (below_alloc HB.out (.cells #[.string x.f0, .int .i64 x.f1] 78))
        replace BK := Aside0.mk (blk_alloc BK.out (.cells #[.string x.f0, .int .i64 x.f1] 78))
        cases ht : (l0_2.take i).any (sameName x.f0) with
        | true =>
          have hfo3 := Aside0.mk (show fieldOk l0_2 i = false by rw [hfo.out, ht]; rfl)
          replace ht := Aside0.mk ht
          go_wp2_with (fail)
          refine (hcall.out _ HB.out BF.out).mono ?_
          rintro e w2 ⟨rfl, hb⟩
          rw [ht.out]
          replace HB := Aside0.mk (below_step HB.out hb)
          clear hb
          go_wp2
          go_ret
          have hr : B = false := by rw [hr2.out]; exact range_all_no hlt hfo3.out
          exact ⟨by rw [hr]; rfl, HB.out⟩
        | false =>
        have hfo2 := Aside0.mk (show fieldOk l0_2 i = (nameB x.f0 && (decide (0 ≤ x.f1) && decide (x.f1 < 4))) by rw [hfo.out, ht]; rfl)
        replace ht := Aside0.mk ht
        go_wp2_with (fail)
        refine (hcall.out _ HB.out BF.out).mono ?_
        rintro e w2 ⟨rfl, hb⟩
        rw [ht.out]
        replace HB := Aside0.mk (below_step HB.out hb)
        replace BF := Aside0.mk (blk_below BF.out hb)
        replace BK := Aside0.mk (blk_below BK.out hb)
        clear hb
        have hf0 : w2.cell? ⟨wr.heap.size, 0, none⟩ = some (.string x.f0) := (blk_cell BF.out 0).trans rfl
        cases hnm : nameB x.f0 with
        | false =>
          have hfo3 := Aside0.mk (show fieldOk l0_2 i = false by rw [hfo2.out, hnm]; rfl)
          replace hnm := Aside0.mk hnm
          go_wp2_with (fail)
          refine (schema_Name.calls x.f0 false _ (by unfold schema_Name.f; rw [hnm.out])).mono ?_
          rintro e w3 ⟨rfl, hb⟩
          replace HB := Aside0.mk (below_step HB.out hb)
          clear hb
          go_wp2
          go_ret
          have hr : B = false := by rw [hr2.out]; exact range_all_no hlt hfo3.out
          exact ⟨by rw [hr]; rfl, HB.out⟩
        | true =>
        replace hnm := Aside0.mk hnm
        by_cases k1 : x.f1 < 0
        · have e1 : decide (x.f1 < 0) = true := decide_eq_true k1
          have hfo3 := Aside0.mk (show fieldOk l0_2 i = false by rw [hfo2.out, decide_eq_false (p := 0 ≤ x.f1) (by omega)]; simp)
          clear k1
          go_wp2_with (fail)
          refine (schema_Name.calls x.f0 true _ (by unfold schema_Name.f; rw [hnm.out])).mono ?_
          rintro e w3 ⟨rfl, hb⟩
          have hf1 : w3.cell? ⟨wr.heap.size, 1, none⟩ = some (.int .i64 x.f1) := (blk_cell (blk_below BF.out hb) 1).trans rfl
          replace HB := Aside0.mk (below_step HB.out hb)
          clear hb
          go_wp2
          go_ret
          have hr : B = false := by rw [hr2.out]; exact range_all_no hlt hfo3.out
          exact ⟨by rw [hr]; rfl, HB.out⟩
        have e1 : decide (x.f1 < 0) = false := decide_eq_false k1
        by_cases k2 : 4 ≤ x.f1
        · have e2 : decide (4 ≤ x.f1) = true := decide_eq_true k2
          have hfo3 := Aside0.mk (show fieldOk l0_2 i = false by rw [hfo2.out, decide_eq_false (p := x.f1 < 4) (by omega)]; simp)
          clear k1 k2
          go_wp2_with (fail)
          refine (schema_Name.calls x.f0 true _ (by unfold schema_Name.f; rw [hnm.out])).mono ?_
          rintro e w3 ⟨rfl, hb⟩
          have hf1 : w3.cell? ⟨wr.heap.size, 1, none⟩ = some (.int .i64 x.f1) := (blk_cell (blk_below BF.out hb) 1).trans rfl
          replace HB := Aside0.mk (below_step HB.out hb)
          clear hb
          go_wp2
          go_ret
          have hr : B = false := by rw [hr2.out]; exact range_all_no hlt hfo3.out
          exact ⟨by rw [hr]; rfl, HB.out⟩
        have e2 : decide (4 ≤ x.f1) = false := decide_eq_false k2
        have hfo3 := Aside0.mk (show fieldOk l0_2 i = true by rw [hfo2.out, hnm.out, decide_eq_true (p := 0 ≤ x.f1) (by omega), decide_eq_true (p := x.f1 < 4) (by omega)]; rfl)
        clear k1 k2
        go_wp2_with (fail)
        refine (schema_Name.calls x.f0 true _ (by unfold schema_Name.f; rw [hnm.out])).mono ?_
        rintro e w3 ⟨rfl, hb⟩
        have hf1 : w3.cell? ⟨wr.heap.size, 1, none⟩ = some (.int .i64 x.f1) := (blk_cell (blk_below BF.out hb) 1).trans rfl
        replace HB := Aside0.mk (below_step HB.out hb)
        replace BK := Aside0.mk (blk_below BK.out hb)
        clear hb
        have hi6 : i < 6 := by have := hG3.out; omega
        go_wp2
        go_roundg (gk - 1)
        case measure => have := hk.out; have := hG3.out; omega
        case rel => exact ⟨i + 1, by go_num, ⟨hlt⟩, ⟨by have := hk.out; have := hG3.out; omega⟩, ⟨fun j hj => by
          rcases (by omega : j < i ∨ j = i) with h | h
          · exact hall.out j h
          · subst h; exact hfo3.out⟩, HB, BK⟩
      · go_wp2
        go_ret
        have hr : B = true := by rw [hr2.out]; exact range_all_yes (fun j hj => hall.out j (by omega))
        exact ⟨by rw [hr]; rfl, HB.out⟩
end Go.Proofs.Yteommchgnocgnaa.PE
