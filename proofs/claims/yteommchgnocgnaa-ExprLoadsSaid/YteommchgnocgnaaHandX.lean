import Derived.Test.YteommchgnocgnaaHandZ
import Derived.Test.YteommchgnocgnaaHandF
import Derived.Test.YteommchgnocgnaaHandG
namespace Go.Proofs.Yteommchgnocgnaa.PE
open Go.RowKit Go.Proofs.YteommchgnocgnaaW.PrintWords Go.Proofs.YteommchgnocgnaaW.PrintLast Go.Proofs.YteommchgnocgnaaW.PrintMore
set_option linter.unusedVariables false
set_option linter.unusedSimpArgs false

theorem C_keepW {α : Type} {d : Kd α} (hK : ∀ w w' x cs, d.K w x cs → d.K w' x cs) {w W : World} {A : Option Addr} {n g : Nat} {xs : List α} (h : Kd.C d w A n xs) (hk : KeepBut w W g none) (hf : ∀ ad, A = some ad → 0 < n → ad.block ≠ g) : Kd.C d W A n xs :=
  ⟨h.1, h.2.1, fun hn => by
    obtain ⟨ad, e, hc⟩ := h.2.2 hn
    refine ⟨ad, e, fun j p hj => ?_⟩
    obtain ⟨c, hs, hr, hcell⟩ := hc j p hj
    exact ⟨c, hs, hK _ _ _ _ hr, fun i u hu => keep_cell hk (hcell i u hu) (by rw [add_block]; exact hf ad e hn)⟩⟩
theorem k38_any : ∀ w w' x cs, k38.K w x cs → k38.K w' x cs := fun w w' x cs h => by rw [k38_open h]; exact k38_mk w' x
theorem k50_any : ∀ w w' x cs, k50.K w x cs → k50.K w' x cs := fun w w' x cs h => by rw [k50_open h]; exact k50_mk w' x
theorem C_block {α : Type} {d : Kd α} {w : World} {A : Option Addr} {n : Nat} {xs : List α} (h : Kd.C d w A n xs) (hs : 0 < d.sz) : ∀ ad, A = some ad → 0 < n → ad.block < w.heap.size := fun ad e hn => by subst e; exact Kd.C_lt h hn hs
theorem mayE_arg {l : List S50} (h : mayE l = true) : l.length ≤ 12 ∧ ∀ x ∈ l, 0 ≤ x.f1 := by
  unfold mayE at h
  rw [Bool.and_eq_true] at h
  refine ⟨of_decide_eq_true h.1, fun x hx => ?_⟩
  have h2 : l.any opBad = false := by have := h.2; simpa using this
  rw [List.any_eq_false] at h2
  have h3 := h2 x hx
  unfold opBad opOk at h3
  simp only [Bool.not_eq_true, Bool.not_eq_false', Bool.and_eq_true, decide_eq_true_eq] at h3
  exact h3.2.2.1

def evalE (name : ByteArray) (at_ : Int) (vs : List S38) (l : List S50) : Int × Int × ByteArray × Int :=
  if mayE l = true then (if mayEv name at_ vs = true then evalT vs false l else (0, 0, ⟨#[]⟩, 1)) else (0, 0, ⟨#[]⟩, 1)
def expr_Eval.f (a0_0 : ByteArray) (a0_1 : Int) (l0_2 : List S38) (l1 : List S50) : Option (Int × Int × ByteArray × Int) := some (evalE a0_0 a0_1 l0_2 l1)

set_option maxHeartbeats 16000000 in
set_option maxRecDepth 100000 in
theorem expr_Eval.calls (a0_0 : ByteArray) (a0_1 : Int) (A0_2 : Option Addr) (c0_2 : Nat) (l0_2 : List S38) (A1 : Option Addr) (c1 : Nat) (l1 : List S50) (r1 : Int) (r2 : Int) (r3 : ByteArray) (r4 : Int) (w : World) (hr0_2 : Kd.C k38 w A0_2 l0_2.length l0_2) (hc0_2 : l0_2.length ≤ c0_2) (hr1 : Kd.C k50 w A1 l1.length l1) (hc1 : l1.length ≤ c1) (h : expr_Eval.f a0_0 a0_1 l0_2 l1 = some (r1, r2, r3, r4)) :
    Calls Try.prog 19 #[.agg #[.string a0_0, .int .i64 a0_1, .slice A0_2 l0_2.length c0_2], .slice A1 l1.length c1] w fun e w' => e = .returned (.tuple #[.agg #[.int .i64 r1, .int .i64 r2, .string r3], .int .i64 r4]) ∧ Below w.heap.size w w' := by
  have hu27 := Try.underlying27
  have hu38 := Try.underlying38
  have hu82 := Try.underlying82
  have HE := Aside0.mk (Option.some.inj h)
  have HR0 := Aside0.mk hr0_2
  have HC0 := Aside0.mk hc0_2
  have HR1 := Aside0.mk hr1
  have HC1 := Aside0.mk hc1
  have HB := Aside0.mk (below_alloc (below_alloc (Below.refl w.heap.size w) (.cells #[.string a0_0, .int .i64 a0_1, .slice A0_2 l0_2.length c0_2] 27)) (.cells #[.int .i64 0, .int .i64 0, .string ⟨#[]⟩] 38))
  have BE := Aside0.mk (blk_alloc (blk_new w (.cells #[.string a0_0, .int .i64 a0_1, .slice A0_2 l0_2.length c0_2] 27)) (.cells #[.int .i64 0, .int .i64 0, .string ⟨#[]⟩] 38))
  have hbr := blk_new (w.alloc (.cells #[.string a0_0, .int .i64 a0_1, .slice A0_2 l0_2.length c0_2] 27)) (.cells #[.int .i64 0, .int .i64 0, .string ⟨#[]⟩] 38)
  rw [show (w.alloc (.cells #[.string a0_0, .int .i64 a0_1, .slice A0_2 l0_2.length c0_2] 27)).heap.size = w.heap.size + 1 from by simp] at hbr
  have BR := Aside0.mk hbr
  clear h hr0_2 hc0_2 hr1 hc1 hbr
  cases hm : mayE l1 with
  | false =>
    have hres : r1 = 0 ∧ r2 = 0 ∧ r3 = ⟨#[]⟩ ∧ r4 = 1 := by
      have h := HE.out
      unfold evalE at h
      rw [hm, if_neg (by decide)] at h
      simp only [Prod.mk.injEq] at h
      exact ⟨h.1.symm, h.2.1.symm, h.2.2.1.symm, h.2.2.2.symm⟩
    obtain ⟨rfl, rfl, rfl, rfl⟩ := hres
    replace hm := Aside0.mk hm
    go_enter Try.func19, Try.ntmps19
    go_wp2_with (fail)
    refine (expr_may.calls A1 c1 l1 false _ (Kd.C_below HR1.out HB.out) HC1.out (by unfold expr_may.f; rw [hm.out])).mono ?_
    rintro e w1 ⟨rfl, hb⟩
    replace BR := Aside0.mk (blk_below BR.out hb)
    replace HB := Aside0.mk (below_step HB.out hb)
    clear hb
    have hcz0 : w1.cell? ⟨w.heap.size + 1, 0, none⟩ = some (.int .i64 0) := (blk_cell BR.out 0).trans rfl
    have hcz1 : w1.cell? ⟨w.heap.size + 1, 1, none⟩ = some (.int .i64 0) := (blk_cell BR.out 1).trans rfl
    have hcz2 : w1.cell? ⟨w.heap.size + 1, 2, none⟩ = some (.string ⟨#[]⟩) := (blk_cell BR.out 2).trans rfl
    have hfz0 := blk_frozen BR.out 0
    have hfz1 := blk_frozen BR.out 1
    have hfz2 := blk_frozen BR.out 2
    go_wp2
    refine bodyPost_ret (results_ct rfl _ _ (w.heap.size + 1) 38 #[.int .i64 0, .int .i64 0, .string ⟨#[]⟩] (0, 0) _ rfl (blk_put (blk_put (blk_put BR.out 0 _ rfl) 1 _ rfl) 2 _ rfl) Try.underlying38 rfl (by kernel_rfl)) rfl ?_
    exact ⟨rfl, ((HB.out.setCell (Nat.le_succ _) _).setCell (Nat.le_succ _) _).setCell (Nat.le_succ _) _⟩
  | true =>
  cases hv : mayEv a0_0 a0_1 l0_2 with
  | false =>
    have hres : r1 = 0 ∧ r2 = 0 ∧ r3 = ⟨#[]⟩ ∧ r4 = 1 := by
      have h := HE.out
      unfold evalE at h
      rw [hm, if_pos rfl, hv, if_neg (by decide)] at h
      simp only [Prod.mk.injEq] at h
      exact ⟨h.1.symm, h.2.1.symm, h.2.2.1.symm, h.2.2.2.symm⟩
    obtain ⟨rfl, rfl, rfl, rfl⟩ := hres
    replace hm := Aside0.mk hm
    replace hv := Aside0.mk hv
    go_enter Try.func19, Try.ntmps19
    go_wp2_with (fail)
    refine (expr_may.calls A1 c1 l1 true _ (Kd.C_below HR1.out HB.out) HC1.out (by unfold expr_may.f; rw [hm.out])).mono ?_
    rintro e w1 ⟨rfl, hb⟩
    replace BR := Aside0.mk (blk_below BR.out hb)
    replace BE := Aside0.mk (blk_below BE.out hb)
    replace HB := Aside0.mk (below_step HB.out hb)
    clear hb
    have hce0 : w1.cell? ⟨w.heap.size, 0, none⟩ = some (.string a0_0) := (blk_cell BE.out 0).trans rfl
    have hce1 : w1.cell? ⟨w.heap.size, 1, none⟩ = some (.int .i64 a0_1) := (blk_cell BE.out 1).trans rfl
    have hce2 : w1.cell? ⟨w.heap.size, 2, none⟩ = some (.slice A0_2 l0_2.length c0_2) := (blk_cell BE.out 2).trans rfl
    go_wp2_with (fail)
    refine (event_May.calls a0_0 a0_1 A0_2 c0_2 l0_2 false _ (Kd.C_below HR0.out HB.out) HC0.out (by unfold event_May.f; rw [hv.out])).mono ?_
    rintro e w2 ⟨rfl, hb⟩
    replace BR := Aside0.mk (blk_below BR.out hb)
    replace HB := Aside0.mk (below_step HB.out hb)
    clear hb hce0 hce1 hce2
    have hcz0 : w2.cell? ⟨w.heap.size + 1, 0, none⟩ = some (.int .i64 0) := (blk_cell BR.out 0).trans rfl
    have hcz1 : w2.cell? ⟨w.heap.size + 1, 1, none⟩ = some (.int .i64 0) := (blk_cell BR.out 1).trans rfl
    have hcz2 : w2.cell? ⟨w.heap.size + 1, 2, none⟩ = some (.string ⟨#[]⟩) := (blk_cell BR.out 2).trans rfl
    have hfz0 := blk_frozen BR.out 0
    have hfz1 := blk_frozen BR.out 1
    have hfz2 := blk_frozen BR.out 2
    go_wp2
    refine bodyPost_ret (results_ct rfl _ _ (w.heap.size + 1) 38 #[.int .i64 0, .int .i64 0, .string ⟨#[]⟩] (0, 0) _ rfl (blk_put (blk_put (blk_put BR.out 0 _ rfl) 1 _ rfl) 2 _ rfl) Try.underlying38 rfl (by kernel_rfl)) rfl ?_
    exact ⟨rfl, ((HB.out.setCell (Nat.le_succ _) _).setCell (Nat.le_succ _) _).setCell (Nat.le_succ _) _⟩
  | true =>
    have hres : evalT l0_2 false l1 = (r1, r2, r3, r4) := by
      have h := HE.out
      unfold evalE at h
      rw [hm, if_pos rfl, hv, if_pos rfl] at h
      exact h
    replace HE := Aside0.mk hres
    have hma := mayE_arg hm
    have HM := Aside0.mk hma
    replace hm := Aside0.mk hm
    replace hv := Aside0.mk hv
    clear hres hma
    go_enter Try.func19, Try.ntmps19
    go_wp2_with (fail)
    refine (expr_may.calls A1 c1 l1 true _ (Kd.C_below HR1.out HB.out) HC1.out (by unfold expr_may.f; rw [hm.out])).mono ?_
    rintro e w1 ⟨rfl, hb⟩
    replace BR := Aside0.mk (blk_below BR.out hb)
    replace BE := Aside0.mk (blk_below BE.out hb)
    replace HB := Aside0.mk (below_step HB.out hb)
    clear hb
    have hce0 : w1.cell? ⟨w.heap.size, 0, none⟩ = some (.string a0_0) := (blk_cell BE.out 0).trans rfl
    have hce1 : w1.cell? ⟨w.heap.size, 1, none⟩ = some (.int .i64 a0_1) := (blk_cell BE.out 1).trans rfl
    have hce2 : w1.cell? ⟨w.heap.size, 2, none⟩ = some (.slice A0_2 l0_2.length c0_2) := (blk_cell BE.out 2).trans rfl
    go_wp2_with (fail)
    refine (event_May.calls a0_0 a0_1 A0_2 c0_2 l0_2 true _ (Kd.C_below HR0.out HB.out) HC0.out (by unfold event_May.f; rw [hv.out])).mono ?_
    rintro e w2 ⟨rfl, hb⟩
    replace BR := Aside0.mk (blk_below BR.out hb)
    replace BE := Aside0.mk (blk_below BE.out hb)
    replace HB := Aside0.mk (below_step HB.out hb)
    clear hb hce0 hce1 hce2
    have hce2 : w2.cell? ⟨w.heap.size, 2, none⟩ = some (.slice A0_2 l0_2.length c0_2) := (blk_cell BE.out 2).trans rfl
    go_wp2_with (fail)
    have hsz := below_size HB.out
    have HB2 := Aside0.mk (below_alloc HB.out (.cells #[.slice none 0 0, .slice A0_2 l0_2.length c0_2, .bool false] 82))
    have hcall := expr_through.calls w2.heap.size A0_2 c0_2 l0_2 false A1 c1 l1 (w2.alloc (.cells #[.slice none 0 0, .slice A0_2 l0_2.length c0_2, .bool false] 82))
      (blk_new _ _)
      (fun W hk => C_keepW k38_any (Kd.C_below HR0.out HB2.out) hk (fun ad e hn => by have := C_block HR0.out (by decide) ad e hn; omega))
      (fun W hk => C_keepW k50_any (Kd.C_below HR1.out HB2.out) hk (fun ad e hn => by have := C_block HR1.out (by decide) ad e hn; omega))
      HC1.out HM.out.1 HM.out.2
    rw [HE.out] at hcall
    refine hcall.mono ?_
    rintro e w3 ⟨rfl, hb⟩
    have HB3 := Aside0.mk (HB2.out.trans (hb.mono hsz))
    have hlt : w.heap.size + 1 < w2.heap.size := blk_lt BR.out
    replace BR := Aside0.mk ((hb.block _ hlt).trans (blk_alloc BR.out _))
    clear hb hcall hce2 hlt
    have hcz0 : w3.cell? ⟨w.heap.size + 1, 0, none⟩ = some (.int .i64 0) := (blk_cell BR.out 0).trans rfl
    have hcz1 : w3.cell? ⟨w.heap.size + 1, 1, none⟩ = some (.int .i64 0) := (blk_cell BR.out 1).trans rfl
    have hcz2 : w3.cell? ⟨w.heap.size + 1, 2, none⟩ = some (.string ⟨#[]⟩) := (blk_cell BR.out 2).trans rfl
    have hfz0 := blk_frozen BR.out 0
    have hfz1 := blk_frozen BR.out 1
    have hfz2 := blk_frozen BR.out 2
    go_wp2
    refine bodyPost_ret (results_ct rfl _ _ (w.heap.size + 1) 38 #[.int .i64 r1, .int .i64 r2, .string r3] (0, 0) _ rfl (blk_put (blk_put (blk_put BR.out 0 _ rfl) 1 _ rfl) 2 _ rfl) Try.underlying38 rfl (by kernel_rfl)) rfl ?_
    exact ⟨rfl, ((HB3.out.setCell (Nat.le_succ _) _).setCell (Nat.le_succ _) _).setCell (Nat.le_succ _) _⟩
end Go.Proofs.Yteommchgnocgnaa.PE
