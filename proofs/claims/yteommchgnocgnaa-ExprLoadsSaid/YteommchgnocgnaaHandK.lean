import Derived.Test.YteommchgnocgnaaHandX
namespace Go.Proofs.Yteommchgnocgnaa.PE
open Go.RowKit Go.Proofs.YteommchgnocgnaaW.PrintWords Go.Proofs.YteommchgnocgnaaW.PrintLast Go.Proofs.YteommchgnocgnaaW.PrintMore
set_option linter.unusedVariables false
set_option linter.unusedSimpArgs false

/-- The least values of a schema's fields' kinds. -/
def zvals (l : List S78) : List S38 := l.map fun f => ⟨f.f1, 0, ⟨#[]⟩⟩
theorem zvals_snoc {l : List S78} {i : Nat} (h : i < l.length) : zvals (l.take (i + 1)) = zvals (l.take i) ++ [⟨(l.getD i z78).f1, 0, ⟨#[]⟩⟩] := by
  unfold zvals
  rw [List.take_succ_eq_append_getElem h, List.map_append, List.getD_eq_getElem?_getD, List.getElem?_eq_getElem h, Option.getD_some]; rfl
def kindE (name : ByteArray) (ver : Int) (fs : List S78) (l : List S50) : Int × Int :=
  if maySc name ver fs = true then (if mayE l = true then ((evalT (zvals fs) true l).1, (evalT (zvals fs) true l).2.2.2) else (0, 1)) else (0, 1)
def expr_Kind.f (a0_0 : ByteArray) (a0_1 : Int) (l0_2 : List S78) (l1 : List S50) : Option (Int × Int) := some (kindE a0_0 a0_1 l0_2 l1)
theorem maySc_len {name : ByteArray} {ver : Int} {fs : List S78} (h : maySc name ver fs = true) : fs.length ≤ 6 := by
  unfold maySc at h
  simp only [Bool.and_eq_true] at h
  exact of_decide_eq_true h.2.2.2.1
theorem k78_any : ∀ w w' x cs, k78.K w x cs → k78.K w' x cs := fun w w' x cs h => by rw [k78_open h]; exact k78_mk w' x

set_option maxHeartbeats 16000000 in
set_option maxRecDepth 100000 in
theorem expr_Kind.calls (a0_0 : ByteArray) (a0_1 : Int) (A0_2 : Option Addr) (c0_2 : Nat) (l0_2 : List S78) (A1 : Option Addr) (c1 : Nat) (l1 : List S50) (r1 : Int) (r2 : Int) (w : World) (hr0_2 : Kd.C k78 w A0_2 l0_2.length l0_2) (hc0_2 : l0_2.length ≤ c0_2) (hr1 : Kd.C k50 w A1 l1.length l1) (hc1 : l1.length ≤ c1) (h : expr_Kind.f a0_0 a0_1 l0_2 l1 = some (r1, r2)) :
    Calls Try.prog 17 #[.agg #[.string a0_0, .int .i64 a0_1, .slice A0_2 l0_2.length c0_2], .slice A1 l1.length c1] w fun e w' => e = .returned (.tuple #[.int .i64 r1, .int .i64 r2]) ∧ Below w.heap.size w w' := by
  have hu24 := Try.underlying24
  have hu38 := Try.underlying38
  have hu78 := Try.underlying78
  have hu82 := Try.underlying82
  have HE := Aside0.mk (Option.some.inj h)
  have HR0 := Aside0.mk hr0_2
  have HC0 := Aside0.mk hc0_2
  have HR1 := Aside0.mk hr1
  have HC1 := Aside0.mk hc1
  have HB := Aside0.mk (below_alloc (Below.refl w.heap.size w) (.cells #[.string a0_0, .int .i64 a0_1, .slice A0_2 l0_2.length c0_2] 24))
  have BE := Aside0.mk (blk_new w (.cells #[.string a0_0, .int .i64 a0_1, .slice A0_2 l0_2.length c0_2] 24))
  clear h hr0_2 hc0_2 hr1 hc1
  cases hv : maySc a0_0 a0_1 l0_2 with
  | false =>
    have hres : r1 = 0 ∧ r2 = 1 := by
      have h := HE.out
      unfold kindE at h
      rw [hv, if_neg (by decide)] at h
      simp only [Prod.mk.injEq] at h
      exact ⟨h.1.symm, h.2.symm⟩
    obtain ⟨rfl, rfl⟩ := hres
    replace hv := Aside0.mk hv
    go_enter Try.func17, Try.ntmps17
    go_wp2_with (fail)
    refine (schema_May.calls a0_0 a0_1 A0_2 c0_2 l0_2 false _ (Kd.C_below HR0.out HB.out) HC0.out (by unfold schema_May.f; rw [hv.out])).mono ?_
    rintro e w1 ⟨rfl, hb⟩
    replace HB := Aside0.mk (below_step HB.out hb)
    clear hb
    go_wp2
    go_ret2
    exact ⟨rfl, HB.out⟩
  | true =>
  cases hm : mayE l1 with
  | false =>
    have hres : r1 = 0 ∧ r2 = 1 := by
      have h := HE.out
      unfold kindE at h
      rw [hv, if_pos rfl, hm, if_neg (by decide)] at h
      simp only [Prod.mk.injEq] at h
      exact ⟨h.1.symm, h.2.symm⟩
    obtain ⟨rfl, rfl⟩ := hres
    replace hv := Aside0.mk hv
    replace hm := Aside0.mk hm
    go_enter Try.func17, Try.ntmps17
    go_wp2_with (fail)
    refine (schema_May.calls a0_0 a0_1 A0_2 c0_2 l0_2 true _ (Kd.C_below HR0.out HB.out) HC0.out (by unfold schema_May.f; rw [hv.out])).mono ?_
    rintro e w1 ⟨rfl, hb⟩
    replace HB := Aside0.mk (below_step HB.out hb)
    clear hb
    go_wp2_with (fail)
    refine (expr_may.calls A1 c1 l1 false _ (Kd.C_below HR1.out HB.out) HC1.out (by unfold expr_may.f; rw [hm.out])).mono ?_
    rintro e w2 ⟨rfl, hb⟩
    replace HB := Aside0.mk (below_step HB.out hb)
    clear hb
    go_wp2
    go_ret2
    exact ⟨rfl, HB.out⟩
  | true =>
  have hl6 := Aside0.mk (maySc_len hv)
  have HM := Aside0.mk (mayE_arg hm)
  have HX := Aside0.mk (show ((evalT (zvals l0_2) true l1).1, (evalT (zvals l0_2) true l1).2.2.2) = (r1, r2) by
    have h := HE.out
    unfold kindE at h
    rw [hv, if_pos rfl, hm, if_pos rfl] at h
    exact h)
  clear HE
  replace hv := Aside0.mk hv
  replace hm := Aside0.mk hm
  go_enter Try.func17, Try.ntmps17
  go_wp2_with (fail)
  refine (schema_May.calls a0_0 a0_1 A0_2 c0_2 l0_2 true _ (Kd.C_below HR0.out HB.out) HC0.out (by unfold schema_May.f; rw [hv.out])).mono ?_
  rintro e w1 ⟨rfl, hb⟩
  replace BE := Aside0.mk (blk_below BE.out hb)
  replace HB := Aside0.mk (below_step HB.out hb)
  clear hb
  go_wp2_with (fail)
  refine (expr_may.calls A1 c1 l1 true _ (Kd.C_below HR1.out HB.out) HC1.out (by unfold expr_may.f; rw [hm.out])).mono ?_
  rintro e w2 ⟨rfl, hb⟩
  replace BE := Aside0.mk (blk_alloc (blk_below BE.out hb) (.cells #[.slice none 0 0, .slice none 0 0, .bool true] 82))
  replace HB := Aside0.mk (below_step HB.out hb)
  have HGS := Aside0.mk (below_size HB.out)
  replace HB := Aside0.mk (below_alloc HB.out (.cells #[.slice none 0 0, .slice none 0 0, .bool true] 82))
  obtain ⟨gp, hgp⟩ : ∃ gp, gp = w2.heap.size := ⟨_, rfl⟩
  have BG := Aside0.mk (show (w2.alloc (.cells #[.slice none 0 0, .slice none 0 0, .bool true] 82)).heap[gp]? = some (.cells #[.slice none 0 0, .slice none 0 0, .bool true] 82 (0, 0)) by rw [hgp]; exact blk_new _ _)
  have HGL := Aside0.mk (show w.heap.size ≤ gp by rw [hgp]; exact HGS.out)
  have HGT := Aside0.mk (show gp < (w2.alloc (.cells #[.slice none 0 0, .slice none 0 0, .bool true] 82)).heap.size by rw [hgp]; simp)
  have hce2 : (w2.alloc (.cells #[.slice none 0 0, .slice none 0 0, .bool true] 82)).cell? ⟨w.heap.size, 2, none⟩ = some (.slice A0_2 l0_2.length c0_2) := (blk_cell BE.out 2).trans rfl
  clear hb HGS
  go_wp2_with (fail)
  rw [← hgp]
  clear hgp hce2
  go_loopg [24] 6 (fun kq v24 w' => ∃ (i : Nat) (Av : Option Addr) (cv : Nat), v24 = .int .i64 (i : Int) ∧ Aside0 (i ≤ l0_2.length) ∧ Aside0 (i + kq = 6) ∧ Aside0 (Below w.heap.size w w') ∧ Aside0 (w'.heap[gp]? = some (.cells #[.slice none 0 0, .slice Av i cv, .bool true] 82 (0, 0))) ∧ Aside0 (Kd.R k38 38 w' w.heap.size (fun k_ => k_ ≠ gp) (.slice Av i cv) (zvals (l0_2.take i))) ∧ Aside0 (gp < w'.heap.size) ∧ Aside0 (w'.heap[w.heap.size]? = some (.cells #[.string a0_0, .int .i64 a0_1, .slice A0_2 l0_2.length c0_2] 24 (0, 0))))
  case atStart => exact ⟨0, none, 0, rfl, ⟨by omega⟩, ⟨by omega⟩, HB, BG, ⟨Kd.R_nil _ _ _ _ _⟩, HGT, BE⟩
  case round =>
    clear HB BE BG HGT
    obtain ⟨i, Av, cv, rfl, hle, hk, HB, BG, HO, HGT, BE⟩ := hrel
    by_cases hlt : i < l0_2.length
    · obtain ⟨ad, e, hx0, hx1⟩ := at_T78 HR0.out (i : Int) (by omega) (by omega)
      cases e
      rw [Int.toNat_natCast] at hx0 hx1
      have hrd : rd_T78 l0_2 (i : Int) = l0_2.getD i z78 := by unfold rd_T78; rw [Int.toNat_natCast]
      rw [hrd] at hx0 hx1
      clear hrd
      have hsn := zvals_snoc hlt
      obtain ⟨x, hx⟩ : ∃ x, x = l0_2.getD i z78 := ⟨_, rfl⟩
      rw [← hx] at hx0 hx1 hsn
      clear hx
      obtain ⟨ys, hys⟩ : ∃ ys, ys = zvals (l0_2.take i) := ⟨_, rfl⟩
      have hyl : ys.length = i := by rw [hys]; unfold zvals; rw [List.length_map, List.length_take]; omega
      rw [← hys] at HO hsn
      replace hys := Aside0.mk hys
      have hi6 : i < 6 := by have := hl6.out; omega
      have HYL := Aside0.mk (show ys.length < 1000 by omega)
      have HYS := Aside0.mk (show (ys ++ [(⟨x.f1, 0, ⟨#[]⟩⟩ : S38)]).length = i + 1 by rw [List.length_append, hyl]; rfl)
      replace hsn := Aside0.mk hsn
      replace hyl := Aside0.mk hyl
      have hlt2 := Aside0.mk hlt
      replace hx0 := (HB.out.cell (World.block_lt_of_cell? w _ hx0)).trans hx0
      replace hx1 := (HB.out.cell (World.block_lt_of_cell? w _ hx1)).trans hx1
      go_wp2_with (fail)
      obtain ⟨w2, hw2⟩ : ∃ w2, w2 = wr.alloc (.cells #[.string x.f0, .int .i64 x.f1] 78) := ⟨_, rfl⟩
      have HB2 := Aside0.mk (show Below w.heap.size w w2 by rw [hw2]; exact below_alloc HB.out _)
      have BG2 := Aside0.mk (show w2.heap[gp]? = some (.cells #[.slice none 0 0, .slice Av i cv, .bool true] 82 (0, 0)) by rw [hw2]; exact blk_alloc BG.out _)
      have BE2 := Aside0.mk (show w2.heap[w.heap.size]? = some (.cells #[.string a0_0, .int .i64 a0_1, .slice (some ad) l0_2.length c0_2] 24 (0, 0)) by rw [hw2]; exact blk_alloc BE.out _)
      have BF2 := Aside0.mk (show w2.heap[wr.heap.size]? = some (.cells #[.string x.f0, .int .i64 x.f1] 78 (0, 0)) by rw [hw2]; exact blk_new _ _)
      have HO2 := Aside0.mk (show Kd.R k38 38 w2 w.heap.size (fun k_ => k_ ≠ gp) (.slice Av i cv) ys by rw [hw2]; exact Kd.R_alloc HO.out _)
      have HGP := Aside0.mk (blk_lt BG2.out)
      rw [← hw2]
      clear hw2 HB BG BE HO HGT hx0 hx1
      have hcv : w2.cell? ⟨gp, 1, none⟩ = some (.slice Av i cv) := (blk_cell BG2.out 1).trans rfl
      have hcf : w2.cell? ⟨wr.heap.size, 1, none⟩ = some (.int .i64 x.f1) := (blk_cell BF2.out 1).trans rfl
      refine start_ (n := 13) (S := fun w' => w'.cell? ⟨gp, 1, none⟩ = some (.slice Av i cv) ∧ w'.cell? ⟨wr.heap.size, 1, none⟩ = some (.int .i64 x.f1)) (ds := [12]) #[false, false, false, false, false, false, false, false, false, false, false, false, false] (by kernel_rfl) rfl rfl ⟨hcv, hcf⟩ (fun hHeld => ?_)
      refine pure_ (i := 0) (N := some 28) (v := ?_) (a' := ?_) #[true, false, false, false, false, false, false, false, false, false, false, false, false] rfl rfl (by kernel_rfl) (fun _ _ _ h => h) (Or.inl ⟨by rfl, ?_⟩) ?_ ?_
      rotate_left
      · intro w'
        go_simp
        with_reducible rfl
      rotate_left
      · simp only [Act.put, List.setIfInBounds_toArray, List.set_cons_zero, List.set_cons_succ, i64_w, i32_w]
        rfl
      refine pure_ (i := 1) (N := some 29) (v := ?_) (a' := ?_) #[true, true, false, false, false, false, false, false, false, false, false, false, false] rfl rfl (by kernel_rfl) (fun _ _ _ h => h) (Or.inl ⟨by rfl, ?_⟩) ?_ ?_
      rotate_left
      · intro w'
        go_simp
        with_reducible rfl
      rotate_left
      · simp only [Act.put, List.setIfInBounds_toArray, List.set_cons_zero, List.set_cons_succ, i64_w, i32_w]
        rfl
      refine pure_ (i := 2) (N := some 30) (v := ?_) (a' := ?_) #[true, true, true, false, false, false, false, false, false, false, false, false, false] rfl rfl (by kernel_rfl) (fun _ _ _ h => h) (Or.inl ⟨by rfl, ?_⟩) ?_ ?_
      rotate_left
      · intro w'
        go_simp
        with_reducible rfl
      rotate_left
      · simp only [Act.put, List.setIfInBounds_toArray, List.set_cons_zero, List.set_cons_succ, i64_w, i32_w]
        rfl
      refine pure_ (i := 3) (N := some 31) (v := ?_) (a' := ?_) #[true, true, true, true, false, false, false, false, false, false, false, false, false] rfl rfl (by kernel_rfl) (fun _ _ _ h => h) (Or.inl ⟨by rfl, ?_⟩) ?_ ?_
      rotate_left
      · intro w'
        go_simp
        with_reducible rfl
      rotate_left
      · simp only [Act.put, List.setIfInBounds_toArray, List.set_cons_zero, List.set_cons_succ, i64_w, i32_w]
        rfl
      refine pure_ (i := 5) (N := some 33) (v := ?_) (a' := ?_) #[true, true, true, true, false, true, false, false, false, false, false, false, false] rfl rfl (by kernel_rfl) (fun _ _ _ h => h) (Or.inl ⟨by rfl, ?_⟩) ?_ ?_
      rotate_left
      · intro w'
        go_simp
        with_reducible rfl
      rotate_left
      · simp only [Act.put, List.setIfInBounds_toArray, List.set_cons_zero, List.set_cons_succ, i64_w, i32_w]
        rfl
      refine take_ (i := 4) (N := some 32) (v := ?_) (a' := ?_) #[true, true, true, true, true, true, false, false, false, false, false, false, false] rfl rfl (by kernel_rfl) (fun _ _ _ h => h) (Or.inl ⟨by rfl, ?_⟩) hHeld ?_ ?_
      rotate_left
      · rintro w' ⟨s0, s1⟩
        go_simp
        with_reducible rfl
      rotate_left
      · simp only [Act.put, List.setIfInBounds_toArray, List.set_cons_zero, List.set_cons_succ, i64_w, i32_w]
        rfl
      refine take_ (i := 6) (N := some 34) (v := ?_) (a' := ?_) #[true, true, true, true, true, true, true, false, false, false, false, false, false] rfl rfl (by kernel_rfl) (fun _ _ _ h => h) (Or.inl ⟨by rfl, ?_⟩) hHeld ?_ ?_
      rotate_left
      · rintro w' ⟨s0, s1⟩
        go_simp
        with_reducible rfl
      rotate_left
      · simp only [Act.put, List.setIfInBounds_toArray, List.set_cons_zero, List.set_cons_succ, i64_w, i32_w]
        rfl
      refine pure_ (i := 7) (N := some 35) (v := ?_) (a' := ?_) #[true, true, true, true, true, true, true, true, false, false, false, false, false] rfl rfl (by kernel_rfl) (fun _ _ _ h => h) (Or.inl ⟨by rfl, ?_⟩) ?_ ?_
      rotate_left
      · intro w'
        go_simp
        with_reducible rfl
      rotate_left
      · simp only [Act.put, List.setIfInBounds_toArray, List.set_cons_zero, List.set_cons_succ, i64_w, i32_w]
        rfl
      refine one_ (i := 8) (N := some 36) #[true, true, true, true, true, true, true, true, true, false, false, false, false] rfl rfl (by kernel_rfl) (by decide) (fun K hK => ?_)
      refine value_ (w1 := ?_) (v := ?_) (by rfl) rfl ?_ ?_
      rotate_left 2
      · go_simp
        constructor
        · rfl
        · rfl
      refine hK.out _ _ ⟨(blk_cell (blk_alloc (w := w2) BG2.out _) 1).trans rfl, (blk_cell (blk_alloc (w := w2) BF2.out _) 1).trans rfl⟩ (fun hHeld => ?_)
      clear hK K
      refine norm_ (a' := ?_) ?_ ?_
      rotate_left
      · show Act.put _ (some 36) _ = _
        simp only [Act.put, List.setIfInBounds_toArray, List.set_cons_zero, List.set_cons_succ, i64_w, i32_w]
        rfl
      refine one_ (i := 9) (N := some 37) #[true, true, true, true, true, true, true, true, true, true, false, false, false] rfl rfl (by kernel_rfl) (by decide) (fun K hK => ?_)
      rw [show (w2.alloc (.cells #[.int .i64 x.f1, .int .i64 0, .string ⟨#[]⟩] 38)).drew = w2.drew.alloc (.cells #[.int .i64 x.f1, .int .i64 0, .string ⟨#[]⟩] 38) from rfl]
      refine Kd.R_append_step k38 (w0 := w) w.heap.size (by rfl) (.tmp 32) (.tmp 36) 25 38 (.agg #[(.int .i64 0), (.int .i64 0), (.string ⟨#[]⟩)]) 32 rfl Try.underlying25 info38 rfl (by decide) (by omega) (.slice Av i cv) ys (⟨x.f1, 0, ⟨#[]⟩⟩ : S38) [.int .i64 x.f1, .int .i64 0, .string ⟨#[]⟩] (fun k_ => k_ ≠ gp) (fun _ => False) rfl rfl ?aP (fun _ hk => hk.elim) ?aF ?aO ?aB ?aS ?aL ?_
      (case aP => exact k38_mkM _ _ _ (⟨x.f1, 0, ⟨#[]⟩⟩ : S38))
      (case aB => exact HB2.out.drew)
      (case aF => exact (fun k hk => by have h1 := HGP.out; have h2 : w2.heap.size ≤ k := hk; omega))
      (case aO => exact HO2.out)
      (case aS => exact below_size HB2.out.drew)
      (case aL => have := HYL.out; omega)
      intro v9 w9 ho hb hg hat
      obtain ⟨A9, c9, rfl⟩ := Kd.R_slice ho
      rw [HYS.out] at ho
      rw [HYS.out]
      have BG9 := Aside0.mk (blk_grown (w := w2.drew) BG2.out hg (Kd.R_away HO2.out (fun _ hk => hk)))
      have BF9 := Aside0.mk (blk_grown (w := w2.drew) BF2.out hg (Kd.R_ne HO2.out BF2.out (by decide)))
      have BE9 := Aside0.mk (blk_grown (w := w2.drew) BE2.out hg (Kd.R_ne HO2.out BE2.out (by decide)))
      have HB9 := Aside0.mk hb
      have HO9 := Aside0.mk ho
      clear ho hb hg hat
      have hf9 := blk_frozen BG9.out 1
      have hc9 : w9.cell? ⟨gp, 1, none⟩ = some (.slice Av i cv) := (blk_cell BG9.out 1).trans rfl
      refine hK.out _ _ ⟨(blk_cell BG9.out 1).trans rfl, (blk_cell BF9.out 1).trans rfl⟩ (fun hHeld => ?_)
      clear hK K
      refine norm_ (a' := ?_) ?_ ?_
      rotate_left
      · show Act.put _ (some 37) _ = _
        simp only [Act.put, List.setIfInBounds_toArray, List.set_cons_zero, List.set_cons_succ, i64_w, i32_w]
        rfl
      refine pure_ (i := 10) (N := some 38) (v := ?_) (a' := ?_) #[true, true, true, true, true, true, true, true, true, true, true, false, false] rfl rfl (by kernel_rfl) (fun _ _ _ h => h) (Or.inl ⟨by rfl, ?_⟩) ?_ ?_
      rotate_left
      · intro w'
        go_simp
        with_reducible rfl
      rotate_left
      · simp only [Act.put, List.setIfInBounds_toArray, List.set_cons_zero, List.set_cons_succ, i64_w, i32_w]
        rfl
      refine pure_ (i := 11) (N := some 39) (v := ?_) (a' := ?_) #[true, true, true, true, true, true, true, true, true, true, true, true, false] rfl rfl (by kernel_rfl) (fun _ _ _ h => h) (Or.inl ⟨by rfl, ?_⟩) ?_ ?_
      rotate_left
      · intro w'
        go_simp
        with_reducible rfl
      rotate_left
      · simp only [Act.put, List.setIfInBounds_toArray, List.set_cons_zero, List.set_cons_succ, i64_w, i32_w]
        rfl
      refine last_ (i := 12) (N := none) #[true, true, true, true, true, true, true, true, true, true, true, true, true] rfl rfl (by kernel_rfl) (by decide) (fun K hK => ?_)
      refine skip_ (w1 := ?_) (by rfl) rfl ?_ ?_
      rotate_left
      · go_simp
        rfl
      refine hK.out _ _ ?_
      clear hK K
      refine done_ (by kernel_rfl) ?_
      clear hcv hcf hc9 hf9
      go_wp2
      go_roundg (gk - 1)
      case measure => have := hk.out; omega
      case rel => exact ⟨i + 1, _, _, by go_num, ⟨by have := hlt2.out; omega⟩, ⟨by have := hk.out; omega⟩, ⟨HB9.out.setCell HGL.out _⟩, ⟨blk_put BG9.out 1 _ rfl⟩, ⟨by rw [hsn.out]; exact Kd.R_far HO9.out (fun _ h => h) _⟩, ⟨by have h1 := blk_lt BG9.out; simpa [World.setCell] using h1⟩, ⟨blk_far BE9.out (blk_ne BE9.out BG9.out (by decide)) _⟩⟩
    · have hz : zvals (l0_2.take i) = zvals l0_2 := by rw [List.take_of_length_le (by omega)]
      have hzl : (zvals l0_2).length = i := by unfold zvals; rw [List.length_map]; have := hle.out; omega
      have hO := HO.out
      rw [hz] at hO
      have hcall := expr_through.calls gp Av cv (zvals l0_2) true A1 c1 l1 wr (by rw [hzl]; exact BG.out)
        (fun W hk => C_keepW k38_any (by rw [hzl]; have h := (Kd.R_reads' hO).2.2; rw [hzl] at h; exact h) hk (fun ad e hn => by
          obtain ⟨g', cap, he, _, _, _⟩ := Kd.R_form hO hn
          subst e
          injection he with h1 h2 h3
          injection h1 with h1
          subst h1
          exact hO.1 g' rfl))
        (fun W hk => C_keepW k50_any (Kd.C_below HR1.out HB.out) hk (fun ad e hn => by have h1 := C_block HR1.out (by decide) ad e hn; have h2 := HGL.out; omega))
        HC1.out HM.out.1 HM.out.2
      obtain ⟨e1, e2, e3, e4, hev⟩ : ∃ e1 e2 e3 e4, evalT (zvals l0_2) true l1 = (e1, e2, e3, e4) := ⟨_, _, _, _, rfl⟩
      have hX := HX.out
      rw [hev] at hcall hX
      obtain ⟨rfl, rfl⟩ : e1 = r1 ∧ e4 = r2 := by simpa using hX
      replace hcall := Aside0.mk hcall
      clear hz hzl hO hev hX HO
      go_wp2_with (fail)
      refine (hcall.out).mono ?_
      rintro e w3 ⟨rfl, hb⟩
      have HB3 := Aside0.mk (HB.out.trans (hb.mono HGL.out))
      clear hb
      go_wp2
      go_ret2
      exact ⟨rfl, below_alloc HB3.out _⟩
end Go.Proofs.Yteommchgnocgnaa.PE
