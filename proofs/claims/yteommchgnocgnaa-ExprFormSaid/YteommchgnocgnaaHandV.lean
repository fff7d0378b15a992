import Derived.Test.YteommchgnocgnaaHandU
namespace Go.Proofs.Yteommchgnocgnaa.PE
open Go.RowKit Go.Proofs.YteommchgnocgnaaW.PrintWords Go.Proofs.YteommchgnocgnaaW.PrintLast Go.Proofs.YteommchgnocgnaaW.PrintMore
set_option linter.unusedVariables false
set_option linter.unusedSimpArgs false

theorem keepS {W w1 : World} (hb : Below W.heap.size W w1) {a : Addr} {v : Value} (h : W.cell? a = some v) : w1.cell? a = some v := (hb.cell (World.block_lt_of_cell? W a h)).trans h
theorem Pile.vcell {W0 w : World} {g : Nat} {xs : List Thing} {vv : Value} {kd : Bool} (h : Pile W0 w g xs vv kd) : w.cell? ⟨g, 1, none⟩ = some vv := by
  obtain ⟨⟨vl, h1, _⟩, _, _, _⟩ := h
  exact (blk_cell h1 1).trans rfl
theorem Pile.kcell {W0 w : World} {g : Nat} {xs : List Thing} {vv : Value} {kd : Bool} (h : Pile W0 w g xs vv kd) : w.cell? ⟨g, 2, none⟩ = some (.bool kd) := by
  obtain ⟨⟨vl, h1, _⟩, _, _, _⟩ := h
  exact (blk_cell h1 2).trans rfl
theorem Pile.gt {W0 w : World} {g : Nat} {xs : List Thing} {vv : Value} {kd : Bool} (h : Pile W0 w g xs vv kd) : g < w.heap.size := Nat.lt_of_lt_of_le h.lt (keep_size h.keep)
theorem Pile.drewN {W0 w : World} {g : Nat} {xs : List Thing} {vv : Value} {kd : Bool} (h : Pile W0 w g xs vv kd) (n : Nat) : Pile W0 (w.drewN n) g xs vv kd := h.below (pw_below_drewN (Below.refl _ _) n)

theorem at38s {w : World} {ad : Addr} {n : Nat} {xs : List S38} (h : Kd.C k38 w (some ad) n xs) (i : Int) (h0 : 0 ≤ i) (h1 : i < n) : w.cell? (ad.add (i.toNat * 3)) = some (.int .i64 (rd_T38 xs i).f0) ∧ w.cell? ⟨(ad.add (i.toNat * 3)).block, (ad.add (i.toNat * 3)).off + 1, none⟩ = some (.int .i64 (rd_T38 xs i).f1) ∧ w.cell? ⟨(ad.add (i.toNat * 3)).block, (ad.add (i.toNat * 3)).off + 2, none⟩ = some (.string (rd_T38 xs i).f2) := by
  obtain ⟨ad', e, h⟩ := at_T38 h i h0 h1
  cases e
  exact h
set_option maxHeartbeats 8000000 in
set_option maxRecDepth 100000 in
theorem part_load (W0 : World) (g : Nat) (xs : List Thing) (A : Option Addr) (cv : Nat) (vs : List S38) (kd : Bool) (a k n : Int) (s : ByteArray) (w : World) (hp : Pile W0 w g xs (.slice A vs.length cv) kd) (hv : ∀ W, KeepBut W0 W g none → Kd.C k38 W A vs.length vs) (hl : xs.length < 1000) (h0 : 0 ≤ a) (ha : a < (vs.length : Int)) :
    Calls Try.prog 80 #[.pointer (some ⟨g, 0, none⟩), .agg #[.int .i64 1, .int .i64 a, .int .i64 k, .int .i64 n, .string s]] w fun e w' => e = .returned (.int .i64 0) ∧ Pile W0 w' g (xs ++ [thingOf (rd_T38 vs a).f0 (rd_T38 vs a).f1 (rd_T38 vs a).f2]) (.slice A vs.length cv) kd ∧ Stays w w' g := by
  have hu50 := Try.underlying50
  have hu82 := Try.underlying82
  have hu38 := Try.underlying38
  have hp1 := hp.below (below_alloc (Below.refl _ _) (.cells #[.int .i64 1, .int .i64 a, .int .i64 k, .int .i64 n, .string s] 50))
  have hc1 := hp1.vcell
  have hbx := blk_new w (.cells #[.int .i64 1, .int .i64 a, .int .i64 k, .int .i64 n, .string s] 50)
  have hv1 := hv _ hp1.keep
  obtain ⟨ad, e, hx0, hx1, hx2⟩ := at_T38 hv1 a h0 ha
  cases e
  have hne : w.heap.size ≠ g := by have := hp.gt; omega
  have f1 : decide ((vs.length : Int) ≤ a) = false := decide_eq_false (by omega)
  have HL := Aside0.mk hl
  have HP := Aside0.mk hp1
  have HV := Aside0.mk hv
  have HX := Aside0.mk hbx
  have HN := Aside0.mk hne
  have g0 := Aside0.mk h0
  have g1 := Aside0.mk ha
  have HS := Aside0.mk (Stays.below (g := g) (below_alloc (Below.refl w.heap.size w) (.cells #[.int .i64 1, .int .i64 a, .int .i64 k, .int .i64 n, .string s] 50)))
  clear hp hp1 hv hv1 hl hbx hne
  go_enter Try.func80, Try.ntmps80
  go_wp2_with (fail)
  go_quiet (fail)
  go_wp2_with (fail)
  obtain ⟨w2, hw2⟩ : ∃ w2, w2 = (w.alloc (.cells #[.int .i64 1, .int .i64 a, .int .i64 k, .int .i64 n, .string s] 50)).drewN nq := ⟨_, rfl⟩
  have HP2 := Aside0.mk (show Pile W0 w2 g xs (.slice (some ad) vs.length cv) kd by rw [hw2]; exact HP.out.drewN nq)
  have HX2 := Aside0.mk (show w2.heap[w.heap.size]? = some (.cells #[.int .i64 1, .int .i64 a, .int .i64 k, .int .i64 n, .string s] 50 (0, 0)) by rw [hw2]; exact blk_drewN HX.out nq)
  have HS2 := Aside0.mk (show Stays w w2 g by rw [hw2]; exact HS.out.trans (.below (pw_below_drewN (Below.refl _ _) nq)))
  rw [← hw2]
  clear hw2 hc1 hx0 hx1 hx2 HP HX HS
  obtain ⟨x, hx⟩ : ∃ x, x = rd_T38 vs a := ⟨_, rfl⟩
  have hcs : w2.cell? ⟨g, 1, none⟩ = some (.slice (some ad) vs.length cv) := HP2.out.vcell
  have hca : w2.cell? ⟨w.heap.size, 1, none⟩ = some (.int .i64 a) := (blk_cell HX2.out 1).trans rfl
  obtain ⟨hx0, hx1, hx2⟩ := at38s (HV.out _ HP2.out.keep) a g0.out g1.out
  rw [← hx] at hx0 hx1 hx2
  replace hx := Aside0.mk hx
  have p0 := eq_true g0.out
  have p1 := eq_true g1.out
  go_region_held3 (fun w' => w'.cell? ⟨g, 1, none⟩ = some (.slice (some ad) vs.length cv) ∧ w'.cell? ⟨w.heap.size, 1, none⟩ = some (.int .i64 a) ∧ w'.cell? (ad.add (a.toNat * 3)) = some (.int .i64 x.f0) ∧ w'.cell? ⟨(ad.add (a.toNat * 3)).block, (ad.add (a.toNat * 3)).off + 1, none⟩ = some (.int .i64 x.f1) ∧ w'.cell? ⟨(ad.add (a.toNat * 3)).block, (ad.add (a.toNat * 3)).off + 2, none⟩ = some (.string x.f2))
    (first
      | (exact ⟨hcs, hca, hx0, hx1, hx2⟩)
      | (exact ⟨hp4.vcell, (blk_cell (hs4.2 _ _ _ (by decide) HN.out HX3.out) 1).trans rfl, by rw [hx.out]; exact at38s (HV.out _ hp4.keep) a g0.out g1.out⟩)
      | (go_split_ands; exact ⟨keepS hb ‹_›, keepS hb ‹_›, keepS hb ‹_›, keepS hb ‹_›, keepS hb ‹_›⟩))
    (first
      | (go_at_call 104; refine (expr_of.calls _ _ _ _).mono ?_; rintro e w3 ⟨rfl, hb⟩; have HP3 := Aside0.mk ((HP2.out.below (below_drew (Below.refl _ _))).below hb); have HX3 := Aside0.mk (blk_below (blk_drew HX2.out) hb); have HS3 := Aside0.mk ((HS2.out.trans (.below (below_drew (Below.refl _ _)))).trans (.below hb)))
      | (go_at_call 103; refine (pile_lay.calls W0 g xs _ kd (thingOf x.f0 x.f1 x.f2) _ HP3.out HL.out).mono ?_; rintro e w4 ⟨rfl, hp4, hs4⟩))
  go_wp2
  go_ret
  rw [hx.out] at hp4
  exact ⟨rfl, hp4, HS3.out.trans hs4⟩
end Go.Proofs.Yteommchgnocgnaa.PE
