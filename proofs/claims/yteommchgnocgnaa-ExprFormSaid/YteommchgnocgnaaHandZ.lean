import Derived.Test.YteommchgnocgnaaHandY
namespace Go.Proofs.Yteommchgnocgnaa.PE
open Go.RowKit Go.Proofs.YteommchgnocgnaaW.PrintWords Go.Proofs.YteommchgnocgnaaW.PrintLast Go.Proofs.YteommchgnocgnaaW.PrintMore
set_option linter.unusedVariables false
set_option linter.unusedSimpArgs false

def throughL (vs : List S38) (kd : Bool) : List S50 → List Thing → Int × List Thing
  | [], xs => (0, xs)
  | x :: r, xs => if (partL vs kd xs x).1 = 0 then throughL vs kd r (partL vs kd xs x).2 else partL vs kd xs x
/-- What comes of all: kind, number, text; the error. -/
def evalT (vs : List S38) (kd : Bool) (l : List S50) : Int × Int × ByteArray × Int :=
  if (throughL vs kd l []).1 = 0 then
    (if (throughL vs kd l []).2.length = 1 then (tK ((throughL vs kd l []).2.getD 0 zT), tN ((throughL vs kd l []).2.getD 0 zT), tS ((throughL vs kd l []).2.getD 0 zT), 0) else (0, 0, ⟨#[]⟩, 2))
  else (0, 0, ⟨#[]⟩, (throughL vs kd l []).1)

set_option maxHeartbeats 16000000 in
set_option maxRecDepth 100000 in
theorem expr_through.calls (g : Nat) (A : Option Addr) (cv : Nat) (vs : List S38) (kd : Bool) (A1 : Option Addr) (c1 : Nat) (l : List S50) (w : World)
    (hb : w.heap[g]? = some (.cells #[.slice none 0 0, .slice A vs.length cv, .bool kd] 82 (0, 0)))
    (hv : ∀ W, KeepBut w W g none → Kd.C k38 W A vs.length vs) (hr : ∀ W, KeepBut w W g none → Kd.C k50 W A1 l.length l) (hc1 : l.length ≤ c1) (hl : l.length ≤ 12) (h0 : ∀ x ∈ l, 0 ≤ x.f1) :
    Calls Try.prog 42 #[.pointer (some ⟨g, 0, none⟩), .slice A1 l.length c1] w fun e w' => e = .returned (.tuple #[.agg #[.int .i64 (evalT vs kd l).1, .int .i64 (evalT vs kd l).2.1, .string (evalT vs kd l).2.2.1], .int .i64 (evalT vs kd l).2.2.2]) ∧ Below g w w' := by
  have hu38 := Try.underlying38
  have hu50 := Try.underlying50
  have hu82 := Try.underlying82
  have m1 := m_num
  have m2 := m_tru
  have m3 := m_oth
  have hgw := blk_lt hb
  have HP0 : Aside0 (Pile w (w.alloc (.cells #[.int .i64 0, .int .i64 0, .string ⟨#[]⟩] 38)) g [] (.slice A vs.length cv) kd) :=
    ⟨(⟨⟨_, hb, Kd.R_nil _ _ _ _ _⟩, KeepBut.refl _ _ _, hgw, Below.refl _ _⟩ : Pile w w g [] (.slice A vs.length cv) kd).below (below_alloc (Below.refl _ _) _)⟩
  have HB0 := Aside0.mk (blk_new w (.cells #[.int .i64 0, .int .i64 0, .string ⟨#[]⟩] 38))
  have HN := Aside0.mk (show w.heap.size ≠ g by omega)
  have HG := Aside0.mk hgw
  have HV := Aside0.mk hv
  have HR := Aside0.mk hr
  have HC := Aside0.mk hc1
  have HL := Aside0.mk hl
  have H0 := Aside0.mk h0
  obtain ⟨r1, r2, r3, r4, hres⟩ : ∃ r1 r2 r3 r4, evalT vs kd l = (r1, r2, r3, r4) := ⟨_, _, _, _, rfl⟩
  rw [hres]
  have HE := Aside0.mk hres
  clear hb hv hr hc1 hl h0 hgw hres
  go_enter Try.func42, Try.ntmps42
  go_wp2
  go_loopg [11] l.length (fun kq v11 w' => ∃ (i : Nat) (xs : List Thing), v11 = .int .i64 (i : Int) ∧ Aside0 (i + kq = l.length) ∧ Aside0 (throughL vs kd (l.drop i) xs = throughL vs kd l []) ∧ Aside0 (∀ t ∈ xs, okT t) ∧ Aside0 (xs.length ≤ i) ∧ Aside0 (Pile w w' g xs (.slice A vs.length cv) kd) ∧ Aside0 (w'.heap[w.heap.size]? = some (.cells #[.int .i64 0, .int .i64 0, .string ⟨#[]⟩] 38 (0, 0))))
  case atStart => exact ⟨0, [], rfl, ⟨by omega⟩, ⟨by rw [List.drop_zero]⟩, ⟨fun t ht => absurd ht (by simp)⟩, ⟨Nat.le_refl _⟩, HP0, HB0⟩
  case round =>
    clear HP0 HB0
    obtain ⟨i, xs, rfl, hk, hth, hok, hxl, HP, HB⟩ := hrel
    by_cases hlt : i < l.length
    · have hl12 : i < 12 := by have := HL.out; omega
      obtain ⟨ad, e, hx0, hx1, hx2, hx3, hx4⟩ := at_T50 (HR.out _ HP.out.keep) (i : Int) (by omega) (by omega)
      cases e
      rw [Int.toNat_natCast] at hx0 hx1 hx2 hx3 hx4
      have hrd : rd_T50 l (i : Int) = l.getD i z50 := by unfold rd_T50; rw [Int.toNat_natCast]
      rw [hrd] at hx0 hx1 hx2 hx3 hx4
      clear hrd
      have hdrop : l.drop i = l.getD i z50 :: l.drop (i + 1) := by
        rw [List.drop_eq_getElem_cons hlt, List.getD_eq_getElem?_getD, List.getElem?_eq_getElem hlt, Option.getD_some]
      have hmem : l.getD i z50 ∈ l := by
        rw [List.getD_eq_getElem?_getD, List.getElem?_eq_getElem hlt, Option.getD_some]; exact List.getElem_mem hlt
      obtain ⟨x, hx⟩ : ∃ x, x = l.getD i z50 := ⟨_, rfl⟩
      rw [← hx] at hx0 hx1 hx2 hx3 hx4 hdrop hmem
      have hf1 := H0.out x hmem
      have hth2 := hth.out
      rw [hdrop] at hth2
      have HT := Aside0.mk hth2
      have hc := expr_part.calls w g xs (A) cv vs kd x (wr.alloc (.cells #[.int .i64 x.f0, .int .i64 x.f1, .int .i64 x.f2.f0, .int .i64 x.f2.f1, .string x.f2.f2] 50)) (HP.out.below (below_alloc (Below.refl _ _) _)) HV.out hok.out (by have := hxl.out; omega) hf1
      obtain ⟨e1, ys, hpl⟩ : ∃ e1 ys, partL vs kd xs x = (e1, ys) := ⟨_, _, rfl⟩
      have hyo := partL_ok (vs := vs) (kd := kd) (x := x) hok.out
      have hyl := partL_len (vs := vs) (kd := kd) (xs := xs) (x := x)
      rw [hpl] at hc hyo hyl
      have hth3 := HT.out
      rw [throughL, hpl] at hth3
      replace HT := Aside0.mk hth3
      replace hc := Aside0.mk hc
      replace hyo := Aside0.mk hyo
      replace hyl := Aside0.mk (show ys.length ≤ i + 1 from Nat.le_trans hyl (by have := hxl.out; omega))
      have HB2 := Aside0.mk (blk_alloc HB.out (.cells #[.int .i64 x.f0, .int .i64 x.f1, .int .i64 x.f2.f0, .int .i64 x.f2.f1, .string x.f2.f2] 50))
      clear hdrop hmem hf1 hth2 hth3 hpl hx hth hxl HP HB
      by_cases hz : e1 = 0
      · subst hz
        replace HT := Aside0.mk (show throughL vs kd (l.drop (i + 1)) ys = throughL vs kd l [] from (if_pos rfl).symm.trans HT.out)
        go_wp2_with (fail)
        refine (hc.out).mono ?_
        rintro e w2 ⟨rfl, hp2, hs2⟩
        have HP2 := Aside0.mk hp2
        have HB3 := Aside0.mk (hs2.2 _ _ _ (by decide) HN.out HB2.out)
        clear hp2 hs2
        go_wp2
        go_roundg (gk - 1)
        case measure => have := hk.out; omega
        case rel => exact ⟨i + 1, ys, by go_num, ⟨by have := hk.out; omega⟩, HT, hyo, hyl, HP2, HB3⟩
      · replace HT := Aside0.mk (show (e1, ys) = throughL vs kd l [] from (if_neg hz).symm.trans HT.out)
        have hres : r1 = 0 ∧ r2 = 0 ∧ r3 = ⟨#[]⟩ ∧ r4 = e1 := by
          have h := HE.out
          unfold evalT at h
          rw [← HT.out, if_neg hz] at h
          simp only [Prod.mk.injEq] at h
          exact ⟨h.1.symm, h.2.1.symm, h.2.2.1.symm, h.2.2.2.symm⟩
        obtain ⟨rfl, rfl, rfl, rfl⟩ := hres
        have z0 : (r4 != 0) = true := bne_iff_ne.mpr hz
        have z1 : (r4 == 0) = false := beq_eq_false_iff_ne.mpr hz
        clear hz
        go_wp2_with (fail)
        refine (hc.out).mono ?_
        rintro e w2 ⟨rfl, hp2, hs2⟩
        have HP2 := Aside0.mk hp2
        have HB3 := Aside0.mk (hs2.2 _ _ _ (by decide) HN.out HB2.out)
        clear hp2 hs2
        have hcz0 : w2.cell? ⟨w.heap.size, 0, none⟩ = some (.int .i64 0) := (blk_cell HB3.out 0).trans rfl
        have hcz1 : w2.cell? ⟨w.heap.size, 1, none⟩ = some (.int .i64 0) := (blk_cell HB3.out 1).trans rfl
        have hcz2 : w2.cell? ⟨w.heap.size, 2, none⟩ = some (.string ⟨#[]⟩) := (blk_cell HB3.out 2).trans rfl
        have hfz0 := blk_frozen HB3.out 0
        have hfz1 := blk_frozen HB3.out 1
        have hfz2 := blk_frozen HB3.out 2
        go_wp2
        refine bodyPost_ret (results_ct rfl _ _ w.heap.size 38 #[.int .i64 0, .int .i64 0, .string ⟨#[]⟩] (0, 0) _ rfl (blk_put (blk_put (blk_put HB3.out 0 _ rfl) 1 _ rfl) 2 _ rfl) Try.underlying38 rfl (by kernel_rfl)) rfl ?_
        exact ⟨rfl, ((HP2.out.bel.setCell (Nat.le_of_lt HG.out) _).setCell (Nat.le_of_lt HG.out) _).setCell (Nat.le_of_lt HG.out) _⟩
    · have hth2 := Aside0.mk (show (0, xs) = throughL vs kd l [] by
        have h := hth.out
        rw [List.drop_eq_nil_of_le (by omega)] at h
        exact h)
      obtain ⟨vl, hbl, hrl⟩ := HP.out.row
      by_cases h1 : xs.length = 1
      · obtain ⟨gl, cap, rfl, hg1, hg2, -⟩ := Kd.R_form hrl (by omega)
        have hcl : wr.cell? ⟨g, 0, none⟩ = some (.slice (some ⟨gl, 0, none⟩) xs.length cap) := (blk_cell hbl 0).trans rfl
        rw [h1] at hcl
        have hct := atT (Kd.R_reads' hrl).2.2 0 (by omega)
        have hres : r1 = tK (xs.getD 0 zT) ∧ r2 = tN (xs.getD 0 zT) ∧ r3 = tS (xs.getD 0 zT) ∧ r4 = 0 := by
          have h := HE.out
          unfold evalT at h
          rw [← hth2.out, if_pos rfl, if_pos h1] at h
          simp only [Prod.mk.injEq] at h
          exact ⟨h.1.symm, h.2.1.symm, h.2.2.1.symm, h.2.2.2.symm⟩
        obtain ⟨t, ht⟩ : ∃ t, t = xs.getD 0 zT := ⟨_, rfl⟩
        rw [← ht] at hct hres
        clear hbl hrl hg1 hg2 ht h1
        cases t with
        | num n =>
          obtain ⟨rfl, rfl, rfl, rfl⟩ := hres
          unfold thingV at hct
          go_wp2_with (fail)
          refine (num_value.calls _ _).mono ?_
          rintro e w2 ⟨rfl, hb2⟩
          have HBX := Aside0.mk (blk_below HB.out hb2)
          have HE2 := Aside0.mk ((HP.out.below hb2).bel)
          clear hb2
          have hcz0 : w2.cell? ⟨w.heap.size, 0, none⟩ = some (.int .i64 0) := (blk_cell HBX.out 0).trans rfl
          have hcz1 : w2.cell? ⟨w.heap.size, 1, none⟩ = some (.int .i64 0) := (blk_cell HBX.out 1).trans rfl
          have hcz2 : w2.cell? ⟨w.heap.size, 2, none⟩ = some (.string ⟨#[]⟩) := (blk_cell HBX.out 2).trans rfl
          have hfz0 := blk_frozen HBX.out 0
          have hfz1 := blk_frozen HBX.out 1
          have hfz2 := blk_frozen HBX.out 2
          go_wp2
          refine bodyPost_ret (results_ct rfl _ _ w.heap.size 38 #[.int .i64 0, .int .i64 r2, .string ⟨#[]⟩] (0, 0) _ rfl (blk_put (blk_put (blk_put HBX.out 0 _ rfl) 1 _ rfl) 2 _ rfl) Try.underlying38 rfl (by kernel_rfl)) rfl ?_
          exact ⟨rfl, ((HE2.out.setCell (Nat.le_of_lt HG.out) _).setCell (Nat.le_of_lt HG.out) _).setCell (Nat.le_of_lt HG.out) _⟩
        | tru b =>
          obtain ⟨rfl, rfl, rfl, rfl⟩ := hres
          unfold thingV at hct
          go_wp2_with (fail)
          refine (tru_value.calls b _).mono ?_
          rintro e w2 ⟨rfl, hb2⟩
          have HBX := Aside0.mk (blk_below HB.out hb2)
          have HE2 := Aside0.mk ((HP.out.below hb2).bel)
          clear hb2
          have hcz0 : w2.cell? ⟨w.heap.size, 0, none⟩ = some (.int .i64 0) := (blk_cell HBX.out 0).trans rfl
          have hcz1 : w2.cell? ⟨w.heap.size, 1, none⟩ = some (.int .i64 0) := (blk_cell HBX.out 1).trans rfl
          have hcz2 : w2.cell? ⟨w.heap.size, 2, none⟩ = some (.string ⟨#[]⟩) := (blk_cell HBX.out 2).trans rfl
          have hfz0 := blk_frozen HBX.out 0
          have hfz1 := blk_frozen HBX.out 1
          have hfz2 := blk_frozen HBX.out 2
          go_wp2
          refine bodyPost_ret (results_ct rfl _ _ w.heap.size 38 #[.int .i64 1, .int .i64 (b2i b), .string ⟨#[]⟩] (0, 0) _ rfl (blk_put (blk_put (blk_put HBX.out 0 _ rfl) 1 _ rfl) 2 _ rfl) Try.underlying38 rfl (by kernel_rfl)) rfl ?_
          exact ⟨rfl, ((HE2.out.setCell (Nat.le_of_lt HG.out) _).setCell (Nat.le_of_lt HG.out) _).setCell (Nat.le_of_lt HG.out) _⟩
        | oth k n s =>
          obtain ⟨rfl, rfl, rfl, rfl⟩ := hres
          unfold thingV at hct
          go_wp2_with (fail)
          refine (oth_value.calls _ _ _ _).mono ?_
          rintro e w2 ⟨rfl, hb2⟩
          have HBX := Aside0.mk (blk_below HB.out hb2)
          have HE2 := Aside0.mk ((HP.out.below hb2).bel)
          clear hb2
          have hcz0 : w2.cell? ⟨w.heap.size, 0, none⟩ = some (.int .i64 0) := (blk_cell HBX.out 0).trans rfl
          have hcz1 : w2.cell? ⟨w.heap.size, 1, none⟩ = some (.int .i64 0) := (blk_cell HBX.out 1).trans rfl
          have hcz2 : w2.cell? ⟨w.heap.size, 2, none⟩ = some (.string ⟨#[]⟩) := (blk_cell HBX.out 2).trans rfl
          have hfz0 := blk_frozen HBX.out 0
          have hfz1 := blk_frozen HBX.out 1
          have hfz2 := blk_frozen HBX.out 2
          go_wp2
          refine bodyPost_ret (results_ct rfl _ _ w.heap.size 38 #[.int .i64 r1, .int .i64 r2, .string r3] (0, 0) _ rfl (blk_put (blk_put (blk_put HBX.out 0 _ rfl) 1 _ rfl) 2 _ rfl) Try.underlying38 rfl (by kernel_rfl)) rfl ?_
          exact ⟨rfl, ((HE2.out.setCell (Nat.le_of_lt HG.out) _).setCell (Nat.le_of_lt HG.out) _).setCell (Nat.le_of_lt HG.out) _⟩
      · obtain ⟨A', c', rfl⟩ := Kd.R_slice hrl
        have hcl : wr.cell? ⟨g, 0, none⟩ = some (.slice A' xs.length c') := (blk_cell hbl 0).trans rfl
        have hres : r1 = 0 ∧ r2 = 0 ∧ r3 = ⟨#[]⟩ ∧ r4 = 2 := by
          have h := HE.out
          unfold evalT at h
          rw [← hth2.out, if_pos rfl, if_neg h1] at h
          simp only [Prod.mk.injEq] at h
          exact ⟨h.1.symm, h.2.1.symm, h.2.2.1.symm, h.2.2.2.symm⟩
        obtain ⟨rfl, rfl, rfl, rfl⟩ := hres
        have z0 : ((xs.length : Int) != 1) = true := bne_iff_ne.mpr (by omega)
        have z1 : ((xs.length : Int) == 1) = false := beq_eq_false_iff_ne.mpr (by omega)
        have z2 : (xs.length == 1) = false := beq_eq_false_iff_ne.mpr h1
        have z3 : (xs.length != 1) = true := bne_iff_ne.mpr h1
        clear hbl hrl h1
        have HBX := HB
        have hcz0 : wr.cell? ⟨w.heap.size, 0, none⟩ = some (.int .i64 0) := (blk_cell HBX.out 0).trans rfl
        have hcz1 : wr.cell? ⟨w.heap.size, 1, none⟩ = some (.int .i64 0) := (blk_cell HBX.out 1).trans rfl
        have hcz2 : wr.cell? ⟨w.heap.size, 2, none⟩ = some (.string ⟨#[]⟩) := (blk_cell HBX.out 2).trans rfl
        have hfz0 := blk_frozen HBX.out 0
        have hfz1 := blk_frozen HBX.out 1
        have hfz2 := blk_frozen HBX.out 2
        go_wp2
        refine bodyPost_ret (results_ct rfl _ _ w.heap.size 38 #[.int .i64 0, .int .i64 0, .string ⟨#[]⟩] (0, 0) _ rfl (blk_put (blk_put (blk_put HBX.out 0 _ rfl) 1 _ rfl) 2 _ rfl) Try.underlying38 rfl (by kernel_rfl)) rfl ?_
        exact ⟨rfl, ((HP.out.bel.setCell (Nat.le_of_lt HG.out) _).setCell (Nat.le_of_lt HG.out) _).setCell (Nat.le_of_lt HG.out) _⟩
end Go.Proofs.Yteommchgnocgnaa.PE
