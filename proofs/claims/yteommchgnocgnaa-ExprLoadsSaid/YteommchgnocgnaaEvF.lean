/- Arguments opened to rows, plain laws of expressions, and the laws' bounds; joined of five texts. -/
import Derived.Test.YteommchgnocgnaaPE0
import Derived.Lib.SmallJoins
import Derived.ChangeSame
import Derived.WalkKit
import Derived.Test.YteommchgnocgnaaHandX
namespace Go.Proofs.Yteommchgnocgnaa.PE
section
open Go.RowKit Go.Proofs.YteommchgnocgnaaW.PrintWords Go.Proofs.YteommchgnocgnaaW.PrintLast Go.Proofs.YteommchgnocgnaaW.PrintMore
open Go.ChangeShapes Go.WideShapes Go.Deep Go.Joins
set_option linter.unusedVariables false
set_option linter.unusedSimpArgs false
set_option maxRecDepth 100000

instance : Inhabited S38 := ⟨z38⟩
instance : Inhabited S50 := ⟨z50⟩
instance : Inhabited S78 := ⟨z78⟩
abbrev WFi (n : Int) : Prop := (Lit.int .i64 n).wf = true
def good38 (p : S38) : Prop := WFi p.f0 ∧ WFi p.f1 ∧ p.f2.size ≤ maxLen
def good50 (p : S50) : Prop := WFi p.f0 ∧ WFi p.f1 ∧ good38 p.f2
def good78 (p : S78) : Prop := p.f0.size ≤ maxLen ∧ WFi p.f1
section
variable {H : Type} {enc : TypeId × Value → H} {w : World} {base : Nat} {spare : Nat → Bool} {held : Bool}

theorem cells_T38 {n : Nat} {cs : List Value} {y : DataW H × List MemPlace} (h : DataW.trod enc Try.prog w base spare held n 38 cs = some y) :
    ∃ p : S38, cs = [.int .i64 p.f0, .int .i64 p.f1, .string p.f2] ∧ good38 p := by
  obtain ⟨xs, m, _, _, hcl, hxl, hf⟩ := DataW.trod_struct Try.underlying38 h
  have hc3 : cs.length = 3 := hcl.trans (by kernel_rfl)
  match cs, hc3 with
  | [c0, c1, c2], _ =>
    match xs, hxl with
    | [x0, x1, x2], _ =>
      have h0 : DataW.trod enc Try.prog w base spare held m 3 ((List.drop 0 [c0, c1, c2]).take (Try.prog.cellsOf 3)) = some x0 := hf 0 _ rfl
      have h1 : DataW.trod enc Try.prog w base spare held m 3 ((List.drop 1 [c0, c1, c2]).take (Try.prog.cellsOf 3)) = some x1 := hf 1 _ rfl
      have h2 : DataW.trod enc Try.prog w base spare held m 9 ((List.drop 2 [c0, c1, c2]).take (Try.prog.cellsOf 9)) = some x2 := hf 2 _ rfl
      rw [show Try.prog.cellsOf 3 = 1 from by kernel_rfl] at h0 h1
      rw [show Try.prog.cellsOf 9 = 1 from by kernel_rfl] at h2
      obtain ⟨a, e0, _, w0⟩ := DataW.trod_int Try.underlying3 h0
      obtain ⟨b, e1, _, w1⟩ := DataW.trod_int Try.underlying3 h1
      obtain ⟨s, e2, _, w2⟩ := DataW.trod_string Try.underlying9 h2
      have e0' : c0 = .int .i64 a := by simpa using e0
      have e1' : c1 = .int .i64 b := by simpa using e1
      have e2' : c2 = .string s := by simpa using e2
      exact ⟨⟨a, b, s⟩, by rw [e0', e1', e2'], w0, w1, w2⟩

theorem cells_T78 {n : Nat} {cs : List Value} {y : DataW H × List MemPlace} (h : DataW.trod enc Try.prog w base spare held n 78 cs = some y) :
    ∃ p : S78, cs = [.string p.f0, .int .i64 p.f1] ∧ good78 p := by
  obtain ⟨xs, m, _, _, hcl, hxl, hf⟩ := DataW.trod_struct Try.underlying78 h
  have hc3 : cs.length = 2 := hcl.trans (by kernel_rfl)
  match cs, hc3 with
  | [c0, c1], _ =>
    match xs, hxl with
    | [x0, x1], _ =>
      have h0 : DataW.trod enc Try.prog w base spare held m 9 ((List.drop 0 [c0, c1]).take (Try.prog.cellsOf 9)) = some x0 := hf 0 _ rfl
      have h1 : DataW.trod enc Try.prog w base spare held m 3 ((List.drop 1 [c0, c1]).take (Try.prog.cellsOf 3)) = some x1 := hf 1 _ rfl
      rw [show Try.prog.cellsOf 9 = 1 from by kernel_rfl] at h0
      rw [show Try.prog.cellsOf 3 = 1 from by kernel_rfl] at h1
      obtain ⟨s, e0, _, w0⟩ := DataW.trod_string Try.underlying9 h0
      obtain ⟨b, e1, _, w1⟩ := DataW.trod_int Try.underlying3 h1
      have e0' : c0 = .string s := by simpa using e0
      have e1' : c1 = .int .i64 b := by simpa using e1
      exact ⟨⟨s, b⟩, by rw [e0', e1'], w0, w1⟩

theorem cells_T50 {n : Nat} {cs : List Value} {y : DataW H × List MemPlace} (h : DataW.trod enc Try.prog w base spare held n 50 cs = some y) :
    ∃ p : S50, cs = [.int .i64 p.f0, .int .i64 p.f1, .int .i64 p.f2.f0, .int .i64 p.f2.f1, .string p.f2.f2] ∧ good50 p := by
  obtain ⟨xs, m, _, _, hcl, hxl, hf⟩ := DataW.trod_struct Try.underlying50 h
  have hc3 : cs.length = 5 := hcl.trans (by kernel_rfl)
  match cs, hc3 with
  | [c0, c1, c2, c3, c4], _ =>
    match xs, hxl with
    | [x0, x1, x2], _ =>
      have h0 : DataW.trod enc Try.prog w base spare held m 3 ((List.drop 0 [c0, c1, c2, c3, c4]).take (Try.prog.cellsOf 3)) = some x0 := hf 0 _ rfl
      have h1 : DataW.trod enc Try.prog w base spare held m 3 ((List.drop 1 [c0, c1, c2, c3, c4]).take (Try.prog.cellsOf 3)) = some x1 := hf 1 _ rfl
      have h2 : DataW.trod enc Try.prog w base spare held m 38 ((List.drop 2 [c0, c1, c2, c3, c4]).take (Try.prog.cellsOf 38)) = some x2 := hf 2 _ rfl
      rw [show Try.prog.cellsOf 3 = 1 from by kernel_rfl] at h0 h1
      rw [show Try.prog.cellsOf 38 = 3 from by kernel_rfl] at h2
      obtain ⟨a, e0, _, w0⟩ := DataW.trod_int Try.underlying3 h0
      obtain ⟨b, e1, _, w1⟩ := DataW.trod_int Try.underlying3 h1
      obtain ⟨v, e2, w2⟩ := cells_T38 h2
      have e0' : c0 = .int .i64 a := by simpa using e0
      have e1' : c1 = .int .i64 b := by simpa using e1
      have e2' : [c2, c3, c4] = [.int .i64 v.f0, .int .i64 v.f1, .string v.f2] := by simpa using e2
      simp only [List.cons.injEq, and_true] at e2'
      exact ⟨⟨a, b, v⟩, by rw [e0', e1', e2'.1, e2'.2.1, e2'.2.2], w0, w1, w2⟩

/-- A slice of such elements, opened to a row. -/
theorem open_rowC {α : Type} [Inhabited α] (d : Kd α) (good : α → Prop) {t e : TypeId} {fuel : Nat} {cs : List Value} {x : DataW H × List MemPlace} (ht : Try.prog.underlying t = some (.slice e)) (hC : Try.prog.cellsOf e = d.sz)
    (hel : ∀ (n : Nat) (cs : List Value) (y : DataW H × List MemPlace), DataW.trod enc Try.prog w base spare held n e cs = some y → ∃ p, d.K w p cs ∧ good p)
    (h : DataW.trod enc Try.prog w base spare held fuel t cs = some x) :
    ∃ (A : Option Addr) (cap : Nat) (vs : List α), cs = [.slice A vs.length cap] ∧ vs.length ≤ cap ∧ Kd.C d w A vs.length vs ∧ ∀ p ∈ vs, good p := by
  rcases open_slice ht h with ⟨h0, _⟩ | ⟨a, len, cap, m, n, D, Pl, hcs, hb, hl, hm, hmm, hx, hi⟩
  · exact ⟨none, 0, [], h0, Nat.le_refl _, ⟨rfl, by simp, fun h => absurd h (by simp)⟩, fun p hp => by cases hp⟩
  · have hlm : len ≤ m := by rw [hmm]; split <;> omega
    have hex : ∀ i, i < len → ∃ p : α, good p ∧ ∃ c : List Value, c.length = d.sz ∧ d.K w p c ∧ ∀ j u, c[j]? = some u → w.cell? (a.add (i * d.sz + j)) = some u := by
      intro i hil
      obtain ⟨cs', hc, ht'⟩ := hi i (by omega)
      obtain ⟨p, hk, hg⟩ := hel _ _ _ ht'
      rw [hC] at hc
      obtain ⟨_, hcl, hat⟩ := World.cells?_some hc
      refine ⟨p, hg, cs', hcl, hk, fun j u hu => ?_⟩
      have hj : j < d.sz := by
        have := (List.getElem?_eq_some_iff.1 hu).1
        omega
      have := hat j hj
      rw [← Go.Deep.add_add, this, hu]
    obtain ⟨f, hf⟩ := choose_lt hex
    refine ⟨some a, cap, (List.range len).map f, by rw [hcs]; simp, by simpa using hl, ⟨rfl, ?_, fun hn => ⟨a, rfl, fun j p hj => ?_⟩⟩, fun p hp => ?_⟩
    · have : len ≤ maxLen := Nat.le_trans hl hm
      simp only [List.length_map, List.length_range]
      exact Nat.le_trans this (by decide)
    · rw [List.getElem?_map] at hj
      have hjl : j < len := by
        by_cases hjl : j < len
        · exact hjl
        · rw [List.getElem?_eq_none (by simp; omega)] at hj; cases hj
      rw [List.getElem?_range hjl] at hj
      simp only [Option.map_some, Option.some.injEq] at hj
      subst hj
      exact (hf j hjl).2
    · rw [List.mem_map] at hp
      obtain ⟨i, hi', rfl⟩ := hp
      exact (hf i (List.mem_range.1 hi')).1
theorem open_vals {fuel : Nat} {cs : List Value} {x : DataW H × List MemPlace} (h : DataW.trod enc Try.prog w base spare held fuel 25 cs = some x) :
    ∃ (A : Option Addr) (cap : Nat) (vs : List S38), cs = [.slice A vs.length cap] ∧ vs.length ≤ cap ∧ Kd.C k38 w A vs.length vs ∧ ∀ p ∈ vs, good38 p :=
  open_rowC k38 good38 Try.underlying25 (by kernel_rfl) (fun n cs y hy => by obtain ⟨p, rfl, hg⟩ := cells_T38 hy; exact ⟨p, k38_mk w p, hg⟩) h
theorem open_ops {fuel : Nat} {cs : List Value} {x : DataW H × List MemPlace} (h : DataW.trod enc Try.prog w base spare held fuel 28 cs = some x) :
    ∃ (A : Option Addr) (cap : Nat) (vs : List S50), cs = [.slice A vs.length cap] ∧ vs.length ≤ cap ∧ Kd.C k50 w A vs.length vs ∧ ∀ p ∈ vs, good50 p :=
  open_rowC k50 good50 Try.underlying28 (by kernel_rfl) (fun n cs y hy => by obtain ⟨p, rfl, hg⟩ := cells_T50 hy; exact ⟨p, k50_mk w p, hg⟩) h
theorem open_flds {fuel : Nat} {cs : List Value} {x : DataW H × List MemPlace} (h : DataW.trod enc Try.prog w base spare held fuel 22 cs = some x) :
    ∃ (A : Option Addr) (cap : Nat) (vs : List S78), cs = [.slice A vs.length cap] ∧ vs.length ≤ cap ∧ Kd.C k78 w A vs.length vs ∧ ∀ p ∈ vs, good78 p :=
  open_rowC k78 good78 Try.underlying22 (by kernel_rfl) (fun n cs y hy => by obtain ⟨p, rfl, hg⟩ := cells_T78 hy; exact ⟨p, k78_mk w p, hg⟩) h
theorem open_event {r : Reach} {b0 : Nat} {v : Value} {d : DataW H} {p : List MemPlace} (hv : Value.okWide Try.prog w r b0 27 v) (h : DataW.Trod enc Try.prog w base spare held 27 v d p) :
    ∃ (nm : ByteArray) (at_ : Int) (A : Option Addr) (cap : Nat) (vs : List S38), v = .agg #[.string nm, .int .i64 at_, .slice A vs.length cap] ∧ vs.length ≤ cap ∧ Kd.C k38 w A vs.length vs ∧ (∀ p ∈ vs, good38 p) ∧ nm.size ≤ maxLen ∧ WFi at_ := by
  obtain ⟨v0, v1, v2, y0, y1, y2, n, rfl, _, _, h0, h1, h2⟩ := open_agg3 Try.underlying27 (by kernel_rfl) (by kernel_rfl) hv h
  obtain ⟨s, e0, _, w0⟩ := DataW.trod_string Try.underlying9 h0
  obtain ⟨a, e1, _, w1⟩ := DataW.trod_int Try.underlying3 h1
  obtain ⟨A, cap, vs, e2, hl, hc, hg⟩ := open_vals h2
  simp only [List.cons.injEq, and_true] at e0 e1 e2
  exact ⟨s, a, A, cap, vs, by rw [e0, e1, e2], hl, hc, hg, w0, w1⟩
theorem open_schema {r : Reach} {b0 : Nat} {v : Value} {d : DataW H} {p : List MemPlace} (hv : Value.okWide Try.prog w r b0 24 v) (h : DataW.Trod enc Try.prog w base spare held 24 v d p) :
    ∃ (nm : ByteArray) (at_ : Int) (A : Option Addr) (cap : Nat) (vs : List S78), v = .agg #[.string nm, .int .i64 at_, .slice A vs.length cap] ∧ vs.length ≤ cap ∧ Kd.C k78 w A vs.length vs ∧ (∀ p ∈ vs, good78 p) ∧ nm.size ≤ maxLen ∧ WFi at_ := by
  obtain ⟨v0, v1, v2, y0, y1, y2, n, rfl, _, _, h0, h1, h2⟩ := open_agg3 Try.underlying24 (by kernel_rfl) (by kernel_rfl) hv h
  obtain ⟨s, e0, _, w0⟩ := DataW.trod_string Try.underlying9 h0
  obtain ⟨a, e1, _, w1⟩ := DataW.trod_int Try.underlying3 h1
  obtain ⟨A, cap, vs, e2, hl, hc, hg⟩ := open_flds h2
  simp only [List.cons.injEq, and_true] at e0 e1 e2
  exact ⟨s, a, A, cap, vs, by rw [e0, e1, e2], hl, hc, hg, w0, w1⟩
theorem open_value {r : Reach} {b0 : Nat} {v : Value} {d : DataW H} {p : List MemPlace} (hv : Value.okWide Try.prog w r b0 38 v) (h : DataW.Trod enc Try.prog w base spare held 38 v d p) :
    ∃ (q : S38), v = .agg #[.int .i64 q.f0, .int .i64 q.f1, .string q.f2] ∧ good38 q := by
  obtain ⟨v0, v1, v2, y0, y1, y2, n, rfl, _, _, h0, h1, h2⟩ := open_agg3 Try.underlying38 (by kernel_rfl) (by kernel_rfl) hv h
  obtain ⟨a, e0, _, w0⟩ := DataW.trod_int Try.underlying3 h0
  obtain ⟨b, e1, _, w1⟩ := DataW.trod_int Try.underlying3 h1
  obtain ⟨s, e2, _, w2⟩ := DataW.trod_string Try.underlying9 h2
  simp only [List.cons.injEq, and_true] at e0 e1 e2
  exact ⟨⟨a, b, s⟩, by rw [e0, e1, e2], w0, w1, w2⟩
theorem open_opsV {r : Reach} {b0 : Nat} {v : Value} {d : DataW H} {p : List MemPlace} (hv : Value.okWide Try.prog w r b0 28 v) (h : DataW.Trod enc Try.prog w base spare held 28 v d p) :
    ∃ (A : Option Addr) (cap : Nat) (vs : List S50), v = .slice A vs.length cap ∧ vs.length ≤ cap ∧ Kd.C k50 w A vs.length vs ∧ ∀ p ∈ vs, good50 p := by
  obtain ⟨a, len, cap, rfl⟩ := okWide_slice Try.underlying28 hv
  obtain ⟨fuel, hf⟩ := h
  obtain ⟨A, c, vs, e, hl, hc, hg⟩ := open_ops hf
  have e' : Value.slice a len cap = .slice A vs.length c := by simpa [Value.cells] using e
  exact ⟨A, c, vs, e', hl, hc, hg⟩
end
end

section
open Go.RowKit Go.Proofs.YteommchgnocgnaaW.PrintWords Go.Proofs.YteommchgnocgnaaW.PrintLast Go.Proofs.YteommchgnocgnaaW.PrintMore
set_option linter.unusedVariables false
set_option linter.unusedSimpArgs false

theorem nameA : nameB ⟨#[97]⟩ = true := by decide +kernel
theorem mayEvA : mayEv ⟨#[97]⟩ 0 [] = true := by decide +kernel
theorem mayB_int (n : Int) : mayB 0 n ⟨#[]⟩ = true := by kernel_rfl
theorem opOk_push (n : Int) : opOk 0 0 0 n ⟨#[]⟩ = true := by kernel_rfl
theorem opOk_sum {c : Int} (h : c = 2 ∨ c = 3 ∨ c = 4) : opOk c 0 0 0 ⟨#[]⟩ = true := by
  rcases h with rfl | rfl | rfl <;> kernel_rfl
theorem twoT_num {c : Int} (hc : c ≠ 6 ∧ c ≠ 5 ∧ ¬ (c = 7 ∨ c = 8)) (p q : Int) : twoT c (.num p) (.num q) = if (sumT c p q).2 = true then (some (.num (sumT c p q).1), 0) else (none, 6) := by
  unfold twoT
  rw [if_pos (show tK (Thing.num p) = tK (Thing.num q) from rfl), if_neg hc.1, if_neg hc.2.1, if_neg hc.2.2]
theorem evalE_sum (a b c : Int) (h : c = 2 ∨ c = 3 ∨ c = 4) :
    evalE ⟨#[97]⟩ 0 [] [⟨0, 0, ⟨0, a, ⟨#[]⟩⟩⟩, ⟨0, 0, ⟨0, b, ⟨#[]⟩⟩⟩, ⟨c, 0, ⟨0, 0, ⟨#[]⟩⟩⟩] = if (sumT c a b).2 = true then (0, (sumT c a b).1, ⟨#[]⟩, 0) else (0, 0, ⟨#[]⟩, 6) := by
  have h1 : mayE [⟨0, 0, ⟨0, a, ⟨#[]⟩⟩⟩, ⟨0, 0, ⟨0, b, ⟨#[]⟩⟩⟩, ⟨c, 0, ⟨0, 0, ⟨#[]⟩⟩⟩] = true := by
    unfold mayE opBad
    simp [opOk_push, opOk_sum h]
  unfold evalE
  rw [if_pos h1, if_pos mayEvA]
  have hc : c ≠ 0 ∧ c ≠ 1 ∧ c ≠ 9 ∧ c ≠ 6 ∧ c ≠ 5 ∧ ¬ (c = 7 ∨ c = 8) := by omega
  cases hs : (sumT c a b).2 <;>
  simp [evalT, throughL, partL, laid2, twoT_num hc.2.2.2, thingOf, hc, tK, tN, tS, hs]

theorem int_bounds {n : Int} (h : (Lit.int .i64 n).wf = true) : -9223372036854775808 ≤ n ∧ n < 9223372036854775808 := by
  have h1 : (decide (IntKind.i64.min ≤ n) && decide (n ≤ IntKind.i64.max)) = true := h
  rw [Bool.and_eq_true] at h1
  have a := of_decide_eq_true h1.1
  have b := of_decide_eq_true h1.2
  have e1 : IntKind.i64.min = -9223372036854775808 := by decide +kernel
  have e2 : IntKind.i64.max = 9223372036854775807 := by decide +kernel
  omega

theorem wrap64_id {n : Int} (h1 : -9223372036854775808 ≤ n) (h2 : n < 9223372036854775808) : wrap64 n = n := by unfold wrap64; omega
theorem wrap64_eq (n : Int) : ∃ q : Int, wrap64 n = n + q * 18446744073709551616 := ⟨-((n + 9223372036854775808) / 18446744073709551616), by unfold wrap64; omega⟩
theorem wrap64_lo (n : Int) : -9223372036854775808 ≤ wrap64 n := by unfold wrap64; omega
theorem wrap64_hi (n : Int) : wrap64 n < 9223372036854775808 := by unfold wrap64; omega

theorem sum_plus {a b : Int} (ha : -9223372036854775808 ≤ a) (ha' : a < 9223372036854775808) (hb : -9223372036854775808 ≤ b) (hb' : b < 9223372036854775808) :
    ((sumT 2 a b).2 = true → wrap64 ((sumT 2 a b).1 - b) = a ∧ (decide (b ≥ 0) == decide ((sumT 2 a b).1 ≥ a)) = true) ∧
    ((sumT 2 a b).2 ≠ true → ¬ (a < 1073741824 ∧ a > -1073741824 ∧ b < 1073741824 ∧ b > -1073741824)) := by
  have e : sumT 2 a b = (wrap64 (a + b), (decide (wrap64 (a + b) > a) == decide (b > 0))) := rfl
  rw [e]
  simp only [ne_eq, beq_iff_eq, decide_eq_decide]
  unfold wrap64
  refine ⟨fun h => ⟨by omega, ?_⟩, fun h => ?_⟩ <;> omega
theorem sum_minus {a b : Int} (ha : -9223372036854775808 ≤ a) (ha' : a < 9223372036854775808) (hb : -9223372036854775808 ≤ b) (hb' : b < 9223372036854775808) :
    ((sumT 3 a b).2 = true → wrap64 ((sumT 3 a b).1 + b) = a ∧ (decide (b ≥ 0) == decide ((sumT 3 a b).1 ≤ a)) = true) ∧
    ((sumT 3 a b).2 ≠ true → ¬ (a < 1073741824 ∧ a > -1073741824 ∧ b < 1073741824 ∧ b > -1073741824)) := by
  have e : sumT 3 a b = (wrap64 (a - b), (decide (wrap64 (a - b) < a) == decide (b > 0))) := rfl
  rw [e]
  simp only [ne_eq, beq_iff_eq, decide_eq_decide]
  unfold wrap64
  refine ⟨fun h => ⟨by omega, ?_⟩, fun h => ?_⟩ <;> omega
theorem tdiv_small {n b : Int} : -(n.natAbs : Int) ≤ n.tdiv b ∧ n.tdiv b ≤ n.natAbs := by
  have h := Int.natAbs_tdiv n b
  have h2 : (n.tdiv b).natAbs ≤ n.natAbs := by rw [h]; exact Nat.div_le_self _ _
  omega
theorem sum_times {a b : Int} (ha : -9223372036854775808 ≤ a) (ha' : a < 9223372036854775808) (hb : -9223372036854775808 ≤ b) (hb' : b < 9223372036854775808) :
    ((sumT 4 a b).2 = true → (b = 0 → (sumT 4 a b).1 = 0) ∧ (b ≠ 0 → wrap64 ((sumT 4 a b).1.tdiv b) = a ∧ (sumT 4 a b).1.tmod b = 0)) ∧
    ((sumT 4 a b).2 ≠ true → ¬ (a < 1073741824 ∧ a > -1073741824 ∧ b < 1073741824 ∧ b > -1073741824)) := by
  by_cases a0 : a = 0
  · subst a0
    have e : sumT 4 0 b = (0, true) := rfl
    rw [e]
    refine ⟨fun _ => ⟨fun _ => rfl, fun _ => ⟨?_, ?_⟩⟩, fun h => absurd rfl h⟩
    · rw [Int.zero_tdiv]; exact wrap64_id (by omega) (by omega)
    · exact Int.zero_tmod b
  by_cases b0 : b = 0
  · subst b0
    have e : sumT 4 a 0 = (0, true) := by unfold sumT expr_sum.f; simp [a0]
    rw [e]
    exact ⟨fun _ => ⟨fun _ => rfl, fun h => absurd rfl h⟩, fun h => absurd rfl h⟩
  have e : sumT 4 a b = (wrap64 (a * b), decide (wrap64 ((wrap64 (a * b)).tdiv b) = a ∧ ¬ (b = -1 ∧ a = wrap64 (a * b)) ∧ ¬ (a = -1 ∧ b = wrap64 (a * b)))) := by
    unfold sumT expr_sum.f
    rw [if_neg (by decide), if_neg (by decide), if_neg a0, if_neg b0]
    by_cases h1 : wrap64 ((wrap64 (a * b)).tdiv b) = a
    · rw [if_pos h1]
      by_cases h2 : b = -1
      · rw [if_pos h2]
        by_cases h3 : a = wrap64 (a * b)
        · rw [if_pos h3]; rw [decide_eq_false (by intro h; exact h.2.1 ⟨h2, h3⟩)]; rfl
        · rw [if_neg h3]
          by_cases h4 : a = -1
          · rw [if_pos h4]
            by_cases h5 : b = wrap64 (a * b)
            · rw [decide_eq_false (by intro h; exact h.2.2 ⟨h4, h5⟩)]; simp [← h5]
            · rw [decide_eq_true ⟨h1, fun h => h3 h.2, fun h => h5 h.2⟩]; simp [h5]
          · rw [if_neg h4, decide_eq_true ⟨h1, fun h => h3 h.2, fun h => h4 h.1⟩]; rfl
      · rw [if_neg h2]
        by_cases h4 : a = -1
        · rw [if_pos h4]
          by_cases h5 : b = wrap64 (a * b)
          · rw [decide_eq_false (by intro h; exact h.2.2 ⟨h4, h5⟩)]; simp [← h5]
          · rw [decide_eq_true ⟨h1, fun h => h2 h.1, fun h => h5 h.2⟩]; simp [h5]
        · rw [if_neg h4, decide_eq_true ⟨h1, fun h => h2 h.1, fun h => h4 h.1⟩]; rfl
    · rw [if_neg h1, decide_eq_false (by intro h; exact h1 h.1)]; rfl
  rw [e]
  have hlo := wrap64_lo (a * b)
  have hhi := wrap64_hi (a * b)
  obtain ⟨q, hq⟩ := wrap64_eq (a * b)
  refine ⟨fun h => ⟨fun h' => absurd h' b0, fun _ => ?_⟩, fun h hs => ?_⟩
  · obtain ⟨h1, h2, h3⟩ := of_decide_eq_true h
    refine ⟨h1, ?_⟩
    show (wrap64 (a * b)).tmod b = 0
    generalize hn : wrap64 (a * b) = n at *
    have hts := @tdiv_small n b
    have hdm := Int.mul_tdiv_add_tmod n b
    have hml : n.tmod b < b.natAbs ∧ -(b.natAbs : Int) < n.tmod b := by
      have hm := Int.natAbs_tmod n b
      have hb1 : 0 < b.natAbs := by omega
      have := Nat.mod_lt n.natAbs hb1
      omega
    have ht : n.tdiv b = a := by
      by_cases hx : n.tdiv b < 9223372036854775808
      · rw [wrap64_id (by omega) hx] at h1; exact h1
      · exfalso
        have hn1 : n = -9223372036854775808 := by omega
        have ht1 : n.tdiv b = 9223372036854775808 := by omega
        rw [ht1] at h1
        have ha1 : a = -9223372036854775808 := by rw [← h1]; unfold wrap64; omega
        have hnat : n.natAbs / b.natAbs = 9223372036854775808 := by
          have := Int.natAbs_tdiv n b
          rw [ht1] at this; exact this.symm
        have hb2 : b.natAbs = 1 := by
          have h5 : n.natAbs = 9223372036854775808 := by omega
          rw [h5] at hnat
          have h6 := Nat.div_mul_le_self 9223372036854775808 b.natAbs
          rw [hnat] at h6
          omega
        have hb3 : b = 1 ∨ b = -1 := by omega
        rcases hb3 with hb3 | hb3
        · subst hb3; rw [Int.tdiv_one] at ht1; omega
        · exact h2 ⟨hb3, by omega⟩
    rw [ht] at hdm
    have : n.tmod b = q * 18446744073709551616 := by
      have : b * a = a * b := Int.mul_comm _ _
      omega
    omega
  · apply h
    obtain ⟨s1, s2, s3, s4⟩ := hs
    have hm : (a * b).natAbs ≤ 1073741824 * 1073741824 := by
      rw [Int.natAbs_mul]
      exact Nat.mul_le_mul (by omega) (by omega)
    have hw : wrap64 (a * b) = a * b := wrap64_id (by omega) (by omega)
    apply decide_eq_true
    rw [hw, Int.mul_tdiv_cancel _ b0, wrap64_id ha ha']
    refine ⟨rfl, fun h => ?_, fun h => ?_⟩
    · obtain ⟨rfl, h⟩ := h; omega
    · obtain ⟨rfl, h⟩ := h; omega
end

section
open Go.RowKit Go.Proofs.YteommchgnocgnaaW.PrintWords Go.Proofs.YteommchgnocgnaaW.PrintLast Go.Proofs.YteommchgnocgnaaW.PrintMore
set_option linter.unusedVariables false
set_option linter.unusedSimpArgs false

theorem isEmpty_nil {s : ByteArray} (h : s.toList.isEmpty = true) : s.toList = [] := List.isEmpty_iff.1 h
theorem empty_toList : (⟨#[]⟩ : ByteArray).toList = [] := by decide +kernel
theorem u64_lt2 {n : Int} (h1 : -9223372036854775808 ≤ n) (h2 : n < 9223372036854775808) (h : IntKind.u64.wrap n < 2) : n = 0 ∨ n = 1 := by
  have e : IntKind.u64.wrap n = n % 18446744073709551616 := rfl
  rw [e] at h
  omega
/-- A value that may be: what it was as a thing. -/
theorem thing_back {k n : Int} {s : ByteArray} (h : mayB k n s = true) (hn : WFi n) : tK (thingOf k n s) = k ∧ tN (thingOf k n s) = n ∧ (tS (thingOf k n s)).toList = s.toList := by
  have hb := int_bounds hn
  unfold mayB heldV at h
  unfold thingOf
  by_cases h0 : k = 0
  · subst h0
    rw [if_pos rfl] at h ⊢
    by_cases hs : s.toList.isEmpty = true
    · exact ⟨rfl, rfl, empty_toList.trans (isEmpty_nil hs).symm⟩
    · rw [if_neg hs] at h; cases h
  rw [if_neg h0] at h ⊢
  by_cases h1 : k = 1
  · subst h1
    rw [if_pos rfl] at h ⊢
    by_cases hs : s.toList.isEmpty = true
    · rw [if_pos hs] at h
      by_cases hw : IntKind.u64.wrap n < 2
      · rcases u64_lt2 hb.1 hb.2 hw with rfl | rfl
        · exact ⟨rfl, rfl, empty_toList.trans (isEmpty_nil hs).symm⟩
        · exact ⟨rfl, rfl, empty_toList.trans (isEmpty_nil hs).symm⟩
      · rw [if_neg hw] at h; cases h
    · rw [if_neg hs] at h; cases h
  rw [if_neg h1] at h ⊢
  exact ⟨rfl, rfl, rfl⟩
theorem mayEv_vals {nm : ByteArray} {at_ : Int} {vs : List S38} (h : mayEv nm at_ vs = true) : vs.length ≤ 6 ∧ ∀ x ∈ vs, mayB x.f0 x.f1 x.f2 = true := by
  unfold mayEv at h
  simp only [Bool.and_eq_true, decide_eq_true_eq, Bool.not_eq_true', List.any_eq_false, valBad] at h
  refine ⟨h.2.2.2.1, fun x hx => ?_⟩
  have := h.2.2.2.2 x hx
  simpa using this
theorem rd38_mem {vs : List S38} {i : Int} (h0 : 0 ≤ i) (h1 : i < vs.length) : rd_T38 vs i ∈ vs := by
  unfold rd_T38
  have : i.toNat < vs.length := by omega
  rw [List.getD_eq_getElem?_getD, List.getElem?_eq_getElem this, Option.getD_some]
  exact List.getElem_mem this
theorem mayE_load {a : Int} (h0 : 0 ≤ a) (h1 : a ≤ 5) : mayE [⟨1, a, ⟨0, 0, ⟨#[]⟩⟩⟩] = true := by
  have : a = 0 ∨ a = 1 ∨ a = 2 ∨ a = 3 ∨ a = 4 ∨ a = 5 := by omega
  rcases this with rfl | rfl | rfl | rfl | rfl | rfl <;> decide +kernel
theorem evalE_load {nm : ByteArray} {at_ : Int} {vs : List S38} {a : Int} (h0 : 0 ≤ a) (h1 : a ≤ 5) :
    evalE nm at_ vs [⟨1, a, ⟨0, 0, ⟨#[]⟩⟩⟩] = if mayEv nm at_ vs = true then (if (vs.length : Int) ≤ a then (0, 0, ⟨#[]⟩, 3) else (tK (thingOf (rd_T38 vs a).f0 (rd_T38 vs a).f1 (rd_T38 vs a).f2), tN (thingOf (rd_T38 vs a).f0 (rd_T38 vs a).f1 (rd_T38 vs a).f2), tS (thingOf (rd_T38 vs a).f0 (rd_T38 vs a).f1 (rd_T38 vs a).f2), 0)) else (0, 0, ⟨#[]⟩, 1) := by
  unfold evalE
  rw [if_pos (mayE_load h0 h1)]
  by_cases hm : mayEv nm at_ vs = true
  · rw [if_pos hm, if_pos hm]
    by_cases hl : (vs.length : Int) ≤ a
    · rw [if_pos hl]; simp [evalT, throughL, partL, hl]
    · rw [if_neg hl]; simp [evalT, throughL, partL, hl]
  · rw [if_neg hm, if_neg hm]

theorem opOk_val {k n : Int} {s : ByteArray} (h : mayB k n s = true) : opOk 0 0 k n s = true := by
  unfold opOk
  simp [h]
theorem evalE_nil : evalE ⟨#[97]⟩ 0 [] [] = (0, 0, ⟨#[]⟩, 2) := by
  have h1 : mayE [] = true := by decide +kernel
  unfold evalE
  rw [if_pos h1, if_pos mayEvA]
  simp [evalT, throughL]
theorem evalE_one {x : S38} (h : mayB x.f0 x.f1 x.f2 = true) : evalE ⟨#[97]⟩ 0 [] [⟨0, 0, ⟨x.f0, x.f1, x.f2⟩⟩] = (tK (thingOf x.f0 x.f1 x.f2), tN (thingOf x.f0 x.f1 x.f2), tS (thingOf x.f0 x.f1 x.f2), 0) := by
  have h1 : mayE [⟨0, 0, ⟨x.f0, x.f1, x.f2⟩⟩] = true := by
    unfold mayE opBad
    simp [opOk_val h]
  unfold evalE
  rw [if_pos h1, if_pos mayEvA]
  simp [evalT, throughL, partL]
theorem evalE_two {x : S38} (h : mayB x.f0 x.f1 x.f2 = true) : evalE ⟨#[97]⟩ 0 [] [⟨0, 0, ⟨x.f0, x.f1, x.f2⟩⟩, ⟨0, 0, ⟨x.f0, x.f1, x.f2⟩⟩] = (0, 0, ⟨#[]⟩, 2) := by
  have h1 : mayE [⟨0, 0, ⟨x.f0, x.f1, x.f2⟩⟩, ⟨0, 0, ⟨x.f0, x.f1, x.f2⟩⟩] = true := by
    unfold mayE opBad
    simp [opOk_val h]
  unfold evalE
  rw [if_pos h1, if_pos mayEvA]
  simp [evalT, throughL, partL]
theorem evalE_code {c : Int} (h2 : ¬ c < 2) (h10 : ¬ c ≥ 10) : evalE ⟨#[97]⟩ 0 [] [⟨c, 0, ⟨0, 0, ⟨#[]⟩⟩⟩] = (0, 0, ⟨#[]⟩, 2) := by
  have hc : c = 2 ∨ c = 3 ∨ c = 4 ∨ c = 5 ∨ c = 6 ∨ c = 7 ∨ c = 8 ∨ c = 9 := by omega
  rcases hc with rfl | rfl | rfl | rfl | rfl | rfl | rfl | rfl <;> (clear h2 h10; decide +kernel)
end

section
open Go.RowKit Go.Proofs.YteommchgnocgnaaW.PrintWords Go.Proofs.YteommchgnocgnaaW.PrintLast Go.Proofs.YteommchgnocgnaaW.PrintMore
attribute [local go_sem] max2_int min2_int max_two min_two max_three min_three max_four min_four   -- for this text's walks alone
set_option linter.unusedVariables false
set_option linter.unusedSimpArgs false


/-! ### towncrierlaw05_Few: function 14 -/
mutual
def towncrierlaw05_Few.j0 : Nat → Bool → ByteArray → Int → List (S78) → Option (Bool)
  | 0, _, _, _, _ => none
  | k + 1, x13, x191000, x191001, x191002 => if x13 = true then (some false) else (towncrierlaw05_Few.l0 k 0 x191000 x191001 x191002)
def towncrierlaw05_Few.l0 : Nat → Int → ByteArray → Int → List (S78) → Option (Bool)
  | 0, _, _, _, _ => none
  | k + 1, x3, x191000, x191001, x191002 => if x3 < (x191002.length : Int) then (if 0 ≤ x3 then (if (((rd_T78 x191002 x3).f0).size : Int) > 60 then (some false) else (towncrierlaw05_Few.l0 k (wrap64 (x3 + 1)) x191000 x191001 x191002)) else (none)) else (some true)
end
def towncrierlaw05_Few.f (k : Nat) (a0_0 : ByteArray) (a0_1 : Int) (l0_2 : List (S78)) : Option (Bool) := if (a0_0.size : Int) > 60 then (towncrierlaw05_Few.j0 k true a0_0 a0_1 l0_2) else (towncrierlaw05_Few.j0 k (decide ((l0_2.length : Int) > 10)) a0_0 a0_1 l0_2)
theorem towncrierlaw05_Few.mono_l : ∀ k, (∀ y0 y1 y2 y3, LeO (towncrierlaw05_Few.j0 k y0 y1 y2 y3) (towncrierlaw05_Few.j0 (k + 1) y0 y1 y2 y3)) ∧ (∀ y0 y1 y2 y3, LeO (towncrierlaw05_Few.l0 k y0 y1 y2 y3) (towncrierlaw05_Few.l0 (k + 1) y0 y1 y2 y3))
  | 0 => ⟨fun _ _ _ _ r h => by simp [towncrierlaw05_Few.j0] at h, fun _ _ _ _ r h => by simp [towncrierlaw05_Few.l0] at h⟩
  | k + 1 => by
    obtain ⟨ih0, ih1⟩ := towncrierlaw05_Few.mono_l k
    refine ⟨?_, ?_⟩
    · intro y0 y1 y2 y3
      unfold towncrierlaw05_Few.j0
      repeat' first
      | (with_reducible exact ih0 _ _ _ _)
      | (with_reducible exact ih1 _ _ _ _)
      | (with_reducible exact LeO.refl _)
      | (with_reducible exact LeO.none _)
      | (with_reducible refine LeO.ite ?_ ?_)
      | (with_reducible refine LeO.bind ?_ (fun _ => ?_))
      | exact ih0 _ _ _ _
      | exact ih1 _ _ _ _
      | exact LeO.none _
      | refine LeO.ite ?_ ?_
      | refine LeO.bind ?_ (fun _ => ?_)
    · intro y0 y1 y2 y3
      unfold towncrierlaw05_Few.l0
      repeat' first
      | (with_reducible exact ih0 _ _ _ _)
      | (with_reducible exact ih1 _ _ _ _)
      | (with_reducible exact LeO.refl _)
      | (with_reducible exact LeO.none _)
      | (with_reducible refine LeO.ite ?_ ?_)
      | (with_reducible refine LeO.bind ?_ (fun _ => ?_))
      | exact ih0 _ _ _ _
      | exact ih1 _ _ _ _
      | exact LeO.none _
      | refine LeO.ite ?_ ?_
      | refine LeO.bind ?_ (fun _ => ?_)
theorem towncrierlaw05_Few.mono : ∀ a0 a1 a2 k, LeO (towncrierlaw05_Few.f k a0 a1 a2) (towncrierlaw05_Few.f (k + 1) a0 a1 a2) := by
  intro a0 a1 a2 k
  obtain ⟨ih0, ih1⟩ := towncrierlaw05_Few.mono_l k
  unfold towncrierlaw05_Few.f
  repeat' first
      | (with_reducible exact ih0 _ _ _ _)
      | (with_reducible exact ih1 _ _ _ _)
      | (with_reducible exact LeO.refl _)
      | (with_reducible exact LeO.none _)
      | (with_reducible refine LeO.ite ?_ ?_)
      | (with_reducible refine LeO.bind ?_ (fun _ => ?_))
      | exact ih0 _ _ _ _
      | exact ih1 _ _ _ _
      | exact LeO.none _
      | refine LeO.ite ?_ ?_
      | refine LeO.bind ?_ (fun _ => ?_)
set_option maxHeartbeats 8000000 in
set_option maxRecDepth 100000 in
theorem towncrierlaw05_Few.calls (k : Nat) (a0_0 : ByteArray) (a0_1 : Int) (A0_2 : Option Addr) (c0_2 : Nat) (l0_2 : List (S78)) (r : Bool) (w : World) (hr0_2 : Kd.C k78 w A0_2 l0_2.length l0_2) (hc0_2 : l0_2.length ≤ c0_2) (h : towncrierlaw05_Few.f k a0_0 a0_1 l0_2 = some r) :
    Calls Try.prog 14 #[.agg #[.string a0_0, .int .i64 a0_1, .slice A0_2 l0_2.length c0_2]] w fun e w' => e = .returned (.bool r) ∧ Below w.heap.size w w' := by
  have hu24 := Try.underlying24
  have HR0_2 := Aside0.mk hr0_2
  have HC0_2 := Aside0.mk hc0_2
  clear hr0_2 hc0_2
  have HB := Aside0.mk (Below.refl w.heap.size w)
  have H : (if (a0_0.size : Int) > 60 then (towncrierlaw05_Few.j0 k true a0_0 a0_1 l0_2) else (towncrierlaw05_Few.j0 k (decide ((l0_2.length : Int) > 10)) a0_0 a0_1 l0_2)) = some r := h
  clear h
  have HC2 := Aside0.mk H
  clear H
  go_enter Try.func14, Try.ntmps14
  go_upto_region 1 with (first | ((with_reducible refine gate_dst (N := 1) rfl ?_); (try (refine gate_guard (by rfl) ?_; dsimp only)); refine box_event ?hg (N := 1) ?hd (cs := #[.string a0_0, .int .i64 a0_1, .slice A0_2 l0_2.length c0_2]) (t := 24) ?hr ?_; (case hd => rfl); (case hg => rfl); (case hr => first | (go_simp; done) | (go_simp; rfl)); intro gb190 hg w3 hbox hb; have n0_ := Aside0.mk (below_step (by repeat (first | (with_reducible first | exact HB.out | apply below_alloc | apply pw_below_drewN | apply below_drew1) | exact HB.out)) hb); have n1_ := Aside0.mk (hbox); have n2_ := Aside0.mk ((by rw [hg]; exact (below_size (by repeat (first | (with_reducible first | exact HB.out | apply below_alloc | apply pw_below_drewN | apply below_drew1) | exact HB.out))) : w.heap.size ≤ gb190)); have n3_ := Aside0.mk ((by rw [hg]; exact (below_size (by repeat (first | (with_reducible first | exact HB.out | apply below_alloc | apply pw_below_drewN | apply below_drew1) | exact HB.out))) : w.heap.size ≤ gb190)); clear HB; have HB := n0_; have BK190 := n1_; have GW190 := n2_; have GE190 := n3_; clear n0_ n1_ n2_ n3_; clear hb hbox hg))
  (try simp only [Act.put, List.setIfInBounds_toArray, List.set_cons_zero, List.set_cons_succ])
  go_cut [13] (fun v13 wc => ∃ (kq : Nat) (x13_1 : Bool), v13 = .bool x13_1 ∧ Aside0 (towncrierlaw05_Few.j0 kq x13_1 a0_0 a0_1 l0_2 = some r) ∧ Aside0 (kq ≤ k) ∧ Aside0 (wc.heap[gb190]? = some (.cells #[.string a0_0, .int .i64 a0_1, (.slice A0_2 l0_2.length c0_2)] 24 (0, 0))) ∧ Aside0 (Below w.heap.size w wc))
  case first =>
    have H := HC2.out
    clear HC2
    by_cases c4 : (a0_0.size : Int) > 60
    · rw [if_pos c4] at H
      have c4b0 : decide (60 < (a0_0.size : Int)) = true := decide_eq_true c4
      have c4b1 : decide (60 < a0_0.size) = true := decide_eq_true (by omega)
      clear c4
      (first | rw [c4b0] | (simp only [i64_w, i32_w]; rw [c4b0]) | skip)
      have H' := Aside0.mk H
      clear H
      have hcz5_0 : w3.cell? ⟨gb190, 0, none⟩ = some (.string a0_0) := (blk_cell BK190.out 0).trans rfl
      have hcz5_1 : w3.cell? ⟨gb190, 1, none⟩ = some (.int .i64 a0_1) := (blk_cell BK190.out 1).trans rfl
      have hcz5_2 : w3.cell? ⟨gb190, 2, none⟩ = some (.slice A0_2 l0_2.length c0_2) := (blk_cell BK190.out 2).trans rfl
      have hfz5_0 := blk_frozen BK190.out 0
      have hfz5_1 := blk_frozen BK190.out 1
      have hfz5_2 := blk_frozen BK190.out 2
      go_wp2
      go_meet
      case rel => exact ⟨_, (true), (by first | rfl | (simp; done) | (simp [*]; done)), H', ⟨by first | omega | exact Nat.le_refl _⟩, ⟨by (with_reducible repeat (first | refine blk_drewN ?_ _ | refine blk_drew ?_ | refine blk_alloc ?_ _)); exact BK190.out⟩, ⟨by repeat (first | (with_reducible first | exact HB.out | apply below_alloc | apply pw_below_drewN | apply below_drew1 | refine below_set ?_ GE190.out) | exact HB.out)⟩⟩
    · rw [if_neg c4] at H
      have c4b0 : decide (60 < (a0_0.size : Int)) = false := decide_eq_false c4
      have c4b1 : decide (60 < a0_0.size) = false := decide_eq_false (by omega)
      clear c4
      (first | rw [c4b0] | (simp only [i64_w, i32_w]; rw [c4b0]) | skip)
      have H' := Aside0.mk H
      clear H
      have hcz6_0 : w3.cell? ⟨gb190, 0, none⟩ = some (.string a0_0) := (blk_cell BK190.out 0).trans rfl
      have hcz6_1 : w3.cell? ⟨gb190, 1, none⟩ = some (.int .i64 a0_1) := (blk_cell BK190.out 1).trans rfl
      have hcz6_2 : w3.cell? ⟨gb190, 2, none⟩ = some (.slice A0_2 l0_2.length c0_2) := (blk_cell BK190.out 2).trans rfl
      have hfz6_0 := blk_frozen BK190.out 0
      have hfz6_1 := blk_frozen BK190.out 1
      have hfz6_2 := blk_frozen BK190.out 2
      go_wp2
      go_meet
      case rel => exact ⟨_, (decide ((l0_2.length : Int) > 10)), (by first | rfl | (simp; done) | (simp [*]; done)), H', ⟨by first | omega | exact Nat.le_refl _⟩, ⟨by (with_reducible repeat (first | refine blk_drewN ?_ _ | refine blk_drew ?_ | refine blk_alloc ?_ _)); exact BK190.out⟩, ⟨by repeat (first | (with_reducible first | exact HB.out | apply below_alloc | apply pw_below_drewN | apply below_drew1 | refine below_set ?_ GE190.out) | exact HB.out)⟩⟩
  case rest =>
    clear HC2
    try clear c1
    try clear p2
    try clear c4
    try clear c4b0
    try clear c4b1
    try clear hcz5_0
    try clear hcz5_1
    try clear hcz5_2
    try clear hcz6_0
    try clear hcz6_1
    try clear hcz6_2
    try clear hfz5_0
    try clear hfz5_1
    try clear hfz5_2
    try clear hfz6_0
    try clear hfz6_1
    try clear hfz6_2
    obtain ⟨kq, x13_1, rfl, HA, HJ1, BK190, HB⟩ := hcut
    cases kq with
    | zero => exact absurd HA.out (by simp [towncrierlaw05_Few.j0])
    | succ kj1 =>
      have H := HA.out
      clear HA
      simp only [towncrierlaw05_Few.j0] at H
      by_cases c7 : x13_1 = true
      · subst c7
        have H1 : (some false) = some r := by rw [if_pos rfl] at H; exact H
        clear H
        have H := H1
        clear H1
        obtain rfl := Option.some.inj H
        go_wp2
        go_ret
        exact ⟨by first | rfl | (simp [errW_none, errW_some] <;> rfl) | (simp [*, errW_none, errW_some] <;> rfl), by repeat (first | (with_reducible first | exact HB.out | apply below_alloc | apply pw_below_drewN | apply below_drew1 | refine below_set ?_ GE190.out) | exact HB.out)⟩
      · replace c7 := Bool.eq_false_iff.mpr c7
        subst c7
        have H1 : (towncrierlaw05_Few.l0 kj1 0 a0_0 a0_1 l0_2) = some r := by rw [if_neg (show ¬ (false = true) by decide)] at H; exact H
        clear H
        have H := H1
        clear H1
        have H' := Aside0.mk H
        clear H
        go_wp2
        go_loopg [3] kj1 (fun kq v3 w' => ∃ (x3_2 : Int), v3 = .int .i64 x3_2 ∧ Aside0 (towncrierlaw05_Few.l0 kq x3_2 a0_0 a0_1 l0_2 = some r) ∧ Aside0 (kq ≤ kj1) ∧ Aside0 (w'.heap[gb190]? = some (.cells #[.string a0_0, .int .i64 a0_1, (.slice A0_2 l0_2.length c0_2)] 24 (0, 0))) ∧ Aside0 (Below w.heap.size w w'))
        case atStart => exact ⟨(0), (by first | rfl | (simp; done) | (simp [*]; done)), H', ⟨Nat.le_refl _⟩, ⟨by (with_reducible repeat (first | refine blk_drewN ?_ _ | refine blk_drew ?_ | refine blk_alloc ?_ _)); exact BK190.out⟩, ⟨by repeat (first | (with_reducible first | exact HB.out | apply below_alloc | apply pw_below_drewN | apply below_drew1 | refine below_set ?_ GE190.out) | exact HB.out)⟩⟩
        case round =>
          clear H'
          try clear c1
          try clear p2
          try clear c4
          try clear c4b0
          try clear c4b1
          try clear c7
          try clear hcz5_0
          try clear hcz5_1
          try clear hcz5_2
          try clear hcz6_0
          try clear hcz6_1
          try clear hcz6_2
          try clear hfz5_0
          try clear hfz5_1
          try clear hfz5_2
          try clear hfz6_0
          try clear hfz6_1
          try clear hfz6_2
          try clear p2
          obtain ⟨x3_2, rfl, HA, HK2, BK190, HB⟩ := hrel
          cases gk with
          | zero => exact absurd HA.out (by simp [towncrierlaw05_Few.l0])
          | succ k2 =>
            have H := HA.out
            clear HA
            simp only [towncrierlaw05_Few.l0] at H
            by_cases c8 : x3_2 < (l0_2.length : Int)
            · rw [if_pos c8] at H
              have c8b0 : decide (x3_2 < (l0_2.length : Int)) = true := decide_eq_true c8
              clear c8
              by_cases c9 : 0 ≤ x3_2
              · rw [if_pos c9] at H
                have c9b0 : decide (0 ≤ x3_2) = true := decide_eq_true c9
                clear c9
                by_cases c10 : (((rd_T78 l0_2 x3_2).f0).size : Int) > 60
                · rw [if_pos c10] at H
                  have c10b0 : decide (60 < (((rd_T78 l0_2 x3_2).f0).size : Int)) = true := decide_eq_true c10
                  have c10b1 : decide (60 < ((rd_T78 l0_2 x3_2).f0).size) = true := decide_eq_true (by omega)
                  clear c10
                  obtain rfl := Option.some.inj H
                  have hcz11_0 : wr.cell? ⟨gb190, 0, none⟩ = some (.string a0_0) := (blk_cell BK190.out 0).trans rfl
                  have hcz11_1 : wr.cell? ⟨gb190, 1, none⟩ = some (.int .i64 a0_1) := (blk_cell BK190.out 1).trans rfl
                  have hcz11_2 : wr.cell? ⟨gb190, 2, none⟩ = some (.slice A0_2 l0_2.length c0_2) := (blk_cell BK190.out 2).trans rfl
                  have hfz11_0 := blk_frozen BK190.out 0
                  have hfz11_1 := blk_frozen BK190.out 1
                  have hfz11_2 := blk_frozen BK190.out 2
                  have p191 : 0 ≤ (x3_2 : Int) := of_decide_eq_true (by first | (with_reducible assumption) | assumption)
                  have q191 : x3_2 < (l0_2.length : Int) := of_decide_eq_true (by first | (with_reducible assumption) | assumption)
                  obtain ⟨ad191, e191, hx191_0, hx191_1⟩ := at_T78 HR0_2.out x3_2 p191 q191
                  cases e191
                  replace hx191_0 := (HB.out.cell (World.block_lt_of_cell? w _ hx191_0)).trans hx191_0
                  replace hx191_1 := (HB.out.cell (World.block_lt_of_cell? w _ hx191_1)).trans hx191_1
                  replace p191 := eq_true p191
                  replace q191 := eq_true q191
                  go_wp2
                  go_ret
                  exact ⟨by first | rfl | (simp [errW_none, errW_some] <;> rfl) | (simp [*, errW_none, errW_some] <;> rfl), by repeat (first | (with_reducible first | exact HB.out | apply below_alloc | apply pw_below_drewN | apply below_drew1 | refine below_set ?_ GE190.out) | exact HB.out)⟩
                · rw [if_neg c10] at H
                  have c10b0 : decide (60 < (((rd_T78 l0_2 x3_2).f0).size : Int)) = false := decide_eq_false c10
                  have c10b1 : decide (60 < ((rd_T78 l0_2 x3_2).f0).size) = false := decide_eq_false (by omega)
                  clear c10
                  have H' := Aside0.mk H
                  clear H
                  have hcz12_0 : wr.cell? ⟨gb190, 0, none⟩ = some (.string a0_0) := (blk_cell BK190.out 0).trans rfl
                  have hcz12_1 : wr.cell? ⟨gb190, 1, none⟩ = some (.int .i64 a0_1) := (blk_cell BK190.out 1).trans rfl
                  have hcz12_2 : wr.cell? ⟨gb190, 2, none⟩ = some (.slice A0_2 l0_2.length c0_2) := (blk_cell BK190.out 2).trans rfl
                  have hfz12_0 := blk_frozen BK190.out 0
                  have hfz12_1 := blk_frozen BK190.out 1
                  have hfz12_2 := blk_frozen BK190.out 2
                  have p191 : 0 ≤ (x3_2 : Int) := of_decide_eq_true (by first | (with_reducible assumption) | assumption)
                  have q191 : x3_2 < (l0_2.length : Int) := of_decide_eq_true (by first | (with_reducible assumption) | assumption)
                  obtain ⟨ad191, e191, hx191_0, hx191_1⟩ := at_T78 HR0_2.out x3_2 p191 q191
                  cases e191
                  replace hx191_0 := (HB.out.cell (World.block_lt_of_cell? w _ hx191_0)).trans hx191_0
                  replace hx191_1 := (HB.out.cell (World.block_lt_of_cell? w _ hx191_1)).trans hx191_1
                  replace p191 := eq_true p191
                  replace q191 := eq_true q191
                  go_wp2
                  go_roundg k2
                  case measure => have := HJ1.out; have := HK2.out; omega
                  case rel => exact ⟨(wrap64 (x3_2 + 1)), (by first | rfl | (simp; done) | (simp [*]; done)), H', ⟨by have := HJ1.out; have := HK2.out; omega⟩, ⟨by (with_reducible repeat (first | refine blk_drewN ?_ _ | refine blk_drew ?_ | refine blk_alloc ?_ _)); exact BK190.out⟩, ⟨by repeat (first | (with_reducible first | exact HB.out | apply below_alloc | apply pw_below_drewN | apply below_drew1 | refine below_set ?_ GE190.out) | exact HB.out)⟩⟩
              · rw [if_neg c9] at H
                exact absurd H (by simp)
            · rw [if_neg c8] at H
              have c8b0 : decide (x3_2 < (l0_2.length : Int)) = false := decide_eq_false c8
              clear c8
              obtain rfl := Option.some.inj H
              have hcz13_0 : wr.cell? ⟨gb190, 0, none⟩ = some (.string a0_0) := (blk_cell BK190.out 0).trans rfl
              have hcz13_1 : wr.cell? ⟨gb190, 1, none⟩ = some (.int .i64 a0_1) := (blk_cell BK190.out 1).trans rfl
              have hcz13_2 : wr.cell? ⟨gb190, 2, none⟩ = some (.slice A0_2 l0_2.length c0_2) := (blk_cell BK190.out 2).trans rfl
              have hfz13_0 := blk_frozen BK190.out 0
              have hfz13_1 := blk_frozen BK190.out 1
              have hfz13_2 := blk_frozen BK190.out 2
              go_wp2
              go_ret
              exact ⟨by first | rfl | (simp [errW_none, errW_some] <;> rfl) | (simp [*, errW_none, errW_some] <;> rfl), by repeat (first | (with_reducible first | exact HB.out | apply below_alloc | apply pw_below_drewN | apply below_drew1 | refine below_set ?_ GE190.out) | exact HB.out)⟩

/-! ### towncrierlaw06_Few: function 15 -/
mutual
def towncrierlaw06_Few.j0 : Nat → Bool → ByteArray → Int → List (S38) → Option (Bool)
  | 0, _, _, _, _ => none
  | k + 1, x13, x193000, x193001, x193002 => if x13 = true then (some false) else (towncrierlaw06_Few.l0 k 0 x193000 x193001 x193002)
def towncrierlaw06_Few.l0 : Nat → Int → ByteArray → Int → List (S38) → Option (Bool)
  | 0, _, _, _, _ => none
  | k + 1, x3, x193000, x193001, x193002 => if x3 < (x193002.length : Int) then (if 0 ≤ x3 then (if (((rd_T38 x193002 x3).f2).size : Int) > 100 then (some false) else (towncrierlaw06_Few.l0 k (wrap64 (x3 + 1)) x193000 x193001 x193002)) else (none)) else (some true)
end
def towncrierlaw06_Few.f (k : Nat) (a0_0 : ByteArray) (a0_1 : Int) (l0_2 : List (S38)) : Option (Bool) := if (a0_0.size : Int) > 60 then (towncrierlaw06_Few.j0 k true a0_0 a0_1 l0_2) else (towncrierlaw06_Few.j0 k (decide ((l0_2.length : Int) > 10)) a0_0 a0_1 l0_2)
theorem towncrierlaw06_Few.mono_l : ∀ k, (∀ y0 y1 y2 y3, LeO (towncrierlaw06_Few.j0 k y0 y1 y2 y3) (towncrierlaw06_Few.j0 (k + 1) y0 y1 y2 y3)) ∧ (∀ y0 y1 y2 y3, LeO (towncrierlaw06_Few.l0 k y0 y1 y2 y3) (towncrierlaw06_Few.l0 (k + 1) y0 y1 y2 y3))
  | 0 => ⟨fun _ _ _ _ r h => by simp [towncrierlaw06_Few.j0] at h, fun _ _ _ _ r h => by simp [towncrierlaw06_Few.l0] at h⟩
  | k + 1 => by
    obtain ⟨ih0, ih1⟩ := towncrierlaw06_Few.mono_l k
    refine ⟨?_, ?_⟩
    · intro y0 y1 y2 y3
      unfold towncrierlaw06_Few.j0
      repeat' first
      | (with_reducible exact ih0 _ _ _ _)
      | (with_reducible exact ih1 _ _ _ _)
      | (with_reducible exact LeO.refl _)
      | (with_reducible exact LeO.none _)
      | (with_reducible refine LeO.ite ?_ ?_)
      | (with_reducible refine LeO.bind ?_ (fun _ => ?_))
      | exact ih0 _ _ _ _
      | exact ih1 _ _ _ _
      | exact LeO.none _
      | refine LeO.ite ?_ ?_
      | refine LeO.bind ?_ (fun _ => ?_)
    · intro y0 y1 y2 y3
      unfold towncrierlaw06_Few.l0
      repeat' first
      | (with_reducible exact ih0 _ _ _ _)
      | (with_reducible exact ih1 _ _ _ _)
      | (with_reducible exact LeO.refl _)
      | (with_reducible exact LeO.none _)
      | (with_reducible refine LeO.ite ?_ ?_)
      | (with_reducible refine LeO.bind ?_ (fun _ => ?_))
      | exact ih0 _ _ _ _
      | exact ih1 _ _ _ _
      | exact LeO.none _
      | refine LeO.ite ?_ ?_
      | refine LeO.bind ?_ (fun _ => ?_)
theorem towncrierlaw06_Few.mono : ∀ a0 a1 a2 k, LeO (towncrierlaw06_Few.f k a0 a1 a2) (towncrierlaw06_Few.f (k + 1) a0 a1 a2) := by
  intro a0 a1 a2 k
  obtain ⟨ih0, ih1⟩ := towncrierlaw06_Few.mono_l k
  unfold towncrierlaw06_Few.f
  repeat' first
      | (with_reducible exact ih0 _ _ _ _)
      | (with_reducible exact ih1 _ _ _ _)
      | (with_reducible exact LeO.refl _)
      | (with_reducible exact LeO.none _)
      | (with_reducible refine LeO.ite ?_ ?_)
      | (with_reducible refine LeO.bind ?_ (fun _ => ?_))
      | exact ih0 _ _ _ _
      | exact ih1 _ _ _ _
      | exact LeO.none _
      | refine LeO.ite ?_ ?_
      | refine LeO.bind ?_ (fun _ => ?_)
set_option maxHeartbeats 8000000 in
set_option maxRecDepth 100000 in
theorem towncrierlaw06_Few.calls (k : Nat) (a0_0 : ByteArray) (a0_1 : Int) (A0_2 : Option Addr) (c0_2 : Nat) (l0_2 : List (S38)) (r : Bool) (w : World) (hr0_2 : Kd.C k38 w A0_2 l0_2.length l0_2) (hc0_2 : l0_2.length ≤ c0_2) (h : towncrierlaw06_Few.f k a0_0 a0_1 l0_2 = some r) :
    Calls Try.prog 15 #[.agg #[.string a0_0, .int .i64 a0_1, .slice A0_2 l0_2.length c0_2]] w fun e w' => e = .returned (.bool r) ∧ Below w.heap.size w w' := by
  have hu27 := Try.underlying27
  have HR0_2 := Aside0.mk hr0_2
  have HC0_2 := Aside0.mk hc0_2
  clear hr0_2 hc0_2
  have HB := Aside0.mk (Below.refl w.heap.size w)
  have H : (if (a0_0.size : Int) > 60 then (towncrierlaw06_Few.j0 k true a0_0 a0_1 l0_2) else (towncrierlaw06_Few.j0 k (decide ((l0_2.length : Int) > 10)) a0_0 a0_1 l0_2)) = some r := h
  clear h
  have HC2 := Aside0.mk H
  clear H
  go_enter Try.func15, Try.ntmps15
  go_upto_region 1 with (first | ((with_reducible refine gate_dst (N := 1) rfl ?_); (try (refine gate_guard (by rfl) ?_; dsimp only)); refine box_event ?hg (N := 1) ?hd (cs := #[.string a0_0, .int .i64 a0_1, .slice A0_2 l0_2.length c0_2]) (t := 27) ?hr ?_; (case hd => rfl); (case hg => rfl); (case hr => first | (go_simp; done) | (go_simp; rfl)); intro gb192 hg w3 hbox hb; have n0_ := Aside0.mk (below_step (by repeat (first | (with_reducible first | exact HB.out | apply below_alloc | apply pw_below_drewN | apply below_drew1) | exact HB.out)) hb); have n1_ := Aside0.mk (hbox); have n2_ := Aside0.mk ((by rw [hg]; exact (below_size (by repeat (first | (with_reducible first | exact HB.out | apply below_alloc | apply pw_below_drewN | apply below_drew1) | exact HB.out))) : w.heap.size ≤ gb192)); have n3_ := Aside0.mk ((by rw [hg]; exact (below_size (by repeat (first | (with_reducible first | exact HB.out | apply below_alloc | apply pw_below_drewN | apply below_drew1) | exact HB.out))) : w.heap.size ≤ gb192)); clear HB; have HB := n0_; have BK192 := n1_; have GW192 := n2_; have GE192 := n3_; clear n0_ n1_ n2_ n3_; clear hb hbox hg))
  (try simp only [Act.put, List.setIfInBounds_toArray, List.set_cons_zero, List.set_cons_succ])
  go_cut [13] (fun v13 wc => ∃ (kq : Nat) (x13_1 : Bool), v13 = .bool x13_1 ∧ Aside0 (towncrierlaw06_Few.j0 kq x13_1 a0_0 a0_1 l0_2 = some r) ∧ Aside0 (kq ≤ k) ∧ Aside0 (wc.heap[gb192]? = some (.cells #[.string a0_0, .int .i64 a0_1, (.slice A0_2 l0_2.length c0_2)] 27 (0, 0))) ∧ Aside0 (Below w.heap.size w wc))
  case first =>
    have H := HC2.out
    clear HC2
    by_cases c4 : (a0_0.size : Int) > 60
    · rw [if_pos c4] at H
      have c4b0 : decide (60 < (a0_0.size : Int)) = true := decide_eq_true c4
      have c4b1 : decide (60 < a0_0.size) = true := decide_eq_true (by omega)
      clear c4
      (first | rw [c4b0] | (simp only [i64_w, i32_w]; rw [c4b0]) | skip)
      have H' := Aside0.mk H
      clear H
      have hcz5_0 : w3.cell? ⟨gb192, 0, none⟩ = some (.string a0_0) := (blk_cell BK192.out 0).trans rfl
      have hcz5_1 : w3.cell? ⟨gb192, 1, none⟩ = some (.int .i64 a0_1) := (blk_cell BK192.out 1).trans rfl
      have hcz5_2 : w3.cell? ⟨gb192, 2, none⟩ = some (.slice A0_2 l0_2.length c0_2) := (blk_cell BK192.out 2).trans rfl
      have hfz5_0 := blk_frozen BK192.out 0
      have hfz5_1 := blk_frozen BK192.out 1
      have hfz5_2 := blk_frozen BK192.out 2
      go_wp2
      go_meet
      case rel => exact ⟨_, (true), (by first | rfl | (simp; done) | (simp [*]; done)), H', ⟨by first | omega | exact Nat.le_refl _⟩, ⟨by (with_reducible repeat (first | refine blk_drewN ?_ _ | refine blk_drew ?_ | refine blk_alloc ?_ _)); exact BK192.out⟩, ⟨by repeat (first | (with_reducible first | exact HB.out | apply below_alloc | apply pw_below_drewN | apply below_drew1 | refine below_set ?_ GE192.out) | exact HB.out)⟩⟩
    · rw [if_neg c4] at H
      have c4b0 : decide (60 < (a0_0.size : Int)) = false := decide_eq_false c4
      have c4b1 : decide (60 < a0_0.size) = false := decide_eq_false (by omega)
      clear c4
      (first | rw [c4b0] | (simp only [i64_w, i32_w]; rw [c4b0]) | skip)
      have H' := Aside0.mk H
      clear H
      have hcz6_0 : w3.cell? ⟨gb192, 0, none⟩ = some (.string a0_0) := (blk_cell BK192.out 0).trans rfl
      have hcz6_1 : w3.cell? ⟨gb192, 1, none⟩ = some (.int .i64 a0_1) := (blk_cell BK192.out 1).trans rfl
      have hcz6_2 : w3.cell? ⟨gb192, 2, none⟩ = some (.slice A0_2 l0_2.length c0_2) := (blk_cell BK192.out 2).trans rfl
      have hfz6_0 := blk_frozen BK192.out 0
      have hfz6_1 := blk_frozen BK192.out 1
      have hfz6_2 := blk_frozen BK192.out 2
      go_wp2
      go_meet
      case rel => exact ⟨_, (decide ((l0_2.length : Int) > 10)), (by first | rfl | (simp; done) | (simp [*]; done)), H', ⟨by first | omega | exact Nat.le_refl _⟩, ⟨by (with_reducible repeat (first | refine blk_drewN ?_ _ | refine blk_drew ?_ | refine blk_alloc ?_ _)); exact BK192.out⟩, ⟨by repeat (first | (with_reducible first | exact HB.out | apply below_alloc | apply pw_below_drewN | apply below_drew1 | refine below_set ?_ GE192.out) | exact HB.out)⟩⟩
  case rest =>
    clear HC2
    try clear c1
    try clear p2
    try clear c4
    try clear c4b0
    try clear c4b1
    try clear hcz5_0
    try clear hcz5_1
    try clear hcz5_2
    try clear hcz6_0
    try clear hcz6_1
    try clear hcz6_2
    try clear hfz5_0
    try clear hfz5_1
    try clear hfz5_2
    try clear hfz6_0
    try clear hfz6_1
    try clear hfz6_2
    obtain ⟨kq, x13_1, rfl, HA, HJ1, BK192, HB⟩ := hcut
    cases kq with
    | zero => exact absurd HA.out (by simp [towncrierlaw06_Few.j0])
    | succ kj1 =>
      have H := HA.out
      clear HA
      simp only [towncrierlaw06_Few.j0] at H
      by_cases c7 : x13_1 = true
      · subst c7
        have H1 : (some false) = some r := by rw [if_pos rfl] at H; exact H
        clear H
        have H := H1
        clear H1
        obtain rfl := Option.some.inj H
        go_wp2
        go_ret
        exact ⟨by first | rfl | (simp [errW_none, errW_some] <;> rfl) | (simp [*, errW_none, errW_some] <;> rfl), by repeat (first | (with_reducible first | exact HB.out | apply below_alloc | apply pw_below_drewN | apply below_drew1 | refine below_set ?_ GE192.out) | exact HB.out)⟩
      · replace c7 := Bool.eq_false_iff.mpr c7
        subst c7
        have H1 : (towncrierlaw06_Few.l0 kj1 0 a0_0 a0_1 l0_2) = some r := by rw [if_neg (show ¬ (false = true) by decide)] at H; exact H
        clear H
        have H := H1
        clear H1
        have H' := Aside0.mk H
        clear H
        go_wp2
        go_loopg [3] kj1 (fun kq v3 w' => ∃ (x3_2 : Int), v3 = .int .i64 x3_2 ∧ Aside0 (towncrierlaw06_Few.l0 kq x3_2 a0_0 a0_1 l0_2 = some r) ∧ Aside0 (kq ≤ kj1) ∧ Aside0 (w'.heap[gb192]? = some (.cells #[.string a0_0, .int .i64 a0_1, (.slice A0_2 l0_2.length c0_2)] 27 (0, 0))) ∧ Aside0 (Below w.heap.size w w'))
        case atStart => exact ⟨(0), (by first | rfl | (simp; done) | (simp [*]; done)), H', ⟨Nat.le_refl _⟩, ⟨by (with_reducible repeat (first | refine blk_drewN ?_ _ | refine blk_drew ?_ | refine blk_alloc ?_ _)); exact BK192.out⟩, ⟨by repeat (first | (with_reducible first | exact HB.out | apply below_alloc | apply pw_below_drewN | apply below_drew1 | refine below_set ?_ GE192.out) | exact HB.out)⟩⟩
        case round =>
          clear H'
          try clear c1
          try clear p2
          try clear c4
          try clear c4b0
          try clear c4b1
          try clear c7
          try clear hcz5_0
          try clear hcz5_1
          try clear hcz5_2
          try clear hcz6_0
          try clear hcz6_1
          try clear hcz6_2
          try clear hfz5_0
          try clear hfz5_1
          try clear hfz5_2
          try clear hfz6_0
          try clear hfz6_1
          try clear hfz6_2
          try clear p2
          obtain ⟨x3_2, rfl, HA, HK2, BK192, HB⟩ := hrel
          cases gk with
          | zero => exact absurd HA.out (by simp [towncrierlaw06_Few.l0])
          | succ k2 =>
            have H := HA.out
            clear HA
            simp only [towncrierlaw06_Few.l0] at H
            by_cases c8 : x3_2 < (l0_2.length : Int)
            · rw [if_pos c8] at H
              have c8b0 : decide (x3_2 < (l0_2.length : Int)) = true := decide_eq_true c8
              clear c8
              by_cases c9 : 0 ≤ x3_2
              · rw [if_pos c9] at H
                have c9b0 : decide (0 ≤ x3_2) = true := decide_eq_true c9
                clear c9
                by_cases c10 : (((rd_T38 l0_2 x3_2).f2).size : Int) > 100
                · rw [if_pos c10] at H
                  have c10b0 : decide (100 < (((rd_T38 l0_2 x3_2).f2).size : Int)) = true := decide_eq_true c10
                  have c10b1 : decide (100 < ((rd_T38 l0_2 x3_2).f2).size) = true := decide_eq_true (by omega)
                  clear c10
                  obtain rfl := Option.some.inj H
                  have hcz11_0 : wr.cell? ⟨gb192, 0, none⟩ = some (.string a0_0) := (blk_cell BK192.out 0).trans rfl
                  have hcz11_1 : wr.cell? ⟨gb192, 1, none⟩ = some (.int .i64 a0_1) := (blk_cell BK192.out 1).trans rfl
                  have hcz11_2 : wr.cell? ⟨gb192, 2, none⟩ = some (.slice A0_2 l0_2.length c0_2) := (blk_cell BK192.out 2).trans rfl
                  have hfz11_0 := blk_frozen BK192.out 0
                  have hfz11_1 := blk_frozen BK192.out 1
                  have hfz11_2 := blk_frozen BK192.out 2
                  have p193 : 0 ≤ (x3_2 : Int) := of_decide_eq_true (by first | (with_reducible assumption) | assumption)
                  have q193 : x3_2 < (l0_2.length : Int) := of_decide_eq_true (by first | (with_reducible assumption) | assumption)
                  obtain ⟨ad193, e193, hx193_0, hx193_1, hx193_2⟩ := at_T38 HR0_2.out x3_2 p193 q193
                  cases e193
                  replace hx193_0 := (HB.out.cell (World.block_lt_of_cell? w _ hx193_0)).trans hx193_0
                  replace hx193_1 := (HB.out.cell (World.block_lt_of_cell? w _ hx193_1)).trans hx193_1
                  replace hx193_2 := (HB.out.cell (World.block_lt_of_cell? w _ hx193_2)).trans hx193_2
                  replace p193 := eq_true p193
                  replace q193 := eq_true q193
                  go_wp2
                  go_ret
                  exact ⟨by first | rfl | (simp [errW_none, errW_some] <;> rfl) | (simp [*, errW_none, errW_some] <;> rfl), by repeat (first | (with_reducible first | exact HB.out | apply below_alloc | apply pw_below_drewN | apply below_drew1 | refine below_set ?_ GE192.out) | exact HB.out)⟩
                · rw [if_neg c10] at H
                  have c10b0 : decide (100 < (((rd_T38 l0_2 x3_2).f2).size : Int)) = false := decide_eq_false c10
                  have c10b1 : decide (100 < ((rd_T38 l0_2 x3_2).f2).size) = false := decide_eq_false (by omega)
                  clear c10
                  have H' := Aside0.mk H
                  clear H
                  have hcz12_0 : wr.cell? ⟨gb192, 0, none⟩ = some (.string a0_0) := (blk_cell BK192.out 0).trans rfl
                  have hcz12_1 : wr.cell? ⟨gb192, 1, none⟩ = some (.int .i64 a0_1) := (blk_cell BK192.out 1).trans rfl
                  have hcz12_2 : wr.cell? ⟨gb192, 2, none⟩ = some (.slice A0_2 l0_2.length c0_2) := (blk_cell BK192.out 2).trans rfl
                  have hfz12_0 := blk_frozen BK192.out 0
                  have hfz12_1 := blk_frozen BK192.out 1
                  have hfz12_2 := blk_frozen BK192.out 2
                  have p193 : 0 ≤ (x3_2 : Int) := of_decide_eq_true (by first | (with_reducible assumption) | assumption)
                  have q193 : x3_2 < (l0_2.length : Int) := of_decide_eq_true (by first | (with_reducible assumption) | assumption)
                  obtain ⟨ad193, e193, hx193_0, hx193_1, hx193_2⟩ := at_T38 HR0_2.out x3_2 p193 q193
                  cases e193
                  replace hx193_0 := (HB.out.cell (World.block_lt_of_cell? w _ hx193_0)).trans hx193_0
                  replace hx193_1 := (HB.out.cell (World.block_lt_of_cell? w _ hx193_1)).trans hx193_1
                  replace hx193_2 := (HB.out.cell (World.block_lt_of_cell? w _ hx193_2)).trans hx193_2
                  replace p193 := eq_true p193
                  replace q193 := eq_true q193
                  go_wp2
                  go_roundg k2
                  case measure => have := HJ1.out; have := HK2.out; omega
                  case rel => exact ⟨(wrap64 (x3_2 + 1)), (by first | rfl | (simp; done) | (simp [*]; done)), H', ⟨by have := HJ1.out; have := HK2.out; omega⟩, ⟨by (with_reducible repeat (first | refine blk_drewN ?_ _ | refine blk_drew ?_ | refine blk_alloc ?_ _)); exact BK192.out⟩, ⟨by repeat (first | (with_reducible first | exact HB.out | apply below_alloc | apply pw_below_drewN | apply below_drew1 | refine below_set ?_ GE192.out) | exact HB.out)⟩⟩
              · rw [if_neg c9] at H
                exact absurd H (by simp)
            · rw [if_neg c8] at H
              have c8b0 : decide (x3_2 < (l0_2.length : Int)) = false := decide_eq_false c8
              clear c8
              obtain rfl := Option.some.inj H
              have hcz13_0 : wr.cell? ⟨gb192, 0, none⟩ = some (.string a0_0) := (blk_cell BK192.out 0).trans rfl
              have hcz13_1 : wr.cell? ⟨gb192, 1, none⟩ = some (.int .i64 a0_1) := (blk_cell BK192.out 1).trans rfl
              have hcz13_2 : wr.cell? ⟨gb192, 2, none⟩ = some (.slice A0_2 l0_2.length c0_2) := (blk_cell BK192.out 2).trans rfl
              have hfz13_0 := blk_frozen BK192.out 0
              have hfz13_1 := blk_frozen BK192.out 1
              have hfz13_2 := blk_frozen BK192.out 2
              go_wp2
              go_ret
              exact ⟨by first | rfl | (simp [errW_none, errW_some] <;> rfl) | (simp [*, errW_none, errW_some] <;> rfl), by repeat (first | (with_reducible first | exact HB.out | apply below_alloc | apply pw_below_drewN | apply below_drew1 | refine below_set ?_ GE192.out) | exact HB.out)⟩

/-! ### towncrierlaw08_Few: function 16 -/
def towncrierlaw08_Few.l0 : Nat → List (S50) → Int → Option (Bool)
  | 0, _, _ => none
  | k + 1, x0, x3 => if x3 < (x0.length : Int) then (if 0 ≤ x3 then (if (((rd_T50 x0 x3).f2.f2).size : Int) > 100 then (some false) else (towncrierlaw08_Few.l0 k x0 (wrap64 (x3 + 1)))) else (none)) else (some true)
def towncrierlaw08_Few.f (k : Nat) (l0 : List (S50)) : Option (Bool) := if (l0.length : Int) > 20 then (some false) else (towncrierlaw08_Few.l0 k l0 0)
theorem towncrierlaw08_Few.mono_l : ∀ k, (∀ y0 y1, LeO (towncrierlaw08_Few.l0 k y0 y1) (towncrierlaw08_Few.l0 (k + 1) y0 y1))
  | 0 => fun _ _ r h => by simp [towncrierlaw08_Few.l0] at h
  | k + 1 => by
    have ih0 := towncrierlaw08_Few.mono_l k
    · intro y0 y1
      unfold towncrierlaw08_Few.l0
      repeat' first
      | (with_reducible exact ih0 _ _)
      | (with_reducible exact LeO.refl _)
      | (with_reducible exact LeO.none _)
      | (with_reducible refine LeO.ite ?_ ?_)
      | (with_reducible refine LeO.bind ?_ (fun _ => ?_))
      | exact ih0 _ _
      | exact LeO.none _
      | refine LeO.ite ?_ ?_
      | refine LeO.bind ?_ (fun _ => ?_)
theorem towncrierlaw08_Few.mono : ∀ a0 k, LeO (towncrierlaw08_Few.f k a0) (towncrierlaw08_Few.f (k + 1) a0) := by
  intro a0 k
  have ih0 := towncrierlaw08_Few.mono_l k
  unfold towncrierlaw08_Few.f
  repeat' first
      | (with_reducible exact ih0 _ _)
      | (with_reducible exact LeO.refl _)
      | (with_reducible exact LeO.none _)
      | (with_reducible refine LeO.ite ?_ ?_)
      | (with_reducible refine LeO.bind ?_ (fun _ => ?_))
      | exact ih0 _ _
      | exact LeO.none _
      | refine LeO.ite ?_ ?_
      | refine LeO.bind ?_ (fun _ => ?_)
set_option maxHeartbeats 8000000 in
set_option maxRecDepth 100000 in
theorem towncrierlaw08_Few.calls (k : Nat) (A0 : Option Addr) (c0 : Nat) (l0 : List (S50)) (r : Bool) (w : World) (hr0 : Kd.C k50 w A0 l0.length l0) (hc0 : l0.length ≤ c0) (h : towncrierlaw08_Few.f k l0 = some r) :
    Calls Try.prog 16 #[.slice A0 l0.length c0] w fun e w' => e = .returned (.bool r) ∧ Drawn0 w w' := by
  have HR0 := Aside0.mk hr0
  have HC0 := Aside0.mk hc0
  clear hr0 hc0
  have H : (if (l0.length : Int) > 20 then (some false) else (towncrierlaw08_Few.l0 k l0 0)) = some r := h
  clear h
  by_cases c2 : (l0.length : Int) > 20
  · rw [if_pos c2] at H
    have c2b0 : decide (20 < (l0.length : Int)) = true := decide_eq_true c2
    have c2b1 : decide (20 < l0.length) = true := decide_eq_true (by omega)
    clear c2
    obtain rfl := Option.some.inj H
    go_enter Try.func16, Try.ntmps16
    go_wp2
    go_ret
    exact ⟨by first | rfl | (simp; done) | (simp [*]; done), by repeat (first | exact Drawn0.refl _ | apply Drawn0.step)⟩
  · rw [if_neg c2] at H
    have c2b0 : decide (20 < (l0.length : Int)) = false := decide_eq_false c2
    have c2b1 : decide (20 < l0.length) = false := decide_eq_false (by omega)
    clear c2
    have H' := Aside0.mk H
    clear H
    go_enter Try.func16, Try.ntmps16
    go_wp2
    go_loopg [3] k (fun kq v3 w' => ∃ (x3_1 : Int), v3 = .int .i64 x3_1 ∧ Aside0 (towncrierlaw08_Few.l0 kq l0 x3_1 = some r) ∧ Aside0 (kq ≤ k) ∧ Drawn0 w w')
    case atStart => exact ⟨(0), (by first | rfl | (simp; done) | (simp [*]; done)), H', ⟨Nat.le_refl _⟩, by repeat (first | exact Drawn0.refl _ | apply Drawn0.step)⟩
    case round =>
      clear H'
      try clear c1
      try clear c2
      try clear c2b0
      try clear c2b1
      try clear p2
      obtain ⟨x3_1, rfl, HA, HK1, ⟨m1, rfl⟩⟩ := hrel
      cases gk with
      | zero => exact absurd HA.out (by simp [towncrierlaw08_Few.l0])
      | succ k1 =>
        have H := HA.out
        clear HA
        simp only [towncrierlaw08_Few.l0] at H
        by_cases c3 : x3_1 < (l0.length : Int)
        · rw [if_pos c3] at H
          have c3b0 : decide (x3_1 < (l0.length : Int)) = true := decide_eq_true c3
          clear c3
          by_cases c4 : 0 ≤ x3_1
          · rw [if_pos c4] at H
            have c4b0 : decide (0 ≤ x3_1) = true := decide_eq_true c4
            clear c4
            by_cases c5 : (((rd_T50 l0 x3_1).f2.f2).size : Int) > 100
            · rw [if_pos c5] at H
              have c5b0 : decide (100 < (((rd_T50 l0 x3_1).f2.f2).size : Int)) = true := decide_eq_true c5
              have c5b1 : decide (100 < ((rd_T50 l0 x3_1).f2.f2).size) = true := decide_eq_true (by omega)
              clear c5
              obtain rfl := Option.some.inj H
              have p194 : 0 ≤ (x3_1 : Int) := of_decide_eq_true (by first | (with_reducible assumption) | assumption)
              have q194 : x3_1 < (l0.length : Int) := of_decide_eq_true (by first | (with_reducible assumption) | assumption)
              obtain ⟨ad194, e194, hx194_0, hx194_1, hx194_2, hx194_3, hx194_4⟩ := at_T50 HR0.out x3_1 p194 q194
              cases e194
              replace p194 := eq_true p194
              replace q194 := eq_true q194
              go_wp2
              go_ret
              exact ⟨by first | rfl | (simp; done) | (simp [*]; done), by repeat (first | exact Drawn0.refl _ | apply Drawn0.step)⟩
            · rw [if_neg c5] at H
              have c5b0 : decide (100 < (((rd_T50 l0 x3_1).f2.f2).size : Int)) = false := decide_eq_false c5
              have c5b1 : decide (100 < ((rd_T50 l0 x3_1).f2.f2).size) = false := decide_eq_false (by omega)
              clear c5
              have H' := Aside0.mk H
              clear H
              have p194 : 0 ≤ (x3_1 : Int) := of_decide_eq_true (by first | (with_reducible assumption) | assumption)
              have q194 : x3_1 < (l0.length : Int) := of_decide_eq_true (by first | (with_reducible assumption) | assumption)
              obtain ⟨ad194, e194, hx194_0, hx194_1, hx194_2, hx194_3, hx194_4⟩ := at_T50 HR0.out x3_1 p194 q194
              cases e194
              replace p194 := eq_true p194
              replace q194 := eq_true q194
              go_wp2
              go_roundg k1
              case measure => have := HK1.out; omega
              case rel => exact ⟨(wrap64 (x3_1 + 1)), (by first | rfl | (simp; done) | (simp [*]; done)), H', ⟨by have := HK1.out; omega⟩, by repeat (first | exact Drawn0.refl _ | apply Drawn0.step)⟩
          · rw [if_neg c4] at H
            exact absurd H (by simp)
        · rw [if_neg c3] at H
          have c3b0 : decide (x3_1 < (l0.length : Int)) = false := decide_eq_false c3
          clear c3
          obtain rfl := Option.some.inj H
          go_wp2
          go_ret
          exact ⟨by first | rfl | (simp; done) | (simp [*]; done), by repeat (first | exact Drawn0.refl _ | apply Drawn0.step)⟩
end

section
open Go.RowKit Go.Proofs.YteommchgnocgnaaW.PrintWords Go.Proofs.YteommchgnocgnaaW.PrintLast Go.Proofs.YteommchgnocgnaaW.PrintMore
set_option linter.unusedVariables false
set_option linter.unusedSimpArgs false

theorem few06_l {nm : ByteArray} {at_ : Int} {vs : List S38} (hl : vs.length ≤ 10) : ∀ (n i : Nat), vs.length - i < n → i ≤ vs.length → ∃ b, towncrierlaw06_Few.l0 n (i : Int) nm at_ vs = some b := by
  intro n
  induction n with
  | zero => intro i h; omega
  | succ n ih =>
    intro i h hi
    simp only [towncrierlaw06_Few.l0]
    by_cases h1 : (i : Int) < (vs.length : Int)
    · rw [if_pos h1, if_pos (by omega)]
      by_cases h2 : ((rd_T38 vs (i : Int)).f2.size : Int) > 100
      · rw [if_pos h2]; exact ⟨_, rfl⟩
      · rw [if_neg h2, wrap64_id (by omega) (by omega)]
        have := ih (i + 1) (by omega) (by omega)
        simpa using this
    · rw [if_neg h1]; exact ⟨_, rfl⟩
theorem few06_some (nm : ByteArray) (at_ : Int) (vs : List S38) : ∃ b, towncrierlaw06_Few.f 13 nm at_ vs = some b := by
  unfold towncrierlaw06_Few.f
  by_cases h : (nm.size : Int) > 60
  · rw [if_pos h]; exact ⟨false, rfl⟩
  · rw [if_neg h]
    by_cases hl : (vs.length : Int) > 10
    · rw [decide_eq_true hl]; exact ⟨false, rfl⟩
    · rw [decide_eq_false hl]
      simp only [towncrierlaw06_Few.j0]
      rw [if_neg (by decide)]
      exact few06_l (by omega) 12 0 (by omega) (by omega)
end

end Go.Proofs.Yteommchgnocgnaa.PE
