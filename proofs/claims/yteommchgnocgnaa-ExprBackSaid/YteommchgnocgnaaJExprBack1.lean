/- Part 1 of the proof of ExprBack: contracts of the functions that it reaches, by walks through their code, and plain laws of what they compute, joined by a program. Conditions: none. -/
import Derived.Test.YteommchgnocgnaaProg
import Derived.Below
import Derived.Deep.Draws
import Derived.Deep.AppendLies
import Derived.Maps.AppendAt
import Derived.OwnWalk
import Derived.Laws.BytesArg
import Derived.Laws.MakeOwn
import Derived.Laws.OwnMore
import Derived.Deep.OwnRows
import Derived.Tactics
import Derived.Lib.ConvBytes
import Derived.Laws.Slices
import Derived.WalkKit
import Derived.KernelRfl
import Derived.RowKit3
import Derived.Deep.LoopGhost
import Derived.Deep.QuietTactic
import Derived.BigQuiet
import Derived.WideLaws
import Derived.Deep.DeepCutAuto
import Derived.Deep.CutBlock
import Derived.Deep.RegionHeld3
import Derived.Laws.Rows
import Derived.Lib.AppendStr
import Derived.ArgAppend
import Derived.Laws.IdiomCopy
import Derived.OrdersHeld
import Derived.Laws.BitsLemmas
import Derived.RowKit
import Derived.Test.YteommchgnocgnaaJExprBack0
import Derived.Laws.Cover1
import Derived.Lib.SliceRun
import Derived.Laws.RangeAny
section
namespace Go.Proofs.Yteommchgnocgnaa.PE
open Go.RowKit Go.Proofs.YteommchgnocgnaaW.PrintWords Go.Proofs.YteommchgnocgnaaW.PrintLast Go.Proofs.YteommchgnocgnaaW.PrintMore
attribute [local go_sem] max2_int min2_int max_two min_two max_three min_three max_four min_four   -- for this text's walks alone
set_option linter.unusedVariables false
set_option linter.unusedSimpArgs false



def errW : Option Int → Value
  | none => .nilIface
  | some c => .iface 0 (.int .i64 c)
theorem errW_none : errW none = .nilIface := rfl
theorem errW_some (c : Int) : errW (some c) = .iface 0 (.int .i64 c) := rfl

theorem info3 : (Try.prog.info? 3).map (fun i => (i.zero, i.size, i.bytes)) = some (some (.int .i64 0), 1, 8) := by kernel_rfl
theorem info5 : (Try.prog.info? 5).map (fun i => (i.zero, i.size, i.bytes)) = some (some (.int .u8 0), 1, 1) := by kernel_rfl
theorem info38 : (Try.prog.info? 38).map (fun i => (i.zero, i.size, i.bytes)) = some (some (.agg #[(.int .i64 0), (.int .i64 0), (.string ⟨#[]⟩)]), 3, 32) := by kernel_rfl
theorem info50 : (Try.prog.info? 50).map (fun i => (i.zero, i.size, i.bytes)) = some (some (.agg #[(.int .i64 0), (.int .i64 0), (.int .i64 0), (.int .i64 0), (.string ⟨#[]⟩)]), 5, 48) := by kernel_rfl
-- the values' own types
/-! #### struct type 38 -/
structure S38 where
  f0 : Int
  f1 : Int
  f2 : ByteArray
def z38 : S38 := ⟨(0 : Int), (0 : Int), (⟨#[]⟩ : ByteArray)⟩
def k38 : Kd S38 := Kd.iso (Kd.pair (Kd.int .i64) (Kd.pair (Kd.int .i64) Kd.string)) (fun x : S38 => (x.f0, x.f1, x.f2))
theorem k38_open {w : World} {x : S38} {cs : List Value} (h : k38.K w x cs) : cs = [.int .i64 x.f0, .int .i64 x.f1, .string x.f2] := by
  obtain ⟨_, _, rfl, rfl, ⟨_, _, rfl, rfl, rfl⟩⟩ := h
  exact rfl
theorem k38_openM {w : World} {base : Nat} {ok : Nat → Prop} {x : S38} {cs : List Value} (h : k38.M w base ok x cs) : cs = [.int .i64 x.f0, .int .i64 x.f1, .string x.f2] := by
  obtain ⟨_, _, rfl, rfl, ⟨_, _, rfl, rfl, rfl⟩⟩ := h
  exact rfl
theorem k38_mk (w : World) (x : S38)  : k38.K w x [.int .i64 x.f0, .int .i64 x.f1, .string x.f2] := ⟨[.int .i64 x.f0], [.int .i64 x.f1, .string x.f2], rfl, rfl, ⟨[.int .i64 x.f1], [.string x.f2], rfl, rfl, rfl⟩⟩
theorem k38_mkM (w : World) (base : Nat) (ok : Nat → Prop) (x : S38)  : k38.M w base ok x [.int .i64 x.f0, .int .i64 x.f1, .string x.f2] := ⟨[.int .i64 x.f0], [.int .i64 x.f1, .string x.f2], rfl, rfl, ⟨[.int .i64 x.f1], [.string x.f2], rfl, rfl, rfl⟩⟩
def rd_T38 (xs : List S38) (i : Int) : S38 := xs.getD i.toNat z38
theorem at_T38 {w : World} {A : Option Addr} {n : Nat} {xs : List S38} (h : Kd.C k38 w A n xs) (i : Int) (h0 : 0 ≤ i) (h1 : i < n) : ∃ ad , A = some ad ∧ w.cell? (ad.add (i.toNat * 3)) = some (.int .i64 (rd_T38 xs i).f0) ∧ w.cell? ⟨(ad.add (i.toNat * 3)).block, (ad.add (i.toNat * 3)).off + 1, none⟩ = some (.int .i64 (rd_T38 xs i).f1) ∧ w.cell? ⟨(ad.add (i.toNat * 3)).block, (ad.add (i.toNat * 3)).off + 2, none⟩ = some (.string (rd_T38 xs i).f2) := by
  obtain ⟨ad, c, e, _, hK, hc0⟩ := Kd.C_get h z38 i h0 h1
  have hc : ∀ j u, c[j]? = some u → w.cell? (ad.add (i.toNat * 3 + j)) = some u := hc0
  obtain rfl := k38_open hK
  exact ⟨ad, e, hc 0 _ rfl, by rw [← add_field _ _ 1 (by omega)]; exact hc 1 _ rfl, by rw [← add_field _ _ 2 (by omega)]; exact hc 2 _ rfl⟩

/-! #### struct type 50 -/
structure S50 where
  f0 : Int
  f1 : Int
  f2 : S38
def z50 : S50 := ⟨(0 : Int), (0 : Int), z38⟩
def k50 : Kd S50 := Kd.iso (Kd.pair (Kd.int .i64) (Kd.pair (Kd.int .i64) k38)) (fun x : S50 => (x.f0, x.f1, x.f2))
theorem k50_open {w : World} {x : S50} {cs : List Value} (h : k50.K w x cs) : cs = [.int .i64 x.f0, .int .i64 x.f1, .int .i64 x.f2.f0, .int .i64 x.f2.f1, .string x.f2.f2] := by
  obtain ⟨_, _, rfl, rfl, ⟨_, _, rfl, rfl, s2⟩⟩ := h
  obtain rfl := k38_open s2
  exact rfl
theorem k50_openM {w : World} {base : Nat} {ok : Nat → Prop} {x : S50} {cs : List Value} (h : k50.M w base ok x cs) : cs = [.int .i64 x.f0, .int .i64 x.f1, .int .i64 x.f2.f0, .int .i64 x.f2.f1, .string x.f2.f2] := by
  obtain ⟨_, _, rfl, rfl, ⟨_, _, rfl, rfl, s2⟩⟩ := h
  obtain rfl := k38_openM s2
  exact rfl
theorem k50_mk (w : World) (x : S50)  : k50.K w x [.int .i64 x.f0, .int .i64 x.f1, .int .i64 x.f2.f0, .int .i64 x.f2.f1, .string x.f2.f2] := ⟨[.int .i64 x.f0], [.int .i64 x.f1, .int .i64 x.f2.f0, .int .i64 x.f2.f1, .string x.f2.f2], rfl, rfl, ⟨[.int .i64 x.f1], [.int .i64 x.f2.f0, .int .i64 x.f2.f1, .string x.f2.f2], rfl, rfl, (k38_mk w x.f2 )⟩⟩
theorem k50_mkM (w : World) (base : Nat) (ok : Nat → Prop) (x : S50)  : k50.M w base ok x [.int .i64 x.f0, .int .i64 x.f1, .int .i64 x.f2.f0, .int .i64 x.f2.f1, .string x.f2.f2] := ⟨[.int .i64 x.f0], [.int .i64 x.f1, .int .i64 x.f2.f0, .int .i64 x.f2.f1, .string x.f2.f2], rfl, rfl, ⟨[.int .i64 x.f1], [.int .i64 x.f2.f0, .int .i64 x.f2.f1, .string x.f2.f2], rfl, rfl, (k38_mkM w base ok x.f2 )⟩⟩
def rd_T50 (xs : List S50) (i : Int) : S50 := xs.getD i.toNat z50
theorem at_T50 {w : World} {A : Option Addr} {n : Nat} {xs : List S50} (h : Kd.C k50 w A n xs) (i : Int) (h0 : 0 ≤ i) (h1 : i < n) : ∃ ad , A = some ad ∧ w.cell? (ad.add (i.toNat * 5)) = some (.int .i64 (rd_T50 xs i).f0) ∧ w.cell? ⟨(ad.add (i.toNat * 5)).block, (ad.add (i.toNat * 5)).off + 1, none⟩ = some (.int .i64 (rd_T50 xs i).f1) ∧ w.cell? ⟨(ad.add (i.toNat * 5)).block, (ad.add (i.toNat * 5)).off + 2, none⟩ = some (.int .i64 (rd_T50 xs i).f2.f0) ∧ w.cell? ⟨(ad.add (i.toNat * 5)).block, (ad.add (i.toNat * 5)).off + 3, none⟩ = some (.int .i64 (rd_T50 xs i).f2.f1) ∧ w.cell? ⟨(ad.add (i.toNat * 5)).block, (ad.add (i.toNat * 5)).off + 4, none⟩ = some (.string (rd_T50 xs i).f2.f2) := by
  obtain ⟨ad, c, e, _, hK, hc0⟩ := Kd.C_get h z50 i h0 h1
  have hc : ∀ j u, c[j]? = some u → w.cell? (ad.add (i.toNat * 5 + j)) = some u := hc0
  obtain rfl := k50_open hK
  exact ⟨ad, e, hc 0 _ rfl, by rw [← add_field _ _ 1 (by omega)]; exact hc 1 _ rfl, by rw [← add_field _ _ 2 (by omega)]; exact hc 2 _ rfl, by rw [← add_field _ _ 3 (by omega)]; exact hc 3 _ rfl, by rw [← add_field _ _ 4 (by omega)]; exact hc 4 _ rfl⟩

/-! #### struct type 78 -/
structure S78 where
  f0 : ByteArray
  f1 : Int
def z78 : S78 := ⟨(⟨#[]⟩ : ByteArray), (0 : Int)⟩
def k78 : Kd S78 := Kd.iso (Kd.pair Kd.string (Kd.int .i64)) (fun x : S78 => (x.f0, x.f1))
theorem k78_open {w : World} {x : S78} {cs : List Value} (h : k78.K w x cs) : cs = [.string x.f0, .int .i64 x.f1] := by
  obtain ⟨_, _, rfl, rfl, rfl⟩ := h
  exact rfl
theorem k78_openM {w : World} {base : Nat} {ok : Nat → Prop} {x : S78} {cs : List Value} (h : k78.M w base ok x cs) : cs = [.string x.f0, .int .i64 x.f1] := by
  obtain ⟨_, _, rfl, rfl, rfl⟩ := h
  exact rfl
theorem k78_mk (w : World) (x : S78)  : k78.K w x [.string x.f0, .int .i64 x.f1] := ⟨[.string x.f0], [.int .i64 x.f1], rfl, rfl, rfl⟩
theorem k78_mkM (w : World) (base : Nat) (ok : Nat → Prop) (x : S78)  : k78.M w base ok x [.string x.f0, .int .i64 x.f1] := ⟨[.string x.f0], [.int .i64 x.f1], rfl, rfl, rfl⟩
def rd_T78 (xs : List S78) (i : Int) : S78 := xs.getD i.toNat z78
theorem at_T78 {w : World} {A : Option Addr} {n : Nat} {xs : List S78} (h : Kd.C k78 w A n xs) (i : Int) (h0 : 0 ≤ i) (h1 : i < n) : ∃ ad , A = some ad ∧ w.cell? (ad.add (i.toNat * 2)) = some (.string (rd_T78 xs i).f0) ∧ w.cell? ⟨(ad.add (i.toNat * 2)).block, (ad.add (i.toNat * 2)).off + 1, none⟩ = some (.int .i64 (rd_T78 xs i).f1) := by
  obtain ⟨ad, c, e, _, hK, hc0⟩ := Kd.C_get h z78 i h0 h1
  have hc : ∀ j u, c[j]? = some u → w.cell? (ad.add (i.toNat * 2 + j)) = some u := hc0
  obtain rfl := k78_open hK
  exact ⟨ad, e, hc 0 _ rfl, by rw [← add_field _ _ 1 (by omega)]; exact hc 1 _ rfl⟩

end Go.Proofs.Yteommchgnocgnaa.PE
end

section
namespace Go.Proofs.Yteommchgnocgnaa.PE
open Go.RowKit Go.Proofs.YteommchgnocgnaaW.PrintWords Go.Proofs.YteommchgnocgnaaW.PrintLast Go.Proofs.YteommchgnocgnaaW.PrintMore
set_option linter.unusedVariables false
set_option linter.unusedSimpArgs false

def c38 (x : S38) : List Value := [.int .i64 x.f0, .int .i64 x.f1, .string x.f2]
def c50 (x : S50) : List Value := [.int .i64 x.f0, .int .i64 x.f1, .int .i64 x.f2.f0, .int .i64 x.f2.f1, .string x.f2.f2]
theorem fm_get {α β : Type} (f : α → List β) (n : Nat) (hf : ∀ x, (f x).length = n) : ∀ (xs : List α) (j : Nat) (p : α), xs[j]? = some p → ∀ (i : Nat) (u : β), (f p)[i]? = some u → (xs.flatMap f)[j * n + i]? = some u
  | [], j, p, h, _, _, _ => by simp at h
  | x :: xs, 0, p, h, i, u, hu => by
    simp only [List.getElem?_cons_zero, Option.some.injEq] at h
    subst h
    have hi : i < (f x).length := (List.getElem?_eq_some_iff.1 hu).1
    rw [List.flatMap_cons, Nat.zero_mul, Nat.zero_add, List.getElem?_append_left hi]; exact hu
  | x :: xs, j + 1, p, h, i, u, hu => by
    simp only [List.getElem?_cons_succ] at h
    rw [List.flatMap_cons, List.getElem?_append_right (by rw [hf, Nat.add_mul]; omega), hf]
    rw [show (j + 1) * n + i - n = j * n + i from by rw [Nat.add_mul]; omega]
    exact fm_get f n hf xs j p h i u hu
theorem C_blk {α : Type} (d : Kd α) (f : α → List Value) (hf : ∀ x, (f x).length = d.sz) (hK : ∀ w x, d.K w x (f x)) {W : World} {g : Nat} {t : TypeId} (xs : List α) (hl : xs.length ≤ 1000000) (h : W.heap[g]? = some (.cells (xs.flatMap f).toArray t (0, 0))) : Kd.C d W (some ⟨g, 0, none⟩) xs.length xs :=
  ⟨rfl, by omega, fun _ => ⟨⟨g, 0, none⟩, rfl, fun j p hj => ⟨f p, hf p, hK W p, fun i u hu => by
    have h1 := fm_get f d.sz hf xs j p hj i u hu
    have h2 := blk_cell h (j * d.sz + i)
    rw [List.getElem?_toArray, h1] at h2
    rw [show (⟨g, 0, none⟩ : Addr).add (j * d.sz + i) = ⟨g, j * d.sz + i, none⟩ from by simp [Addr.add]; intro a b; rw [a, b]]
    exact h2⟩⟩⟩
theorem C_blk38 {W : World} {g : Nat} {t : TypeId} (xs : List S38) (hl : xs.length ≤ 1000000) (h : W.heap[g]? = some (.cells (xs.flatMap c38).toArray t (0, 0))) : Kd.C k38 W (some ⟨g, 0, none⟩) xs.length xs := C_blk k38 c38 (fun _ => rfl) (fun w x => k38_mk w x) xs hl h
theorem C_blk50 {W : World} {g : Nat} {t : TypeId} (xs : List S50) (hl : xs.length ≤ 1000000) (h : W.heap[g]? = some (.cells (xs.flatMap c50).toArray t (0, 0))) : Kd.C k50 W (some ⟨g, 0, none⟩) xs.length xs := C_blk k50 c50 (fun _ => rfl) (fun w x => k50_mk w x) xs hl h
theorem C_none38 (W : World) : Kd.C k38 W none 0 [] := ⟨rfl, by omega, fun h => absurd h (by omega)⟩

/-- Blocks that are known whole. -/
def Bl (w : World) (l : List (Nat × Obj)) : Prop := ∀ p, p ∈ l → w.heap[p.1]? = some p.2
theorem Bl.nil (w : World) : Bl w [] := fun p h => by cases h
theorem Bl.below {w w1 : World} {l : List (Nat × Obj)} (h : Bl w l) (hb : Below w.heap.size w w1) : Bl w1 l := fun p hp => blk_below (h p hp) hb
theorem Bl.alloc {w : World} {l : List (Nat × Obj)} (h : Bl w l) (o : Obj) : Bl (w.alloc o) ((w.heap.size, o) :: l) := fun p hp => by
  rcases List.mem_cons.1 hp with rfl | hp
  · exact blk_new w o
  · exact blk_alloc (h p hp) o
theorem Bl.allocAt {w : World} {l : List (Nat × Obj)} (h : Bl w l) (o : Obj) (n : Nat) (hn : w.heap.size = n) : Bl (w.alloc o) ((n, o) :: l) := hn ▸ h.alloc o
theorem Bl.drewN {w : World} {l : List (Nat × Obj)} (h : Bl w l) (n : Nat) : Bl (w.drewN n) l := h
theorem Bl.head {w : World} {l : List (Nat × Obj)} {g : Nat} {o : Obj} (h : Bl w ((g, o) :: l)) : w.heap[g]? = some o := h _ (List.mem_cons_self ..)
theorem Bl.tail {w : World} {l : List (Nat × Obj)} {p : Nat × Obj} (h : Bl w (p :: l)) : Bl w l := fun q hq => h q (List.mem_cons_of_mem _ hq)
theorem Bl.at_ {w : World} {l : List (Nat × Obj)} (h : Bl w l) (i : Nat) {g : Nat} {o : Obj} (e : l[i]? = some (g, o)) : w.heap[g]? = some o := h _ (List.mem_of_getElem? e)
theorem Bl.cell {w : World} {l : List (Nat × Obj)} (h : Bl w l) (i : Nat) {g : Nat} {t : TypeId} {cs : Array Value} (e : l[i]? = some (g, .cells cs t (0, 0))) (j : Nat) {v : Value} (hv : cs[j]? = some v) : w.cell? ⟨g, j, none⟩ = some v := (blk_cell (h.at_ i e) j).trans hv
theorem Bl.lt {w : World} {l : List (Nat × Obj)} (h : Bl w l) (i : Nat) {g : Nat} {o : Obj} (e : l[i]? = some (g, o)) : g < w.heap.size := blk_lt (h.at_ i e)
/-- The walk stops where a goal stands so. -/
def Stop (p : Prop) : Prop := p
theorem stop_ {p : Prop} (h : Stop p) : p := h
theorem go_on {p : Prop} (h : p) : Stop p := h
section
variable {ops : Array Oper} {rest : List Oper} {o : Oper} {a : Act} {Q : Exit → Act → World → Prop}
/-- append(xs, ys...) of parts of expressions, onto a row of the call's own since w0. -/
theorem app50 {w0 W : World} (hgd : o.guard = none) (s x : Operand) (ho : o.op = .call { callee := .builtin .append, args := #[s, x], argTypes := #[28, 28] }) (v : Value) (xs ys : List S50) (A : Option Addr) (m c : Nat) (hs : a.eval s = v) (hx : a.eval x = .slice A m c)
    (HO : Kd.R k50 50 W w0.heap.size (fun _ => True) v xs) (HC : Kd.C k50 W A m ys) (HB : Below w0.heap.size w0 W) (hl : xs.length + m ≤ 100000)
    (h : ∀ v1 w1, Kd.R k50 50 w1 w0.heap.size (fun _ => True) v1 (xs ++ ys) → Below w0.heap.size w0 w1 → wpList Try.prog ops Q rest (a.put o.dst v1) w1) : wpList Try.prog ops Q (o :: rest) a W :=
  Kd.R_append_rows k50 (Rr := k50.K W) (w0 := w0) w0.heap.size hgd s x 28 50 _ 48 ho Try.underlying28 info50 rfl (by decide) (by decide) v xs ys A m c (fun _ => True) (fun k => some k ≠ v.ownBlock) hs hx HO HC (fun y cs hy => by rw [k50_open hy]; exact k50_mkM W _ _ y) (fun k hk => ⟨trivial, hk⟩) (fun _ _ => trivial) HB HB.size (by omega)
    (fun v1 w1 h1 h2 _ _ => h v1 w1 h1 h2)
/-- append(xs, ys...) of bytes, onto a row of the call's own since w0. -/
theorem app5 {w0 W : World} (hgd : o.guard = none) (s x : Operand) (ho : o.op = .call { callee := .builtin .append, args := #[s, x], argTypes := #[29, 29] }) (v : Value) (xs ys : List Int) (A : Option Addr) (m c : Nat) (hs : a.eval s = v) (hx : a.eval x = .slice A m c)
    (HO : Kd.R (Kd.int .u8) 5 W w0.heap.size (fun _ => True) v xs) (HC : Kd.C (Kd.int .u8) W A m ys) (HB : Below w0.heap.size w0 W) (hl : xs.length + m ≤ 1000000000)
    (h : ∀ v1 w1, Kd.R (Kd.int .u8) 5 w1 w0.heap.size (fun _ => True) v1 (xs ++ ys) → Below w0.heap.size w0 w1 → wpList Try.prog ops Q rest (a.put o.dst v1) w1) : wpList Try.prog ops Q (o :: rest) a W :=
  Kd.R_append_rows (Kd.int .u8) (Rr := (Kd.int .u8).K W) (w0 := w0) w0.heap.size hgd s x 29 5 _ 1 ho Try.underlying29 info5 rfl (by decide) (by decide) v xs ys A m c (fun _ => True) (fun k => some k ≠ v.ownBlock) hs hx HO HC (fun y cs hy => hy) (fun k hk => ⟨trivial, hk⟩) (fun _ _ => trivial) HB HB.size (by omega)
    (fun v1 w1 h1 h2 _ _ => h v1 w1 h1 h2)
end
end Go.Proofs.Yteommchgnocgnaa.PE
end

section
namespace Go.Proofs.Yteommchgnocgnaa.PE
open Go.RowKit Go.Proofs.YteommchgnocgnaaW.PrintWords Go.Proofs.YteommchgnocgnaaW.PrintLast Go.Proofs.YteommchgnocgnaaW.PrintMore
set_option linter.unusedVariables false
set_option linter.unusedSimpArgs false

/-- What value.held hands back. -/
def heldV (k n : Int) (s : ByteArray) : Value :=
  if k = 0 then (if s.toList.isEmpty = true then .iface 3 (.int .i64 n) else .nilIface)
  else if k = 1 then (if s.toList.isEmpty = true then (if IntKind.u64.wrap n < 2 then .iface 4 (.bool (n == 1)) else .nilIface) else .nilIface)
  else if k = 2 then (if n = 0 then (if (s.size : Int) ≤ 40 then .iface 9 (.string s) else .nilIface) else .nilIface)
  else if k = 3 then (if s.toList.isEmpty = true then (if 0 ≤ n then (if n ≤ 1125899906842624 then .iface 131 (.int .i64 n) else .nilIface) else .nilIface) else .nilIface)
  else .nilIface

set_option maxHeartbeats 8000000 in
set_option maxRecDepth 100000 in
theorem value_held.calls (k n : Int) (s : ByteArray) (w : World) : Calls Try.prog 58 #[.agg #[.int .i64 k, .int .i64 n, .string s]] w fun e w' => e = .returned (heldV k n s) ∧ Below w.heap.size w w' := by
  have hu38 := Try.underlying38
  unfold heldV
  have hB := (Below.refl w.heap.size w).alloc (Nat.le_refl _) (.cells #[.int .i64 k, .int .i64 n, .string s] 38)
  by_cases c0 : k = 0
  · subst c0
    by_cases cs : s.toList.isEmpty = true
    · rw [if_pos rfl, if_pos cs]
      go_enter Try.func58, Try.ntmps58
      go_wp2
      go_ret
      exact ⟨rfl, hB⟩
    · rw [if_pos rfl, if_neg cs]
      replace cs := Bool.eq_false_iff.mpr cs
      go_enter Try.func58, Try.ntmps58
      go_wp2
      go_ret
      exact ⟨rfl, hB⟩
  rw [if_neg c0]
  have b0 : (k == 0) = false := beq_eq_false_iff_ne.mpr c0
  by_cases c1 : k = 1
  · subst c1; clear c0 b0
    by_cases cs : s.toList.isEmpty = true
    · rw [if_pos rfl, if_pos cs]
      by_cases cn : IntKind.u64.wrap n < 2
      · rw [if_pos cn]
        have cn' : decide (IntKind.u64.wrap n < 2) = true := decide_eq_true cn
        clear cn
        go_enter Try.func58, Try.ntmps58
        go_wp2
        go_ret
        exact ⟨rfl, hB⟩
      · rw [if_neg cn]
        have cn' : decide (IntKind.u64.wrap n < 2) = false := decide_eq_false cn
        clear cn
        go_enter Try.func58, Try.ntmps58
        go_wp2
        go_ret
        exact ⟨rfl, hB⟩
    · rw [if_pos rfl, if_neg cs]
      replace cs := Bool.eq_false_iff.mpr cs
      go_enter Try.func58, Try.ntmps58
      go_wp2
      go_ret
      exact ⟨rfl, hB⟩
  rw [if_neg c1]
  have b1 : (k == 1) = false := beq_eq_false_iff_ne.mpr c1
  by_cases c2 : k = 2
  · subst c2; clear c0 b0 c1 b1
    rw [if_pos rfl]
    by_cases cn : n = 0
    · subst cn
      rw [if_pos rfl]
      by_cases cz : (s.size : Int) ≤ 40
      · rw [if_pos cz]
        have cn' : decide ((s.size : Int) ≤ 40) = true := decide_eq_true cz
        clear cz
        go_enter Try.func58, Try.ntmps58
        go_wp2
        go_ret
        exact ⟨rfl, hB⟩
      · rw [if_neg cz]
        have cn' : decide ((s.size : Int) ≤ 40) = false := decide_eq_false cz
        clear cz
        go_enter Try.func58, Try.ntmps58
        go_wp2
        go_ret
        exact ⟨rfl, hB⟩
    · rw [if_neg cn]
      have bn : (n == 0) = false := beq_eq_false_iff_ne.mpr cn
      clear cn
      go_enter Try.func58, Try.ntmps58
      go_wp2
      go_ret
      exact ⟨rfl, hB⟩
  rw [if_neg c2]
  have b2 : (k == 2) = false := beq_eq_false_iff_ne.mpr c2
  have b2' : (k != 2) = true := bne_iff_ne.mpr c2
  by_cases c3 : k = 3
  · subst c3; clear c0 b0 c1 b1 c2 b2 b2'
    by_cases cs : s.toList.isEmpty = true
    · rw [if_pos rfl, if_pos cs]
      by_cases cn : 0 ≤ n
      · rw [if_pos cn]
        have cn' : decide (0 ≤ n) = true := decide_eq_true cn
        clear cn
        by_cases cm : n ≤ 1125899906842624
        · rw [if_pos cm]
          have cm' : decide (n ≤ 1125899906842624) = true := decide_eq_true cm
          clear cm
          go_enter Try.func58, Try.ntmps58
          go_wp2
          go_ret
          exact ⟨rfl, hB⟩
        · rw [if_neg cm]
          have cm' : decide (n ≤ 1125899906842624) = false := decide_eq_false cm
          clear cm
          go_enter Try.func58, Try.ntmps58
          go_wp2
          go_ret
          exact ⟨rfl, hB⟩
      · rw [if_neg cn]
        have cn' : decide (0 ≤ n) = false := decide_eq_false cn
        clear cn
        go_enter Try.func58, Try.ntmps58
        go_wp2
        go_ret
        exact ⟨rfl, hB⟩
    · rw [if_pos rfl, if_neg cs]
      replace cs := Bool.eq_false_iff.mpr cs
      go_enter Try.func58, Try.ntmps58
      go_wp2
      go_ret
      exact ⟨rfl, hB⟩
  rw [if_neg c3]
  have b3 : (k == 3) = false := beq_eq_false_iff_ne.mpr c3
  clear c0 c1 c2 c3
  by_cases cs : s.toList.isEmpty = true
  · go_enter Try.func58, Try.ntmps58
    go_wp2
    go_ret
    exact ⟨rfl, hB⟩
  · replace cs := Bool.eq_false_iff.mpr cs
    go_enter Try.func58, Try.ntmps58
    go_wp2
    go_ret
    exact ⟨rfl, hB⟩

def mayB (k n : Int) (s : ByteArray) : Bool := match heldV k n s with | .nilIface => false | _ => true
theorem heldV_nil {k n : Int} {s : ByteArray} (h : mayB k n s = false) : heldV k n s = .nilIface := by
  unfold mayB heldV at *
  repeat' split
  all_goals simp_all
theorem heldV_some {k n : Int} {s : ByteArray} (h : mayB k n s = true) : ∃ T v, heldV k n s = .iface T v := by
  unfold mayB heldV at *
  repeat' split
  all_goals simp_all
def value_May.f (a0_0 : Int) (a0_1 : Int) (a0_2 : ByteArray) : Option (Bool) := some (mayB a0_0 a0_1 a0_2)
set_option maxHeartbeats 8000000 in
set_option maxRecDepth 100000 in
theorem value_May.calls (k n : Int) (s : ByteArray) (r : Bool) (w : World) (h : value_May.f k n s = some r) : Calls Try.prog 29 #[.agg #[.int .i64 k, .int .i64 n, .string s]] w fun e w' => e = .returned (.bool r) ∧ Below w.heap.size w w' := by
  have hu38 := Try.underlying38
  have hB := (Below.refl w.heap.size w).alloc (Nat.le_refl _) (.cells #[.int .i64 k, .int .i64 n, .string s] 38)
  obtain rfl := Option.some.inj h
  clear h
  cases hm : mayB k n s with
  | false =>
    have hv := Aside0.mk (heldV_nil hm)
    clear hm
    go_enter Try.func29, Try.ntmps29
    go_wp2_with fail
    refine (value_held.calls k n s _).mono ?_
    rintro e w1 ⟨rfl, hb⟩
    rw [hv.out]
    go_wp2
    go_ret
    exact ⟨rfl, below_step hB hb⟩
  | true =>
    obtain ⟨T, v, hv⟩ := heldV_some hm
    replace hv := Aside0.mk hv
    clear hm
    go_enter Try.func29, Try.ntmps29
    go_wp2_with fail
    refine (value_held.calls k n s _).mono ?_
    rintro e w1 ⟨rfl, hb⟩
    rw [hv.out]
    go_wp2
    go_ret
    exact ⟨rfl, below_step hB hb⟩
end Go.Proofs.Yteommchgnocgnaa.PE
end

section
namespace Go.Proofs.Yteommchgnocgnaa.PE
open Go.RowKit Go.Proofs.YteommchgnocgnaaW.PrintWords Go.Proofs.YteommchgnocgnaaW.PrintLast Go.Proofs.YteommchgnocgnaaW.PrintMore
set_option linter.unusedVariables false
set_option linter.unusedSimpArgs false

def cmpS (a b : ByteArray) : Int := if Op.bytesLess a.toList b.toList = true then -1 else if (a.toList == b.toList) = true then 0 else 1
def cmp_Compare_string.f (a0 : ByteArray) (a1 : ByteArray) : Option (Int) := some (cmpS a0 a1)
set_option maxHeartbeats 8000000 in
set_option maxRecDepth 100000 in
theorem cmp_Compare_string.calls (a0 : ByteArray) (a1 : ByteArray) (r : Int) (w : World) (h : cmp_Compare_string.f a0 a1 = some r) :
    Calls Try.prog 61 #[.string a0, .string a1] w fun e w' => e = .returned (.int .i64 r) ∧ Drawn0 w w' := by
  obtain rfl := Option.some.inj h
  clear h
  unfold cmpS
  cases h1 : Op.bytesLess a0.toList a1.toList with
  | true =>
    rw [if_pos rfl]
    go_enter Try.func61, Try.ntmps61
    go_wp2
    go_ret
    exact ⟨rfl, Drawn0.refl _⟩
  | false =>
    rw [if_neg (by decide)]
    cases h2 : (a0.toList == a1.toList) with
    | true =>
      rw [if_pos rfl]
      go_enter Try.func61, Try.ntmps61
      go_wp2
      go_ret
      exact ⟨rfl, Drawn0.refl _⟩
    | false =>
      rw [if_neg (by decide)]
      go_enter Try.func61, Try.ntmps61
      go_wp2
      go_ret
      exact ⟨rfl, Drawn0.refl _⟩
end Go.Proofs.Yteommchgnocgnaa.PE
end

section
namespace Go.Proofs.Yteommchgnocgnaa.PE
open Go.RowKit Go.Proofs.YteommchgnocgnaaW.PrintWords Go.Proofs.YteommchgnocgnaaW.PrintLast Go.Proofs.YteommchgnocgnaaW.PrintMore
attribute [local go_sem] max2_int min2_int max_two min_two max_three min_three max_four min_four   -- for this text's walks alone
set_option linter.unusedVariables false
set_option linter.unusedSimpArgs false

-- BY HAND: function 75 (schema_Name)

-- NOT PRINTED: function 101 (api_Field_101)

-- NOT PRINTED: function 76 (api_Field_76)

-- BY HAND: function 40 (schema_May)

-- NOT PRINTED: function 102 (api_Op_102)

-- NOT PRINTED: function 79 (api_Op_79)

-- BY HAND: function 41 (expr_may)

-- NOT PRINTED: function 103 (expr_pile_lay)

-- NOT PRINTED: function 104 (expr_of)

-- NOT PRINTED: function 118 (expr_thing)

-- NOT PRINTED: function 106 (expr_pile_take)

-- NOT PRINTED: function 105 (expr_pile_not)

-- NOT PRINTED: function 58 (value_held)

-- BY HAND: function 29 (value_May)

/-! ### cmp_Or_int: function 59 -/
def cmp_Or_int.l0 : Nat → Int → List Int → Int → Int → Option (Int)
  | 0, _, _, _, _ => none
  | k + 1, x3, x6, x7, x8 => if x8 < x7 then (if 0 ≤ x8 then (if x8 < (x6.length : Int) then (if (rd x6 x8) = x3 then (cmp_Or_int.l0 k x3 x6 x7 (wrap64 (x8 + 1))) else (some (rd x6 x8))) else (none)) else (none)) else (some x3)
def cmp_Or_int.f (k : Nat) (l0 : List Int) : Option (Int) := cmp_Or_int.l0 k 0 l0 (l0.length : Int) 0
theorem cmp_Or_int.mono_l : ∀ k, (∀ y0 y1 y2 y3, LeO (cmp_Or_int.l0 k y0 y1 y2 y3) (cmp_Or_int.l0 (k + 1) y0 y1 y2 y3))
  | 0 => fun _ _ _ _ r h => by simp [cmp_Or_int.l0] at h
  | k + 1 => by
    have ih0 := cmp_Or_int.mono_l k
    · intro y0 y1 y2 y3
      unfold cmp_Or_int.l0
      repeat' first
      | (with_reducible exact ih0 _ _ _ _)
      | (with_reducible exact LeO.refl _)
      | (with_reducible exact LeO.none _)
      | (with_reducible refine LeO.ite ?_ ?_)
      | (with_reducible refine LeO.bind ?_ (fun _ => ?_))
      | exact ih0 _ _ _ _
      | exact LeO.none _
      | refine LeO.ite ?_ ?_
      | refine LeO.bind ?_ (fun _ => ?_)
theorem cmp_Or_int.mono : ∀ a0 k, LeO (cmp_Or_int.f k a0) (cmp_Or_int.f (k + 1) a0) := by
  intro a0 k
  have ih0 := cmp_Or_int.mono_l k
  unfold cmp_Or_int.f
  repeat' first
      | (with_reducible exact ih0 _ _ _ _)
      | (with_reducible exact LeO.refl _)
      | (with_reducible exact LeO.none _)
      | (with_reducible refine LeO.ite ?_ ?_)
      | (with_reducible refine LeO.bind ?_ (fun _ => ?_))
      | exact ih0 _ _ _ _
      | exact LeO.none _
      | refine LeO.ite ?_ ?_
      | refine LeO.bind ?_ (fun _ => ?_)
set_option maxHeartbeats 8000000 in
set_option maxRecDepth 100000 in
theorem cmp_Or_int.calls (k : Nat) (A0 : Option Addr) (c0 : Nat) (l0 : List Int) (r : Int) (w : World) (hr0 : Kd.C (Kd.int .i64) w A0 l0.length l0) (hc0 : l0.length ≤ c0) (h : cmp_Or_int.f k l0 = some r) :
    Calls Try.prog 59 #[.slice A0 l0.length c0] w fun e w' => e = .returned (.int .i64 r) ∧ Drawn0 w w' := by
  have HR0 := Aside0.mk hr0
  have HC0 := Aside0.mk hc0
  clear hr0 hc0
  have H : (cmp_Or_int.l0 k 0 l0 (l0.length : Int) 0) = some r := h
  clear h
  have H' := Aside0.mk H
  clear H
  go_enter Try.func59, Try.ntmps59
  go_wp2
  go_loopg [8] k (fun kq v8 w' => ∃ (x8_1 : Int), v8 = .int .i64 x8_1 ∧ Aside0 (cmp_Or_int.l0 kq 0 l0 (l0.length : Int) x8_1 = some r) ∧ Aside0 (kq ≤ k) ∧ Drawn0 w w')
  case atStart => exact ⟨(0), (by first | rfl | (simp; done) | (simp [*]; done)), H', ⟨Nat.le_refl _⟩, by repeat (first | exact Drawn0.refl _ | apply Drawn0.step)⟩
  case round =>
    clear H'
    obtain ⟨x8_1, rfl, HA, HK1, ⟨m1, rfl⟩⟩ := hrel
    cases gk with
    | zero => exact absurd HA.out (by simp [cmp_Or_int.l0])
    | succ k1 =>
      have H := HA.out
      clear HA
      simp only [cmp_Or_int.l0] at H
      by_cases c2 : x8_1 < (l0.length : Int)
      · rw [if_pos c2] at H
        have c2b0 : decide (x8_1 < (l0.length : Int)) = true := decide_eq_true c2
        clear c2
        by_cases c3 : 0 ≤ x8_1
        · rw [if_pos c3] at H
          have c3b0 : decide (0 ≤ x8_1) = true := decide_eq_true c3
          clear c3
          by_cases c4 : x8_1 < (l0.length : Int)
          · rw [if_pos c4] at H
            have c4b0 : decide (x8_1 < (l0.length : Int)) = true := decide_eq_true c4
            clear c4
            by_cases c5 : (rd l0 x8_1) = 0
            · rw [if_pos c5] at H
              have c5b0 : ((rd l0 x8_1) == 0) = true := beq_iff_eq.mpr c5
              have c5b1 : ((rd l0 x8_1) != 0) = false := bne_eq_false_iff_eq.mpr c5
              clear c5
              have H' := Aside0.mk H
              clear H
              have p101 : 0 ≤ (x8_1 : Int) := of_decide_eq_true (by first | (with_reducible assumption) | assumption)
              have q101 : x8_1 < (l0.length : Int) := of_decide_eq_true (by first | (with_reducible assumption) | assumption)
              obtain ⟨ad101, e101, hx101_0⟩ := Kd.at_int HR0.out x8_1 p101 q101
              cases e101
              replace p101 := eq_true p101
              replace q101 := eq_true q101
              go_wp2
              go_roundg k1
              case measure => have := HK1.out; omega
              case rel => exact ⟨(wrap64 (x8_1 + 1)), (by first | rfl | (simp; done) | (simp [*]; done)), H', ⟨by have := HK1.out; omega⟩, by repeat (first | exact Drawn0.refl _ | apply Drawn0.step)⟩
            · rw [if_neg c5] at H
              have c5b0 : ((rd l0 x8_1) == 0) = false := beq_eq_false_iff_ne.mpr c5
              have c5b1 : ((rd l0 x8_1) != 0) = true := bne_iff_ne.mpr c5
              obtain rfl := Option.some.inj H
              have p101 : 0 ≤ (x8_1 : Int) := of_decide_eq_true (by first | (with_reducible assumption) | assumption)
              have q101 : x8_1 < (l0.length : Int) := of_decide_eq_true (by first | (with_reducible assumption) | assumption)
              obtain ⟨ad101, e101, hx101_0⟩ := Kd.at_int HR0.out x8_1 p101 q101
              cases e101
              replace p101 := eq_true p101
              replace q101 := eq_true q101
              go_wp2
              go_ret
              exact ⟨by first | rfl | (simp; done) | (simp [*]; done), by repeat (first | exact Drawn0.refl _ | apply Drawn0.step)⟩
          · rw [if_neg c4] at H
            exact absurd H (by simp)
        · rw [if_neg c3] at H
          exact absurd H (by simp)
      · rw [if_neg c2] at H
        have c2b0 : decide (x8_1 < (l0.length : Int)) = false := decide_eq_false c2
        clear c2
        obtain rfl := Option.some.inj H
        go_wp2
        go_ret
        exact ⟨by first | rfl | (simp; done) | (simp [*]; done), by repeat (first | exact Drawn0.refl _ | apply Drawn0.step)⟩

/-! ### cmp_isNaN_int: function 91 -/
def cmp_isNaN_int.f (a0 : Int) : Option (Bool) := some (a0 != a0)
set_option maxHeartbeats 8000000 in
set_option maxRecDepth 100000 in
theorem cmp_isNaN_int.calls (a0 : Int) (r : Bool) (w : World) (h : cmp_isNaN_int.f a0 = some r) :
    Calls Try.prog 91 #[.int .i64 a0] w fun e w' => e = .returned (.bool r) ∧ Drawn0 w w' := by
  have H : (some (a0 != a0)) = some r := h
  clear h
  obtain rfl := Option.some.inj H
  go_enter Try.func91, Try.ntmps91
  go_wp2
  go_ret
  exact ⟨by first | rfl | (simp; done) | (simp [*]; done), by repeat (first | exact Drawn0.refl _ | apply Drawn0.step)⟩

/-! ### cmp_Compare_int: function 60 -/
def cmp_Compare_int.f (a0 : Int) (a1 : Int) : Option (Int) := (cmp_isNaN_int.f a0).bind fun t102 => ((cmp_isNaN_int.f a1).bind fun t103 => (if t102 = true then (if t103 = true then (some 0) else (some (-1))) else (if t103 = true then (some 1) else (if a0 < a1 then (some (-1)) else (if a0 > a1 then (some 1) else (some 0))))))
set_option maxHeartbeats 8000000 in
set_option maxRecDepth 100000 in
theorem cmp_Compare_int.calls (a0 : Int) (a1 : Int) (r : Int) (w : World) (h : cmp_Compare_int.f a0 a1 = some r) :
    Calls Try.prog 60 #[.int .i64 a0, .int .i64 a1] w fun e w' => e = .returned (.int .i64 r) ∧ Drawn0 w w' := by
  have H : ((cmp_isNaN_int.f a0).bind fun t102 => ((cmp_isNaN_int.f a1).bind fun t103 => (if t102 = true then (if t103 = true then (some 0) else (some (-1))) else (if t103 = true then (some 1) else (if a0 < a1 then (some (-1)) else (if a0 > a1 then (some 1) else (some 0))))))) = some r := h
  clear h
  replace H := Option.bind_eq_some_iff.mp H
  obtain ⟨t102, A30, H⟩ := H
  replace H : ((cmp_isNaN_int.f a1).bind fun t103 => (if t102 = true then (if t103 = true then (some 0) else (some (-1))) else (if t103 = true then (some 1) else (if a0 < a1 then (some (-1)) else (if a0 > a1 then (some 1) else (some 0)))))) = some r := H
  have A3 := Aside0.mk A30
  clear A30
  replace H := Option.bind_eq_some_iff.mp H
  obtain ⟨t103, A40, H⟩ := H
  replace H : (if t102 = true then (if t103 = true then (some 0) else (some (-1))) else (if t103 = true then (some 1) else (if a0 < a1 then (some (-1)) else (if a0 > a1 then (some 1) else (some 0))))) = some r := H
  have A4 := Aside0.mk A40
  clear A40
  by_cases c5 : t102 = true
  · subst c5
    have H1 : (if t103 = true then (some 0) else (some (-1))) = some r := by rw [if_pos rfl] at H; exact H
    clear H
    have H := H1
    clear H1
    by_cases c6 : t103 = true
    · subst c6
      have H1 : (some 0) = some r := by rw [if_pos rfl] at H; exact H
      clear H
      have H := H1
      clear H1
      obtain rfl := Option.some.inj H
      go_enter Try.func60, Try.ntmps60
      go_wp2_with (first | ((with_reducible refine gate_callee (f := 91) rfl ?_); refine goesL_ (some 8) rfl rfl Try.func91 (by kernel_rfl) rfl #[.int .i64 a0] rfl (by (try simp only [List.map_toArray, List.map_cons, List.map_nil]); first | done | rfl | (simp only [List.length_drop, List.length_take]; rfl)) ?_; (with_reducible refine (cmp_isNaN_int.calls a0 true _ A3.out).mono ?_); rintro e w' ⟨rfl, ⟨nd, rfl⟩⟩; refine ⟨_, rfl, ?_⟩) | ((with_reducible refine gate_callee (f := 91) rfl ?_); refine goesL_ (some 10) rfl rfl Try.func91 (by kernel_rfl) rfl #[.int .i64 a1] rfl (by (try simp only [List.map_toArray, List.map_cons, List.map_nil]); first | done | rfl | (simp only [List.length_drop, List.length_take]; rfl)) ?_; (with_reducible refine (cmp_isNaN_int.calls a1 true _ A4.out).mono ?_); rintro e w' ⟨rfl, ⟨nd, rfl⟩⟩; refine ⟨_, rfl, ?_⟩))
      go_ret
      exact ⟨by first | rfl | (simp; done) | (simp [*]; done), by repeat (first | exact Drawn0.refl _ | apply Drawn0.step)⟩
    · replace c6 := Bool.eq_false_iff.mpr c6
      subst c6
      have H1 : (some (-1)) = some r := by rw [if_neg (show ¬ (false = true) by decide)] at H; exact H
      clear H
      have H := H1
      clear H1
      obtain rfl := Option.some.inj H
      go_enter Try.func60, Try.ntmps60
      go_wp2_with (first | ((with_reducible refine gate_callee (f := 91) rfl ?_); refine goesL_ (some 8) rfl rfl Try.func91 (by kernel_rfl) rfl #[.int .i64 a0] rfl (by (try simp only [List.map_toArray, List.map_cons, List.map_nil]); first | done | rfl | (simp only [List.length_drop, List.length_take]; rfl)) ?_; (with_reducible refine (cmp_isNaN_int.calls a0 true _ A3.out).mono ?_); rintro e w' ⟨rfl, ⟨nd, rfl⟩⟩; refine ⟨_, rfl, ?_⟩) | ((with_reducible refine gate_callee (f := 91) rfl ?_); refine goesL_ (some 10) rfl rfl Try.func91 (by kernel_rfl) rfl #[.int .i64 a1] rfl (by (try simp only [List.map_toArray, List.map_cons, List.map_nil]); first | done | rfl | (simp only [List.length_drop, List.length_take]; rfl)) ?_; (with_reducible refine (cmp_isNaN_int.calls a1 false _ A4.out).mono ?_); rintro e w' ⟨rfl, ⟨nd, rfl⟩⟩; refine ⟨_, rfl, ?_⟩))
      go_ret
      exact ⟨by first | rfl | (simp; done) | (simp [*]; done), by repeat (first | exact Drawn0.refl _ | apply Drawn0.step)⟩
  · replace c5 := Bool.eq_false_iff.mpr c5
    subst c5
    have H1 : (if t103 = true then (some 1) else (if a0 < a1 then (some (-1)) else (if a0 > a1 then (some 1) else (some 0)))) = some r := by rw [if_neg (show ¬ (false = true) by decide)] at H; exact H
    clear H
    have H := H1
    clear H1
    by_cases c7 : t103 = true
    · subst c7
      have H1 : (some 1) = some r := by rw [if_pos rfl] at H; exact H
      clear H
      have H := H1
      clear H1
      obtain rfl := Option.some.inj H
      go_enter Try.func60, Try.ntmps60
      go_wp2_with (first | ((with_reducible refine gate_callee (f := 91) rfl ?_); refine goesL_ (some 8) rfl rfl Try.func91 (by kernel_rfl) rfl #[.int .i64 a0] rfl (by (try simp only [List.map_toArray, List.map_cons, List.map_nil]); first | done | rfl | (simp only [List.length_drop, List.length_take]; rfl)) ?_; (with_reducible refine (cmp_isNaN_int.calls a0 false _ A3.out).mono ?_); rintro e w' ⟨rfl, ⟨nd, rfl⟩⟩; refine ⟨_, rfl, ?_⟩) | ((with_reducible refine gate_callee (f := 91) rfl ?_); refine goesL_ (some 10) rfl rfl Try.func91 (by kernel_rfl) rfl #[.int .i64 a1] rfl (by (try simp only [List.map_toArray, List.map_cons, List.map_nil]); first | done | rfl | (simp only [List.length_drop, List.length_take]; rfl)) ?_; (with_reducible refine (cmp_isNaN_int.calls a1 true _ A4.out).mono ?_); rintro e w' ⟨rfl, ⟨nd, rfl⟩⟩; refine ⟨_, rfl, ?_⟩))
      go_ret
      exact ⟨by first | rfl | (simp; done) | (simp [*]; done), by repeat (first | exact Drawn0.refl _ | apply Drawn0.step)⟩
    · replace c7 := Bool.eq_false_iff.mpr c7
      subst c7
      have H1 : (if a0 < a1 then (some (-1)) else (if a0 > a1 then (some 1) else (some 0))) = some r := by rw [if_neg (show ¬ (false = true) by decide)] at H; exact H
      clear H
      have H := H1
      clear H1
      by_cases c8 : a0 < a1
      · rw [if_pos c8] at H
        have c8b0 : decide (a0 < a1) = true := decide_eq_true c8
        clear c8
        obtain rfl := Option.some.inj H
        go_enter Try.func60, Try.ntmps60
        go_wp2_with (first | ((with_reducible refine gate_callee (f := 91) rfl ?_); refine goesL_ (some 8) rfl rfl Try.func91 (by kernel_rfl) rfl #[.int .i64 a0] rfl (by (try simp only [List.map_toArray, List.map_cons, List.map_nil]); first | done | rfl | (simp only [List.length_drop, List.length_take]; rfl)) ?_; (with_reducible refine (cmp_isNaN_int.calls a0 false _ A3.out).mono ?_); rintro e w' ⟨rfl, ⟨nd, rfl⟩⟩; refine ⟨_, rfl, ?_⟩) | ((with_reducible refine gate_callee (f := 91) rfl ?_); refine goesL_ (some 10) rfl rfl Try.func91 (by kernel_rfl) rfl #[.int .i64 a1] rfl (by (try simp only [List.map_toArray, List.map_cons, List.map_nil]); first | done | rfl | (simp only [List.length_drop, List.length_take]; rfl)) ?_; (with_reducible refine (cmp_isNaN_int.calls a1 false _ A4.out).mono ?_); rintro e w' ⟨rfl, ⟨nd, rfl⟩⟩; refine ⟨_, rfl, ?_⟩))
        go_ret
        exact ⟨by first | rfl | (simp; done) | (simp [*]; done), by repeat (first | exact Drawn0.refl _ | apply Drawn0.step)⟩
      · rw [if_neg c8] at H
        have c8b0 : decide (a0 < a1) = false := decide_eq_false c8
        clear c8
        by_cases c9 : a0 > a1
        · rw [if_pos c9] at H
          have c9b0 : decide (a1 < a0) = true := decide_eq_true c9
          clear c9
          obtain rfl := Option.some.inj H
          go_enter Try.func60, Try.ntmps60
          go_wp2_with (first | ((with_reducible refine gate_callee (f := 91) rfl ?_); refine goesL_ (some 8) rfl rfl Try.func91 (by kernel_rfl) rfl #[.int .i64 a0] rfl (by (try simp only [List.map_toArray, List.map_cons, List.map_nil]); first | done | rfl | (simp only [List.length_drop, List.length_take]; rfl)) ?_; (with_reducible refine (cmp_isNaN_int.calls a0 false _ A3.out).mono ?_); rintro e w' ⟨rfl, ⟨nd, rfl⟩⟩; refine ⟨_, rfl, ?_⟩) | ((with_reducible refine gate_callee (f := 91) rfl ?_); refine goesL_ (some 10) rfl rfl Try.func91 (by kernel_rfl) rfl #[.int .i64 a1] rfl (by (try simp only [List.map_toArray, List.map_cons, List.map_nil]); first | done | rfl | (simp only [List.length_drop, List.length_take]; rfl)) ?_; (with_reducible refine (cmp_isNaN_int.calls a1 false _ A4.out).mono ?_); rintro e w' ⟨rfl, ⟨nd, rfl⟩⟩; refine ⟨_, rfl, ?_⟩))
          go_ret
          exact ⟨by first | rfl | (simp; done) | (simp [*]; done), by repeat (first | exact Drawn0.refl _ | apply Drawn0.step)⟩
        · rw [if_neg c9] at H
          have c9b0 : decide (a1 < a0) = false := decide_eq_false c9
          clear c9
          obtain rfl := Option.some.inj H
          go_enter Try.func60, Try.ntmps60
          go_wp2_with (first | ((with_reducible refine gate_callee (f := 91) rfl ?_); refine goesL_ (some 8) rfl rfl Try.func91 (by kernel_rfl) rfl #[.int .i64 a0] rfl (by (try simp only [List.map_toArray, List.map_cons, List.map_nil]); first | done | rfl | (simp only [List.length_drop, List.length_take]; rfl)) ?_; (with_reducible refine (cmp_isNaN_int.calls a0 false _ A3.out).mono ?_); rintro e w' ⟨rfl, ⟨nd, rfl⟩⟩; refine ⟨_, rfl, ?_⟩) | ((with_reducible refine gate_callee (f := 91) rfl ?_); refine goesL_ (some 10) rfl rfl Try.func91 (by kernel_rfl) rfl #[.int .i64 a1] rfl (by (try simp only [List.map_toArray, List.map_cons, List.map_nil]); first | done | rfl | (simp only [List.length_drop, List.length_take]; rfl)) ?_; (with_reducible refine (cmp_isNaN_int.calls a1 false _ A4.out).mono ?_); rintro e w' ⟨rfl, ⟨nd, rfl⟩⟩; refine ⟨_, rfl, ?_⟩))
          go_ret
          exact ⟨by first | rfl | (simp; done) | (simp [*]; done), by repeat (first | exact Drawn0.refl _ | apply Drawn0.step)⟩

/-! ### cmp_isNaN_string: function 92 -/
def cmp_isNaN_string.f (a0 : ByteArray) : Option (Bool) := some (a0.toList != a0.toList)
set_option maxHeartbeats 8000000 in
set_option maxRecDepth 100000 in
theorem cmp_isNaN_string.calls (a0 : ByteArray) (r : Bool) (w : World) (h : cmp_isNaN_string.f a0 = some r) :
    Calls Try.prog 92 #[.string a0] w fun e w' => e = .returned (.bool r) ∧ Drawn0 w w' := by
  have H : (some (a0.toList != a0.toList)) = some r := h
  clear h
  obtain rfl := Option.some.inj H
  go_enter Try.func92, Try.ntmps92
  go_wp2
  go_ret
  exact ⟨by first | rfl | (simp; done) | (simp [*]; done), by repeat (first | exact Drawn0.refl _ | apply Drawn0.step)⟩

-- BY HAND: function 61 (cmp_Compare_string)

/-! ### value_Less: function 30 -/
def value_Less.j0 : Nat → Bool → Int → Int → ByteArray → Int → Int → ByteArray → Option (Bool × Bool)
  | 0, _, _, _, _, _, _, _ => none
  | k + 1, x20, x105000, x105001, x105002, x106000, x106001, x106002 => if x20 = true then (some (false, false)) else ((cmp_Compare_int.f x105001 x106001).bind fun t108 => ((cmp_Compare_string.f x105002 x106002).bind fun t109 => ((cmp_Or_int.f k (([t108, t109] : List Int))).bind fun t113 => (some (decide (t113 < 0), true)))))
def value_Less.f (k : Nat) (a0_0 : Int) (a0_1 : Int) (a0_2 : ByteArray) (a1_0 : Int) (a1_1 : Int) (a1_2 : ByteArray) : Option (Bool × Bool) := (value_May.f a0_0 a0_1 a0_2).bind fun t106 => (if t106 = true then ((value_May.f a1_0 a1_1 a1_2).bind fun t107 => (if t107 = true then (value_Less.j0 k (a0_0 != a1_0) a0_0 a0_1 a0_2 a1_0 a1_1 a1_2) else (value_Less.j0 k true a0_0 a0_1 a0_2 a1_0 a1_1 a1_2))) else (value_Less.j0 k true a0_0 a0_1 a0_2 a1_0 a1_1 a1_2))
theorem value_Less.mono_l : ∀ k, (∀ y0 y1 y2 y3 y4 y5 y6, LeO (value_Less.j0 k y0 y1 y2 y3 y4 y5 y6) (value_Less.j0 (k + 1) y0 y1 y2 y3 y4 y5 y6))
  | 0 => fun _ _ _ _ _ _ _ r h => by simp [value_Less.j0] at h
  | k + 1 => by
    have ih0 := value_Less.mono_l k
    · intro y0 y1 y2 y3 y4 y5 y6
      unfold value_Less.j0
      repeat' first
      | (with_reducible exact ih0 _ _ _ _ _ _ _)
      | (with_reducible exact cmp_Or_int.mono _ _)
      | (with_reducible exact LeO.refl _)
      | (with_reducible exact LeO.none _)
      | (with_reducible refine LeO.ite ?_ ?_)
      | (with_reducible refine LeO.bind ?_ (fun _ => ?_))
      | exact ih0 _ _ _ _ _ _ _
      | exact cmp_Or_int.mono _ _
      | exact LeO.none _
      | refine LeO.ite ?_ ?_
      | refine LeO.bind ?_ (fun _ => ?_)
theorem value_Less.mono : ∀ a0 a1 a2 a3 a4 a5 k, LeO (value_Less.f k a0 a1 a2 a3 a4 a5) (value_Less.f (k + 1) a0 a1 a2 a3 a4 a5) := by
  intro a0 a1 a2 a3 a4 a5 k
  have ih0 := value_Less.mono_l k
  unfold value_Less.f
  repeat' first
      | (with_reducible exact ih0 _ _ _ _ _ _ _)
      | (with_reducible exact cmp_Or_int.mono _ _)
      | (with_reducible exact LeO.refl _)
      | (with_reducible exact LeO.none _)
      | (with_reducible refine LeO.ite ?_ ?_)
      | (with_reducible refine LeO.bind ?_ (fun _ => ?_))
      | exact ih0 _ _ _ _ _ _ _
      | exact cmp_Or_int.mono _ _
      | exact LeO.none _
      | refine LeO.ite ?_ ?_
      | refine LeO.bind ?_ (fun _ => ?_)
def value_Less.T3 : Bool × List (List Nat × List Nat) := (true, [([], []), ([0], [0]), ([], []), ([2], [2]), ([1, 3], [1, 3]), ([], []), ([5], [5]), ([], []), ([7], [7]), ([6, 8, 4], [6, 8]), ([4, 9], [4, 9]), ([10, 9], [10]), ([11], [11]), ([12, 11, 0, 1, 2, 3, 4, 5, 6, 7, 8, 9, 10, 11, 12], [12]), ([13, 0, 1, 2, 3, 4, 5, 6, 7, 8, 9, 10, 11, 12, 13], [])])
def value_Less.B3 : List Nat := [0, 1, 0, 4, 15, 0, 32, 0, 128, 511, 1023, 2047, 4095, 8191, 16383]
theorem value_Less.tab3 : rtab .any (opsOf Try.f30 3) = value_Less.T3 := by kernel_rfl
theorem value_Less.bits3 : waitsOk value_Less.T3.2 value_Less.B3 = true := by kernel_rfl
set_option maxHeartbeats 8000000 in
set_option maxRecDepth 100000 in
theorem value_Less.calls (k : Nat) (a0_0 : Int) (a0_1 : Int) (a0_2 : ByteArray) (a1_0 : Int) (a1_1 : Int) (a1_2 : ByteArray) (r1 : Bool) (r2 : Bool) (w : World) (h : value_Less.f k a0_0 a0_1 a0_2 a1_0 a1_1 a1_2 = some (r1, r2)) :
    Calls Try.prog 30 #[.agg #[.int .i64 a0_0, .int .i64 a0_1, .string a0_2], .agg #[.int .i64 a1_0, .int .i64 a1_1, .string a1_2]] w fun e w' => e = .returned (.tuple #[.bool r1, .bool r2]) ∧ Below w.heap.size w w' := by
  have hu38 := Try.underlying38
  have HB := Aside0.mk (Below.refl w.heap.size w)
  have H : ((value_May.f a0_0 a0_1 a0_2).bind fun t106 => (if t106 = true then ((value_May.f a1_0 a1_1 a1_2).bind fun t107 => (if t107 = true then (value_Less.j0 k (a0_0 != a1_0) a0_0 a0_1 a0_2 a1_0 a1_1 a1_2) else (value_Less.j0 k true a0_0 a0_1 a0_2 a1_0 a1_1 a1_2))) else (value_Less.j0 k true a0_0 a0_1 a0_2 a1_0 a1_1 a1_2))) = some (r1, r2) := h
  clear h
  have HC3 := Aside0.mk H
  clear H
  go_enter Try.func30, Try.ntmps30
  go_upto_region 1 with (first | ((with_reducible refine gate_dst (N := 2) rfl ?_); refine box_event ?hg (N := 2) ?hd (cs := #[.int .i64 a0_0, .int .i64 a0_1, .string a0_2]) (t := 38) ?hr ?_; (case hd => rfl); (case hg => rfl); (case hr => first | (go_simp; done) | (go_simp; rfl)); intro gb104 hg w4 hbox hb; have n0_ := Aside0.mk (below_step (by repeat (first | (with_reducible first | exact HB.out | apply below_alloc | apply pw_below_drewN | apply below_drew1) | exact HB.out)) hb); have n1_ := Aside0.mk (hbox); have n2_ := Aside0.mk ((by rw [hg]; exact (below_size (by repeat (first | (with_reducible first | exact HB.out | apply below_alloc | apply pw_below_drewN | apply below_drew1) | exact HB.out))) : w.heap.size ≤ gb104)); have n3_ := Aside0.mk ((by rw [hg]; exact (below_size (by repeat (first | (with_reducible first | exact HB.out | apply below_alloc | apply pw_below_drewN | apply below_drew1) | exact HB.out))) : w.heap.size ≤ gb104)); clear HB; have HB := n0_; have BK104 := n1_; have GW104 := n2_; have GE104 := n3_; clear n0_ n1_ n2_ n3_; clear hb hbox hg) | ((with_reducible refine gate_dst (N := 3) rfl ?_); refine box_event ?hg (N := 3) ?hd (cs := #[.int .i64 a1_0, .int .i64 a1_1, .string a1_2]) (t := 38) ?hr ?_; (case hd => rfl); (case hg => rfl); (case hr => first | (go_simp; done) | (go_simp; rfl)); intro gb105 hg w5 hbox hb; have n0_ := Aside0.mk (blk_below (g := gb104) (o := .cells #[.int .i64 a0_0, .int .i64 a0_1, .string a0_2] 38 (0, 0)) (by (with_reducible repeat (first | refine blk_drewN ?_ _ | refine blk_drew ?_ | refine blk_alloc ?_ _)); exact BK104.out) hb); have n1_ := Aside0.mk (below_step (by repeat (first | (with_reducible first | exact HB.out | apply below_alloc | apply pw_below_drewN | apply below_drew1 | refine below_set ?_ GE104.out) | exact HB.out)) hb); have n2_ := Aside0.mk (hbox); have n3_ := Aside0.mk ((by rw [hg]; exact (below_size (by repeat (first | (with_reducible first | exact HB.out | apply below_alloc | apply pw_below_drewN | apply below_drew1 | refine below_set ?_ GE104.out) | exact HB.out))) : w.heap.size ≤ gb105)); have n4_ := Aside0.mk ((by rw [hg]; exact (below_size (by repeat (first | (with_reducible first | exact HB.out | apply below_alloc | apply pw_below_drewN | apply below_drew1 | refine below_set ?_ GE104.out) | exact HB.out))) : w.heap.size ≤ gb105)); have n5_ := Aside0.mk ((by rw [hg]; exact Nat.ne_of_lt (blk_lt (g := gb104) (o := .cells #[.int .i64 a0_0, .int .i64 a0_1, .string a0_2] 38 (0, 0)) (by (with_reducible repeat (first | refine blk_drewN ?_ _ | refine blk_drew ?_ | refine blk_alloc ?_ _)); exact BK104.out)) : gb104 ≠ gb105)); have n6_ := Aside0.mk ((by rw [hg]; exact Nat.ne_of_gt (blk_lt (g := gb104) (o := .cells #[.int .i64 a0_0, .int .i64 a0_1, .string a0_2] 38 (0, 0)) (by (with_reducible repeat (first | refine blk_drewN ?_ _ | refine blk_drew ?_ | refine blk_alloc ?_ _)); exact BK104.out)) : gb105 ≠ gb104)); clear BK104; clear HB; have BK104 := n0_; have HB := n1_; have BK105 := n2_; have GW105 := n3_; have GE105 := n4_; have NB104_105 := n5_; have NB105_104 := n6_; clear n0_ n1_ n2_ n3_ n4_ n5_ n6_; clear hb hbox hg))
  (try simp only [Act.put, List.setIfInBounds_toArray, List.set_cons_zero, List.set_cons_succ])
  go_cut [20] (fun v20 wc => ∃ (kq : Nat) (x20_2 : Bool), v20 = .bool x20_2 ∧ Aside0 (value_Less.j0 kq x20_2 a0_0 a0_1 a0_2 a1_0 a1_1 a1_2 = some (r1, r2)) ∧ Aside0 (kq ≤ k) ∧ Aside0 (wc.heap[gb104]? = some (.cells #[.int .i64 a0_0, .int .i64 a0_1, .string a0_2] 38 (0, 0))) ∧ Aside0 (wc.heap[gb105]? = some (.cells #[.int .i64 a1_0, .int .i64 a1_1, .string a1_2] 38 (0, 0))) ∧ Aside0 (Below w.heap.size w wc))
  case first =>
    have H := HC3.out
    clear HC3
    replace H := Option.bind_eq_some_iff.mp H
    obtain ⟨t106, A60, H⟩ := H
    replace H : (if t106 = true then ((value_May.f a1_0 a1_1 a1_2).bind fun t107 => (if t107 = true then (value_Less.j0 k (a0_0 != a1_0) a0_0 a0_1 a0_2 a1_0 a1_1 a1_2) else (value_Less.j0 k true a0_0 a0_1 a0_2 a1_0 a1_1 a1_2))) else (value_Less.j0 k true a0_0 a0_1 a0_2 a1_0 a1_1 a1_2)) = some (r1, r2) := H
    have A6 := Aside0.mk A60
    clear A60
    by_cases c7 : t106 = true
    · subst c7
      have H1 : ((value_May.f a1_0 a1_1 a1_2).bind fun t107 => (if t107 = true then (value_Less.j0 k (a0_0 != a1_0) a0_0 a0_1 a0_2 a1_0 a1_1 a1_2) else (value_Less.j0 k true a0_0 a0_1 a0_2 a1_0 a1_1 a1_2))) = some (r1, r2) := by rw [if_pos rfl] at H; exact H
      clear H
      have H := H1
      clear H1
      replace H := Option.bind_eq_some_iff.mp H
      obtain ⟨t107, A80, H⟩ := H
      replace H : (if t107 = true then (value_Less.j0 k (a0_0 != a1_0) a0_0 a0_1 a0_2 a1_0 a1_1 a1_2) else (value_Less.j0 k true a0_0 a0_1 a0_2 a1_0 a1_1 a1_2)) = some (r1, r2) := H
      have A8 := Aside0.mk A80
      clear A80
      by_cases c9 : t107 = true
      · subst c9
        have H1 : (value_Less.j0 k (a0_0 != a1_0) a0_0 a0_1 a0_2 a1_0 a1_1 a1_2) = some (r1, r2) := by rw [if_pos rfl] at H; exact H
        clear H
        have H := H1
        clear H1
        have H' := Aside0.mk H
        clear H
        have hnb10 := NB104_105.out
        have hnc10 := NB105_104.out
        have hcz11_0 : w5.cell? ⟨gb104, 0, none⟩ = some (.int .i64 a0_0) := (blk_cell BK104.out 0).trans rfl
        have hcz11_1 : w5.cell? ⟨gb104, 1, none⟩ = some (.int .i64 a0_1) := (blk_cell BK104.out 1).trans rfl
        have hcz11_2 : w5.cell? ⟨gb104, 2, none⟩ = some (.string a0_2) := (blk_cell BK104.out 2).trans rfl
        have hfz11_0 := blk_frozen BK104.out 0
        have hfz11_1 := blk_frozen BK104.out 1
        have hfz11_2 := blk_frozen BK104.out 2
        go_wp2_with (first | ((with_reducible refine gate_callee (f := 29) rfl ?_); refine goesL_ (some 7) rfl rfl Try.func29 (by kernel_rfl) rfl #[.agg #[.int .i64 a0_0, .int .i64 a0_1, .string a0_2]] rfl (by (try simp only [List.map_toArray, List.map_cons, List.map_nil]); first | done | rfl | (simp only [List.length_drop, List.length_take]; rfl)) ?_; (with_reducible refine (value_May.calls a0_0 a0_1 a0_2 true _ A6.out).mono ?_); rintro e w12 ⟨rfl, hb⟩; refine ⟨_, rfl, ?_⟩; have n0_ := Aside0.mk (blk_below (g := gb104) (o := .cells #[.int .i64 a0_0, .int .i64 a0_1, .string a0_2] 38 (0, 0)) (by (with_reducible repeat (first | refine blk_drewN ?_ _ | refine blk_drew ?_ | refine blk_alloc ?_ _)); exact BK104.out) hb); have n1_ := Aside0.mk (blk_below (g := gb105) (o := .cells #[.int .i64 a1_0, .int .i64 a1_1, .string a1_2] 38 (0, 0)) (by (with_reducible repeat (first | refine blk_drewN ?_ _ | refine blk_drew ?_ | refine blk_alloc ?_ _)); exact BK105.out) hb); have n2_ := Aside0.mk (below_step (by repeat (first | (with_reducible first | exact HB.out | apply below_alloc | apply pw_below_drewN | apply below_drew1 | refine below_set ?_ GE104.out | refine below_set ?_ GE105.out) | exact HB.out)) hb); clear BK104; clear BK105; clear HB; have BK104 := n0_; have BK105 := n1_; have HB := n2_; clear n0_ n1_ n2_; (try clear hb); (try clear hb2); (try clear hk); (try clear hi); have hcz13_0 : w12.cell? ⟨gb105, 0, none⟩ = some (.int .i64 a1_0) := (blk_cell BK105.out 0).trans rfl; have hcz13_1 : w12.cell? ⟨gb105, 1, none⟩ = some (.int .i64 a1_1) := (blk_cell BK105.out 1).trans rfl; have hcz13_2 : w12.cell? ⟨gb105, 2, none⟩ = some (.string a1_2) := (blk_cell BK105.out 2).trans rfl; have hfz13_0 := blk_frozen BK105.out 0; have hfz13_1 := blk_frozen BK105.out 1; have hfz13_2 := blk_frozen BK105.out 2) | (go_at_call 29; (with_reducible refine (value_May.calls a1_0 a1_1 a1_2 true _ A8.out).mono ?_); rintro e w14 ⟨rfl, hb⟩; have n0_ := Aside0.mk (blk_below (g := gb104) (o := .cells #[.int .i64 a0_0, .int .i64 a0_1, .string a0_2] 38 (0, 0)) (by (with_reducible repeat (first | refine blk_drewN ?_ _ | refine blk_drew ?_ | refine blk_alloc ?_ _)); exact BK104.out) hb); have n1_ := Aside0.mk (blk_below (g := gb105) (o := .cells #[.int .i64 a1_0, .int .i64 a1_1, .string a1_2] 38 (0, 0)) (by (with_reducible repeat (first | refine blk_drewN ?_ _ | refine blk_drew ?_ | refine blk_alloc ?_ _)); exact BK105.out) hb); have n2_ := Aside0.mk (below_step (by repeat (first | (with_reducible first | exact HB.out | apply below_alloc | apply pw_below_drewN | apply below_drew1 | refine below_set ?_ GE104.out | refine below_set ?_ GE105.out) | exact HB.out)) hb); clear BK104; clear BK105; clear HB; have BK104 := n0_; have BK105 := n1_; have HB := n2_; clear n0_ n1_ n2_; (try clear hb); (try clear hb2); (try clear hk); (try clear hi); have hcz15_0 : w14.cell? ⟨gb104, 0, none⟩ = some (.int .i64 a0_0) := (blk_cell BK104.out 0).trans rfl; have hcz15_1 : w14.cell? ⟨gb104, 1, none⟩ = some (.int .i64 a0_1) := (blk_cell BK104.out 1).trans rfl; have hcz15_2 : w14.cell? ⟨gb104, 2, none⟩ = some (.string a0_2) := (blk_cell BK104.out 2).trans rfl; have hfz15_0 := blk_frozen BK104.out 0; have hfz15_1 := blk_frozen BK104.out 1; have hfz15_2 := blk_frozen BK104.out 2; have hcz16_0 : w14.cell? ⟨gb105, 0, none⟩ = some (.int .i64 a1_0) := (blk_cell BK105.out 0).trans rfl; have hcz16_1 : w14.cell? ⟨gb105, 1, none⟩ = some (.int .i64 a1_1) := (blk_cell BK105.out 1).trans rfl; have hcz16_2 : w14.cell? ⟨gb105, 2, none⟩ = some (.string a1_2) := (blk_cell BK105.out 2).trans rfl; have hfz16_0 := blk_frozen BK105.out 0; have hfz16_1 := blk_frozen BK105.out 1; have hfz16_2 := blk_frozen BK105.out 2))
        go_meet
        case rel => exact ⟨_, ((a0_0 != a1_0)), (by first | rfl | (simp; done) | (simp [*]; done)), H', ⟨by first | omega | exact Nat.le_refl _⟩, ⟨by (with_reducible repeat (first | refine blk_drewN ?_ _ | refine blk_drew ?_ | refine blk_alloc ?_ _)); exact BK104.out⟩, ⟨by (with_reducible repeat (first | refine blk_drewN ?_ _ | refine blk_drew ?_ | refine blk_alloc ?_ _)); exact BK105.out⟩, ⟨by repeat (first | (with_reducible first | exact HB.out | apply below_alloc | apply pw_below_drewN | apply below_drew1 | refine below_set ?_ GE104.out | refine below_set ?_ GE105.out) | exact HB.out)⟩⟩
      · replace c9 := Bool.eq_false_iff.mpr c9
        subst c9
        have H1 : (value_Less.j0 k true a0_0 a0_1 a0_2 a1_0 a1_1 a1_2) = some (r1, r2) := by rw [if_neg (show ¬ (false = true) by decide)] at H; exact H
        clear H
        have H := H1
        clear H1
        have H' := Aside0.mk H
        clear H
        have hnb17 := NB104_105.out
        have hnc17 := NB105_104.out
        have hcz18_0 : w5.cell? ⟨gb104, 0, none⟩ = some (.int .i64 a0_0) := (blk_cell BK104.out 0).trans rfl
        have hcz18_1 : w5.cell? ⟨gb104, 1, none⟩ = some (.int .i64 a0_1) := (blk_cell BK104.out 1).trans rfl
        have hcz18_2 : w5.cell? ⟨gb104, 2, none⟩ = some (.string a0_2) := (blk_cell BK104.out 2).trans rfl
        have hfz18_0 := blk_frozen BK104.out 0
        have hfz18_1 := blk_frozen BK104.out 1
        have hfz18_2 := blk_frozen BK104.out 2
        go_wp2_with (first | ((with_reducible refine gate_callee (f := 29) rfl ?_); refine goesL_ (some 7) rfl rfl Try.func29 (by kernel_rfl) rfl #[.agg #[.int .i64 a0_0, .int .i64 a0_1, .string a0_2]] rfl (by (try simp only [List.map_toArray, List.map_cons, List.map_nil]); first | done | rfl | (simp only [List.length_drop, List.length_take]; rfl)) ?_; (with_reducible refine (value_May.calls a0_0 a0_1 a0_2 true _ A6.out).mono ?_); rintro e w19 ⟨rfl, hb⟩; refine ⟨_, rfl, ?_⟩; have n0_ := Aside0.mk (blk_below (g := gb104) (o := .cells #[.int .i64 a0_0, .int .i64 a0_1, .string a0_2] 38 (0, 0)) (by (with_reducible repeat (first | refine blk_drewN ?_ _ | refine blk_drew ?_ | refine blk_alloc ?_ _)); exact BK104.out) hb); have n1_ := Aside0.mk (blk_below (g := gb105) (o := .cells #[.int .i64 a1_0, .int .i64 a1_1, .string a1_2] 38 (0, 0)) (by (with_reducible repeat (first | refine blk_drewN ?_ _ | refine blk_drew ?_ | refine blk_alloc ?_ _)); exact BK105.out) hb); have n2_ := Aside0.mk (below_step (by repeat (first | (with_reducible first | exact HB.out | apply below_alloc | apply pw_below_drewN | apply below_drew1 | refine below_set ?_ GE104.out | refine below_set ?_ GE105.out) | exact HB.out)) hb); clear BK104; clear BK105; clear HB; have BK104 := n0_; have BK105 := n1_; have HB := n2_; clear n0_ n1_ n2_; (try clear hb); (try clear hb2); (try clear hk); (try clear hi); have hcz20_0 : w19.cell? ⟨gb105, 0, none⟩ = some (.int .i64 a1_0) := (blk_cell BK105.out 0).trans rfl; have hcz20_1 : w19.cell? ⟨gb105, 1, none⟩ = some (.int .i64 a1_1) := (blk_cell BK105.out 1).trans rfl; have hcz20_2 : w19.cell? ⟨gb105, 2, none⟩ = some (.string a1_2) := (blk_cell BK105.out 2).trans rfl; have hfz20_0 := blk_frozen BK105.out 0; have hfz20_1 := blk_frozen BK105.out 1; have hfz20_2 := blk_frozen BK105.out 2) | (go_at_call 29; (with_reducible refine (value_May.calls a1_0 a1_1 a1_2 false _ A8.out).mono ?_); rintro e w21 ⟨rfl, hb⟩; have n0_ := Aside0.mk (blk_below (g := gb104) (o := .cells #[.int .i64 a0_0, .int .i64 a0_1, .string a0_2] 38 (0, 0)) (by (with_reducible repeat (first | refine blk_drewN ?_ _ | refine blk_drew ?_ | refine blk_alloc ?_ _)); exact BK104.out) hb); have n1_ := Aside0.mk (blk_below (g := gb105) (o := .cells #[.int .i64 a1_0, .int .i64 a1_1, .string a1_2] 38 (0, 0)) (by (with_reducible repeat (first | refine blk_drewN ?_ _ | refine blk_drew ?_ | refine blk_alloc ?_ _)); exact BK105.out) hb); have n2_ := Aside0.mk (below_step (by repeat (first | (with_reducible first | exact HB.out | apply below_alloc | apply pw_below_drewN | apply below_drew1 | refine below_set ?_ GE104.out | refine below_set ?_ GE105.out) | exact HB.out)) hb); clear BK104; clear BK105; clear HB; have BK104 := n0_; have BK105 := n1_; have HB := n2_; clear n0_ n1_ n2_; (try clear hb); (try clear hb2); (try clear hk); (try clear hi)))
        go_meet
        case rel => exact ⟨_, (true), (by first | rfl | (simp; done) | (simp [*]; done)), H', ⟨by first | omega | exact Nat.le_refl _⟩, ⟨by (with_reducible repeat (first | refine blk_drewN ?_ _ | refine blk_drew ?_ | refine blk_alloc ?_ _)); exact BK104.out⟩, ⟨by (with_reducible repeat (first | refine blk_drewN ?_ _ | refine blk_drew ?_ | refine blk_alloc ?_ _)); exact BK105.out⟩, ⟨by repeat (first | (with_reducible first | exact HB.out | apply below_alloc | apply pw_below_drewN | apply below_drew1 | refine below_set ?_ GE104.out | refine below_set ?_ GE105.out) | exact HB.out)⟩⟩
    · replace c7 := Bool.eq_false_iff.mpr c7
      subst c7
      have H1 : (value_Less.j0 k true a0_0 a0_1 a0_2 a1_0 a1_1 a1_2) = some (r1, r2) := by rw [if_neg (show ¬ (false = true) by decide)] at H; exact H
      clear H
      have H := H1
      clear H1
      have H' := Aside0.mk H
      clear H
      have hnb22 := NB104_105.out
      have hnc22 := NB105_104.out
      have hcz23_0 : w5.cell? ⟨gb104, 0, none⟩ = some (.int .i64 a0_0) := (blk_cell BK104.out 0).trans rfl
      have hcz23_1 : w5.cell? ⟨gb104, 1, none⟩ = some (.int .i64 a0_1) := (blk_cell BK104.out 1).trans rfl
      have hcz23_2 : w5.cell? ⟨gb104, 2, none⟩ = some (.string a0_2) := (blk_cell BK104.out 2).trans rfl
      have hfz23_0 := blk_frozen BK104.out 0
      have hfz23_1 := blk_frozen BK104.out 1
      have hfz23_2 := blk_frozen BK104.out 2
      go_wp2_with (first | ((with_reducible refine gate_callee (f := 29) rfl ?_); refine goesL_ (some 7) rfl rfl Try.func29 (by kernel_rfl) rfl #[.agg #[.int .i64 a0_0, .int .i64 a0_1, .string a0_2]] rfl (by (try simp only [List.map_toArray, List.map_cons, List.map_nil]); first | done | rfl | (simp only [List.length_drop, List.length_take]; rfl)) ?_; (with_reducible refine (value_May.calls a0_0 a0_1 a0_2 false _ A6.out).mono ?_); rintro e w24 ⟨rfl, hb⟩; refine ⟨_, rfl, ?_⟩; have n0_ := Aside0.mk (blk_below (g := gb104) (o := .cells #[.int .i64 a0_0, .int .i64 a0_1, .string a0_2] 38 (0, 0)) (by (with_reducible repeat (first | refine blk_drewN ?_ _ | refine blk_drew ?_ | refine blk_alloc ?_ _)); exact BK104.out) hb); have n1_ := Aside0.mk (blk_below (g := gb105) (o := .cells #[.int .i64 a1_0, .int .i64 a1_1, .string a1_2] 38 (0, 0)) (by (with_reducible repeat (first | refine blk_drewN ?_ _ | refine blk_drew ?_ | refine blk_alloc ?_ _)); exact BK105.out) hb); have n2_ := Aside0.mk (below_step (by repeat (first | (with_reducible first | exact HB.out | apply below_alloc | apply pw_below_drewN | apply below_drew1 | refine below_set ?_ GE104.out | refine below_set ?_ GE105.out) | exact HB.out)) hb); clear BK104; clear BK105; clear HB; have BK104 := n0_; have BK105 := n1_; have HB := n2_; clear n0_ n1_ n2_; (try clear hb); (try clear hb2); (try clear hk); (try clear hi)))
      go_meet
      case rel => exact ⟨_, (true), (by first | rfl | (simp; done) | (simp [*]; done)), H', ⟨by first | omega | exact Nat.le_refl _⟩, ⟨by (with_reducible repeat (first | refine blk_drewN ?_ _ | refine blk_drew ?_ | refine blk_alloc ?_ _)); exact BK104.out⟩, ⟨by (with_reducible repeat (first | refine blk_drewN ?_ _ | refine blk_drew ?_ | refine blk_alloc ?_ _)); exact BK105.out⟩, ⟨by repeat (first | (with_reducible first | exact HB.out | apply below_alloc | apply pw_below_drewN | apply below_drew1 | refine below_set ?_ GE104.out | refine below_set ?_ GE105.out) | exact HB.out)⟩⟩
  case rest =>
    clear HC3
    try clear c1
    try clear c2
    try clear p2
    try clear c3
    try clear c7
    try clear c9
    try clear c10
    try clear c17
    try clear c22
    try clear hcz11_0
    try clear hcz11_1
    try clear hcz11_2
    try clear hcz13_0
    try clear hcz13_1
    try clear hcz13_2
    try clear hcz15_0
    try clear hcz15_1
    try clear hcz15_2
    try clear hcz16_0
    try clear hcz16_1
    try clear hcz16_2
    try clear hcz18_0
    try clear hcz18_1
    try clear hcz18_2
    try clear hcz20_0
    try clear hcz20_1
    try clear hcz20_2
    try clear hcz23_0
    try clear hcz23_1
    try clear hcz23_2
    try clear hfz11_0
    try clear hfz11_1
    try clear hfz11_2
    try clear hfz13_0
    try clear hfz13_1
    try clear hfz13_2
    try clear hfz15_0
    try clear hfz15_1
    try clear hfz15_2
    try clear hfz16_0
    try clear hfz16_1
    try clear hfz16_2
    try clear hfz18_0
    try clear hfz18_1
    try clear hfz18_2
    try clear hfz20_0
    try clear hfz20_1
    try clear hfz20_2
    try clear hfz23_0
    try clear hfz23_1
    try clear hfz23_2
    obtain ⟨kq, x20_2, rfl, HA, HJ2, BK104, BK105, HB⟩ := hcut
    cases kq with
    | zero => exact absurd HA.out (by simp [value_Less.j0])
    | succ kj2 =>
      have H := HA.out
      clear HA
      simp only [value_Less.j0] at H
      by_cases c25 : x20_2 = true
      · subst c25
        have H1 : (some (false, false)) = some (r1, r2) := by rw [if_pos rfl] at H; exact H
        clear H
        have H := H1
        clear H1
        simp only [Option.some.injEq, Prod.mk.injEq] at H
        obtain ⟨rfl, rfl⟩ := H
        go_wp2
        go_ret2
        exact ⟨by first | rfl | (simp [errW_none, errW_some] <;> rfl) | (simp [*, errW_none, errW_some] <;> rfl), by repeat (first | (with_reducible first | exact HB.out | apply below_alloc | apply pw_below_drewN | apply below_drew1 | refine below_set ?_ GE104.out | refine below_set ?_ GE105.out) | exact HB.out)⟩
      · replace c25 := Bool.eq_false_iff.mpr c25
        subst c25
        have H1 : ((cmp_Compare_int.f a0_1 a1_1).bind fun t108 => ((cmp_Compare_string.f a0_2 a1_2).bind fun t109 => ((cmp_Or_int.f kj2 (([t108, t109] : List Int))).bind fun t113 => (some (decide (t113 < 0), true))))) = some (r1, r2) := by rw [if_neg (show ¬ (false = true) by decide)] at H; exact H
        clear H
        have H := H1
        clear H1
        replace H := Option.bind_eq_some_iff.mp H
        obtain ⟨t108, A260, H⟩ := H
        replace H : ((cmp_Compare_string.f a0_2 a1_2).bind fun t109 => ((cmp_Or_int.f kj2 (([t108, t109] : List Int))).bind fun t113 => (some (decide (t113 < 0), true)))) = some (r1, r2) := H
        have A26 := Aside0.mk A260
        clear A260
        replace H := Option.bind_eq_some_iff.mp H
        obtain ⟨t109, A270, H⟩ := H
        replace H : ((cmp_Or_int.f kj2 (([t108, t109] : List Int))).bind fun t113 => (some (decide (t113 < 0), true))) = some (r1, r2) := H
        have A27 := Aside0.mk A270
        clear A270
        obtain ⟨y110, hy110⟩ : ∃ y_ : List Int, y_ = (([t108, t109] : List Int)) := ⟨_, rfl⟩
        replace H : ((cmp_Or_int.f kj2 y110).bind fun t113 => (some (decide (t113 < 0), true))) = some (r1, r2) := by first | (rw [hy110]; with_reducible exact H) | (have H2_ := (Option.bind_some _ _).symm.trans H; rw [hy110]; with_reducible exact H2_) | (have H2_ := (Option.bind_some _ _).symm.trans H; with_reducible exact H2_) | with_reducible exact H | (rw [hy110]; exact H) | exact H
        have Ny110 := Aside0.mk hy110
        clear hy110
        replace H := Option.bind_eq_some_iff.mp H
        obtain ⟨t113, A280, H⟩ := H
        replace H : (some (decide (t113 < 0), true)) = some (r1, r2) := H
        have A28 := Aside0.mk A280
        clear A280
        simp only [Option.some.injEq, Prod.mk.injEq] at H
        obtain ⟨rfl, rfl⟩ := H
        try go_wp2
        have n0_ := Aside0.mk (blk_drew BK104.out)
        have n1_ := Aside0.mk (blk_drew BK105.out)
        have n2_ := Aside0.mk (below_drew1 HB.out)
        clear BK104
        clear BK105
        clear HB
        have BK104 := n0_
        have BK105 := n1_
        have HB := n2_
        clear n0_ n1_ n2_
        refine start_ (n := 15) (S := fun w' => w'.cell? ⟨gb104, 0, none⟩ = some (.int .i64 a0_0) ∧ w'.cell? ⟨gb104, 1, none⟩ = some (.int .i64 a0_1) ∧ w'.cell? ⟨gb104, 2, none⟩ = some (.string a0_2) ∧ w'.cell? ⟨gb105, 0, none⟩ = some (.int .i64 a1_0) ∧ w'.cell? ⟨gb105, 1, none⟩ = some (.int .i64 a1_1) ∧ w'.cell? ⟨gb105, 2, none⟩ = some (.string a1_2)) (ds := []) #[false, false, false, false, false, false, false, false, false, false, false, false, false, false, false] (by kernel_rfl) rfl rfl ⟨(blk_cell BK104.out 0).trans rfl, (blk_cell BK104.out 1).trans rfl, (blk_cell BK104.out 2).trans rfl, (blk_cell BK105.out 0).trans rfl, (blk_cell BK105.out 1).trans rfl, (blk_cell BK105.out 2).trans rfl⟩ (fun hHeld => ?_); refine with_tabW value_Less.tab3 value_Less.bits3 (fun HT_ HW_ => ?_)
        generalize wc.drew = w29 at BK104 BK105 HB hHeld ⊢
        refine pure_ (i := 0) (N := some 21) (v := ?_) (a' := ?_) #[true, false, false, false, false, false, false, false, false, false, false, false, false, false, false] rfl rfl (any_of HT_.out (by kernel_rfl)) (fun _ _ _ h => h) (Or.inl ⟨by rfl, ?_⟩) ?_ ?_
        rotate_left
        · intro w'
          go_simp
          with_reducible rfl
        rotate_left
        · simp only [Act.put, List.setIfInBounds_toArray, List.set_cons_zero, List.set_cons_succ, i64_w, i32_w]
          rfl
        refine pure_ (i := 2) (N := some 23) (v := ?_) (a' := ?_) #[true, false, true, false, false, false, false, false, false, false, false, false, false, false, false] rfl rfl (any_of HT_.out (by kernel_rfl)) (fun _ _ _ h => h) (Or.inl ⟨by rfl, ?_⟩) ?_ ?_
        rotate_left
        · intro w'
          go_simp
          with_reducible rfl
        rotate_left
        · simp only [Act.put, List.setIfInBounds_toArray, List.set_cons_zero, List.set_cons_succ, i64_w, i32_w]
          rfl
        refine pure_ (i := 5) (N := some 26) (v := ?_) (a' := ?_) #[true, false, true, false, false, true, false, false, false, false, false, false, false, false, false] rfl rfl (any_of HT_.out (by kernel_rfl)) (fun _ _ _ h => h) (Or.inl ⟨by rfl, ?_⟩) ?_ ?_
        rotate_left
        · intro w'
          go_simp
          with_reducible rfl
        rotate_left
        · simp only [Act.put, List.setIfInBounds_toArray, List.set_cons_zero, List.set_cons_succ, i64_w, i32_w]
          rfl
        refine pure_ (i := 7) (N := some 28) (v := ?_) (a' := ?_) #[true, false, true, false, false, true, false, true, false, false, false, false, false, false, false] rfl rfl (any_of HT_.out (by kernel_rfl)) (fun _ _ _ h => h) (Or.inl ⟨by rfl, ?_⟩) ?_ ?_
        rotate_left
        · intro w'
          go_simp
          with_reducible rfl
        rotate_left
        · simp only [Act.put, List.setIfInBounds_toArray, List.set_cons_zero, List.set_cons_succ, i64_w, i32_w]
          rfl
        refine take_ (i := 1) (N := some 22) (v := ?_) (a' := ?_) #[true, true, true, false, false, true, false, true, false, false, false, false, false, false, false] rfl rfl (take_ofW HT_.out HW_.out (by kernel_rfl)) (fun _ _ _ h => h) (Or.inl ⟨by rfl, ?_⟩) hHeld ?_ ?_
        rotate_left
        · rintro w' ⟨s0, s1, s2, s3, s4, s5⟩
          go_simp
          with_reducible rfl
        rotate_left
        · simp only [Act.put, List.setIfInBounds_toArray, List.set_cons_zero, List.set_cons_succ, i64_w, i32_w]
          rfl
        refine take_ (i := 3) (N := some 24) (v := ?_) (a' := ?_) #[true, true, true, true, false, true, false, true, false, false, false, false, false, false, false] rfl rfl (take_ofW HT_.out HW_.out (by kernel_rfl)) (fun _ _ _ h => h) (Or.inl ⟨by rfl, ?_⟩) hHeld ?_ ?_
        rotate_left
        · rintro w' ⟨s0, s1, s2, s3, s4, s5⟩
          go_simp
          with_reducible rfl
        rotate_left
        · simp only [Act.put, List.setIfInBounds_toArray, List.set_cons_zero, List.set_cons_succ, i64_w, i32_w]
          rfl
        refine take_ (i := 6) (N := some 27) (v := ?_) (a' := ?_) #[true, true, true, true, false, true, true, true, false, false, false, false, false, false, false] rfl rfl (take_ofW HT_.out HW_.out (by kernel_rfl)) (fun _ _ _ h => h) (Or.inl ⟨by rfl, ?_⟩) hHeld ?_ ?_
        rotate_left
        · rintro w' ⟨s0, s1, s2, s3, s4, s5⟩
          go_simp
          with_reducible rfl
        rotate_left
        · simp only [Act.put, List.setIfInBounds_toArray, List.set_cons_zero, List.set_cons_succ, i64_w, i32_w]
          rfl
        refine take_ (i := 8) (N := some 29) (v := ?_) (a' := ?_) #[true, true, true, true, false, true, true, true, true, false, false, false, false, false, false] rfl rfl (take_ofW HT_.out HW_.out (by kernel_rfl)) (fun _ _ _ h => h) (Or.inl ⟨by rfl, ?_⟩) hHeld ?_ ?_
        rotate_left
        · rintro w' ⟨s0, s1, s2, s3, s4, s5⟩
          go_simp
          with_reducible rfl
        rotate_left
        · simp only [Act.put, List.setIfInBounds_toArray, List.set_cons_zero, List.set_cons_succ, i64_w, i32_w]
          rfl
        refine one_ (i := 4) (N := some 25) #[true, true, true, true, true, true, true, true, true, false, false, false, false, false, false] rfl rfl (one_of HT_.out (by kernel_rfl)) (by decide) (fun K hK => ?_)
        refine goes_ Try.func60 (by kernel_rfl) rfl #[.int .i64 a0_1, .int .i64 a1_1] (by rfl) rfl rfl (by (try simp only [List.map_toArray, List.map_cons, List.map_nil]); first | done | rfl | (simp only [List.length_drop, List.length_take]; rfl)) ?_
        with_reducible refine (cmp_Compare_int.calls a0_1 a1_1 t108 _ A26.out).mono ?_
        rintro e w' ⟨rfl, ⟨nd, rfl⟩⟩
        refine ⟨_, rfl, ?_⟩
        refine hK.out _ _ ⟨(blk_cell BK104.out 0).trans rfl, (blk_cell BK104.out 1).trans rfl, (blk_cell BK104.out 2).trans rfl, (blk_cell BK105.out 0).trans rfl, (blk_cell BK105.out 1).trans rfl, (blk_cell BK105.out 2).trans rfl⟩ (fun hHeld => ?_)
        clear hK K
        refine norm_ (a' := ?_) ?_ ?_
        rotate_left
        · show Act.put _ (some 25) _ = _
          simp only [Act.put, List.setIfInBounds_toArray, List.set_cons_zero, List.set_cons_succ, i64_w, i32_w]
          rfl
        refine one_ (i := 9) (N := some 30) #[true, true, true, true, true, true, true, true, true, true, false, false, false, false, false] rfl rfl (one_of HT_.out (by kernel_rfl)) (by decide) (fun K hK => ?_)
        refine goes_ Try.func61 (by kernel_rfl) rfl #[.string a0_2, .string a1_2] (by rfl) rfl rfl (by (try simp only [List.map_toArray, List.map_cons, List.map_nil]); first | done | rfl | (simp only [List.length_drop, List.length_take]; rfl)) ?_
        with_reducible refine (cmp_Compare_string.calls a0_2 a1_2 t109 _ A27.out).mono ?_
        rintro e w' ⟨rfl, ⟨nd, rfl⟩⟩
        refine ⟨_, rfl, ?_⟩
        refine hK.out _ _ ⟨(blk_cell BK104.out 0).trans rfl, (blk_cell BK104.out 1).trans rfl, (blk_cell BK104.out 2).trans rfl, (blk_cell BK105.out 0).trans rfl, (blk_cell BK105.out 1).trans rfl, (blk_cell BK105.out 2).trans rfl⟩ (fun hHeld => ?_)
        clear hK K
        refine norm_ (a' := ?_) ?_ ?_
        rotate_left
        · show Act.put _ (some 30) _ = _
          simp only [Act.put, List.setIfInBounds_toArray, List.set_cons_zero, List.set_cons_succ, i64_w, i32_w]
          rfl
        refine one_ (i := 10) (N := some 31) #[true, true, true, true, true, true, true, true, true, true, true, false, false, false, false] rfl rfl (one_of HT_.out (by kernel_rfl)) (by decide) (fun K hK => ?_)
        refine Kd.R_lit_step (Kd.int .i64) _ 3 ?hg (N := 31) ?hd (xs := ([t108, t109] : List Int)) (inner := [.int .i64 t108, .int .i64 t109]) (ok := fun _ => True) (okp := fun _ => True) ?hr ?hp (fun _ hk => hk) trivial (Below.refl _ _) (Nat.le_refl _) (by simp) ?_; (case hd => rfl); (case hg => rfl); (case hr => first | (go_simp; done) | (go_simp; rfl)); (case hp => exact (Reps.one (show Kd.M (Kd.int .i64) _ _ _ t108 [.int .i64 t108] from rfl) (Reps.one (show Kd.M (Kd.int .i64) _ _ _ t109 [.int .i64 t109] from rfl) (Reps.none _ _))))
        intro v111 w30 ho31 hb hg_ hnew_
        clear hg_ hnew_
        (first | rw [← Ny110.out] at ho31 | (simp only [Int.reduceToNat] at ho31; rw [← Ny110.out] at ho31))
        have n0_ := Aside0.mk (Kd.R_lower ho31 (below_size (by repeat (first | (with_reducible first | exact HB.out | apply below_alloc | apply pw_below_drewN | apply below_drew1 | refine below_set ?_ GE104.out | refine below_set ?_ GE105.out) | exact HB.out))))
        have n1_ := Aside0.mk (blk_below (g := gb104) (o := .cells #[.int .i64 a0_0, .int .i64 a0_1, .string a0_2] 38 (0, 0)) (by (with_reducible repeat (first | refine blk_drewN ?_ _ | refine blk_drew ?_ | refine blk_alloc ?_ _)); exact BK104.out) hb)
        have n2_ := Aside0.mk (blk_below (g := gb105) (o := .cells #[.int .i64 a1_0, .int .i64 a1_1, .string a1_2] 38 (0, 0)) (by (with_reducible repeat (first | refine blk_drewN ?_ _ | refine blk_drew ?_ | refine blk_alloc ?_ _)); exact BK105.out) hb)
        have n3_ := Aside0.mk (below_step (by repeat (first | (with_reducible first | exact HB.out | apply below_alloc | apply pw_below_drewN | apply below_drew1 | refine below_set ?_ GE104.out | refine below_set ?_ GE105.out) | exact HB.out)) hb)
        clear BK104
        clear BK105
        clear HB
        have HO112 := n0_
        have BK104 := n1_
        have BK105 := n2_
        have HB := n3_
        clear n0_ n1_ n2_ n3_
        clear hb ho31
        obtain ⟨Ao32, co32, eo32⟩ := Kd.R_slice HO112.out
        (first | subst eo32 | (injection eo32 with f1_ f2_ f3_; have f4_ := f1_.symm; have f5_ := f3_.symm; clear f1_ f2_ f3_; subst f4_; subst f5_))
        refine hK.out _ _ ⟨(blk_cell BK104.out 0).trans rfl, (blk_cell BK104.out 1).trans rfl, (blk_cell BK104.out 2).trans rfl, (blk_cell BK105.out 0).trans rfl, (blk_cell BK105.out 1).trans rfl, (blk_cell BK105.out 2).trans rfl⟩ (fun hHeld => ?_)
        clear hK K
        refine norm_ (a' := ?_) ?_ ?_
        rotate_left
        · show Act.put _ (some 31) _ = _
          simp only [Act.put, List.setIfInBounds_toArray, List.set_cons_zero, List.set_cons_succ, i64_w, i32_w]
          rfl
        refine one_ (i := 11) (N := some 32) #[true, true, true, true, true, true, true, true, true, true, true, true, false, false, false] rfl rfl (one_of HT_.out (by kernel_rfl)) (by decide) (fun K hK => ?_)
        refine goes_ Try.func59 (by kernel_rfl) rfl #[.slice Ao32 y110.length co32] (by rfl) rfl rfl (by (try simp only [List.map_toArray, List.map_cons, List.map_nil]); first | done | rfl | (simp only [List.length_drop, List.length_take]; rfl)) ?_
        with_reducible refine (cmp_Or_int.calls kj2 _ _ y110 t113 _ ?side1 ?side2 A28.out).mono ?_
        (case side1 => repeat (first | exact (Kd.R_reads' HO112.out).2.2 | (with_reducible refine Kd.C_alloc ?_ _) | (with_reducible refine Kd.C_drewN ?_ _) | (with_reducible refine Kd.C_drew ?_)))
        (case side2 => exact (Kd.R_reads' HO112.out).2.1)
        rintro e w' ⟨rfl, ⟨nd, rfl⟩⟩
        refine ⟨_, rfl, ?_⟩
        refine hK.out _ _ ⟨(blk_cell BK104.out 0).trans rfl, (blk_cell BK104.out 1).trans rfl, (blk_cell BK104.out 2).trans rfl, (blk_cell BK105.out 0).trans rfl, (blk_cell BK105.out 1).trans rfl, (blk_cell BK105.out 2).trans rfl⟩ (fun hHeld => ?_)
        clear hK K
        refine norm_ (a' := ?_) ?_ ?_
        rotate_left
        · show Act.put _ (some 32) _ = _
          simp only [Act.put, List.setIfInBounds_toArray, List.set_cons_zero, List.set_cons_succ, i64_w, i32_w]
          rfl
        refine pure_ (i := 12) (N := some 33) (v := ?_) (a' := ?_) #[true, true, true, true, true, true, true, true, true, true, true, true, true, false, false] rfl rfl (any_of HT_.out (by kernel_rfl)) (fun _ _ _ h => h) (Or.inl ⟨by rfl, ?_⟩) ?_ ?_
        rotate_left
        · intro w'
          go_simp
          with_reducible rfl
        rotate_left
        · simp only [Act.put, List.setIfInBounds_toArray, List.set_cons_zero, List.set_cons_succ, i64_w, i32_w]
          rfl
        refine pure_ (i := 13) (N := some 4) (v := ?_) (a' := ?_) #[true, true, true, true, true, true, true, true, true, true, true, true, true, true, false] rfl rfl (any_of HT_.out (by kernel_rfl)) (fun _ _ _ h => h) (Or.inl ⟨by rfl, ?_⟩) ?_ ?_
        rotate_left
        · intro w'
          go_simp
          with_reducible rfl
        rotate_left
        · simp only [Act.put, List.setIfInBounds_toArray, List.set_cons_zero, List.set_cons_succ, i64_w, i32_w]
          rfl
        refine pure_ (i := 14) (N := some 5) (v := ?_) (a' := ?_) #[true, true, true, true, true, true, true, true, true, true, true, true, true, true, true] rfl rfl (any_of HT_.out (by kernel_rfl)) (fun _ _ _ h => h) (Or.inl ⟨by rfl, ?_⟩) ?_ ?_
        rotate_left
        · intro w'
          go_simp
          with_reducible rfl
        rotate_left
        · simp only [Act.put, List.setIfInBounds_toArray, List.set_cons_zero, List.set_cons_succ, i64_w, i32_w]
          rfl
        refine done_ (done_of HT_.out (by kernel_rfl)) ?_
        try go_wp2
        go_ret2
        exact ⟨by first | rfl | (simp [errW_none, errW_some] <;> rfl) | (simp [*, errW_none, errW_some] <;> rfl), by repeat (first | (with_reducible first | exact HB.out | apply below_alloc | apply pw_below_drewN | apply below_drew1 | refine below_set ?_ GE104.out | refine below_set ?_ GE105.out) | exact HB.out)⟩

/-! ### expr_sum: function 119 -/
def expr_sum.f (a0 : Int) (a1 : Int) (a2 : Int) : Option (Int × Bool) := if a0 = 2 then (some (wrap64 (a1 + a2), ((decide ((wrap64 (a1 + a2)) > a1)) == (decide (a2 > 0))))) else (if a0 = 3 then (some (wrap64 (a1 - a2), ((decide ((wrap64 (a1 - a2)) < a1)) == (decide (a2 > 0))))) else (if a1 = 0 then (some (0, true)) else (if a2 = 0 then (some (0, true)) else (if (wrap64 (Int.tdiv (wrap64 (a1 * a2)) a2)) = a1 then (if a2 = (-1) then (if (a1 = (wrap64 (a1 * a2))) then (some (wrap64 (a1 * a2), false)) else (if a1 = (-1) then (some (wrap64 (a1 * a2), !(a2 == (wrap64 (a1 * a2))))) else (some (wrap64 (a1 * a2), !false)))) else (if a1 = (-1) then (some (wrap64 (a1 * a2), !(a2 == (wrap64 (a1 * a2))))) else (some (wrap64 (a1 * a2), !false)))) else (some (wrap64 (a1 * a2), false))))))
set_option maxHeartbeats 8000000 in
set_option maxRecDepth 100000 in
theorem expr_sum.calls (a0 : Int) (a1 : Int) (a2 : Int) (r1 : Int) (r2 : Bool) (w : World) (h : expr_sum.f a0 a1 a2 = some (r1, r2)) :
    Calls Try.prog 119 #[.int .i64 a0, .int .i64 a1, .int .i64 a2] w fun e w' => e = .returned (.tuple #[.int .i64 r1, .bool r2]) ∧ Drawn0 w w' := by
  have H : (if a0 = 2 then (some (wrap64 (a1 + a2), ((decide ((wrap64 (a1 + a2)) > a1)) == (decide (a2 > 0))))) else (if a0 = 3 then (some (wrap64 (a1 - a2), ((decide ((wrap64 (a1 - a2)) < a1)) == (decide (a2 > 0))))) else (if a1 = 0 then (some (0, true)) else (if a2 = 0 then (some (0, true)) else (if (wrap64 (Int.tdiv (wrap64 (a1 * a2)) a2)) = a1 then (if a2 = (-1) then (if (a1 = (wrap64 (a1 * a2))) then (some (wrap64 (a1 * a2), false)) else (if a1 = (-1) then (some (wrap64 (a1 * a2), !(a2 == (wrap64 (a1 * a2))))) else (some (wrap64 (a1 * a2), !false)))) else (if a1 = (-1) then (some (wrap64 (a1 * a2), !(a2 == (wrap64 (a1 * a2))))) else (some (wrap64 (a1 * a2), !false)))) else (some (wrap64 (a1 * a2), false))))))) = some (r1, r2) := h
  clear h
  by_cases c4 : a0 = 2
  · rw [if_pos c4] at H
    have c4b0 : (a0 == 2) = true := beq_iff_eq.mpr c4
    have c4b1 : (a0 != 2) = false := bne_eq_false_iff_eq.mpr c4
    clear c4
    simp only [Option.some.injEq, Prod.mk.injEq] at H
    obtain ⟨rfl, rfl⟩ := H
    go_enter Try.func119, Try.ntmps119
    go_wp2
    go_ret2
    exact ⟨by first | rfl | (simp; done) | (simp [*]; done), by repeat (first | exact Drawn0.refl _ | apply Drawn0.step)⟩
  · rw [if_neg c4] at H
    have c4b0 : (a0 == 2) = false := beq_eq_false_iff_ne.mpr c4
    have c4b1 : (a0 != 2) = true := bne_iff_ne.mpr c4
    by_cases c5 : a0 = 3
    · rw [if_pos c5] at H
      have c5b0 : (a0 == 3) = true := beq_iff_eq.mpr c5
      have c5b1 : (a0 != 3) = false := bne_eq_false_iff_eq.mpr c5
      clear c5
      simp only [Option.some.injEq, Prod.mk.injEq] at H
      obtain ⟨rfl, rfl⟩ := H
      go_enter Try.func119, Try.ntmps119
      go_wp2
      go_ret2
      exact ⟨by first | rfl | (simp; done) | (simp [*]; done), by repeat (first | exact Drawn0.refl _ | apply Drawn0.step)⟩
    · rw [if_neg c5] at H
      have c5b0 : (a0 == 3) = false := beq_eq_false_iff_ne.mpr c5
      have c5b1 : (a0 != 3) = true := bne_iff_ne.mpr c5
      by_cases c6 : a1 = 0
      · rw [if_pos c6] at H
        have c6b0 : (a1 == 0) = true := beq_iff_eq.mpr c6
        have c6b1 : (a1 != 0) = false := bne_eq_false_iff_eq.mpr c6
        clear c6
        simp only [Option.some.injEq, Prod.mk.injEq] at H
        obtain ⟨rfl, rfl⟩ := H
        go_enter Try.func119, Try.ntmps119
        go_wp2
        go_ret2
        exact ⟨by first | rfl | (simp; done) | (simp [*]; done), by repeat (first | exact Drawn0.refl _ | apply Drawn0.step)⟩
      · rw [if_neg c6] at H
        have c6b0 : (a1 == 0) = false := beq_eq_false_iff_ne.mpr c6
        have c6b1 : (a1 != 0) = true := bne_iff_ne.mpr c6
        by_cases c7 : a2 = 0
        · rw [if_pos c7] at H
          have c7b0 : (a2 == 0) = true := beq_iff_eq.mpr c7
          have c7b1 : (a2 != 0) = false := bne_eq_false_iff_eq.mpr c7
          clear c7
          simp only [Option.some.injEq, Prod.mk.injEq] at H
          obtain ⟨rfl, rfl⟩ := H
          go_enter Try.func119, Try.ntmps119
          go_wp2
          go_ret2
          exact ⟨by first | rfl | (simp; done) | (simp [*]; done), by repeat (first | exact Drawn0.refl _ | apply Drawn0.step)⟩
        · rw [if_neg c7] at H
          have c7b0 : (a2 == 0) = false := beq_eq_false_iff_ne.mpr c7
          have c7b1 : (a2 != 0) = true := bne_iff_ne.mpr c7
          by_cases c8 : (wrap64 (Int.tdiv (wrap64 (a1 * a2)) a2)) = a1
          · rw [if_pos c8] at H
            have c8b0 : ((wrap64 (Int.tdiv (wrap64 (a1 * a2)) a2)) == a1) = true := beq_iff_eq.mpr c8
            have c8b1 : ((wrap64 (Int.tdiv (wrap64 (a1 * a2)) a2)) != a1) = false := bne_eq_false_iff_eq.mpr c8
            clear c8
            by_cases c9 : a2 = (-1)
            · rw [if_pos c9] at H
              have c9b0 : (a2 == (-1)) = true := beq_iff_eq.mpr c9
              have c9b1 : (a2 != (-1)) = false := bne_eq_false_iff_eq.mpr c9
              clear c9
              by_cases c10 : (a1 = (wrap64 (a1 * a2)))
              · rw [if_pos c10] at H
                have c10b0 : (a1 == (wrap64 (a1 * a2))) = true := beq_iff_eq.mpr c10
                have c10b1 : (a1 != (wrap64 (a1 * a2))) = false := bne_eq_false_iff_eq.mpr c10
                clear c10
                simp only [Option.some.injEq, Prod.mk.injEq] at H
                obtain ⟨rfl, rfl⟩ := H
                go_enter Try.func119, Try.ntmps119
                go_wp2
                go_ret2
                exact ⟨by first | rfl | (simp; done) | (simp [*]; done), by repeat (first | exact Drawn0.refl _ | apply Drawn0.step)⟩
              · rw [if_neg c10] at H
                have c10b0 : (a1 == (wrap64 (a1 * a2))) = false := beq_eq_false_iff_ne.mpr c10
                have c10b1 : (a1 != (wrap64 (a1 * a2))) = true := bne_iff_ne.mpr c10
                by_cases c11 : a1 = (-1)
                · rw [if_pos c11] at H
                  have c11b0 : (a1 == (-1)) = true := beq_iff_eq.mpr c11
                  have c11b1 : (a1 != (-1)) = false := bne_eq_false_iff_eq.mpr c11
                  clear c11
                  simp only [Option.some.injEq, Prod.mk.injEq] at H
                  obtain ⟨rfl, rfl⟩ := H
                  go_enter Try.func119, Try.ntmps119
                  go_wp2
                  go_ret2
                  exact ⟨by first | rfl | (simp; done) | (simp [*]; done), by repeat (first | exact Drawn0.refl _ | apply Drawn0.step)⟩
                · rw [if_neg c11] at H
                  have c11b0 : (a1 == (-1)) = false := beq_eq_false_iff_ne.mpr c11
                  have c11b1 : (a1 != (-1)) = true := bne_iff_ne.mpr c11
                  simp only [Option.some.injEq, Prod.mk.injEq] at H
                  obtain ⟨rfl, rfl⟩ := H
                  go_enter Try.func119, Try.ntmps119
                  go_wp2
                  go_ret2
                  exact ⟨by first | rfl | (simp; done) | (simp [*]; done), by repeat (first | exact Drawn0.refl _ | apply Drawn0.step)⟩
            · rw [if_neg c9] at H
              have c9b0 : (a2 == (-1)) = false := beq_eq_false_iff_ne.mpr c9
              have c9b1 : (a2 != (-1)) = true := bne_iff_ne.mpr c9
              by_cases c12 : a1 = (-1)
              · rw [if_pos c12] at H
                have c12b0 : (a1 == (-1)) = true := beq_iff_eq.mpr c12
                have c12b1 : (a1 != (-1)) = false := bne_eq_false_iff_eq.mpr c12
                clear c12
                simp only [Option.some.injEq, Prod.mk.injEq] at H
                obtain ⟨rfl, rfl⟩ := H
                go_enter Try.func119, Try.ntmps119
                go_wp2
                go_ret2
                exact ⟨by first | rfl | (simp; done) | (simp [*]; done), by repeat (first | exact Drawn0.refl _ | apply Drawn0.step)⟩
              · rw [if_neg c12] at H
                have c12b0 : (a1 == (-1)) = false := beq_eq_false_iff_ne.mpr c12
                have c12b1 : (a1 != (-1)) = true := bne_iff_ne.mpr c12
                simp only [Option.some.injEq, Prod.mk.injEq] at H
                obtain ⟨rfl, rfl⟩ := H
                go_enter Try.func119, Try.ntmps119
                go_wp2
                go_ret2
                exact ⟨by first | rfl | (simp; done) | (simp [*]; done), by repeat (first | exact Drawn0.refl _ | apply Drawn0.step)⟩
          · rw [if_neg c8] at H
            have c8b0 : ((wrap64 (Int.tdiv (wrap64 (a1 * a2)) a2)) == a1) = false := beq_eq_false_iff_ne.mpr c8
            have c8b1 : ((wrap64 (Int.tdiv (wrap64 (a1 * a2)) a2)) != a1) = true := bne_iff_ne.mpr c8
            simp only [Option.some.injEq, Prod.mk.injEq] at H
            obtain ⟨rfl, rfl⟩ := H
            go_enter Try.func119, Try.ntmps119
            go_wp2
            go_ret2
            exact ⟨by first | rfl | (simp; done) | (simp [*]; done), by repeat (first | exact Drawn0.refl _ | apply Drawn0.step)⟩

-- NOT PRINTED: function 107 (expr_two)

-- NOT PRINTED: function 80 (expr_pile_part)

-- NOT PRINTED: function 42 (expr_pile_through)

-- BY HAND: function 17 (expr_Kind)

-- BY HAND: function 48 (le_Put)

-- BY HAND: function 87 (le_Zig)

-- BY HAND: function 49 (value_Put)

end Go.Proofs.Yteommchgnocgnaa.PE
end

section
namespace Go.Proofs.Yteommchgnocgnaa.PE
open Go.RowKit Go.Proofs.YteommchgnocgnaaW.PrintWords Go.Proofs.YteommchgnocgnaaW.PrintLast Go.Proofs.YteommchgnocgnaaW.PrintMore
attribute [local go_sem] max2_int min2_int max_two min_two max_three min_three max_four min_four   -- for this text's walks alone
set_option linter.unusedVariables false
set_option linter.unusedSimpArgs false

theorem eqA38 (d : Nat) (w : World) (x0 y0 : Int) (x1 y1 : Int) (x2 y2 : ByteArray) :
    (Op.equalIn (d + 2) 38 (.agg #[.int .i64 x0, .int .i64 x1, .string x2]) (.agg #[.int .i64 y0, .int .i64 y1, .string y2])).run Try.prog w = .ok (x0 == y0 && (x1 == y1 && (x2.toList == y2.toList))) w := by
  refine eqA_of Try.underlying38 (by kernel_rfl) ?_
  refine eqf_cons (by rfl) (by go_simp; rfl) (by go_simp; rfl) (by go_simp) ?_
  refine eqf_cons (by rfl) (by go_simp; rfl) (by go_simp; rfl) (by go_simp) ?_
  exact eqf_last (by rfl) (by go_simp; rfl) (by go_simp; rfl) (by go_simp)
end Go.Proofs.Yteommchgnocgnaa.PE
end

section
namespace Go.Proofs.Yteommchgnocgnaa.PE
open Go.RowKit Go.Proofs.YteommchgnocgnaaW.PrintWords Go.Proofs.YteommchgnocgnaaW.PrintLast Go.Proofs.YteommchgnocgnaaW.PrintMore
set_option linter.unusedVariables false
set_option linter.unusedSimpArgs false

/-- What lies on a pile. -/
inductive Thing where
  | num (n : Int)
  | tru (b : Bool)
  | oth (k n : Int) (s : ByteArray)
def thingV : Thing → Value
  | .num n => .iface 152 (.int .i64 n)
  | .tru b => .iface 94 (.bool b)
  | .oth k n s => .iface 159 (.agg #[.int .i64 k, .int .i64 n, .string s])
theorem thingV_one (x : Thing) : (thingV x).oneCell' = true := by cases x <;> rfl
def kT : Kd Thing := Kd.scalar thingV thingV_one
def zT : Thing := .num 0
theorem info125 : (Try.prog.info? 125).map (fun i => (i.zero, i.size, i.bytes)) = some (some .nilIface, 1, 16) := by kernel_rfl
def b2i (b : Bool) : Int := if b then 1 else 0
/-- Its value's kind, number, text. -/
def tK : Thing → Int
  | .num _ => 0
  | .tru _ => 1
  | .oth k _ _ => k
def tN : Thing → Int
  | .num n => n
  | .tru b => b2i b
  | .oth _ n _ => n
def tS : Thing → ByteArray
  | .oth _ _ s => s
  | _ => ⟨#[]⟩
def thingOf (k n : Int) (s : ByteArray) : Thing := if k = 0 then .num n else if k = 1 then .tru (n == 1) else .oth k n s

set_option maxHeartbeats 8000000 in
set_option maxRecDepth 100000 in
theorem expr_of.calls (k n : Int) (s : ByteArray) (w : World) :
    Calls Try.prog 104 #[.agg #[.int .i64 k, .int .i64 n, .string s]] w fun e w' => e = .returned (thingV (thingOf k n s)) ∧ Below w.heap.size w w' := by
  have hu38 := Try.underlying38
  have hB := (Below.refl w.heap.size w).alloc (Nat.le_refl _) (.cells #[.int .i64 k, .int .i64 n, .string s] 38)
  unfold thingOf
  by_cases c0 : k = 0
  · subst c0; rw [if_pos rfl]
    go_enter Try.func104, Try.ntmps104; go_wp2; go_ret; exact ⟨rfl, hB⟩
  rw [if_neg c0]
  have b0 : (k == 0) = false := beq_eq_false_iff_ne.mpr c0
  by_cases c1 : k = 1
  · subst c1; rw [if_pos rfl]; clear c0 b0
    go_enter Try.func104, Try.ntmps104; go_wp2; go_ret; exact ⟨rfl, hB⟩
  rw [if_neg c1]
  have b1 : (k == 1) = false := beq_eq_false_iff_ne.mpr c1
  clear c0 c1
  go_enter Try.func104, Try.ntmps104; go_wp2; go_ret; exact ⟨rfl, hB⟩

set_option maxHeartbeats 8000000 in
set_option maxRecDepth 100000 in
theorem num_value.calls (n : Int) (w : World) :
    Calls Try.prog 135 #[.int .i64 n] w fun e w' => e = .returned (.agg #[.int .i64 0, .int .i64 n, .string ⟨#[]⟩]) ∧ Below w.heap.size w w' := by
  have hu38 := Try.underlying38
  go_enter Try.func135, Try.ntmps135
  go_wp2
  refine bodyPost_ret (results_cell_row rfl _ _ w.heap.size 38 #[.int .i64 0, .int .i64 n, .string ⟨#[]⟩] (0, 0) _ rfl (blk_new _ _) Try.underlying38 rfl (by kernel_rfl)) rfl ?_
  exact ⟨rfl, (Below.refl _ _).alloc (Nat.le_refl _) _⟩

set_option maxHeartbeats 8000000 in
set_option maxRecDepth 100000 in
theorem tru_value.calls (b : Bool) (w : World) :
    Calls Try.prog 56 #[.bool b] w fun e w' => e = .returned (.agg #[.int .i64 1, .int .i64 (b2i b), .string ⟨#[]⟩]) ∧ Below w.heap.size w w' := by
  have hu38 := Try.underlying38
  cases b with
  | false =>
    go_enter Try.func56, Try.ntmps56
    go_wp2
    refine bodyPost_ret (results_cell_row rfl _ _ w.heap.size 38 #[.int .i64 1, .int .i64 0, .string ⟨#[]⟩] (0, 0) _ rfl (blk_new _ _) Try.underlying38 rfl (by kernel_rfl)) rfl ?_
    exact ⟨rfl, (Below.refl _ _).alloc (Nat.le_refl _) _⟩
  | true =>
    go_enter Try.func56, Try.ntmps56
    go_wp2
    refine bodyPost_ret (results_cell_row rfl _ _ w.heap.size 38 #[.int .i64 1, .int .i64 1, .string ⟨#[]⟩] (0, 0) _ rfl (blk_new _ _) Try.underlying38 rfl (by kernel_rfl)) rfl ?_
    exact ⟨rfl, (Below.refl _ _).alloc (Nat.le_refl _) _⟩

set_option maxHeartbeats 8000000 in
set_option maxRecDepth 100000 in
theorem oth_value.calls (k n : Int) (s : ByteArray) (w : World) :
    Calls Try.prog 136 #[.agg #[.int .i64 k, .int .i64 n, .string s]] w fun e w' => e = .returned (.agg #[.int .i64 k, .int .i64 n, .string s]) ∧ Below w.heap.size w w' := by
  have hu38 := Try.underlying38
  have hu159 := Try.underlying159
  go_enter Try.func136, Try.ntmps136
  go_wp2
  refine bodyPost_ret (results_cell_row rfl _ _ (w.heap.size + 1) 38 #[.int .i64 k, .int .i64 n, .string s] (0, 0) _ rfl (by have h := blk_new (w.alloc (.cells #[.int .i64 k, .int .i64 n, .string s] 159)) (.cells #[.int .i64 k, .int .i64 n, .string s] 38); simpa using h) Try.underlying38 rfl (by kernel_rfl)) rfl ?_
  exact ⟨rfl, below_alloc ((Below.refl _ _).alloc (Nat.le_refl _) _) _⟩

theorem m_num (n : Int) (w : World) : (method 280 152 (.int .i64 n) "towncrier/expr.value").run Try.prog w = .ok (135, .int .i64 n) w := by kernel_rfl
theorem m_tru (b : Bool) (w : World) : (method 280 94 (.bool b) "towncrier/expr.value").run Try.prog w = .ok (56, .bool b) w := by kernel_rfl
theorem m_oth (k n : Int) (s : ByteArray) (w : World) : (method 280 159 (.agg #[.int .i64 k, .int .i64 n, .string s]) "towncrier/expr.value").run Try.prog w = .ok (136, .agg #[.int .i64 k, .int .i64 n, .string s]) w := by kernel_rfl

/-- Things that the program makes: what is neither an Int nor a Bool is of another kind. -/
def okT : Thing → Prop
  | .oth k _ _ => k ≠ 0 ∧ k ≠ 1
  | _ => True
theorem okT_of (k n : Int) (s : ByteArray) : okT (thingOf k n s) := by
  unfold thingOf
  by_cases h0 : k = 0
  · rw [if_pos h0]; trivial
  · rw [if_neg h0]
    by_cases h1 : k = 1
    · rw [if_pos h1]; trivial
    · rw [if_neg h1]; exact ⟨h0, h1⟩
/-- value.Less's answer. -/
def lessNS (n : Int) (s : ByteArray) (n' : Int) (s' : ByteArray) : Bool := if n < n' then true else if n' < n then false else Op.bytesLess s.toList s'.toList
def lessV (k n : Int) (s : ByteArray) (k' n' : Int) (s' : ByteArray) : Bool × Bool :=
  if mayB k n s = true then (if mayB k' n' s' = true then (if k = k' then (lessNS n s n' s', true) else (false, false)) else (false, false)) else (false, false)
theorem cmpI_some (a b : Int) : cmp_Compare_int.f a b = some (if a < b then -1 else if a > b then 1 else 0) := by
  unfold cmp_Compare_int.f cmp_isNaN_int.f
  simp only [Option.bind_some, bne_self_eq_false, Bool.false_eq_true, if_false]
  split <;> (try split) <;> rfl
theorem cmpOr2 (a b : Int) : cmp_Or_int.f 3 [a, b] = some (if a = 0 then b else a) := by
  unfold cmp_Or_int.f
  simp only [cmp_Or_int.l0, List.length_cons, List.length_nil, rd, wrap64]
  by_cases h : a = 0
  · subst h
    simp
    by_cases hb : b = 0
    · subst hb; simp
    · simp [hb]
  · simp [h]
theorem less_some (k n : Int) (s : ByteArray) (k' n' : Int) (s' : ByteArray) : value_Less.f 4 k n s k' n' s' = some (lessV k n s k' n' s') := by
  unfold value_Less.f value_May.f lessV
  simp only [Option.bind_some]
  by_cases h1 : mayB k n s = true
  · rw [if_pos h1, if_pos h1]
    by_cases h2 : mayB k' n' s' = true
    · rw [if_pos h2, if_pos h2]
      by_cases h3 : k = k'
      · rw [if_pos h3, show (k != k') = false from by simp [h3]]
        simp only [value_Less.j0, Bool.false_eq_true, if_false, cmpI_some, cmp_Compare_string.f, Option.bind_some, cmpOr2]
        unfold lessNS cmpS
        by_cases g1 : n < n'
        · simp [g1]
        · rw [if_neg g1, if_neg g1]
          by_cases g2 : n > n'
          · rw [if_pos g2, if_pos (show n' < n from g2)]; simp
          · rw [if_neg g2, if_neg (show ¬ n' < n from g2)]
            cases g3 : Op.bytesLess s.toList s'.toList <;> simp
            split <;> simp
      · rw [if_neg h3, show (k != k') = true from by simp [h3]]
        simp [value_Less.j0]
    · rw [if_neg h2, if_neg h2]; simp [value_Less.j0]
  · rw [if_neg h1, if_neg h1]; simp [value_Less.j0]

theorem sum_some (c p q : Int) : ∃ r, expr_sum.f c p q = some r := by
  unfold expr_sum.f
  repeat' split
  all_goals exact ⟨_, rfl⟩
def sumT (c p q : Int) : Int × Bool := (expr_sum.f c p q).getD (0, false)
theorem sumT_some (c p q : Int) : expr_sum.f c p q = some (sumT c p q) := by
  obtain ⟨r, hr⟩ := sum_some c p q
  unfold sumT; rw [hr]; rfl

/-- What comes of two things; the error's number. -/
def twoT (c : Int) (x y : Thing) : Option Thing × Int :=
  if tK x = tK y then
    if c = 6 then (some (.tru (tN x == tN y && (tS x).toList == (tS y).toList)), 0)
    else if c = 5 then (match x with | .tru _ => (none, 5) | _ => (some (.tru (lessV (tK x) (tN x) (tS x) (tK y) (tN y) (tS y)).1), 0))
    else if c = 7 ∨ c = 8 then (match x, y with | .tru p, .tru q => (some (.tru (p && q || (c == 8 && (p || q)))), 0) | _, _ => (none, 5))
    else (match x, y with | .num p, .num q => (if (sumT c p q).2 = true then (some (.num (sumT c p q).1), 0) else (none, 6)) | _, _ => (none, 5))
  else (none, 5)
def optV : Option Thing → Value
  | none => .nilIface
  | some t => thingV t

theorem ta_n_tru (n : Int) (W : World) : (Instr.typeAssert (.iface 152 (.int .i64 n)) 125 94 true).run Try.prog W = .ok (.tuple #[.bool false, .bool false]) W := by kernel_rfl
theorem ta_t_tru (b : Bool) (W : World) : (Instr.typeAssert (.iface 94 (.bool b)) 125 94 true).run Try.prog W = .ok (.tuple #[.bool b, .bool true]) W := by kernel_rfl
theorem ta_o_tru (k n : Int) (s : ByteArray) (W : World) : (Instr.typeAssert (.iface 159 (.agg #[.int .i64 k, .int .i64 n, .string s])) 125 94 true).run Try.prog W = .ok (.tuple #[.bool false, .bool false]) W := by kernel_rfl
theorem ta_t_trux (b : Bool) (W : World) : (Instr.typeAssert (.iface 94 (.bool b)) 125 94 false).run Try.prog W = .ok (.bool b) W := by kernel_rfl
theorem ta_n_num (n : Int) (W : World) : (Instr.typeAssert (.iface 152 (.int .i64 n)) 125 152 true).run Try.prog W = .ok (.tuple #[.int .i64 n, .bool true]) W := by kernel_rfl
theorem ta_t_num (b : Bool) (W : World) : (Instr.typeAssert (.iface 94 (.bool b)) 125 152 true).run Try.prog W = .ok (.tuple #[.int .i64 0, .bool false]) W := by kernel_rfl
theorem ta_o_num (k n : Int) (s : ByteArray) (W : World) : (Instr.typeAssert (.iface 159 (.agg #[.int .i64 k, .int .i64 n, .string s])) 125 152 true).run Try.prog W = .ok (.tuple #[.int .i64 0, .bool false]) W := by kernel_rfl
theorem ta_n_numx (n : Int) (W : World) : (Instr.typeAssert (.iface 152 (.int .i64 n)) 125 152 false).run Try.prog W = .ok (.int .i64 n) W := by kernel_rfl

set_option maxHeartbeats 8000000 in
set_option maxRecDepth 100000 in
theorem two_num_tru (c : Int) (x : Int) (y : Bool) (w : World) :
    Calls Try.prog 107 #[.int .i64 c, thingV (.num x), thingV (.tru y)] w fun e w' => e = .returned (.tuple #[.nilIface, .int .i64 5]) ∧ Below w.heap.size w w' := by
  have hu38 := Try.underlying38
  have m1 := m_num
  have m2 := m_tru
  have m3 := m_oth
  have ta1 := ta_n_tru
  have ta2 := ta_t_tru
  have ta3 := ta_o_tru
  have ta4 := ta_t_trux
  have ta5 := ta_n_num
  have ta6 := ta_t_num
  have ta7 := ta_o_num
  have ta8 := ta_n_numx
  unfold thingV
  go_enter Try.func107, Try.ntmps107
  go_wp2_with (fail)
  refine (num_value.calls x _).mono ?_
  rintro e w1 ⟨rfl, hb⟩
  go_wp2_with (fail)
  refine (tru_value.calls y _).mono ?_
  rintro e w2 ⟨rfl, hb2⟩
  replace hb := Aside0.mk (below_step hb hb2)
  clear hb2
  go_wp2
  go_ret2
  exact ⟨rfl, below_alloc (below_alloc hb.out _) _⟩

set_option maxHeartbeats 8000000 in
set_option maxRecDepth 100000 in
theorem two_num_oth (c : Int) (x : Int) (ky ny : Int) (sy : ByteArray) (hne : (0 : Int) ≠ ky) (w : World) :
    Calls Try.prog 107 #[.int .i64 c, thingV (.num x), thingV (.oth ky ny sy)] w fun e w' => e = .returned (.tuple #[.nilIface, .int .i64 5]) ∧ Below w.heap.size w w' := by
  have f1 : ((0 : Int) == ky) = false := beq_eq_false_iff_ne.mpr hne
  have f2 : ((0 : Int) != ky) = true := bne_iff_ne.mpr hne
  clear hne
  have hu38 := Try.underlying38
  have m1 := m_num
  have m2 := m_tru
  have m3 := m_oth
  have ta1 := ta_n_tru
  have ta2 := ta_t_tru
  have ta3 := ta_o_tru
  have ta4 := ta_t_trux
  have ta5 := ta_n_num
  have ta6 := ta_t_num
  have ta7 := ta_o_num
  have ta8 := ta_n_numx
  unfold thingV
  go_enter Try.func107, Try.ntmps107
  go_wp2_with (fail)
  refine (num_value.calls x _).mono ?_
  rintro e w1 ⟨rfl, hb⟩
  go_wp2_with (fail)
  refine (oth_value.calls ky ny sy _).mono ?_
  rintro e w2 ⟨rfl, hb2⟩
  replace hb := Aside0.mk (below_step hb hb2)
  clear hb2
  go_wp2
  go_ret2
  exact ⟨rfl, below_alloc (below_alloc hb.out _) _⟩

set_option maxHeartbeats 8000000 in
set_option maxRecDepth 100000 in
theorem two_tru_num (c : Int) (x : Bool) (y : Int) (w : World) :
    Calls Try.prog 107 #[.int .i64 c, thingV (.tru x), thingV (.num y)] w fun e w' => e = .returned (.tuple #[.nilIface, .int .i64 5]) ∧ Below w.heap.size w w' := by
  have hu38 := Try.underlying38
  have m1 := m_num
  have m2 := m_tru
  have m3 := m_oth
  have ta1 := ta_n_tru
  have ta2 := ta_t_tru
  have ta3 := ta_o_tru
  have ta4 := ta_t_trux
  have ta5 := ta_n_num
  have ta6 := ta_t_num
  have ta7 := ta_o_num
  have ta8 := ta_n_numx
  unfold thingV
  go_enter Try.func107, Try.ntmps107
  go_wp2_with (fail)
  refine (tru_value.calls x _).mono ?_
  rintro e w1 ⟨rfl, hb⟩
  go_wp2_with (fail)
  refine (num_value.calls y _).mono ?_
  rintro e w2 ⟨rfl, hb2⟩
  replace hb := Aside0.mk (below_step hb hb2)
  clear hb2
  go_wp2
  go_ret2
  exact ⟨rfl, below_alloc (below_alloc hb.out _) _⟩

set_option maxHeartbeats 8000000 in
set_option maxRecDepth 100000 in
theorem two_tru_oth (c : Int) (x : Bool) (ky ny : Int) (sy : ByteArray) (hne : (1 : Int) ≠ ky) (w : World) :
    Calls Try.prog 107 #[.int .i64 c, thingV (.tru x), thingV (.oth ky ny sy)] w fun e w' => e = .returned (.tuple #[.nilIface, .int .i64 5]) ∧ Below w.heap.size w w' := by
  have f1 : ((1 : Int) == ky) = false := beq_eq_false_iff_ne.mpr hne
  have f2 : ((1 : Int) != ky) = true := bne_iff_ne.mpr hne
  clear hne
  have hu38 := Try.underlying38
  have m1 := m_num
  have m2 := m_tru
  have m3 := m_oth
  have ta1 := ta_n_tru
  have ta2 := ta_t_tru
  have ta3 := ta_o_tru
  have ta4 := ta_t_trux
  have ta5 := ta_n_num
  have ta6 := ta_t_num
  have ta7 := ta_o_num
  have ta8 := ta_n_numx
  unfold thingV
  go_enter Try.func107, Try.ntmps107
  go_wp2_with (fail)
  refine (tru_value.calls x _).mono ?_
  rintro e w1 ⟨rfl, hb⟩
  go_wp2_with (fail)
  refine (oth_value.calls ky ny sy _).mono ?_
  rintro e w2 ⟨rfl, hb2⟩
  replace hb := Aside0.mk (below_step hb hb2)
  clear hb2
  go_wp2
  go_ret2
  exact ⟨rfl, below_alloc (below_alloc hb.out _) _⟩

set_option maxHeartbeats 8000000 in
set_option maxRecDepth 100000 in
theorem two_oth_num (c : Int) (kx nx : Int) (sx : ByteArray) (y : Int) (hne : (kx : Int) ≠ 0) (w : World) :
    Calls Try.prog 107 #[.int .i64 c, thingV (.oth kx nx sx), thingV (.num y)] w fun e w' => e = .returned (.tuple #[.nilIface, .int .i64 5]) ∧ Below w.heap.size w w' := by
  have f1 : ((kx : Int) == 0) = false := beq_eq_false_iff_ne.mpr hne
  have f2 : ((kx : Int) != 0) = true := bne_iff_ne.mpr hne
  clear hne
  have hu38 := Try.underlying38
  have m1 := m_num
  have m2 := m_tru
  have m3 := m_oth
  have ta1 := ta_n_tru
  have ta2 := ta_t_tru
  have ta3 := ta_o_tru
  have ta4 := ta_t_trux
  have ta5 := ta_n_num
  have ta6 := ta_t_num
  have ta7 := ta_o_num
  have ta8 := ta_n_numx
  unfold thingV
  go_enter Try.func107, Try.ntmps107
  go_wp2_with (fail)
  refine (oth_value.calls kx nx sx _).mono ?_
  rintro e w1 ⟨rfl, hb⟩
  go_wp2_with (fail)
  refine (num_value.calls y _).mono ?_
  rintro e w2 ⟨rfl, hb2⟩
  replace hb := Aside0.mk (below_step hb hb2)
  clear hb2
  go_wp2
  go_ret2
  exact ⟨rfl, below_alloc (below_alloc hb.out _) _⟩

set_option maxHeartbeats 8000000 in
set_option maxRecDepth 100000 in
theorem two_oth_tru (c : Int) (kx nx : Int) (sx : ByteArray) (y : Bool) (hne : (kx : Int) ≠ 1) (w : World) :
    Calls Try.prog 107 #[.int .i64 c, thingV (.oth kx nx sx), thingV (.tru y)] w fun e w' => e = .returned (.tuple #[.nilIface, .int .i64 5]) ∧ Below w.heap.size w w' := by
  have f1 : ((kx : Int) == 1) = false := beq_eq_false_iff_ne.mpr hne
  have f2 : ((kx : Int) != 1) = true := bne_iff_ne.mpr hne
  clear hne
  have hu38 := Try.underlying38
  have m1 := m_num
  have m2 := m_tru
  have m3 := m_oth
  have ta1 := ta_n_tru
  have ta2 := ta_t_tru
  have ta3 := ta_o_tru
  have ta4 := ta_t_trux
  have ta5 := ta_n_num
  have ta6 := ta_t_num
  have ta7 := ta_o_num
  have ta8 := ta_n_numx
  unfold thingV
  go_enter Try.func107, Try.ntmps107
  go_wp2_with (fail)
  refine (oth_value.calls kx nx sx _).mono ?_
  rintro e w1 ⟨rfl, hb⟩
  go_wp2_with (fail)
  refine (tru_value.calls y _).mono ?_
  rintro e w2 ⟨rfl, hb2⟩
  replace hb := Aside0.mk (below_step hb hb2)
  clear hb2
  go_wp2
  go_ret2
  exact ⟨rfl, below_alloc (below_alloc hb.out _) _⟩

set_option maxHeartbeats 8000000 in
set_option maxRecDepth 100000 in
theorem two_oth_oth (c : Int) (kx nx : Int) (sx : ByteArray) (ky ny : Int) (sy : ByteArray) (hne : (kx : Int) ≠ ky) (w : World) :
    Calls Try.prog 107 #[.int .i64 c, thingV (.oth kx nx sx), thingV (.oth ky ny sy)] w fun e w' => e = .returned (.tuple #[.nilIface, .int .i64 5]) ∧ Below w.heap.size w w' := by
  have f1 : ((kx : Int) == ky) = false := beq_eq_false_iff_ne.mpr hne
  have f2 : ((kx : Int) != ky) = true := bne_iff_ne.mpr hne
  clear hne
  have hu38 := Try.underlying38
  have m1 := m_num
  have m2 := m_tru
  have m3 := m_oth
  have ta1 := ta_n_tru
  have ta2 := ta_t_tru
  have ta3 := ta_o_tru
  have ta4 := ta_t_trux
  have ta5 := ta_n_num
  have ta6 := ta_t_num
  have ta7 := ta_o_num
  have ta8 := ta_n_numx
  unfold thingV
  go_enter Try.func107, Try.ntmps107
  go_wp2_with (fail)
  refine (oth_value.calls kx nx sx _).mono ?_
  rintro e w1 ⟨rfl, hb⟩
  go_wp2_with (fail)
  refine (oth_value.calls ky ny sy _).mono ?_
  rintro e w2 ⟨rfl, hb2⟩
  replace hb := Aside0.mk (below_step hb hb2)
  clear hb2
  go_wp2
  go_ret2
  exact ⟨rfl, below_alloc (below_alloc hb.out _) _⟩

attribute [local go_sem high] eqA38
set_option maxHeartbeats 8000000 in
set_option maxRecDepth 100000 in
theorem two_same_num (x : Int) (y : Int) (w : World) :
    Calls Try.prog 107 #[.int .i64 6, thingV (.num x), thingV (.num y)] w fun e w' => e = .returned (.tuple #[.iface 94 (.bool (x == y)), .int .i64 0]) ∧ Below w.heap.size w w' := by
  have hu38 := Try.underlying38
  have m1 := m_num
  have m2 := m_tru
  have m3 := m_oth
  have ta1 := ta_n_tru
  have ta2 := ta_t_tru
  have ta3 := ta_o_tru
  have ta4 := ta_t_trux
  have ta5 := ta_n_num
  have ta6 := ta_t_num
  have ta7 := ta_o_num
  have ta8 := ta_n_numx
  unfold thingV
  go_enter Try.func107, Try.ntmps107
  go_wp2_with (fail)
  refine (num_value.calls x _).mono ?_
  rintro e w1 ⟨rfl, hb⟩
  go_wp2_with (fail)
  refine (num_value.calls y _).mono ?_
  rintro e w2 ⟨rfl, hb2⟩
  replace hb := Aside0.mk (below_step hb hb2)
  clear hb2
  go_wp2
  go_ret2
  exact ⟨rfl, below_alloc (below_alloc hb.out _) _⟩

set_option maxHeartbeats 8000000 in
set_option maxRecDepth 100000 in
theorem two_less_num (x : Int) (y : Int) (r1 r2 : Bool) (hl : lessV 0 x ⟨#[]⟩ 0 y ⟨#[]⟩ = (r1, r2)) (w : World) :
    Calls Try.prog 107 #[.int .i64 5, thingV (.num x), thingV (.num y)] w fun e w' => e = .returned (.tuple #[.iface 94 (.bool r1), .int .i64 0]) ∧ Below w.heap.size w w' := by
  have HL := Aside0.mk ((less_some 0 x ⟨#[]⟩ 0 y ⟨#[]⟩).trans (congrArg some hl))
  clear hl
  have hu38 := Try.underlying38
  have m1 := m_num
  have m2 := m_tru
  have m3 := m_oth
  have ta1 := ta_n_tru
  have ta2 := ta_t_tru
  have ta3 := ta_o_tru
  have ta4 := ta_t_trux
  have ta5 := ta_n_num
  have ta6 := ta_t_num
  have ta7 := ta_o_num
  have ta8 := ta_n_numx
  unfold thingV
  go_enter Try.func107, Try.ntmps107
  go_wp2_with (fail)
  refine (num_value.calls x _).mono ?_
  rintro e w1 ⟨rfl, hb⟩
  go_wp2_with (fail)
  refine (num_value.calls y _).mono ?_
  rintro e w2 ⟨rfl, hb2⟩
  replace hb := Aside0.mk (below_step hb hb2)
  clear hb2
  go_wp2_with (fail)
  refine (value_Less.calls 4 0 x ⟨#[]⟩ 0 y ⟨#[]⟩ r1 r2 _ HL.out).mono ?_
  rintro e w3 ⟨rfl, hb3⟩
  replace hb := Aside0.mk (below_step (below_alloc (below_alloc hb.out _) _) hb3)
  clear hb3
  go_wp2
  go_ret2
  exact ⟨rfl, hb.out⟩

set_option maxHeartbeats 8000000 in
set_option maxRecDepth 100000 in
theorem two_c7_num (x : Int) (y : Int) (w : World) :
    Calls Try.prog 107 #[.int .i64 7, thingV (.num x), thingV (.num y)] w fun e w' => e = .returned (.tuple #[.nilIface, .int .i64 5]) ∧ Below w.heap.size w w' := by
  have hu38 := Try.underlying38
  have m1 := m_num
  have m2 := m_tru
  have m3 := m_oth
  have ta1 := ta_n_tru
  have ta2 := ta_t_tru
  have ta3 := ta_o_tru
  have ta4 := ta_t_trux
  have ta5 := ta_n_num
  have ta6 := ta_t_num
  have ta7 := ta_o_num
  have ta8 := ta_n_numx
  unfold thingV
  go_enter Try.func107, Try.ntmps107
  go_wp2_with (fail)
  refine (num_value.calls x _).mono ?_
  rintro e w1 ⟨rfl, hb⟩
  go_wp2_with (fail)
  refine (num_value.calls y _).mono ?_
  rintro e w2 ⟨rfl, hb2⟩
  replace hb := Aside0.mk (below_step hb hb2)
  clear hb2
  go_wp2
  go_ret2
  exact ⟨rfl, below_alloc (below_alloc hb.out _) _⟩

set_option maxHeartbeats 8000000 in
set_option maxRecDepth 100000 in
theorem two_c8_num (x : Int) (y : Int) (w : World) :
    Calls Try.prog 107 #[.int .i64 8, thingV (.num x), thingV (.num y)] w fun e w' => e = .returned (.tuple #[.nilIface, .int .i64 5]) ∧ Below w.heap.size w w' := by
  have hu38 := Try.underlying38
  have m1 := m_num
  have m2 := m_tru
  have m3 := m_oth
  have ta1 := ta_n_tru
  have ta2 := ta_t_tru
  have ta3 := ta_o_tru
  have ta4 := ta_t_trux
  have ta5 := ta_n_num
  have ta6 := ta_t_num
  have ta7 := ta_o_num
  have ta8 := ta_n_numx
  unfold thingV
  go_enter Try.func107, Try.ntmps107
  go_wp2_with (fail)
  refine (num_value.calls x _).mono ?_
  rintro e w1 ⟨rfl, hb⟩
  go_wp2_with (fail)
  refine (num_value.calls y _).mono ?_
  rintro e w2 ⟨rfl, hb2⟩
  replace hb := Aside0.mk (below_step hb hb2)
  clear hb2
  go_wp2
  go_ret2
  exact ⟨rfl, below_alloc (below_alloc hb.out _) _⟩

set_option maxHeartbeats 8000000 in
set_option maxRecDepth 100000 in
theorem two_other_num_true (c x y r : Int) (h6 : c ≠ 6) (h5 : c ≠ 5) (h7 : c ≠ 7) (h8 : c ≠ 8) (w : World) (hs : expr_sum.f c x y = some (r, true)) :
    Calls Try.prog 107 #[.int .i64 c, thingV (.num x), thingV (.num y)] w fun e w' => e = .returned (.tuple #[.iface 152 (.int .i64 r), .int .i64 0]) ∧ Below w.heap.size w w' := by
  have f6 : (c == 6) = false := beq_eq_false_iff_ne.mpr h6
  have f5 : (c == 5) = false := beq_eq_false_iff_ne.mpr h5
  have f7 : (c == 7) = false := beq_eq_false_iff_ne.mpr h7
  have f8 : (c == 8) = false := beq_eq_false_iff_ne.mpr h8
  clear h5 h6 h7 h8
  replace hs := Aside0.mk hs
  have hu38 := Try.underlying38
  have m1 := m_num
  have m2 := m_tru
  have m3 := m_oth
  have ta1 := ta_n_tru
  have ta2 := ta_t_tru
  have ta3 := ta_o_tru
  have ta4 := ta_t_trux
  have ta5 := ta_n_num
  have ta6 := ta_t_num
  have ta7 := ta_o_num
  have ta8 := ta_n_numx
  unfold thingV
  go_enter Try.func107, Try.ntmps107
  go_wp2_with (fail)
  refine (num_value.calls x _).mono ?_
  rintro e w1 ⟨rfl, hb⟩
  go_wp2_with (fail)
  refine (num_value.calls y _).mono ?_
  rintro e w2 ⟨rfl, hb2⟩
  replace hb := Aside0.mk (below_step hb hb2)
  clear hb2
  go_wp2_with (fail)
  refine (expr_sum.calls c x y r true _ hs.out).mono ?_
  rintro e w3 ⟨rfl, ⟨nd, rfl⟩⟩
  go_wp2
  go_ret2
  exact ⟨rfl, pw_below_drewN (below_alloc (below_alloc hb.out _) _) _⟩

set_option maxHeartbeats 8000000 in
set_option maxRecDepth 100000 in
theorem two_other_num_false (c x y r : Int) (h6 : c ≠ 6) (h5 : c ≠ 5) (h7 : c ≠ 7) (h8 : c ≠ 8) (w : World) (hs : expr_sum.f c x y = some (r, false)) :
    Calls Try.prog 107 #[.int .i64 c, thingV (.num x), thingV (.num y)] w fun e w' => e = .returned (.tuple #[.nilIface, .int .i64 6]) ∧ Below w.heap.size w w' := by
  have f6 : (c == 6) = false := beq_eq_false_iff_ne.mpr h6
  have f5 : (c == 5) = false := beq_eq_false_iff_ne.mpr h5
  have f7 : (c == 7) = false := beq_eq_false_iff_ne.mpr h7
  have f8 : (c == 8) = false := beq_eq_false_iff_ne.mpr h8
  clear h5 h6 h7 h8
  replace hs := Aside0.mk hs
  have hu38 := Try.underlying38
  have m1 := m_num
  have m2 := m_tru
  have m3 := m_oth
  have ta1 := ta_n_tru
  have ta2 := ta_t_tru
  have ta3 := ta_o_tru
  have ta4 := ta_t_trux
  have ta5 := ta_n_num
  have ta6 := ta_t_num
  have ta7 := ta_o_num
  have ta8 := ta_n_numx
  unfold thingV
  go_enter Try.func107, Try.ntmps107
  go_wp2_with (fail)
  refine (num_value.calls x _).mono ?_
  rintro e w1 ⟨rfl, hb⟩
  go_wp2_with (fail)
  refine (num_value.calls y _).mono ?_
  rintro e w2 ⟨rfl, hb2⟩
  replace hb := Aside0.mk (below_step hb hb2)
  clear hb2
  go_wp2_with (fail)
  refine (expr_sum.calls c x y r false _ hs.out).mono ?_
  rintro e w3 ⟨rfl, ⟨nd, rfl⟩⟩
  go_wp2
  go_ret2
  exact ⟨rfl, pw_below_drewN (below_alloc (below_alloc hb.out _) _) _⟩

attribute [local go_sem high] eqA38
set_option maxHeartbeats 8000000 in
set_option maxRecDepth 100000 in
theorem two_same_tru (x : Bool) (y : Bool) (w : World) :
    Calls Try.prog 107 #[.int .i64 6, thingV (.tru x), thingV (.tru y)] w fun e w' => e = .returned (.tuple #[.iface 94 (.bool (b2i x == b2i y)), .int .i64 0]) ∧ Below w.heap.size w w' := by
  have hu38 := Try.underlying38
  have m1 := m_num
  have m2 := m_tru
  have m3 := m_oth
  have ta1 := ta_n_tru
  have ta2 := ta_t_tru
  have ta3 := ta_o_tru
  have ta4 := ta_t_trux
  have ta5 := ta_n_num
  have ta6 := ta_t_num
  have ta7 := ta_o_num
  have ta8 := ta_n_numx
  unfold thingV
  go_enter Try.func107, Try.ntmps107
  go_wp2_with (fail)
  refine (tru_value.calls x _).mono ?_
  rintro e w1 ⟨rfl, hb⟩
  go_wp2_with (fail)
  refine (tru_value.calls y _).mono ?_
  rintro e w2 ⟨rfl, hb2⟩
  replace hb := Aside0.mk (below_step hb hb2)
  clear hb2
  go_wp2
  go_ret2
  exact ⟨rfl, below_alloc (below_alloc hb.out _) _⟩

set_option maxHeartbeats 8000000 in
set_option maxRecDepth 100000 in
theorem two_less_tru (x : Bool) (y : Bool) (r1 r2 : Bool) (hl : lessV 1 (b2i x) ⟨#[]⟩ 1 (b2i y) ⟨#[]⟩ = (r1, r2)) (w : World) :
    Calls Try.prog 107 #[.int .i64 5, thingV (.tru x), thingV (.tru y)] w fun e w' => e = .returned (.tuple #[.nilIface, .int .i64 5]) ∧ Below w.heap.size w w' := by
  have HL := Aside0.mk ((less_some 1 (b2i x) ⟨#[]⟩ 1 (b2i y) ⟨#[]⟩).trans (congrArg some hl))
  clear hl
  have hu38 := Try.underlying38
  have m1 := m_num
  have m2 := m_tru
  have m3 := m_oth
  have ta1 := ta_n_tru
  have ta2 := ta_t_tru
  have ta3 := ta_o_tru
  have ta4 := ta_t_trux
  have ta5 := ta_n_num
  have ta6 := ta_t_num
  have ta7 := ta_o_num
  have ta8 := ta_n_numx
  unfold thingV
  go_enter Try.func107, Try.ntmps107
  go_wp2_with (fail)
  refine (tru_value.calls x _).mono ?_
  rintro e w1 ⟨rfl, hb⟩
  go_wp2_with (fail)
  refine (tru_value.calls y _).mono ?_
  rintro e w2 ⟨rfl, hb2⟩
  replace hb := Aside0.mk (below_step hb hb2)
  clear hb2
  go_wp2_with (fail)
  refine (value_Less.calls 4 1 (b2i x) ⟨#[]⟩ 1 (b2i y) ⟨#[]⟩ r1 r2 _ HL.out).mono ?_
  rintro e w3 ⟨rfl, hb3⟩
  replace hb := Aside0.mk (below_step (below_alloc (below_alloc hb.out _) _) hb3)
  clear hb3
  go_wp2
  go_ret2
  exact ⟨rfl, hb.out⟩

set_option maxHeartbeats 8000000 in
set_option maxRecDepth 100000 in
theorem two_c7_tru (x : Bool) (y : Bool) (w : World) :
    Calls Try.prog 107 #[.int .i64 7, thingV (.tru x), thingV (.tru y)] w fun e w' => e = .returned (.tuple #[.iface 94 (.bool (x && y)), .int .i64 0]) ∧ Below w.heap.size w w' := by
  cases x <;> cases y
  all_goals
    have hu38 := Try.underlying38
    have m1 := m_num
    have m2 := m_tru
    have m3 := m_oth
    have ta1 := ta_n_tru
    have ta2 := ta_t_tru
    have ta3 := ta_o_tru
    have ta4 := ta_t_trux
    have ta5 := ta_n_num
    have ta6 := ta_t_num
    have ta7 := ta_o_num
    have ta8 := ta_n_numx
    unfold thingV
    go_enter Try.func107, Try.ntmps107
    go_wp2_with (fail)
    refine (tru_value.calls _ _).mono ?_
    rintro e w1 ⟨rfl, hb⟩
    go_wp2_with (fail)
    refine (tru_value.calls _ _).mono ?_
    rintro e w2 ⟨rfl, hb2⟩
    replace hb := Aside0.mk (below_step hb hb2)
    clear hb2
    go_wp2
    go_quiet (fail)
    go_wp2
    go_ret2
    exact ⟨rfl, pw_below_drewN (below_alloc (below_alloc hb.out _) _) _⟩

set_option maxHeartbeats 8000000 in
set_option maxRecDepth 100000 in
theorem two_c8_tru (x : Bool) (y : Bool) (w : World) :
    Calls Try.prog 107 #[.int .i64 8, thingV (.tru x), thingV (.tru y)] w fun e w' => e = .returned (.tuple #[.iface 94 (.bool (x && y || (x || y))), .int .i64 0]) ∧ Below w.heap.size w w' := by
  cases x <;> cases y
  all_goals
    have hu38 := Try.underlying38
    have m1 := m_num
    have m2 := m_tru
    have m3 := m_oth
    have ta1 := ta_n_tru
    have ta2 := ta_t_tru
    have ta3 := ta_o_tru
    have ta4 := ta_t_trux
    have ta5 := ta_n_num
    have ta6 := ta_t_num
    have ta7 := ta_o_num
    have ta8 := ta_n_numx
    unfold thingV
    go_enter Try.func107, Try.ntmps107
    go_wp2_with (fail)
    refine (tru_value.calls _ _).mono ?_
    rintro e w1 ⟨rfl, hb⟩
    go_wp2_with (fail)
    refine (tru_value.calls _ _).mono ?_
    rintro e w2 ⟨rfl, hb2⟩
    replace hb := Aside0.mk (below_step hb hb2)
    clear hb2
    go_wp2
    go_quiet (fail)
    go_wp2
    go_ret2
    exact ⟨rfl, pw_below_drewN (below_alloc (below_alloc hb.out _) _) _⟩

set_option maxHeartbeats 8000000 in
set_option maxRecDepth 100000 in
theorem two_other_tru (c : Int) (x : Bool) (y : Bool) (h6 : c ≠ 6) (h5 : c ≠ 5) (h7 : c ≠ 7) (h8 : c ≠ 8) (w : World) :
    Calls Try.prog 107 #[.int .i64 c, thingV (.tru x), thingV (.tru y)] w fun e w' => e = .returned (.tuple #[.nilIface, .int .i64 5]) ∧ Below w.heap.size w w' := by
  have f6 : (c == 6) = false := beq_eq_false_iff_ne.mpr h6
  have f5 : (c == 5) = false := beq_eq_false_iff_ne.mpr h5
  have f7 : (c == 7) = false := beq_eq_false_iff_ne.mpr h7
  have f8 : (c == 8) = false := beq_eq_false_iff_ne.mpr h8
  clear h5 h6 h7 h8
  have hu38 := Try.underlying38
  have m1 := m_num
  have m2 := m_tru
  have m3 := m_oth
  have ta1 := ta_n_tru
  have ta2 := ta_t_tru
  have ta3 := ta_o_tru
  have ta4 := ta_t_trux
  have ta5 := ta_n_num
  have ta6 := ta_t_num
  have ta7 := ta_o_num
  have ta8 := ta_n_numx
  unfold thingV
  go_enter Try.func107, Try.ntmps107
  go_wp2_with (fail)
  refine (tru_value.calls x _).mono ?_
  rintro e w1 ⟨rfl, hb⟩
  go_wp2_with (fail)
  refine (tru_value.calls y _).mono ?_
  rintro e w2 ⟨rfl, hb2⟩
  replace hb := Aside0.mk (below_step hb hb2)
  clear hb2
  go_wp2
  go_ret2
  exact ⟨rfl, below_alloc (below_alloc hb.out _) _⟩

attribute [local go_sem high] eqA38
set_option maxHeartbeats 8000000 in
set_option maxRecDepth 100000 in
theorem two_same_oth (kx nx : Int) (sx : ByteArray) (ny : Int) (sy : ByteArray) (w : World) :
    Calls Try.prog 107 #[.int .i64 6, thingV (.oth kx nx sx), thingV (.oth kx ny sy)] w fun e w' => e = .returned (.tuple #[.iface 94 (.bool (nx == ny && sx.toList == sy.toList)), .int .i64 0]) ∧ Below w.heap.size w w' := by
  have hu38 := Try.underlying38
  have m1 := m_num
  have m2 := m_tru
  have m3 := m_oth
  have ta1 := ta_n_tru
  have ta2 := ta_t_tru
  have ta3 := ta_o_tru
  have ta4 := ta_t_trux
  have ta5 := ta_n_num
  have ta6 := ta_t_num
  have ta7 := ta_o_num
  have ta8 := ta_n_numx
  unfold thingV
  go_enter Try.func107, Try.ntmps107
  go_wp2_with (fail)
  refine (oth_value.calls kx nx sx _).mono ?_
  rintro e w1 ⟨rfl, hb⟩
  go_wp2_with (fail)
  refine (oth_value.calls kx ny sy _).mono ?_
  rintro e w2 ⟨rfl, hb2⟩
  replace hb := Aside0.mk (below_step hb hb2)
  clear hb2
  go_wp2
  go_ret2
  exact ⟨rfl, below_alloc (below_alloc hb.out _) _⟩

set_option maxHeartbeats 8000000 in
set_option maxRecDepth 100000 in
theorem two_less_oth (kx nx : Int) (sx : ByteArray) (ny : Int) (sy : ByteArray) (r1 r2 : Bool) (hl : lessV kx nx sx kx ny sy = (r1, r2)) (w : World) :
    Calls Try.prog 107 #[.int .i64 5, thingV (.oth kx nx sx), thingV (.oth kx ny sy)] w fun e w' => e = .returned (.tuple #[.iface 94 (.bool r1), .int .i64 0]) ∧ Below w.heap.size w w' := by
  have HL := Aside0.mk ((less_some kx nx sx kx ny sy).trans (congrArg some hl))
  clear hl
  have hu38 := Try.underlying38
  have m1 := m_num
  have m2 := m_tru
  have m3 := m_oth
  have ta1 := ta_n_tru
  have ta2 := ta_t_tru
  have ta3 := ta_o_tru
  have ta4 := ta_t_trux
  have ta5 := ta_n_num
  have ta6 := ta_t_num
  have ta7 := ta_o_num
  have ta8 := ta_n_numx
  unfold thingV
  go_enter Try.func107, Try.ntmps107
  go_wp2_with (fail)
  refine (oth_value.calls kx nx sx _).mono ?_
  rintro e w1 ⟨rfl, hb⟩
  go_wp2_with (fail)
  refine (oth_value.calls kx ny sy _).mono ?_
  rintro e w2 ⟨rfl, hb2⟩
  replace hb := Aside0.mk (below_step hb hb2)
  clear hb2
  go_wp2_with (fail)
  refine (value_Less.calls 4 kx nx sx kx ny sy r1 r2 _ HL.out).mono ?_
  rintro e w3 ⟨rfl, hb3⟩
  replace hb := Aside0.mk (below_step (below_alloc (below_alloc hb.out _) _) hb3)
  clear hb3
  go_wp2
  go_ret2
  exact ⟨rfl, hb.out⟩

set_option maxHeartbeats 8000000 in
set_option maxRecDepth 100000 in
theorem two_c7_oth (kx nx : Int) (sx : ByteArray) (ny : Int) (sy : ByteArray) (w : World) :
    Calls Try.prog 107 #[.int .i64 7, thingV (.oth kx nx sx), thingV (.oth kx ny sy)] w fun e w' => e = .returned (.tuple #[.nilIface, .int .i64 5]) ∧ Below w.heap.size w w' := by
  have hu38 := Try.underlying38
  have m1 := m_num
  have m2 := m_tru
  have m3 := m_oth
  have ta1 := ta_n_tru
  have ta2 := ta_t_tru
  have ta3 := ta_o_tru
  have ta4 := ta_t_trux
  have ta5 := ta_n_num
  have ta6 := ta_t_num
  have ta7 := ta_o_num
  have ta8 := ta_n_numx
  unfold thingV
  go_enter Try.func107, Try.ntmps107
  go_wp2_with (fail)
  refine (oth_value.calls kx nx sx _).mono ?_
  rintro e w1 ⟨rfl, hb⟩
  go_wp2_with (fail)
  refine (oth_value.calls kx ny sy _).mono ?_
  rintro e w2 ⟨rfl, hb2⟩
  replace hb := Aside0.mk (below_step hb hb2)
  clear hb2
  go_wp2
  go_ret2
  exact ⟨rfl, below_alloc (below_alloc hb.out _) _⟩

set_option maxHeartbeats 8000000 in
set_option maxRecDepth 100000 in
theorem two_c8_oth (kx nx : Int) (sx : ByteArray) (ny : Int) (sy : ByteArray) (w : World) :
    Calls Try.prog 107 #[.int .i64 8, thingV (.oth kx nx sx), thingV (.oth kx ny sy)] w fun e w' => e = .returned (.tuple #[.nilIface, .int .i64 5]) ∧ Below w.heap.size w w' := by
  have hu38 := Try.underlying38
  have m1 := m_num
  have m2 := m_tru
  have m3 := m_oth
  have ta1 := ta_n_tru
  have ta2 := ta_t_tru
  have ta3 := ta_o_tru
  have ta4 := ta_t_trux
  have ta5 := ta_n_num
  have ta6 := ta_t_num
  have ta7 := ta_o_num
  have ta8 := ta_n_numx
  unfold thingV
  go_enter Try.func107, Try.ntmps107
  go_wp2_with (fail)
  refine (oth_value.calls kx nx sx _).mono ?_
  rintro e w1 ⟨rfl, hb⟩
  go_wp2_with (fail)
  refine (oth_value.calls kx ny sy _).mono ?_
  rintro e w2 ⟨rfl, hb2⟩
  replace hb := Aside0.mk (below_step hb hb2)
  clear hb2
  go_wp2
  go_ret2
  exact ⟨rfl, below_alloc (below_alloc hb.out _) _⟩

set_option maxHeartbeats 8000000 in
set_option maxRecDepth 100000 in
theorem two_other_oth (c : Int) (kx nx : Int) (sx : ByteArray) (ny : Int) (sy : ByteArray) (h6 : c ≠ 6) (h5 : c ≠ 5) (h7 : c ≠ 7) (h8 : c ≠ 8) (w : World) :
    Calls Try.prog 107 #[.int .i64 c, thingV (.oth kx nx sx), thingV (.oth kx ny sy)] w fun e w' => e = .returned (.tuple #[.nilIface, .int .i64 5]) ∧ Below w.heap.size w w' := by
  have f6 : (c == 6) = false := beq_eq_false_iff_ne.mpr h6
  have f5 : (c == 5) = false := beq_eq_false_iff_ne.mpr h5
  have f7 : (c == 7) = false := beq_eq_false_iff_ne.mpr h7
  have f8 : (c == 8) = false := beq_eq_false_iff_ne.mpr h8
  clear h5 h6 h7 h8
  have hu38 := Try.underlying38
  have m1 := m_num
  have m2 := m_tru
  have m3 := m_oth
  have ta1 := ta_n_tru
  have ta2 := ta_t_tru
  have ta3 := ta_o_tru
  have ta4 := ta_t_trux
  have ta5 := ta_n_num
  have ta6 := ta_t_num
  have ta7 := ta_o_num
  have ta8 := ta_n_numx
  unfold thingV
  go_enter Try.func107, Try.ntmps107
  go_wp2_with (fail)
  refine (oth_value.calls kx nx sx _).mono ?_
  rintro e w1 ⟨rfl, hb⟩
  go_wp2_with (fail)
  refine (oth_value.calls kx ny sy _).mono ?_
  rintro e w2 ⟨rfl, hb2⟩
  replace hb := Aside0.mk (below_step hb hb2)
  clear hb2
  go_wp2
  go_ret2
  exact ⟨rfl, below_alloc (below_alloc hb.out _) _⟩

end Go.Proofs.Yteommchgnocgnaa.PE
end

section
namespace Go.Proofs.Yteommchgnocgnaa.PE
open Go.RowKit Go.Proofs.YteommchgnocgnaaW.PrintWords Go.Proofs.YteommchgnocgnaaW.PrintLast Go.Proofs.YteommchgnocgnaaW.PrintMore
set_option linter.unusedVariables false
set_option linter.unusedSimpArgs false

theorem mono_eq {P : Program} {f : FuncId} {args : Array Value} {w : World} {v v' : Value} (h : Calls P f args w fun e w' => e = .returned v ∧ Below w.heap.size w w') (e : v = v') : Calls P f args w fun e w' => e = .returned v' ∧ Below w.heap.size w w' := e ▸ h

theorem expr_two.calls (c : Int) (x y : Thing) (hx : okT x) (hy : okT y) (w : World) :
    Calls Try.prog 107 #[.int .i64 c, thingV x, thingV y] w fun e w' => e = .returned (.tuple #[optV (twoT c x y).1, .int .i64 (twoT c x y).2]) ∧ Below w.heap.size w w' := by
  have hdiff : tK x ≠ tK y → .tuple #[optV (twoT c x y).1, .int .i64 (twoT c x y).2] = Value.tuple #[.nilIface, .int .i64 5] := by
    intro h; unfold twoT; rw [if_neg h]; rfl
  have h6 : tK x = tK y → c = 6 → twoT c x y = (some (.tru (tN x == tN y && (tS x).toList == (tS y).toList)), 0) := by
    intro h hc; unfold twoT; rw [if_pos h, if_pos hc]
  have h5 : tK x = tK y → c = 5 → twoT c x y = (match x with | .tru _ => (none, 5) | _ => (some (.tru (lessV (tK x) (tN x) (tS x) (tK y) (tN y) (tS y)).1), 0)) := by
    intro h hc; unfold twoT; rw [if_pos h, if_neg (by omega), if_pos hc]; cases x <;> rfl
  have h78 : tK x = tK y → (c = 7 ∨ c = 8) → twoT c x y = (match x, y with | .tru p, .tru q => (some (.tru (p && q || (c == 8 && (p || q)))), 0) | _, _ => (none, 5)) := by
    intro h hc; unfold twoT; rw [if_pos h, if_neg (by omega), if_neg (by omega), if_pos hc]; cases x <;> cases y <;> rfl
  have ho : tK x = tK y → c ≠ 6 → c ≠ 5 → c ≠ 7 → c ≠ 8 → twoT c x y = (match x, y with | .num p, .num q => (if (sumT c p q).2 = true then (some (.num (sumT c p q).1), 0) else (none, 6)) | _, _ => (none, 5)) := by
    intro h a1 a2 a3 a4; unfold twoT; rw [if_pos h, if_neg a1, if_neg a2, if_neg (by omega)]; cases x <;> cases y <;> rfl
  cases x with
  | num a =>
    cases y with
    | num b =>
      by_cases c6 : c = 6
      · subst c6; refine mono_eq (two_same_num a b w) ?_; rw [h6 rfl rfl]
        simp only [tN, tS, optV, thingV, beq_self_eq_true, Bool.and_true]
      by_cases c5 : c = 5
      · subst c5; refine mono_eq (two_less_num a b _ _ rfl w) ?_; rw [h5 rfl rfl]; rfl
      by_cases c7 : c = 7
      · subst c7; refine mono_eq (two_c7_num a b w) ?_; rw [h78 rfl (.inl rfl)]; rfl
      by_cases c8 : c = 8
      · subst c8; refine mono_eq (two_c8_num a b w) ?_; rw [h78 rfl (.inr rfl)]; rfl
      rw [ho rfl c6 c5 c7 c8]
      cases hs : (sumT c a b).2 with
      | true => refine mono_eq (two_other_num_true c a b (sumT c a b).1 c6 c5 c7 c8 w (by rw [sumT_some, ← hs])) ?_; simp only [hs, if_true]; rfl
      | false => refine mono_eq (two_other_num_false c a b (sumT c a b).1 c6 c5 c7 c8 w (by rw [sumT_some, ← hs])) ?_; simp only [hs, Bool.false_eq_true, if_false]; rfl
    | tru b => exact mono_eq (two_num_tru c a b w) (hdiff (by simp [tK])).symm
    | oth k n s => exact mono_eq (two_num_oth c a k n s (fun h => hy.1 h.symm) w) (hdiff (fun h => hy.1 h.symm)).symm
  | tru a =>
    cases y with
    | num b => exact mono_eq (two_tru_num c a b w) (hdiff (by simp [tK])).symm
    | tru b =>
      by_cases c6 : c = 6
      · subst c6; refine mono_eq (two_same_tru a b w) ?_; rw [h6 rfl rfl]
        simp only [tN, tS, optV, thingV, beq_self_eq_true, Bool.and_true]
      by_cases c5 : c = 5
      · subst c5; refine mono_eq (two_less_tru a b _ _ rfl w) ?_; rw [h5 rfl rfl]; rfl
      by_cases c7 : c = 7
      · subst c7; refine mono_eq (two_c7_tru a b w) ?_; rw [h78 rfl (.inl rfl)]
        cases a <;> cases b <;> rfl
      by_cases c8 : c = 8
      · subst c8; refine mono_eq (two_c8_tru a b w) ?_; rw [h78 rfl (.inr rfl)]; rfl
      rw [ho rfl c6 c5 c7 c8]
      exact mono_eq (two_other_tru c a b c6 c5 c7 c8 w) rfl
    | oth k n s => exact mono_eq (two_tru_oth c a k n s (fun h => hy.2 h.symm) w) (hdiff (fun h => hy.2 h.symm)).symm
  | oth k n s =>
    cases y with
    | num b => exact mono_eq (two_oth_num c k n s b hx.1 w) (hdiff hx.1).symm
    | tru b => exact mono_eq (two_oth_tru c k n s b hx.2 w) (hdiff hx.2).symm
    | oth k' n' s' =>
      by_cases hk : k = k'
      case neg => exact mono_eq (two_oth_oth c k n s k' n' s' hk w) (hdiff hk).symm
      subst hk
      by_cases c6 : c = 6
      · subst c6; refine mono_eq (two_same_oth k n s n' s' w) ?_; rw [h6 rfl rfl]; rfl
      by_cases c5 : c = 5
      · subst c5; refine mono_eq (two_less_oth k n s n' s' _ _ rfl w) ?_; rw [h5 rfl rfl]; rfl
      by_cases c7 : c = 7
      · subst c7; refine mono_eq (two_c7_oth k n s n' s' w) ?_; rw [h78 rfl (.inl rfl)]; rfl
      by_cases c8 : c = 8
      · subst c8; refine mono_eq (two_c8_oth k n s n' s' w) ?_; rw [h78 rfl (.inr rfl)]; rfl
      rw [ho rfl c6 c5 c7 c8]
      exact mono_eq (two_other_oth c k n s n' s' c6 c5 c7 c8 w) rfl

/-- The pile at block g: what lies on it, its values, its mark; W0: the world since which only g has been turned. -/
structure Pile (W0 w : World) (g : Nat) (xs : List Thing) (vv : Value) (kd : Bool) : Prop where
  row : ∃ vl, w.heap[g]? = some (.cells #[vl, vv, .bool kd] 82 (0, 0)) ∧ Kd.R kT 125 w W0.heap.size (fun k => k ≠ g) vl xs
  keep : KeepBut W0 w g none
  lt : g < W0.heap.size
  bel : Below g W0 w
/-- What has another type than the pile's rows, and is not the pile, stays. -/
def Stays (w w' : World) (g : Nat) : Prop := w.heap.size ≤ w'.heap.size ∧ ∀ b cs t, t ≠ 125 → b ≠ g → w.heap[b]? = some (.cells cs t (0, 0)) → w'.heap[b]? = some (.cells cs t (0, 0))
theorem Stays.refl (w : World) (g : Nat) : Stays w w g := ⟨Nat.le_refl _, fun _ _ _ _ _ h => h⟩
theorem Stays.trans {w w1 w2 : World} {g : Nat} (h : Stays w w1 g) (k : Stays w1 w2 g) : Stays w w2 g := ⟨Nat.le_trans h.1 k.1, fun b cs t ht hb hc => k.2 b cs t ht hb (h.2 b cs t ht hb hc)⟩
theorem Stays.below {w w1 : World} {g : Nat} (h : Below w.heap.size w w1) : Stays w w1 g := ⟨h.size, fun b cs t _ _ hc => blk_below hc h⟩
theorem Stays.alloc {w w1 : World} {g : Nat} (h : Stays w w1 g) (o : Obj) : Stays w (w1.alloc o) g := h.trans (.below (below_alloc (Below.refl _ _) o))
theorem Pile.below {W0 w w1 : World} {g : Nat} {xs : List Thing} {vv : Value} {kd : Bool} (h : Pile W0 w g xs vv kd) (hb : Below w.heap.size w w1) : Pile W0 w1 g xs vv kd := by
  obtain ⟨⟨vl, h1, h2⟩, h3, h4, h5⟩ := h
  exact ⟨⟨vl, blk_below h1 hb, Kd.R_below h2 hb⟩, h3.trans (KeepBut.of_below hb g none) (.inl rfl), h4, h5.trans (hb.mono (Nat.le_of_lt (Nat.lt_of_lt_of_le h4 (keep_size h3))))⟩

set_option maxHeartbeats 8000000 in
set_option maxRecDepth 100000 in
theorem pile_lay.calls (W0 : World) (g : Nat) (xs : List Thing) (vv : Value) (kd : Bool) (x : Thing) (w : World) (hp : Pile W0 w g xs vv kd) (hl : xs.length < 1000) :
    Calls Try.prog 103 #[.pointer (some ⟨g, 0, none⟩), thingV x] w fun e w' => e = .returned (.tuple #[]) ∧ Pile W0 w' g (xs ++ [x]) vv kd ∧ Stays w w' g := by
  obtain ⟨⟨vl, hb, hr⟩, hk, hlt, hbel⟩ := hp
  have HE := Aside0.mk hbel
  have hu82 := Try.underlying82
  have hc0 : w.cell? ⟨g, 0, none⟩ = some vl := (blk_cell hb 0).trans rfl
  have hf0 := blk_frozen hb 0
  have HB := Aside0.mk hb
  have HR := Aside0.mk hr
  have HK := Aside0.mk hk
  have HL := Aside0.mk hlt
  have HM := Aside0.mk hl
  obtain ⟨T, u, hT⟩ : ∃ T u, thingV x = .iface T u := by cases x <;> exact ⟨_, _, rfl⟩
  rw [hT]
  replace hT := Aside0.mk hT
  have HS := Aside0.mk (Nat.le_trans (Nat.succ_le_of_lt hlt) (keep_size hk))
  have HG : Aside0 (some g ≠ vl.ownBlock) := ⟨fun e => hr.1 g e.symm rfl⟩
  clear hb hr hk hlt hl hbel
  go_enter Try.func103, Try.ntmps103
  go_wp2_with (first | ((with_reducible refine gate_builtin (b := .append) (xs := #[.tmp 8, .tmp 10]) rfl ?_); at_builtin; refine Kd.R_append kT (w0 := w) W0.heap.size rfl (.tmp 8) (.tmp 10) 80 125 .nilIface 16 rfl Try.underlying80 info125 rfl (by decide) (by omega) vl xs x [.iface T u] (fun k => k ≠ g) (fun _ => False) rfl rfl ?aP (fun _ hk => hk.elim) ?aF ?aO ?aB ?aS ?aL ?_; (case aP => exact (show [Value.iface T u] = [thingV x] by rw [hT.out])); (case aB => exact Below.refl _ _); (case aF => exact (fun k hk => by have := HS.out; omega)); (case aO => exact HR.out); (case aS => exact keep_size HK.out); (case aL => have := HM.out; omega); intro v1 w1 ho hbl hgr hat; obtain ⟨A1, c1, rfl⟩ := Kd.R_slice ho; rw [show (xs ++ [x]).length = xs.length + 1 from by simp] at ho; have hc1 : w1.cell? ⟨g, 0, none⟩ = some vl := (blk_cell (blk_grown HB.out hgr HG.out) 0).trans rfl; have hf1 := blk_frozen (blk_grown HB.out hgr HG.out) 0; replace ho := Aside0.mk ho; replace hgr := Aside0.mk hgr; clear hat hbl hc0 hf0))
  go_end0
  refine ⟨rfl, ⟨⟨_, blk_put (blk_grown HB.out hgr.out HG.out) 0 _ rfl, Kd.R_far ho.out (fun _ h => h) _⟩, (HK.out.trans (KeepBut.of_grown hgr.out g) (Kd.R_base2 HR.out)).set_ 0 _, HL.out, (HE.out.grown hgr.out (Nat.le_of_lt (Nat.lt_of_lt_of_le HL.out (keep_size HK.out))) (fun k hk => Nat.le_trans (Nat.le_of_lt HL.out) (Kd.R_base HR.out k hk))).setCell (Nat.le_refl _) _⟩, ?_, ?_⟩
  · have := hgr.out.size; simpa [World.setCell] using this
  · intro b cs t ht hbg hc
    exact blk_far (blk_grown hc hgr.out (Kd.R_ne HR.out hc (Ne.symm ht))) hbg _
end Go.Proofs.Yteommchgnocgnaa.PE
end

section
namespace Go.Proofs.Yteommchgnocgnaa.PE
open Go.RowKit Go.Proofs.YteommchgnocgnaaW.PrintWords Go.Proofs.YteommchgnocgnaaW.PrintLast Go.Proofs.YteommchgnocgnaaW.PrintMore
set_option linter.unusedVariables false
set_option linter.unusedSimpArgs false

theorem R_takeT {w : World} {base n m c : Nat} {ok : Nat → Prop} {A : Option Addr} {xs : List Thing} (h : Kd.R kT 125 w base ok (.slice A n c) xs) (hm : m ≤ xs.length) : Kd.R kT 125 w base ok (.slice A m c) (xs.take m) := by
  have hn := (Kd.R_reads' h).1
  subst hn
  have ho := Kd.own_of_R (enc := thingV) (h1 := thingV_one) h
  have h2 := own_take ho hm
  refine Kd.R_of_own (enc := thingV) (h1 := thingV_one) ?_ (fun k hk => h.1 k (by cases A with | none => simp [Value.ownBlock] at hk | some a => simpa [Value.ownBlock] using hk))
  rw [List.length_take, Nat.min_eq_left hm]
  rw [Nat.mul_one] at h2
  have e : encs thingV (xs.take m) = (encs thingV xs).take m := by simp [encs, List.map_take]
  rw [e]; exact h2
theorem R_lit0 (W : World) (base : Nat) (hb : base ≤ W.heap.size) : Kd.R kT 125 (W.alloc (.cells #[] 125)) base (fun _ => True) (.slice (some ⟨W.heap.size, 0, none⟩) 0 0) [] := by
  refine Kd.R_of_own (enc := thingV) ?_ (fun _ _ => trivial)
  have h2 := World.ownsRow_lit (base := base) (e := 125) (size := 1) W #[] 0 hb (by unfold maxLen; omega) (by simp)
  exact h2

set_option maxHeartbeats 8000000 in
set_option maxRecDepth 100000 in
theorem thing_Clone.calls (A : Addr) (n c : Nat) (ys : List Thing) (w : World) (hr : Kd.C kT w (some A) n ys) (hl : n ≤ 10) :
    Calls Try.prog 118 #[.slice (some A) n c] w fun e w' => ∃ v, e = .returned v ∧ Kd.R kT 125 w' w.heap.size (fun _ => True) v ys ∧ Below w.heap.size w w' := by
  have q80 : ∀ (w : World) (a : Option Addr) (n c n' c' : Nat), (binOp .eql 80 (.slice a n c) (.slice none n' c')).run Try.prog w = .ok (.bool a.isNone) w := fun w a n c n' c' => Lib.run_eql_slice_nil w _ _ a n c n' c' Try.underlying80
  have HO := Aside0.mk (R_lit0 w w.heap.size (Nat.le_refl _))
  have HB := Aside0.mk ((Below.refl w.heap.size w).alloc (Nat.le_refl _) (.cells #[] 125))
  have HR1 := Aside0.mk (Kd.C_alloc hr (.cells #[] 125))
  have HL := Aside0.mk hl
  clear hr hl
  go_enter Try.func118, Try.ntmps118
  go_wp2_with (first | ((with_reducible refine gate_builtin (b := .append) (xs := #[.tmp 5, .tmp 6]) rfl ?_); at_builtin; refine Kd.R_append_rows kT (w0 := w) w.heap.size rfl (.tmp 5) (.tmp 6) 80 125 .nilIface 16 rfl Try.underlying80 info125 rfl (by decide) (by omega) (.slice (some ⟨w.heap.size, 0, none⟩) 0 0) [] ys _ _ _ (fun _ => True) (fun _ => False) rfl rfl ?aO ?aR (fun _ _ h => h) (fun _ h => h.elim) ?aF ?aB ?aS ?aL ?_; (case aR => exact HR1.out); (case aB => exact HB.out); (case aF => exact (fun _ _ => trivial)); (case aO => exact HO.out); (case aS => exact (below_size HB.out)); (case aL => have := HL.out; simp only [List.length_nil]; omega); intro v2 w9 ho hb hg hat; have n0_ := Aside0.mk hb; have n1_ := Aside0.mk ho; clear HB HO; have HB := n0_; have HO := n1_; clear n0_ n1_ ho hb hg hat))
  go_ret
  exact ⟨_, rfl, HO.out, HB.out⟩

set_option maxHeartbeats 8000000 in
set_option maxRecDepth 100000 in
theorem pile_take_no (W0 : World) (g : Nat) (xs : List Thing) (vv : Value) (kd : Bool) (n : Nat) (w : World) (hp : Pile W0 w g xs vv kd) (hn : xs.length < n) (hn2 : n ≤ 2) :
    Calls Try.prog 106 #[.pointer (some ⟨g, 0, none⟩), .int .i64 (n : Int)] w fun e w' => e = .returned (.tuple #[.slice none 0 0, .bool false]) ∧ w = w' := by
  obtain ⟨⟨vl, hb, hr⟩, hk, hlt, hbel⟩ := hp
  obtain ⟨A, c, rfl⟩ := Kd.R_slice hr
  have hu82 := Try.underlying82
  have hc0 : w.cell? ⟨g, 0, none⟩ = some (.slice A xs.length c) := (blk_cell hb 0).trans rfl
  have f1 : decide ((xs.length : Int) - n < 0) = true := decide_eq_true (by omega)
  clear hb hr hk hlt hbel
  go_enter Try.func106, Try.ntmps106
  go_wp2
  go_ret2
  exact ⟨rfl, rfl⟩

set_option maxHeartbeats 8000000 in
set_option maxRecDepth 100000 in
theorem pile_take_yes (W0 : World) (g : Nat) (xs : List Thing) (vv : Value) (kd : Bool) (n : Nat) (w : World) (hp : Pile W0 w g xs vv kd) (hn : n ≤ xs.length) (hn0 : 0 < n) (hn2 : n ≤ 2) (hl : xs.length ≤ 1000) :
    Calls Try.prog 106 #[.pointer (some ⟨g, 0, none⟩), .int .i64 (n : Int)] w fun e w' => ∃ gv c', e = .returned (.tuple #[.slice (some ⟨gv, 0, none⟩) n c', .bool true]) ∧ Kd.C kT w' (some ⟨gv, 0, none⟩) n (xs.drop (xs.length - n)) ∧ Pile W0 w' g (xs.take (xs.length - n)) vv kd ∧ Stays w w' g := by
  obtain ⟨⟨vl, hb, hr⟩, hk, hlt, hbel⟩ := hp
  have HE := Aside0.mk hbel
  obtain ⟨gl, cap, rfl, hg1, hg2, -⟩ := Kd.R_form hr (by omega)
  have hu82 := Try.underlying82
  have hrd := Kd.R_reads' hr
  have hcap := hrd.2.1
  obtain ⟨m, hm⟩ : ∃ m : Nat, m = xs.length - n := ⟨_, rfl⟩
  have hm1 : ((xs.length : Nat) : Int) - (n : Int) = (m : Int) := by omega
  have hc0 : w.cell? ⟨g, 0, none⟩ = some (.slice (some ⟨gl, 0, none⟩) xs.length cap) := (blk_cell hb 0).trans rfl
  have hmc : m < cap := by omega
  have hml : m < xs.length := by omega
  have hxm : xs.length - m = n := by omega
  have hD : Kd.C kT w (some ⟨gl, m, none⟩) n (xs.drop m) := by
    have h := Kd.C_drop (m := m) hrd.2.2 (by omega) hcap
    rw [if_neg (by omega), List.length_drop, hxm] at h
    have e : Option.map (fun x : Addr => x.add (m * kT.sz)) (some ⟨gl, 0, none⟩) = some ⟨gl, m, none⟩ := by
      show some (Addr.add _ (m * 1)) = _
      simp [Addr.add]; intro h; exact h.symm
    rw [e] at h
    exact h
  have HX := Aside0.mk hxm
  have HD := Aside0.mk hD
  have HM := Aside0.mk hm
  have HB := Aside0.mk hb
  have HR := Aside0.mk hr
  have HK := Aside0.mk hk
  have HL := Aside0.mk hlt
  clear hb hr hk hlt hrd hm1 hm hxm hD hbel
  go_enter Try.func106, Try.ntmps106
  go_wp2_with (fail)
  rw [← HM.out, HX.out]
  refine (thing_Clone.calls ⟨gl, m, none⟩ n (cap - m) (xs.drop m) w HD.out (by omega)).mono ?_
  rintro e w1 ⟨v1, rfl, ho, hbl⟩
  have hlen : (xs.drop m).length = n := by rw [List.length_drop]; exact HX.out
  obtain ⟨gv, cv, rfl, hv1, hv2, -⟩ := Kd.R_form ho (by rw [hlen]; exact hn0)
  have hcv := (Kd.R_reads' ho).2.2
  rw [hlen] at ho hcv
  rw [hlen]
  clear hlen
  have HC := Aside0.mk hcv
  have HB1 := Aside0.mk (blk_below HB.out hbl)
  have HR1 := Aside0.mk (Kd.R_below HR.out hbl)
  have HE1 := Aside0.mk (HE.out.trans (hbl.mono (Nat.le_of_lt (Nat.lt_of_lt_of_le HL.out (keep_size HK.out)))))
  have HK1 := Aside0.mk (HK.out.trans (KeepBut.of_below hbl g none) (.inl rfl))
  have HS1 := Aside0.mk (Stays.below (g := g) hbl)
  have hgv := Aside0.mk (show gv ≠ g by have := HL.out; have := keep_size HK.out; omega)
  clear ho hbl hcv hc0 hv1 hv2
  have hc1 : w1.cell? ⟨g, 0, none⟩ = some (.slice (some ⟨gl, 0, none⟩) xs.length cap) := (blk_cell HB1.out 0).trans rfl
  have hf1 := blk_frozen HB1.out 0
  go_wp2_with (fail)
  go_ret2
  refine ⟨gv, cv, rfl, ?_, ⟨⟨_, blk_put HB1.out 0 _ rfl, Kd.R_far (R_takeT HR1.out (by omega)) (fun _ h => h) _⟩, HK1.out.set_ 0 _, HL.out, HE1.out.setCell (Nat.le_refl _) _⟩, HS1.out.trans ⟨by simp [World.setCell], fun b cs t ht hbg hc => blk_far hc hbg _⟩⟩
  rw [← HM.out]
  exact Kd.C_keep (enc := thingV) (h1 := thingV_one) zT HC.out ((KeepBut.refl _ g none).set_ 0 _) (fun ad e _ => by cases e; exact hgv.out)
end Go.Proofs.Yteommchgnocgnaa.PE
end

section
namespace Go.Proofs.Yteommchgnocgnaa.PE
open Go.RowKit Go.Proofs.YteommchgnocgnaaW.PrintWords Go.Proofs.YteommchgnocgnaaW.PrintLast Go.Proofs.YteommchgnocgnaaW.PrintMore
set_option linter.unusedVariables false
set_option linter.unusedSimpArgs false

theorem keepS {W w1 : World} (hb : Below W.heap.size W w1) {a : Addr} {v : Value} (h : W.cell? a = some v) : w1.cell? a = some v := (hb.cell (World.block_lt_of_cell? W a h)).trans h
theorem Pile.vcell {W0 w : World} {g : Nat} {xs : List Thing} {vv : Value} {kd : Bool} (h : Pile W0 w g xs vv kd) : w.cell? ⟨g, 1, none⟩ = some vv := by
  obtain ⟨⟨vl, h1, _⟩, _, _, _⟩ := h
  exact (blk_cell h1 1).trans rfl
theorem Pile.kcell {W0 w : World} {g : Nat} {xs : List Thing} {vv : Value} {kd : Bool} (h : Pile W0 w g xs vv kd) : w.cell? ⟨g, 2, none⟩ = some (.bool kd) := by
  obtain ⟨⟨vl, h1, _⟩, _, _, _⟩ := h
  exact (blk_cell h1 2).trans rfl
theorem Pile.gt {W0 w : World} {g : Nat} {xs : List Thing} {vv : Value} {kd : Bool} (h : Pile W0 w g xs vv kd) : g < w.heap.size := Nat.lt_of_lt_of_le h.lt (keep_size h.keep)
theorem Pile.drewN {W0 w : World} {g : Nat} {xs : List Thing} {vv : Value} {kd : Bool} (h : Pile W0 w g xs vv kd) (n : Nat) : Pile W0 (w.drewN n) g xs vv kd := h.below (pw_below_drewN (Below.refl _ _) n)

theorem at38s {w : World} {ad : Addr} {n : Nat} {xs : List S38} (h : Kd.C k38 w (some ad) n xs) (i : Int) (h0 : 0 ≤ i) (h1 : i < n) : w.cell? (ad.add (i.toNat * 3)) = some (.int .i64 (rd_T38 xs i).f0) ∧ w.cell? ⟨(ad.add (i.toNat * 3)).block, (ad.add (i.toNat * 3)).off + 1, none⟩ = some (.int .i64 (rd_T38 xs i).f1) ∧ w.cell? ⟨(ad.add (i.toNat * 3)).block, (ad.add (i.toNat * 3)).off + 2, none⟩ = some (.string (rd_T38 xs i).f2) := by
  obtain ⟨ad', e, h⟩ := at_T38 h i h0 h1
  cases e
  exact h
set_option maxHeartbeats 8000000 in
set_option maxRecDepth 100000 in
theorem part_load (W0 : World) (g : Nat) (xs : List Thing) (A : Option Addr) (cv : Nat) (vs : List S38) (kd : Bool) (a k n : Int) (s : ByteArray) (w : World) (hp : Pile W0 w g xs (.slice A vs.length cv) kd) (hv : ∀ W, KeepBut W0 W g none → Kd.C k38 W A vs.length vs) (hl : xs.length < 1000) (h0 : 0 ≤ a) (ha : a < (vs.length : Int)) :
    Calls Try.prog 80 #[.pointer (some ⟨g, 0, none⟩), .agg #[.int .i64 1, .int .i64 a, .int .i64 k, .int .i64 n, .string s]] w fun e w' => e = .returned (.int .i64 0) ∧ Pile W0 w' g (xs ++ [thingOf (rd_T38 vs a).f0 (rd_T38 vs a).f1 (rd_T38 vs a).f2]) (.slice A vs.length cv) kd ∧ Stays w w' g := by
  have hu50 := Try.underlying50
  have hu82 := Try.underlying82
  have hu38 := Try.underlying38
  have hp1 := hp.below (below_alloc (Below.refl _ _) (.cells #[.int .i64 1, .int .i64 a, .int .i64 k, .int .i64 n, .string s] 50))
  have hc1 := hp1.vcell
  have hbx := blk_new w (.cells #[.int .i64 1, .int .i64 a, .int .i64 k, .int .i64 n, .string s] 50)
  have hv1 := hv _ hp1.keep
  obtain ⟨ad, e, hx0, hx1, hx2⟩ := at_T38 hv1 a h0 ha
  cases e
  have hne : w.heap.size ≠ g := by have := hp.gt; omega
  have f1 : decide ((vs.length : Int) ≤ a) = false := decide_eq_false (by omega)
  have HL := Aside0.mk hl
  have HP := Aside0.mk hp1
  have HV := Aside0.mk hv
  have HX := Aside0.mk hbx
  have HN := Aside0.mk hne
  have g0 := Aside0.mk h0
  have g1 := Aside0.mk ha
  have HS := Aside0.mk (Stays.below (g := g) (below_alloc (Below.refl w.heap.size w) (.cells #[.int .i64 1, .int .i64 a, .int .i64 k, .int .i64 n, .string s] 50)))
  clear hp hp1 hv hv1 hl hbx hne
  go_enter Try.func80, Try.ntmps80
  go_wp2_with (fail)
  go_quiet (fail)
  go_wp2_with (fail)
  obtain ⟨w2, hw2⟩ : ∃ w2, w2 = (w.alloc (.cells #[.int .i64 1, .int .i64 a, .int .i64 k, .int .i64 n, .string s] 50)).drewN nq := ⟨_, rfl⟩
  have HP2 := Aside0.mk (show Pile W0 w2 g xs (.slice (some ad) vs.length cv) kd by rw [hw2]; exact HP.out.drewN nq)
  have HX2 := Aside0.mk (show w2.heap[w.heap.size]? = some (.cells #[.int .i64 1, .int .i64 a, .int .i64 k, .int .i64 n, .string s] 50 (0, 0)) by rw [hw2]; exact blk_drewN HX.out nq)
  have HS2 := Aside0.mk (show Stays w w2 g by rw [hw2]; exact HS.out.trans (.below (pw_below_drewN (Below.refl _ _) nq)))
  rw [← hw2]
  clear hw2 hc1 hx0 hx1 hx2 HP HX HS
  obtain ⟨x, hx⟩ : ∃ x, x = rd_T38 vs a := ⟨_, rfl⟩
  have hcs : w2.cell? ⟨g, 1, none⟩ = some (.slice (some ad) vs.length cv) := HP2.out.vcell
  have hca : w2.cell? ⟨w.heap.size, 1, none⟩ = some (.int .i64 a) := (blk_cell HX2.out 1).trans rfl
  obtain ⟨hx0, hx1, hx2⟩ := at38s (HV.out _ HP2.out.keep) a g0.out g1.out
  rw [← hx] at hx0 hx1 hx2
  replace hx := Aside0.mk hx
  have p0 := eq_true g0.out
  have p1 := eq_true g1.out
  go_region_held3 (fun w' => w'.cell? ⟨g, 1, none⟩ = some (.slice (some ad) vs.length cv) ∧ w'.cell? ⟨w.heap.size, 1, none⟩ = some (.int .i64 a) ∧ w'.cell? (ad.add (a.toNat * 3)) = some (.int .i64 x.f0) ∧ w'.cell? ⟨(ad.add (a.toNat * 3)).block, (ad.add (a.toNat * 3)).off + 1, none⟩ = some (.int .i64 x.f1) ∧ w'.cell? ⟨(ad.add (a.toNat * 3)).block, (ad.add (a.toNat * 3)).off + 2, none⟩ = some (.string x.f2))
    (first
      | (exact ⟨hcs, hca, hx0, hx1, hx2⟩)
      | (exact ⟨hp4.vcell, (blk_cell (hs4.2 _ _ _ (by decide) HN.out HX3.out) 1).trans rfl, by rw [hx.out]; exact at38s (HV.out _ hp4.keep) a g0.out g1.out⟩)
      | (go_split_ands; exact ⟨keepS hb ‹_›, keepS hb ‹_›, keepS hb ‹_›, keepS hb ‹_›, keepS hb ‹_›⟩))
    (first
      | (go_at_call 104; refine (expr_of.calls _ _ _ _).mono ?_; rintro e w3 ⟨rfl, hb⟩; have HP3 := Aside0.mk ((HP2.out.below (below_drew (Below.refl _ _))).below hb); have HX3 := Aside0.mk (blk_below (blk_drew HX2.out) hb); have HS3 := Aside0.mk ((HS2.out.trans (.below (below_drew (Below.refl _ _)))).trans (.below hb)))
      | (go_at_call 103; refine (pile_lay.calls W0 g xs _ kd (thingOf x.f0 x.f1 x.f2) _ HP3.out HL.out).mono ?_; rintro e w4 ⟨rfl, hp4, hs4⟩))
  go_wp2
  go_ret
  rw [hx.out] at hp4
  exact ⟨rfl, hp4, HS3.out.trans hs4⟩
end Go.Proofs.Yteommchgnocgnaa.PE
end

section
namespace Go.Proofs.Yteommchgnocgnaa.PE
open Go.RowKit Go.Proofs.YteommchgnocgnaaW.PrintWords Go.Proofs.YteommchgnocgnaaW.PrintLast Go.Proofs.YteommchgnocgnaaW.PrintMore
set_option linter.unusedVariables false
set_option linter.unusedSimpArgs false

theorem atT {w : World} {gv n : Nat} {ys : List Thing} (h : Kd.C kT w (some ⟨gv, 0, none⟩) n ys) (i : Nat) (hi : i < n) : w.cell? ⟨gv, i, none⟩ = some (thingV (ys.getD i zT)) := by
  obtain ⟨ad, c, e, hl, hK, hc⟩ := Kd.C_get h zT (i : Int) (by omega) (by omega)
  cases e
  have hK' : c = [thingV (ys.getD (i : Int).toNat zT)] := hK
  subst hK'
  have := hc 0 _ rfl
  rw [Int.toNat_natCast] at this
  have e2 : (⟨gv, 0, none⟩ : Addr).add (i * kT.sz + 0) = ⟨gv, i, none⟩ := by
    show Addr.add _ (i * 1 + 0) = _
    simp [Addr.add]
    intro h; exact h.symm
  rw [e2] at this
  exact this

set_option maxHeartbeats 8000000 in
set_option maxRecDepth 100000 in
theorem part_push (W0 : World) (g : Nat) (xs : List Thing) (vv : Value) (kd : Bool) (a k n : Int) (s : ByteArray) (w : World) (hp : Pile W0 w g xs vv kd) (hl : xs.length < 1000) :
    Calls Try.prog 80 #[.pointer (some ⟨g, 0, none⟩), .agg #[.int .i64 0, .int .i64 a, .int .i64 k, .int .i64 n, .string s]] w fun e w' => e = .returned (.int .i64 0) ∧ Pile W0 w' g (xs ++ [thingOf k n s]) vv kd ∧ Stays w w' g := by
  have hu50 := Try.underlying50
  have hu38 := Try.underlying38
  have HP := Aside0.mk (hp.below (below_alloc (Below.refl _ _) (.cells #[.int .i64 0, .int .i64 a, .int .i64 k, .int .i64 n, .string s] 50)))
  have HS := Aside0.mk (Stays.below (g := g) (below_alloc (Below.refl w.heap.size w) (.cells #[.int .i64 0, .int .i64 a, .int .i64 k, .int .i64 n, .string s] 50)))
  have HL := Aside0.mk hl
  clear hp hl
  go_enter Try.func80, Try.ntmps80
  go_wp2_with (fail)
  refine (expr_of.calls _ _ _ _).mono ?_
  rintro e w1 ⟨rfl, hb⟩
  go_wp2_with (fail)
  refine (pile_lay.calls W0 g xs _ kd (thingOf k n s) _ (HP.out.below hb) HL.out).mono ?_
  rintro e w2 ⟨rfl, hp2, hs2⟩
  go_wp2
  go_ret
  exact ⟨rfl, hp2, (HS.out.trans (.below hb)).trans hs2⟩

set_option maxHeartbeats 8000000 in
set_option maxRecDepth 100000 in
theorem part_none (W0 : World) (g : Nat) (xs : List Thing) (A : Option Addr) (cv m : Nat) (kd : Bool) (a k n : Int) (s : ByteArray) (w : World) (hp : Pile W0 w g xs (.slice A m cv) kd) (ha : (m : Int) ≤ a) :
    Calls Try.prog 80 #[.pointer (some ⟨g, 0, none⟩), .agg #[.int .i64 1, .int .i64 a, .int .i64 k, .int .i64 n, .string s]] w fun e w' => e = .returned (.int .i64 3) ∧ Pile W0 w' g xs (.slice A m cv) kd ∧ Stays w w' g := by
  have hu50 := Try.underlying50
  have hu82 := Try.underlying82
  have hp1 := hp.below (below_alloc (Below.refl _ _) (.cells #[.int .i64 1, .int .i64 a, .int .i64 k, .int .i64 n, .string s] 50))
  have hc1 := hp1.vcell
  have HP := Aside0.mk hp1
  have f1 : decide ((m : Int) ≤ a) = true := decide_eq_true ha
  have HS := Aside0.mk (Stays.below (g := g) (below_alloc (Below.refl w.heap.size w) (.cells #[.int .i64 1, .int .i64 a, .int .i64 k, .int .i64 n, .string s] 50)))
  clear hp hp1 ha
  go_enter Try.func80, Try.ntmps80
  go_wp2_with (fail)
  go_quiet (fail)
  go_wp2
  go_ret
  exact ⟨rfl, HP.out.drewN _, HS.out.trans (.below (pw_below_drewN (Below.refl _ _) _))⟩

set_option maxHeartbeats 8000000 in
set_option maxRecDepth 100000 in
theorem pile_not_no (W0 : World) (g : Nat) (vv : Value) (kd : Bool) (w : World) (hp : Pile W0 w g [] vv kd) :
    Calls Try.prog 105 #[.pointer (some ⟨g, 0, none⟩)] w fun e w' => e = .returned (.int .i64 2) ∧ w = w' := by
  have hc := Aside0.mk (pile_take_no W0 g [] vv kd 1 w hp (by simp) (by omega))
  clear hp
  go_enter Try.func105, Try.ntmps105
  go_wp2_with (fail)
  refine (hc.out).mono ?_
  rintro e w1 ⟨rfl, rfl⟩
  go_wp2
  go_ret
  exact ⟨rfl, rfl⟩

def notOf : Thing → Option Thing
  | .tru b => some (.tru !b)
  | _ => none
set_option maxHeartbeats 8000000 in
set_option maxRecDepth 100000 in
theorem pile_not_yes (W0 : World) (g : Nat) (xs : List Thing) (x : Thing) (vv : Value) (kd : Bool) (w : World) (hp : Pile W0 w g (xs ++ [x]) vv kd) (hl : xs.length < 1000) :
    Calls Try.prog 105 #[.pointer (some ⟨g, 0, none⟩)] w fun e w' => e = .returned (.int .i64 (if (notOf x).isSome then 0 else 5)) ∧ Pile W0 w' g (xs ++ (notOf x).toList) vv kd ∧ Stays w w' g := by
  have ta1 := ta_n_tru
  have ta2 := ta_t_tru
  have ta3 := ta_o_tru
  have hc := pile_take_yes W0 g (xs ++ [x]) vv kd 1 w hp (by simp) (by omega) (by omega) (by simp; omega)
  have e1 : (xs ++ [x]).length - 1 = xs.length := by simp
  rw [e1, List.drop_left, List.take_left] at hc
  replace hc := Aside0.mk hc
  have HL := Aside0.mk hl
  clear hp hl e1
  go_enter Try.func105, Try.ntmps105
  go_wp2_with (fail)
  refine (hc.out).mono ?_
  rintro e w1 ⟨gv, c', rfl, hC, hp1, hs1⟩
  have hx0 : w1.cell? ⟨gv, 0, none⟩ = some (thingV x) := atT hC 0 (by omega)
  have HP := Aside0.mk hp1
  have HS := Aside0.mk hs1
  clear hC hp1 hs1
  cases x with
  | num n =>
    unfold thingV at hx0
    go_wp2
    go_ret
    exact ⟨rfl, by simpa [notOf] using HP.out, HS.out⟩
  | oth k n s =>
    unfold thingV at hx0
    go_wp2
    go_ret
    exact ⟨rfl, by simpa [notOf] using HP.out, HS.out⟩
  | tru b =>
    unfold thingV at hx0
    go_wp2_with (fail)
    refine (pile_lay.calls W0 g xs _ kd (.tru !b) _ HP.out HL.out).mono ?_
    rintro e w2 ⟨rfl, hp2, hs2⟩
    go_wp2
    go_ret
    exact ⟨rfl, hp2, HS.out.trans hs2⟩
end Go.Proofs.Yteommchgnocgnaa.PE
end

section
namespace Go.Proofs.Yteommchgnocgnaa.PE
open Go.RowKit Go.Proofs.YteommchgnocgnaaW.PrintWords Go.Proofs.YteommchgnocgnaaW.PrintLast Go.Proofs.YteommchgnocgnaaW.PrintMore
set_option linter.unusedVariables false
set_option linter.unusedSimpArgs false

set_option maxHeartbeats 8000000 in
set_option maxRecDepth 100000 in
theorem part_not (W0 : World) (g : Nat) (xs : List Thing) (x : Thing) (vv : Value) (kd : Bool) (a k n : Int) (s : ByteArray) (w : World) (hp : Pile W0 w g (xs ++ [x]) vv kd) (hl : xs.length < 1000) :
    Calls Try.prog 80 #[.pointer (some ⟨g, 0, none⟩), .agg #[.int .i64 9, .int .i64 a, .int .i64 k, .int .i64 n, .string s]] w fun e w' => e = .returned (.int .i64 (if (notOf x).isSome then 0 else 5)) ∧ Pile W0 w' g (xs ++ (notOf x).toList) vv kd ∧ Stays w w' g := by
  have hu50 := Try.underlying50
  have HP := Aside0.mk (hp.below (below_alloc (Below.refl _ _) (.cells #[.int .i64 9, .int .i64 a, .int .i64 k, .int .i64 n, .string s] 50)))
  have HS := Aside0.mk (Stays.below (g := g) (below_alloc (Below.refl w.heap.size w) (.cells #[.int .i64 9, .int .i64 a, .int .i64 k, .int .i64 n, .string s] 50)))
  have HL := Aside0.mk hl
  clear hp hl
  have HC := Aside0.mk (pile_not_yes W0 g xs x vv kd _ HP.out HL.out)
  obtain ⟨E, hE⟩ : ∃ E : Int, E = if (notOf x).isSome then 0 else 5 := ⟨_, rfl⟩
  rw [← hE] at HC
  rw [← hE]
  clear hE
  go_enter Try.func80, Try.ntmps80
  go_wp2_with (fail)
  refine (HC.out).mono ?_
  rintro e w1 ⟨rfl, hp1, hs1⟩
  go_wp2
  go_ret
  exact ⟨rfl, hp1, HS.out.trans hs1⟩

set_option maxHeartbeats 8000000 in
set_option maxRecDepth 100000 in
theorem part_not_no (W0 : World) (g : Nat) (vv : Value) (kd : Bool) (a k n : Int) (s : ByteArray) (w : World) (hp : Pile W0 w g [] vv kd) :
    Calls Try.prog 80 #[.pointer (some ⟨g, 0, none⟩), .agg #[.int .i64 9, .int .i64 a, .int .i64 k, .int .i64 n, .string s]] w fun e w' => e = .returned (.int .i64 2) ∧ Pile W0 w' g [] vv kd ∧ Stays w w' g := by
  have hu50 := Try.underlying50
  have HP := Aside0.mk (hp.below (below_alloc (Below.refl _ _) (.cells #[.int .i64 9, .int .i64 a, .int .i64 k, .int .i64 n, .string s] 50)))
  have HS := Aside0.mk (Stays.below (g := g) (below_alloc (Below.refl w.heap.size w) (.cells #[.int .i64 9, .int .i64 a, .int .i64 k, .int .i64 n, .string s] 50)))
  clear hp
  go_enter Try.func80, Try.ntmps80
  go_wp2_with (fail)
  refine (pile_not_no W0 g vv kd _ HP.out).mono ?_
  rintro e w1 ⟨rfl, rfl⟩
  go_wp2
  go_ret
  exact ⟨rfl, HP.out, HS.out⟩

set_option maxHeartbeats 8000000 in
set_option maxRecDepth 100000 in
theorem part_two_no (W0 : World) (g : Nat) (xs : List Thing) (vv : Value) (kd : Bool) (c a k n : Int) (s : ByteArray) (h0 : c ≠ 0) (h1 : c ≠ 1) (h9 : c ≠ 9) (w : World) (hp : Pile W0 w g xs vv kd) (hl : xs.length < 2) :
    Calls Try.prog 80 #[.pointer (some ⟨g, 0, none⟩), .agg #[.int .i64 c, .int .i64 a, .int .i64 k, .int .i64 n, .string s]] w fun e w' => e = .returned (.int .i64 2) ∧ Pile W0 w' g xs vv kd ∧ Stays w w' g := by
  have hu50 := Try.underlying50
  have b0 : (c == 0) = false := beq_eq_false_iff_ne.mpr h0
  have b1 : (c == 1) = false := beq_eq_false_iff_ne.mpr h1
  have b9 : (c == 9) = false := beq_eq_false_iff_ne.mpr h9
  have HP := Aside0.mk (hp.below (below_alloc (Below.refl _ _) (.cells #[.int .i64 c, .int .i64 a, .int .i64 k, .int .i64 n, .string s] 50)))
  have HS := Aside0.mk (Stays.below (g := g) (below_alloc (Below.refl w.heap.size w) (.cells #[.int .i64 c, .int .i64 a, .int .i64 k, .int .i64 n, .string s] 50)))
  have HC := Aside0.mk (pile_take_no W0 g xs vv kd 2 _ HP.out hl (by omega))
  clear hp hl h0 h1 h9
  go_enter Try.func80, Try.ntmps80
  go_wp2_with (fail)
  refine (HC.out).mono ?_
  rintro e w1 ⟨rfl, rfl⟩
  go_wp2
  go_ret
  exact ⟨rfl, HP.out, HS.out⟩


set_option maxHeartbeats 16000000 in
set_option maxRecDepth 100000 in
theorem part_two_A (W0 : World) (g : Nat) (xs : List Thing) (x y : Thing) (hx : okT x) (hy : okT y) (vv : Value) (c a k n : Int) (s : ByteArray) (h0 : c ≠ 0) (h1 : c ≠ 1) (h9 : c ≠ 9) (w : World) (hp : Pile W0 w g (xs ++ [x, y]) vv true) (hl : xs.length < 998)
    (ro : Option Thing) (hr : twoT c x y = (ro, 6)) :
    Calls Try.prog 80 #[.pointer (some ⟨g, 0, none⟩), .agg #[.int .i64 c, .int .i64 a, .int .i64 k, .int .i64 n, .string s]] w fun e w' => e = .returned (.int .i64 0) ∧ Pile W0 w' g (xs ++ [.num 0]) vv true ∧ Stays w w' g := by
  have hu50 := Try.underlying50
  have hu82 := Try.underlying82
  have b0 : (c == 0) = false := beq_eq_false_iff_ne.mpr h0
  have b1 : (c == 1) = false := beq_eq_false_iff_ne.mpr h1
  have b9 : (c == 9) = false := beq_eq_false_iff_ne.mpr h9
  have HP := Aside0.mk (hp.below (below_alloc (Below.refl _ _) (.cells #[.int .i64 c, .int .i64 a, .int .i64 k, .int .i64 n, .string s] 50)))
  have HS := Aside0.mk (Stays.below (g := g) (below_alloc (Below.refl w.heap.size w) (.cells #[.int .i64 c, .int .i64 a, .int .i64 k, .int .i64 n, .string s] 50)))
  have HX := Aside0.mk (blk_new w (.cells #[.int .i64 c, .int .i64 a, .int .i64 k, .int .i64 n, .string s] 50))
  have HN := Aside0.mk (show w.heap.size ≠ g by have := hp.gt; omega)
  have hc := pile_take_yes W0 g (xs ++ [x, y]) vv true 2 _ HP.out (by simp) (by omega) (by omega) (by simp; omega)
  have e1 : (xs ++ [x, y]).length - 2 = xs.length := by simp
  rw [e1, List.drop_left, List.take_left] at hc
  have HC := Aside0.mk hc
  have HL := Aside0.mk hl
  have H2 : Aside0 (∀ W, Calls Try.prog 107 #[.int .i64 c, thingV x, thingV y] W fun e w' => e = .returned (.tuple #[optV ro, .int .i64 6]) ∧ Below W.heap.size W w') := ⟨fun W => by
    have h := expr_two.calls c x y hx hy W
    rw [hr] at h
    exact h⟩
  clear hp hl h0 h1 h9 hc e1 hr hx hy
  go_enter Try.func80, Try.ntmps80
  go_wp2_with (fail)
  refine (HC.out).mono ?_
  rintro e w1 ⟨gv, c', rfl, hC, hp1, hs1⟩
  have hx0 : w1.cell? ⟨gv, 0, none⟩ = some (thingV x) := atT hC 0 (by omega)
  have hx1 : w1.cell? ⟨gv, 1, none⟩ = some (thingV y) := atT hC 1 (by omega)
  have hxc : w1.cell? ⟨w.heap.size, 0, none⟩ = some (.int .i64 c) := (blk_cell (hs1.2 _ _ _ (by decide) HN.out HX.out) 0).trans rfl
  replace HP := Aside0.mk hp1
  replace HS := Aside0.mk (HS.out.trans hs1)
  clear hC hp1 hs1 HC HX
  obtain ⟨VX, hVX⟩ : ∃ V, V = thingV x := ⟨_, rfl⟩
  obtain ⟨VY, hVY⟩ : ∃ V, V = thingV y := ⟨_, rfl⟩
  rw [← hVX] at hx0
  rw [← hVY] at hx1
  rw [← hVX, ← hVY] at H2
  clear hVX hVY
  go_wp2_with (fail)
  go_region_held3 (fun w' => w'.cell? ⟨gv, 0, none⟩ = some VX ∧ w'.cell? ⟨gv, 1, none⟩ = some VY ∧ w'.cell? ⟨w.heap.size, 0, none⟩ = some (.int .i64 c))
    (first
      | (exact ⟨hx0, hx1, hxc⟩)
      | (go_split_ands; exact ⟨keepS hb ‹_›, keepS hb ‹_›, keepS hb ‹_›⟩))
    (first
      | (go_at_call 107; refine (H2.out _).mono ?_; rintro e w3 ⟨rfl, hb⟩; have HP3 := Aside0.mk ((HP.out.below (below_drew (Below.refl _ _))).below hb); have HS3 := Aside0.mk ((HS.out.trans (.below (below_drew (Below.refl _ _)))).trans (.below hb))))
  have hck := HP3.out.kcell
  clear HP HS hx0 hx1 hxc H2
  obtain ⟨VR, hVR⟩ : ∃ V, V = optV ro := ⟨_, rfl⟩
  rw [← hVR]
  clear hVR
  go_wp2_with (fail)
  refine (pile_lay.calls W0 g xs _ true (.num 0) _ HP3.out (by have := HL.out; omega)).mono ?_
  rintro e w4 ⟨rfl, hp4, hs4⟩
  go_wp2
  go_ret
  exact ⟨rfl, hp4, HS3.out.trans hs4⟩


set_option maxHeartbeats 16000000 in
set_option maxRecDepth 100000 in
theorem part_two_B (W0 : World) (g : Nat) (xs : List Thing) (x y : Thing) (hx : okT x) (hy : okT y) (vv : Value) (kd : Bool) (c a k n : Int) (s : ByteArray) (h0 : c ≠ 0) (h1 : c ≠ 1) (h9 : c ≠ 9) (w : World) (hp : Pile W0 w g (xs ++ [x, y]) vv kd) (hl : xs.length < 998)
    (t : Thing) (hr : twoT c x y = (some t, 0)) :
    Calls Try.prog 80 #[.pointer (some ⟨g, 0, none⟩), .agg #[.int .i64 c, .int .i64 a, .int .i64 k, .int .i64 n, .string s]] w fun e w' => e = .returned (.int .i64 0) ∧ Pile W0 w' g (xs ++ [t]) vv kd ∧ Stays w w' g := by
  have hu50 := Try.underlying50
  have hu82 := Try.underlying82
  have b0 : (c == 0) = false := beq_eq_false_iff_ne.mpr h0
  have b1 : (c == 1) = false := beq_eq_false_iff_ne.mpr h1
  have b9 : (c == 9) = false := beq_eq_false_iff_ne.mpr h9
  have HP := Aside0.mk (hp.below (below_alloc (Below.refl _ _) (.cells #[.int .i64 c, .int .i64 a, .int .i64 k, .int .i64 n, .string s] 50)))
  have HS := Aside0.mk (Stays.below (g := g) (below_alloc (Below.refl w.heap.size w) (.cells #[.int .i64 c, .int .i64 a, .int .i64 k, .int .i64 n, .string s] 50)))
  have HX := Aside0.mk (blk_new w (.cells #[.int .i64 c, .int .i64 a, .int .i64 k, .int .i64 n, .string s] 50))
  have HN := Aside0.mk (show w.heap.size ≠ g by have := hp.gt; omega)
  have hc := pile_take_yes W0 g (xs ++ [x, y]) vv kd 2 _ HP.out (by simp) (by omega) (by omega) (by simp; omega)
  have e1 : (xs ++ [x, y]).length - 2 = xs.length := by simp
  rw [e1, List.drop_left, List.take_left] at hc
  have HC := Aside0.mk hc
  have HL := Aside0.mk hl
  have H2 : Aside0 (∀ W, Calls Try.prog 107 #[.int .i64 c, thingV x, thingV y] W fun e w' => e = .returned (.tuple #[thingV t, .int .i64 0]) ∧ Below W.heap.size W w') := ⟨fun W => by
    have h := expr_two.calls c x y hx hy W
    rw [hr] at h
    exact h⟩
  clear hp hl h0 h1 h9 hc e1 hr hx hy
  go_enter Try.func80, Try.ntmps80
  go_wp2_with (fail)
  refine (HC.out).mono ?_
  rintro e w1 ⟨gv, c', rfl, hC, hp1, hs1⟩
  have hx0 : w1.cell? ⟨gv, 0, none⟩ = some (thingV x) := atT hC 0 (by omega)
  have hx1 : w1.cell? ⟨gv, 1, none⟩ = some (thingV y) := atT hC 1 (by omega)
  have hxc : w1.cell? ⟨w.heap.size, 0, none⟩ = some (.int .i64 c) := (blk_cell (hs1.2 _ _ _ (by decide) HN.out HX.out) 0).trans rfl
  replace HP := Aside0.mk hp1
  replace HS := Aside0.mk (HS.out.trans hs1)
  clear hC hp1 hs1 HC HX
  obtain ⟨VX, hVX⟩ : ∃ V, V = thingV x := ⟨_, rfl⟩
  obtain ⟨VY, hVY⟩ : ∃ V, V = thingV y := ⟨_, rfl⟩
  rw [← hVX] at hx0
  rw [← hVY] at hx1
  rw [← hVX, ← hVY] at H2
  clear hVX hVY
  go_wp2_with (fail)
  go_region_held3 (fun w' => w'.cell? ⟨gv, 0, none⟩ = some VX ∧ w'.cell? ⟨gv, 1, none⟩ = some VY ∧ w'.cell? ⟨w.heap.size, 0, none⟩ = some (.int .i64 c))
    (first
      | (exact ⟨hx0, hx1, hxc⟩)
      | (go_split_ands; exact ⟨keepS hb ‹_›, keepS hb ‹_›, keepS hb ‹_›⟩))
    (first
      | (go_at_call 107; refine (H2.out _).mono ?_; rintro e w3 ⟨rfl, hb⟩; have HP3 := Aside0.mk ((HP.out.below (below_drew (Below.refl _ _))).below hb); have HS3 := Aside0.mk ((HS.out.trans (.below (below_drew (Below.refl _ _)))).trans (.below hb))))
  have hck := HP3.out.kcell
  clear HP HS hx0 hx1 hxc H2
  cases kd
  all_goals
    go_wp2_with (fail)
    refine (pile_lay.calls W0 g xs _ _ t _ HP3.out (by have := HL.out; omega)).mono ?_
    rintro e w4 ⟨rfl, hp4, hs4⟩
    go_wp2
    go_ret
    exact ⟨rfl, hp4, HS3.out.trans hs4⟩


set_option maxHeartbeats 16000000 in
set_option maxRecDepth 100000 in
theorem part_two_C (W0 : World) (g : Nat) (xs : List Thing) (x y : Thing) (hx : okT x) (hy : okT y) (vv : Value) (kd : Bool) (c a k n : Int) (s : ByteArray) (h0 : c ≠ 0) (h1 : c ≠ 1) (h9 : c ≠ 9) (w : World) (hp : Pile W0 w g (xs ++ [x, y]) vv kd) (hl : xs.length < 998)
    (ro : Option Thing) (re : Int) (hr : twoT c x y = (ro, re)) (hz : re ≠ 0) (hk : kd = true → re ≠ 6) :
    Calls Try.prog 80 #[.pointer (some ⟨g, 0, none⟩), .agg #[.int .i64 c, .int .i64 a, .int .i64 k, .int .i64 n, .string s]] w fun e w' => e = .returned (.int .i64 re) ∧ Pile W0 w' g (xs ++ []) vv kd ∧ Stays w w' g := by
  have hu50 := Try.underlying50
  have hu82 := Try.underlying82
  have b0 : (c == 0) = false := beq_eq_false_iff_ne.mpr h0
  have b1 : (c == 1) = false := beq_eq_false_iff_ne.mpr h1
  have b9 : (c == 9) = false := beq_eq_false_iff_ne.mpr h9
  have HP := Aside0.mk (hp.below (below_alloc (Below.refl _ _) (.cells #[.int .i64 c, .int .i64 a, .int .i64 k, .int .i64 n, .string s] 50)))
  have HS := Aside0.mk (Stays.below (g := g) (below_alloc (Below.refl w.heap.size w) (.cells #[.int .i64 c, .int .i64 a, .int .i64 k, .int .i64 n, .string s] 50)))
  have HX := Aside0.mk (blk_new w (.cells #[.int .i64 c, .int .i64 a, .int .i64 k, .int .i64 n, .string s] 50))
  have HN := Aside0.mk (show w.heap.size ≠ g by have := hp.gt; omega)
  have hc := pile_take_yes W0 g (xs ++ [x, y]) vv kd 2 _ HP.out (by simp) (by omega) (by omega) (by simp; omega)
  have e1 : (xs ++ [x, y]).length - 2 = xs.length := by simp
  rw [e1, List.drop_left, List.take_left] at hc
  have HC := Aside0.mk hc
  have HL := Aside0.mk hl
  have H2 : Aside0 (∀ W, Calls Try.prog 107 #[.int .i64 c, thingV x, thingV y] W fun e w' => e = .returned (.tuple #[optV ro, .int .i64 re]) ∧ Below W.heap.size W w') := ⟨fun W => by
    have h := expr_two.calls c x y hx hy W
    rw [hr] at h
    exact h⟩
  have z0 : (re == 0) = false := beq_eq_false_iff_ne.mpr hz
  have z0' : (re != 0) = true := bne_iff_ne.mpr hz
  have HK := Aside0.mk hk
  clear hz hk
  clear hp hl h0 h1 h9 hc e1 hr hx hy
  go_enter Try.func80, Try.ntmps80
  go_wp2_with (fail)
  refine (HC.out).mono ?_
  rintro e w1 ⟨gv, c', rfl, hC, hp1, hs1⟩
  have hx0 : w1.cell? ⟨gv, 0, none⟩ = some (thingV x) := atT hC 0 (by omega)
  have hx1 : w1.cell? ⟨gv, 1, none⟩ = some (thingV y) := atT hC 1 (by omega)
  have hxc : w1.cell? ⟨w.heap.size, 0, none⟩ = some (.int .i64 c) := (blk_cell (hs1.2 _ _ _ (by decide) HN.out HX.out) 0).trans rfl
  replace HP := Aside0.mk hp1
  replace HS := Aside0.mk (HS.out.trans hs1)
  clear hC hp1 hs1 HC HX
  obtain ⟨VX, hVX⟩ : ∃ V, V = thingV x := ⟨_, rfl⟩
  obtain ⟨VY, hVY⟩ : ∃ V, V = thingV y := ⟨_, rfl⟩
  rw [← hVX] at hx0
  rw [← hVY] at hx1
  rw [← hVX, ← hVY] at H2
  clear hVX hVY
  go_wp2_with (fail)
  go_region_held3 (fun w' => w'.cell? ⟨gv, 0, none⟩ = some VX ∧ w'.cell? ⟨gv, 1, none⟩ = some VY ∧ w'.cell? ⟨w.heap.size, 0, none⟩ = some (.int .i64 c))
    (first
      | (exact ⟨hx0, hx1, hxc⟩)
      | (go_split_ands; exact ⟨keepS hb ‹_›, keepS hb ‹_›, keepS hb ‹_›⟩))
    (first
      | (go_at_call 107; refine (H2.out _).mono ?_; rintro e w3 ⟨rfl, hb⟩; have HP3 := Aside0.mk ((HP.out.below (below_drew (Below.refl _ _))).below hb); have HS3 := Aside0.mk ((HS.out.trans (.below (below_drew (Below.refl _ _)))).trans (.below hb))))
  have hck := HP3.out.kcell
  clear HP HS hx0 hx1 hxc H2
  obtain ⟨VR, hVR⟩ : ∃ V, V = optV ro := ⟨_, rfl⟩
  rw [← hVR]
  clear hVR
  cases kd with
  | false =>
    go_wp2
    go_ret
    exact ⟨rfl, by simpa using HP3.out, HS3.out⟩
  | true =>
    have z6 : (re == 6) = false := beq_eq_false_iff_ne.mpr (HK.out rfl)
    go_wp2
    go_ret
    exact ⟨rfl, by simpa using HP3.out, HS3.out⟩

end Go.Proofs.Yteommchgnocgnaa.PE
end

section
namespace Go.Proofs.Yteommchgnocgnaa.PE
open Go.RowKit Go.Proofs.YteommchgnocgnaaW.PrintWords Go.Proofs.YteommchgnocgnaaW.PrintLast Go.Proofs.YteommchgnocgnaaW.PrintMore
set_option linter.unusedVariables false
set_option linter.unusedSimpArgs false

/-- What is laid of what comes of two; of kinds alone no number is too great. -/
def laid2 (kd : Bool) (r : Option Thing × Int) : Option Thing × Int := if kd = true ∧ r.2 = 6 then (some (.num 0), 0) else r
/-- A part: the error's number, and the pile. -/
def partL (vs : List S38) (kd : Bool) (xs : List Thing) (x : S50) : Int × List Thing :=
  if x.f0 = 0 then (0, xs ++ [thingOf x.f2.f0 x.f2.f1 x.f2.f2])
  else if x.f0 = 1 then (if (vs.length : Int) ≤ x.f1 then (3, xs) else (0, xs ++ [thingOf (rd_T38 vs x.f1).f0 (rd_T38 vs x.f1).f1 (rd_T38 vs x.f1).f2]))
  else if x.f0 = 9 then (if xs.length < 1 then (2, xs) else ((if (notOf (xs.getD (xs.length - 1) zT)).isSome then 0 else 5), xs.take (xs.length - 1) ++ (notOf (xs.getD (xs.length - 1) zT)).toList))
  else if xs.length < 2 then (2, xs)
  else ((laid2 kd (twoT x.f0 (xs.getD (xs.length - 2) zT) (xs.getD (xs.length - 1) zT))).2, xs.take (xs.length - 2) ++ (if (laid2 kd (twoT x.f0 (xs.getD (xs.length - 2) zT) (xs.getD (xs.length - 1) zT))).2 = 0 then (laid2 kd (twoT x.f0 (xs.getD (xs.length - 2) zT) (xs.getD (xs.length - 1) zT))).1.toList else []))

theorem last_split {xs : List Thing} (h : ¬ xs.length < 1) : xs = xs.take (xs.length - 1) ++ [xs.getD (xs.length - 1) zT] := by
  have h1 : xs.length - 1 < xs.length := by omega
  have := List.take_succ_eq_append_getElem h1
  rw [show xs.length - 1 + 1 = xs.length from by omega, List.take_length] at this
  rw [List.getD_eq_getElem?_getD, List.getElem?_eq_getElem h1, Option.getD_some]
  exact this
theorem last2_split {xs : List Thing} (h : ¬ xs.length < 2) : xs = xs.take (xs.length - 2) ++ [xs.getD (xs.length - 2) zT, xs.getD (xs.length - 1) zT] := by
  have h1 : xs.length - 2 < xs.length := by omega
  have h2 : xs.length - 1 < xs.length := by omega
  have e1 := List.take_succ_eq_append_getElem h1
  have e2 := List.take_succ_eq_append_getElem h2
  rw [show xs.length - 2 + 1 = xs.length - 1 from by omega] at e1
  rw [show xs.length - 1 + 1 = xs.length from by omega, List.take_length, e1] at e2
  rw [List.getD_eq_getElem?_getD, List.getElem?_eq_getElem h1, Option.getD_some, List.getD_eq_getElem?_getD, List.getElem?_eq_getElem h2, Option.getD_some]
  rw [List.append_assoc] at e2
  exact e2
theorem okT_get {xs : List Thing} (h : ∀ t ∈ xs, okT t) (i : Nat) : okT (xs.getD i zT) := by
  rw [List.getD_eq_getElem?_getD]
  cases e : xs[i]? with
  | none => trivial
  | some t => exact h t (List.mem_of_getElem? e)
theorem twoT_ok {c : Int} {x y : Thing} {ro : Option Thing} {re : Int} (h : twoT c x y = (ro, re)) : (re = 0 → ∃ t, ro = some t) ∧ (∀ t, ro = some t → okT t) := by
  unfold twoT at h
  repeat' split at h
  all_goals (injection h with h1 h2; subst h1; subst h2; constructor)
  all_goals first
    | (intro h; exact absurd h (by decide))
    | (intro _; exact ⟨_, rfl⟩)
    | (intro t h; injection h with h; subst h; trivial)
    | (intro t h; exact absurd h (by simp))

theorem partL_ok {vs : List S38} {kd : Bool} {xs : List Thing} {x : S50} (h : ∀ t ∈ xs, okT t) : ∀ t ∈ (partL vs kd xs x).2, okT t := by
  have snoc : ∀ {ys : List Thing} {t : Thing}, (∀ t ∈ ys, okT t) → okT t → ∀ u ∈ ys ++ [t], okT u := by
    intro ys t h1 h2 u hu
    rcases List.mem_append.1 hu with h3 | h3
    · exact h1 u h3
    · rw [List.mem_singleton.1 h3]; exact h2
  have tk : ∀ n, ∀ t ∈ xs.take n, okT t := fun n t ht => h t (List.mem_of_mem_take ht)
  unfold partL
  split
  · exact snoc h (okT_of _ _ _)
  split
  · split
    · exact h
    · exact snoc h (okT_of _ _ _)
  split
  · split
    · exact h
    · cases hn : notOf (xs.getD (xs.length - 1) zT) with
      | none => simpa using tk _
      | some t =>
        refine snoc (tk _) ?_
        revert hn
        cases xs.getD (xs.length - 1) zT <;> simp [notOf]
        rintro rfl; trivial
  split
  · exact h
  · obtain ⟨ro, re, hr⟩ : ∃ ro re, twoT x.f0 (xs.getD (xs.length - 2) zT) (xs.getD (xs.length - 1) zT) = (ro, re) := ⟨_, _, rfl⟩
    rw [hr]
    unfold laid2
    split
    · exact snoc (tk _) trivial
    · split
      · rename_i hz
        obtain ⟨t, rfl⟩ := (twoT_ok hr).1 hz
        exact snoc (tk _) ((twoT_ok hr).2 t rfl)
      · simpa using tk _
theorem partL_len {vs : List S38} {kd : Bool} {xs : List Thing} {x : S50} : (partL vs kd xs x).2.length ≤ xs.length + 1 := by
  unfold partL
  repeat' split
  all_goals (simp only [List.length_append, List.length_take, List.length_cons, List.length_nil, Option.length_toList])
  all_goals first | omega | (split <;> omega)

theorem expr_part.calls (W0 : World) (g : Nat) (xs : List Thing) (A : Option Addr) (cv : Nat) (vs : List S38) (kd : Bool) (x : S50) (w : World) (hp : Pile W0 w g xs (.slice A vs.length cv) kd) (hv : ∀ W, KeepBut W0 W g none → Kd.C k38 W A vs.length vs) (hok : ∀ t ∈ xs, okT t) (hl : xs.length < 900) (h0 : 0 ≤ x.f1) :
    Calls Try.prog 80 #[.pointer (some ⟨g, 0, none⟩), .agg #[.int .i64 x.f0, .int .i64 x.f1, .int .i64 x.f2.f0, .int .i64 x.f2.f1, .string x.f2.f2]] w fun e w' => e = .returned (.int .i64 (partL vs kd xs x).1) ∧ Pile W0 w' g (partL vs kd xs x).2 (.slice A vs.length cv) kd ∧ Stays w w' g := by
  obtain ⟨c, a, k, n, s, rfl⟩ : ∃ c a k n s, x = ⟨c, a, ⟨k, n, s⟩⟩ := ⟨x.f0, x.f1, x.f2.f0, x.f2.f1, x.f2.f2, rfl⟩
  unfold partL
  dsimp only
  by_cases c0 : c = 0
  · subst c0; rw [if_pos rfl]
    exact part_push W0 g xs _ kd a k n s w hp (by omega)
  rw [if_neg c0]
  by_cases c1 : c = 1
  · subst c1; rw [if_pos rfl]
    by_cases ha : (vs.length : Int) ≤ a
    · rw [if_pos ha]
      exact part_none W0 g xs A cv vs.length kd a k n s w hp ha
    · rw [if_neg ha]
      exact part_load W0 g xs A cv vs kd a k n s w hp hv (by omega) h0 (by omega)
  rw [if_neg c1]
  by_cases c9 : c = 9
  · subst c9; rw [if_pos rfl]
    by_cases hn : xs.length < 1
    · rw [if_pos hn]
      obtain rfl : xs = [] := List.eq_nil_of_length_eq_zero (by omega)
      exact part_not_no W0 g _ kd a k n s w hp
    · rw [if_neg hn]
      have hs := last_split hn
      refine part_not W0 g (xs.take (xs.length - 1)) (xs.getD (xs.length - 1) zT) _ kd a k n s w (by rw [← hs]; exact hp) (by rw [List.length_take]; omega)
  rw [if_neg c9]
  by_cases hn : xs.length < 2
  · rw [if_pos hn]
    exact part_two_no W0 g xs _ kd c a k n s c0 c1 c9 w hp hn
  · rw [if_neg hn]
    have hs := last2_split hn
    have hx := okT_get hok (xs.length - 2)
    have hy := okT_get hok (xs.length - 1)
    have hp2 : Pile W0 w g (xs.take (xs.length - 2) ++ [xs.getD (xs.length - 2) zT, xs.getD (xs.length - 1) zT]) (.slice A vs.length cv) kd := by rw [← hs]; exact hp
    have hlen : (xs.take (xs.length - 2)).length < 998 := by rw [List.length_take]; omega
    obtain ⟨ro, re, hr⟩ : ∃ ro re, twoT c (xs.getD (xs.length - 2) zT) (xs.getD (xs.length - 1) zT) = (ro, re) := ⟨_, _, rfl⟩
    rw [hr]
    unfold laid2
    by_cases hk : kd = true ∧ re = 6
    · obtain ⟨rfl, rfl⟩ := hk
      rw [if_pos ⟨rfl, rfl⟩]
      exact part_two_A W0 g _ _ _ hx hy _ c a k n s c0 c1 c9 w hp2 hlen ro hr
    · rw [if_neg hk]
      dsimp only
      by_cases hz : re = 0
      · subst hz
        obtain ⟨t, rfl⟩ := (twoT_ok hr).1 rfl
        rw [if_pos rfl]
        exact part_two_B W0 g _ _ _ hx hy _ kd c a k n s c0 c1 c9 w hp2 hlen t hr
      · rw [if_neg hz]
        exact part_two_C W0 g _ _ _ hx hy _ kd c a k n s c0 c1 c9 w hp2 hlen ro re hr hz (fun h1 h2 => hk ⟨h1, h2⟩)
end Go.Proofs.Yteommchgnocgnaa.PE
end

section
namespace Go.Proofs.Yteommchgnocgnaa.PE
open Go.RowKit Go.Proofs.YteommchgnocgnaaW.PrintWords Go.Proofs.YteommchgnocgnaaW.PrintLast Go.Proofs.YteommchgnocgnaaW.PrintMore
set_option linter.unusedVariables false
set_option linter.unusedSimpArgs false

def throughL (vs : List S38) (kd : Bool) : List S50 → List Thing → Int × List Thing
  | [], xs => (0, xs)
  | x :: r, xs => if (partL vs kd xs x).1 = 0 then throughL vs kd r (partL vs kd xs x).2 else partL vs kd xs x
/-- What comes of all: kind, number, text; the error. -/
def evalT (vs : List S38) (kd : Bool) (l : List S50) : Int × Int × ByteArray × Int :=
  if (throughL vs kd l []).1 = 0 then
    (if (throughL vs kd l []).2.length = 1 then (tK ((throughL vs kd l []).2.getD 0 zT), tN ((throughL vs kd l []).2.getD 0 zT), tS ((throughL vs kd l []).2.getD 0 zT), 0) else (0, 0, ⟨#[]⟩, 2))
  else (0, 0, ⟨#[]⟩, (throughL vs kd l []).1)

set_option maxHeartbeats 16000000 in
set_option maxRecDepth 100000 in
theorem expr_through.calls (g : Nat) (A : Option Addr) (cv : Nat) (vs : List S38) (kd : Bool) (A1 : Option Addr) (c1 : Nat) (l : List S50) (w : World)
    (hb : w.heap[g]? = some (.cells #[.slice none 0 0, .slice A vs.length cv, .bool kd] 82 (0, 0)))
    (hv : ∀ W, KeepBut w W g none → Kd.C k38 W A vs.length vs) (hr : ∀ W, KeepBut w W g none → Kd.C k50 W A1 l.length l) (hc1 : l.length ≤ c1) (hl : l.length ≤ 12) (h0 : ∀ x ∈ l, 0 ≤ x.f1) :
    Calls Try.prog 42 #[.pointer (some ⟨g, 0, none⟩), .slice A1 l.length c1] w fun e w' => e = .returned (.tuple #[.agg #[.int .i64 (evalT vs kd l).1, .int .i64 (evalT vs kd l).2.1, .string (evalT vs kd l).2.2.1], .int .i64 (evalT vs kd l).2.2.2]) ∧ Below g w w' := by
  have hu38 := Try.underlying38
  have hu50 := Try.underlying50
  have hu82 := Try.underlying82
  have m1 := m_num
  have m2 := m_tru
  have m3 := m_oth
  have hgw := blk_lt hb
  have HP0 : Aside0 (Pile w (w.alloc (.cells #[.int .i64 0, .int .i64 0, .string ⟨#[]⟩] 38)) g [] (.slice A vs.length cv) kd) :=
    ⟨(⟨⟨_, hb, Kd.R_nil _ _ _ _ _⟩, KeepBut.refl _ _ _, hgw, Below.refl _ _⟩ : Pile w w g [] (.slice A vs.length cv) kd).below (below_alloc (Below.refl _ _) _)⟩
  have HB0 := Aside0.mk (blk_new w (.cells #[.int .i64 0, .int .i64 0, .string ⟨#[]⟩] 38))
  have HN := Aside0.mk (show w.heap.size ≠ g by omega)
  have HG := Aside0.mk hgw
  have HV := Aside0.mk hv
  have HR := Aside0.mk hr
  have HC := Aside0.mk hc1
  have HL := Aside0.mk hl
  have H0 := Aside0.mk h0
  obtain ⟨r1, r2, r3, r4, hres⟩ : ∃ r1 r2 r3 r4, evalT vs kd l = (r1, r2, r3, r4) := ⟨_, _, _, _, rfl⟩
  rw [hres]
  have HE := Aside0.mk hres
  clear hb hv hr hc1 hl h0 hgw hres
  go_enter Try.func42, Try.ntmps42
  go_wp2
  go_loopg [11] l.length (fun kq v11 w' => ∃ (i : Nat) (xs : List Thing), v11 = .int .i64 (i : Int) ∧ Aside0 (i + kq = l.length) ∧ Aside0 (throughL vs kd (l.drop i) xs = throughL vs kd l []) ∧ Aside0 (∀ t ∈ xs, okT t) ∧ Aside0 (xs.length ≤ i) ∧ Aside0 (Pile w w' g xs (.slice A vs.length cv) kd) ∧ Aside0 (w'.heap[w.heap.size]? = some (.cells #[.int .i64 0, .int .i64 0, .string ⟨#[]⟩] 38 (0, 0))))
  case atStart => exact ⟨0, [], rfl, ⟨by omega⟩, ⟨by rw [List.drop_zero]⟩, ⟨fun t ht => absurd ht (by simp)⟩, ⟨Nat.le_refl _⟩, HP0, HB0⟩
  case round =>
    clear HP0 HB0
    obtain ⟨i, xs, rfl, hk, hth, hok, hxl, HP, HB⟩ := hrel
    by_cases hlt : i < l.length
    · have hl12 : i < 12 := by have := HL.out; omega
      obtain ⟨ad, e, hx0, hx1, hx2, hx3, hx4⟩ := at_T50 (HR.out _ HP.out.keep) (i : Int) (by omega) (by omega)
      cases e
      rw [Int.toNat_natCast] at hx0 hx1 hx2 hx3 hx4
      have hrd : rd_T50 l (i : Int) = l.getD i z50 := by unfold rd_T50; rw [Int.toNat_natCast]
      rw [hrd] at hx0 hx1 hx2 hx3 hx4
      clear hrd
      have hdrop : l.drop i = l.getD i z50 :: l.drop (i + 1) := by
        rw [List.drop_eq_getElem_cons hlt, List.getD_eq_getElem?_getD, List.getElem?_eq_getElem hlt, Option.getD_some]
      have hmem : l.getD i z50 ∈ l := by
        rw [List.getD_eq_getElem?_getD, List.getElem?_eq_getElem hlt, Option.getD_some]; exact List.getElem_mem hlt
      obtain ⟨x, hx⟩ : ∃ x, x = l.getD i z50 := ⟨_, rfl⟩
      rw [← hx] at hx0 hx1 hx2 hx3 hx4 hdrop hmem
      have hf1 := H0.out x hmem
      have hth2 := hth.out
      rw [hdrop] at hth2
      have HT := Aside0.mk hth2
      have hc := expr_part.calls w g xs (A) cv vs kd x (wr.alloc (.cells #[.int .i64 x.f0, .int .i64 x.f1, .int .i64 x.f2.f0, .int .i64 x.f2.f1, .string x.f2.f2] 50)) (HP.out.below (below_alloc (Below.refl _ _) _)) HV.out hok.out (by have := hxl.out; omega) hf1
      obtain ⟨e1, ys, hpl⟩ : ∃ e1 ys, partL vs kd xs x = (e1, ys) := ⟨_, _, rfl⟩
      have hyo := partL_ok (vs := vs) (kd := kd) (x := x) hok.out
      have hyl := partL_len (vs := vs) (kd := kd) (xs := xs) (x := x)
      rw [hpl] at hc hyo hyl
      have hth3 := HT.out
      rw [throughL, hpl] at hth3
      replace HT := Aside0.mk hth3
      replace hc := Aside0.mk hc
      replace hyo := Aside0.mk hyo
      replace hyl := Aside0.mk (show ys.length ≤ i + 1 from Nat.le_trans hyl (by have := hxl.out; omega))
      have HB2 := Aside0.mk (blk_alloc HB.out (.cells #[.int .i64 x.f0, .int .i64 x.f1, .int .i64 x.f2.f0, .int .i64 x.f2.f1, .string x.f2.f2] 50))
      clear hdrop hmem hf1 hth2 hth3 hpl hx hth hxl HP HB
      by_cases hz : e1 = 0
      · subst hz
        replace HT := Aside0.mk (show throughL vs kd (l.drop (i + 1)) ys = throughL vs kd l [] from (if_pos rfl).symm.trans HT.out)
        go_wp2_with (fail)
        refine (hc.out).mono ?_
        rintro e w2 ⟨rfl, hp2, hs2⟩
        have HP2 := Aside0.mk hp2
        have HB3 := Aside0.mk (hs2.2 _ _ _ (by decide) HN.out HB2.out)
        clear hp2 hs2
        go_wp2
        go_roundg (gk - 1)
        case measure => have := hk.out; omega
        case rel => exact ⟨i + 1, ys, by go_num, ⟨by have := hk.out; omega⟩, HT, hyo, hyl, HP2, HB3⟩
      · replace HT := Aside0.mk (show (e1, ys) = throughL vs kd l [] from (if_neg hz).symm.trans HT.out)
        have hres : r1 = 0 ∧ r2 = 0 ∧ r3 = ⟨#[]⟩ ∧ r4 = e1 := by
          have h := HE.out
          unfold evalT at h
          rw [← HT.out, if_neg hz] at h
          simp only [Prod.mk.injEq] at h
          exact ⟨h.1.symm, h.2.1.symm, h.2.2.1.symm, h.2.2.2.symm⟩
        obtain ⟨rfl, rfl, rfl, rfl⟩ := hres
        have z0 : (r4 != 0) = true := bne_iff_ne.mpr hz
        have z1 : (r4 == 0) = false := beq_eq_false_iff_ne.mpr hz
        clear hz
        go_wp2_with (fail)
        refine (hc.out).mono ?_
        rintro e w2 ⟨rfl, hp2, hs2⟩
        have HP2 := Aside0.mk hp2
        have HB3 := Aside0.mk (hs2.2 _ _ _ (by decide) HN.out HB2.out)
        clear hp2 hs2
        have hcz0 : w2.cell? ⟨w.heap.size, 0, none⟩ = some (.int .i64 0) := (blk_cell HB3.out 0).trans rfl
        have hcz1 : w2.cell? ⟨w.heap.size, 1, none⟩ = some (.int .i64 0) := (blk_cell HB3.out 1).trans rfl
        have hcz2 : w2.cell? ⟨w.heap.size, 2, none⟩ = some (.string ⟨#[]⟩) := (blk_cell HB3.out 2).trans rfl
        have hfz0 := blk_frozen HB3.out 0
        have hfz1 := blk_frozen HB3.out 1
        have hfz2 := blk_frozen HB3.out 2
        go_wp2
        refine bodyPost_ret (results_ct rfl _ _ w.heap.size 38 #[.int .i64 0, .int .i64 0, .string ⟨#[]⟩] (0, 0) _ rfl (blk_put (blk_put (blk_put HB3.out 0 _ rfl) 1 _ rfl) 2 _ rfl) Try.underlying38 rfl (by kernel_rfl)) rfl ?_
        exact ⟨rfl, ((HP2.out.bel.setCell (Nat.le_of_lt HG.out) _).setCell (Nat.le_of_lt HG.out) _).setCell (Nat.le_of_lt HG.out) _⟩
    · have hth2 := Aside0.mk (show (0, xs) = throughL vs kd l [] by
        have h := hth.out
        rw [List.drop_eq_nil_of_le (by omega)] at h
        exact h)
      obtain ⟨vl, hbl, hrl⟩ := HP.out.row
      by_cases h1 : xs.length = 1
      · obtain ⟨gl, cap, rfl, hg1, hg2, -⟩ := Kd.R_form hrl (by omega)
        have hcl : wr.cell? ⟨g, 0, none⟩ = some (.slice (some ⟨gl, 0, none⟩) xs.length cap) := (blk_cell hbl 0).trans rfl
        rw [h1] at hcl
        have hct := atT (Kd.R_reads' hrl).2.2 0 (by omega)
        have hres : r1 = tK (xs.getD 0 zT) ∧ r2 = tN (xs.getD 0 zT) ∧ r3 = tS (xs.getD 0 zT) ∧ r4 = 0 := by
          have h := HE.out
          unfold evalT at h
          rw [← hth2.out, if_pos rfl, if_pos h1] at h
          simp only [Prod.mk.injEq] at h
          exact ⟨h.1.symm, h.2.1.symm, h.2.2.1.symm, h.2.2.2.symm⟩
        obtain ⟨t, ht⟩ : ∃ t, t = xs.getD 0 zT := ⟨_, rfl⟩
        rw [← ht] at hct hres
        clear hbl hrl hg1 hg2 ht h1
        cases t with
        | num n =>
          obtain ⟨rfl, rfl, rfl, rfl⟩ := hres
          unfold thingV at hct
          go_wp2_with (fail)
          refine (num_value.calls _ _).mono ?_
          rintro e w2 ⟨rfl, hb2⟩
          have HBX := Aside0.mk (blk_below HB.out hb2)
          have HE2 := Aside0.mk ((HP.out.below hb2).bel)
          clear hb2
          have hcz0 : w2.cell? ⟨w.heap.size, 0, none⟩ = some (.int .i64 0) := (blk_cell HBX.out 0).trans rfl
          have hcz1 : w2.cell? ⟨w.heap.size, 1, none⟩ = some (.int .i64 0) := (blk_cell HBX.out 1).trans rfl
          have hcz2 : w2.cell? ⟨w.heap.size, 2, none⟩ = some (.string ⟨#[]⟩) := (blk_cell HBX.out 2).trans rfl
          have hfz0 := blk_frozen HBX.out 0
          have hfz1 := blk_frozen HBX.out 1
          have hfz2 := blk_frozen HBX.out 2
          go_wp2
          refine bodyPost_ret (results_ct rfl _ _ w.heap.size 38 #[.int .i64 0, .int .i64 r2, .string ⟨#[]⟩] (0, 0) _ rfl (blk_put (blk_put (blk_put HBX.out 0 _ rfl) 1 _ rfl) 2 _ rfl) Try.underlying38 rfl (by kernel_rfl)) rfl ?_
          exact ⟨rfl, ((HE2.out.setCell (Nat.le_of_lt HG.out) _).setCell (Nat.le_of_lt HG.out) _).setCell (Nat.le_of_lt HG.out) _⟩
        | tru b =>
          obtain ⟨rfl, rfl, rfl, rfl⟩ := hres
          unfold thingV at hct
          go_wp2_with (fail)
          refine (tru_value.calls b _).mono ?_
          rintro e w2 ⟨rfl, hb2⟩
          have HBX := Aside0.mk (blk_below HB.out hb2)
          have HE2 := Aside0.mk ((HP.out.below hb2).bel)
          clear hb2
          have hcz0 : w2.cell? ⟨w.heap.size, 0, none⟩ = some (.int .i64 0) := (blk_cell HBX.out 0).trans rfl
          have hcz1 : w2.cell? ⟨w.heap.size, 1, none⟩ = some (.int .i64 0) := (blk_cell HBX.out 1).trans rfl
          have hcz2 : w2.cell? ⟨w.heap.size, 2, none⟩ = some (.string ⟨#[]⟩) := (blk_cell HBX.out 2).trans rfl
          have hfz0 := blk_frozen HBX.out 0
          have hfz1 := blk_frozen HBX.out 1
          have hfz2 := blk_frozen HBX.out 2
          go_wp2
          refine bodyPost_ret (results_ct rfl _ _ w.heap.size 38 #[.int .i64 1, .int .i64 (b2i b), .string ⟨#[]⟩] (0, 0) _ rfl (blk_put (blk_put (blk_put HBX.out 0 _ rfl) 1 _ rfl) 2 _ rfl) Try.underlying38 rfl (by kernel_rfl)) rfl ?_
          exact ⟨rfl, ((HE2.out.setCell (Nat.le_of_lt HG.out) _).setCell (Nat.le_of_lt HG.out) _).setCell (Nat.le_of_lt HG.out) _⟩
        | oth k n s =>
          obtain ⟨rfl, rfl, rfl, rfl⟩ := hres
          unfold thingV at hct
          go_wp2_with (fail)
          refine (oth_value.calls _ _ _ _).mono ?_
          rintro e w2 ⟨rfl, hb2⟩
          have HBX := Aside0.mk (blk_below HB.out hb2)
          have HE2 := Aside0.mk ((HP.out.below hb2).bel)
          clear hb2
          have hcz0 : w2.cell? ⟨w.heap.size, 0, none⟩ = some (.int .i64 0) := (blk_cell HBX.out 0).trans rfl
          have hcz1 : w2.cell? ⟨w.heap.size, 1, none⟩ = some (.int .i64 0) := (blk_cell HBX.out 1).trans rfl
          have hcz2 : w2.cell? ⟨w.heap.size, 2, none⟩ = some (.string ⟨#[]⟩) := (blk_cell HBX.out 2).trans rfl
          have hfz0 := blk_frozen HBX.out 0
          have hfz1 := blk_frozen HBX.out 1
          have hfz2 := blk_frozen HBX.out 2
          go_wp2
          refine bodyPost_ret (results_ct rfl _ _ w.heap.size 38 #[.int .i64 r1, .int .i64 r2, .string r3] (0, 0) _ rfl (blk_put (blk_put (blk_put HBX.out 0 _ rfl) 1 _ rfl) 2 _ rfl) Try.underlying38 rfl (by kernel_rfl)) rfl ?_
          exact ⟨rfl, ((HE2.out.setCell (Nat.le_of_lt HG.out) _).setCell (Nat.le_of_lt HG.out) _).setCell (Nat.le_of_lt HG.out) _⟩
      · obtain ⟨A', c', rfl⟩ := Kd.R_slice hrl
        have hcl : wr.cell? ⟨g, 0, none⟩ = some (.slice A' xs.length c') := (blk_cell hbl 0).trans rfl
        have hres : r1 = 0 ∧ r2 = 0 ∧ r3 = ⟨#[]⟩ ∧ r4 = 2 := by
          have h := HE.out
          unfold evalT at h
          rw [← hth2.out, if_pos rfl, if_neg h1] at h
          simp only [Prod.mk.injEq] at h
          exact ⟨h.1.symm, h.2.1.symm, h.2.2.1.symm, h.2.2.2.symm⟩
        obtain ⟨rfl, rfl, rfl, rfl⟩ := hres
        have z0 : ((xs.length : Int) != 1) = true := bne_iff_ne.mpr (by omega)
        have z1 : ((xs.length : Int) == 1) = false := beq_eq_false_iff_ne.mpr (by omega)
        have z2 : (xs.length == 1) = false := beq_eq_false_iff_ne.mpr h1
        have z3 : (xs.length != 1) = true := bne_iff_ne.mpr h1
        clear hbl hrl h1
        have HBX := HB
        have hcz0 : wr.cell? ⟨w.heap.size, 0, none⟩ = some (.int .i64 0) := (blk_cell HBX.out 0).trans rfl
        have hcz1 : wr.cell? ⟨w.heap.size, 1, none⟩ = some (.int .i64 0) := (blk_cell HBX.out 1).trans rfl
        have hcz2 : wr.cell? ⟨w.heap.size, 2, none⟩ = some (.string ⟨#[]⟩) := (blk_cell HBX.out 2).trans rfl
        have hfz0 := blk_frozen HBX.out 0
        have hfz1 := blk_frozen HBX.out 1
        have hfz2 := blk_frozen HBX.out 2
        go_wp2
        refine bodyPost_ret (results_ct rfl _ _ w.heap.size 38 #[.int .i64 0, .int .i64 0, .string ⟨#[]⟩] (0, 0) _ rfl (blk_put (blk_put (blk_put HBX.out 0 _ rfl) 1 _ rfl) 2 _ rfl) Try.underlying38 rfl (by kernel_rfl)) rfl ?_
        exact ⟨rfl, ((HP.out.bel.setCell (Nat.le_of_lt HG.out) _).setCell (Nat.le_of_lt HG.out) _).setCell (Nat.le_of_lt HG.out) _⟩
end Go.Proofs.Yteommchgnocgnaa.PE
end

section
namespace Go.Proofs.Yteommchgnocgnaa.PE
open Go.RowKit Go.Proofs.YteommchgnocgnaaW.PrintWords Go.Proofs.YteommchgnocgnaaW.PrintLast Go.Proofs.YteommchgnocgnaaW.PrintMore
attribute [local go_sem high] eqA38
set_option linter.unusedVariables false
set_option linter.unusedSimpArgs false

/-- May a part of an expression be? -/
def opOk (c a k n : Int) (s : ByteArray) : Bool :=
  decide (0 ≤ c) && (decide (c < 10) && (decide (0 ≤ a) && (decide (a < 6) && ((c == 1 || a == 0) && ((c == 0 || (k == 0 && (n == 0 && s.toList.isEmpty))) && mayB k n s)))))


theorem opOk_no {c a k n : Int} {s : ByteArray} (h : c < 0 ∨ 10 ≤ c ∨ a < 0 ∨ 6 ≤ a ∨ (c ≠ 1 ∧ a ≠ 0)) : opOk c a k n s = false := by
  unfold opOk
  simp only [Bool.and_eq_false_iff, Bool.or_eq_false_iff, decide_eq_false_iff_not, beq_eq_false_iff_ne]
  rcases h with h | h | h | h | h
  · left; omega
  · right; left; omega
  · right; right; left; omega
  · right; right; right; left; omega
  · right; right; right; right; left; exact h
theorem opOk_z {c a k n : Int} {s : ByteArray} (h : c ≠ 0) (hz : (k == 0 && (n == 0 && s.toList.isEmpty)) = false) : opOk c a k n s = false := by
  unfold opOk
  rw [hz, beq_eq_false_iff_ne.mpr h]; simp
theorem opOk_yes {c a k n : Int} {s : ByteArray} (h1 : 0 ≤ c) (h2 : c < 10) (h3 : 0 ≤ a) (h4 : a < 6) (h5 : c = 1 ∨ a = 0) (hz : c = 0 ∨ (k == 0 && (n == 0 && s.toList.isEmpty)) = true) : opOk c a k n s = mayB k n s := by
  unfold opOk
  rw [decide_eq_true h1, decide_eq_true h2, decide_eq_true h3, decide_eq_true h4]
  have e5 : (c == 1 || a == 0) = true := by simpa using h5
  rw [e5]
  have e6 : (c == 0 || (k == 0 && (n == 0 && s.toList.isEmpty))) = true := by
    rcases hz with h | h
    · subst h; rfl
    · rw [h, Bool.or_true]
  rw [e6]; rfl

set_option maxHeartbeats 8000000 in
set_option maxRecDepth 100000 in
theorem expr_may1.calls (c a k n : Int) (s : ByteArray) (w : World) (R : Bool) (hR : Aside0 (R = !opOk c a k n s)) :
    Calls Try.prog 78 #[.agg #[.int .i64 c, .int .i64 a, .int .i64 k, .int .i64 n, .string s]] w fun e w' => e = .returned (.bool R) ∧ Below w.heap.size w w' := by
  have hu38 := Try.underlying38
  have hu50 := Try.underlying50
  have hB := (Below.refl w.heap.size w).alloc (Nat.le_refl _) (.cells #[.int .i64 c, .int .i64 a, .int .i64 k, .int .i64 n, .string s] 50)
  replace hB := Aside0.mk hB
  by_cases c1 : c = 1
  · subst c1
    by_cases g3 : a < 0
    · have f3 : decide (a < 0) = true := decide_eq_true g3
      have hr : R = true := by rw [hR.out, opOk_no (by omega)]; rfl
      replace hr := Aside0.mk hr; clear hR
      try clear g1
      try clear g2
      try clear g3
      try clear g4
      try clear gz
      try clear ga
      go_enter Try.func78, Try.ntmps78
      go_wp2
      go_ret
      exact ⟨by rw [hr.out]; rfl, hB.out⟩
    have f3 : decide (a < 0) = false := decide_eq_false g3
    by_cases g4 : 6 ≤ a
    · have f4 : decide (6 ≤ a) = true := decide_eq_true g4
      have hr : R = true := by rw [hR.out, opOk_no (by omega)]; rfl
      replace hr := Aside0.mk hr; clear hR
      try clear g1
      try clear g2
      try clear g3
      try clear g4
      try clear gz
      try clear ga
      go_enter Try.func78, Try.ntmps78
      go_wp2
      go_ret
      exact ⟨by rw [hr.out]; rfl, hB.out⟩
    have f4 : decide (6 ≤ a) = false := decide_eq_false g4
    cases gz : (k == 0 && (n == 0 && s.toList.isEmpty)) with
    | false =>
      have fz := gz
      have hr : R = true := by rw [hR.out, opOk_z (by omega) gz]; rfl
      replace hr := Aside0.mk hr; clear hR
      try clear g1
      try clear g2
      try clear g3
      try clear g4
      try clear gz
      try clear ga
      go_enter Try.func78, Try.ntmps78
      go_wp2
      go_ret
      exact ⟨by rw [hr.out]; rfl, hB.out⟩
    | true =>
      obtain ⟨rfl, rfl, hs⟩ : k = 0 ∧ n = 0 ∧ s.toList.isEmpty = true := by simpa using gz
      have hr : R = !mayB 0 0 s := by rw [hR.out, opOk_yes (by omega) (by omega) (by omega) (by omega) (by omega) (.inr gz)]
      replace hr := Aside0.mk hr; clear hR
      try clear g1
      try clear g2
      try clear g3
      try clear g4
      try clear gz
      try clear ga
      go_enter Try.func78, Try.ntmps78
      go_wp2_with (go_at_call 29; refine (value_May.calls _ _ _ _ _ rfl).mono ?_; rintro e w' ⟨rfl, hb⟩; replace hb := Aside0.mk (below_step hB.out hb))
      go_ret
      exact ⟨by rw [hr.out]; rfl, hb.out⟩
  have b1 : (c == 1) = false := beq_eq_false_iff_ne.mpr c1
  by_cases c0 : c = 0
  · subst c0; clear c1 b1
    by_cases g3 : a < 0
    · have f3 : decide (a < 0) = true := decide_eq_true g3
      have hr : R = true := by rw [hR.out, opOk_no (by omega)]; rfl
      replace hr := Aside0.mk hr; clear hR
      try clear g1
      try clear g2
      try clear g3
      try clear g4
      try clear gz
      try clear ga
      go_enter Try.func78, Try.ntmps78
      go_wp2
      go_ret
      exact ⟨by rw [hr.out]; rfl, hB.out⟩
    have f3 : decide (a < 0) = false := decide_eq_false g3
    by_cases g4 : 6 ≤ a
    · have f4 : decide (6 ≤ a) = true := decide_eq_true g4
      have hr : R = true := by rw [hR.out, opOk_no (by omega)]; rfl
      replace hr := Aside0.mk hr; clear hR
      try clear g1
      try clear g2
      try clear g3
      try clear g4
      try clear gz
      try clear ga
      go_enter Try.func78, Try.ntmps78
      go_wp2
      go_ret
      exact ⟨by rw [hr.out]; rfl, hB.out⟩
    have f4 : decide (6 ≤ a) = false := decide_eq_false g4
    by_cases ga : a = 0
    · subst ga; clear g3 g4 f3 f4
      have hr : R = !mayB k n s := by rw [hR.out, opOk_yes (by omega) (by omega) (by omega) (by omega) (by omega) (.inl rfl)]
      replace hr := Aside0.mk hr; clear hR
      try clear g1
      try clear g2
      try clear g3
      try clear g4
      try clear gz
      try clear ga
      go_enter Try.func78, Try.ntmps78
      go_wp2_with (go_at_call 29; refine (value_May.calls _ _ _ _ _ rfl).mono ?_; rintro e w' ⟨rfl, hb⟩; replace hb := Aside0.mk (below_step hB.out hb))
      go_ret
      exact ⟨by rw [hr.out]; rfl, hb.out⟩
    have fa : (a == 0) = false := beq_eq_false_iff_ne.mpr ga
    have hr : R = true := by rw [hR.out, opOk_no (by omega)]; rfl
    replace hr := Aside0.mk hr; clear hR
    try clear g1
    try clear g2
    try clear g3
    try clear g4
    try clear gz
    try clear ga
    go_enter Try.func78, Try.ntmps78
    go_wp2
    go_ret
    exact ⟨by rw [hr.out]; rfl, hB.out⟩
  have b0 : (c == 0) = false := beq_eq_false_iff_ne.mpr c0
  by_cases g1 : c < 0
  · have f1 : decide (c < 0) = true := decide_eq_true g1
    clear c1 c0
    have hr : R = true := by rw [hR.out, opOk_no (by omega)]; rfl
    replace hr := Aside0.mk hr; clear hR
    try clear g1
    try clear g2
    try clear g3
    try clear g4
    try clear gz
    try clear ga
    go_enter Try.func78, Try.ntmps78
    go_wp2
    go_ret
    exact ⟨by rw [hr.out]; rfl, hB.out⟩
  have f1 : decide (c < 0) = false := decide_eq_false g1
  by_cases g2 : 10 ≤ c
  · have f2 : decide (10 ≤ c) = true := decide_eq_true g2
    clear c1 c0
    have hr : R = true := by rw [hR.out, opOk_no (by omega)]; rfl
    replace hr := Aside0.mk hr; clear hR
    try clear g1
    try clear g2
    try clear g3
    try clear g4
    try clear gz
    try clear ga
    go_enter Try.func78, Try.ntmps78
    go_wp2
    go_ret
    exact ⟨by rw [hr.out]; rfl, hB.out⟩
  have f2 : decide (10 ≤ c) = false := decide_eq_false g2
  by_cases g3 : a < 0
  · have f3 : decide (a < 0) = true := decide_eq_true g3
    have hr : R = true := by rw [hR.out, opOk_no (by omega)]; rfl
    replace hr := Aside0.mk hr; clear hR
    try clear g1
    try clear g2
    try clear g3
    try clear g4
    try clear gz
    try clear ga
    go_enter Try.func78, Try.ntmps78
    go_wp2
    go_ret
    exact ⟨by rw [hr.out]; rfl, hB.out⟩
  have f3 : decide (a < 0) = false := decide_eq_false g3
  by_cases g4 : 6 ≤ a
  · have f4 : decide (6 ≤ a) = true := decide_eq_true g4
    have hr : R = true := by rw [hR.out, opOk_no (by omega)]; rfl
    replace hr := Aside0.mk hr; clear hR
    try clear g1
    try clear g2
    try clear g3
    try clear g4
    try clear gz
    try clear ga
    go_enter Try.func78, Try.ntmps78
    go_wp2
    go_ret
    exact ⟨by rw [hr.out]; rfl, hB.out⟩
  have f4 : decide (6 ≤ a) = false := decide_eq_false g4
  by_cases ga : a = 0
  case neg =>
    have fa : (a == 0) = false := beq_eq_false_iff_ne.mpr ga
    have hr : R = true := by rw [hR.out, opOk_no (by omega)]; rfl
    replace hr := Aside0.mk hr; clear hR
    try clear g1
    try clear g2
    try clear g3
    try clear g4
    try clear gz
    try clear ga
    go_enter Try.func78, Try.ntmps78
    go_wp2
    go_ret
    exact ⟨by rw [hr.out]; rfl, hB.out⟩
  subst ga; clear g3 g4 f3 f4
  cases gz : (k == 0 && (n == 0 && s.toList.isEmpty)) with
  | false =>
    have fz := gz
    have hr : R = true := by rw [hR.out, opOk_z (by omega) gz]; rfl
    replace hr := Aside0.mk hr; clear hR
    try clear g1
    try clear g2
    try clear g3
    try clear g4
    try clear gz
    try clear ga
    go_enter Try.func78, Try.ntmps78
    go_wp2
    go_ret
    exact ⟨by rw [hr.out]; rfl, hB.out⟩
  | true =>
    obtain ⟨rfl, rfl, hs⟩ : k = 0 ∧ n = 0 ∧ s.toList.isEmpty = true := by simpa using gz
    have hr : R = !mayB 0 0 s := by rw [hR.out, opOk_yes (by omega) (by omega) (by omega) (by omega) (by omega) (.inr gz)]
    replace hr := Aside0.mk hr; clear hR
    try clear g1
    try clear g2
    try clear g3
    try clear g4
    try clear gz
    try clear ga
    go_enter Try.func78, Try.ntmps78
    go_wp2_with (go_at_call 29; refine (value_May.calls _ _ _ _ _ rfl).mono ?_; rintro e w' ⟨rfl, hb⟩; replace hb := Aside0.mk (below_step hB.out hb))
    go_ret
    exact ⟨by rw [hr.out]; rfl, hb.out⟩
end Go.Proofs.Yteommchgnocgnaa.PE
end

section
namespace Go.Proofs.Yteommchgnocgnaa.PE
open Go.RowKit Go.Proofs.YteommchgnocgnaaW.PrintWords Go.Proofs.YteommchgnocgnaaW.PrintLast Go.Proofs.YteommchgnocgnaaW.PrintMore
set_option linter.unusedVariables false
set_option linter.unusedSimpArgs false

/-- The place of the first of which p says so; -1: there is none. -/
def findI {α : Type} (p : α → Bool) (l : List α) : Int := match l.findIdx? p with | some i => (i : Int) | none => -1
theorem findI_at {α : Type} {p : α → Bool} {l : List α} {z : α} {i : Nat} (hi : i < l.length) (hp : p (l.getD i z) = true) (hb : ∀ j, j < i → p (l.getD j z) = false) : findI p l = i := by
  have : l.findIdx? p = some i := by
    rw [List.findIdx?_eq_some_iff_getElem]
    refine ⟨hi, ?_, ?_⟩
    · have := hp; rwa [List.getD_eq_getElem?_getD, List.getElem?_eq_getElem hi, Option.getD_some] at this
    · intro j hj
      have := hb j hj
      rw [List.getD_eq_getElem?_getD, List.getElem?_eq_getElem (by omega), Option.getD_some] at this
      simp [this]
  unfold findI; rw [this]
theorem findI_none {α : Type} {p : α → Bool} {l : List α} {z : α} (hb : ∀ j, j < l.length → p (l.getD j z) = false) : findI p l = -1 := by
  have : l.findIdx? p = none := by
    rw [List.findIdx?_eq_none_iff]
    intro x hx
    obtain ⟨j, hj, rfl⟩ := List.getElem_of_mem hx
    have := hb j hj
    rwa [List.getD_eq_getElem?_getD, List.getElem?_eq_getElem hj, Option.getD_some] at this
  unfold findI; rw [this]
theorem findI_nn {α : Type} (p : α → Bool) (l : List α) : decide (0 ≤ findI p l) = l.any p := by
  unfold findI
  cases h : l.findIdx? p with
  | none =>
    have := List.findIdx?_eq_none_iff.1 h
    simp only []
    rw [show l.any p = false from by rw [List.any_eq_false]; intro x hx; simp [this x hx]]; rfl
  | some i =>
    obtain ⟨hi, hp, _⟩ := List.findIdx?_eq_some_iff_getElem.1 h
    simp only []
    rw [show l.any p = true from List.any_eq_true.2 ⟨_, List.getElem_mem hi, hp⟩]
    exact decide_eq_true (by omega)

def opBad (x : S50) : Bool := !opOk x.f0 x.f1 x.f2.f0 x.f2.f1 x.f2.f2
set_option maxHeartbeats 8000000 in
set_option maxRecDepth 100000 in
theorem indexOp.calls (A0 : Option Addr) (c0 : Nat) (l0 : List S50) (w : World) (hr0 : Kd.C k50 w A0 l0.length l0) (hc0 : l0.length ≤ c0) (hl : l0.length ≤ 1000) :
    Calls Try.prog 102 #[.slice A0 l0.length c0, .func (.func 78) #[] #[]] w fun e w' => e = .returned (.int .i64 (findI opBad l0)) ∧ Below w.heap.size w w' := by
  have hu50 := Try.underlying50
  have HR0 := Aside0.mk hr0
  have HC0 := Aside0.mk hc0
  clear hr0 hc0
  have HB := Aside0.mk (Below.refl w.heap.size w)
  obtain ⟨I, hI⟩ : ∃ I, I = findI opBad l0 := ⟨_, rfl⟩
  rw [← hI]
  replace hI := Aside0.mk hI
  go_enter Try.func102, Try.ntmps102
  go_wp2
  go_loopg [8] l0.length (fun kq v8 w' => ∃ (i : Nat), v8 = .int .i64 (i : Int) ∧ Aside0 (i + kq = l0.length) ∧ Aside0 (∀ j, j < i → opBad (l0.getD j z50) = false) ∧ Aside0 (Below w.heap.size w w'))
  case atStart => exact ⟨0, rfl, ⟨by omega⟩, ⟨fun j hj => absurd hj (by omega)⟩, HB⟩
  case round =>
    obtain ⟨i, rfl, hk, hall, HB⟩ := hrel
    by_cases hlt : i < l0.length
    · obtain ⟨ad, e, hx0, hx1, hx2, hx3, hx4⟩ := at_T50 HR0.out (i : Int) (by omega) (by omega)
      cases e
      rw [Int.toNat_natCast] at hx0 hx1 hx2 hx3 hx4
      have hrd : rd_T50 l0 (i : Int) = l0.getD i z50 := by unfold rd_T50; rw [Int.toNat_natCast]
      rw [hrd] at hx0 hx1 hx2 hx3 hx4
      clear hrd
      obtain ⟨x, hx⟩ : ∃ x, x = l0.getD i z50 := ⟨_, rfl⟩
      rw [← hx] at hx0 hx1 hx2 hx3 hx4
      replace hx := Aside0.mk hx
      replace hx0 := (HB.out.cell (World.block_lt_of_cell? w _ hx0)).trans hx0
      replace hx1 := (HB.out.cell (World.block_lt_of_cell? w _ hx1)).trans hx1
      replace hx2 := (HB.out.cell (World.block_lt_of_cell? w _ hx2)).trans hx2
      replace hx3 := (HB.out.cell (World.block_lt_of_cell? w _ hx3)).trans hx3
      replace hx4 := (HB.out.cell (World.block_lt_of_cell? w _ hx4)).trans hx4
      cases hp : opBad x with
      | true =>
        replace hp := Aside0.mk hp
        go_wp2_with (fail)
        refine (expr_may1.calls _ _ _ _ _ _ true ⟨hp.out.symm⟩).mono ?_
        rintro e w1 ⟨rfl, hb⟩
        replace HB := Aside0.mk (below_step HB.out hb)
        clear hb
        go_wp2
        go_ret
        have hr : I = i := by rw [hI.out]; exact findI_at (z := z50) hlt (by rw [← hx.out]; exact hp.out) hall.out
        exact ⟨by rw [hr]; rfl, HB.out⟩
      | false =>
        replace hp := Aside0.mk hp
        go_wp2_with (fail)
        refine (expr_may1.calls _ _ _ _ _ _ false ⟨hp.out.symm⟩).mono ?_
        rintro e w1 ⟨rfl, hb⟩
        replace HB := Aside0.mk (below_step HB.out hb)
        clear hb
        go_wp2
        go_roundg (gk - 1)
        case measure => have := hk.out; omega
        case rel => exact ⟨i + 1, by go_num, ⟨by have := hk.out; omega⟩, ⟨fun j hj => by
          rcases (by omega : j < i ∨ j = i) with h | h
          · exact hall.out j h
          · subst h; rw [← hx.out]; exact hp.out⟩, HB⟩
    · go_wp2
      go_ret
      have hr : I = -1 := by rw [hI.out]; exact findI_none (z := z50) (fun j hj => hall.out j (by omega))
      exact ⟨by rw [hr]; rfl, HB.out⟩

set_option maxHeartbeats 8000000 in
set_option maxRecDepth 100000 in
theorem containsOp.calls (A0 : Option Addr) (c0 : Nat) (l0 : List S50) (w : World) (hr0 : Kd.C k50 w A0 l0.length l0) (hc0 : l0.length ≤ c0) (hl : l0.length ≤ 1000) :
    Calls Try.prog 79 #[.slice A0 l0.length c0, .func (.func 78) #[] #[]] w fun e w' => e = .returned (.bool (l0.any opBad)) ∧ Below w.heap.size w w' := by
  have hn := findI_nn opBad l0
  replace hn := Aside0.mk hn
  go_enter Try.func79, Try.ntmps79
  go_wp2_with (fail)
  refine (indexOp.calls A0 c0 l0 _ hr0 hc0 hl).mono ?_
  rintro e w1 ⟨rfl, hb⟩
  obtain ⟨I, hI⟩ : ∃ I, I = findI opBad l0 := ⟨_, rfl⟩
  rw [← hI]
  go_wp2
  go_ret
  refine ⟨?_, hb⟩
  rw [← hn.out, ← hI]; rfl

def mayE (l : List S50) : Bool := decide (l.length ≤ 12) && !(l.any opBad)
def expr_may.f (l0 : List S50) : Option Bool := some (mayE l0)
set_option maxHeartbeats 8000000 in
set_option maxRecDepth 100000 in
theorem expr_may.calls (A0 : Option Addr) (c0 : Nat) (l0 : List S50) (r : Bool) (w : World) (hr0 : Kd.C k50 w A0 l0.length l0) (hc0 : l0.length ≤ c0) (h : expr_may.f l0 = some r) :
    Calls Try.prog 41 #[.slice A0 l0.length c0] w fun e w' => e = .returned (.bool r) ∧ Below w.heap.size w w' := by
  obtain rfl := Option.some.inj h
  clear h
  obtain ⟨B, hB⟩ : ∃ B, B = mayE l0 := ⟨_, rfl⟩
  rw [← hB]
  replace hB := Aside0.mk hB
  by_cases hl : l0.length ≤ 12
  · have f1 : decide (l0.length ≤ 12) = true := decide_eq_true hl
    have f2 : decide ((l0.length : Int) ≤ 12) = true := decide_eq_true (by omega)
    have hr : B = !(l0.any opBad) := by rw [hB.out]; unfold mayE; rw [f1]; rfl
    replace hr := Aside0.mk hr
    have hl2 := Aside0.mk hl
    clear hl
    go_enter Try.func41, Try.ntmps41
    go_wp2_with (fail)
    refine (containsOp.calls A0 c0 l0 _ hr0 hc0 (by have := hl2.out; omega)).mono ?_
    rintro e w1 ⟨rfl, hb⟩
    go_wp2
    go_ret
    exact ⟨by rw [hr.out]; rfl, hb⟩
  · have f1 : decide (l0.length ≤ 12) = false := decide_eq_false hl
    have f2 : decide ((l0.length : Int) ≤ 12) = false := decide_eq_false (by omega)
    have hr : B = false := by rw [hB.out]; unfold mayE; rw [f1]; rfl
    replace hr := Aside0.mk hr
    go_enter Try.func41, Try.ntmps41
    go_wp2
    go_ret
    exact ⟨by rw [hr.out]; rfl, Below.refl _ _⟩
end Go.Proofs.Yteommchgnocgnaa.PE
end

section
namespace Go.Proofs.Yteommchgnocgnaa.PE
open Go.RowKit Go.Proofs.YteommchgnocgnaaW.PrintWords Go.Proofs.YteommchgnocgnaaW.PrintLast Go.Proofs.YteommchgnocgnaaW.PrintMore
set_option linter.unusedVariables false
set_option linter.unusedSimpArgs false

/-- May a name's letter c stand at place i? -/
def okC (i : Nat) (c : Int) : Bool := if 97 ≤ c then (if c ≤ 122 then true else false) else if i = 0 then false else if c = 95 then true else if 48 ≤ c then (if c ≤ 57 then true else false) else false
theorem okC_lt {i : Nat} {c : Int} (h : okC i c = true) : c < 128 := by
  unfold okC at h
  repeat' split at h
  all_goals first | omega | (simp at h)
def nameB (s : ByteArray) : Bool := (List.range s.size).all (fun i => okC i (bt s i)) && (decide (1 ≤ s.size) && decide (s.size ≤ 12))
def schema_Name.f (a0 : ByteArray) : Option (Bool) := some (nameB a0)
theorem nameB_no {s : ByteArray} {i : Nat} (hi : i < s.size) (h : okC i (bt s i) = false) : nameB s = false := by
  unfold nameB
  rw [Bool.and_eq_false_iff]; left
  rw [List.all_eq_false]
  exact ⟨i, List.mem_range.2 hi, by simp [h]⟩
theorem nameB_end {s : ByteArray} (h : ∀ j, j < s.size → okC j (bt s j) = true) : nameB s = (decide (1 ≤ s.size) && decide (s.size ≤ 12)) := by
  unfold nameB
  have : (List.range s.size).all (fun i => okC i (bt s i)) = true := by
    rw [List.all_eq_true]; intro x hx; exact h x (List.mem_range.1 hx)
  rw [this, Bool.true_and]
theorem bytes_isEmpty (s : ByteArray) : s.toList.isEmpty = decide (s.size = 0) := by
  rw [ByteArray.toList_eq]; obtain ⟨⟨l⟩⟩ := s; cases l <;> rfl
theorem below_iter (w : World) (s : ByteArray) (p : Nat) : Below w.heap.size w (w.iter s p) := by
  unfold World.iter; exact (Below.refl _ _).alloc (Nat.le_refl _) _

set_option maxHeartbeats 8000000 in
set_option maxRecDepth 100000 in
theorem schema_Name.calls (a0 : ByteArray) (r : Bool) (w : World) (h : schema_Name.f a0 = some r) :
    Calls Try.prog 75 #[.string a0] w fun e w' => e = .returned (.bool r) ∧ Below w.heap.size w w' := by
  obtain rfl := Option.some.inj h
  clear h
  obtain ⟨B, hB⟩ : ∃ B, B = nameB a0 := ⟨_, rfl⟩
  rw [← hB]
  replace hB := Aside0.mk hB
  go_enter Try.func75, Try.ntmps75
  go_wp2
  go_loopw [] (fun w' => ∃ (pos : Nat), w' = w.iter a0 pos ∧ Aside0 (pos ≤ a0.size) ∧ Aside0 (∀ j, j < pos → okC j (bt a0 j) = true)) (fun w' => a0.size - w'.iterPos w.heap.size)
  case atStart => exact ⟨0, rfl, ⟨Nat.zero_le _⟩, ⟨fun j hj => absurd hj (by omega)⟩⟩
  case round =>
    obtain ⟨pos, rfl, hle, hall⟩ := hrel
    by_cases hp : pos < a0.size
    · obtain ⟨c, d, hnx, hc⟩ : ∃ (c : Int) (d : Nat), (∀ ty, (Instr.next (.pointer (some ⟨w.heap.size, 0, none⟩)) true ty).run Try.prog (w.iter a0 pos) = .ok (.tuple #[.bool true, .int .i64 pos, .int .i32 c]) (w.iter a0 (pos + d))) ∧ ((c = bt a0 pos ∧ d = 1) ∨ (128 ≤ c ∧ 128 ≤ bt a0 pos)) := by
        have hbt : bt a0 pos = ((a0[pos]'hp).toNat : Int) := by unfold bt; rw [dif_pos (by simpa using hp)]; rfl
        by_cases ha : (a0[pos]'hp).toNat < 128
        · exact ⟨((a0[pos]'hp).toNat : Int), 1, fun ty => run_next_ascii w a0 pos ty hp ha, .inl ⟨hbt.symm, rfl⟩⟩
        · refine ⟨((Utf8.decode a0 pos).1 : Int), (Utf8.decode a0 pos).2, fun ty => run_next_any w a0 pos ty hp, .inr ⟨?_, ?_⟩⟩
          · have := (decode_high a0 pos hp (by omega)).1; omega
          · rw [hbt]; omega
      replace hc := Aside0.mk hc
      have hbad : okC pos c = false → B = false := by
        intro hok
        rw [hB.out]
        rcases hc.out with ⟨rfl, rfl⟩ | ⟨h1, h2⟩
        · exact nameB_no hp hok
        · refine nameB_no hp ?_
          cases hq : okC pos (bt a0 pos) with
          | false => rfl
          | true => have := okC_lt hq; omega
      replace hbad := Aside0.mk hbad
      go_wp2
      all_goals first
        | (go_ret
           have hb1 := hbad.out (by unfold okC; (repeat' split) <;> first | rfl | (exfalso; omega) | (exfalso; simp at *; omega))
           exact ⟨by rw [hb1]; rfl, below_iter w a0 _⟩)
        | (have hok : okC pos c = true := by unfold okC; (repeat' split) <;> first | rfl | (exfalso; omega) | (exfalso; simp at *; omega)
           obtain ⟨hc1, rfl⟩ : c = bt a0 pos ∧ d = 1 := by
             rcases hc.out with h | ⟨h1, h2⟩
             · exact h
             · have := okC_lt hok; omega
           go_roundw
           case rel => exact ⟨pos + 1, rfl, ⟨hp⟩, ⟨fun j hj => by
             rcases (by omega : j < pos ∨ j = pos) with h | h
             · exact hall.out j h
             · subst h; rw [← hc1]; exact hok⟩⟩
           case measure => simp; omega)
    · have hnx : ∀ ty, (Instr.next (.pointer (some ⟨w.heap.size, 0, none⟩)) true ty).run Try.prog (w.iter a0 pos) = _ := fun ty => run_next_end w a0 pos ty hp
      have hr : B = (!a0.toList.isEmpty && decide ((a0.size : Int) ≤ 12)) := by
        rw [hB.out, nameB_end (fun j hj => hall.out j (by omega)), bytes_isEmpty]
        by_cases hz : a0.size = 0
        · simp [hz]
        · have h1 : decide (1 ≤ a0.size) = true := decide_eq_true (by omega)
          rw [h1, decide_eq_false hz, Bool.true_and, Bool.not_false, Bool.true_and]
          exact decide_eq_decide.2 (by omega)
      replace hr := Aside0.mk hr
      cases hz : a0.toList.isEmpty with
      | true =>
        have hr2 : B = false := by rw [hr.out, hz]; rfl
        have hz1 := List.isEmpty_iff.1 hz
        subst hr2
        go_wp2
        go_ret
        exact ⟨rfl, below_iter w a0 _⟩
      | false =>
        have hr2 : B = decide ((a0.size : Int) ≤ 12) := by rw [hr.out, hz]; rfl
        have hr3 := Aside0.mk hr2
        clear hr2
        go_wp2
        go_ret
        rw [hr3.out]
        exact ⟨rfl, below_iter w a0 _⟩
end Go.Proofs.Yteommchgnocgnaa.PE
end

section
namespace Go.Proofs.Yteommchgnocgnaa.PE
open Go.RowKit Go.Proofs.YteommchgnocgnaaW.PrintWords Go.Proofs.YteommchgnocgnaaW.PrintLast Go.Proofs.YteommchgnocgnaaW.PrintMore
set_option linter.unusedVariables false
set_option linter.unusedSimpArgs false

set_option maxHeartbeats 8000000 in
set_option maxRecDepth 100000 in
theorem event_may1.calls (k n : Int) (s : ByteArray) (w : World) (R : Bool) (hR : Aside0 (R = !mayB k n s)) :
    Calls Try.prog 85 #[.agg #[.int .i64 k, .int .i64 n, .string s]] w fun e w' => e = .returned (.bool R) ∧ Below w.heap.size w w' := by
  have hu38 := Try.underlying38
  have hB := (Below.refl w.heap.size w).alloc (Nat.le_refl _) (.cells #[.int .i64 k, .int .i64 n, .string s] 38)
  go_enter Try.func85, Try.ntmps85
  go_wp2_with (fail)
  refine (value_May.calls k n s _ _ rfl).mono ?_
  rintro e w1 ⟨rfl, hb⟩
  replace hb := Aside0.mk (below_step hB hb)
  clear hB
  go_wp2
  go_ret
  exact ⟨by rw [hR.out]; rfl, hb.out⟩

def valBad (x : S38) : Bool := !mayB x.f0 x.f1 x.f2
set_option maxHeartbeats 8000000 in
set_option maxRecDepth 100000 in
theorem indexVal.calls (A0 : Option Addr) (c0 : Nat) (l0 : List S38) (w : World) (hr0 : Kd.C k38 w A0 l0.length l0) (hc0 : l0.length ≤ c0) (hl : l0.length ≤ 1000) :
    Calls Try.prog 112 #[.slice A0 l0.length c0, .func (.func 85) #[] #[]] w fun e w' => e = .returned (.int .i64 (findI valBad l0)) ∧ Below w.heap.size w w' := by
  have hu38 := Try.underlying38
  have HR0 := Aside0.mk hr0
  have HC0 := Aside0.mk hc0
  clear hr0 hc0
  have HB := Aside0.mk (Below.refl w.heap.size w)
  obtain ⟨I, hI⟩ : ∃ I, I = findI valBad l0 := ⟨_, rfl⟩
  rw [← hI]
  replace hI := Aside0.mk hI
  go_enter Try.func112, Try.ntmps112
  go_wp2
  go_loopg [8] l0.length (fun kq v8 w' => ∃ (i : Nat), v8 = .int .i64 (i : Int) ∧ Aside0 (i + kq = l0.length) ∧ Aside0 (∀ j, j < i → valBad (l0.getD j z38) = false) ∧ Aside0 (Below w.heap.size w w'))
  case atStart => exact ⟨0, rfl, ⟨by omega⟩, ⟨fun j hj => absurd hj (by omega)⟩, HB⟩
  case round =>
    obtain ⟨i, rfl, hk, hall, HB⟩ := hrel
    by_cases hlt : i < l0.length
    · obtain ⟨ad, e, hx0, hx1, hx2⟩ := at_T38 HR0.out (i : Int) (by omega) (by omega)
      cases e
      rw [Int.toNat_natCast] at hx0 hx1 hx2
      have hrd : rd_T38 l0 (i : Int) = l0.getD i z38 := by unfold rd_T38; rw [Int.toNat_natCast]
      rw [hrd] at hx0 hx1 hx2
      clear hrd
      obtain ⟨x, hx⟩ : ∃ x, x = l0.getD i z38 := ⟨_, rfl⟩
      rw [← hx] at hx0 hx1 hx2
      replace hx := Aside0.mk hx
      replace hx0 := (HB.out.cell (World.block_lt_of_cell? w _ hx0)).trans hx0
      replace hx1 := (HB.out.cell (World.block_lt_of_cell? w _ hx1)).trans hx1
      replace hx2 := (HB.out.cell (World.block_lt_of_cell? w _ hx2)).trans hx2
      cases hp : valBad x with
      | true =>
        replace hp := Aside0.mk hp
        go_wp2_with (fail)
        refine (event_may1.calls _ _ _ _ true ⟨hp.out.symm⟩).mono ?_
        rintro e w1 ⟨rfl, hb⟩
        replace HB := Aside0.mk (below_step HB.out hb)
        clear hb
        go_wp2
        go_ret
        have hr : I = i := by rw [hI.out]; exact findI_at (z := z38) hlt (by rw [← hx.out]; exact hp.out) hall.out
        exact ⟨by rw [hr]; rfl, HB.out⟩
      | false =>
        replace hp := Aside0.mk hp
        go_wp2_with (fail)
        refine (event_may1.calls _ _ _ _ false ⟨hp.out.symm⟩).mono ?_
        rintro e w1 ⟨rfl, hb⟩
        replace HB := Aside0.mk (below_step HB.out hb)
        clear hb
        go_wp2
        go_roundg (gk - 1)
        case measure => have := hk.out; omega
        case rel => exact ⟨i + 1, by go_num, ⟨by have := hk.out; omega⟩, ⟨fun j hj => by
          rcases (by omega : j < i ∨ j = i) with h | h
          · exact hall.out j h
          · subst h; rw [← hx.out]; exact hp.out⟩, HB⟩
    · go_wp2
      go_ret
      have hr : I = -1 := by rw [hI.out]; exact findI_none (z := z38) (fun j hj => hall.out j (by omega))
      exact ⟨by rw [hr]; rfl, HB.out⟩

set_option maxHeartbeats 8000000 in
set_option maxRecDepth 100000 in
theorem containsVal.calls (A0 : Option Addr) (c0 : Nat) (l0 : List S38) (w : World) (hr0 : Kd.C k38 w A0 l0.length l0) (hc0 : l0.length ≤ c0) (hl : l0.length ≤ 1000) :
    Calls Try.prog 86 #[.slice A0 l0.length c0, .func (.func 85) #[] #[]] w fun e w' => e = .returned (.bool (l0.any valBad)) ∧ Below w.heap.size w w' := by
  have hn := findI_nn valBad l0
  replace hn := Aside0.mk hn
  go_enter Try.func86, Try.ntmps86
  go_wp2_with (fail)
  refine (indexVal.calls A0 c0 l0 _ hr0 hc0 hl).mono ?_
  rintro e w1 ⟨rfl, hb⟩
  obtain ⟨I, hI⟩ : ∃ I, I = findI valBad l0 := ⟨_, rfl⟩
  rw [← hI]
  go_wp2
  go_ret
  refine ⟨?_, hb⟩
  rw [← hn.out, ← hI]; rfl


def mayEv (name : ByteArray) (at_ : Int) (l : List S38) : Bool := nameB name && (decide (0 ≤ at_) && (decide (at_ ≤ 1125899906842624) && (decide (l.length ≤ 6) && !(l.any valBad))))
def event_May.f (a0_0 : ByteArray) (a0_1 : Int) (l0_2 : List S38) : Option Bool := some (mayEv a0_0 a0_1 l0_2)
set_option maxHeartbeats 8000000 in
set_option maxRecDepth 100000 in
theorem event_May.calls (a0_0 : ByteArray) (a0_1 : Int) (A0_2 : Option Addr) (c0_2 : Nat) (l0_2 : List S38) (r : Bool) (w : World) (hr0_2 : Kd.C k38 w A0_2 l0_2.length l0_2) (hc0_2 : l0_2.length ≤ c0_2) (h : event_May.f a0_0 a0_1 l0_2 = some r) :
    Calls Try.prog 46 #[.agg #[.string a0_0, .int .i64 a0_1, .slice A0_2 l0_2.length c0_2]] w fun e w' => e = .returned (.bool r) ∧ Below w.heap.size w w' := by
  obtain rfl := Option.some.inj h
  clear h
  have hu27 := Try.underlying27
  obtain ⟨B, hB⟩ : ∃ B, B = mayEv a0_0 a0_1 l0_2 := ⟨_, rfl⟩
  rw [← hB]
  replace hB := Aside0.mk hB
  have HR := Aside0.mk hr0_2
  have HC := Aside0.mk hc0_2
  have HB := Aside0.mk ((Below.refl w.heap.size w).alloc (Nat.le_refl _) (.cells #[.string a0_0, .int .i64 a0_1, .slice A0_2 l0_2.length c0_2] 27))
  have hcz0 : (w.alloc (.cells #[.string a0_0, .int .i64 a0_1, .slice A0_2 l0_2.length c0_2] 27)).cell? ⟨w.heap.size, 1, none⟩ = some (.int .i64 a0_1) := by rw [World.cell?_alloc_at _ _ _ _ rfl]; rfl
  have hcz1 : (w.alloc (.cells #[.string a0_0, .int .i64 a0_1, .slice A0_2 l0_2.length c0_2] 27)).cell? ⟨w.heap.size, 2, none⟩ = some (.slice A0_2 l0_2.length c0_2) := by rw [World.cell?_alloc_at _ _ _ _ rfl]; rfl
  replace hcz0 := Aside0.mk hcz0
  replace hcz1 := Aside0.mk hcz1
  clear hr0_2 hc0_2
  cases hn : nameB a0_0 with
  | false =>
    have hr : B = false := by rw [hB.out]; unfold mayEv; rw [hn]; rfl
    replace hr := Aside0.mk hr
    replace hn := Aside0.mk hn
    go_enter Try.func46, Try.ntmps46
    go_wp2_with (fail)
    refine (schema_Name.calls a0_0 false _ (by unfold schema_Name.f; rw [hn.out])).mono ?_
    rintro e w1 ⟨rfl, hb⟩
    replace HB := Aside0.mk (below_step HB.out hb)
    clear hb
    go_wp2
    go_ret
    exact ⟨by rw [hr.out]; rfl, HB.out⟩
  | true =>
    have hr : B = (decide (0 ≤ a0_1) && (decide (a0_1 ≤ 1125899906842624) && (decide (l0_2.length ≤ 6) && !(l0_2.any valBad)))) := by rw [hB.out]; unfold mayEv; rw [hn]; rfl
    replace hr := Aside0.mk hr
    replace hn := Aside0.mk hn
    clear hB
    by_cases g1 : 0 ≤ a0_1
    case neg =>
      have f1 : decide (0 ≤ a0_1) = false := decide_eq_false g1
      have hr2 := Aside0.mk (show B = false by rw [hr.out, f1]; rfl)
      clear hr g1
      go_enter Try.func46, Try.ntmps46
      go_wp2_with (fail)
      refine (schema_Name.calls a0_0 true _ (by unfold schema_Name.f; rw [hn.out])).mono ?_
      rintro e w1 ⟨rfl, hb⟩
      have hc1 := (hb.cell (p := ⟨_, 1, none⟩) (by simp)).trans hcz0.out
      replace HB := Aside0.mk (below_step HB.out hb)
      clear hb
      go_wp2
      go_ret
      exact ⟨by rw [hr2.out]; rfl, HB.out⟩
    have f1 : decide (0 ≤ a0_1) = true := decide_eq_true g1
    by_cases g2 : a0_1 ≤ 1125899906842624
    case neg =>
      have f2 : decide (a0_1 ≤ 1125899906842624) = false := decide_eq_false g2
      have hr2 := Aside0.mk (show B = false by rw [hr.out, f1, f2]; rfl)
      clear hr g1 g2
      go_enter Try.func46, Try.ntmps46
      go_wp2_with (fail)
      refine (schema_Name.calls a0_0 true _ (by unfold schema_Name.f; rw [hn.out])).mono ?_
      rintro e w1 ⟨rfl, hb⟩
      have hc1 := (hb.cell (p := ⟨_, 1, none⟩) (by simp)).trans hcz0.out
      replace HB := Aside0.mk (below_step HB.out hb)
      clear hb
      go_wp2
      go_ret
      exact ⟨by rw [hr2.out]; rfl, HB.out⟩
    have f2 : decide (a0_1 ≤ 1125899906842624) = true := decide_eq_true g2
    by_cases g3 : l0_2.length ≤ 6
    case neg =>
      have f3 : decide (l0_2.length ≤ 6) = false := decide_eq_false g3
      have f4 : decide ((l0_2.length : Int) ≤ 6) = false := decide_eq_false (by omega)
      have hr2 := Aside0.mk (show B = false by rw [hr.out, f1, f2, f3]; rfl)
      clear hr g1 g2 g3
      go_enter Try.func46, Try.ntmps46
      go_wp2_with (fail)
      refine (schema_Name.calls a0_0 true _ (by unfold schema_Name.f; rw [hn.out])).mono ?_
      rintro e w1 ⟨rfl, hb⟩
      have hc1 := (hb.cell (p := ⟨_, 1, none⟩) (by simp)).trans hcz0.out
      have hc2 := (hb.cell (p := ⟨_, 2, none⟩) (by simp)).trans hcz1.out
      replace HB := Aside0.mk (below_step HB.out hb)
      clear hb
      go_wp2
      go_ret
      exact ⟨by rw [hr2.out]; rfl, HB.out⟩
    have f3 : decide (l0_2.length ≤ 6) = true := decide_eq_true g3
    have f4 : decide ((l0_2.length : Int) ≤ 6) = true := decide_eq_true (by omega)
    have hr2 := Aside0.mk (show B = !(l0_2.any valBad) by rw [hr.out, f1, f2, f3]; rfl)
    have G3 := Aside0.mk g3
    clear hr g1 g2 g3
    go_enter Try.func46, Try.ntmps46
    go_wp2_with (fail)
    refine (schema_Name.calls a0_0 true _ (by unfold schema_Name.f; rw [hn.out])).mono ?_
    rintro e w1 ⟨rfl, hb⟩
    have hc1 := (hb.cell (p := ⟨_, 1, none⟩) (by simp)).trans hcz0.out
    have hc2 := (hb.cell (p := ⟨_, 2, none⟩) (by simp)).trans hcz1.out
    replace HB := Aside0.mk (below_step HB.out hb)
    clear hb
    go_wp2_with (fail)
    refine (containsVal.calls A0_2 c0_2 l0_2 _ (Kd.C_below HR.out HB.out) HC.out (by have := G3.out; omega)).mono ?_
    rintro e w2 ⟨rfl, hb⟩
    replace HB := Aside0.mk (below_step HB.out hb)
    clear hb
    go_wp2
    go_ret
    exact ⟨by rw [hr2.out]; rfl, HB.out⟩
end Go.Proofs.Yteommchgnocgnaa.PE
end

section
namespace Go.Proofs.Yteommchgnocgnaa.PE
open Go.RowKit Go.Proofs.YteommchgnocgnaaW.PrintWords Go.Proofs.YteommchgnocgnaaW.PrintLast Go.Proofs.YteommchgnocgnaaW.PrintMore
set_option linter.unusedVariables false
set_option linter.unusedSimpArgs false

set_option maxHeartbeats 8000000 in
set_option maxRecDepth 100000 in
theorem schema_may1.calls (gn : ByteArray) (gk : Int) (nm : ByteArray) (kk : Int) (fb : Nat) {w : World} (R : Bool) (hR : Aside0 (R = (gn.toList == nm.toList))) (hfb : w.heap[fb]? = some (.cells #[.string nm, .int .i64 kk] 78 (0, 0))) :
    Calls Try.prog 77 #[.agg #[.string gn, .int .i64 gk], .pointer (some ⟨fb, 0, none⟩)] w fun e w' => e = .returned (.bool R) ∧ Below w.heap.size w w' := by
  have hu78 := Try.underlying78
  have hB := (Below.refl w.heap.size w).alloc (Nat.le_refl _) (.cells #[.string gn, .int .i64 gk] 78)
  replace hB := Aside0.mk hB
  have hc : (w.alloc (.cells #[.string gn, .int .i64 gk] 78)).cell? ⟨fb, 0, none⟩ = some (.string nm) := (blk_cell (blk_alloc hfb _) 0).trans rfl
  clear hfb
  go_enter Try.func77, Try.ntmps77
  go_wp2
  go_ret
  exact ⟨by rw [hR.out]; rfl, hB.out⟩

def sameName (n : ByteArray) (x : S78) : Bool := x.f0.toList == n.toList
set_option maxHeartbeats 8000000 in
set_option maxRecDepth 100000 in
theorem indexField.calls (A0 : Option Addr) (c0 : Nat) (l0 : List S78) (w : World) (hr0 : Kd.C k78 w A0 l0.length l0) (hc0 : l0.length ≤ c0) (hl : l0.length ≤ 1000) (nm : ByteArray) (kk : Int) (fb : Nat) (hfb : w.heap[fb]? = some (.cells #[.string nm, .int .i64 kk] 78 (0, 0))) :
    Calls Try.prog 101 #[.slice A0 l0.length c0, .func (.func 77) #[] #[.pointer (some ⟨fb, 0, none⟩)]] w fun e w' => e = .returned (.int .i64 (findI (sameName nm) l0)) ∧ Below w.heap.size w w' := by
  have hu78 := Try.underlying78
  have HR0 := Aside0.mk hr0
  have HC0 := Aside0.mk hc0
  clear hr0 hc0
  have HB := Aside0.mk (Below.refl w.heap.size w)
  obtain ⟨I, hI⟩ : ∃ I, I = findI (sameName nm) l0 := ⟨_, rfl⟩
  rw [← hI]
  replace hI := Aside0.mk hI
  have hfb2 := Aside0.mk hfb
  clear hfb
  go_enter Try.func101, Try.ntmps101
  go_wp2
  go_loopg [8] l0.length (fun kq v8 w' => ∃ (i : Nat), v8 = .int .i64 (i : Int) ∧ Aside0 (i + kq = l0.length) ∧ Aside0 (∀ j, j < i → (sameName nm) (l0.getD j z78) = false) ∧ Aside0 (Below w.heap.size w w'))
  case atStart => exact ⟨0, rfl, ⟨by omega⟩, ⟨fun j hj => absurd hj (by omega)⟩, HB⟩
  case round =>
    obtain ⟨i, rfl, hk, hall, HB⟩ := hrel
    by_cases hlt : i < l0.length
    · obtain ⟨ad, e, hx0, hx1⟩ := at_T78 HR0.out (i : Int) (by omega) (by omega)
      cases e
      rw [Int.toNat_natCast] at hx0 hx1
      have hrd : rd_T78 l0 (i : Int) = l0.getD i z78 := by unfold rd_T78; rw [Int.toNat_natCast]
      rw [hrd] at hx0 hx1
      clear hrd
      obtain ⟨x, hx⟩ : ∃ x, x = l0.getD i z78 := ⟨_, rfl⟩
      rw [← hx] at hx0 hx1
      replace hx := Aside0.mk hx
      replace hx0 := (HB.out.cell (World.block_lt_of_cell? w _ hx0)).trans hx0
      replace hx1 := (HB.out.cell (World.block_lt_of_cell? w _ hx1)).trans hx1
      cases hp : (sameName nm) x with
      | true =>
        replace hp := Aside0.mk hp
        go_wp2_with (fail)
        refine (schema_may1.calls _ _ _ _ _ true ⟨hp.out.symm⟩ (blk_below hfb2.out HB.out)).mono ?_
        rintro e w1 ⟨rfl, hb⟩
        replace HB := Aside0.mk (below_step HB.out hb)
        clear hb
        go_wp2
        go_ret
        have hr : I = i := by rw [hI.out]; exact findI_at (z := z78) hlt (by rw [← hx.out]; exact hp.out) hall.out
        exact ⟨by rw [hr]; rfl, HB.out⟩
      | false =>
        replace hp := Aside0.mk hp
        go_wp2_with (fail)
        refine (schema_may1.calls _ _ _ _ _ false ⟨hp.out.symm⟩ (blk_below hfb2.out HB.out)).mono ?_
        rintro e w1 ⟨rfl, hb⟩
        replace HB := Aside0.mk (below_step HB.out hb)
        clear hb
        go_wp2
        go_roundg (gk - 1)
        case measure => have := hk.out; omega
        case rel => exact ⟨i + 1, by go_num, ⟨by have := hk.out; omega⟩, ⟨fun j hj => by
          rcases (by omega : j < i ∨ j = i) with h | h
          · exact hall.out j h
          · subst h; rw [← hx.out]; exact hp.out⟩, HB⟩
    · go_wp2
      go_ret
      have hr : I = -1 := by rw [hI.out]; exact findI_none (z := z78) (fun j hj => hall.out j (by omega))
      exact ⟨by rw [hr]; rfl, HB.out⟩

set_option maxHeartbeats 8000000 in
set_option maxRecDepth 100000 in
theorem containsField.calls (A0 : Option Addr) (c0 : Nat) (l0 : List S78) (w : World) (hr0 : Kd.C k78 w A0 l0.length l0) (hc0 : l0.length ≤ c0) (hl : l0.length ≤ 1000) (nm : ByteArray) (kk : Int) (fb : Nat) (hfb : w.heap[fb]? = some (.cells #[.string nm, .int .i64 kk] 78 (0, 0))) :
    Calls Try.prog 76 #[.slice A0 l0.length c0, .func (.func 77) #[] #[.pointer (some ⟨fb, 0, none⟩)]] w fun e w' => e = .returned (.bool (l0.any (sameName nm))) ∧ Below w.heap.size w w' := by
  have hn := findI_nn (sameName nm) l0
  replace hn := Aside0.mk hn
  go_enter Try.func76, Try.ntmps76
  go_wp2_with (fail)
  refine (indexField.calls A0 c0 l0 _ hr0 hc0 hl nm kk fb hfb).mono ?_
  rintro e w1 ⟨rfl, hb⟩
  obtain ⟨I, hI⟩ : ∃ I, I = findI (sameName nm) l0 := ⟨_, rfl⟩
  rw [← hI]
  go_wp2
  go_ret
  refine ⟨?_, hb⟩
  rw [← hn.out, ← hI]; rfl


def fieldOk (l : List S78) (i : Nat) : Bool := !((l.take i).any (sameName (l.getD i z78).f0)) && (nameB (l.getD i z78).f0 && (decide (0 ≤ (l.getD i z78).f1) && decide ((l.getD i z78).f1 < 4)))
def maySc (nm : ByteArray) (ver : Int) (l : List S78) : Bool := nameB nm && (decide (1 ≤ ver) && (decide (ver ≤ 1000) && (decide (l.length ≤ 6) && (List.range l.length).all (fieldOk l))))
def schema_May.f (a0_0 : ByteArray) (a0_1 : Int) (l0_2 : List S78) : Option Bool := some (maySc a0_0 a0_1 l0_2)
theorem range_all_no {p : Nat → Bool} {n i : Nat} (hi : i < n) (h : p i = false) : (List.range n).all p = false := by
  rw [List.all_eq_false]; exact ⟨i, List.mem_range.2 hi, by simp [h]⟩
theorem range_all_yes {p : Nat → Bool} {n : Nat} (h : ∀ i, i < n → p i = true) : (List.range n).all p = true := by
  rw [List.all_eq_true]; intro x hx; exact h x (List.mem_range.1 hx)

set_option maxHeartbeats 16000000 in
set_option maxRecDepth 100000 in
theorem schema_May.calls (a0_0 : ByteArray) (a0_1 : Int) (A0_2 : Option Addr) (c0_2 : Nat) (l0_2 : List S78) (r : Bool) (w : World) (hr0_2 : Kd.C k78 w A0_2 l0_2.length l0_2) (hc0_2 : l0_2.length ≤ c0_2) (h : schema_May.f a0_0 a0_1 l0_2 = some r) :
    Calls Try.prog 40 #[.agg #[.string a0_0, .int .i64 a0_1, .slice A0_2 l0_2.length c0_2]] w fun e w' => e = .returned (.bool r) ∧ Below w.heap.size w w' := by
  obtain rfl := Option.some.inj h
  clear h
  have hu24 := Try.underlying24
  have hu78 := Try.underlying78
  have hmf : ∀ (fn : Fn) (first cap : Array Value) (w : World), (Instr.makeFunc fn first cap).run Try.prog w = .ok (.func fn first cap) w := fun _ _ _ _ => rfl
  obtain ⟨B, hB⟩ : ∃ B, B = maySc a0_0 a0_1 l0_2 := ⟨_, rfl⟩
  rw [← hB]
  replace hB := Aside0.mk hB
  have HR := Aside0.mk hr0_2
  have HC := Aside0.mk hc0_2
  have HB := Aside0.mk ((Below.refl w.heap.size w).alloc (Nat.le_refl _) (.cells #[.string a0_0, .int .i64 a0_1, .slice A0_2 l0_2.length c0_2] 24))
  have BK := Aside0.mk (blk_new w (.cells #[.string a0_0, .int .i64 a0_1, .slice A0_2 l0_2.length c0_2] 24))
  clear hr0_2 hc0_2
  cases hn : nameB a0_0 with
  | false =>
    have hr : B = false := by rw [hB.out]; unfold maySc; rw [hn]; rfl
    replace hr := Aside0.mk hr
    replace hn := Aside0.mk hn
    go_enter Try.func40, Try.ntmps40
    go_wp2_with (fail)
    refine (schema_Name.calls a0_0 false _ (by unfold schema_Name.f; rw [hn.out])).mono ?_
    rintro e w1 ⟨rfl, hb⟩
    replace HB := Aside0.mk (below_step HB.out hb)
    clear hb
    go_wp2
    go_ret
    exact ⟨by rw [hr.out]; rfl, HB.out⟩
  | true =>
    have hr : B = (decide (1 ≤ a0_1) && (decide (a0_1 ≤ 1000) && (decide (l0_2.length ≤ 6) && (List.range l0_2.length).all (fieldOk l0_2)))) := by rw [hB.out]; unfold maySc; rw [hn]; rfl
    replace hr := Aside0.mk hr
    replace hn := Aside0.mk hn
    clear hB
    by_cases g1 : a0_1 < 1
    · have f1 : decide (a0_1 < 1) = true := decide_eq_true g1
      have hr2 := Aside0.mk (show B = false by rw [hr.out, decide_eq_false (by omega)]; rfl)
      clear hr g1
      go_enter Try.func40, Try.ntmps40
      go_wp2_with (fail)
      refine (schema_Name.calls a0_0 true _ (by unfold schema_Name.f; rw [hn.out])).mono ?_
      rintro e w1 ⟨rfl, hb⟩
      have hc1 : w1.cell? ⟨w.heap.size, 1, none⟩ = some (.int .i64 a0_1) := (blk_cell (blk_below BK.out hb) 1).trans rfl
      replace HB := Aside0.mk (below_step HB.out hb)
      clear hb
      go_wp2
      go_ret
      exact ⟨by rw [hr2.out]; rfl, HB.out⟩
    have f1 : decide (a0_1 < 1) = false := decide_eq_false g1
    by_cases g2 : 1000 < a0_1
    · have f2 : decide (1000 < a0_1) = true := decide_eq_true g2
      have hr2 := Aside0.mk (show B = false by rw [hr.out, decide_eq_false (p := a0_1 ≤ 1000) (by omega)]; simp)
      clear hr g1 g2
      go_enter Try.func40, Try.ntmps40
      go_wp2_with (fail)
      refine (schema_Name.calls a0_0 true _ (by unfold schema_Name.f; rw [hn.out])).mono ?_
      rintro e w1 ⟨rfl, hb⟩
      have hc1 : w1.cell? ⟨w.heap.size, 1, none⟩ = some (.int .i64 a0_1) := (blk_cell (blk_below BK.out hb) 1).trans rfl
      replace HB := Aside0.mk (below_step HB.out hb)
      clear hb
      go_wp2
      go_ret
      exact ⟨by rw [hr2.out]; rfl, HB.out⟩
    have f2 : decide (1000 < a0_1) = false := decide_eq_false g2
    by_cases g3 : 6 < l0_2.length
    · have f3 : decide (6 < l0_2.length) = true := decide_eq_true g3
      have f4 : decide (6 < (l0_2.length : Int)) = true := decide_eq_true (by omega)
      have hr2 := Aside0.mk (show B = false by rw [hr.out, decide_eq_false (p := l0_2.length ≤ 6) (by omega)]; simp)
      clear hr g1 g2 g3
      go_enter Try.func40, Try.ntmps40
      go_wp2_with (fail)
      refine (schema_Name.calls a0_0 true _ (by unfold schema_Name.f; rw [hn.out])).mono ?_
      rintro e w1 ⟨rfl, hb⟩
      have hc1 : w1.cell? ⟨w.heap.size, 1, none⟩ = some (.int .i64 a0_1) := (blk_cell (blk_below BK.out hb) 1).trans rfl
      have hc2 : w1.cell? ⟨w.heap.size, 2, none⟩ = some (.slice A0_2 l0_2.length c0_2) := (blk_cell (blk_below BK.out hb) 2).trans rfl
      replace HB := Aside0.mk (below_step HB.out hb)
      clear hb
      go_wp2
      go_ret
      exact ⟨by rw [hr2.out]; rfl, HB.out⟩
    have f3 : decide (6 < l0_2.length) = false := decide_eq_false g3
    have f4 : decide (6 < (l0_2.length : Int)) = false := decide_eq_false (by omega)
    have hr2 := Aside0.mk (show B = (List.range l0_2.length).all (fieldOk l0_2) by rw [hr.out, decide_eq_true (p := 1 ≤ a0_1) (by omega), decide_eq_true (p := a0_1 ≤ 1000) (by omega), decide_eq_true (p := l0_2.length ≤ 6) (by omega)]; rfl)
    have G3 := Aside0.mk g3
    clear hr g1 g2 g3
    go_enter Try.func40, Try.ntmps40
    go_wp2_with (fail)
    refine (schema_Name.calls a0_0 true _ (by unfold schema_Name.f; rw [hn.out])).mono ?_
    rintro e w1 ⟨rfl, hb⟩
    have hc1 : w1.cell? ⟨w.heap.size, 1, none⟩ = some (.int .i64 a0_1) := (blk_cell (blk_below BK.out hb) 1).trans rfl
    have hc2 : w1.cell? ⟨w.heap.size, 2, none⟩ = some (.slice A0_2 l0_2.length c0_2) := (blk_cell (blk_below BK.out hb) 2).trans rfl
    replace HB := Aside0.mk (below_step HB.out hb)
    replace BK := Aside0.mk (blk_below BK.out hb)
    clear hb
    go_wp2
    go_loopg [29] 6 (fun kq v29 w' => ∃ (i : Nat), v29 = .int .i64 (i : Int) ∧ Aside0 (i ≤ l0_2.length) ∧ Aside0 (i + kq = 6) ∧ Aside0 (∀ j, j < i → fieldOk l0_2 j = true) ∧ Aside0 (Below w.heap.size w w') ∧ Aside0 (w'.heap[w.heap.size]? = some (.cells #[.string a0_0, .int .i64 a0_1, .slice A0_2 l0_2.length c0_2] 24 (0, 0))))
    case atStart => exact ⟨0, rfl, ⟨by omega⟩, ⟨by omega⟩, ⟨fun j hj => absurd hj (by omega)⟩, HB, BK⟩
    case round =>
      clear hc1 hc2 HB BK
      obtain ⟨i, rfl, hle, hk, hall, HB, BK⟩ := hrel
      by_cases hlt : i < l0_2.length
      · have hc2 : wr.cell? ⟨w.heap.size, 2, none⟩ = some (.slice A0_2 l0_2.length c0_2) := (blk_cell BK.out 2).trans rfl
        obtain ⟨ad, e, hx0, hx1⟩ := at_T78 HR.out (i : Int) (by omega) (by omega)
        cases e
        rw [Int.toNat_natCast] at hx0 hx1
        have hrd : rd_T78 l0_2 (i : Int) = l0_2.getD i z78 := by unfold rd_T78; rw [Int.toNat_natCast]
        rw [hrd] at hx0 hx1
        clear hrd
        obtain ⟨x, hx⟩ : ∃ x, x = l0_2.getD i z78 := ⟨_, rfl⟩
        rw [← hx] at hx0 hx1
        have hG3 := Aside0.mk (show l0_2.length ≤ 6 by have := G3.out; omega)
        have hcap : i ≤ c0_2 := by have := HC.out; omega
        have hfo : fieldOk l0_2 i = (!((l0_2.take i).any (sameName x.f0)) && (nameB x.f0 && (decide (0 ≤ x.f1) && decide (x.f1 < 4)))) := by unfold fieldOk; rw [← hx]
        replace hfo := Aside0.mk hfo
        replace hx := Aside0.mk hx
        replace hx0 := (HB.out.cell (World.block_lt_of_cell? w _ hx0)).trans hx0
        replace hx1 := (HB.out.cell (World.block_lt_of_cell? w _ hx1)).trans hx1
        clear hc2
        have hc2 : (wr.alloc (.cells #[.string x.f0, .int .i64 x.f1] 78)).cell? ⟨w.heap.size, 2, none⟩ = some (.slice (some ad) l0_2.length c0_2) := (blk_cell (blk_alloc BK.out _) 2).trans rfl
        have BF := Aside0.mk (blk_new wr (.cells #[.string x.f0, .int .i64 x.f1] 78))
        have hlen : (l0_2.take i).length = i := by rw [List.length_take]; omega
        replace hlen := Aside0.mk hlen
        have hcall : ∀ W, Below w.heap.size w W → W.heap[wr.heap.size]? = some (.cells #[.string x.f0, .int .i64 x.f1] 78 (0, 0)) →
            Calls Try.prog 76 #[.slice (some ad) i c0_2, .func (.func 77) #[] #[.pointer (some ⟨wr.heap.size, 0, none⟩)]] W fun e w' => e = .returned (.bool ((l0_2.take i).any (sameName x.f0))) ∧ Below W.heap.size W w' := by
          intro W hW hbf
          have := containsField.calls (some ad) c0_2 (l0_2.take i) W (Kd.C_take (Kd.C_below HR.out hW) (by omega)) (by rw [hlen.out]; exact hcap) (by rw [hlen.out]; have := hG3.out; omega) x.f0 x.f1 wr.heap.size hbf
          rw [hlen.out] at this
          exact this
        replace hcall := Aside0.mk hcall
        replace HB := Aside0.mk (below_alloc HB.out (.cells #[.string x.f0, .int .i64 x.f1] 78))
        replace BK := Aside0.mk (blk_alloc BK.out (.cells #[.string x.f0, .int .i64 x.f1] 78))
        cases ht : (l0_2.take i).any (sameName x.f0) with
        | true =>
          have hfo3 := Aside0.mk (show fieldOk l0_2 i = false by rw [hfo.out, ht]; rfl)
          replace ht := Aside0.mk ht
          go_wp2_with (fail)
          refine (hcall.out _ HB.out BF.out).mono ?_
          rintro e w2 ⟨rfl, hb⟩
          rw [ht.out]
          replace HB := Aside0.mk (below_step HB.out hb)
          clear hb
          go_wp2
          go_ret
          have hr : B = false := by rw [hr2.out]; exact range_all_no hlt hfo3.out
          exact ⟨by rw [hr]; rfl, HB.out⟩
        | false =>
        have hfo2 := Aside0.mk (show fieldOk l0_2 i = (nameB x.f0 && (decide (0 ≤ x.f1) && decide (x.f1 < 4))) by rw [hfo.out, ht]; rfl)
        replace ht := Aside0.mk ht
        go_wp2_with (fail)
        refine (hcall.out _ HB.out BF.out).mono ?_
        rintro e w2 ⟨rfl, hb⟩
        rw [ht.out]
        replace HB := Aside0.mk (below_step HB.out hb)
        replace BF := Aside0.mk (blk_below BF.out hb)
        replace BK := Aside0.mk (blk_below BK.out hb)
        clear hb
        have hf0 : w2.cell? ⟨wr.heap.size, 0, none⟩ = some (.string x.f0) := (blk_cell BF.out 0).trans rfl
        cases hnm : nameB x.f0 with
        | false =>
          have hfo3 := Aside0.mk (show fieldOk l0_2 i = false by rw [hfo2.out, hnm]; rfl)
          replace hnm := Aside0.mk hnm
          go_wp2_with (fail)
          refine (schema_Name.calls x.f0 false _ (by unfold schema_Name.f; rw [hnm.out])).mono ?_
          rintro e w3 ⟨rfl, hb⟩
          replace HB := Aside0.mk (below_step HB.out hb)
          clear hb
          go_wp2
          go_ret
          have hr : B = false := by rw [hr2.out]; exact range_all_no hlt hfo3.out
          exact ⟨by rw [hr]; rfl, HB.out⟩
        | true =>
        replace hnm := Aside0.mk hnm
        by_cases k1 : x.f1 < 0
        · have e1 : decide (x.f1 < 0) = true := decide_eq_true k1
          have hfo3 := Aside0.mk (show fieldOk l0_2 i = false by rw [hfo2.out, decide_eq_false (p := 0 ≤ x.f1) (by omega)]; simp)
          clear k1
          go_wp2_with (fail)
          refine (schema_Name.calls x.f0 true _ (by unfold schema_Name.f; rw [hnm.out])).mono ?_
          rintro e w3 ⟨rfl, hb⟩
          have hf1 : w3.cell? ⟨wr.heap.size, 1, none⟩ = some (.int .i64 x.f1) := (blk_cell (blk_below BF.out hb) 1).trans rfl
          replace HB := Aside0.mk (below_step HB.out hb)
          clear hb
          go_wp2
          go_ret
          have hr : B = false := by rw [hr2.out]; exact range_all_no hlt hfo3.out
          exact ⟨by rw [hr]; rfl, HB.out⟩
        have e1 : decide (x.f1 < 0) = false := decide_eq_false k1
        by_cases k2 : 4 ≤ x.f1
        · have e2 : decide (4 ≤ x.f1) = true := decide_eq_true k2
          have hfo3 := Aside0.mk (show fieldOk l0_2 i = false by rw [hfo2.out, decide_eq_false (p := x.f1 < 4) (by omega)]; simp)
          clear k1 k2
          go_wp2_with (fail)
          refine (schema_Name.calls x.f0 true _ (by unfold schema_Name.f; rw [hnm.out])).mono ?_
          rintro e w3 ⟨rfl, hb⟩
          have hf1 : w3.cell? ⟨wr.heap.size, 1, none⟩ = some (.int .i64 x.f1) := (blk_cell (blk_below BF.out hb) 1).trans rfl
          replace HB := Aside0.mk (below_step HB.out hb)
          clear hb
          go_wp2
          go_ret
          have hr : B = false := by rw [hr2.out]; exact range_all_no hlt hfo3.out
          exact ⟨by rw [hr]; rfl, HB.out⟩
        have e2 : decide (4 ≤ x.f1) = false := decide_eq_false k2
        have hfo3 := Aside0.mk (show fieldOk l0_2 i = true by rw [hfo2.out, hnm.out, decide_eq_true (p := 0 ≤ x.f1) (by omega), decide_eq_true (p := x.f1 < 4) (by omega)]; rfl)
        clear k1 k2
        go_wp2_with (fail)
        refine (schema_Name.calls x.f0 true _ (by unfold schema_Name.f; rw [hnm.out])).mono ?_
        rintro e w3 ⟨rfl, hb⟩
        have hf1 : w3.cell? ⟨wr.heap.size, 1, none⟩ = some (.int .i64 x.f1) := (blk_cell (blk_below BF.out hb) 1).trans rfl
        replace HB := Aside0.mk (below_step HB.out hb)
        replace BK := Aside0.mk (blk_below BK.out hb)
        clear hb
        have hi6 : i < 6 := by have := hG3.out; omega
        go_wp2
        go_roundg (gk - 1)
        case measure => have := hk.out; have := hG3.out; omega
        case rel => exact ⟨i + 1, by go_num, ⟨hlt⟩, ⟨by have := hk.out; have := hG3.out; omega⟩, ⟨fun j hj => by
          rcases (by omega : j < i ∨ j = i) with h | h
          · exact hall.out j h
          · subst h; exact hfo3.out⟩, HB, BK⟩
      · go_wp2
        go_ret
        have hr : B = true := by rw [hr2.out]; exact range_all_yes (fun j hj => hall.out j (by omega))
        exact ⟨by rw [hr]; rfl, HB.out⟩
end Go.Proofs.Yteommchgnocgnaa.PE
end

section
namespace Go.Proofs.Yteommchgnocgnaa.PE
open Go.RowKit Go.Proofs.YteommchgnocgnaaW.PrintWords Go.Proofs.YteommchgnocgnaaW.PrintLast Go.Proofs.YteommchgnocgnaaW.PrintMore
set_option linter.unusedVariables false
set_option linter.unusedSimpArgs false

theorem C_keepW {α : Type} {d : Kd α} (hK : ∀ w w' x cs, d.K w x cs → d.K w' x cs) {w W : World} {A : Option Addr} {n g : Nat} {xs : List α} (h : Kd.C d w A n xs) (hk : KeepBut w W g none) (hf : ∀ ad, A = some ad → 0 < n → ad.block ≠ g) : Kd.C d W A n xs :=
  ⟨h.1, h.2.1, fun hn => by
    obtain ⟨ad, e, hc⟩ := h.2.2 hn
    refine ⟨ad, e, fun j p hj => ?_⟩
    obtain ⟨c, hs, hr, hcell⟩ := hc j p hj
    exact ⟨c, hs, hK _ _ _ _ hr, fun i u hu => keep_cell hk (hcell i u hu) (by rw [add_block]; exact hf ad e hn)⟩⟩
theorem k38_any : ∀ w w' x cs, k38.K w x cs → k38.K w' x cs := fun w w' x cs h => by rw [k38_open h]; exact k38_mk w' x
theorem k50_any : ∀ w w' x cs, k50.K w x cs → k50.K w' x cs := fun w w' x cs h => by rw [k50_open h]; exact k50_mk w' x
theorem C_block {α : Type} {d : Kd α} {w : World} {A : Option Addr} {n : Nat} {xs : List α} (h : Kd.C d w A n xs) (hs : 0 < d.sz) : ∀ ad, A = some ad → 0 < n → ad.block < w.heap.size := fun ad e hn => by subst e; exact Kd.C_lt h hn hs
theorem mayE_arg {l : List S50} (h : mayE l = true) : l.length ≤ 12 ∧ ∀ x ∈ l, 0 ≤ x.f1 := by
  unfold mayE at h
  rw [Bool.and_eq_true] at h
  refine ⟨of_decide_eq_true h.1, fun x hx => ?_⟩
  have h2 : l.any opBad = false := by have := h.2; simpa using this
  rw [List.any_eq_false] at h2
  have h3 := h2 x hx
  unfold opBad opOk at h3
  simp only [Bool.not_eq_true, Bool.not_eq_false', Bool.and_eq_true, decide_eq_true_eq] at h3
  exact h3.2.2.1

def evalE (name : ByteArray) (at_ : Int) (vs : List S38) (l : List S50) : Int × Int × ByteArray × Int :=
  if mayE l = true then (if mayEv name at_ vs = true then evalT vs false l else (0, 0, ⟨#[]⟩, 1)) else (0, 0, ⟨#[]⟩, 1)
def expr_Eval.f (a0_0 : ByteArray) (a0_1 : Int) (l0_2 : List S38) (l1 : List S50) : Option (Int × Int × ByteArray × Int) := some (evalE a0_0 a0_1 l0_2 l1)

set_option maxHeartbeats 16000000 in
set_option maxRecDepth 100000 in
theorem expr_Eval.calls (a0_0 : ByteArray) (a0_1 : Int) (A0_2 : Option Addr) (c0_2 : Nat) (l0_2 : List S38) (A1 : Option Addr) (c1 : Nat) (l1 : List S50) (r1 : Int) (r2 : Int) (r3 : ByteArray) (r4 : Int) (w : World) (hr0_2 : Kd.C k38 w A0_2 l0_2.length l0_2) (hc0_2 : l0_2.length ≤ c0_2) (hr1 : Kd.C k50 w A1 l1.length l1) (hc1 : l1.length ≤ c1) (h : expr_Eval.f a0_0 a0_1 l0_2 l1 = some (r1, r2, r3, r4)) :
    Calls Try.prog 19 #[.agg #[.string a0_0, .int .i64 a0_1, .slice A0_2 l0_2.length c0_2], .slice A1 l1.length c1] w fun e w' => e = .returned (.tuple #[.agg #[.int .i64 r1, .int .i64 r2, .string r3], .int .i64 r4]) ∧ Below w.heap.size w w' := by
  have hu27 := Try.underlying27
  have hu38 := Try.underlying38
  have hu82 := Try.underlying82
  have HE := Aside0.mk (Option.some.inj h)
  have HR0 := Aside0.mk hr0_2
  have HC0 := Aside0.mk hc0_2
  have HR1 := Aside0.mk hr1
  have HC1 := Aside0.mk hc1
  have HB := Aside0.mk (below_alloc (below_alloc (Below.refl w.heap.size w) (.cells #[.string a0_0, .int .i64 a0_1, .slice A0_2 l0_2.length c0_2] 27)) (.cells #[.int .i64 0, .int .i64 0, .string ⟨#[]⟩] 38))
  have BE := Aside0.mk (blk_alloc (blk_new w (.cells #[.string a0_0, .int .i64 a0_1, .slice A0_2 l0_2.length c0_2] 27)) (.cells #[.int .i64 0, .int .i64 0, .string ⟨#[]⟩] 38))
  have hbr := blk_new (w.alloc (.cells #[.string a0_0, .int .i64 a0_1, .slice A0_2 l0_2.length c0_2] 27)) (.cells #[.int .i64 0, .int .i64 0, .string ⟨#[]⟩] 38)
  rw [show (w.alloc (.cells #[.string a0_0, .int .i64 a0_1, .slice A0_2 l0_2.length c0_2] 27)).heap.size = w.heap.size + 1 from by simp] at hbr
  have BR := Aside0.mk hbr
  clear h hr0_2 hc0_2 hr1 hc1 hbr
  cases hm : mayE l1 with
  | false =>
    have hres : r1 = 0 ∧ r2 = 0 ∧ r3 = ⟨#[]⟩ ∧ r4 = 1 := by
      have h := HE.out
      unfold evalE at h
      rw [hm, if_neg (by decide)] at h
      simp only [Prod.mk.injEq] at h
      exact ⟨h.1.symm, h.2.1.symm, h.2.2.1.symm, h.2.2.2.symm⟩
    obtain ⟨rfl, rfl, rfl, rfl⟩ := hres
    replace hm := Aside0.mk hm
    go_enter Try.func19, Try.ntmps19
    go_wp2_with (fail)
    refine (expr_may.calls A1 c1 l1 false _ (Kd.C_below HR1.out HB.out) HC1.out (by unfold expr_may.f; rw [hm.out])).mono ?_
    rintro e w1 ⟨rfl, hb⟩
    replace BR := Aside0.mk (blk_below BR.out hb)
    replace HB := Aside0.mk (below_step HB.out hb)
    clear hb
    have hcz0 : w1.cell? ⟨w.heap.size + 1, 0, none⟩ = some (.int .i64 0) := (blk_cell BR.out 0).trans rfl
    have hcz1 : w1.cell? ⟨w.heap.size + 1, 1, none⟩ = some (.int .i64 0) := (blk_cell BR.out 1).trans rfl
    have hcz2 : w1.cell? ⟨w.heap.size + 1, 2, none⟩ = some (.string ⟨#[]⟩) := (blk_cell BR.out 2).trans rfl
    have hfz0 := blk_frozen BR.out 0
    have hfz1 := blk_frozen BR.out 1
    have hfz2 := blk_frozen BR.out 2
    go_wp2
    refine bodyPost_ret (results_ct rfl _ _ (w.heap.size + 1) 38 #[.int .i64 0, .int .i64 0, .string ⟨#[]⟩] (0, 0) _ rfl (blk_put (blk_put (blk_put BR.out 0 _ rfl) 1 _ rfl) 2 _ rfl) Try.underlying38 rfl (by kernel_rfl)) rfl ?_
    exact ⟨rfl, ((HB.out.setCell (Nat.le_succ _) _).setCell (Nat.le_succ _) _).setCell (Nat.le_succ _) _⟩
  | true =>
  cases hv : mayEv a0_0 a0_1 l0_2 with
  | false =>
    have hres : r1 = 0 ∧ r2 = 0 ∧ r3 = ⟨#[]⟩ ∧ r4 = 1 := by
      have h := HE.out
      unfold evalE at h
      rw [hm, if_pos rfl, hv, if_neg (by decide)] at h
      simp only [Prod.mk.injEq] at h
      exact ⟨h.1.symm, h.2.1.symm, h.2.2.1.symm, h.2.2.2.symm⟩
    obtain ⟨rfl, rfl, rfl, rfl⟩ := hres
    replace hm := Aside0.mk hm
    replace hv := Aside0.mk hv
    go_enter Try.func19, Try.ntmps19
    go_wp2_with (fail)
    refine (expr_may.calls A1 c1 l1 true _ (Kd.C_below HR1.out HB.out) HC1.out (by unfold expr_may.f; rw [hm.out])).mono ?_
    rintro e w1 ⟨rfl, hb⟩
    replace BR := Aside0.mk (blk_below BR.out hb)
    replace BE := Aside0.mk (blk_below BE.out hb)
    replace HB := Aside0.mk (below_step HB.out hb)
    clear hb
    have hce0 : w1.cell? ⟨w.heap.size, 0, none⟩ = some (.string a0_0) := (blk_cell BE.out 0).trans rfl
    have hce1 : w1.cell? ⟨w.heap.size, 1, none⟩ = some (.int .i64 a0_1) := (blk_cell BE.out 1).trans rfl
    have hce2 : w1.cell? ⟨w.heap.size, 2, none⟩ = some (.slice A0_2 l0_2.length c0_2) := (blk_cell BE.out 2).trans rfl
    go_wp2_with (fail)
    refine (event_May.calls a0_0 a0_1 A0_2 c0_2 l0_2 false _ (Kd.C_below HR0.out HB.out) HC0.out (by unfold event_May.f; rw [hv.out])).mono ?_
    rintro e w2 ⟨rfl, hb⟩
    replace BR := Aside0.mk (blk_below BR.out hb)
    replace HB := Aside0.mk (below_step HB.out hb)
    clear hb hce0 hce1 hce2
    have hcz0 : w2.cell? ⟨w.heap.size + 1, 0, none⟩ = some (.int .i64 0) := (blk_cell BR.out 0).trans rfl
    have hcz1 : w2.cell? ⟨w.heap.size + 1, 1, none⟩ = some (.int .i64 0) := (blk_cell BR.out 1).trans rfl
    have hcz2 : w2.cell? ⟨w.heap.size + 1, 2, none⟩ = some (.string ⟨#[]⟩) := (blk_cell BR.out 2).trans rfl
    have hfz0 := blk_frozen BR.out 0
    have hfz1 := blk_frozen BR.out 1
    have hfz2 := blk_frozen BR.out 2
    go_wp2
    refine bodyPost_ret (results_ct rfl _ _ (w.heap.size + 1) 38 #[.int .i64 0, .int .i64 0, .string ⟨#[]⟩] (0, 0) _ rfl (blk_put (blk_put (blk_put BR.out 0 _ rfl) 1 _ rfl) 2 _ rfl) Try.underlying38 rfl (by kernel_rfl)) rfl ?_
    exact ⟨rfl, ((HB.out.setCell (Nat.le_succ _) _).setCell (Nat.le_succ _) _).setCell (Nat.le_succ _) _⟩
  | true =>
    have hres : evalT l0_2 false l1 = (r1, r2, r3, r4) := by
      have h := HE.out
      unfold evalE at h
      rw [hm, if_pos rfl, hv, if_pos rfl] at h
      exact h
    replace HE := Aside0.mk hres
    have hma := mayE_arg hm
    have HM := Aside0.mk hma
    replace hm := Aside0.mk hm
    replace hv := Aside0.mk hv
    clear hres hma
    go_enter Try.func19, Try.ntmps19
    go_wp2_with (fail)
    refine (expr_may.calls A1 c1 l1 true _ (Kd.C_below HR1.out HB.out) HC1.out (by unfold expr_may.f; rw [hm.out])).mono ?_
    rintro e w1 ⟨rfl, hb⟩
    replace BR := Aside0.mk (blk_below BR.out hb)
    replace BE := Aside0.mk (blk_below BE.out hb)
    replace HB := Aside0.mk (below_step HB.out hb)
    clear hb
    have hce0 : w1.cell? ⟨w.heap.size, 0, none⟩ = some (.string a0_0) := (blk_cell BE.out 0).trans rfl
    have hce1 : w1.cell? ⟨w.heap.size, 1, none⟩ = some (.int .i64 a0_1) := (blk_cell BE.out 1).trans rfl
    have hce2 : w1.cell? ⟨w.heap.size, 2, none⟩ = some (.slice A0_2 l0_2.length c0_2) := (blk_cell BE.out 2).trans rfl
    go_wp2_with (fail)
    refine (event_May.calls a0_0 a0_1 A0_2 c0_2 l0_2 true _ (Kd.C_below HR0.out HB.out) HC0.out (by unfold event_May.f; rw [hv.out])).mono ?_
    rintro e w2 ⟨rfl, hb⟩
    replace BR := Aside0.mk (blk_below BR.out hb)
    replace BE := Aside0.mk (blk_below BE.out hb)
    replace HB := Aside0.mk (below_step HB.out hb)
    clear hb hce0 hce1 hce2
    have hce2 : w2.cell? ⟨w.heap.size, 2, none⟩ = some (.slice A0_2 l0_2.length c0_2) := (blk_cell BE.out 2).trans rfl
    go_wp2_with (fail)
    have hsz := below_size HB.out
    have HB2 := Aside0.mk (below_alloc HB.out (.cells #[.slice none 0 0, .slice A0_2 l0_2.length c0_2, .bool false] 82))
    have hcall := expr_through.calls w2.heap.size A0_2 c0_2 l0_2 false A1 c1 l1 (w2.alloc (.cells #[.slice none 0 0, .slice A0_2 l0_2.length c0_2, .bool false] 82))
      (blk_new _ _)
      (fun W hk => C_keepW k38_any (Kd.C_below HR0.out HB2.out) hk (fun ad e hn => by have := C_block HR0.out (by decide) ad e hn; omega))
      (fun W hk => C_keepW k50_any (Kd.C_below HR1.out HB2.out) hk (fun ad e hn => by have := C_block HR1.out (by decide) ad e hn; omega))
      HC1.out HM.out.1 HM.out.2
    rw [HE.out] at hcall
    refine hcall.mono ?_
    rintro e w3 ⟨rfl, hb⟩
    have HB3 := Aside0.mk (HB2.out.trans (hb.mono hsz))
    have hlt : w.heap.size + 1 < w2.heap.size := blk_lt BR.out
    replace BR := Aside0.mk ((hb.block _ hlt).trans (blk_alloc BR.out _))
    clear hb hcall hce2 hlt
    have hcz0 : w3.cell? ⟨w.heap.size + 1, 0, none⟩ = some (.int .i64 0) := (blk_cell BR.out 0).trans rfl
    have hcz1 : w3.cell? ⟨w.heap.size + 1, 1, none⟩ = some (.int .i64 0) := (blk_cell BR.out 1).trans rfl
    have hcz2 : w3.cell? ⟨w.heap.size + 1, 2, none⟩ = some (.string ⟨#[]⟩) := (blk_cell BR.out 2).trans rfl
    have hfz0 := blk_frozen BR.out 0
    have hfz1 := blk_frozen BR.out 1
    have hfz2 := blk_frozen BR.out 2
    go_wp2
    refine bodyPost_ret (results_ct rfl _ _ (w.heap.size + 1) 38 #[.int .i64 r1, .int .i64 r2, .string r3] (0, 0) _ rfl (blk_put (blk_put (blk_put BR.out 0 _ rfl) 1 _ rfl) 2 _ rfl) Try.underlying38 rfl (by kernel_rfl)) rfl ?_
    exact ⟨rfl, ((HB3.out.setCell (Nat.le_succ _) _).setCell (Nat.le_succ _) _).setCell (Nat.le_succ _) _⟩
end Go.Proofs.Yteommchgnocgnaa.PE
end

section
namespace Go.Proofs.Yteommchgnocgnaa.PE
open Go.RowKit Go.Proofs.YteommchgnocgnaaW.PrintWords Go.Proofs.YteommchgnocgnaaW.PrintLast Go.Proofs.YteommchgnocgnaaW.PrintMore
set_option linter.unusedVariables false
set_option linter.unusedSimpArgs false

def putL (n : Nat) : List Int := if h : n < 128 then [(n : Int)] else Go.bits .or .u8 ((n : Int) % 256) 128 :: putL (n / 128)
termination_by n
decreasing_by omega
theorem putL_small {n : Nat} (h : n < 128) : putL n = [(n : Int)] := by rw [putL, dif_pos h]
theorem putL_big {n : Nat} (h : 128 ≤ n) : putL n = Go.bits .or .u8 ((n : Int) % 256) 128 :: putL (n / 128) := by rw [putL, dif_neg (by omega)]
theorem putL_len (m : Nat) : ∀ n, n < 128 ^ (m + 1) → (putL n).length ≤ m + 1 := by
  induction m with
  | zero => intro n h; rw [putL_small (by simpa using h)]; simp
  | succ m ih =>
    intro n h
    by_cases hs : n < 128
    · rw [putL_small hs]; simp
    · rw [putL_big (by omega)]
      have := ih (n / 128) (by rw [Nat.div_lt_iff_lt_mul (by omega)]; rw [Nat.pow_succ] at h; exact h)
      simp only [List.length_cons]; omega

def le_Put.f (a0 : Int) : Option (List Int) := if 0 ≤ a0 then (if a0 < 18446744073709551616 then some (putL a0.toNat) else none) else none

set_option maxHeartbeats 8000000 in
set_option maxRecDepth 100000 in
theorem le_Put.calls (a0 : Int) (r : List Int) (w : World) (h : le_Put.f a0 = some r) :
    Calls Try.prog 48 #[.int .u64 a0] w fun e w' => ∃ v0_ : Value, e = .returned (v0_) ∧ Kd.R (Kd.int .u8) 5 w' w.heap.size (fun _ => True) v0_ r ∧ Below w.heap.size w w' := by
  have HB := Aside0.mk (Below.refl w.heap.size w)
  unfold le_Put.f at h
  by_cases h0 : 0 ≤ a0
  case neg => rw [if_neg h0] at h; exact absurd h (by simp)
  rw [if_pos h0] at h
  by_cases h1 : a0 < 18446744073709551616
  case neg => rw [if_neg h1] at h; exact absurd h (by simp)
  rw [if_pos h1] at h
  obtain ⟨a, rfl⟩ := Int.eq_ofNat_of_zero_le h0
  have hlen := putL_len 9 a (by omega)
  obtain ⟨L, hL⟩ : ∃ L, L = putL a := ⟨_, rfl⟩
  rw [Int.toNat_natCast, ← hL] at h
  rw [← hL] at hlen
  obtain rfl := Option.some.inj h
  clear h h0
  have HL := Aside0.mk hL
  have HL2 := Aside0.mk hlen
  have HL3 := Aside0.mk h1
  clear hL hlen h1
  go_enter Try.func48, Try.ntmps48
  go_wp2
  go_step3
  go_wp2
  go_step3
  go_wp2
  go_loopg [0, 3] a (fun kq v0 v3 w' => ∃ (x : Nat) (x3_1 : List Int), v0 = .int .u64 (x : Int) ∧ Aside0 (x3_1 ++ putL x = L) ∧ Aside0 (x ≤ a) ∧ Aside0 (x = kq) ∧ Aside0 (Kd.R (Kd.int .u8) 5 w' w.heap.size (fun _ => True) v3 x3_1) ∧ Aside0 (Below w.heap.size w w'))
  case atStart => exact ⟨a, [], rfl, ⟨by rw [List.nil_append]; exact HL.out.symm⟩, ⟨Nat.le_refl _⟩, ⟨rfl⟩, ⟨Kd.R_nil _ _ _ _ _⟩, HB⟩
  case round =>
    obtain ⟨x, x3_1, rfl, HA, HK1, HG, HO_3, HB⟩ := hrel
    by_cases c2 : x < 128
    · have c2b0 : decide ((x : Int) < 128) = true := decide_eq_true (by omega)
      have hA := HA.out
      rw [putL_small c2] at hA
      have LM := Aside0.mk (show x3_1.length < 140737488355328 by have h1 := congrArg List.length hA; have h2 := HL2.out; simp at h1; omega)
      have hmod : ((x : Int)) % 256 = (x : Int) := by omega
      have hA2 := Aside0.mk hA
      have hm2 := Aside0.mk hmod
      clear hA hmod HA c2
      go_wp2_with (first | ((with_reducible refine gate_builtin (b := .append) (xs := #[.tmp 6, .tmp 9]) rfl ?_); at_builtin; refine Kd.R_append (Kd.int .u8) (w0 := w) w.heap.size rfl (.tmp 6) (.tmp 9) 29 5 (.int .u8 0) 1 rfl Try.underlying29 info5 rfl (by decide) (by omega) u3 x3_1 ((x : Int) % 256) [.int .u8 ((x : Int) % 256)] (fun _ => True) (fun _ => False) rfl rfl ?aP (fun _ hk => hk.elim) ?aF ?aO ?aB ?aS ?aL ?_; (case aP => exact rfl); (case aB => exact (by repeat (first | (with_reducible first | exact HB.out | apply below_alloc | apply pw_below_drewN | apply below_drew1) | exact HB.out))); (case aF => exact (fun _ _ => trivial)); (case aO => exact (by (with_reducible repeat (first | apply Kd.R_alloc | apply Kd.R_drewN | apply Kd.R_drew)); exact HO_3.out)); (case aS => exact (below_size (by repeat (first | (with_reducible first | exact HB.out | apply below_alloc | apply pw_below_drewN | apply below_drew1) | exact HB.out)))); (case aL => have := LM.out; omega); intro v295 w6 ho hb hg hat; have n0_ := Aside0.mk (hb); have n1_ := Aside0.mk (ho); clear HB; clear HO_3; have HB := n0_; have HO296 := n1_; clear n0_ n1_; clear ho hb hg hat))
      rw [Exit.noGoto_ret]
      go_ret
      have ho := HO296.out
      rw [hm2.out, hA2.out] at ho
      exact ⟨_, rfl, ho, HB.out⟩
    · have c2b0 : decide ((x : Int) < 128) = false := decide_eq_false (by omega)
      have hA := HA.out
      rw [putL_big (by omega)] at hA
      have LM := Aside0.mk (show x3_1.length < 140737488355328 by have h1 := congrArg List.length hA; have h2 := HL2.out; simp at h1; omega)
      have hA2 := Aside0.mk hA
      have C2 := Aside0.mk c2
      clear hA HA c2
      go_wp2_with (first | ((with_reducible refine gate_builtin (b := .append) (xs := #[.tmp 11, .tmp 15]) rfl ?_); at_builtin; refine Kd.R_append (Kd.int .u8) (w0 := w) w.heap.size rfl (.tmp 11) (.tmp 15) 29 5 (.int .u8 0) 1 rfl Try.underlying29 info5 rfl (by decide) (by omega) u3 x3_1 (Go.bits .or .u8 ((x : Int) % 256) 128) [.int .u8 (Go.bits .or .u8 ((x : Int) % 256) 128)] (fun _ => True) (fun _ => False) rfl rfl ?aP (fun _ hk => hk.elim) ?aF ?aO ?aB ?aS ?aL ?_; (case aP => exact rfl); (case aB => exact (by repeat (first | (with_reducible first | exact HB.out | apply below_alloc | apply pw_below_drewN | apply below_drew1) | exact HB.out))); (case aF => exact (fun _ _ => trivial)); (case aO => exact (by (with_reducible repeat (first | apply Kd.R_alloc | apply Kd.R_drewN | apply Kd.R_drew)); exact HO_3.out)); (case aS => exact (below_size (by repeat (first | (with_reducible first | exact HB.out | apply below_alloc | apply pw_below_drewN | apply below_drew1) | exact HB.out)))); (case aL => have := LM.out; omega); intro v295 w6 ho hb hg hat; have n0_ := Aside0.mk (hb); have n1_ := Aside0.mk (ho); clear HB; clear HO_3; have HB := n0_; have HO296 := n1_; clear n0_ n1_; clear ho hb hg hat))
      go_roundg (x / 128)
      case measure => have := HG.out; have := C2.out; omega
      case rel => exact ⟨x / 128, _, by first | rfl | (simp; done) | (simp [*]; done), ⟨by rw [List.append_assoc]; exact hA2.out⟩, ⟨by have := HK1.out; omega⟩, ⟨rfl⟩, HO296, HB⟩
end Go.Proofs.Yteommchgnocgnaa.PE
end

