/- A head handed over by value: its cells and its datum, opened and shut. -/
import Derived.Test.YtcnmgpalmmlghaaRows
import Derived.WalkKit
import Derived.ProofKit
import Derived.OpenShut
import Derived.Lib.SmallJoins
namespace Go.Proofs.Ytcnmgpalmmlghaa
open Go.ChangeShapes Go.WideShapes Go.ChangeAt Go.RowKit Go.Joins

/-- A head's value, and its datum. -/
abbrev headV (u o e : Bool) (n b m : Int) : Value := .agg #[.bool u, .bool o, .bool e, .int .i64 n, .int .i64 b, .int .i64 m]
abbrev headD {H : Type} (u o e : Bool) (n b m : Int) : DataW H := .agg [.lit (.bool u), .lit (.bool o), .lit (.bool e), .lit (.int .i64 n), .lit (.int .i64 b), .lit (.int .i64 m)]

theorem cellsBool : Try.prog.cellsOf 4 = 1 := by kernel_rfl
theorem cellsInt : Try.prog.cellsOf 3 = 1 := by kernel_rfl
theorem cellsHead : Try.prog.cellsOf 23 = 6 := by kernel_rfl

theorem array6 {α : Type} {cs : Array α} (h : cs.size = 6) : ∃ c0 c1 c2 c3 c4 c5, cs = #[c0, c1, c2, c3, c4, c5] := by
  obtain ⟨l⟩ := cs
  match l, h with
  | [c0, c1, c2, c3, c4, c5], _ => exact ⟨c0, c1, c2, c3, c4, c5, rfl⟩
theorem list6 {α : Type} {cs : List α} (h : cs.length = 6) : ∃ c0 c1 c2 c3 c4 c5, cs = [c0, c1, c2, c3, c4, c5] := by
  match cs, h with
  | [c0, c1, c2, c3, c4, c5], _ => exact ⟨c0, c1, c2, c3, c4, c5, rfl⟩

section
variable {H : Type} {enc : TypeId × Value → H} {w : World} {base : Nat} {spare : Nat → Bool} {held : Bool}

theorem open_head {r : Reach} {b0 : Nat} {v : Value} {d : DataW H} {p : List MemPlace} (hv : Value.okWide Try.prog w r b0 23 v) (h : DataW.Trod enc Try.prog w base spare held 23 v d p) :
    ∃ (u o e : Bool) (n b m : Int), v = headV u o e n b m ∧ d = headD u o e n b m ∧ p = [] ∧ (Lit.int .i64 n).wf = true ∧ (Lit.int .i64 b).wf = true ∧ (Lit.int .i64 m).wf = true := by
  obtain ⟨cs, rfl, hsz⟩ := okWide_struct Try.underlying23 hv
  obtain ⟨c0, c1, c2, c3, c4, c5, rfl⟩ := array6 (hsz.trans cellsHead)
  obtain ⟨fuel, hf⟩ := h
  obtain ⟨xs, n, _, hx, _, hlen, hg⟩ := DataW.trod_struct Try.underlying23 hf
  obtain ⟨y0, y1, y2, y3, y4, y5, rfl⟩ := list6 hlen
  obtain ⟨u, e0, f0⟩ := DataW.trod_bool Try.underlying4 (hg 0 _ rfl)
  obtain ⟨o, e1, f1⟩ := DataW.trod_bool Try.underlying4 (hg 1 _ rfl)
  obtain ⟨e, e2, f2⟩ := DataW.trod_bool Try.underlying4 (hg 2 _ rfl)
  obtain ⟨k, e3, f3, w3⟩ := DataW.trod_int Try.underlying3 (hg 3 _ rfl)
  obtain ⟨b, e4, f4, w4⟩ := DataW.trod_int Try.underlying3 (hg 4 _ rfl)
  obtain ⟨m, e5, f5, w5⟩ := DataW.trod_int Try.underlying3 (hg 5 _ rfl)
  simp [Value.cells, cellsBool, cellsInt] at e0 e1 e2 e3 e4 e5
  subst f0 f1 f2 f3 f4 f5 e0 e1 e2 e3 e4 e5
  simp only [Prod.mk.injEq] at hx
  exact ⟨u, o, e, k, b, m, rfl, by simpa using hx.1, by simpa using hx.2, w3, w4, w5⟩

theorem shut_head (u o e : Bool) {n b m : Int} (wn : (Lit.int .i64 n).wf = true) (wb : (Lit.int .i64 b).wf = true) (wm : (Lit.int .i64 m).wf = true) :
    DataW.Trod enc Try.prog w base spare held 23 (headV u o e n b m) (headD u o e n b m) [] := by
  have := trod_struct_mk (enc := enc) (P := Try.prog) (w := w) (base := base) (spare := spare) (held := held) (n := 1) (cs := [.bool u, .bool o, .bool e, .int .i64 n, .int .i64 b, .int .i64 m])
    (xs := [(.lit (.bool u), []), (.lit (.bool o), []), (.lit (.bool e), []), (.lit (.int .i64 n), []), (.lit (.int .i64 b), []), (.lit (.int .i64 m), [])]) Try.underlying23 (by simp [cellsHead])
    (by simp [cellsBool, cellsInt, DataW.trod, Try.underlying3, Try.underlying4, wn, wb, wm])
  exact ⟨_, by simpa [Value.cells] using this⟩
end
end Go.Proofs.Ytcnmgpalmmlghaa
