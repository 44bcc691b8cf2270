/- The walks of slices.Clone, arena.Put and arena.Zero. -/
import Derived.Test.YtglicimbnfamdaaArena
import Derived.Lib.SliceRun
namespace Go.Proofs.Ytglicimbnfamdaa.Arena
open Go.RowKit Go.Proofs.YtglicimbnfamdaaW.PrintWords Go.Proofs.YtglicimbnfamdaaW.PrintLast Go.Proofs.YtglicimbnfamdaaW.PrintMore
open Go.Proofs.Ytglicimbnfamdaa.PArenaTells
set_option linter.unusedVariables false
set_option linter.unusedSimpArgs false

/-- What a copy of a list comes to. -/
def CopyPost (l : List Int) (w : World) (e : Ending) (w' : World) : Prop := ∃ v : Value, e = .returned v ∧ Own w' w.heap.size v l ∧ Below w.heap.size w w'
theorem own_lit (w : World) (base : Nat) (hb : base ≤ w.heap.size) : (w.alloc (.cells #[] 3)).ownsRow base 3 1 (.slice (some ⟨w.heap.size, 0, none⟩) 0 0) 0 (encs (Value.int .i64) []) :=
  ⟨rfl, .inr ⟨w.heap.size, 0, #[], rfl, hb, blk_new w _, Nat.le_refl _, by simp [maxLen], rfl, rfl⟩⟩

set_option maxHeartbeats 400000 in
theorem Clone_nil (c : Nat) (w : World) : Calls Try.prog 28 #[.slice none 0 c] w (CopyPost [] w) := by
  have hq := fun w : World => Lib.run_eql_slice_nil (P := Try.prog) w 23 3 none 0 c 0 0 Try.underlying23
  go_enter Try.func28, Try.ntmps28
  go_wp2
  go_ret
  exact ⟨_, rfl, Kd.R_nil _ _ _ _ _, Below.refl _ _⟩

set_option maxHeartbeats 400000 in
theorem Clone_some (ad : Addr) (c : Nat) (l : List Int) (w : World) (hr : Rd w (some ad) l) (hl : l.length * 8 ≤ 140737488355328) :
    Calls Try.prog 28 #[.slice (some ad) l.length c] w (CopyPost l w) := by
  have hq := fun w : World => Lib.run_eql_slice_nil (P := Try.prog) w 23 3 (some ad) l.length c 0 0 Try.underlying23
  have HR := Aside0.mk (Kd.reads_of_C (enc := Value.int .i64) (d := (0 : Int)) (h1 := fun _ => rfl) (Kd.C_alloc hr (.cells #[] 3)))
  have HO := Aside0.mk (own_lit w w.heap.size (Nat.le_refl _))
  have HB := Aside0.mk (below_alloc (Below.refl w.heap.size w) (.cells #[] 3))
  clear hr
  go_enter Try.func28, Try.ntmps28
  go_wp2_with (at_builtin; refine print_append_row_of (w0 := w) (Value.int .i64) (0 : Int) w.heap.size rfl (.tmp 5) (.tmp 6) 23 3 (.int .i64 0) 8 rfl Try.underlying23 info3 rfl (by decide) (fun _ => rfl) _ [] l _ _ _ rfl rfl HO.out HR.out HB.out (by simp) (by simpa using hl) ?_; intro v1 w1 hown hbel hg hat; have HO1 := Aside0.mk hown; have HB1 := Aside0.mk hbel; clear hown hbel hg hat)
  go_ret
  exact ⟨v1, rfl, Kd.R_of_own HO1.out (fun _ _ => trivial), HB1.out⟩

theorem Clone_any (A : Option Addr) (c : Nat) (l : List Int) (w : World) (hr : Rd w A l) (hl : l.length * 8 ≤ 140737488355328) :
    Calls Try.prog 28 #[.slice A l.length c] w (CopyPost l w) := by
  cases A with
  | none =>
    have h0 : l = [] := by
      rcases Nat.eq_zero_or_pos l.length with h | h
      · exact List.eq_nil_of_length_eq_zero h
      · obtain ⟨ad, e, _⟩ := Kd.at_int hr 0 (by decide) (by omega)
        cases e
    subst h0
    exact Clone_nil c w
  | some ad => exact Clone_some ad c l w hr hl

theorem own_cap {w : World} {base n c : Nat} {A : Option Addr} {l : List Int} (h : Own w base (.slice A n c) l) : c ≤ 9223372036854775807 := by
  have ho := Kd.own_of_R h
  rcases ho.2 with ⟨e, _⟩ | ⟨g, cap, cur, e, _, _, _, hm, _⟩
  · cases e; omega
  · cases e; unfold maxLen at hm; exact hm

/-- A list is handed back in new memory, and OK. -/
def ListPost (l : List Int) (w : World) (e : Ending) (w' : World) : Prop := ∃ v : Value, e = .returned (.tuple #[v, .int .i64 0]) ∧ Own w' w.heap.size v l ∧ Below w.heap.size w w'
/-- An error is handed back. -/
def ErrPost (x : Int) (w : World) (e : Ending) (w' : World) : Prop := e = .returned (.tuple #[.slice none 0 0, .int .i64 x]) ∧ Below w.heap.size w w'

theorem drawn_below {w w1 w2 : World} (hb : Below w.heap.size w w1) (hd : Drawn0 w1 w2) : Below w.heap.size w w2 := below_then hb hb.size hd.below

/-- part's errors alone. -/
def partErr (l : List Int) (a n : Int) : Option Int :=
  if mayB l = false ∨ n < 0 then some 1 else if n = 0 then none else if a < 16 ∨ (l.length : Int) ≤ a - 16 ∨ (l.length : Int) - (a - 16) < n then some 3 else none
theorem part_err (A : Option Addr) (c : Nat) (l : List Int) (a n x : Int) (w : World) (hr : Rd w A l) (hc : l.length ≤ c) (ha : a ≤ 9223372036854775807) (hx : partErr l a n = some x) :
    Calls Try.prog 27 #[.slice A l.length c, .int .i64 a, .int .i64 n] w fun e w' => e = .returned (.tuple #[.slice none 0 0, .int .i64 x]) ∧ Drawn0 w w' := by
  unfold partErr at hx
  cases hm : mayB l
  · rw [if_pos (.inl hm)] at hx
    cases hx
    exact part_bad A c l a n w hr hc hm
  · by_cases hn : n < 0
    · rw [if_pos (.inr hn)] at hx
      cases hx
      exact part_neg A c l a n w hr hc hm hn
    · rw [if_neg (by simp [hm, hn])] at hx
      by_cases h0 : n = 0
      · rw [if_pos h0] at hx; cases hx
      · rw [if_neg h0] at hx
        by_cases hq : a < 16 ∨ (l.length : Int) ≤ a - 16 ∨ (l.length : Int) - (a - 16) < n
        · rw [if_pos hq] at hx
          cases hx
          exact part_none A c l a n w hr hc hm (by omega) (by omega) ha
        · rw [if_neg hq] at hx; cases hx

set_option maxHeartbeats 400000 in
theorem Put_err (A : Option Addr) (c : Nat) (l : List Int) (a v x : Int) (w : World) (hr : Rd w A l) (hl : l.length * 8 ≤ 140737488355328) (ha : a ≤ 9223372036854775807) (hx : partErr l a 1 = some x) (hx0 : 0 < x) :
    Calls Try.prog 17 #[.slice A l.length c, .int .i64 a, .int .i64 v] w (ErrPost x w) := by
  have K := Lib.hid (Clone_any A c l w hr hl)
  have X := Lib.hid hx
  clear hr hx
  have h1 : (x != 0) = true := by simp; omega
  go_enter Try.func17, Try.ntmps17
  go_wp2_with fail
  refine (K.out).mono ?_
  rintro e w1 ⟨u, rfl, hown, hb⟩
  obtain ⟨A1, c1, rfl, hc1, hr1⟩ := Kd.R_reads hown
  have K2 := Lib.hid (part_err A1 c1 l a 1 x w1 hr1 hc1 ha X.out)
  have HB := Aside0.mk hb
  clear hown hr1 hb
  go_wp2_with fail
  refine (K2.out).mono ?_
  rintro e w2 ⟨rfl, hd⟩
  have HB2 := Aside0.mk (drawn_below HB.out hd)
  clear hd
  go_wp2
  go_ret2
  exact ⟨rfl, HB2.out⟩

set_option maxHeartbeats 400000 in
theorem Put_ok (A : Option Addr) (c : Nat) (l : List Int) (a v : Int) (w : World) (hr : Rd w A l) (hl : l.length * 8 ≤ 140737488355328) (hm : mayB l = true) (ha : 16 ≤ a) (hq : a - 16 < (l.length : Int)) :
    Calls Try.prog 17 #[.slice A l.length c, .int .i64 a, .int .i64 v] w (ListPost (l.set (a - 16).toNat v) w) := by
  have K := Lib.hid (Clone_any A c l w hr hl)
  have M := Lib.hid hm
  clear hr hm
  obtain ⟨i, hi⟩ : ∃ i : Int, i = a - 16 := ⟨_, rfl⟩
  have hi0 : 0 ≤ i := by omega
  have hi1 : i < (l.length : Int) := by omega
  have HI := Lib.hid hi
  rw [← hi]
  clear hi
  go_enter Try.func17, Try.ntmps17
  go_wp2_with fail
  refine (K.out).mono ?_
  rintro e w1 ⟨u, rfl, hown, hb⟩
  obtain ⟨g, cap, rfl, hg, hgl, -⟩ := Kd.R_form hown (by omega)
  obtain ⟨_, hc1, hr1⟩ := Kd.R_reads' hown
  have hcm := own_cap hown
  have K2 := part_ok ⟨g, 0, none⟩ cap l a 1 w1 hr1 hc1 hcm M.out (by decide) ha (by have := HI.out; omega)
  rw [add_plain, ← HI.out] at K2
  have HK2 := Lib.hid K2
  obtain ⟨hcell, hfro⟩ := Kd.R_cell (0 : Int) hown i hi0 hi1
  have HO := Aside0.mk hown
  have HB := Aside0.mk hb
  clear hown hr1 hb K2
  go_wp2_with fail
  refine (HK2.out).mono ?_
  rintro e w2 ⟨rfl, hd⟩
  obtain ⟨m, rfl⟩ := hd.out
  have HB2 := Aside0.mk (below_set (drawn_below HB.out hd) (j := i.toNat) (v := .int .i64 v) hg)
  have HO2 := Aside0.mk (Kd.R_put (Kd.R_drewN HO.out m) i v).1
  clear hd HI
  generalize i.toNat = k at *
  go_wp2
  go_ret2
  exact ⟨_, rfl, HO2.out, HB2.out⟩

end Go.Proofs.Ytglicimbnfamdaa.Arena
