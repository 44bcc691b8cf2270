/- The walk of HeadBits, by hand: for every head and every mark it answers true. -/
import Derived.Test.YtcnmgpalmmlghaaHeads
import Derived.Lib.Hide
namespace Go.Proofs.Ytcnmgpalmmlghaa.Heads
open Go.RowKit Go.Proofs.YtcnmgpalmmlghaaW.PrintWords Go.Proofs.YtcnmgpalmmlghaaW.PrintLast Go.Proofs.YtcnmgpalmmlghaaW.PrintMore
open Go.Proofs.Ytcnmgpalmmlghaa.Plain
set_option linter.unusedVariables false

abbrev headW (u o d : Bool) (n b m : Int) : Value := .agg #[.bool u, .bool o, .bool d, .int .i64 n, .int .i64 b, .int .i64 m]

theorem Pack_yes {u o d : Bool} {n b m : Int} (h : may u o d n b m = true) (w : World) :
    Calls Try.prog 10 #[headW u o d n b m] w fun e w' => e = .returned (.tuple #[.int .i64 (word u o d n b m), .int .i64 0]) ∧ Below w.heap.size w w' :=
  head_Pack.calls u o d n b m _ _ w (by rw [Pack_some, if_pos h])
theorem Pack_no {u o d : Bool} {n b m : Int} (h : ¬ may u o d n b m = true) (w : World) :
    Calls Try.prog 10 #[headW u o d n b m] w fun e w' => e = .returned (.tuple #[.int .i64 0, .int .i64 1]) ∧ Below w.heap.size w w' :=
  head_Pack.calls u o d n b m _ _ w (by rw [Pack_some, if_neg h])
theorem awake_yes (w : World) : Calls Try.prog 9 #[] w fun e w' => e = .returned (.bool true) ∧ Below w.heap.size w w' :=
  ragpickerlaw01_awake.calls true w awake_some

/-- The post of HeadBits. -/
def BitsPost (w : World) (e : Ending) (w' : World) : Prop := e = .returned (.bool true) ∧ Below w.heap.size w w'

set_option maxHeartbeats 1000000 in
set_option maxRecDepth 100000 in
theorem bits_no (u o d : Bool) (n b m mark : Int) (h : ¬ may u o d n b m = true) (w : World) :
    Calls Try.prog 6 #[headW u o d n b m, .int .i64 mark] w (BitsPost w) := by
  have hu23 := Try.underlying23
  have H := Lib.hid h
  clear h
  go_enter Try.func6, Try.ntmps6
  go_wp2_with fail
  refine (awake_yes _).mono ?_
  rintro e w1 ⟨rfl, hb1⟩
  have hB1 := Aside0.mk (below_then (below_alloc (Below.refl w.heap.size w) _) (by simp) hb1)
  obtain ⟨hc, hf⟩ := bcell hb1
  have hz1 : w.heap.size < w1.heap.size := by have := hb1.size; simp at this; omega
  go_wp2_with fail
  refine (Pack_no H.out _).mono ?_
  rintro e w2 ⟨rfl, hb2⟩
  have hB2 := Aside0.mk (below_then hB1.out hB1.out.size hb2)
  clear hb1 hb2
  go_wp2
  go_ret
  exact ⟨rfl, hB2.out⟩

set_option maxHeartbeats 1000000 in
set_option maxRecDepth 100000 in
theorem bits_unused (o d : Bool) (n b m mark : Int) (h : may false o d n b m = true) (w : World) :
    Calls Try.prog 6 #[headW false o d n b m, .int .i64 mark] w (BitsPost w) := by
  have hu23 := Try.underlying23
  have H := Lib.hid h
  clear h
  go_enter Try.func6, Try.ntmps6
  go_wp2_with fail
  refine (awake_yes _).mono ?_
  rintro e w1 ⟨rfl, hb1⟩
  have hB1 := Aside0.mk (below_then (below_alloc (Below.refl w.heap.size w) _) (by simp) hb1)
  obtain ⟨hc, hf⟩ := bcell hb1
  have hz1 : w.heap.size < w1.heap.size := by have := hb1.size; simp at this; omega
  go_wp2_with fail
  refine (Pack_yes H.out _).mono ?_
  rintro e w2 ⟨rfl, hb2⟩
  obtain ⟨hc2, hf2⟩ := bcell hb2
  have hz2 : w.heap.size < w2.heap.size := by have := hb2.size; omega
  have hB2 := Aside0.mk (below_then hB1.out hB1.out.size hb2)
  clear hb1 hb2
  generalize word false o d n b m = A at *
  go_wp2
  go_ret
  exact ⟨rfl, hB2.out⟩

set_option maxHeartbeats 1000000 in
set_option maxRecDepth 100000 in
theorem bits_mark (o d : Bool) (n b m mark : Int) (h : may true o d n b m = true) (hm : mark < 0 ∨ 1048576 < mark) (w : World) :
    Calls Try.prog 6 #[headW true o d n b m, .int .i64 mark] w (BitsPost w) := by
  have hu23 := Try.underlying23
  have H := Lib.hid h
  clear h
  rcases hm with hm | hm
  all_goals
    have h1 : decide (mark < 0) = (if mark < 0 then true else false) := by split <;> simp [*]
    first
      | (have h2 : decide (mark < 0) = true := by simp; omega)
      | (have h2 : decide (mark < 0) = false := by simp; omega)
    try (have h3 : decide (1048576 < mark) = true := by simp; omega)
    clear h1
    go_enter Try.func6, Try.ntmps6
    go_wp2_with fail
    refine (awake_yes _).mono ?_
    rintro e w1 ⟨rfl, hb1⟩
    have hB1 := Aside0.mk (below_then (below_alloc (Below.refl w.heap.size w) _) (by simp) hb1)
    obtain ⟨hc, hf⟩ := bcell hb1
    have hz1 : w.heap.size < w1.heap.size := by have := hb1.size; simp at this; omega
    go_wp2_with fail
    refine (Pack_yes H.out _).mono ?_
    rintro e w2 ⟨rfl, hb2⟩
    obtain ⟨hc2, hf2⟩ := bcell hb2
    have hz2 : w.heap.size < w2.heap.size := by have := hb2.size; omega
    have hB2 := Aside0.mk (below_then hB1.out hB1.out.size hb2)
    clear hb1 hb2
    generalize word true o d n b m = A at *
    go_wp2
    go_ret
    exact ⟨rfl, hB2.out⟩

theorem used_bits {o d : Bool} {n b m : Int} (h : may true o d n b m = true) : 0 ≤ word true o d n b m ∧ word true o d n b m ≤ 9007199254740992 := by
  obtain ⟨hn, hb, hm⟩ := may_used h
  have ho : b1 o 2 = 2 ∨ b1 o 2 = 0 := by cases o <;> simp [b1]
  have hd : b1 d 4 = 4 ∨ b1 d 4 = 0 := by cases d <;> simp [b1]
  unfold word
  simp only [b1, if_true] at *
  omega

set_option maxHeartbeats 2000000 in
set_option maxRecDepth 100000 in
theorem bits_yes (o d : Bool) (n b m mark : Int) (h : may true o d n b m = true) (h0 : 0 ≤ mark) (h1 : mark ≤ 1048576) (w : World) :
    Calls Try.prog 6 #[headW true o d n b m, .int .i64 mark] w (BitsPost w) := by
  have hu23 := Try.underlying23
  obtain ⟨hn, hb, hm⟩ := may_used h
  have hx : may true (!o) d n b m = true := by simpa [may] using h
  have hy : may true o (!d) n b m = true := by simpa [may] using h
  have hz : may true o d n b mark = true := by
    have : may true o d n b mark = (decide (0 ≤ n ∧ n ≤ 63) && (decide (0 ≤ b ∧ b ≤ 1048576) && decide (0 ≤ mark ∧ mark ≤ 1048576))) := rfl
    rw [this]; simp [hn, hb, h0, h1]
  have ra := used_bits h
  have rb := used_bits hx
  have rc := used_bits hy
  have rd := used_bits hz
  have t1 : decide (mark < 0) = false := by simp; omega
  have t2 : decide (1048576 < mark) = false := by simp; omega
  have e1 : (word true (!o) d n b m - word true o d n b m == 2) = !o := by
    cases o <;> simp [word, b1] <;> omega
  have e2 : (word true o d n b m - word true (!o) d n b m == 2) = o := by
    cases o <;> simp [word, b1] <;> omega
  have e3 : (word true o (!d) n b m - word true o d n b m == 4) = !d := by
    cases d <;> simp [word, b1] <;> omega
  have e4 : (word true o d n b m - word true o (!d) n b m == 4) = d := by
    cases d <;> simp [word, b1] <;> omega
  have e5 : (word true o d n b mark - word true o d n b m == 4294967296 * (mark - m)) = true := by
    simp [word]; omega
  have H := Lib.hid h
  have Hx := Lib.hid hx
  have Hy := Lib.hid hy
  have Hz := Lib.hid hz
  clear h hx hy hz
  have hm0 : 0 ≤ m := hm.1
  have hm1 : m ≤ 1048576 := hm.2
  clear hn hb hm
  have C1 := Pack_yes H.out
  have C2 := Pack_yes Hx.out
  have C3 := Pack_yes Hy.out
  have C4 := Pack_yes Hz.out
  generalize word true o d n b m = A at *
  generalize word true (!o) d n b m = B at *
  generalize word true o (!d) n b m = C at *
  generalize word true o d n b mark = D at *
  obtain ⟨ra0, ra1⟩ := ra
  obtain ⟨rb0, rb1⟩ := rb
  obtain ⟨rc0, rc1⟩ := rc
  obtain ⟨rd0, rd1⟩ := rd
  have K1 := Lib.hid C1
  have K2 := Lib.hid C2
  have K3 := Lib.hid C3
  have K4 := Lib.hid C4
  clear C1 C2 C3 C4 H Hx Hy Hz
  cases o <;> cases d
  all_goals
    simp only [Bool.not_true, Bool.not_false] at e1 e2 e3 e4
    go_enter Try.func6, Try.ntmps6
    go_wp2_with fail
    refine (awake_yes _).mono ?_
    rintro e w1 ⟨rfl, hb1⟩
    have hB1 := Aside0.mk (below_then (below_alloc (Below.refl w.heap.size w) _) (by simp) hb1)
    obtain ⟨hc, hf⟩ := bcell hb1
    have hz1 : w.heap.size < w1.heap.size := by have := hb1.size; simp at this; omega
    go_wp2_with fail
    refine (K1.out _).mono ?_
    rintro e w2 ⟨rfl, hb2⟩
    obtain ⟨hc2, hf2⟩ := bcell hb2
    have hz2 : w.heap.size < w2.heap.size := by have := hb2.size; omega
    have hB2 := Aside0.mk (below_then hB1.out hB1.out.size hb2)
    clear hb1 hb2
    go_wp2_with fail
    refine (K2.out _).mono ?_
    rintro e w3 ⟨rfl, hb3⟩
    have hB3 := Aside0.mk (below_then (below_alloc (below_alloc (below_alloc hB2.out _) _) _) (by simp; omega) hb3)
    obtain ⟨hc3, hf3⟩ := bcell hb3
    have hz3 : w2.heap.size + 1 + 1 < w3.heap.size := by have := hb3.size; simp at this; omega
    have hz4 : w2.heap.size + 1 < w3.heap.size := by omega
    have hz5 : w2.heap.size < w3.heap.size := by omega
    have hz6 : w.heap.size < w3.heap.size := by omega
    have hz7 : w.heap.size < w2.heap.size + 1 + 1 + 1 := by omega
    have hz8 : w.heap.size < w2.heap.size + 1 + 1 := by omega
    have hz9 : w.heap.size < w2.heap.size + 1 := by omega
    clear hb3
    go_wp2_with fail
    refine (K3.out _).mono ?_
    rintro e w4 ⟨rfl, hb4⟩
    have hB4 := Aside0.mk (below_then hB3.out hB3.out.size hb4)
    obtain ⟨hc4, hf4⟩ := bcell hb4
    have hy3 : w2.heap.size + 1 + 1 < w4.heap.size := by have := hb4.size; omega
    have hy6 : w.heap.size < w4.heap.size := by omega
    clear hb4
    go_wp2_with fail
    refine (K4.out _).mono ?_
    rintro e w5 ⟨rfl, hb5⟩
    have hB5 := Aside0.mk (below_then hB4.out hB4.out.size hb5)
    obtain ⟨hc5, hf5⟩ := bcell hb5
    have hx6 : w.heap.size < w5.heap.size := by have := hb5.size; omega
    clear hb5
    go_wp2
    go_ret
    exact ⟨rfl, hB5.out⟩

theorem bits_walk (u o d : Bool) (n b m mark : Int) (wn : -9223372036854775808 ≤ n ∧ n ≤ 9223372036854775807) (wb : -9223372036854775808 ≤ b ∧ b ≤ 9223372036854775807) (wm : -9223372036854775808 ≤ m ∧ m ≤ 9223372036854775807) (wk : -9223372036854775808 ≤ mark ∧ mark ≤ 9223372036854775807) (w : World) :
    Calls Try.prog 6 #[headW u o d n b m, .int .i64 mark] w fun e w' => e = .returned (.bool true) ∧ Below w.heap.size w w' := by
  by_cases h : may u o d n b m = true
  · cases u
    · exact bits_unused o d n b m mark h w
    · by_cases hk : mark < 0 ∨ 1048576 < mark
      · exact bits_mark o d n b m mark h hk w
      · exact bits_yes o d n b m mark h (by omega) (by omega) w
  · exact bits_no u o d n b m mark h w

end Go.Proofs.Ytcnmgpalmmlghaa.Heads
