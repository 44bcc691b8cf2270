/- The walk of ArenaNew. -/
import Derived.Test.YtglicimbnfamdaaArenaE
import Derived.Test.YtglicimbnfamdaaPArenaNewx1
namespace Go.Proofs.Ytglicimbnfamdaa.Arena
open Go.RowKit Go.Proofs.YtglicimbnfamdaaW.PrintWords Go.Proofs.YtglicimbnfamdaaW.PrintLast Go.Proofs.YtglicimbnfamdaaW.PrintMore
open Go.Proofs.Ytglicimbnfamdaa.PArenaTells
set_option linter.unusedVariables false
set_option linter.unusedSimpArgs false

theorem RefNew_some (n : Int) : PArenaNew.ragpickerref02_New.f n = some (newS n) := by
  unfold PArenaNew.ragpickerref02_New.f newS
  by_cases h1 : n < 1
  · rw [if_pos h1, if_neg (by omega)]
  · rw [if_neg h1]
    by_cases h2 : n > 64
    · rw [if_pos h2, if_neg (by omega)]
    · have e : wrap64 (16 * n) = 16 * n := by unfold wrap64; omega
      rw [if_neg h2, if_pos (by omega), e, if_pos (by omega), if_pos (by omega)]
theorem RefNew_any (n : Int) (w : World) : Calls Try.prog 12 #[.int .i64 n] w fun e w' => ∃ v : Value, e = .returned (.tuple #[v, .int .i64 (newS n).2]) ∧ Own w' w.heap.size v (newS n).1 ∧ Below w.heap.size w w' :=
  PArenaNew.ragpickerref02_New.calls n _ _ w (RefNew_some n)
theorem newS_len (n : Int) : (newS n).1.length ≤ 1024 := by
  unfold newS; split <;> simp <;> omega
theorem newS_may {n : Int} (h : (newS n).2 = 0) : mayB (newS n).1 = true := by
  unfold newS at *
  by_cases hn : 1 ≤ n ∧ n ≤ 64
  · rw [if_pos hn]
    simp [mayB]; omega
  · rw [if_neg hn] at h; cases h

set_option maxHeartbeats 1000000 in
theorem sureArenaNew (n : Int) (w : World) (hn : InI64 n) : Calls Try.prog 3 #[.int .i64 n] w (TruePost w) := by
  have hlen := newS_len n
  have KN := fun w : World => New_any n w
  have KR := fun w : World => RefNew_any n w
  have hmay := @newS_may n
  generalize (newS n).1 = l at *
  generalize (newS n).2 = x at *
  have HN := Lib.hid KN
  have HR := Lib.hid KR
  have HM := Lib.hid hmay
  clear KN KR hmay
  go_enter Try.func3, Try.ntmps3
  go_wp2_with fail
  refine (awake_true _).mono ?_
  rintro e w1 ⟨rfl, hb⟩
  have HB := Aside0.mk hb
  clear hb
  go_wp2_with fail
  refine (HN.out _).mono ?_
  rintro e w2 ⟨v2, rfl, hown2, hb⟩
  have HB2 := Aside0.mk (below_then HB.out HB.out.size hb)
  have HO2 := Aside0.mk hown2
  clear hb hown2
  go_wp2_with fail
  refine (HR.out _).mono ?_
  rintro e w3 ⟨v3, rfl, hown3, hb⟩
  have HB3 := Aside0.mk (below_then HB2.out HB2.out.size hb)
  obtain ⟨A2, c2, rfl, hc2, hr2⟩ := Kd.R_reads (Kd.R_below HO2.out hb)
  obtain ⟨A3, c3, rfl, hc3, hr3⟩ := Kd.R_reads hown3
  have HR2 := Aside0.mk hr2
  have I := Ints_any A2 A3 c2 c3 l l w3 hr2 hc2 hr3 hc3 (by omega)
  rw [decide_eq_true rfl] at I
  have HI := Lib.hid I
  clear hb hown3 hr2 hr3 I
  go_wp2_with fail
  refine (HI.out).mono ?_
  rintro e w4 ⟨rfl, hd⟩
  have HB4 := Aside0.mk (drawn_below HB3.out hd)
  have HR24 := Aside0.mk (rd_drawn HR2.out hd)
  clear hd
  by_cases hx : x = 0
  · have K := May_any A2 c2 l w4 HR24.out hc2
    rw [HM.out hx] at K
    have HK := Lib.hid K
    have t1 : (x == x) = true := by simp
    have t2 : (x != 0) = false := by simp [hx]
    clear K hx
    go_wp2_with fail
    refine (HK.out).mono ?_
    rintro e w5 ⟨rfl, hd⟩
    have HB5 := Aside0.mk (drawn_below HB4.out hd)
    clear hd
    go_wp2
    go_ret
    exact ⟨rfl, HB5.out⟩
  · have t1 : (x == x) = true := by simp
    have t2 : (x != 0) = true := by simpa using hx
    clear hx
    go_wp2
    go_ret
    exact ⟨rfl, HB4.out⟩

end Go.Proofs.Ytglicimbnfamdaa.Arena
