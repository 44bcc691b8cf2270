/- HeadBack, in plain words: for every head and every word its function answers true. -/
import Derived.Test.YtcnmgpalmmlghaaGoHeadBack
namespace Go.Proofs.Ytcnmgpalmmlghaa.Heads
open Go.RowKit Go.Proofs.Ytcnmgpalmmlghaa.Plain

theorem word_range {u o d : Bool} {n b m : Int} (h : may u o d n b m = true) : 0 ≤ word u o d n b m ∧ word u o d n b m ≤ 9223372036854775807 := by
  obtain ⟨hn, hb, hm⟩ := may_range h
  have hu : b1 u 1 = 1 ∨ b1 u 1 = 0 := by cases u <;> simp [b1]
  have ho : b1 o 2 = 2 ∨ b1 o 2 = 0 := by cases o <;> simp [b1]
  have hd : b1 d 4 = 4 ∨ b1 d 4 = 0 := by cases d <;> simp [b1]
  unfold word
  omega
theorem unpack_any {u o d : Bool} {n b m : Int} (h : may u o d n b m = true) : unpack (word u o d n b m) = (u, o, d, n, b, m, true) := by
  cases u
  · obtain ⟨rfl, rfl, rfl, rfl, rfl⟩ := may_unused h; rfl
  · exact unpack_word o d n b m h
theorem back_rest (w : Int) (hw : -9223372036854775808 ≤ w ∧ w ≤ 9223372036854775807) : ragpickerlaw01_HeadBack.j0 1 w = some true := by
  simp only [ragpickerlaw01_HeadBack.j0, Unpack_some w hw, Option.bind_some, Pack_some, May_some]
  unfold unpack
  by_cases hz : w = 0
  · subst hz; decide
  · rw [if_neg hz]
    by_cases ho : odd w = true
    · obtain ⟨h0, h1, hm⟩ := odd_parts ho
      rw [if_pos ho]
      simp only [hm, if_true, word_odd w h1]
    · rw [if_neg ho]; simp
theorem sureHeadBack (u o d : Bool) (n b m : Int) (w : Int) (hw : -9223372036854775808 ≤ w ∧ w ≤ 9223372036854775807) : ragpickerlaw01_HeadBack.f 1 u o d n b m w = some true := by
  unfold ragpickerlaw01_HeadBack.f
  simp only [awake_some, Pack_some, May_some, Option.bind_some, if_true]
  by_cases h : may u o d n b m = true
  · have hr := word_range h
    simp only [if_pos h]
    rw [Unpack_some _ ⟨by omega, hr.2⟩, unpack_any h]
    simp [back_rest w hw]
  · simp only [if_neg h]
    simp [back_rest w hw]

end Go.Proofs.Ytcnmgpalmmlghaa.Heads
