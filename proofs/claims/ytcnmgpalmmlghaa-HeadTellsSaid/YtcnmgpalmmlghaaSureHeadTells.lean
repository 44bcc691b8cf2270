/- HeadTells, in plain words: for every head and every word its function answers true. -/
import Derived.Test.YtcnmgpalmmlghaaGoHeadTells
namespace Go.Proofs.Ytcnmgpalmmlghaa.Heads
open Go.RowKit Go.Proofs.Ytcnmgpalmmlghaa.Plain

theorem Word_ref {u o d : Bool} {n b m : Int} (h : may u o d n b m = true) : ragpickerref01_Word.f u o d n b m = some (word u o d n b m) := by
  obtain ⟨hn, hb, hm⟩ := may_range h
  unfold ragpickerref01_Word.f
  cases u
  · obtain ⟨rfl, rfl, rfl, rfl, rfl⟩ := may_unused h; rfl
  · cases o <;> cases d <;> simp [word, b1, wrap64] <;> omega
theorem Pack_ref (u o d : Bool) (n b m : Int) : ragpickerref01_Pack.f u o d n b m = some (if may u o d n b m = true then (word u o d n b m, 0) else (0, 1)) := by
  unfold ragpickerref01_Pack.f
  simp only [May_ref, Option.bind_some]
  by_cases h : may u o d n b m = true
  · rw [if_pos h, if_pos h, Word_ref h]; rfl
  · rw [if_neg h, if_neg h]
theorem Unpack_ref (w : Int) (hw : -9223372036854775808 ≤ w ∧ w ≤ 9223372036854775807) : ragpickerref01_Unpack.f 0 w = some (unpack w) := by
  unfold ragpickerref01_Unpack.f; rw [if_pos hw]
theorem sureHeadTells (u o d : Bool) (n b m : Int) (w : Int) (hw : -9223372036854775808 ≤ w ∧ w ≤ 9223372036854775807) : ragpickerlaw01_HeadTells.f 0 u o d n b m w = some true := by
  unfold ragpickerlaw01_HeadTells.f
  simp only [awake_some, Pack_some, Pack_ref, Unpack_some w hw, Unpack_ref w hw, May_some, May_ref, Option.bind_some, if_true]
  simp

end Go.Proofs.Ytcnmgpalmmlghaa.Heads
