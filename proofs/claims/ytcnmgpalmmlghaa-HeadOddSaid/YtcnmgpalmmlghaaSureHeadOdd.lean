/- HeadOdd, in plain words: for every word its function answers true. -/
import Derived.Test.YtcnmgpalmmlghaaGoHeadOdd
namespace Go.Proofs.Ytcnmgpalmmlghaa.Heads
open Go.RowKit Go.Proofs.Ytcnmgpalmmlghaa.Plain

theorem sureHeadOdd (w : Int) (hw : -9223372036854775808 ≤ w ∧ w ≤ 9223372036854775807) : ragpickerlaw01_HeadOdd.f w = some true := by
  unfold ragpickerlaw01_HeadOdd.f
  rw [awake_some, Unpack_some w hw]
  simp only [Option.bind_some, if_true]
  unfold unpack
  by_cases hz : w = 0
  · subst hz; simp [wrap64]
  · rw [if_neg hz]
    by_cases ho : odd w = true
    · obtain ⟨h0, h1, hm⟩ := odd_parts ho
      obtain ⟨hn, hb, hmm⟩ := may_used hm
      rw [if_pos ho]
      have t1 : Int.tmod w 2 = 1 := by rw [Int.tmod_eq_emod_of_nonneg h0]; exact h1
      have t8 : Int.tmod (wrap64 (Int.tdiv w 8)) 128 = w / 8 % 128 := by
        rw [Int.tdiv_eq_ediv_of_nonneg h0, show wrap64 (w / 8) = w / 8 by unfold wrap64; omega, Int.tmod_eq_emod_of_nonneg (by omega)]
      have t10 : Int.tmod (wrap64 (Int.tdiv w 1024)) 4194304 = w / 1024 % 4194304 := by
        rw [Int.tdiv_eq_ediv_of_nonneg h0, show wrap64 (w / 1024) = w / 1024 by unfold wrap64; omega, Int.tmod_eq_emod_of_nonneg (by omega)]
      have t32 : wrap64 (Int.tdiv w 4294967296) = w / 4294967296 := by
        rw [Int.tdiv_eq_ediv_of_nonneg h0]; unfold wrap64; omega
      simp only [t1, t8, t10, t32]
      simp [h0]
    · rw [if_neg ho]
      simp

end Go.Proofs.Ytcnmgpalmmlghaa.Heads
