/- HeadApart, in plain words: for every two heads its function answers true. -/
import Derived.Test.YtcnmgpalmmlghaaGoHeadApart
namespace Go.Proofs.Ytcnmgpalmmlghaa.Heads
open Go.RowKit Go.Proofs.Ytcnmgpalmmlghaa.Plain

theorem word_may_unused {o d : Bool} {n b m : Int} (h : may false o d n b m = true) : word false o d n b m = 0 := by
  obtain ⟨rfl, rfl, rfl, rfl, rfl⟩ := may_unused h; decide

theorem sureHeadApart (u o d : Bool) (n b m : Int) (u' o' d' : Bool) (n' b' m' : Int) : ragpickerlaw01_HeadApart.f u o d n b m u' o' d' n' b' m' = some true := by
  unfold ragpickerlaw01_HeadApart.f
  simp only [awake_some, Pack_some, Option.bind_some, if_true]
  by_cases h : may u o d n b m = true
  · by_cases h' : may u' o' d' n' b' m' = true
    · rw [if_pos h, if_pos h']
      simp only [if_true]
      have key : (word u o d n b m == word u' o' d' n' b' m') = (u == u' && (o == o' && (d == d' && (n == n' && (b == b' && m == m'))))) := by
        rw [Bool.eq_iff_iff]
        simp only [beq_iff_eq, Bool.and_eq_true]
        constructor
        · intro e
          cases u <;> cases u'
          · obtain ⟨rfl, rfl, rfl, rfl, rfl⟩ := may_unused h
            obtain ⟨rfl, rfl, rfl, rfl, rfl⟩ := may_unused h'
            simp
          · have := word_pos o' d' n' b' m' h'
            rw [word_may_unused h] at e
            omega
          · have := word_pos o d n b m h
            rw [word_may_unused h'] at e
            omega
          · have e1 := unpack_word o d n b m h
            have e2 := unpack_word o' d' n' b' m' h'
            rw [e] at e1
            rw [e1] at e2
            simp only [Prod.mk.injEq] at e2
            obtain ⟨_, rfl, rfl, rfl, rfl, rfl, _⟩ := e2
            simp
        · rintro ⟨rfl, rfl, rfl, rfl, rfl, rfl⟩
          rfl
      rw [key]
      have z : ((word u o d n b m == 0) == !u) = true := by
        cases u
        · rw [word_may_unused h]; rfl
        · have := word_pos o d n b m h
          have : ¬ word true o d n b m = 0 := by omega
          simp [this]
      rw [z]
      simp
    · rw [if_pos h, if_neg h']; simp
  · rw [if_neg h]; simp

end Go.Proofs.Ytcnmgpalmmlghaa.Heads
