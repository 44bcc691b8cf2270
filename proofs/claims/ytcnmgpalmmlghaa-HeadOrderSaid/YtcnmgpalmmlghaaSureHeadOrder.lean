/- HeadOrder, in plain words: for every head and three numbers its function answers true. -/
import Derived.Test.YtcnmgpalmmlghaaGoHeadOrder
namespace Go.Proofs.Ytcnmgpalmmlghaa.Heads
open Go.RowKit Go.Proofs.Ytcnmgpalmmlghaa.Plain

theorem order_same (x y z : Int) (k : Int) (hk : 0 < k) (h : y - x = k * (z)) : decide (x < y) = decide (0 < z) := by
  rw [Bool.eq_iff_iff]
  simp only [decide_eq_true_eq]
  constructor
  · intro g
    by_cases hz : 0 < z
    · exact hz
    · have : k * z ≤ 0 := Int.mul_nonpos_of_nonneg_of_nonpos (by omega) (by omega)
      omega
  · intro g
    have : 0 < k * z := Int.mul_pos hk g
    omega
theorem lt_sub (a b : Int) : decide (0 < b - a) = decide (a < b) := by
  rw [Bool.eq_iff_iff]; simp only [decide_eq_true_eq]; omega
theorem sureHeadOrder (u o d : Bool) (n b m : Int) (mark born nn : Int) : ragpickerlaw01_HeadOrder.f 1 u o d n b m mark born nn = some true := by
  unfold ragpickerlaw01_HeadOrder.f
  simp only [awake_some, May_some, Option.bind_some, if_true]
  cases u
  · simp [ragpickerlaw01_HeadOrder.j0]
  · simp only [if_true]
    by_cases h : may true o d n b m = true
    · simp only [h, if_true]
      by_cases h1 : may true o d n b mark = true
      · simp only [h1, if_true]
        by_cases h2 : may true o d n born m = true
        · simp only [h2, if_true]
          by_cases h3 : may true o d nn b m = true
          · simp only [h3, ragpickerlaw01_HeadOrder.j0, Bool.not_true, if_neg (show ¬ (false = true) by decide), Pack_some, h, h1, h2, if_true, Option.bind_some]
            have e1 : decide (word true o d n b m < word true o d n b mark) = decide (m < mark) := by
              rw [order_same _ _ (mark - m) 4294967296 (by decide) (by unfold word; omega), lt_sub]
            have e2 : decide (word true o d n b m < word true o d n born m) = decide (b < born) := by
              rw [order_same _ _ (born - b) 1024 (by decide) (by unfold word; omega), lt_sub]
            have e3 : decide (word true o d n b m < word true o d nn b m) = decide (n < nn) := by
              rw [order_same _ _ (nn - n) 8 (by decide) (by unfold word; omega), lt_sub]
            rw [e1, e2, e3]
            simp
          · have h3' : may true o d nn b m = false := by simpa using h3
            simp [h3', ragpickerlaw01_HeadOrder.j0]
        · simp [h2, ragpickerlaw01_HeadOrder.j0]
      · simp [h1, ragpickerlaw01_HeadOrder.j0]
    · simp [h, ragpickerlaw01_HeadOrder.j0]

end Go.Proofs.Ytcnmgpalmmlghaa.Heads
