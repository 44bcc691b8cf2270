/- The walks of the class laws but ClassTells. -/
import Derived.Test.YtffdnkgippdidaaDoorClass
namespace Go.Proofs.YtffdnkgippdidaaDoor.Class
open Go.RowKit
set_option linter.unusedVariables false
set_option linter.unusedSimpArgs false

abbrev InI64 (a : Int) : Prop := -9223372036854775808 ≤ a ∧ a ≤ 9223372036854775807
/-- The law answers true, and nothing turns. -/
def TruePost (w : World) (e : Ending) (w' : World) : Prop := e = .returned (.bool true) ∧ w = w'

theorem ofS_in {f : Int} (h1 : 1 ≤ f) (h2 : f ≤ 63) : ofS f = (posS (f + 1), 0) := by unfold ofS; rw [if_neg (by omega), if_neg (by omega)]
theorem ofS_low {f : Int} (h1 : f < 1) : ofS f = (0, 1) := by unfold ofS; rw [if_pos h1]
theorem ofS_high {f : Int} (h1 : 63 < f) : ofS f = (0, 2) := by unfold ofS; rw [if_neg (by omega), if_pos h1]
theorem runS_small {f : Int} (h1 : 1 ≤ f) (h2 : f < 8) : runS f = (0, 3) := by unfold runS; rw [if_neg (by omega), if_neg (by omega), if_pos h2]
theorem runS_big {f : Int} (h1 : 8 ≤ f) (h2 : f ≤ 63) : runS f = (f / 16 + 1, 0) := by unfold runS; rw [if_neg (by omega), if_neg (by omega), if_neg (by omega)]
theorem runS_low {f : Int} (h1 : f < 1) : runS f = (0, 1) := by unfold runS; rw [if_pos h1]
theorem runS_high {f : Int} (h1 : 63 < f) : runS f = (0, 2) := by unfold runS; rw [if_neg (by omega), if_pos h1]
theorem posS_big {t : Int} (h : 8 < t) : posS t = 3 := by unfold posS; rw [if_neg (by omega), if_neg (by omega), if_neg (by omega)]
theorem posS_small {t : Int} (h : t ≤ 8) : 0 ≤ posS t ∧ posS t ≤ 2 := by unfold posS; (repeat' split) <;> omega
theorem posS_mono {s t : Int} (h : s ≤ t) : posS s ≤ posS t := by unfold posS; (repeat' split) <;> omega

set_option maxHeartbeats 400000 in
theorem more_out (a b : Int) (w : World) (T : Tab w) (h : a < 1 ∨ (1 ≤ a ∧ b < a) ∨ (1 ≤ a ∧ a ≤ b ∧ 63 < b)) : Calls Tryd.prog 3 #[.int .i64 a, .int .i64 b] w (TruePost w) := by
  have KA := Lib.hid (awake_any w T)
  clear T
  rcases h with h | ⟨h1, h2⟩ | ⟨h1, h2, h3⟩
  all_goals
    try (have g1 : ¬ a < 1 := by omega)
    try (have g2 : ¬ b < a := by omega)
    go_enter Tryd.func3, Tryd.ntmps3
    go_wp2_with fail
    refine (KA.out).mono ?_
    rintro e w1 ⟨rfl, rfl⟩
    go_wp2
    go_ret
    exact ⟨rfl, rfl⟩

set_option maxHeartbeats 1000000 in
theorem more_in (a b x y m n g h : Int) (w : World) (T : Tab w) (h1 : 1 ≤ a) (h2 : a ≤ b) (h3 : b ≤ 63) (ea : ofS a = (x, 0)) (eb : ofS b = (y, 0)) (ra : runS a = (m, g)) (rb : runS b = (n, h))
    (hxy : x ≤ y) (hmn : m ≤ n) (hg : (g == 0) = (x == 3)) (hh : (h == 0) = (y == 3)) : Calls Tryd.prog 3 #[.int .i64 a, .int .i64 b] w (TruePost w) := by
  have KA := Lib.hid (awake_any w T)
  have K1 := Of_any a w T
  have K2 := Of_any b w T
  have K3 := Run_any a w T
  have K4 := Run_any b w T
  rw [ea] at K1
  rw [eb] at K2
  rw [ra] at K3
  rw [rb] at K4
  have H1 := Lib.hid K1
  have H2 := Lib.hid K2
  have H3 := Lib.hid K3
  have H4 := Lib.hid K4
  have t1 : ((g == 0) == (x == 3)) = true := by rw [hg]; simp
  have t2 : ((h == 0) == (y == 3)) = true := by rw [hh]; simp
  have g1 : ¬ a < 1 := by omega
  have g2 : ¬ b < a := by omega
  have g3 : ¬ 63 < b := by omega
  clear T K1 K2 K3 K4 ea eb ra rb hg hh
  go_enter Tryd.func3, Tryd.ntmps3
  go_wp2_with fail
  refine (KA.out).mono ?_
  rintro e w1 ⟨rfl, rfl⟩
  go_wp2_with fail
  refine (H1.out).mono ?_
  rintro e w1 ⟨rfl, rfl⟩
  go_wp2_with fail
  refine (H2.out).mono ?_
  rintro e w1 ⟨rfl, rfl⟩
  go_wp2_with fail
  refine (H3.out).mono ?_
  rintro e w1 ⟨rfl, rfl⟩
  go_wp2_with fail
  refine (H4.out).mono ?_
  rintro e w1 ⟨rfl, rfl⟩
  go_wp2
  go_ret
  exact ⟨rfl, rfl⟩

theorem sureClassMore (a b : Int) (w : World) (T : Tab w) (ha : InI64 a) (hb : InI64 b) : Calls Tryd.prog 3 #[.int .i64 a, .int .i64 b] w (TruePost w) := by
  by_cases h : a < 1 ∨ (1 ≤ a ∧ b < a) ∨ (1 ≤ a ∧ a ≤ b ∧ 63 < b)
  · exact more_out a b w T h
  · have h1 : 1 ≤ a := by omega
    have h2 : a ≤ b := by omega
    have h3 : b ≤ 63 := by omega
    have hm := posS_mono (show a + 1 ≤ b + 1 by omega)
    by_cases ga : a < 8
    · have xs := posS_small (show a + 1 ≤ 8 by omega)
      by_cases gb : b < 8
      · have ys := posS_small (show b + 1 ≤ 8 by omega)
        exact more_in a b _ _ 0 0 3 3 w T h1 h2 h3 (ofS_in h1 (by omega)) (ofS_in (by omega) h3) (runS_small h1 ga) (runS_small (by omega) gb) hm (by omega)
          (by rw [Bool.eq_iff_iff]; simp; omega) (by rw [Bool.eq_iff_iff]; simp; omega)
      · exact more_in a b _ _ 0 _ 3 0 w T h1 h2 h3 (ofS_in h1 (by omega)) (ofS_in (by omega) h3) (runS_small h1 ga) (runS_big (by omega) h3) hm (by omega)
          (by rw [Bool.eq_iff_iff]; simp; omega) (by rw [posS_big (show 8 < b + 1 by omega)]; rfl)
    · exact more_in a b _ _ _ _ 0 0 w T h1 h2 h3 (ofS_in h1 (by omega)) (ofS_in (by omega) h3) (runS_big (by omega) (by omega)) (runS_big (by omega) h3) hm (by omega)
        (by rw [posS_big (show 8 < a + 1 by omega)]; rfl) (by rw [posS_big (show 8 < b + 1 by omega)]; rfl)

/-! ### ClassSizes -/
theorem wordsS_out {c : Int} (h : c < 0 ∨ 2 < c) : wordsS c = 0 := by unfold wordsS; rw [if_neg (by omega), if_neg (by omega), if_neg (by omega)]
theorem cellsS_out {c : Int} (h : c < 0 ∨ 2 < c) : cellsS c = 0 := by unfold cellsS; rw [if_neg (by omega), if_neg (by omega), if_neg (by omega)]
set_option maxHeartbeats 400000 in
theorem sizes_out (c : Int) (w : World) (T : Tab w) (h : c < 0 ∨ 2 < c) : Calls Tryd.prog 8 #[.int .i64 c] w (TruePost w) := by
  have KA := Lib.hid (awake_any w T)
  have K1 := Words_any c w T
  have K2 := Cells_any c w T
  rw [wordsS_out h] at K1
  rw [cellsS_out h] at K2
  have H1 := Lib.hid K1
  have H2 := Lib.hid K2
  clear T K1 K2
  rcases h with h | h
  all_goals
    try (have g1 : ¬ c < 0 := by omega)
    go_enter Tryd.func8, Tryd.ntmps8
    go_wp2_with fail
    refine (KA.out).mono ?_
    rintro e w1 ⟨rfl, rfl⟩
    go_wp2_with fail
    refine (H1.out).mono ?_
    rintro e w1 ⟨rfl, rfl⟩
    go_wp2_with fail
    refine (H2.out).mono ?_
    rintro e w1 ⟨rfl, rfl⟩
    go_wp2
    go_ret
    exact ⟨rfl, rfl⟩
set_option maxHeartbeats 400000 in
theorem sizes_in (c x n y m : Int) (w : World) (H1 : Calls Tryd.prog 12 #[.int .i64 c] w (OnePost x w)) (H2 : Calls Tryd.prog 16 #[.int .i64 c] w (OnePost n w))
    (H3 : Calls Tryd.prog 12 #[.int .i64 (c - 1)] w (OnePost y w)) (H4 : Calls Tryd.prog 16 #[.int .i64 (c - 1)] w (OnePost m w)) (T : Tab w)
    (h : c = 0 ∧ x = 2 ∧ n = 8 ∨ c = 1 ∧ x = 4 ∧ n = 4 ∧ y = 2 ∧ m = 8 ∨ c = 2 ∧ x = 8 ∧ n = 2 ∧ y = 4 ∧ m = 4) : Calls Tryd.prog 8 #[.int .i64 c] w (TruePost w) := by
  have KA := Lib.hid (awake_any w T)
  clear T
  rcases h with ⟨rfl, rfl, rfl⟩ | ⟨rfl, rfl, rfl, rfl, rfl⟩ | ⟨rfl, rfl, rfl, rfl, rfl⟩
  all_goals
    simp only [show (0 : Int) - 1 = -1 from rfl, show (1 : Int) - 1 = 0 from rfl, show (2 : Int) - 1 = 1 from rfl] at H3 H4
    have K1 := Lib.hid H1
    have K2 := Lib.hid H2
    have K3 := Lib.hid H3
    have K4 := Lib.hid H4
    clear H1 H2 H3 H4
    go_enter Tryd.func8, Tryd.ntmps8
    go_wp2_with fail
    refine (KA.out).mono ?_
    rintro e w1 ⟨rfl, rfl⟩
    go_wp2_with fail
    refine (K1.out).mono ?_
    rintro e w1 ⟨rfl, rfl⟩
    go_wp2_with fail
    refine (K2.out).mono ?_
    rintro e w1 ⟨rfl, rfl⟩
    go_wp2_with fail
    refine (K3.out).mono ?_
    rintro e w1 ⟨rfl, rfl⟩
    go_wp2_with fail
    refine (K4.out).mono ?_
    rintro e w1 ⟨rfl, rfl⟩
    go_wp2
    go_ret
    exact ⟨rfl, rfl⟩
theorem sureClassSizes (c : Int) (w : World) (T : Tab w) (hc : InI64 c) : Calls Tryd.prog 8 #[.int .i64 c] w (TruePost w) := by
  by_cases h : c < 0 ∨ 2 < c
  · exact sizes_out c w T h
  · refine sizes_in c (wordsS c) (cellsS c) (wordsS (c - 1)) (cellsS (c - 1)) w (Words_any c w T) (Cells_any c w T) (Words_any _ w T) (Cells_any _ w T) T ?_
    have hc : c = 0 ∨ c = 1 ∨ c = 2 := by omega
    rcases hc with rfl | rfl | rfl
    · exact .inl ⟨rfl, rfl, rfl⟩
    · exact .inr (.inl ⟨rfl, rfl, rfl, rfl, rfl⟩)
    · exact .inr (.inr ⟨rfl, rfl, rfl, rfl, rfl⟩)

/-! ### ClassRuns -/
set_option maxHeartbeats 400000 in
theorem runs_low (f : Int) (w : World) (T : Tab w) (hf : InI64 f) (h : f < 8) : Calls Tryd.prog 4 #[.int .i64 f] w (TruePost w) := by
  obtain ⟨x, hx0, hx⟩ : ∃ x : Int, 0 < x ∧ runS f = (0, x) := by
    by_cases h1 : f < 1
    · exact ⟨1, by decide, runS_low h1⟩
    · exact ⟨3, by decide, runS_small (by omega) h⟩
  have KA := Lib.hid (awake_any w T)
  have K1 := Run_any f w T
  have K2 := Run_any (f + 1) w T
  rw [hx] at K1
  generalize (runS (f + 1)).1 = m at *
  have t1 : (x != 0) = true := by simp; omega
  have hf0 := hf.1
  have H1 := Lib.hid K1
  have H2 := Lib.hid K2
  clear T K1 K2 hx hf
  go_enter Tryd.func4, Tryd.ntmps4
  go_wp2_with fail
  refine (KA.out).mono ?_
  rintro e w1 ⟨rfl, rfl⟩
  go_wp2_with fail
  refine (H1.out).mono ?_
  rintro e w1 ⟨rfl, rfl⟩
  go_wp2_with fail
  refine (H2.out).mono ?_
  rintro e w1 ⟨rfl, rfl⟩
  go_wp2
  go_ret
  exact ⟨rfl, rfl⟩
set_option maxHeartbeats 400000 in
theorem runs_high (f : Int) (w : World) (T : Tab w) (h : 63 < f) : Calls Tryd.prog 4 #[.int .i64 f] w (TruePost w) := by
  have KA := Lib.hid (awake_any w T)
  have K1 := Run_any f w T
  have K2 := Run_any (wrap64 (f + 1)) w T
  rw [runS_high h] at K1
  have H1 := Lib.hid K1
  have H2 := Lib.hid K2
  clear T K1 K2
  go_enter Tryd.func4, Tryd.ntmps4
  go_wp2_with fail
  refine (KA.out).mono ?_
  rintro e w1 ⟨rfl, rfl⟩
  go_wp2_with fail
  refine (H1.out).mono ?_
  rintro e w1 ⟨rfl, rfl⟩
  go_wp2_with fail
  refine (H2.out).mono ?_
  rintro e w1 ⟨rfl, rfl⟩
  go_wp2
  go_ret
  exact ⟨rfl, rfl⟩
set_option maxHeartbeats 1000000 in
theorem runs_in (f n m : Int) (w : World) (T : Tab w) (h1 : 8 ≤ f) (h2 : f ≤ 62) (r1 : runS f = (n, 0)) (r2 : runS (f + 1) = (m, 0)) (n1 : 1 ≤ n) (n2 : n ≤ 4) (n3 : f + 1 ≤ 16 * n) (n4 : 16 * (n - 1) < f + 1) (m1 : n ≤ m) (m2 : m ≤ n + 1) :
    Calls Tryd.prog 4 #[.int .i64 f] w (TruePost w) := by
  have KA := Lib.hid (awake_any w T)
  have K1 := Run_any f w T
  have K2 := Run_any (f + 1) w T
  rw [r1] at K1
  rw [r2] at K2
  have H1 := Lib.hid K1
  have H2 := Lib.hid K2
  clear T K1 K2 r1 r2
  have d1 : decide (f < 8) = false := by simp; omega
  have d2 : decide (63 < f) = false := by simp; omega
  have d3 : decide (n < 1) = false := by simp; omega
  have d4 : decide (4 < n) = false := by simp; omega
  have d5 : decide (16 * n < f + 1) = false := by simp; omega
  have d6 : decide (f + 1 ≤ 16 * (n - 1)) = false := by simp; omega
  have d7 : decide (0 ≤ m - n) = true := by simp; omega
  have d8 : decide (m - n ≤ 1) = true := by simp; omega
  go_enter Tryd.func4, Tryd.ntmps4
  go_wp2_with fail
  refine (KA.out).mono ?_
  rintro e w1 ⟨rfl, rfl⟩
  go_wp2_with fail
  refine (H1.out).mono ?_
  rintro e w1 ⟨rfl, rfl⟩
  go_wp2_with fail
  refine (H2.out).mono ?_
  rintro e w1 ⟨rfl, rfl⟩
  go_wp2
  go_ret
  exact ⟨rfl, rfl⟩
set_option maxHeartbeats 1000000 in
theorem runs_last (w : World) (T : Tab w) : Calls Tryd.prog 4 #[.int .i64 63] w (TruePost w) := by
  have KA := Lib.hid (awake_any w T)
  have H1 := Lib.hid (show Calls Tryd.prog 11 #[.int .i64 63] w (TwoPost (4, 0) w) from Run_any 63 w T)
  have H2 := Lib.hid (show Calls Tryd.prog 11 #[.int .i64 64] w (TwoPost (0, 2) w) from Run_any 64 w T)
  clear T
  go_enter Tryd.func4, Tryd.ntmps4
  go_wp2_with fail
  refine (KA.out).mono ?_
  rintro e w1 ⟨rfl, rfl⟩
  go_wp2_with fail
  refine (H1.out).mono ?_
  rintro e w1 ⟨rfl, rfl⟩
  go_wp2_with fail
  refine (H2.out).mono ?_
  rintro e w1 ⟨rfl, rfl⟩
  go_wp2
  go_ret
  exact ⟨rfl, rfl⟩
theorem sureClassRuns (f : Int) (w : World) (T : Tab w) (hf : InI64 f) : Calls Tryd.prog 4 #[.int .i64 f] w (TruePost w) := by
  by_cases h1 : f < 8
  · exact runs_low f w T hf h1
  · by_cases h2 : 63 < f
    · exact runs_high f w T h2
    · by_cases h3 : f = 63
      · subst h3; exact runs_last w T
      · exact runs_in f (f / 16 + 1) ((f + 1) / 16 + 1) w T (by omega) (by omega) (runS_big (by omega) (by omega)) (runS_big (by omega) (by omega)) (by omega) (by omega) (by omega) (by omega) (by omega) (by omega)

/-! ### ClassWaste -/
set_option maxHeartbeats 400000 in
theorem waste_err (f x : Int) (w : World) (T : Tab w) (hx0 : 0 < x) (hx : ofS f = (0, x)) : Calls Tryd.prog 5 #[.int .i64 f] w (TruePost w) := by
  have KA := Lib.hid (awake_any w T)
  have K1 := Of_any f w T
  rw [hx] at K1
  have t1 : (x != 0) = true := by simp; omega
  have H1 := Lib.hid K1
  clear T K1 hx
  go_enter Tryd.func5, Tryd.ntmps5
  go_wp2_with fail
  refine (KA.out).mono ?_
  rintro e w1 ⟨rfl, rfl⟩
  go_wp2_with fail
  refine (H1.out).mono ?_
  rintro e w1 ⟨rfl, rfl⟩
  go_wp2
  go_ret
  exact ⟨rfl, rfl⟩
set_option maxHeartbeats 1000000 in
theorem waste_big (f n : Int) (w : World) (T : Tab w) (h1 : 8 ≤ f) (h2 : f ≤ 63) (r1 : runS f = (n, 0)) (n1 : 1 ≤ n) (n2 : n ≤ 4) (n3 : f + 1 ≤ 16 * n) (n4 : 16 * n - (f + 1) < 16) : Calls Tryd.prog 5 #[.int .i64 f] w (TruePost w) := by
  have KA := Lib.hid (awake_any w T)
  have K1 := Of_any f w T
  rw [ofS_in (by omega) h2, posS_big (by omega)] at K1
  have K2 := Run_any f w T
  rw [r1] at K2
  have H1 := Lib.hid K1
  have H2 := Lib.hid K2
  clear T K1 K2 r1
  have d7 : decide (0 ≤ 16 * n - (f + 1)) = true := by simp; omega
  have d8 : decide (16 * n - (f + 1) < 16) = true := by simp; omega
  go_enter Tryd.func5, Tryd.ntmps5
  go_wp2_with fail
  refine (KA.out).mono ?_
  rintro e w1 ⟨rfl, rfl⟩
  go_wp2_with fail
  refine (H1.out).mono ?_
  rintro e w1 ⟨rfl, rfl⟩
  go_wp2_with fail
  refine (H2.out).mono ?_
  rintro e w1 ⟨rfl, rfl⟩
  go_wp2
  go_ret
  exact ⟨rfl, rfl⟩
set_option maxHeartbeats 1000000 in
theorem waste_small (f c k : Int) (w : World) (T : Tab w) (h1 : 1 ≤ f) (h2 : f < 8) (r1 : posS (f + 1) = c) (r2 : wordsS c = k) (c3 : c ≤ 2) (k0 : 0 ≤ k) (k1 : k ≤ 8) (k2 : f + 1 ≤ k) (k3 : 2 * (k - (f + 1)) < k) : Calls Tryd.prog 5 #[.int .i64 f] w (TruePost w) := by
  have KA := Lib.hid (awake_any w T)
  have K1 := Of_any f w T
  rw [ofS_in h1 (by omega), r1] at K1
  have K2 := Run_any f w T
  rw [runS_small h1 h2] at K2
  have K3 := Words_any c w T
  rw [r2] at K3
  have H1 := Lib.hid K1
  have H2 := Lib.hid K2
  have H3 := Lib.hid K3
  have t1 : (c == 3) = false := by simp; omega
  clear T K1 K2 K3 r1 r2
  have d7 : decide (0 ≤ k - (f + 1)) = true := by simp; omega
  have d8 : decide (2 * (k - (f + 1)) < k) = true := by simp; omega
  go_enter Tryd.func5, Tryd.ntmps5
  go_wp2_with fail
  refine (KA.out).mono ?_
  rintro e w1 ⟨rfl, rfl⟩
  go_wp2_with fail
  refine (H1.out).mono ?_
  rintro e w1 ⟨rfl, rfl⟩
  go_wp2_with fail
  refine (H2.out).mono ?_
  rintro e w1 ⟨rfl, rfl⟩
  go_wp2_with fail
  refine (H3.out).mono ?_
  rintro e w1 ⟨rfl, rfl⟩
  go_wp2
  go_ret
  exact ⟨rfl, rfl⟩
theorem small_class {f : Int} (h1 : 1 ≤ f) (h2 : f < 8) : (posS (f + 1) = 0 ∧ f = 1) ∨ (posS (f + 1) = 1 ∧ 2 ≤ f ∧ f ≤ 3) ∨ (posS (f + 1) = 2 ∧ 4 ≤ f ∧ f ≤ 7) := by
  unfold posS
  by_cases a : f + 1 ≤ 2
  · rw [if_pos a]; exact .inl ⟨rfl, by omega⟩
  · rw [if_neg a]
    by_cases b : f + 1 ≤ 4
    · rw [if_pos b]; exact .inr (.inl ⟨rfl, by omega, by omega⟩)
    · rw [if_neg b, if_pos (by omega)]; exact .inr (.inr ⟨rfl, by omega, by omega⟩)
theorem sureClassWaste (f : Int) (w : World) (T : Tab w) (hf : InI64 f) : Calls Tryd.prog 5 #[.int .i64 f] w (TruePost w) := by
  by_cases h1 : f < 1
  · exact waste_err f 1 w T (by decide) (ofS_low h1)
  · by_cases h2 : 63 < f
    · exact waste_err f 2 w T (by decide) (ofS_high h2)
    · by_cases h3 : f < 8
      · rcases small_class (show 1 ≤ f by omega) h3 with ⟨e, g⟩ | ⟨e, g, g'⟩ | ⟨e, g, g'⟩
        · exact waste_small f 0 2 w T (by omega) h3 e rfl (by decide) (by decide) (by decide) (by omega) (by omega)
        · exact waste_small f 1 4 w T (by omega) h3 e rfl (by decide) (by decide) (by decide) (by omega) (by omega)
        · exact waste_small f 2 8 w T (by omega) h3 e rfl (by decide) (by decide) (by decide) (by omega) (by omega)
      · exact waste_big f (f / 16 + 1) w T (by omega) (by omega) (runS_big (by omega) (by omega)) (by omega) (by omega) (by omega) (by omega)

end Go.Proofs.YtffdnkgippdidaaDoor.Class
