/- The walk of ClassFits. -/
import Derived.Test.YtffdnkgippdidaaDoorLaws
namespace Go.Proofs.YtffdnkgippdidaaDoor.Class
open Go.RowKit
set_option linter.unusedVariables false
set_option linter.unusedSimpArgs false

set_option maxHeartbeats 400000 in
theorem fits_low (f : Int) (w : World) (T : Tab w) (h : f < 1) : Calls Tryd.prog 7 #[.int .i64 f] w (TruePost w) := by
  have KA := Lib.hid (awake_any w T)
  have K1 := Of_any f w T
  rw [ofS_low h] at K1
  have H1 := Lib.hid K1
  clear T K1
  go_enter Tryd.func7, Tryd.ntmps7
  go_wp2_with fail
  refine (KA.out).mono ?_
  rintro e w1 ⟨rfl, rfl⟩
  go_wp2_with fail
  refine (H1.out).mono ?_
  rintro e w1 ⟨rfl, rfl⟩
  go_wp2
  go_ret
  exact ⟨rfl, rfl⟩
set_option maxHeartbeats 400000 in
theorem fits_high (f : Int) (w : World) (T : Tab w) (h : 63 < f) : Calls Tryd.prog 7 #[.int .i64 f] w (TruePost w) := by
  have KA := Lib.hid (awake_any w T)
  have K1 := Of_any f w T
  rw [ofS_high h] at K1
  have H1 := Lib.hid K1
  have d1 : decide (f < 1) = false := by simp; omega
  clear T K1
  go_enter Tryd.func7, Tryd.ntmps7
  go_wp2_with fail
  refine (KA.out).mono ?_
  rintro e w1 ⟨rfl, rfl⟩
  go_wp2_with fail
  refine (H1.out).mono ?_
  rintro e w1 ⟨rfl, rfl⟩
  go_wp2
  go_ret
  exact ⟨rfl, rfl⟩
set_option maxHeartbeats 1000000 in
theorem fits_big (f n : Int) (w : World) (T : Tab w) (h1 : 8 ≤ f) (h2 : f ≤ 63) (r1 : runS f = (n, 0)) (n1 : 1 ≤ n) (n2 : n ≤ 4) (n3 : f + 1 ≤ 16 * n) (n4 : 16 * (n - 1) < f + 1) : Calls Tryd.prog 7 #[.int .i64 f] w (TruePost w) := by
  have KA := Lib.hid (awake_any w T)
  have K1 := Of_any f w T
  rw [ofS_in (by omega) h2, posS_big (by omega)] at K1
  have K2 := Run_any f w T
  rw [r1] at K2
  have H1 := Lib.hid K1
  have H2 := Lib.hid K2
  have H3 := Lib.hid (show Calls Tryd.prog 12 #[.int .i64 2] w (OnePost 8 w) from Words_any 2 w T)
  clear T K1 K2 r1
  have d1 : decide (f < 1) = false := by simp; omega
  have d2 : decide (63 < f) = false := by simp; omega
  have d3 : decide (1 ≤ n) = true := by simp; omega
  have d4 : decide (n ≤ 4) = true := by simp; omega
  have d5 : decide (f + 1 ≤ 16 * n) = true := by simp; omega
  have d6 : decide (16 * (n - 1) < f + 1) = true := by simp; omega
  have d7 : decide (8 < f + 1) = true := by simp; omega
  go_enter Tryd.func7, Tryd.ntmps7
  go_wp2_with fail
  refine (KA.out).mono ?_
  rintro e w1 ⟨rfl, rfl⟩
  go_wp2_with fail
  refine (H1.out).mono ?_
  rintro e w1 ⟨rfl, rfl⟩
  go_wp2_with fail
  refine (H2.out).mono ?_
  rintro e w1 ⟨rfl, rfl⟩
  go_wp2_with fail
  refine (H3.out).mono ?_
  rintro e w1 ⟨rfl, rfl⟩
  go_wp2
  go_ret
  exact ⟨rfl, rfl⟩
set_option maxHeartbeats 1000000 in
theorem fits_small (f c c' k j m : Int) (w : World) (T : Tab w) (h1 : 1 ≤ f) (h2 : f < 8) (r1 : posS (f + 1) = c) (r0 : c - 1 = c') (r2 : wordsS c = k) (r3 : wordsS c' = j) (r4 : cellsS c = m) (c0 : 0 ≤ c) (c3 : c ≤ 2) (k2 : f + 1 ≤ k) (k3 : j < f + 1) (k4 : k ≤ 8) (j0 : 0 ≤ j) (m0 : 0 ≤ m) (m1 : m ≤ 8) (k5 : k * m = 16) : Calls Tryd.prog 7 #[.int .i64 f] w (TruePost w) := by
  have KA := Lib.hid (awake_any w T)
  have K1 := Of_any f w T
  rw [ofS_in h1 (by omega), r1] at K1
  have K2 := Run_any f w T
  rw [runS_small h1 h2] at K2
  have K3 := Words_any c w T
  rw [r2] at K3
  have K4 := Words_any (c - 1) w T
  rw [r0, r3] at K4
  rw [← r0] at K4
  have K5 := Cells_any c w T
  rw [r4] at K5
  have H1 := Lib.hid K1
  have H2 := Lib.hid K2
  have H3 := Lib.hid K3
  have H4 := Lib.hid K4
  have H5 := Lib.hid K5
  have t1 : (c == 3) = false := by simp; omega
  have t5 : (wrap64 (k * m) == 16) = true := by rw [k5]; simp [wrap64]
  have t6 : (k * m == 16) = true := by rw [k5]; rfl
  clear T K1 K2 K3 K4 K5 r0 r1 r2 r3 r4 k5
  have d1 : decide (f < 1) = false := by simp; omega
  have d2 : decide (63 < f) = false := by simp; omega
  have d3 : decide (c < 0) = false := by simp; omega
  have d4 : decide (3 < c) = false := by simp; omega
  have d7 : decide (f + 1 ≤ k) = true := by simp; omega
  have d8 : decide (j < f + 1) = true := by simp; omega
  go_enter Tryd.func7, Tryd.ntmps7
  go_wp2_with fail
  refine (KA.out).mono ?_
  rintro e w1 ⟨rfl, rfl⟩
  go_wp2_with fail
  refine (H1.out).mono ?_
  rintro e w1 ⟨rfl, rfl⟩
  go_wp2_with fail
  refine (H2.out).mono ?_
  rintro e w1 ⟨rfl, rfl⟩
  go_wp2_with fail
  refine (H3.out).mono ?_
  rintro e w1 ⟨rfl, rfl⟩
  go_wp2_with fail
  refine (H4.out).mono ?_
  rintro e w1 ⟨rfl, rfl⟩
  go_wp2_with fail
  refine (H5.out).mono ?_
  rintro e w1 ⟨rfl, rfl⟩
  go_wp2
  go_ret
  exact ⟨rfl, rfl⟩
theorem sureClassFits (f : Int) (w : World) (T : Tab w) (hf : InI64 f) : Calls Tryd.prog 7 #[.int .i64 f] w (TruePost w) := by
  by_cases h1 : f < 1
  · exact fits_low f w T h1
  · by_cases h2 : 63 < f
    · exact fits_high f w T h2
    · by_cases h3 : f < 8
      · rcases small_class (show 1 ≤ f by omega) h3 with ⟨e, g⟩ | ⟨e, g, g'⟩ | ⟨e, g, g'⟩
        · exact fits_small f 0 (-1) 2 0 8 w T (by omega) h3 e rfl rfl rfl rfl (by decide) (by decide) (by omega) (by omega) (by decide) (by decide) (by decide) (by decide) (by decide)
        · exact fits_small f 1 0 4 2 4 w T (by omega) h3 e rfl rfl rfl rfl (by decide) (by decide) (by omega) (by omega) (by decide) (by decide) (by decide) (by decide) (by decide)
        · exact fits_small f 2 1 8 4 2 w T (by omega) h3 e rfl rfl rfl rfl (by decide) (by decide) (by omega) (by omega) (by decide) (by decide) (by decide) (by decide) (by decide)
      · exact fits_big f (f / 16 + 1) w T (by omega) (by omega) (runS_big (by omega) (by omega)) (by omega) (by omega) (by omega) (by omega)

end Go.Proofs.YtffdnkgippdidaaDoor.Class
