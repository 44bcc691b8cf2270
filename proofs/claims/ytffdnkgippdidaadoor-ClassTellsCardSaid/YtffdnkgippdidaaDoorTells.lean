/- The walks of the reference's functions on classes, and of ClassTells. -/
import Derived.Test.YtffdnkgippdidaaDoorLaws
namespace Go.Proofs.YtffdnkgippdidaaDoor.Class
open Go.RowKit
set_option linter.unusedVariables false
set_option linter.unusedSimpArgs false

set_option maxHeartbeats 400000 in
theorem RefWords_any (c : Int) (w : World) : Calls Tryd.prog 15 #[.int .i64 c] w (OnePost (wordsS c) w) := by
  by_cases h0 : c = 0
  · subst h0
    go_enter Tryd.func15, Tryd.ntmps15
    go_wp2
    go_ret
    exact ⟨rfl, rfl⟩
  · by_cases h1 : c = 1
    · subst h1
      clear h0
      go_enter Tryd.func15, Tryd.ntmps15
      go_wp2
      go_ret
      exact ⟨rfl, rfl⟩
    · by_cases h2 : c = 2
      · subst h2
        clear h0 h1
        go_enter Tryd.func15, Tryd.ntmps15
        go_wp2
        go_ret
        exact ⟨rfl, rfl⟩
      · have E := Lib.hid (show wordsS c = 0 from by unfold wordsS; rw [if_neg h0, if_neg h1, if_neg h2])
        have g0 : (c == 0) = false := by simpa using h0
        have g1 : (c == 1) = false := by simpa using h1
        have g2 : (c == 2) = false := by simpa using h2
        clear h0 h1 h2
        go_enter Tryd.func15, Tryd.ntmps15
        go_wp2
        go_ret
        exact ⟨by rw [E.out]; rfl, rfl⟩

set_option maxHeartbeats 400000 in
theorem RefCells_any (c : Int) (w : World) : Calls Tryd.prog 17 #[.int .i64 c] w (OnePost (cellsS c) w) := by
  have K := RefWords_any c w
  by_cases hc : c = 0 ∨ c = 1 ∨ c = 2
  · rcases hc with rfl | rfl | rfl
    · have HK := Lib.hid K
      clear K
      go_enter Tryd.func17, Tryd.ntmps17
      go_wp2_with fail
      refine (HK.out).mono ?_
      rintro e w1 ⟨rfl, rfl⟩
      rw [show wordsS 0 = 2 from rfl]
      go_wp2
      go_ret
      exact ⟨rfl, rfl⟩
    · have HK := Lib.hid K
      clear K
      go_enter Tryd.func17, Tryd.ntmps17
      go_wp2_with fail
      refine (HK.out).mono ?_
      rintro e w1 ⟨rfl, rfl⟩
      rw [show wordsS 1 = 4 from rfl]
      go_wp2
      go_ret
      exact ⟨rfl, rfl⟩
    · have HK := Lib.hid K
      clear K
      go_enter Tryd.func17, Tryd.ntmps17
      go_wp2_with fail
      refine (HK.out).mono ?_
      rintro e w1 ⟨rfl, rfl⟩
      rw [show wordsS 2 = 8 from rfl]
      go_wp2
      go_ret
      exact ⟨rfl, rfl⟩
  · have E1 : wordsS c = 0 := by unfold wordsS; rw [if_neg (by omega), if_neg (by omega), if_neg (by omega)]
    have E := Lib.hid (show cellsS c = 0 from by unfold cellsS; rw [if_neg (by omega), if_neg (by omega), if_neg (by omega)])
    rw [E1] at K
    have HK := Lib.hid K
    clear K E1 hc
    go_enter Tryd.func17, Tryd.ntmps17
    go_wp2_with fail
    refine (HK.out).mono ?_
    rintro e w1 ⟨rfl, rfl⟩
    go_wp2
    go_ret
    exact ⟨by rw [E.out]; rfl, rfl⟩

set_option maxHeartbeats 1000000 in
theorem RefOf_any (f : Int) (w : World) : Calls Tryd.prog 13 #[.int .i64 f] w (TwoPost (ofS f) w) := by
  by_cases h1 : f < 1
  · have E := Lib.hid (ofS_low h1)
    go_enter Tryd.func13, Tryd.ntmps13
    go_wp2
    go_ret2
    exact ⟨by rw [E.out]; rfl, rfl⟩
  · by_cases h2 : 63 < f
    · have E := Lib.hid (ofS_high h2)
      go_enter Tryd.func13, Tryd.ntmps13
      go_wp2
      go_ret2
      exact ⟨by rw [E.out]; rfl, rfl⟩
    · have E := Lib.hid (ofS_in (show 1 ≤ f by omega) (show f ≤ 63 by omega))
      have W0 := Lib.hid (show Calls Tryd.prog 15 #[.int .i64 0] w (OnePost 2 w) from RefWords_any 0 w)
      have W1 := Lib.hid (show Calls Tryd.prog 15 #[.int .i64 1] w (OnePost 4 w) from RefWords_any 1 w)
      have W2 := Lib.hid (show Calls Tryd.prog 15 #[.int .i64 2] w (OnePost 8 w) from RefWords_any 2 w)
      have h3 : 1 ≤ f := by omega
      have h4 : f ≤ 63 := by omega
      clear h1 h2
      have h1 : ¬ f < 1 := by omega
      have h2 : ¬ 63 < f := by omega
      go_enter Tryd.func13, Tryd.ntmps13
      go_wp2
      go_loop [4] (fun i => (i = .int .i64 0) ∨ (i = .int .i64 1 ∧ 2 < f + 1) ∨ (i = .int .i64 2 ∧ 4 < f + 1) ∨ (i = .int .i64 3 ∧ 8 < f + 1)) (fun i => (3 - intOf i).toNat)
      case atStart => exact .inl rfl
      case round =>
        rcases hrel with rfl | ⟨rfl, g⟩ | ⟨rfl, g⟩ | ⟨rfl, g⟩
        · by_cases q : f + 1 ≤ 2
          · have P := Lib.hid (show posS (f + 1) = 0 from by unfold posS; rw [if_pos q])
            go_wp2_with fail
            refine (W0.out).mono ?_
            rintro e w1 ⟨rfl, rfl⟩
            go_wp2
            go_ret2
            exact ⟨by rw [E.out, P.out]; rfl, rfl⟩
          · go_wp2_with fail
            refine (W0.out).mono ?_
            rintro e w1 ⟨rfl, rfl⟩
            go_wp2
            go_round
            case rel => exact .inr (.inl ⟨rfl, by omega⟩)
            case measure => simp [intOf]
        · by_cases q : f + 1 ≤ 4
          · have P := Lib.hid (show posS (f + 1) = 1 from by unfold posS; rw [if_neg (by omega), if_pos q])
            go_wp2_with fail
            refine (W1.out).mono ?_
            rintro e w1 ⟨rfl, rfl⟩
            go_wp2
            go_ret2
            exact ⟨by rw [E.out, P.out]; rfl, rfl⟩
          · go_wp2_with fail
            refine (W1.out).mono ?_
            rintro e w1 ⟨rfl, rfl⟩
            go_wp2
            go_round
            case rel => exact .inr (.inr (.inl ⟨rfl, by omega⟩))
            case measure => simp [intOf]
        · by_cases q : f + 1 ≤ 8
          · have P := Lib.hid (show posS (f + 1) = 2 from by unfold posS; rw [if_neg (by omega), if_neg (by omega), if_pos q])
            go_wp2_with fail
            refine (W2.out).mono ?_
            rintro e w1 ⟨rfl, rfl⟩
            go_wp2
            go_ret2
            exact ⟨by rw [E.out, P.out]; rfl, rfl⟩
          · go_wp2_with fail
            refine (W2.out).mono ?_
            rintro e w1 ⟨rfl, rfl⟩
            go_wp2
            go_round
            case rel => exact .inr (.inr (.inr ⟨rfl, by omega⟩))
            case measure => simp [intOf]
        · have P := Lib.hid (posS_big (show 8 < f + 1 from g))
          go_wp2
          go_ret2
          exact ⟨by rw [E.out, P.out]; rfl, rfl⟩

set_option maxHeartbeats 1000000 in
theorem RefRun_any (f : Int) (w : World) : Calls Tryd.prog 14 #[.int .i64 f] w (TwoPost (runS f) w) := by
  have K := RefOf_any f w
  by_cases h1 : f < 1
  · rw [ofS_low h1] at K
    have HK := Lib.hid K
    have E := Lib.hid (runS_low h1)
    clear K h1
    go_enter Tryd.func14, Tryd.ntmps14
    go_wp2_with fail
    refine (HK.out).mono ?_
    rintro e w1 ⟨rfl, rfl⟩
    go_wp2
    go_ret2
    exact ⟨by rw [E.out]; rfl, rfl⟩
  · by_cases h2 : 63 < f
    · rw [ofS_high h2] at K
      have HK := Lib.hid K
      have E := Lib.hid (runS_high h2)
      clear K h1 h2
      go_enter Tryd.func14, Tryd.ntmps14
      go_wp2_with fail
      refine (HK.out).mono ?_
      rintro e w1 ⟨rfl, rfl⟩
      go_wp2
      go_ret2
      exact ⟨by rw [E.out]; rfl, rfl⟩
    · rw [ofS_in (by omega) (by omega)] at K
      by_cases h3 : f < 8
      · have hp := (posS_small (show f + 1 ≤ 8 by omega)).2
        have E := Lib.hid (runS_small (show 1 ≤ f by omega) h3)
        generalize posS (f + 1) = p at *
        have HK := Lib.hid K
        have hp' : p < 3 := by omega
        clear K
        go_enter Tryd.func14, Tryd.ntmps14
        go_wp2_with fail
        refine (HK.out).mono ?_
        rintro e w1 ⟨rfl, rfl⟩
        go_wp2
        go_ret2
        exact ⟨by rw [E.out]; rfl, rfl⟩
      · rw [posS_big (show 8 < f + 1 by omega)] at K
        have E := Lib.hid (runS_big (show 8 ≤ f by omega) (show f ≤ 63 by omega))
        have HK := Lib.hid K
        have h4 : 8 ≤ f := by omega
        have h5 : f ≤ 63 := by omega
        clear K h1 h2 h3
        go_enter Tryd.func14, Tryd.ntmps14
        go_wp2_with fail
        refine (HK.out).mono ?_
        rintro e w1 ⟨rfl, rfl⟩
        go_wp2
        go_loop [6] (fun i => ∃ n : Int, i = .int .i64 n ∧ 0 ≤ n ∧ n ≤ f / 16 + 1) (fun i => (f / 16 + 1 - intOf i).toNat)
        case atStart => exact ⟨0, rfl, by decide, by omega⟩
        case round =>
          obtain ⟨n, rfl, n0, n1⟩ := hrel
          have n2 : n ≤ 10 := by omega
          by_cases q : 16 * n < f + 1
          · go_wp2
            go_round
            case rel => exact ⟨n + 1, rfl, by omega, by omega⟩
            case measure => simp [intOf]; omega
          · have P := Lib.hid (show f / 16 + 1 = n by omega)
            go_wp2
            go_ret2
            exact ⟨by rw [E.out, P.out]; rfl, rfl⟩

set_option maxHeartbeats 1000000 in
set_option maxRecDepth 100000 in
theorem sureClassTells (f c : Int) (w : World) (T : Tab w) (hf : InI64 f) (hc : InI64 c) : Calls Tryd.prog 6 #[.int .i64 f, .int .i64 c] w (TruePost w) := by
  have KA := Lib.hid (awake_any w T)
  have K1 := Of_any f w T
  have K2 := RefOf_any f w
  have K3 := Run_any f w T
  have K4 := RefRun_any f w
  have K5 := Words_any c w T
  have K6 := RefWords_any c w
  have K7 := Cells_any c w T
  have K8 := RefCells_any c w
  clear T hf hc
  unfold TwoPost at K1 K2 K3 K4
  generalize (ofS f).1 = o1 at *
  generalize (ofS f).2 = o2 at *
  generalize (runS f).1 = r1 at *
  generalize (runS f).2 = r2 at *
  generalize wordsS c = x at *
  generalize cellsS c = y at *
  have t1 : (o1 == o1) = true := by simp
  have t2 : (o2 == o2) = true := by simp
  have t3 : (r1 == r1) = true := by simp
  have t4 : (r2 == r2) = true := by simp
  have t5 : (x == x) = true := by simp
  have t6 : (y == y) = true := by simp
  have H1 := Lib.hid K1
  have H2 := Lib.hid K2
  have H3 := Lib.hid K3
  have H4 := Lib.hid K4
  have H5 := Lib.hid K5
  have H6 := Lib.hid K6
  have H7 := Lib.hid K7
  have H8 := Lib.hid K8
  clear K1 K2 K3 K4 K5 K6 K7 K8
  go_enter Tryd.func6, Tryd.ntmps6
  go_wp2_with fail
  refine (KA.out).mono ?_
  rintro e w1 ⟨rfl, rfl⟩
  go_wp2_with fail
  refine (H1.out).mono ?_
  rintro e w1 ⟨rfl, rfl⟩
  go_wp2_with fail
  refine (H2.out).mono ?_
  rintro e w1 ⟨rfl, rfl⟩
  go_wp2_with fail
  refine (H3.out).mono ?_
  rintro e w1 ⟨rfl, rfl⟩
  go_wp2_with fail
  refine (H4.out).mono ?_
  rintro e w1 ⟨rfl, rfl⟩
  go_wp2_with fail
  refine (H5.out).mono ?_
  rintro e w1 ⟨rfl, rfl⟩
  go_wp2_with fail
  refine (H6.out).mono ?_
  rintro e w1 ⟨rfl, rfl⟩
  go_wp2_with fail
  refine (H7.out).mono ?_
  rintro e w1 ⟨rfl, rfl⟩
  go_wp2_with fail
  refine (H8.out).mono ?_
  rintro e w1 ⟨rfl, rfl⟩
  go_wp2
  go_ret
  exact ⟨rfl, rfl⟩

end Go.Proofs.YtffdnkgippdidaaDoor.Class
