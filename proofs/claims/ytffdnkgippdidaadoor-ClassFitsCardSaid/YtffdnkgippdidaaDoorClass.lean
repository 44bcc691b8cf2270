/- The walks of class's functions, over the table's three cells: BinarySearch, Of, Words, Cells, Run, and the laws' awake. -/
import Derived.Test.YtffdnkgippdidaaDoorRows
import Derived.WalkKit
import Derived.WalkSpells
import Derived.OpenShut
import Derived.Lib.Hide
namespace Go.Proofs.YtffdnkgippdidaaDoor.Class
open Go.RowKit
set_option linter.unusedVariables false
set_option linter.unusedSimpArgs false

/-- The table's cells. -/
structure Tab (w : World) : Prop where
  c0 : w.cell? ⟨0, 0, none⟩ = some (.int .i64 2)
  c1 : w.cell? ⟨0, 1, none⟩ = some (.int .i64 4)
  c2 : w.cell? ⟨0, 2, none⟩ = some (.int .i64 8)

/-- The first of the three sizes that has room. -/
def posS (t : Int) : Int := if t ≤ 2 then 0 else if t ≤ 4 then 1 else if t ≤ 8 then 2 else 3
def ofS (f : Int) : Int × Int := if f < 1 then (0, 1) else if 63 < f then (0, 2) else (posS (f + 1), 0)
def wordsS (c : Int) : Int := if c = 0 then 2 else if c = 1 then 4 else if c = 2 then 8 else 0
def cellsS (c : Int) : Int := if c = 0 then 8 else if c = 1 then 4 else if c = 2 then 2 else 0
def runS (f : Int) : Int × Int := if f < 1 then (0, 1) else if 63 < f then (0, 2) else if f < 8 then (0, 3) else (f / 16 + 1, 0)

theorem isNaN (x : Int) (w : World) : Calls Tryd.prog 20 #[.int .i64 x] w fun e w' => e = .returned (.bool false) ∧ w = w' := by
  have t : (x != x) = false := by simp
  go_enter Tryd.func20, Tryd.ntmps20
  go_wp2
  go_ret
  exact ⟨rfl, rfl⟩
theorem cmpNaN (x : Int) (w : World) : Calls Tryd.prog 21 #[.int .i64 x] w fun e w' => e = .returned (.bool false) ∧ w = w' := by
  have t : (x != x) = false := by simp
  go_enter Tryd.func21, Tryd.ntmps21
  go_wp2
  go_ret
  exact ⟨rfl, rfl⟩
theorem Less (x y : Int) (w : World) : Calls Tryd.prog 19 #[.int .i64 x, .int .i64 y] w fun e w' => e = .returned (.bool (decide (x < y))) ∧ w = w' := by
  go_enter Tryd.func19, Tryd.ntmps19
  go_wp2_with fail
  refine (cmpNaN x w).mono ?_
  rintro e w1 ⟨rfl, rfl⟩
  go_wp2
  go_ret
  exact ⟨rfl, rfl⟩

/-- The post of BinarySearch. -/
def BsPost (t : Int) (w : World) (e : Ending) (w' : World) : Prop := (∃ b : Bool, e = .returned (.tuple #[.int .i64 (posS t), .bool b])) ∧ w = w'
set_option maxHeartbeats 1000000 in
theorem Search (t : Int) (h0 : 2 ≤ t) (h1 : t ≤ 64) (w : World) (T : Tab w) : Calls Tryd.prog 18 #[.slice (some ⟨0, 0, none⟩) 3 3, .int .i64 t] w (BsPost t w) := by
  have c0 := T.c0
  have c1 := T.c1
  have c2 := T.c2
  clear T
  go_enter Tryd.func18, Tryd.ntmps18
  go_wp2
  go_loop [7, 8] (fun i j => (i = .int .i64 0 ∧ j = .int .i64 3) ∨ (i = .int .i64 0 ∧ j = .int .i64 1 ∧ t ≤ 4) ∨ (i = .int .i64 2 ∧ j = .int .i64 3 ∧ 4 < t) ∨ (i = .int .i64 0 ∧ j = .int .i64 0 ∧ t ≤ 2) ∨ (i = .int .i64 1 ∧ j = .int .i64 1 ∧ 2 < t ∧ t ≤ 4) ∨ (i = .int .i64 2 ∧ j = .int .i64 2 ∧ 4 < t ∧ t ≤ 8) ∨ (i = .int .i64 3 ∧ j = .int .i64 3 ∧ 8 < t)) (fun i j => (intOf j - intOf i).toNat)
  case atStart => exact .inl ⟨rfl, rfl⟩
  case round =>
    rcases hrel with ⟨rfl, rfl⟩ | ⟨rfl, rfl, h⟩ | ⟨rfl, rfl, h⟩ | ⟨rfl, rfl, h⟩ | ⟨rfl, rfl, h, h'⟩ | ⟨rfl, rfl, h, h'⟩ | ⟨rfl, rfl, h⟩
    · by_cases g : 4 < t
      · have L := Less 4 t w
        rw [decide_eq_true g] at L
        have HL := Lib.hid L
        clear L
        go_wp2_with fail
        refine (HL.out).mono ?_
        rintro e w1 ⟨rfl, rfl⟩
        go_wp2
        go_round
        case rel => exact .inr (.inr (.inl ⟨rfl, rfl, g⟩))
        case measure => simp [intOf]
      · have L := Less 4 t w
        rw [decide_eq_false g] at L
        have HL := Lib.hid L
        clear L
        go_wp2_with fail
        refine (HL.out).mono ?_
        rintro e w1 ⟨rfl, rfl⟩
        go_wp2
        go_round
        case rel => exact .inr (.inl ⟨rfl, rfl, by omega⟩)
        case measure => simp [intOf]
    · by_cases g : 2 < t
      · have L := Less 2 t w
        rw [decide_eq_true g] at L
        have HL := Lib.hid L
        clear L
        go_wp2_with fail
        refine (HL.out).mono ?_
        rintro e w1 ⟨rfl, rfl⟩
        go_wp2
        go_round
        case rel => exact .inr (.inr (.inr (.inr (.inl ⟨rfl, rfl, g, h⟩))))
        case measure => simp [intOf]
      · have L := Less 2 t w
        rw [decide_eq_false g] at L
        have HL := Lib.hid L
        clear L
        go_wp2_with fail
        refine (HL.out).mono ?_
        rintro e w1 ⟨rfl, rfl⟩
        go_wp2
        go_round
        case rel => exact .inr (.inr (.inr (.inl ⟨rfl, rfl, by omega⟩)))
        case measure => simp [intOf]
    · by_cases g : 8 < t
      · have L := Less 8 t w
        rw [decide_eq_true g] at L
        have HL := Lib.hid L
        clear L
        go_wp2_with fail
        refine (HL.out).mono ?_
        rintro e w1 ⟨rfl, rfl⟩
        go_wp2
        go_round
        case rel => exact .inr (.inr (.inr (.inr (.inr (.inr ⟨rfl, rfl, g⟩)))))
        case measure => simp [intOf]
      · have L := Less 8 t w
        rw [decide_eq_false g] at L
        have HL := Lib.hid L
        clear L
        go_wp2_with fail
        refine (HL.out).mono ?_
        rintro e w1 ⟨rfl, rfl⟩
        go_wp2
        go_round
        case rel => exact .inr (.inr (.inr (.inr (.inr (.inl ⟨rfl, rfl, h, by omega⟩)))))
        case measure => simp [intOf]
    · have E := Lib.hid (show posS t = 0 from by unfold posS; rw [if_pos h])
      have g : (2 == t) = true := by simp; omega
      go_wp2
      go_ret2
      exact ⟨⟨true, by rw [E.out]; rfl⟩, rfl⟩
    · have E := Lib.hid (show posS t = 1 from by unfold posS; rw [if_neg (by omega), if_pos h'])
      by_cases g : t = 4
      · have g' : (4 == t) = true := by simp; omega
        clear g
        go_wp2
        go_ret2
        exact ⟨⟨true, by rw [E.out]; rfl⟩, rfl⟩
      · have g' : (4 == t) = false := by simp; omega
        clear g
        go_wp2_with fail
        refine (isNaN 4 w).mono ?_
        rintro e w1 ⟨rfl, rfl⟩
        go_wp2
        go_ret2
        exact ⟨⟨false, by rw [E.out]; rfl⟩, rfl⟩
    · have E := Lib.hid (show posS t = 2 from by unfold posS; rw [if_neg (by omega), if_neg (by omega), if_pos h'])
      by_cases g : t = 8
      · have g' : (8 == t) = true := by simp; omega
        clear g
        go_wp2
        go_ret2
        exact ⟨⟨true, by rw [E.out]; rfl⟩, rfl⟩
      · have g' : (8 == t) = false := by simp; omega
        clear g
        go_wp2_with fail
        refine (isNaN 8 w).mono ?_
        rintro e w1 ⟨rfl, rfl⟩
        go_wp2
        go_ret2
        exact ⟨⟨false, by rw [E.out]; rfl⟩, rfl⟩
    · have E := Lib.hid (show posS t = 3 from by unfold posS; rw [if_neg (by omega), if_neg (by omega), if_neg (by omega)])
      go_wp2
      go_ret2
      exact ⟨⟨false, by rw [E.out]; rfl⟩, rfl⟩

/-- A class, and OK (or an error). -/
def TwoPost (r : Int × Int) (w : World) (e : Ending) (w' : World) : Prop := e = .returned (.tuple #[.int .i64 r.1, .int .i64 r.2]) ∧ w = w'
def OnePost (r : Int) (w : World) (e : Ending) (w' : World) : Prop := e = .returned (.int .i64 r) ∧ w = w'

set_option maxHeartbeats 400000 in
theorem Of_any (f : Int) (w : World) (T : Tab w) : Calls Tryd.prog 10 #[.int .i64 f] w (TwoPost (ofS f) w) := by
  by_cases h1 : f < 1
  · have E := Lib.hid (show ofS f = (0, 1) from by unfold ofS; rw [if_pos h1])
    clear T
    go_enter Tryd.func10, Tryd.ntmps10
    go_wp2
    go_ret2
    exact ⟨by rw [E.out]; rfl, rfl⟩
  · by_cases h2 : 63 < f
    · have E := Lib.hid (show ofS f = (0, 2) from by unfold ofS; rw [if_neg h1, if_pos h2])
      clear T
      go_enter Tryd.func10, Tryd.ntmps10
      go_wp2
      go_ret2
      exact ⟨by rw [E.out]; rfl, rfl⟩
    · have E := Lib.hid (show ofS f = (posS (f + 1), 0) from by unfold ofS; rw [if_neg h1, if_neg h2])
      have K := Lib.hid (Search (f + 1) (by omega) (by omega) w T)
      clear T
      go_enter Tryd.func10, Tryd.ntmps10
      go_wp2_with fail
      refine (K.out).mono ?_
      rintro e w1 ⟨⟨b, rfl⟩, rfl⟩
      go_wp2
      go_ret2
      exact ⟨by rw [E.out]; rfl, rfl⟩

set_option maxHeartbeats 400000 in
theorem Words_any (c : Int) (w : World) (T : Tab w) : Calls Tryd.prog 12 #[.int .i64 c] w (OnePost (wordsS c) w) := by
  have c0 := T.c0
  have c1 := T.c1
  have c2 := T.c2
  clear T
  by_cases h0 : c < 0
  · have E := Lib.hid (show wordsS c = 0 from by unfold wordsS; rw [if_neg (by omega), if_neg (by omega), if_neg (by omega)])
    go_enter Tryd.func12, Tryd.ntmps12
    go_wp2
    go_ret
    exact ⟨by rw [E.out]; rfl, rfl⟩
  · by_cases h3 : 3 ≤ c
    · have E := Lib.hid (show wordsS c = 0 from by unfold wordsS; rw [if_neg (by omega), if_neg (by omega), if_neg (by omega)])
      go_enter Tryd.func12, Tryd.ntmps12
      go_wp2
      go_ret
      exact ⟨by rw [E.out]; rfl, rfl⟩
    · have hc : c = 0 ∨ c = 1 ∨ c = 2 := by omega
      clear h0 h3
      rcases hc with rfl | rfl | rfl
      · go_enter Tryd.func12, Tryd.ntmps12
        go_wp2
        go_ret
        exact ⟨rfl, rfl⟩
      · go_enter Tryd.func12, Tryd.ntmps12
        go_wp2
        go_ret
        exact ⟨rfl, rfl⟩
      · go_enter Tryd.func12, Tryd.ntmps12
        go_wp2
        go_ret
        exact ⟨rfl, rfl⟩

set_option maxHeartbeats 400000 in
theorem Cells_any (c : Int) (w : World) (T : Tab w) : Calls Tryd.prog 16 #[.int .i64 c] w (OnePost (cellsS c) w) := by
  have K := Words_any c w T
  clear T
  by_cases hc : c = 0 ∨ c = 1 ∨ c = 2
  · rcases hc with rfl | rfl | rfl
    · have HK := Lib.hid K
      clear K
      go_enter Tryd.func16, Tryd.ntmps16
      go_wp2_with fail
      refine (HK.out).mono ?_
      rintro e w1 ⟨rfl, rfl⟩
      rw [show wordsS 0 = 2 from rfl]
      go_wp2
      go_ret
      exact ⟨rfl, rfl⟩
    · have HK := Lib.hid K
      clear K
      go_enter Tryd.func16, Tryd.ntmps16
      go_wp2_with fail
      refine (HK.out).mono ?_
      rintro e w1 ⟨rfl, rfl⟩
      rw [show wordsS 1 = 4 from rfl]
      go_wp2
      go_ret
      exact ⟨rfl, rfl⟩
    · have HK := Lib.hid K
      clear K
      go_enter Tryd.func16, Tryd.ntmps16
      go_wp2_with fail
      refine (HK.out).mono ?_
      rintro e w1 ⟨rfl, rfl⟩
      rw [show wordsS 2 = 8 from rfl]
      go_wp2
      go_ret
      exact ⟨rfl, rfl⟩
  · have E1 : wordsS c = 0 := by unfold wordsS; rw [if_neg (by omega), if_neg (by omega), if_neg (by omega)]
    have E := Lib.hid (show cellsS c = 0 from by unfold cellsS; rw [if_neg (by omega), if_neg (by omega), if_neg (by omega)])
    rw [E1] at K
    have HK := Lib.hid K
    clear K E1 hc
    go_enter Tryd.func16, Tryd.ntmps16
    go_wp2_with fail
    refine (HK.out).mono ?_
    rintro e w1 ⟨rfl, rfl⟩
    go_wp2
    go_ret
    exact ⟨by rw [E.out]; rfl, rfl⟩

set_option maxHeartbeats 400000 in
theorem Run_any (f : Int) (w : World) (T : Tab w) : Calls Tryd.prog 11 #[.int .i64 f] w (TwoPost (runS f) w) := by
  have K := Of_any f w T
  clear T
  by_cases h1 : f < 1
  · rw [show ofS f = (0, 1) from by unfold ofS; rw [if_pos h1]] at K
    have HK := Lib.hid K
    have E := Lib.hid (show runS f = (0, 1) from by unfold runS; rw [if_pos h1])
    clear K h1
    go_enter Tryd.func11, Tryd.ntmps11
    go_wp2_with fail
    refine (HK.out).mono ?_
    rintro e w1 ⟨rfl, rfl⟩
    go_wp2
    go_ret2
    exact ⟨by rw [E.out]; rfl, rfl⟩
  · by_cases h2 : 63 < f
    · rw [show ofS f = (0, 2) from by unfold ofS; rw [if_neg h1, if_pos h2]] at K
      have HK := Lib.hid K
      have E := Lib.hid (show runS f = (0, 2) from by unfold runS; rw [if_neg h1, if_pos h2])
      clear K h1 h2
      go_enter Tryd.func11, Tryd.ntmps11
      go_wp2_with fail
      refine (HK.out).mono ?_
      rintro e w1 ⟨rfl, rfl⟩
      go_wp2
      go_ret2
      exact ⟨by rw [E.out]; rfl, rfl⟩
    · rw [show ofS f = (posS (f + 1), 0) from by unfold ofS; rw [if_neg h1, if_neg h2]] at K
      by_cases h3 : f < 8
      · have hp : posS (f + 1) < 3 := by unfold posS; (repeat' split) <;> omega
        have E := Lib.hid (show runS f = (0, 3) from by unfold runS; rw [if_neg h1, if_neg h2, if_pos h3])
        generalize posS (f + 1) = p at *
        have HK := Lib.hid K
        clear K
        go_enter Tryd.func11, Tryd.ntmps11
        go_wp2_with fail
        refine (HK.out).mono ?_
        rintro e w1 ⟨rfl, rfl⟩
        go_wp2
        go_ret2
        exact ⟨by rw [E.out]; rfl, rfl⟩
      · rw [show posS (f + 1) = 3 from by unfold posS; rw [if_neg (by omega), if_neg (by omega), if_neg (by omega)]] at K
        have E := Lib.hid (show runS f = (f / 16 + 1, 0) from by unfold runS; rw [if_neg h1, if_neg h2, if_neg h3])
        have HK := Lib.hid K
        have h4 : 0 ≤ f := by omega
        have h5 : f ≤ 63 := by omega
        clear K
        go_enter Tryd.func11, Tryd.ntmps11
        go_wp2_with fail
        refine (HK.out).mono ?_
        rintro e w1 ⟨rfl, rfl⟩
        go_wp2
        go_ret2
        exact ⟨by rw [E.out]; rfl, rfl⟩

set_option maxHeartbeats 400000 in
set_option maxRecDepth 100000 in
theorem awake_any (w : World) (T : Tab w) : Calls Tryd.prog 9 #[] w fun e w' => e = .returned (.bool true) ∧ w = w' := by
  have K1 := Lib.hid (show Calls Tryd.prog 10 #[.int .i64 3] w (TwoPost (1, 0) w) from Of_any 3 w T)
  have K2 := Lib.hid (show Calls Tryd.prog 10 #[.int .i64 7] w (TwoPost (2, 0) w) from Of_any 7 w T)
  have K3 := Lib.hid (show Calls Tryd.prog 11 #[.int .i64 8] w (TwoPost (1, 0) w) from Run_any 8 w T)
  have K4 := Lib.hid (show Calls Tryd.prog 11 #[.int .i64 16] w (TwoPost (2, 0) w) from Run_any 16 w T)
  clear T
  go_enter Tryd.func9, Tryd.ntmps9
  go_wp2_with fail
  refine (K1.out).mono ?_
  rintro e w1 ⟨rfl, rfl⟩
  go_wp2_with fail
  refine (K2.out).mono ?_
  rintro e w1 ⟨rfl, rfl⟩
  go_wp2_with fail
  refine (K3.out).mono ?_
  rintro e w1 ⟨rfl, rfl⟩
  go_wp2_with fail
  refine (K4.out).mono ?_
  rintro e w1 ⟨rfl, rfl⟩
  go_wp2
  go_ret
  exact ⟨rfl, rfl⟩

end Go.Proofs.YtffdnkgippdidaaDoor.Class
