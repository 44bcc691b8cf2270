/- The walks of arena's functions: part, Get, Page, slices.Clone, Put, Zero and the laws' awake (New, May, At and the reference's plain ones: the kit's print). -/
import Derived.Test.YtglicimbnfamdaaPArenaTellsx1
import Derived.OpenShut
import Derived.Lib.Hide
import Derived.WalkSpells
namespace Go.Proofs.Ytglicimbnfamdaa.Arena
open Go.RowKit Go.Proofs.YtglicimbnfamdaaW.PrintWords Go.Proofs.YtglicimbnfamdaaW.PrintLast Go.Proofs.YtglicimbnfamdaaW.PrintMore
open Go.Proofs.Ytglicimbnfamdaa.PArenaTells
set_option linter.unusedVariables false
set_option linter.unusedSimpArgs false

abbrev Rd (w : World) (A : Option Addr) (l : List Int) : Prop := Kd.C (Kd.int .i64) w A l.length l
abbrev Own (w : World) (base : Nat) (v : Value) (l : List Int) : Prop := Kd.R (Kd.int .i64) 3 w base (fun _ => True) v l

/-- May words be? -/
def mayB (l : List Int) : Bool := decide (l.length % 16 = 0 ∧ 16 ≤ l.length ∧ l.length ≤ 1024)
theorem mayB_true {l : List Int} (h : mayB l = true) : l.length % 16 = 0 ∧ 16 ≤ l.length ∧ l.length ≤ 1024 := by simpa [mayB] using h
theorem May_some (l : List Int) (hl : l.length ≤ 9223372036854775807) : arena_May.f l = some (mayB l) := by
  unfold arena_May.f arena_pages.f mayB
  have e : wrap64 ((l.length : Int) / 16) = (l.length : Int) / 16 := by unfold wrap64; omega
  rw [e]
  by_cases h : ((l.length : Int) % 16) = 0
  · rw [if_pos h]
    have h' : l.length % 16 = 0 := by omega
    by_cases h1 : (l.length : Int) / 16 ≥ 1
    · rw [if_pos h1]
      simp only [Option.bind_some, Option.some.injEq, h', true_and]
      rw [Bool.eq_iff_iff]; simp only [decide_eq_true_eq]; omega
    · rw [if_neg h1]
      simp only [Option.bind_some, Option.some.injEq, h', true_and]
      rw [Bool.eq_iff_iff]; simp only [decide_eq_true_eq]; simp; omega
  · rw [if_neg h]
    have h' : ¬ l.length % 16 = 0 := by omega
    simp [h']
theorem May_any (A : Option Addr) (c : Nat) (l : List Int) (w : World) (hr : Rd w A l) (hc : l.length ≤ c) :
    Calls Try.prog 14 #[.slice A l.length c] w fun e w' => e = .returned (.bool (mayB l)) ∧ Drawn0 w w' :=
  arena_May.calls A c l _ w hr hc (May_some l (Kd.C_max hr))

set_option maxHeartbeats 400000 in
theorem part_bad (A : Option Addr) (c : Nat) (l : List Int) (a n : Int) (w : World) (hr : Rd w A l) (hc : l.length ≤ c) (hm : mayB l = false) :
    Calls Try.prog 27 #[.slice A l.length c, .int .i64 a, .int .i64 n] w fun e w' => e = .returned (.tuple #[.slice none 0 0, .int .i64 1]) ∧ Drawn0 w w' := by
  have H := May_any A c l w hr hc
  rw [hm] at H
  have K := Lib.hid H
  clear H hm hr
  go_enter Try.func27, Try.ntmps27
  go_wp2_with fail
  refine (K.out).mono ?_
  rintro e w1 ⟨rfl, hd⟩
  obtain ⟨m, rfl⟩ := hd.out
  go_wp2
  go_ret2
  exact ⟨rfl, hd⟩

set_option maxHeartbeats 400000 in
theorem part_neg (A : Option Addr) (c : Nat) (l : List Int) (a n : Int) (w : World) (hr : Rd w A l) (hc : l.length ≤ c) (hm : mayB l = true) (hn : n < 0) :
    Calls Try.prog 27 #[.slice A l.length c, .int .i64 a, .int .i64 n] w fun e w' => e = .returned (.tuple #[.slice none 0 0, .int .i64 1]) ∧ Drawn0 w w' := by
  have H := May_any A c l w hr hc
  rw [hm] at H
  have K := Lib.hid H
  clear H hm hr
  go_enter Try.func27, Try.ntmps27
  go_wp2_with fail
  refine (K.out).mono ?_
  rintro e w1 ⟨rfl, hd⟩
  obtain ⟨m, rfl⟩ := hd.out
  go_wp2
  go_ret2
  exact ⟨rfl, hd⟩

set_option maxHeartbeats 400000 in
theorem part_zero (A : Option Addr) (c : Nat) (l : List Int) (a : Int) (w : World) (hr : Rd w A l) (hc : l.length ≤ c) (hm : mayB l = true) :
    Calls Try.prog 27 #[.slice A l.length c, .int .i64 a, .int .i64 0] w fun e w' => e = .returned (.tuple #[.slice none 0 0, .int .i64 0]) ∧ Drawn0 w w' := by
  have H := May_any A c l w hr hc
  rw [hm] at H
  have K := Lib.hid H
  clear H hm hr
  go_enter Try.func27, Try.ntmps27
  go_wp2_with fail
  refine (K.out).mono ?_
  rintro e w1 ⟨rfl, hd⟩
  obtain ⟨m, rfl⟩ := hd.out
  go_wp2
  go_ret2
  exact ⟨rfl, hd⟩

set_option maxHeartbeats 400000 in
theorem part_none (A : Option Addr) (c : Nat) (l : List Int) (a n : Int) (w : World) (hr : Rd w A l) (hc : l.length ≤ c) (hm : mayB l = true) (hn : 0 < n)
    (hq : a < 16 ∨ (16 ≤ a ∧ (l.length : Int) ≤ a - 16) ∨ (16 ≤ a ∧ a - 16 < (l.length : Int) ∧ (l.length : Int) - (a - 16) < n)) (ha : a ≤ 9223372036854775807) :
    Calls Try.prog 27 #[.slice A l.length c, .int .i64 a, .int .i64 n] w fun e w' => e = .returned (.tuple #[.slice none 0 0, .int .i64 3]) ∧ Drawn0 w w' := by
  have hl := (mayB_true hm).2.2
  have H := May_any A c l w hr hc
  rw [hm] at H
  have K := Lib.hid H
  clear H hm hr
  rcases hq with hq | ⟨hq1, hq2⟩ | ⟨hq1, hq2, hq3⟩
  all_goals
    go_enter Try.func27, Try.ntmps27
    go_wp2_with fail
    refine (K.out).mono ?_
    rintro e w1 ⟨rfl, hd⟩
    obtain ⟨m, rfl⟩ := hd.out
    go_wp2
    go_ret2
    exact ⟨rfl, hd⟩

set_option maxHeartbeats 400000 in
theorem part_ok (ad : Addr) (c : Nat) (l : List Int) (a n : Int) (w : World) (hr : Rd w (some ad) l) (hc : l.length ≤ c) (hcm : c ≤ 9223372036854775807) (hm : mayB l = true) (hn : 0 < n) (ha : 16 ≤ a) (hq : a - 16 + n ≤ (l.length : Int)) :
    Calls Try.prog 27 #[.slice (some ad) l.length c, .int .i64 a, .int .i64 n] w fun e w' => e = .returned (.tuple #[.slice (some (ad.add (a - 16).toNat)) n.toNat n.toNat, .int .i64 0]) ∧ Drawn0 w w' := by
  have hl := (mayB_true hm).2.2
  have H := May_any (some ad) c l w hr hc
  rw [hm] at H
  have K := Lib.hid H
  clear H hm hr
  go_enter Try.func27, Try.ntmps27
  go_wp2_with fail
  refine (K.out).mono ?_
  rintro e w1 ⟨rfl, hd⟩
  obtain ⟨m, rfl⟩ := hd.out
  go_wp2
  go_ret2
  exact ⟨rfl, hd⟩

/-- What Get tells. -/
def getS (l : List Int) (a : Int) : Int × Int := if mayB l = false then (0, 1) else if a < 16 ∨ (l.length : Int) ≤ a - 16 then (0, 3) else (rd l (a - 16), 0)
/-- What Page tells. -/
def pageS (l : List Int) (a : Int) : Int × Int := if mayB l = false then (0, 1) else if a < 16 ∨ (l.length : Int) ≤ a - 16 then (0, 3) else (a / 16 - 1, 0)

set_option maxHeartbeats 400000 in
theorem Get_bad (A : Option Addr) (c : Nat) (l : List Int) (a : Int) (w : World) (hr : Rd w A l) (hc : l.length ≤ c) (hm : mayB l = false) :
    Calls Try.prog 18 #[.slice A l.length c, .int .i64 a] w fun e w' => e = .returned (.tuple #[.int .i64 0, .int .i64 1]) ∧ Drawn0 w w' := by
  have K := Lib.hid (part_bad A c l a 1 w hr hc hm)
  clear hm hr
  go_enter Try.func18, Try.ntmps18
  go_wp2_with fail
  refine (K.out).mono ?_
  rintro e w1 ⟨rfl, hd⟩
  obtain ⟨m, rfl⟩ := hd.out
  go_wp2
  go_ret2
  exact ⟨rfl, hd⟩
set_option maxHeartbeats 400000 in
theorem Get_none (A : Option Addr) (c : Nat) (l : List Int) (a : Int) (w : World) (hr : Rd w A l) (hc : l.length ≤ c) (hm : mayB l = true) (ha : a ≤ 9223372036854775807) (hq : a < 16 ∨ (l.length : Int) ≤ a - 16) :
    Calls Try.prog 18 #[.slice A l.length c, .int .i64 a] w fun e w' => e = .returned (.tuple #[.int .i64 0, .int .i64 3]) ∧ Drawn0 w w' := by
  have K := Lib.hid (part_none A c l a 1 w hr hc hm (by decide) (by omega) ha)
  clear hm hr
  go_enter Try.func18, Try.ntmps18
  go_wp2_with fail
  refine (K.out).mono ?_
  rintro e w1 ⟨rfl, hd⟩
  obtain ⟨m, rfl⟩ := hd.out
  go_wp2
  go_ret2
  exact ⟨rfl, hd⟩
theorem add_zero_ (a : Addr) : a.add 0 = a := by unfold Addr.add; simp
set_option maxHeartbeats 400000 in
theorem Get_ok (A : Option Addr) (c : Nat) (l : List Int) (a : Int) (w : World) (hr : Rd w A l) (hc : l.length ≤ c) (hcm : c ≤ 9223372036854775807) (hm : mayB l = true) (ha : 16 ≤ a) (hq : a - 16 < (l.length : Int)) :
    Calls Try.prog 18 #[.slice A l.length c, .int .i64 a] w fun e w' => e = .returned (.tuple #[.int .i64 (rd l (a - 16)), .int .i64 0]) ∧ Drawn0 w w' := by
  obtain ⟨ad, rfl, hcell⟩ := Kd.at_int hr (a - 16) (by omega) hq
  have K := Lib.hid (part_ok ad c l a 1 w hr hc hcm hm (by decide) ha (by omega))
  clear hm hr
  generalize (a - 16).toNat = k at *
  generalize rd l (a - 16) = x at *
  go_enter Try.func18, Try.ntmps18
  go_wp2_with fail
  refine (K.out).mono ?_
  rintro e w1 ⟨rfl, hd⟩
  obtain ⟨m, rfl⟩ := hd.out
  go_wp2
  go_ret2
  exact ⟨rfl, hd⟩
theorem Get_any (A : Option Addr) (c : Nat) (l : List Int) (a : Int) (w : World) (hr : Rd w A l) (hc : l.length ≤ c) (hcm : c ≤ 9223372036854775807) (ha : a ≤ 9223372036854775807) :
    Calls Try.prog 18 #[.slice A l.length c, .int .i64 a] w fun e w' => e = .returned (.tuple #[.int .i64 (getS l a).1, .int .i64 (getS l a).2]) ∧ Drawn0 w w' := by
  unfold getS
  cases hm : mayB l
  · rw [if_pos rfl]; exact Get_bad A c l a w hr hc hm
  · rw [if_neg (by decide)]
    by_cases hq : a < 16 ∨ (l.length : Int) ≤ a - 16
    · rw [if_pos hq]; exact Get_none A c l a w hr hc hm ha hq
    · rw [if_neg hq]; exact Get_ok A c l a w hr hc hcm hm (by omega) (by omega)

set_option maxHeartbeats 400000 in
theorem Page_bad (A : Option Addr) (c : Nat) (l : List Int) (a : Int) (w : World) (hr : Rd w A l) (hc : l.length ≤ c) (hm : mayB l = false) :
    Calls Try.prog 16 #[.slice A l.length c, .int .i64 a] w fun e w' => e = .returned (.tuple #[.int .i64 0, .int .i64 1]) ∧ Drawn0 w w' := by
  have K := Lib.hid (part_bad A c l a 1 w hr hc hm)
  clear hm hr
  go_enter Try.func16, Try.ntmps16
  go_wp2_with fail
  refine (K.out).mono ?_
  rintro e w1 ⟨rfl, hd⟩
  obtain ⟨m, rfl⟩ := hd.out
  go_wp2
  go_ret2
  exact ⟨rfl, hd⟩
set_option maxHeartbeats 400000 in
theorem Page_none (A : Option Addr) (c : Nat) (l : List Int) (a : Int) (w : World) (hr : Rd w A l) (hc : l.length ≤ c) (hm : mayB l = true) (ha : a ≤ 9223372036854775807) (hq : a < 16 ∨ (l.length : Int) ≤ a - 16) :
    Calls Try.prog 16 #[.slice A l.length c, .int .i64 a] w fun e w' => e = .returned (.tuple #[.int .i64 0, .int .i64 3]) ∧ Drawn0 w w' := by
  have K := Lib.hid (part_none A c l a 1 w hr hc hm (by decide) (by omega) ha)
  clear hm hr
  go_enter Try.func16, Try.ntmps16
  go_wp2_with fail
  refine (K.out).mono ?_
  rintro e w1 ⟨rfl, hd⟩
  obtain ⟨m, rfl⟩ := hd.out
  go_wp2
  go_ret2
  exact ⟨rfl, hd⟩
set_option maxHeartbeats 400000 in
theorem Page_ok (A : Option Addr) (c : Nat) (l : List Int) (a : Int) (w : World) (hr : Rd w A l) (hc : l.length ≤ c) (hcm : c ≤ 9223372036854775807) (hm : mayB l = true) (ha : 16 ≤ a) (hq : a - 16 < (l.length : Int)) :
    Calls Try.prog 16 #[.slice A l.length c, .int .i64 a] w fun e w' => e = .returned (.tuple #[.int .i64 (a / 16 - 1), .int .i64 0]) ∧ Drawn0 w w' := by
  have hl := (mayB_true hm).2.2
  obtain ⟨ad, rfl, hcell⟩ := Kd.at_int hr (a - 16) (by omega) hq
  have K := Lib.hid (part_ok ad c l a 1 w hr hc hcm hm (by decide) ha (by omega))
  clear hm hr
  have h0 : 0 ≤ a := by omega
  have h1 : a ≤ 2000 := by omega
  go_enter Try.func16, Try.ntmps16
  go_wp2_with fail
  refine (K.out).mono ?_
  rintro e w1 ⟨rfl, hd⟩
  obtain ⟨m, rfl⟩ := hd.out
  go_wp2
  go_ret2
  exact ⟨rfl, hd⟩
theorem Page_any (A : Option Addr) (c : Nat) (l : List Int) (a : Int) (w : World) (hr : Rd w A l) (hc : l.length ≤ c) (hcm : c ≤ 9223372036854775807) (ha : a ≤ 9223372036854775807) :
    Calls Try.prog 16 #[.slice A l.length c, .int .i64 a] w fun e w' => e = .returned (.tuple #[.int .i64 (pageS l a).1, .int .i64 (pageS l a).2]) ∧ Drawn0 w w' := by
  unfold pageS
  cases hm : mayB l
  · rw [if_pos rfl]; exact Page_bad A c l a w hr hc hm
  · rw [if_neg (by decide)]
    by_cases hq : a < 16 ∨ (l.length : Int) ≤ a - 16
    · rw [if_pos hq]; exact Page_none A c l a w hr hc hm ha hq
    · rw [if_neg hq]; exact Page_ok A c l a w hr hc hcm hm (by omega) (by omega)

end Go.Proofs.Ytglicimbnfamdaa.Arena
